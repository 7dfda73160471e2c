/- Rows of bytes as strings, in a world that has drawn. No condition. -/
import Derived.Test.YthmgaeecfhmenaaPrint0
namespace Go.Proofs.Ythmgaeecfhmenaa.Print
set_option linter.unusedVariables false
open Go.RowKit Go.Proofs.YthmgaeecfhmenaaW.PrintWords Go.Proofs.YthmgaeecfhmenaaW.PrintLast Go.Proofs.YthmgaeecfhmenaaW.PrintMore
/-- A shared slice of bytes as a string. -/
theorem V_string {P : Program} {w : World} {base e' : Nat} {ok : Nat → Prop} {src dst e : TypeId} {v : Value} {xs : List Int} (hs : P.underlying src = some (.slice e)) (he : P.underlying e = some (.int .u8)) (hd : P.underlying dst = some .string)
    (h : Kd.V (Kd.int .u8) e' w base ok v xs) : (convert src dst v).run P w = .ok (.string (strOfNums xs)) w := by
  obtain ⟨A, c, rfl, hl, hF⟩ := h
  exact Kd.C_string (P := P) (A := A) (c := c) hs he hd (Kd.F_now hF)
theorem V_string_d {P : Program} {w : World} {base e' : Nat} {ok : Nat → Prop} {src dst e : TypeId} {v : Value} {xs : List Int} (hs : P.underlying src = some (.slice e)) (he : P.underlying e = some (.int .u8)) (hd : P.underlying dst = some .string)
    (h : Kd.V (Kd.int .u8) e' w base ok v xs) : ∀ m : Nat, (convert src dst v).run P (w.drewN m) = .ok (.string (strOfNums xs)) (w.drewN m) := fun m => V_string hs he hd (Kd.V_drewN h m)
theorem own_string_d {P : Program} {w : World} {base e' : Nat} {ok : Nat → Prop} {src dst e : TypeId} {v : Value} {xs : List Int} (hs : P.underlying src = some (.slice e)) (he : P.underlying e = some (.int .u8)) (hd : P.underlying dst = some .string)
    (h : Kd.R (Kd.int .u8) e' w base ok v xs) : ∀ m : Nat, (convert src dst v).run P (w.drewN m) = .ok (.string (strOfNums xs)) (w.drewN m) := fun m => own_string hs he hd (Kd.own_of_R (Kd.R_drewN h m))
/-- The same behind three cells of a new box. -/
theorem V_string_s {P : Program} {w : World} {base e' g : Nat} {ok : Nat → Prop} {src dst e : TypeId} {v : Value} {xs : List Int} (hs : P.underlying src = some (.slice e)) (he : P.underlying e = some (.int .u8)) (hd : P.underlying dst = some .string)
    (h : Kd.V (Kd.int .u8) e' w base (fun k => ok k ∧ k ≠ g) v xs) : ∀ (u0 u1 u2 : Value) (m : Nat), (convert src dst v).run P ((((w.setCell ⟨g, 0, none⟩ u0).setCell ⟨g, 1, none⟩ u1).setCell ⟨g, 2, none⟩ u2).drewN m) = .ok (.string (strOfNums xs)) ((((w.setCell ⟨g, 0, none⟩ u0).setCell ⟨g, 1, none⟩ u1).setCell ⟨g, 2, none⟩ u2).drewN m) :=
  fun u0 u1 u2 m => V_string hs he hd (Kd.V_drewN (Kd.V_far (Kd.V_far (Kd.V_far h (p := ⟨g, 0, none⟩) (fun _ h => h.2) u0) (p := ⟨g, 1, none⟩) (fun _ h => h.2) u1) (p := ⟨g, 2, none⟩) (fun _ h => h.2) u2) m)
theorem V_string_t {P : Program} {w : World} {base e' g : Nat} {ok : Nat → Prop} {src dst e : TypeId} {v : Value} {xs : List Int} (hs : P.underlying src = some (.slice e)) (he : P.underlying e = some (.int .u8)) (hd : P.underlying dst = some .string)
    (h : Kd.V (Kd.int .u8) e' w base (fun k => ok k ∧ k ≠ g) v xs) : ∀ (u0 u1 u2 : Value), (convert src dst v).run P (((w.setCell ⟨g, 0, none⟩ u0).setCell ⟨g, 1, none⟩ u1).setCell ⟨g, 2, none⟩ u2) = .ok (.string (strOfNums xs)) (((w.setCell ⟨g, 0, none⟩ u0).setCell ⟨g, 1, none⟩ u1).setCell ⟨g, 2, none⟩ u2) :=
  fun u0 u1 u2 => V_string hs he hd (Kd.V_far (Kd.V_far (Kd.V_far h (p := ⟨g, 0, none⟩) (fun _ h => h.2) u0) (p := ⟨g, 1, none⟩) (fun _ h => h.2) u1) (p := ⟨g, 2, none⟩) (fun _ h => h.2) u2)
theorem C_string_s {P : Program} {w W : World} {g n c : Nat} {A : Option Addr} {src dst e : TypeId} {xs : List Int} (hs : P.underlying src = some (.slice e)) (he : P.underlying e = some (.int .u8)) (hd : P.underlying dst = some .string)
    (h : Kd.C (Kd.int .u8) w A n xs) (hb : Below w.heap.size w W) (hg : w.heap.size ≤ g) : ∀ (u0 u1 u2 : Value) (m : Nat), (convert src dst (.slice A n c)).run P ((((W.setCell ⟨g, 0, none⟩ u0).setCell ⟨g, 1, none⟩ u1).setCell ⟨g, 2, none⟩ u2).drewN m) = .ok (.string (strOfNums xs)) ((((W.setCell ⟨g, 0, none⟩ u0).setCell ⟨g, 1, none⟩ u1).setCell ⟨g, 2, none⟩ u2).drewN m) :=
  fun u0 u1 u2 m => Kd.C_string (P := P) (A := A) (c := c) hs he hd (Kd.C_below h (pw_below_drewN (below_set (below_set (below_set hb hg) hg) hg) m))
theorem C_string_t {P : Program} {w W : World} {g n c : Nat} {A : Option Addr} {src dst e : TypeId} {xs : List Int} (hs : P.underlying src = some (.slice e)) (he : P.underlying e = some (.int .u8)) (hd : P.underlying dst = some .string)
    (h : Kd.C (Kd.int .u8) w A n xs) (hb : Below w.heap.size w W) (hg : w.heap.size ≤ g) : ∀ (u0 u1 u2 : Value), (convert src dst (.slice A n c)).run P (((W.setCell ⟨g, 0, none⟩ u0).setCell ⟨g, 1, none⟩ u1).setCell ⟨g, 2, none⟩ u2) = .ok (.string (strOfNums xs)) (((W.setCell ⟨g, 0, none⟩ u0).setCell ⟨g, 1, none⟩ u1).setCell ⟨g, 2, none⟩ u2) :=
  fun u0 u1 u2 => Kd.C_string (P := P) (A := A) (c := c) hs he hd (Kd.C_below h (below_set (below_set (below_set hb hg) hg) hg))
end Go.Proofs.Ythmgaeecfhmenaa.Print
