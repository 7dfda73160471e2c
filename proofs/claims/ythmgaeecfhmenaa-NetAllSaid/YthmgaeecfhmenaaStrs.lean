/- Rows of bytes as strings, in a world that has drawn. No condition. -/
import Derived.Test.YthmgaeecfhmenaaPrint0
namespace Go.Proofs.Ythmgaeecfhmenaa.Print
set_option linter.unusedVariables false
open Go.RowKit Go.Proofs.YthmgaeecfhmenaaW.PrintWords Go.Proofs.YthmgaeecfhmenaaW.PrintLast Go.Proofs.YthmgaeecfhmenaaW.PrintMore
/-- A shared slice of bytes as a string. -/
theorem V_string {P : Program} {w : World} {base e' : Nat} {ok : Nat → Prop} {src dst e : TypeId} {v : Value} {xs : List Int} (hs : P.underlying src = some (.slice e)) (he : P.underlying e = some (.int .u8)) (hd : P.underlying dst = some .string)
    (h : Kd.V (Kd.int .u8) e' w base ok v xs) : (convert src dst v).run P w = .ok (.string (strOfNums xs)) w := by
  obtain ⟨A, c, rfl, hl, hF⟩ := h
  exact Kd.C_string (P := P) (A := A) (c := c) hs he hd (Kd.F_now hF)
theorem V_string_d {P : Program} {w : World} {base e' : Nat} {ok : Nat → Prop} {src dst e : TypeId} {v : Value} {xs : List Int} (hs : P.underlying src = some (.slice e)) (he : P.underlying e = some (.int .u8)) (hd : P.underlying dst = some .string)
    (h : Kd.V (Kd.int .u8) e' w base ok v xs) : ∀ m : Nat, (convert src dst v).run P (w.drewN m) = .ok (.string (strOfNums xs)) (w.drewN m) := fun m => V_string hs he hd (Kd.V_drewN h m)
theorem own_string_d {P : Program} {w : World} {base e' : Nat} {ok : Nat → Prop} {src dst e : TypeId} {v : Value} {xs : List Int} (hs : P.underlying src = some (.slice e)) (he : P.underlying e = some (.int .u8)) (hd : P.underlying dst = some .string)
    (h : Kd.R (Kd.int .u8) e' w base ok v xs) : ∀ m : Nat, (convert src dst v).run P (w.drewN m) = .ok (.string (strOfNums xs)) (w.drewN m) := fun m => own_string hs he hd (Kd.own_of_R (Kd.R_drewN h m))
end Go.Proofs.Ythmgaeecfhmenaa.Print
