/- Rows of bytes as strings, in a world that has drawn. No condition. -/
import Derived.Test.YtieolhhokepkjaaDoorProg
import Derived.Below
import Derived.Deep.Draws
import Derived.Deep.AppendLies
import Derived.Maps.AppendAt
import Derived.OwnWalk
import Derived.Laws.BytesArg
import Derived.Laws.MakeOwn
import Derived.Laws.OwnMore
import Derived.Deep.OwnRows
import Derived.Tactics
import Derived.Lib.ConvBytes
import Derived.Laws.Slices
import Derived.WalkKit
import Derived.KernelRfl
import Derived.RowKit3
import Derived.Deep.LoopGhost
import Derived.Deep.QuietTactic
import Derived.BigQuiet
import Derived.WideLaws
import Derived.Deep.DeepCutAuto
import Derived.Deep.CutBlock
import Derived.Deep.RegionHeld3
import Derived.Laws.Rows
import Derived.Lib.AppendStr
import Derived.ArgAppend
import Derived.Laws.IdiomCopy
import Derived.OrdersHeld
import Derived.Laws.BitsLemmas
import Derived.RowKit
import Derived.Test.YtieolhhokepkjaaDoorWWords
import Derived.Test.YtieolhhokepkjaaDoorWLast
import Derived.Test.YtieolhhokepkjaaDoorWTab
import Derived.Test.YtieolhhokepkjaaDoorWFour
import Derived.Test.YtieolhhokepkjaaDoorWQPut
import Derived.Test.YtieolhhokepkjaaDoorWApart
import Derived.Test.YtieolhhokepkjaaDoorWArr
import Derived.Test.YtieolhhokepkjaaDoorWZeros
import Derived.Test.YtieolhhokepkjaaDoorWFoot
import Derived.Test.YtieolhhokepkjaaDoorWKept
import Derived.Test.YtieolhhokepkjaaDoorWShare
import Derived.Test.YtieolhhokepkjaaDoorWN
import Derived.Test.YtieolhhokepkjaaDoorWFootNe
import Derived.Test.YtieolhhokepkjaaDoorWAt
import Derived.Test.YtieolhhokepkjaaDoorWEqStruct
import Derived.Test.YtieolhhokepkjaaDoorWRepsOne
import Derived.Test.YtieolhhokepkjaaDoorWInv
import Derived.Test.YtieolhhokepkjaaDoorWInvWords
import Derived.Test.YtieolhhokepkjaaDoorWGuard
import Derived.Test.YtieolhhokepkjaaDoorWNEv
import Derived.Test.YtieolhhokepkjaaDoorWMore
namespace Go.Proofs.YtieolhhokepkjaaDoor.Print
open Go.Proofs.YtieolhhokepkjaaDoorW.PrintWords
theorem sq1 {α : Type _} (l : List α) (i : Nat) (a : α) : l.toArray.setIfInBounds i a = (l.set i a).toArray := by simp
theorem sq2 {α : Type _} (a b : α) (l : List α) : (a :: l).set 0 b = b :: l := rfl
theorem sq3 {α : Type _} (a b : α) (l : List α) (n : Nat) : (a :: l).set (n + 1) b = a :: l.set n b := rfl
theorem ak {p : Prop} (h : p) : Aside0 p := ⟨h⟩
end Go.Proofs.YtieolhhokepkjaaDoor.Print
namespace Go.Proofs.YtieolhhokepkjaaDoor.Print
open Go.RowKit Go.Proofs.YtieolhhokepkjaaDoorW.PrintWords Go.Proofs.YtieolhhokepkjaaDoorW.PrintLast Go.Proofs.YtieolhhokepkjaaDoorW.PrintMore
attribute [local go_sem] max2_int min2_int max_two min_two max_three min_three max_four min_four
set_option linter.unusedVariables false
set_option linter.unusedSimpArgs false
def errW : Option Int → Value
 | none => .nilIface
 | some c => .iface 0 (.int .i64 c)
theorem errW_none : errW none = .nilIface := rfl
theorem errW_some (c : Int) : errW (some c) = .iface 0 (.int .i64 c) := rfl
theorem info3 : (Tryd.prog.info? 3).map (fun i => (i.zero, i.size, i.bytes)) = some (some (.int .i64 0), 1, 8) := by kernel_rfl
theorem info5 : (Tryd.prog.info? 5).map (fun i => (i.zero, i.size, i.bytes)) = some (some (.int .u8 0), 1, 1) := by kernel_rfl
-- the values' own types
/-! #### struct type 25 -/
structure S25 where
 f0 : Int
 f1 : Int
 f2 : Int
 f3 : Int
 f4 : Int
 f5 : Int
 f6 : (List Int)
 f7 : (List Int)
def k25 : Kd S25 := Kd.iso (Kd.pair (Kd.int .i64) (Kd.pair (Kd.int .i64) (Kd.pair (Kd.int .i64) (Kd.pair (Kd.int .i64) (Kd.pair (Kd.int .i64) (Kd.pair (Kd.int .i64) (Kd.pair (Kd.slice 3 (Kd.int .i64)) (Kd.slice 5 (Kd.int .u8))))))))) (fun x : S25 => (x.f0, x.f1, x.f2, x.f3, x.f4, x.f5, x.f6, x.f7))
theorem k25_open {w : World} {x : S25} {cs : List Value} (h : k25.K w x cs) : ∃ A6 c6 A7 c7, cs = [.int .i64 x.f0, .int .i64 x.f1, .int .i64 x.f2, .int .i64 x.f3, .int .i64 x.f4, .int .i64 x.f5, .slice A6 x.f6.length c6, .slice A7 x.f7.length c7] ∧ x.f6.length ≤ c6 ∧ (Kd.int .i64).C w A6 x.f6.length x.f6 ∧ x.f7.length ≤ c7 ∧ (Kd.int .u8).C w A7 x.f7.length x.f7 := by
 obtain ⟨_, _, rfl, rfl, ⟨_, _, rfl, rfl, ⟨_, _, rfl, rfl, ⟨_, _, rfl, rfl, ⟨_, _, rfl, rfl, ⟨_, _, rfl, rfl, ⟨_, _, rfl, ⟨A6, c6, rfl, l6, g6⟩, ⟨A7, c7, rfl, l7, g7⟩⟩⟩⟩⟩⟩⟩⟩ := h
 exact ⟨A6, c6, A7, c7, rfl, l6, g6, l7, g7⟩
/-! #### struct type 27 -/
structure S27 where
 f0 : Int
 f1 : Int
 f2 : S25
 f3 : Int
 f4 : Int
 f5 : Int
 f6 : Int
 f7 : (List Int)
def k27 : Kd S27 := Kd.iso (Kd.pair (Kd.int .i64) (Kd.pair (Kd.int .i64) (Kd.pair k25 (Kd.pair (Kd.int .i64) (Kd.pair (Kd.int .i64) (Kd.pair (Kd.int .i64) (Kd.pair (Kd.int .i64) (Kd.slice 3 (Kd.int .i64))))))))) (fun x : S27 => (x.f0, x.f1, x.f2, x.f3, x.f4, x.f5, x.f6, x.f7))
theorem k27_open {w : World} {x : S27} {cs : List Value} (h : k27.K w x cs) : ∃ A8 c8 A9 c9 A14 c14, cs = [.int .i64 x.f0, .int .i64 x.f1, .int .i64 x.f2.f0, .int .i64 x.f2.f1, .int .i64 x.f2.f2, .int .i64 x.f2.f3, .int .i64 x.f2.f4, .int .i64 x.f2.f5, .slice A8 x.f2.f6.length c8, .slice A9 x.f2.f7.length c9, .int .i64 x.f3, .int .i64 x.f4, .int .i64 x.f5, .int .i64 x.f6, .slice A14 x.f7.length c14] ∧ x.f2.f6.length ≤ c8 ∧ (Kd.int .i64).C w A8 x.f2.f6.length x.f2.f6 ∧ x.f2.f7.length ≤ c9 ∧ (Kd.int .u8).C w A9 x.f2.f7.length x.f2.f7 ∧ x.f7.length ≤ c14 ∧ (Kd.int .i64).C w A14 x.f7.length x.f7 := by
 obtain ⟨_, _, rfl, rfl, ⟨_, _, rfl, rfl, ⟨_, _, rfl, s2, ⟨_, _, rfl, rfl, ⟨_, _, rfl, rfl, ⟨_, _, rfl, rfl, ⟨_, _, rfl, rfl, ⟨A14, c14, rfl, l14, g14⟩⟩⟩⟩⟩⟩⟩⟩ := h
 obtain ⟨A8, c8, A9, c9, rfl, l8, g8, l9, g9⟩ := k25_open s2
 exact ⟨A8, c8, A9, c9, A14, c14, rfl, l8, g8, l9, g9, l14, g14⟩
/-! #### struct type 40 -/
end Go.Proofs.YtieolhhokepkjaaDoor.Print
namespace Go.Proofs.YtieolhhokepkjaaDoor.Print
set_option linter.unusedVariables false
open Go.RowKit Go.Proofs.YtieolhhokepkjaaDoorW.PrintWords Go.Proofs.YtieolhhokepkjaaDoorW.PrintLast Go.Proofs.YtieolhhokepkjaaDoorW.PrintMore
/-- A shared slice of bytes as a string. -/
theorem V_string {P : Program} {w : World} {base e' : Nat} {ok : Nat → Prop} {src dst e : TypeId} {v : Value} {xs : List Int} (hs : P.underlying src = some (.slice e)) (he : P.underlying e = some (.int .u8)) (hd : P.underlying dst = some .string)
  (h : Kd.V (Kd.int .u8) e' w base ok v xs) : (convert src dst v).run P w = .ok (.string (strOfNums xs)) w := by
 obtain ⟨A, c, rfl, hl, hF⟩ := h
 exact Kd.C_string (P := P) (A := A) (c := c) hs he hd (Kd.F_now hF)
theorem V_string_d {P : Program} {w : World} {base e' : Nat} {ok : Nat → Prop} {src dst e : TypeId} {v : Value} {xs : List Int} (hs : P.underlying src = some (.slice e)) (he : P.underlying e = some (.int .u8)) (hd : P.underlying dst = some .string)
  (h : Kd.V (Kd.int .u8) e' w base ok v xs) : ∀ m : Nat, (convert src dst v).run P (w.drewN m) = .ok (.string (strOfNums xs)) (w.drewN m) := fun m => V_string hs he hd (Kd.V_drewN h m)
theorem own_string_d {P : Program} {w : World} {base e' : Nat} {ok : Nat → Prop} {src dst e : TypeId} {v : Value} {xs : List Int} (hs : P.underlying src = some (.slice e)) (he : P.underlying e = some (.int .u8)) (hd : P.underlying dst = some .string)
  (h : Kd.R (Kd.int .u8) e' w base ok v xs) : ∀ m : Nat, (convert src dst v).run P (w.drewN m) = .ok (.string (strOfNums xs)) (w.drewN m) := fun m => own_string hs he hd (Kd.own_of_R (Kd.R_drewN h m))
end Go.Proofs.YtieolhhokepkjaaDoor.Print
