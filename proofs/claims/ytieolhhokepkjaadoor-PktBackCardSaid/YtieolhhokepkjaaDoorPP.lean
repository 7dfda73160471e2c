/- Which packets may be and are the same: what the printed functions come to. Conditions stand in each theorem. -/
import Derived.Test.YtieolhhokepkjaaDoorP1
import Derived.Test.YtieolhhokepkjaaDoorPrint1
import Derived.Test.YtieolhhokepkjaaDoorPrint3
import Derived.Test.YtieolhhokepkjaaDoorItemMore
namespace Go.Proofs.YtieolhhokepkjaaDoor.Print
set_option linter.unusedVariables false
set_option linter.unusedSimpArgs false
open Go.RowKit Go.Proofs.YtieolhhokepkjaaDoorW.PrintWords Go.Proofs.YtieolhhokepkjaaDoorW.PrintLast Go.Proofs.YtieolhhokepkjaaDoorW.PrintMore Go.Proofs.YtieolhhokepkjaaDoor.NumPlain
theorem within_is (n lo hi : Int) : pkt_within.f n lo hi = some (wi n lo hi) := by
  unfold pkt_within.f wi
  by_cases h : n ≥ lo
  · rw [if_pos h]
    exact congrArg some (decide_eq_decide.2 ⟨fun h2 => ⟨h, h2⟩, fun h2 => h2.2⟩)
  · rw [if_neg h, decide_eq_false (fun h2 => h h2.1)]
theorem bare_is (K F k s e i t c : Int) (L bo : List Int) (T O M P : Int) (R : List Int) (hL : L.length < 10000) : pkt_bare.f K F k s e i t c L bo T O M P R = some (bareB k s e i t c L bo) := by
  unfold pkt_bare.f
  rw [show item_Same.f k s e i t c L bo 0 0 0 0 0 0 [] [] = some (bareB k s e i t c L bo) from if_pos hL]; rfl
theorem len0 (R : List Int) : ((R.length : Int) == 0) = decide (R.length = 0) := by
  rw [Bool.eq_iff_iff, beq_iff_eq, decide_eq_true_eq]; omega
def tl12 (x : Bool) (T O M P : Int) (R : List Int) : Bool := x && (decide (T = 0) && (decide (O = 0) && (decide (M = 0) && (decide (P = 0) && decide (R.length = 0)))))
def tl4 (ba : Bool) (T O M P : Int) (R : List Int) : Bool := ba && (decide (T = 0) && (decide (O = 0) && (decide (M = 0) && (wi P 0 4611686018427387904 && wi (R.length : Int) 2 64))))
def sameP (K F k s e i t c : Int) (L bo : List Int) (T O M P : Int) (R : List Int) (K' F' k' s' e' i' t' c' : Int) (L' bo' : List Int) (T' O' M' P' : Int) (R' : List Int) : Bool :=
  decide (K = K') && (decide (F = F') && (sameB k s e i t c L bo k' s' e' i' t' c' L' bo' && (decide (T = T') && (decide (O = O') && (decide (M = M') && (decide (P = P') && decide (R = R')))))))
theorem psame_is (K F k s e i t c : Int) (L bo : List Int) (T O M P : Int) (R : List Int) (K' F' k' s' e' i' t' c' : Int) (L' bo' : List Int) (T' O' M' P' : Int) (R' : List Int) (hL : L.length < 10000) (hR : R.length < 10000) :
    pkt_Same.f 10000 K F k s e i t c L bo T O M P R K' F' k' s' e' i' t' c' L' bo' T' O' M' P' R' = some (sameP K F k s e i t c L bo T O M P R K' F' k' s' e' i' t' c' L' bo' T' O' M' P' R') := by
  unfold pkt_Same.f sameP
  rw [show item_Same.f k s e i t c L bo k' s' e' i' t' c' L' bo' = some (sameB k s e i t c L bo k' s' e' i' t' c' L' bo') from if_pos hL, Option.bind_some, equal_is hR]
  generalize sameB k s e i t c L bo k' s' e' i' t' c' L' bo' = z
  by_cases h1 : K = K' <;> by_cases h2 : F = F' <;> by_cases hT : T = T' <;> by_cases hO : O = O' <;> by_cases hM : M = M' <;> by_cases hP : P = P' <;> cases z <;> simp [h1, h2, hT, hO, hM, hP]
/-- A packet's bytes, as yet without their sum. -/
def bodyP (K F k s e i t c : Int) (L bo : List Int) (T O M P : Int) (R : List Int) : List Int :=
  [165, K % 256, F % 256] ++ (if K = 3 then enc 1 T ++ enc 8 O ++ enc 1 M else if K = 4 then enc 8 P ++ flat 8 R else bytesOf k s e i t c L bo)
end Go.Proofs.YtieolhhokepkjaaDoor.Print
