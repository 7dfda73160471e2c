/- CrcTwice, the plain law. No condition. -/
import Derived.Test.YtpfoomdajgdbeaaSayCrcTwice
import Derived.Test.YtpfoomdajgdbeaaCrcPlain
namespace Go.Proofs.Ytpfoomdajgdbeaa.CrcTwiceS
set_option linter.unusedVariables false
set_option linter.unusedSimpArgs false
open Go.RowKit Go.Proofs.Ytpfoomdajgdbeaa.Print Go.Proofs.Ytpfoomdajgdbeaa.Opens Go.Proofs.Ytpfoomdajgdbeaa.Crc Go.Proofs.Ytpfoomdajgdbeaa.CrcPlain
open Go.Proofs.YtpfoomdajgdbeaaW.PrintWords Go.Proofs.YtpfoomdajgdbeaaW.PrintLast

theorem loop (x0 x8 : List Int) (x1 : Int) (hx : x8.length = x0.length) (hl : x0.length ≤ 2000) (h1 : -9223372036854775808 ≤ x1) (h2 : x1 ≤ 9223372036854775807) (h : ∀ i : Nat, (i : Int) < x1 ∨ x1 + 3 < (i : Int) ∨ x1 < 0 → x8.getD i 0 = x0.getD i 0) (d : Nat) :
    ∀ (k i : Nat), i + d = x0.length → d < k → precentorlaw01_CrcTwice.l0 k x0 x1 true x8 (i : Int) = some true := by
  induction d with
  | zero =>
    intro k i hi hk
    obtain ⟨k, rfl⟩ : ∃ m, k = m + 1 := ⟨k - 1, by omega⟩
    simp only [precentorlaw01_CrcTwice.l0]
    rw [if_neg (by omega)]
  | succ d ih =>
    intro k i hi hk
    obtain ⟨k, rfl⟩ : ∃ m, k = m + 1 := ⟨k - 1, by omega⟩
    simp only [precentorlaw01_CrcTwice.l0]
    have hw : wrap64 ((i : Int) + 1) = ((i + 1 : Nat) : Int) := by rw [wrap_id (by omega) (by omega)]; rfl
    rw [if_pos (by omega), hw]
    have hr := ih k (i + 1) (by omega) (by omega)
    have he : (i : Int) < x1 ∨ x1 + 3 < (i : Int) ∨ x1 < 0 → (rd x8 (i : Int)) = (rd x0 (i : Int)) := fun h' => by rw [rd_nat, rd_nat]; exact h i h'
    by_cases c1 : x1 < 0
    · rw [if_pos c1, if_pos (by omega), if_pos (by omega), if_pos (he (by omega))]; exact hr
    · rw [if_neg c1]
      by_cases c2 : (i : Int) < x1
      · rw [if_pos c2, if_pos (by omega), if_pos (by omega), if_pos (he (by omega))]; exact hr
      · rw [if_neg c2, wrap_id (x := (i : Int) - x1) (by omega) (by omega)]
        by_cases c3 : (i : Int) - x1 > 3
        · rw [if_pos c3, if_pos (by omega), if_pos (by omega), if_pos (he (by omega))]; exact hr
        · rw [if_neg c3]; exact hr
theorem plain : Pure := by
  intro x0 x1 x2 g0 g1 g2
  have h0 := by_of g0
  have h2 := by_of g2
  have w1 := wf_i64 g1
  refine ⟨2005, ?_⟩
  simp only [precentorlaw01_CrcTwice.f, precentorlaw01_shown.f, Option.bind_some]
  by_cases h : (x0.length : Int) > 2000
  · rw [if_pos h]
    simp [precentorlaw01_CrcTwice.j0]
  · rw [if_neg h]
    simp only [precentorlaw01_CrcTwice.j0, decide_eq_true_eq]
    by_cases hl : (x2.length : Int) > 2000
    · rw [if_pos hl]
    · have e1 : crc_Spoil.f x0 x1 x2 = some (spl x0 x1 x2) := spoil_is (by omega) _ _
      have e2 : crc_Spoil.f (spl x0 x1 x2) x1 x2 = some (spl (spl x0 x1 x2) x1 x2) := spoil_is (by rw [spl_length]; omega) _ _
      rw [if_neg hl, e1]
      simp only [Option.bind_some]
      rw [spl_length, if_pos rfl, e2, spl_twice h0 h2]
      simp only [Option.bind_some, bne_self_eq_false, precentorlaw01_CrcTwice.j1, Bool.false_eq_true, if_false]
      refine loop x0 (spl x0 x1 x2) x1 (spl_length _ _ _) (by omega) w1.1 w1.2 (fun i hi => ?_) x0.length _ 0 (by omega) (by omega)
      by_cases hin : 0 ≤ x1 ∧ x1 < (x0.length : Int)
      · have hs := spn_le x0 x1.toNat x2 (by omega)
        rw [spl_get x2 hin, if_neg (by omega)]
      · unfold spl; rw [if_neg hin]
end Go.Proofs.Ytpfoomdajgdbeaa.CrcTwiceS
