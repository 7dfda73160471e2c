/- NetGives, the plain law. No condition. -/
import Derived.Test.YthmgaeecfhmenaaSayNetGives
import Derived.Test.YthmgaeecfhmenaaNetPlain
namespace Go.Proofs.Ythmgaeecfhmenaa.NetGivesS
set_option linter.unusedVariables false
set_option linter.unusedSimpArgs false
open Go.RowKit Go.Proofs.Ythmgaeecfhmenaa.Print Go.Proofs.Ythmgaeecfhmenaa.Opens Go.Proofs.Ythmgaeecfhmenaa.Crc Go.Proofs.Ythmgaeecfhmenaa.CrcPlain Go.Proofs.Ythmgaeecfhmenaa.NetPlain
open Go.Proofs.YthmgaeecfhmenaaW.PrintWords Go.Proofs.YthmgaeecfhmenaaW.PrintLast

theorem rdL_nat (l : List (List Int)) (i : Nat) : rd_L2 l (i : Int) = l.getD i [] := by unfold rd_L2; rw [Int.toNat_natCast]
def it (l : List (List Int)) (j : Nat) : S29 := ⟨((j % 3 : Nat) : Int), l.getD j [], false⟩
def its (l : List (List Int)) (n : Nat) : List S29 := (List.range n).map (it l)
theorem its_length (l : List (List Int)) (n : Nat) : (its l n).length = n := by simp [its]
theorem its_succ (l : List (List Int)) (n : Nat) : its l (n + 1) = its l n ++ [it l n] := by unfold its; rw [List.range_succ, List.map_append]; rfl
theorem its_get (l : List (List Int)) (n j : Nat) (h : j < n) : (its l n).getD j z29 = it l j := by unfold its; simp [List.getD_eq_getElem?_getD, h]
theorem its_take (l : List (List Int)) (n j : Nat) (h : j ≤ n) : (its l n).take j = its l j := by
  unfold its; rw [← List.map_take, List.take_range, Nat.min_eq_left h]
theorem last_go (l : List (List Int)) (hl : l.length ≤ 40) (d : Nat) : ∀ (k i : Nat), i + d = l.length → d < k → precentorlaw05_NetGives.l1 k l true true (its l d) (i : Int) = some true := by
  induction d with
  | zero =>
    intro k i hi hk
    obtain ⟨k, rfl⟩ : ∃ m, k = m + 1 := ⟨k - 1, by omega⟩
    simp only [precentorlaw05_NetGives.l1]
    rw [if_neg (by omega), if_pos trivial, its_length]; rfl
  | succ d ih =>
    intro k i hi hk
    obtain ⟨k, rfl⟩ : ∃ m, k = m + 1 := ⟨k - 1, by omega⟩
    simp only [precentorlaw05_NetGives.l1]
    have hw : wrap64 ((i : Int) + 1) = ((i + 1 : Nat) : Int) := by rw [wrap_id (by omega) (by omega)]; rfl
    have hL := its_length l (d + 1)
    have hw1 : wrap64 (((its l (d + 1)).length : Int) - 1) = (d : Int) := by rw [wrap_id (by omega) (by omega)]; omega
    have hw2 : wrap64 (wrap64 ((l.length : Int) - 1) - (i : Int)) = (d : Int) := by
      rw [wrap_id (x := (l.length : Int) - 1) (by omega) (by omega), wrap_id (by omega) (by omega)]; omega
    have hg := give_is (its l (d + 1)) d (by omega) (by omega)
    rw [its_get l (d + 1) d (by omega), its_take l (d + 1) d (by omega), List.drop_eq_nil_of_le (by omega), List.append_nil] at hg
    rw [if_pos (by omega), if_pos trivial, hw1, hg, Option.bind_some, hw2]
    dsimp only
    rw [if_pos (rfl : (0 : Int) = 0), if_pos (show (it l d).f0 = Int.tmod (d : Int) 3 from rfl), if_pos (by omega), if_pos (by omega), rdL_nat, if_pos (show (strOfNums (it l d).f1).toList = (strOfNums (l.getD d [])).toList from rfl), if_pos (by rw [its_length]), hw]
    exact ih k (i + 1) (by omega) (by omega)
theorem first_go (l : List (List Int)) (hl : l.length ≤ 40) (d : Nat) : ∀ (k i : Nat), i + d = l.length → d < k → precentorlaw05_NetGives.l1 k l false true ((its l l.length).drop i) (i : Int) = some true := by
  induction d with
  | zero =>
    intro k i hi hk
    obtain ⟨k, rfl⟩ : ∃ m, k = m + 1 := ⟨k - 1, by omega⟩
    simp only [precentorlaw05_NetGives.l1]
    have hL := its_length l l.length
    rw [if_neg (by omega), if_pos trivial, List.drop_eq_nil_of_le (by omega)]; rfl
  | succ d ih =>
    intro k i hi hk
    obtain ⟨k, rfl⟩ : ∃ m, k = m + 1 := ⟨k - 1, by omega⟩
    simp only [precentorlaw05_NetGives.l1]
    have hw : wrap64 ((i : Int) + 1) = ((i + 1 : Nat) : Int) := by rw [wrap_id (by omega) (by omega)]; rfl
    have hL : ((its l l.length).drop i).length = d + 1 := by rw [List.length_drop, its_length]; omega
    have hL2 : ((its l l.length).drop (i + 1)).length = d := by rw [List.length_drop, its_length]; omega
    have hw1 : wrap64 ((((its l l.length).drop i).length : Int) - 1) = (d : Int) := by rw [wrap_id (by omega) (by omega)]; omega
    have hg := give_is ((its l l.length).drop i) 0 (by omega) (by omega)
    have h0 : ((its l l.length).drop i).getD 0 z29 = it l i := by
      rw [← its_get l l.length i (by omega)]; simp [List.getD_eq_getElem?_getD]
    rw [h0, List.take_zero, List.nil_append, List.drop_drop] at hg
    simp only [Int.natCast_zero, Nat.zero_add] at hg
    rw [if_pos (by omega), if_neg Bool.false_ne_true, hg, Option.bind_some, hw1]
    dsimp only
    rw [if_pos (rfl : (0 : Int) = 0), if_pos (show (it l i).f0 = Int.tmod (i : Int) 3 from rfl), if_pos (by omega), rdL_nat, if_pos (show (strOfNums (it l i).f1).toList = (strOfNums (l.getD i [])).toList from rfl), if_pos (by rw [hL2]), hw]
    exact ih k (i + 1) (by omega) (by omega)
theorem l0_go (l : List (List Int)) (b : Bool) (hl : l.length ≤ 40) (d : Nat) : ∀ (k i : Nat), i + d = l.length → 100 + d ≤ k → precentorlaw05_NetGives.l0 k l b true (its l i) (i : Int) = some true := by
  induction d with
  | zero =>
    intro k i hi hk
    obtain ⟨k, rfl⟩ : ∃ m, k = m + 1 := ⟨k - 1, by omega⟩
    obtain rfl : i = l.length := by omega
    simp only [precentorlaw05_NetGives.l0]
    rw [if_neg (by omega)]
    cases b with
    | true => exact last_go l hl l.length k 0 (by omega) (by omega)
    | false => exact first_go l hl l.length k 0 (by omega) (by omega)
  | succ d ih =>
    intro k i hi hk
    obtain ⟨k, rfl⟩ : ∃ m, k = m + 1 := ⟨k - 1, by omega⟩
    simp only [precentorlaw05_NetGives.l0]
    have hw : wrap64 ((i : Int) + 1) = ((i + 1 : Nat) : Int) := by rw [wrap_id (by omega) (by omega)]; rfl
    rw [if_pos (by omega), if_pos (by omega), rdL_nat]
    by_cases h : (((l.getD i []).length : Nat) : Int) > 100
    · rw [if_pos h]
    · rw [if_neg h, put_is (its l i) _ _ (by rw [its_length]; omega) (by omega), Option.bind_some, hw]
      have := ih k (i + 1) (by omega) (by omega)
      rw [its_succ] at this
      exact this
theorem plain : Pure := by
  intro l b hl _
  refine ⟨500, ?_⟩
  simp only [precentorlaw05_NetGives.f, precentorlaw05_shown.f, Option.bind_some]
  by_cases h : (l.length : Int) > 40
  · rw [if_pos h]
  · rw [if_neg h]
    exact l0_go l b (by omega) l.length 500 0 (by omega) (by omega)
end Go.Proofs.Ythmgaeecfhmenaa.NetGivesS
