/- Chapter 05, plain laws of rows of letters: which are few, the same, tw a member. Conditions stand in each lemma. -/
import Derived.Test.YthmgaeecfhmenaaPrint1
import Derived.Test.YthmgaeecfhmenaaPrint3
import Derived.Test.YthmgaeecfhmenaaHand
import Derived.Test.YthmgaeecfhmenaaHand2
import Derived.Test.YthmgaeecfhmenaaCrcPlain
namespace Go.Proofs.Ythmgaeecfhmenaa.NetPlain
set_option linter.unusedVariables false
set_option linter.unusedSimpArgs false
open Go.RowKit Go.Proofs.Ythmgaeecfhmenaa.Print Go.Proofs.Ythmgaeecfhmenaa.Crc Go.Proofs.Ythmgaeecfhmenaa.CrcPlain
open Go.Proofs.YthmgaeecfhmenaaW.PrintWords Go.Proofs.YthmgaeecfhmenaaW.PrintLast Go.Proofs.YthmgaeecfhmenaaW.PrintMore

theorem rdT_nat (l : List S29) (i : Nat) : rd_T29 l (i : Int) = l.getD i z29 := by unfold rd_T29; rw [Int.toNat_natCast]
theorem drop_cons {α : Type} (l : List α) (z : α) (i : Nat) (h : i < l.length) : l.drop i = l.getD i z :: l.drop (i + 1) := by
  rw [List.drop_eq_getElem_cons h]; simp [List.getD_eq_getElem?_getD, h]
theorem take_succ {α : Type} (l : List α) (z : α) (i : Nat) (h : i < l.length) : l.take (i + 1) = l.take i ++ [l.getD i z] := by
  rw [List.take_succ_eq_append_getElem h]; simp [List.getD_eq_getElem?_getD, h]
def fewB (l : List S29) : Bool := l.all fun x => decide (x.f1.length ≤ 1300)
theorem few_l0 (l : List S29) (hl : l.length ≤ 100) (d : Nat) : ∀ (k i : Nat), i + d = l.length → d < k → precentorref05_Few.l0 k l (i : Int) = some (fewB (l.drop i)) := by
  induction d with
  | zero =>
    intro k i hi hk
    obtain ⟨k, rfl⟩ : ∃ m, k = m + 1 := ⟨k - 1, by omega⟩
    simp only [precentorref05_Few.l0]
    rw [if_neg (by omega), List.drop_eq_nil_of_le (by omega)]; rfl
  | succ d ih =>
    intro k i hi hk
    obtain ⟨k, rfl⟩ : ∃ m, k = m + 1 := ⟨k - 1, by omega⟩
    simp only [precentorref05_Few.l0]
    have hw : wrap64 ((i : Int) + 1) = ((i + 1 : Nat) : Int) := by rw [wrap_id (by omega) (by omega)]; rfl
    rw [if_pos (by omega), if_pos (by omega), rdT_nat, drop_cons l z29 i (by omega)]
    by_cases h : ((((l.getD i z29).f1).length : Nat) : Int) > 1300
    · rw [if_pos h]; simp only [fewB, List.all_cons]; rw [decide_eq_false (by omega)]; rfl
    · rw [if_neg h, hw, ih k (i + 1) (by omega) (by omega)]; simp only [fewB, List.all_cons]; rw [decide_eq_true (by omega)]; rfl
theorem few_is (l : List S29) {k : Nat} (hk : 70 ≤ k) : precentorref05_Few.f k l 60 = some (decide (l.length ≤ 60) && fewB l) := by
  unfold precentorref05_Few.f
  by_cases h : (l.length : Int) > 60
  · rw [if_pos h, decide_eq_false (by omega)]; rfl
  · rw [if_neg h, decide_eq_true (by omega)]
    have := few_l0 l (by omega) l.length k 0 (by omega) (by omega)
    simpa using this
def toB (a : Int) (x : S29) : Bool := x.f0 == a
theorem all_l0 (l : List S29) (tw : Int) (hl : l.length ≤ 1000) (d : Nat) : ∀ (k i : Nat) (o : List S29), i + d = l.length → d < k → o.length ≤ i →
    net_All.l0 k tw o l (l.length : Int) (i : Int) = some (o ++ (l.drop i).filter (toB tw)) := by
  induction d with
  | zero =>
    intro k i o hi hk ho
    obtain ⟨k, rfl⟩ : ∃ m, k = m + 1 := ⟨k - 1, by omega⟩
    simp only [net_All.l0]
    rw [if_neg (by omega), List.drop_eq_nil_of_le (by omega)]; simp
  | succ d ih =>
    intro k i o hi hk ho
    obtain ⟨k, rfl⟩ : ∃ m, k = m + 1 := ⟨k - 1, by omega⟩
    simp only [net_All.l0]
    have hw : wrap64 ((i : Int) + 1) = ((i + 1 : Nat) : Int) := by rw [wrap_id (by omega) (by omega)]; rfl
    rw [if_pos (by omega), if_pos (by omega), if_pos (by omega), rdT_nat, drop_cons l z29 i (by omega), List.filter_cons]
    by_cases h : (l.getD i z29).f0 = tw
    · rw [if_pos h, if_pos (by omega), hw, ih k (i + 1) _ (by omega) (by omega) (by simp; omega), if_pos (by unfold toB; simpa using h)]
      rw [List.append_assoc]; rfl
    · rw [if_neg h, hw, ih k (i + 1) _ (by omega) (by omega) (by omega), if_neg (by unfold toB; simpa using h)]
theorem all_is (l : List S29) (tw : Int) (hl : l.length ≤ 1000) {k : Nat} (hk : l.length < k) : net_All.f k l tw = some (l.filter (toB tw)) := by
  have := all_l0 l tw hl l.length k 0 [] (by omega) hk (by simp)
  simpa [net_All.f] using this
theorem rall_l0 (l : List S29) (tw : Int) (hl : l.length ≤ 1000) (d : Nat) : ∀ (k i : Nat) (o : List S29), i + d = l.length → d < k → o.length ≤ i →
    precentorref05_All.l0 k l tw o (i : Int) = some (o ++ (l.drop i).filter (toB tw)) := by
  induction d with
  | zero =>
    intro k i o hi hk ho
    obtain ⟨k, rfl⟩ : ∃ m, k = m + 1 := ⟨k - 1, by omega⟩
    simp only [precentorref05_All.l0]
    rw [if_neg (by omega), List.drop_eq_nil_of_le (by omega)]; simp
  | succ d ih =>
    intro k i o hi hk ho
    obtain ⟨k, rfl⟩ : ∃ m, k = m + 1 := ⟨k - 1, by omega⟩
    simp only [precentorref05_All.l0]
    have hw : wrap64 ((i : Int) + 1) = ((i + 1 : Nat) : Int) := by rw [wrap_id (by omega) (by omega)]; rfl
    rw [if_pos (by omega), if_pos (by omega), rdT_nat, drop_cons l z29 i (by omega), List.filter_cons]
    by_cases h : (l.getD i z29).f0 = tw
    · rw [if_pos h, if_pos (by omega), hw, ih k (i + 1) _ (by omega) (by omega) (by simp; omega), if_pos (by unfold toB; simpa using h)]
      rw [List.append_assoc]; rfl
    · rw [if_neg h, hw, ih k (i + 1) _ (by omega) (by omega) (by omega), if_neg (by unfold toB; simpa using h)]
theorem rall_is (l : List S29) (tw : Int) (hl : l.length ≤ 1000) {k : Nat} (hk : l.length < k) : precentorref05_All.f k l tw = some (l.filter (toB tw)) := by
  have := rall_l0 l tw hl l.length k 0 [] (by omega) hk (by simp)
  simpa [precentorref05_All.f] using this
theorem put_is (l : List S29) (tw : Int) (b : List Int) (hl : l.length ≤ 1000) (hb : b.length ≤ 2000) : net_Put.f l tw b = some (l ++ [⟨tw, b, false⟩]) := by
  unfold net_Put.f; rw [if_pos ⟨by unfold limL; omega, by unfold lim2; omega⟩]
theorem rput_is (l : List S29) (tw : Int) (b : List Int) (hl : l.length ≤ 1000) (hb : b.length ≤ 2000) : precentorref05_Put.f l tw b = some (l ++ [⟨tw, b, false⟩]) := by
  unfold precentorref05_Put.f
  simp only [Option.bind_some, List.nil_append, List.length_nil]
  rw [if_pos (by omega), if_pos (by omega), if_pos (by omega)]
theorem give_is (l : List S29) (i : Nat) (hl : l.length ≤ 1000) (hi : i < l.length) : net_Give.f l (i : Int) = some ((l.getD i z29).f0, (l.getD i z29).f1, (l.getD i z29).f2, l.take i ++ l.drop (i + 1), 0) := by
  unfold net_Give.f; rw [if_pos (by unfold limL; omega), if_pos (by omega), rdT_nat, Int.toNat_natCast]
theorem drop_is (l : List S29) (i : Nat) (hl : l.length ≤ 1000) (hi : i < l.length) : net_Drop.f l (i : Int) = some (l.take i ++ l.drop (i + 1), 0) := by
  unfold net_Drop.f; rw [give_is l i hl hi]; rfl
theorem drop_out (l : List S29) (i : Int) (hl : l.length ≤ 1000) (hi : ¬ (0 ≤ i ∧ i < (l.length : Int))) : net_Drop.f l i = some (l, 7) := by
  unfold net_Drop.f net_Give.f; rw [if_pos (by unfold limL; omega), if_neg hi]; rfl
theorem dup_is (l : List S29) (i : Nat) (hl : l.length ≤ 1000) (hi : i < l.length) : net_Dup.f l (i : Int) = some (l ++ [l.getD i z29], 0) := by
  unfold net_Dup.f; rw [if_pos (by unfold limL; omega), if_pos (by omega), rdT_nat]
def oneB (x y : S29) : Bool := x.f0 == y.f0 && (x.f2 == y.f2 && ((strOfNums x.f1).toList == (strOfNums y.f1).toList))
theorem one_is (x y : S29) : precentorref05_one.f x.f0 x.f1 x.f2 y.f0 y.f1 y.f2 = some (sameS x y) := by
  unfold precentorref05_one.f sameS
  by_cases h : x.f0 = y.f0
  · rw [if_pos h]
    by_cases h2 : (strOfNums x.f1).toList = (strOfNums y.f1).toList
    · rw [if_pos h2]; simp [h, h2]
    · rw [if_neg h2]; simp [h, h2]
  · rw [if_neg h]; simp [h]
theorem rsame_l0 (a b : List S29) (hab : a.length = b.length) (hl : a.length ≤ 1000) (d : Nat) : ∀ (k i : Nat), i + d = a.length → d < k →
    precentorref05_Same.l0 k a b (i : Int) = some ((List.range d).all fun j => sameS (a.getD (i + j) z29) (b.getD (i + j) z29)) := by
  induction d with
  | zero =>
    intro k i hi hk
    obtain ⟨k, rfl⟩ : ∃ m, k = m + 1 := ⟨k - 1, by omega⟩
    simp only [precentorref05_Same.l0]
    rw [if_neg (by omega)]; rfl
  | succ d ih =>
    intro k i hi hk
    obtain ⟨k, rfl⟩ : ∃ m, k = m + 1 := ⟨k - 1, by omega⟩
    simp only [precentorref05_Same.l0]
    have hw : wrap64 ((i : Int) + 1) = ((i + 1 : Nat) : Int) := by rw [wrap_id (by omega) (by omega)]; rfl
    rw [if_pos (by omega), if_pos (by omega), if_pos (by omega), one_is, rdT_nat, rdT_nat, hw, ih k (i + 1) (by omega) (by omega), List.range_succ_eq_map, List.all_cons, List.all_map]
    simp only [Option.bind_some, Nat.add_zero]
    have e : ((fun j => sameS (a.getD (i + j) z29) (b.getD (i + j) z29)) ∘ Nat.succ) = fun j => sameS (a.getD (i + 1 + j) z29) (b.getD (i + 1 + j) z29) := by
      funext j; simp only [Function.comp, Nat.succ_eq_add_one]; rw [show i + (j + 1) = i + 1 + j by omega]
    rw [e]
    cases sameS (a.getD i z29) (b.getD i z29) <;> simp
theorem rsame_is (a b : List S29) (hl : a.length ≤ 1000) {k : Nat} (hk : a.length < k) : precentorref05_Same.f k a b = some (sameL a b) := by
  unfold precentorref05_Same.f sameL
  by_cases h : a.length = b.length
  · rw [if_pos (by omega), decide_eq_true h, Bool.true_and]
    have := rsame_l0 a b h hl a.length k 0 (by omega) hk
    simp only [Nat.zero_add] at this
    simp only [rdT_nat]
    exact this
  · rw [if_neg (by omega), decide_eq_false h]; rfl
theorem sameS_refl (x : S29) : sameS x x = true := by simp [sameS]
theorem sameL_refl (l : List S29) : sameL l l = true := by simp [sameL, sameS_refl]
theorem rsame_refl (l : List S29) (hl : l.length ≤ 1000) {k : Nat} (hk : l.length < k) : precentorref05_Same.f k l l = some true := by rw [rsame_is l l hl hk, sameL_refl]
end Go.Proofs.Ythmgaeecfhmenaa.NetPlain
