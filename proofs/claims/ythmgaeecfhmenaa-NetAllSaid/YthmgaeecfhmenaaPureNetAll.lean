/- NetAll, the plain law. No condition. -/
import Derived.Test.YthmgaeecfhmenaaSayNetAll
import Derived.Test.YthmgaeecfhmenaaNetPlain
namespace Go.Proofs.Ythmgaeecfhmenaa.NetAllS
set_option linter.unusedVariables false
set_option linter.unusedSimpArgs false
open Go.RowKit Go.Proofs.Ythmgaeecfhmenaa.Print Go.Proofs.Ythmgaeecfhmenaa.Opens Go.Proofs.Ythmgaeecfhmenaa.Crc Go.Proofs.Ythmgaeecfhmenaa.CrcPlain Go.Proofs.Ythmgaeecfhmenaa.NetPlain
open Go.Proofs.YthmgaeecfhmenaaW.PrintWords Go.Proofs.YthmgaeecfhmenaaW.PrintLast

def seen (l : List S29) (i j : Nat) : Bool := ((l.take j).map S29.f0).contains (l.getD i z29).f0
def cnt (l : List S29) (i : Nat) : Nat := (l.filter fun x => ((l.take i).map S29.f0).contains x.f0).length
theorem seen_succ (l : List S29) (i j : Nat) (h : j < l.length) : seen l i (j + 1) = (seen l i j || ((l.getD j z29).f0 == (l.getD i z29).f0)) := by
  unfold seen
  rw [NetPlain.take_succ l z29 j h, List.map_append]
  simp only [List.map_cons, List.map_nil]
  rw [Bool.eq_iff_iff]
  simp only [List.contains_iff_mem, List.mem_append, List.mem_singleton, Bool.or_eq_true, beq_iff_eq]
  constructor
  · intro h
    rcases h with h | h
    · exact .inl h
    · exact .inr h.symm
  · intro h
    rcases h with h | h
    · exact .inl h
    · exact .inr h.symm
theorem filter_or (p q : S29 → Bool) (l : List S29) (h : ∀ x, ¬ (p x = true ∧ q x = true)) : (l.filter fun x => p x || q x).length = (l.filter p).length + (l.filter q).length := by
  induction l with
  | nil => rfl
  | cons a l ih =>
    simp only [List.filter_cons]
    have := h a
    cases hp : p a <;> cases hq : q a <;> simp_all <;> omega
theorem cnt_succ (l : List S29) (i : Nat) (h : i < l.length) : cnt l (i + 1) = if seen l i i = true then cnt l i else cnt l i + (l.filter (toB (l.getD i z29).f0)).length := by
  have e : (fun x : S29 => ((l.take (i + 1)).map S29.f0).contains x.f0) = fun x => ((l.take i).map S29.f0).contains x.f0 || toB (l.getD i z29).f0 x := by
    funext x
    rw [NetPlain.take_succ l z29 i h, List.map_append]
    simp only [List.map_cons, List.map_nil, toB]
    rw [Bool.eq_iff_iff]
    simp only [List.contains_iff_mem, List.mem_append, List.mem_singleton, Bool.or_eq_true, beq_iff_eq]
  unfold cnt
  rw [e]
  by_cases hs : seen l i i = true
  · rw [if_pos hs]
    congr 2
    funext x
    rw [Bool.eq_iff_iff]
    simp only [Bool.or_eq_true, toB, beq_iff_eq]
    constructor
    · rintro (h | h)
      · exact h
      · rw [h]; exact hs
    · exact .inl
  · rw [if_neg hs, filter_or]
    rintro x ⟨h1, h2⟩
    apply hs
    unfold seen
    simp only [toB, beq_iff_eq] at h2
    rw [← h2]; exact h1
theorem cnt_all (l : List S29) : cnt l l.length = l.length := by
  unfold cnt
  rw [List.take_length, List.filter_eq_self.2]
  intro x hx
  rw [List.contains_iff_mem]
  exact List.mem_map_of_mem hx
theorem cnt_le (l : List S29) (i : Nat) : cnt l i ≤ l.length := List.length_filter_le _ _
theorem l2_go (l : List S29) (d : Nat) : ∀ (k i : Nat) (m : List S29), i + d = l.length + 1 → m.length = d → d ≤ 100 → l.length ≤ 60 → d < k → precentorlaw05_NetAll.l2 k l true m (i : Int) = some true := by
  induction d with
  | zero =>
    intro k i m hi hm hd hl hk
    obtain ⟨k, rfl⟩ : ∃ m, k = m + 1 := ⟨k - 1, by omega⟩
    simp only [precentorlaw05_NetAll.l2]
    rw [if_neg (by omega), drop_out m 0 (by omega) (by omega)]
    simp only [Option.bind_some]
    rw [if_pos trivial, if_pos (by omega)]
    rfl
  | succ d ih =>
    intro k i m hi hm hd hl hk
    obtain ⟨k, rfl⟩ : ∃ m, k = m + 1 := ⟨k - 1, by omega⟩
    simp only [precentorlaw05_NetAll.l2]
    have hw : wrap64 ((i : Int) + 1) = ((i + 1 : Nat) : Int) := by rw [wrap_id (by omega) (by omega)]; rfl
    have h0 := drop_is m 0 (by omega) (by omega)
    simp only [Int.natCast_zero] at h0
    rw [if_pos (by omega), h0]
    simp only [Option.bind_some]
    rw [if_pos trivial, hw]
    exact ih k (i + 1) _ (by omega) (by simp; omega) (by omega) hl (by omega)
theorem l1_go (l : List S29) (a : Int) (i : Nat) (n : Int) (hi : i < l.length) (hl : l.length ≤ 60) (N : Nat)
    (h1 : ∀ k, N ≤ k → precentorlaw05_NetAll.l0 k l a true n ((i + 1 : Nat) : Int) = some true ∨ seen l i i = false)
    (h2 : ∀ k, N ≤ k → precentorlaw05_NetAll.l0 k l a true (wrap64 (n + ((l.filter (toB (l.getD i z29).f0)).length : Int))) ((i + 1 : Nat) : Int) = some true ∨ seen l i i = true) (hN : 70 ≤ N) (d : Nat) :
    ∀ (k j : Nat), j + d = i → N + d + 1 ≤ k → precentorlaw05_NetAll.l1 k l a true n (i : Int) (seen l i j) (j : Int) = some true := by
  have hwi : wrap64 ((i : Int) + 1) = ((i + 1 : Nat) : Int) := by rw [wrap_id (by omega) (by omega)]; rfl
  induction d with
  | zero =>
    intro k j hj hk
    obtain ⟨k, rfl⟩ : ∃ m, k = m + 1 := ⟨k - 1, by omega⟩
    obtain rfl : j = i := by omega
    simp only [precentorlaw05_NetAll.l1]
    rw [if_neg (by omega)]
    by_cases hs : seen l j j = true
    · rw [if_pos hs, hwi]
      rcases h1 k (by omega) with h | h
      · exact h
      · rw [h] at hs; cases hs
    · rw [if_neg hs, if_pos (by omega), if_pos (by omega), rdT_nat, all_is l _ (by omega) (by omega), hwi]
      simp only [Option.bind_some]
      rcases h2 k (by omega) with h | h
      · exact h
      · exact absurd h hs
  | succ d ih =>
    intro k j hj hk
    obtain ⟨k, rfl⟩ : ∃ m, k = m + 1 := ⟨k - 1, by omega⟩
    have hw : wrap64 ((j : Int) + 1) = ((j + 1 : Nat) : Int) := by rw [wrap_id (by omega) (by omega)]; rfl
    have := ih k (j + 1) (by omega) (by omega)
    rw [seen_succ l i j (by omega)] at this
    simp only [precentorlaw05_NetAll.l1]
    rw [if_pos (by omega)]
    by_cases hs : seen l i j = true
    · rw [if_pos hs, hw]
      rw [hs, Bool.true_or] at this
      exact this
    · rw [if_neg hs, if_pos (by omega), if_pos (by omega), if_pos (by omega), if_pos (by omega), hw, rdT_nat, rdT_nat]
      rw [Bool.eq_false_iff.2 hs, Bool.false_or] at this
      exact this
theorem l0_end (l : List S29) (a : Int) (hl : l.length ≤ 60) (ha : -9223372036854775808 ≤ a ∧ a ≤ 9223372036854775807) (k : Nat) (hk : 190 ≤ k) : precentorlaw05_NetAll.l0 (k + 1 + 1) l a true (cnt l l.length : Int) (l.length : Int) = some true := by
  have hn := cnt_all l
  have hm : (l ++ [(⟨a, [], false⟩ : S29)]).length = l.length + 1 := by simp
  generalize hmm : l ++ [(⟨a, [], false⟩ : S29)] = m at hm
  have c1 : (m.filter (toB a)).length = (l.filter (toB a)).length + 1 := by
    rw [← hmm, List.filter_append]; simp [toB]
  have ne : ¬ (a = wrap64 (a - 1)) := by unfold wrap64; omega
  have p1 : net_Put.f l a [] = some m := by rw [put_is l a [] (by omega) (by simp), hmm]
  have a1 := all_is m a (by omega) (k := k + 1) (by omega)
  have a2 := all_is l a (by omega) (k := k + 1) (by omega)
  simp only [precentorlaw05_NetAll.l0]
  have w1 : wrap64 (((l.filter (toB a)).length : Int) + 1) = ((m.filter (toB a)).length : Int) := by
    have hle : (l.filter (toB a)).length ≤ l.length := List.length_filter_le _ _
    rw [wrap_id (by omega) (by omega), c1]; rfl
  generalize wrap64 (a - 1) = b at ne ⊢
  have c2 : m.filter (toB b) = l.filter (toB b) := by
    rw [← hmm, List.filter_append]; simp [toB, ne]
  have a3 := all_is m b (by omega) (k := k + 1) (by omega)
  have a4 := all_is l b (by omega) (k := k + 1) (by omega)
  rw [if_neg (Int.lt_irrefl _), p1, Option.bind_some, if_pos (by rw [hn]), a1, Option.bind_some, a2, Option.bind_some, w1, if_pos rfl, a3, Option.bind_some, a4, Option.bind_some, c2, bne_self_eq_false]
  simp only [precentorlaw05_NetAll.j2]
  rw [if_neg Bool.false_ne_true]
  exact l2_go l (l.length + 1) k 0 m (by omega) (by omega) (by omega) hl (by omega)
theorem l0_go (l : List S29) (a : Int) (hl : l.length ≤ 60) (ha : -9223372036854775808 ≤ a ∧ a ≤ 9223372036854775807) (d : Nat) : ∀ (i k : Nat), i + d = l.length → 200 + 100 * d ≤ k → precentorlaw05_NetAll.l0 k l a true (cnt l i : Int) (i : Int) = some true := by
  induction d with
  | zero =>
    intro i k hi hk
    obtain ⟨k, rfl⟩ : ∃ m, k = m + 1 := ⟨k - 1, by omega⟩
    obtain rfl : i = l.length := by omega
    obtain ⟨k, rfl⟩ : ∃ m, k = m + 1 := ⟨k - 1, by omega⟩
    exact l0_end l a hl ha k (by omega)
  | succ d ih =>
    intro i k hi hk
    obtain ⟨k, rfl⟩ : ∃ m, k = m + 1 := ⟨k - 1, by omega⟩
    simp only [precentorlaw05_NetAll.l0]
    rw [if_pos (by omega)]
    have hc := cnt_succ l i (by omega)
    have hle := cnt_le l (i + 1)
    have hf : seen l i 0 = false := by simp [seen]
    have := l1_go l a i (cnt l i) (by omega) hl (200 + 100 * d) (fun m hm => by
        by_cases hs : seen l i i = true
        · rw [if_pos hs] at hc
          left; rw [← hc]; exact ih (i + 1) m (by omega) hm
        · right; exact Bool.eq_false_iff.2 hs) (fun m hm => by
        by_cases hs : seen l i i = true
        · right; exact hs
        · rw [if_neg hs] at hc
          left
          rw [wrap_id (by omega) (by omega), show ((cnt l i : Int) + ((l.filter (toB (l.getD i z29).f0)).length : Int)) = ((cnt l (i + 1) : Nat) : Int) by rw [hc]; push_cast; rfl]
          exact ih (i + 1) m (by omega) hm) (by omega) i k 0 (by omega) (by omega)
    rw [hf] at this
    exact this
theorem plain : Pure := by
  intro l a hl ha
  refine ⟨10000, ?_⟩
  simp only [precentorlaw05_NetAll.f, precentorlaw05_shown.f, Option.bind_some]
  rw [few_is l (by omega)]
  simp only [Option.bind_some]
  by_cases h : l.length ≤ 60
  · by_cases h2 : fewB l = true
    · rw [if_pos (by simp [h, h2])]
      have := l0_go l a h (wf_i64 ha) l.length 0 10000 (by omega) (by omega)
      have h0 : cnt l 0 = 0 := by simp [cnt]
      rw [h0] at this
      exact this
    · rw [if_neg (by simp [h2])]
  · rw [if_neg (by simp [h])]
end Go.Proofs.Ythmgaeecfhmenaa.NetAllS
