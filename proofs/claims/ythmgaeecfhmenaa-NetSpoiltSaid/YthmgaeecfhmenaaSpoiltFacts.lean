/- What NetSpoilt asks, of rows of letters, in plain Lean. Conditions stand in each lemma. -/
import Derived.Test.YthmgaeecfhmenaaNetPlain
namespace Go.Proofs.Ythmgaeecfhmenaa.NetPlain
set_option linter.unusedVariables false
set_option linter.unusedSimpArgs false
open Go.RowKit Go.Proofs.Ythmgaeecfhmenaa.Print Go.Proofs.Ythmgaeecfhmenaa.Crc Go.Proofs.Ythmgaeecfhmenaa.CrcPlain
open Go.Proofs.YthmgaeecfhmenaaW.PrintWords Go.Proofs.YthmgaeecfhmenaaW.PrintLast Go.Proofs.YthmgaeecfhmenaaW.PrintMore

def spoW (l : List S29) (p : Nat) (t : List Int) : List S29 := if (l.getD p z29).f2 = true then l else if (strOfNums t).toList = (strOfNums (l.getD p z29).f1).toList then l else l.take p ++ [⟨(l.getD p z29).f0, t, true⟩] ++ l.drop (p + 1)
theorem few_at {l : List S29} (hf : fewB l = true) {p : Nat} (hp : p < l.length) : ((l.getD p z29).f1).length ≤ 1300 := by
  have := List.all_eq_true.1 hf (l.getD p z29) (by rw [List.getD_eq_getElem?_getD, List.getElem?_eq_getElem hp]; exact List.getElem_mem hp)
  exact of_decide_eq_true this
theorem net_spoilW (l : List S29) (p : Nat) (a : Int) (b : List Int) (hl : l.length ≤ 60) (hp : p < l.length) (h1 : ((l.getD p z29).f1).length ≤ 1300) : net_Spoil.f l (p : Int) a b = some (spoW l p (spl (l.getD p z29).f1 a b), 0) := by
  have hc : crc_Spoil.f (l.getD p z29).f1 a b = some (spl (l.getD p z29).f1 a b) := spoil_is (by omega) a b
  unfold net_Spoil.f spoW
  rw [if_pos (by unfold limL; omega), if_pos ⟨by omega, by omega⟩, rdT_nat, hc, Option.bind_some]
  by_cases h2 : (l.getD p z29).f2 = true
  · rw [if_pos h2, if_pos h2]
  · rw [if_neg h2, if_neg h2]
    by_cases h3 : (strOfNums (spl (l.getD p z29).f1 a b)).toList = (strOfNums (l.getD p z29).f1).toList
    · rw [if_pos h3, if_pos (beq_iff_eq.2 h3.symm)]
    · rw [if_neg h3, if_neg (fun e => h3 (beq_iff_eq.1 e).symm), Int.toNat_natCast, List.set_eq_take_append_cons_drop, if_pos hp, List.append_assoc]; rfl
/-- Where two rows of bytes differ. -/
def Dif (x y : List Int) (j : Nat) : Prop := x.getD j 0 ≠ y.getD j 0
/-- What is known of a row that was spoilt. -/
structure Spt (l m : List S29) (p : Nat) : Prop where
  len : m.length = l.length
  tk : m.take p = l.take p
  dr : m.drop (p + 1) = l.drop (p + 1)
  tw : (m.getD p z29).f0 = (l.getD p z29).f0
  bl : ((m.getD p z29).f1).length = ((l.getD p z29).f1).length
  two : m = l ∨ ((l.getD p z29).f2 = false ∧ (m.getD p z29).f2 = true ∧ (∃ j, j < ((l.getD p z29).f1).length ∧ Dif (m.getD p z29).f1 (l.getD p z29).f1 j) ∧
    ∃ a : Nat, ∀ j, j < ((l.getD p z29).f1).length → Dif (m.getD p z29).f1 (l.getD p z29).f1 j → a ≤ j ∧ j ≤ a + 3)
theorem spoilt_facts (l : List S29) (p : Nat) (a : Int) (b : List Int) (hl : l.length ≤ 60) (hp : p < l.length) (h1 : ((l.getD p z29).f1).length ≤ 1300) (hx : Byt (l.getD p z29).f1) (hb : Byt b) :
    ∃ m, net_Spoil.f l (p : Int) a b = some (m, 0) ∧ Spt l m p := by
  refine ⟨_, net_spoilW l p a b hl hp h1, ?_⟩
  have hlen := spl_length (l.getD p z29).f1 a b
  have hsb := spl_byt hx hb a
  obtain ⟨t, ht⟩ : ∃ t, spl (l.getD p z29).f1 a b = t := ⟨_, rfl⟩
  have hget : ∀ j, Dif t (l.getD p z29).f1 j → 0 ≤ a ∧ a.toNat ≤ j ∧ j ≤ a.toNat + 3 := by
    intro j hj
    unfold Dif at hj
    by_cases ha : 0 ≤ a ∧ a < ((l.getD p z29).f1.length : Int)
    · have hg := spl_get b ha j
      rw [ht] at hg
      have := spn_le (l.getD p z29).f1 a.toNat b (by omega)
      by_cases hc : a.toNat ≤ j ∧ j < a.toNat + spn (l.getD p z29).f1 a.toNat b
      · exact ⟨ha.1, hc.1, by omega⟩
      · rw [if_neg hc] at hg
        exact absurd hg hj
    · have : t = (l.getD p z29).f1 := by rw [← ht]; unfold spl; rw [if_neg ha]
      rw [this] at hj
      exact absurd rfl hj
  rw [ht] at hlen hsb ⊢
  have same : spoW l p t = l → Spt l (spoW l p t) p := fun h => by rw [h]; exact ⟨rfl, rfl, rfl, rfl, rfl, Or.inl rfl⟩
  unfold spoW at same ⊢
  by_cases h2 : (l.getD p z29).f2 = true
  · rw [if_pos h2] at same ⊢; exact same rfl
  · rw [if_neg h2] at same ⊢
    by_cases h3 : (strOfNums t).toList = (strOfNums (l.getD p z29).f1).toList
    · rw [if_pos h3] at same ⊢; exact same rfl
    · rw [if_neg h3]
      have L1 : (l.take p).length = p := by rw [List.length_take]; omega
      have hg : (l.take p ++ [(⟨(l.getD p z29).f0, t, true⟩ : S29)] ++ l.drop (p + 1)).getD p z29 = ⟨(l.getD p z29).f0, t, true⟩ := by
        rw [List.append_assoc, List.getD_eq_getElem?_getD, List.getElem?_append_right (by omega), L1, Nat.sub_self]; rfl
      refine ⟨?_, ?_, ?_, ?_, ?_, Or.inr ⟨Bool.eq_false_iff.2 h2, ?_, ?_, ?_⟩⟩
      · simp only [List.length_append, List.length_drop, List.length_singleton, L1]; omega
      · rw [List.append_assoc, List.take_left' L1]
      · rw [List.drop_left' (by rw [List.length_append, L1, List.length_singleton])]
      · rw [hg]
      · rw [hg]; exact hlen
      · rw [hg]
      · rw [hg]
        apply Classical.byContradiction
        intro hn
        refine h3 ((str_eq hsb hx).2 (ext_getD hlen fun j hj => ?_))
        apply Classical.byContradiction
        intro hne
        exact hn ⟨j, by rw [← hlen]; exact hj, hne⟩
      · rw [hg]
        exact ⟨a.toNat, fun j _ hd => (hget j hd).2⟩
theorem again_facts (l : List S29) (p : Nat) (a : Int) (b : List Int) (hl : l.length ≤ 60) (hp : p < l.length) (h1 : ((l.getD p z29).f1).length ≤ 1300) : ∃ n, net_Spoil.f l (p : Int) a b = some (n, 0) ∧ ((l.getD p z29).f2 = true → n = l) :=
  ⟨_, net_spoilW l p a b hl hp h1, fun h => by unfold spoW; rw [if_pos h]⟩
/-- The two marks of the loop. -/
def Marks (x y : List Int) (k : Nat) (f t : Int) : Prop :=
  (f = -1 ∧ t = -1 ∧ ∀ j, j < k → ¬ Dif x y j) ∨ ∃ F T : Nat, f = F ∧ t = T ∧ Dif x y F ∧ Dif x y T ∧ F ≤ T ∧ T < k
theorem marks_same {x y : List Int} {k : Nat} {f t : Int} (h : Marks x y k f t) (he : ¬ Dif x y k) : Marks x y (k + 1) f t := by
  rcases h with ⟨h1, h2, h3⟩ | ⟨F, T, h1, h2, h3, h4, h5, h6⟩
  · exact Or.inl ⟨h1, h2, fun j hj => by rcases Nat.lt_succ_iff_lt_or_eq.1 hj with h | h; exact h3 j h; rw [h]; exact he⟩
  · exact Or.inr ⟨F, T, h1, h2, h3, h4, h5, by omega⟩
theorem marks_first {x y : List Int} {k : Nat} {f t : Int} (h : Marks x y k f t) (hf : f < 0) (he : Dif x y k) : Marks x y (k + 1) (k : Int) (k : Int) :=
  Or.inr ⟨k, k, rfl, rfl, he, he, by omega, by omega⟩
theorem marks_next {x y : List Int} {k : Nat} {f t : Int} (h : Marks x y k f t) (hf : ¬ f < 0) (he : Dif x y k) : Marks x y (k + 1) f (k : Int) := by
  rcases h with ⟨h1, _⟩ | ⟨F, T, h1, h2, h3, h4, h5, h6⟩
  · omega
  · exact Or.inr ⟨F, k, h1, rfl, h3, he, by omega, by omega⟩
theorem marks_end {x y : List Int} {n : Nat} {f t : Int} (h : Marks x y n f t) (hn : ∃ j, j < n ∧ Dif x y j) (a : Nat) (ha : ∀ j, j < n → Dif x y j → a ≤ j ∧ j ≤ a + 3) : 0 ≤ f ∧ t - f ≤ 3 ∧ 0 ≤ t ∧ t < n ∧ f ≤ t := by
  rcases h with ⟨h1, h2, h3⟩ | ⟨F, T, h1, h2, h3, h4, h5, h6⟩
  · obtain ⟨j, hj, hd⟩ := hn
    exact absurd hd (h3 j hj)
  · have g1 := ha F (by omega) h3
    have g2 := ha T h6 h4
    omega
end Go.Proofs.Ythmgaeecfhmenaa.NetPlain
