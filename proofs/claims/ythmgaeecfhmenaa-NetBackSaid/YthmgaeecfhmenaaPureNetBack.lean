/- NetBack, the plain law. No condition. -/
import Derived.Test.YthmgaeecfhmenaaSayNetBack
import Derived.Test.YthmgaeecfhmenaaNetPlain
namespace Go.Proofs.Ythmgaeecfhmenaa.NetBackS
set_option linter.unusedVariables false
set_option linter.unusedSimpArgs false
open Go.RowKit Go.Proofs.Ythmgaeecfhmenaa.Print Go.Proofs.Ythmgaeecfhmenaa.Opens Go.Proofs.Ythmgaeecfhmenaa.Crc Go.Proofs.Ythmgaeecfhmenaa.CrcPlain Go.Proofs.Ythmgaeecfhmenaa.NetPlain
open Go.Proofs.YthmgaeecfhmenaaW.PrintWords Go.Proofs.YthmgaeecfhmenaaW.PrintLast

theorem cut_last (m : List S29) (x : S29) : (m ++ [x]).take m.length ++ (m ++ [x]).drop (m.length + 1) = m := by
  rw [List.take_left' rfl, List.drop_eq_nil_of_le (by simp), List.append_nil]
theorem get_last (m : List S29) (x : S29) : (m ++ [x]).getD m.length z29 = x := by simp [List.getD_eq_getElem?_getD]
theorem tail_go (l m : List S29) (hm : m.length = l.length + 1) (hl : l.length ≤ 60) (c : Int) (p : Nat) (hc : Int.tmod (wrap64 c) (m.length : Int) = (p : Int)) (hp : p < m.length) (k : Nat) (hk : 100 ≤ k) :
    precentorlaw05_NetBack.j1 (k + 1) l c true m false = some true := by
  have z1 : ¬ ((m.length : Int) = 0) := by omega
  have hd := dup_is m p (by omega) hp
  have hdl : (m ++ [m.getD p z29]).length = m.length + 1 := by simp
  have hdr := drop_is (m ++ [m.getD p z29]) m.length (by omega) (by omega)
  have hgd := give_is (m ++ [m.getD p z29]) m.length (by omega) (by omega)
  have hg := give_is m p (by omega) hp
  rw [cut_last] at hdr hgd
  rw [get_last] at hgd
  have hr : (m.take p ++ m.drop (p + 1)).length = l.length := by rw [List.length_append, List.length_take, List.length_drop]; omega
  have ht : (m.take p ++ m.drop (p + 1)).take p = m.take p := List.take_left' (by rw [List.length_take]; omega)
  have hdp : (m.take p ++ m.drop (p + 1)).drop p = m.drop (p + 1) := List.drop_left' (by rw [List.length_take]; omega)
  have s1 := rsame_refl m (by omega) (k := k) (by omega)
  have s2 := rsame_refl [({ f0 := (m.getD p z29).f0, f1 := (m.getD p z29).f1, f2 := (m.getD p z29).f2 } : S29)] (by simp) (k := k) (by rw [List.length_singleton]; omega)
  have lt : (m.take p).length ≤ 61 := by rw [List.length_take]; omega
  have ld : (m.drop (p + 1)).length ≤ 61 := by rw [List.length_drop]; omega
  have s3 := rsame_refl (m.take p) (by omega) (k := k) (by omega)
  have s4 := rsame_refl (m.drop (p + 1)) (by omega) (k := k) (by omega)
  have p1 : (0 : Int) ≤ (p : Int) := by omega
  have p2 : (p : Int) ≤ ((m.take p ++ m.drop (p + 1)).length : Int) := by omega
  have p3 : (p : Int) ≤ (m.length : Int) := by omega
  have p4 : ((m.take p ++ m.drop (p + 1)).length : Int) = (l.length : Int) := by omega
  have p5 : (0 : Int) ≤ ((p + 1 : Nat) : Int) := by omega
  have p6 : ((p + 1 : Nat) : Int) ≤ (m.length : Int) := by omega
  have e1 : ((p : Int)).toNat = p := Int.toNat_natCast p
  have e2 : (((p + 1 : Nat) : Int)).toNat = p + 1 := Int.toNat_natCast (p + 1)
  obtain ⟨w1, w2⟩ : wrap64 ((p : Int) + 1) = ((p + 1 : Nat) : Int) ∧ wrap64 ((m.length : Int) + 1) = ((m ++ [m.getD p z29]).length : Int) := by
    clear hc
    exact ⟨by rw [wrap_id (by omega) (by omega)]; rfl, by rw [wrap_id (by omega) (by omega), hdl]; rfl⟩
  simp only [precentorlaw05_NetBack.j1]
  rw [if_neg Bool.false_ne_true, if_neg z1, hc, hd, Option.bind_some, hdr, Option.bind_some, hgd, Option.bind_some, hg, Option.bind_some]
  dsimp only
  rw [if_pos trivial, if_pos (rfl : (0 : Int) = 0), if_pos w2.symm, if_pos (rfl : (0 : Int) = 0), s1, Option.bind_some, if_pos (rfl : true = true)]
  rw [if_pos (rfl : (0 : Int) = 0), if_pos (rfl : (0 : Int) = 0), s2, Option.bind_some, if_pos (rfl : true = true), if_pos p4, if_pos p1, if_pos p2, if_pos p3, e1, ht, s3, Option.bind_some, if_pos (rfl : true = true), w1, if_pos p5, if_pos p6, e2, hdp, s4, Option.bind_some]
theorem head_go (l : List S29) (hl : l.length ≤ 60) (a : Int) (b : List Int) (hb : b.length ≤ 1000) (c : Int) (hc : 0 ≤ c ∧ c ≤ 255) (k : Nat) (hk : 200 ≤ k) : precentorlaw05_NetBack.j0 (k + 1 + 1) l a b c true false = some true := by
  have hp := put_is l a b (by omega) (by omega)
  have hm : (l ++ [(⟨a, b, false⟩ : S29)]).length = l.length + 1 := by simp
  have hg := give_is (l ++ [(⟨a, b, false⟩ : S29)]) l.length (by omega) (by omega)
  rw [cut_last, get_last] at hg
  have s1 := rsame_refl l (by omega) (k := k + 1) (by omega)
  obtain ⟨q, rfl⟩ : ∃ q : Nat, c = (q : Int) := ⟨c.toNat, by omega⟩
  have w2 : wrap64 ((l.length : Int) + 1) = ((l ++ [(⟨a, b, false⟩ : S29)]).length : Int) := by rw [wrap_id (by omega) (by omega), hm]; rfl
  have ht : Int.tmod (wrap64 (q : Int)) ((l ++ [(⟨a, b, false⟩ : S29)]).length : Int) = ((q % (l ++ [(⟨a, b, false⟩ : S29)]).length : Nat) : Int) := by
    clear w2; rw [wrap_id (by omega) (by omega)]; rfl
  have hmod := Nat.mod_lt q (show 0 < (l ++ [(⟨a, b, false⟩ : S29)]).length by clear w2 ht; omega)
  have j := tail_go l (l ++ [(⟨a, b, false⟩ : S29)]) hm hl (q : Int) _ ht hmod k (by clear w2 ht; omega)
  clear ht
  simp only [precentorlaw05_NetBack.j0]
  rw [if_neg Bool.false_ne_true, hp, Option.bind_some, hg, Option.bind_some]
  dsimp only
  rw [if_pos w2.symm, if_pos (rfl : (0 : Int) = 0), if_pos (rfl : a = a), if_pos (rfl : (strOfNums b).toList = (strOfNums b).toList), if_neg Bool.false_ne_true, s1, Option.bind_some]
  exact j
theorem plain : Pure := by
  intro x g
  obtain ⟨l, a, b, c⟩ := x
  obtain ⟨_, _, _, hc⟩ := g
  have hc := wf_u8 hc
  refine ⟨500, ?_⟩
  simp only [precentorlaw05_NetBack.f, precentorlaw05_shown.f]
  rw [Option.bind_some, few_is l (by omega), Option.bind_some]
  by_cases h : (decide (l.length ≤ 60) && fewB l) = true
  · rw [if_pos h]
    have hl : l.length ≤ 60 := of_decide_eq_true (Bool.and_eq_true_iff.1 h).1
    by_cases h3 : (b.length : Int) > 1000
    · rw [decide_eq_true h3]
      simp only [precentorlaw05_NetBack.j0]
      rw [if_pos trivial]
    · rw [decide_eq_false h3]
      exact head_go l hl a b (by omega) c hc 498 (by omega)
  · rw [if_neg h]
    simp only [precentorlaw05_NetBack.j0]
    rw [if_pos trivial]
end Go.Proofs.Ythmgaeecfhmenaa.NetBackS
