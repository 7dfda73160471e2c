/- NetTells, the plain law. No condition. -/
import Derived.Test.YthmgaeecfhmenaaSayNetTells
import Derived.Test.YthmgaeecfhmenaaNetPlain
namespace Go.Proofs.Ythmgaeecfhmenaa.NetTellsS
set_option linter.unusedVariables false
set_option linter.unusedSimpArgs false
open Go.RowKit Go.Proofs.Ythmgaeecfhmenaa.Print Go.Proofs.Ythmgaeecfhmenaa.Opens Go.Proofs.Ythmgaeecfhmenaa.Crc Go.Proofs.Ythmgaeecfhmenaa.CrcPlain Go.Proofs.Ythmgaeecfhmenaa.NetPlain
open Go.Proofs.YthmgaeecfhmenaaW.PrintWords Go.Proofs.YthmgaeecfhmenaaW.PrintLast

theorem give_some (l : List S29) (i : Int) (hl : l.length ≤ 60) : ∃ g, net_Give.f l i = some g ∧ g.2.2.2.1.length ≤ 60 := by
  unfold net_Give.f
  rw [if_pos (by unfold limL; omega)]
  refine ⟨_, rfl, ?_⟩
  by_cases h : 0 ≤ i ∧ i < (l.length : Int)
  · rw [if_pos h]; simp only [List.length_append, List.length_take, List.length_drop]; omega
  · rw [if_neg h]; exact hl
theorem dup_some (l : List S29) (i : Int) (hl : l.length ≤ 60) : ∃ g, net_Dup.f l i = some g ∧ g.1.length ≤ 61 := by
  unfold net_Dup.f
  rw [if_pos (by unfold limL; omega)]
  refine ⟨_, rfl, ?_⟩
  by_cases h : 0 ≤ i ∧ i < (l.length : Int)
  · rw [if_pos h]; simp only [List.length_append, List.length_cons, List.length_nil]; omega
  · rw [if_neg h]; show l.length ≤ 61; omega
def spoV (l : List S29) (p : Nat) (t : List Int) : List S29 := if (l.getD p z29).f2 = true then l else if (strOfNums t).toList = (strOfNums (l.getD p z29).f1).toList then l else l.take p ++ [⟨(l.getD p z29).f0, t, true⟩] ++ l.drop (p + 1)
theorem spoV_length (l : List S29) (p : Nat) (t : List Int) (hp : p < l.length) : (spoV l p t).length = l.length := by
  unfold spoV
  split
  · rfl
  · split
    · rfl
    · simp only [List.length_append, List.length_take, List.length_drop, List.length_cons, List.length_nil]; omega
theorem body_few {l : List S29} (hf : fewB l = true) {p : Nat} (hp : p < l.length) : ((l.getD p z29).f1).length ≤ 1300 := by
  have := List.all_eq_true.1 hf (l.getD p z29) (by rw [List.getD_eq_getElem?_getD, List.getElem?_eq_getElem hp]; exact List.getElem_mem hp)
  exact of_decide_eq_true this
theorem net_spoil (l : List S29) (p : Nat) (a : Int) (b : List Int) (hl : l.length ≤ 60) (hp : p < l.length) (h1 : ((l.getD p z29).f1).length ≤ 1300) : net_Spoil.f l (p : Int) a b = some (spoV l p (spl (l.getD p z29).f1 a b), 0) := by
  have hc : crc_Spoil.f (l.getD p z29).f1 a b = some (spl (l.getD p z29).f1 a b) := spoil_is (by omega) a b
  unfold net_Spoil.f spoV
  rw [if_pos (by unfold limL; omega), if_pos ⟨by omega, by omega⟩, rdT_nat, hc, Option.bind_some]
  by_cases h2 : (l.getD p z29).f2 = true
  · rw [if_pos h2, if_pos h2]
  · rw [if_neg h2, if_neg h2]
    by_cases h3 : (strOfNums (spl (l.getD p z29).f1 a b)).toList = (strOfNums (l.getD p z29).f1).toList
    · rw [if_pos h3, if_pos (beq_iff_eq.2 h3.symm)]
    · rw [if_neg h3, if_neg (fun e => h3 (beq_iff_eq.1 e).symm), Int.toNat_natCast, List.set_eq_take_append_cons_drop, if_pos hp, List.append_assoc]; rfl
theorem ref_spoil5 (l : List S29) (p : Nat) (a : Int) (b : List Int) (hl : l.length ≤ 60) (hp : p < l.length) (h1 : ((l.getD p z29).f1).length ≤ 1300) (hb : b.length ≤ 1000) (ha : a ≤ 9223372036854775807) (k : Nat) (hk : 50 ≤ k) :
    precentorref05_Spoil.f (k + 1) l (p : Int) a b = some (spoV l p (spl (l.getD p z29).f1 a b), 0) := by
  have hs := ref_spoil (l := (l.getD p z29).f1) (b := b) (by omega) (by omega) (a := a) ha (k := k) (by omega)
  unfold precentorref05_Spoil.f spoV
  rw [if_neg (by omega), decide_eq_false (by omega)]
  simp only [precentorref05_Spoil.j0]
  have p1 : (0 : Int) ≤ (p : Int) := by omega
  have p2 : (p : Int) < (l.length : Int) := by omega
  have p3 : (p : Int) ≤ (l.length : Int) := by omega
  rw [if_neg Bool.false_ne_true, if_pos p1, if_pos p2, rdT_nat, hs, Option.bind_some]
  by_cases h2 : (l.getD p z29).f2 = true
  · rw [if_pos h2, if_pos h2]
  · rw [if_neg h2, if_neg h2]
    by_cases h3 : (strOfNums (spl (l.getD p z29).f1 a b)).toList = (strOfNums (l.getD p z29).f1).toList
    · rw [if_pos h3, if_pos h3]
    · have e1 : ((p : Int)).toNat = p := Int.toNat_natCast p
      have e2 : (((p + 1 : Nat) : Int)).toNat = p + 1 := Int.toNat_natCast (p + 1)
      have L1 : (l.take p).length = p := by rw [List.length_take]; omega
      have L2 : (l.drop (p + 1)).length ≤ 60 := by rw [List.length_drop]; omega
      have b1 : 0 + p < 3518437208883 := by omega
      have b2 : p + 1 < 3518437208883 := by omega
      have b3 : p + 1 + (l.drop (p + 1)).length < 3518437208883 := by omega
      have p4 : (0 : Int) ≤ ((p + 1 : Nat) : Int) := by omega
      have p5 : ((p + 1 : Nat) : Int) ≤ (l.length : Int) := by omega
      have hw : wrap64 ((p : Int) + 1) = ((p + 1 : Nat) : Int) := by rw [wrap_id (by omega) (by omega)]; rfl
      rw [if_neg h3, if_neg h3, Option.bind_some, if_pos p3, Option.bind_some, e1, List.nil_append, List.length_nil, L1, if_pos b1, Option.bind_some, Option.bind_some, L1, List.length_singleton, if_pos b2, Option.bind_some,
        hw, if_pos p4, if_pos p5, Option.bind_some, e2, List.length_append, L1, List.length_singleton, if_pos b3]
theorem out_spoil (l : List S29) (i a : Int) (b : List Int) (hl : l.length ≤ 60) (h : ¬ (0 ≤ i ∧ i < (l.length : Int))) (k : Nat) : net_Spoil.f l i a b = some (l, 7) ∧ precentorref05_Spoil.f (k + 1) l i a b = some (l, 7) := by
  constructor
  · unfold net_Spoil.f; rw [if_pos (by unfold limL; omega), if_neg h]
  · unfold precentorref05_Spoil.f
    by_cases h0 : i < 0
    · rw [if_pos h0]; simp only [precentorref05_Spoil.j0]; rw [if_pos trivial]
    · rw [if_neg h0]; simp only [precentorref05_Spoil.j0]; rw [if_pos (decide_eq_true (by omega))]
theorem spoil_both (l : List S29) (i a : Int) (b : List Int) (hl : l.length ≤ 60) (hf : fewB l = true) (hb : b.length ≤ 1000) (ha : a ≤ 9223372036854775807) (k : Nat) (hk : 50 ≤ k) :
    ∃ g, net_Spoil.f l i a b = some g ∧ precentorref05_Spoil.f (k + 1) l i a b = some g ∧ g.1.length ≤ 60 := by
  by_cases h : 0 ≤ i ∧ i < (l.length : Int)
  · obtain ⟨p, rfl⟩ : ∃ p : Nat, i = (p : Int) := ⟨i.toNat, by omega⟩
    have hp : p < l.length := by omega
    have h1 := body_few hf hp
    exact ⟨_, net_spoil l p a b hl hp h1, ref_spoil5 l p a b hl hp h1 hb ha k hk, by rw [spoV_length l p _ hp]; exact hl⟩
  · exact ⟨_, (out_spoil l i a b hl h k).1, (out_spoil l i a b hl h k).2, hl⟩
theorem plain : Pure := by
  intro x g
  obtain ⟨l, o, i, a, b⟩ := x
  obtain ⟨_, _, hi, ha, _⟩ := g
  have ha' := wf_i64 ha
  refine ⟨500, ?_⟩
  simp only [precentorlaw05_NetTells.f, precentorlaw05_shown.f, Option.bind_some]
  rw [few_is l (by omega)]
  simp only [Option.bind_some]
  by_cases h : (decide (l.length ≤ 60) && fewB l) = true
  · rw [if_pos h, few_is o (by omega)]
    simp only [Option.bind_some]
    have hl : l.length ≤ 60 := of_decide_eq_true (Bool.and_eq_true_iff.1 h).1
    have hf := (Bool.and_eq_true_iff.1 h).2
    by_cases h2 : (decide (o.length ≤ 60) && fewB o) = true
    · rw [if_pos h2]
      have ho : o.length ≤ 60 := of_decide_eq_true (Bool.and_eq_true_iff.1 h2).1
      simp only [precentorlaw05_NetTells.j0]
      by_cases h3 : (b.length : Int) > 1000
      · rw [if_pos (decide_eq_true h3)]
      · rw [if_neg (by rw [decide_eq_false h3]; exact Bool.false_ne_true)]
        obtain ⟨g, hg, gl⟩ := give_some l i hl
        obtain ⟨d, hd, dl⟩ := dup_some l i hl
        obtain ⟨s, hs, hs', sl⟩ := spoil_both l i a b hl hf (by omega) ha'.2 498 (by omega)
        have hdr : net_Drop.f l i = some (g.2.2.2.1, g.2.2.2.2) := by unfold net_Drop.f; rw [hg]; rfl
        have hp := put_is l a b (by omega) (by omega)
        have fl : (l.filter (toB a)).length ≤ l.length := List.length_filter_le _ _
        rw [hg, Option.bind_some, show precentorref05_Give.f l i = some g from hg, Option.bind_some, hdr, Option.bind_some, show precentorref05_Drop.f l i = some (g.2.2.2.1, g.2.2.2.2) from hdr, Option.bind_some, hd, Option.bind_some, show precentorref05_Dup.f l i = some d from hd, Option.bind_some, hs, Option.bind_some, hs', Option.bind_some, rsame_refl [⟨g.1, g.2.1, g.2.2.1⟩] (by simp) (k := 499) (by simp), Option.bind_some, if_pos trivial,
          show net_Same.f l o = some (sameL l o) from rfl, Option.bind_some, rsame_is l o (by omega) (k := 499) (by omega), Option.bind_some, if_pos (beq_self_eq_true (sameL l o)), if_pos (rfl : true = true), rsame_refl g.2.2.2.1 (by omega) (k := 499) (by omega), Option.bind_some, if_pos (rfl : true = true), if_pos (rfl : g.2.2.2.2 = g.2.2.2.2),
          Option.bind_some, if_pos (rfl : true = true), if_pos (rfl : (g.2.2.2.1, g.2.2.2.2).2 = (g.2.2.2.1, g.2.2.2.2).2), rsame_refl d.1 (by omega) (k := 499) (by omega), Option.bind_some, if_pos (rfl : true = true), if_pos (rfl : d.2 = d.2), rsame_refl s.1 (by omega) (k := 499) (by omega), Option.bind_some, if_pos (rfl : true = true), if_pos (rfl : s.2 = s.2), hp, Option.bind_some, rput_is l a b (by omega) (by omega), Option.bind_some, rsame_refl (l ++ [({ f0 := a, f1 := b, f2 := false } : S29)]) (by simp; omega) (k := 499) (by simp; omega), Option.bind_some, if_pos (rfl : true = true), all_is l a (by omega) (k := 499) (by omega), Option.bind_some, rall_is l a (by omega) (k := 499) (by omega), Option.bind_some, rsame_refl (l.filter (toB a)) (by omega) (k := 499) (by omega), Option.bind_some]
    · rw [if_neg h2]
      simp only [precentorlaw05_NetTells.j0]
      rw [if_pos trivial]
  · rw [if_neg h]
    simp only [precentorlaw05_NetTells.j0]
    rw [if_pos trivial]
end Go.Proofs.Ythmgaeecfhmenaa.NetTellsS
