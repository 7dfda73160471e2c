/- NetDups, the plain law. No condition. -/
import Derived.Test.YthmgaeecfhmenaaSayNetDups
import Derived.Test.YthmgaeecfhmenaaNetPlain
namespace Go.Proofs.Ythmgaeecfhmenaa.NetDupsS
set_option linter.unusedVariables false
set_option linter.unusedSimpArgs false
open Go.RowKit Go.Proofs.Ythmgaeecfhmenaa.Print Go.Proofs.Ythmgaeecfhmenaa.Opens Go.Proofs.Ythmgaeecfhmenaa.Crc Go.Proofs.Ythmgaeecfhmenaa.CrcPlain Go.Proofs.Ythmgaeecfhmenaa.NetPlain
open Go.Proofs.YthmgaeecfhmenaaW.PrintWords Go.Proofs.YthmgaeecfhmenaaW.PrintLast

theorem one_of (l : List S29) (p : Nat) (hp : p < l.length) : (l.take (p + 1)).drop p = [l.getD p z29] := by
  rw [NetPlain.take_succ l z29 p hp, List.drop_left' (by rw [List.length_take]; omega)]
theorem l1_go (l : List S29) (hl : l.length ≤ 60) (m : Nat) (hm : m ≤ 8) (x : S29) (d : Nat) : ∀ (k j : Nat), j + d = m → 100 + d ≤ k → precentorlaw05_NetDups.l1 k l true (m : Int) (l ++ List.replicate d x) (j : Int) = some true := by
  induction d with
  | zero =>
    intro k j hj hk
    obtain ⟨k, rfl⟩ : ∃ m, k = m + 1 := ⟨k - 1, by omega⟩
    simp only [precentorlaw05_NetDups.l1]
    rw [if_neg (by omega), if_pos trivial, List.replicate_zero, List.append_nil, rsame_refl l (by omega) (k := k) (by omega)]
    rfl
  | succ d ih =>
    intro k j hj hk
    obtain ⟨k, rfl⟩ : ∃ m, k = m + 1 := ⟨k - 1, by omega⟩
    simp only [precentorlaw05_NetDups.l1]
    have hw : wrap64 ((j : Int) + 1) = ((j + 1 : Nat) : Int) := by rw [wrap_id (by omega) (by omega)]; rfl
    have hL : (l ++ List.replicate (d + 1) x).length = l.length + (d + 1) := by simp
    have e : (l ++ List.replicate (d + 1) x).take l.length ++ (l ++ List.replicate (d + 1) x).drop (l.length + 1) = l ++ List.replicate d x := by
      rw [List.take_left' rfl, List.replicate_succ, List.append_cons, List.drop_left' (by simp)]
    rw [if_pos (by omega), drop_is _ l.length (by omega) (by omega), Option.bind_some]
    show (if (0 : Int) = 0 then precentorlaw05_NetDups.l1 k l true (m : Int) ((l ++ List.replicate (d + 1) x).take l.length ++ (l ++ List.replicate (d + 1) x).drop (l.length + 1)) (wrap64 ((j : Int) + 1)) else none) = some true
    rw [if_pos (rfl : (0 : Int) = 0), hw, e]
    exact ih k (j + 1) (by omega) (by omega)
theorem l0_go (l : List S29) (hl : l.length ≤ 60) (p : Nat) (hp : p < l.length) (m : Nat) (hm : m ≤ 8) (d : Nat) : ∀ (k j : Nat), j + d = m → 200 + d ≤ k → precentorlaw05_NetDups.l0 k l true (p : Int) (m : Int) (l ++ List.replicate j (l.getD p z29)) (j : Int) = some true := by
  induction d with
  | zero =>
    intro k j hj hk
    obtain ⟨k, rfl⟩ : ∃ m, k = m + 1 := ⟨k - 1, by omega⟩
    obtain rfl : j = m := by omega
    simp only [precentorlaw05_NetDups.l0]
    rw [if_neg (by omega)]
    exact l1_go l hl j hm _ j k 0 (by omega) (by omega)
  | succ d ih =>
    intro k j hj hk
    obtain ⟨k, rfl⟩ : ∃ m, k = m + 1 := ⟨k - 1, by omega⟩
    simp only [precentorlaw05_NetDups.l0]
    have hw : wrap64 ((j : Int) + 1) = ((j + 1 : Nat) : Int) := by rw [wrap_id (by omega) (by omega)]; rfl
    have hp1 : wrap64 ((p : Int) + 1) = ((p + 1 : Nat) : Int) := by rw [wrap_id (by omega) (by omega)]; rfl
    have hL : (l ++ List.replicate j (l.getD p z29)).length = l.length + j := by simp
    have hL1 : ((l ++ List.replicate j (l.getD p z29)) ++ [l.getD p z29]).length = l.length + j + 1 := by rw [List.length_append, hL]; rfl
    have c1 : (0 : Int) ≤ ((l ++ List.replicate j (l.getD p z29)).length : Int) := Int.natCast_nonneg _
    have c2 : ((l ++ List.replicate j (l.getD p z29)).length : Int) ≤ (((l ++ List.replicate j (l.getD p z29)) ++ [l.getD p z29]).length : Int) := by rw [hL1, hL]; omega
    have c3 : (0 : Int) ≤ (p : Int) := Int.natCast_nonneg _
    have c4 : (p : Int) ≤ wrap64 ((p : Int) + 1) := by rw [hp1]; omega
    have c5 : wrap64 ((p : Int) + 1) ≤ (l.length : Int) := by rw [hp1]; omega
    have c6 : (j : Int) < (m : Int) := by omega
    have hg : (l ++ List.replicate j (l.getD p z29)).getD p z29 = l.getD p z29 := by
      simp [List.getD_eq_getElem?_getD, List.getElem?_append_left hp]
    have hs : l ++ List.replicate j (l.getD p z29) ++ [l.getD p z29] = l ++ List.replicate (j + 1) (l.getD p z29) := by
      rw [List.append_assoc, ← List.replicate_succ']
    have hr := rsame_refl [l.getD p z29] (by simp) (k := k) (by simp; clear c4 c5 hp1 hw; omega)
    have hd := dup_is (l ++ List.replicate j (l.getD p z29)) p (by omega) (by omega)
    rw [hg] at hd
    have hw2 : wrap64 (((l ++ List.replicate j (l.getD p z29)).length : Int) + 1) = (((l ++ List.replicate j (l.getD p z29)) ++ [l.getD p z29]).length : Int) := by
      rw [wrap_id (by omega) (by omega), hL1, hL]; rfl
    have h1 : ((l ++ List.replicate j (l.getD p z29)) ++ [l.getD p z29]).drop (((l ++ List.replicate j (l.getD p z29)).length : Int)).toNat = [l.getD p z29] := by
      rw [Int.toNat_natCast, List.drop_left' rfl]
    have h2 : (l.take ((wrap64 ((p : Int) + 1)) : Int).toNat).drop ((p : Int)).toNat = [l.getD p z29] := by
      rw [hp1, Int.toNat_natCast, Int.toNat_natCast, one_of l p hp]
    rw [if_pos c6, hd, Option.bind_some]
    dsimp only
    rw [if_pos (rfl : (0 : Int) = 0), if_pos hw2.symm, if_pos c1, if_pos c2, if_pos c3, if_pos c4, if_pos c5, h1, h2,
      hr, Option.bind_some, if_pos (rfl : true = true), hw, hs]
    exact ih k (j + 1) (by omega) (by omega)
theorem plain : Pure := by
  intro l a b hl ha hb
  have ha := wf_u8 ha
  have hb := wf_u8 hb
  refine ⟨500, ?_⟩
  simp only [precentorlaw05_NetDups.f, precentorlaw05_shown.f, Option.bind_some]
  rw [few_is l (by omega)]
  simp only [Option.bind_some]
  by_cases h : (decide (l.length ≤ 60) && fewB l) = true
  · have hl : l.length ≤ 60 := of_decide_eq_true (Bool.and_eq_true_iff.1 h).1
    rw [if_pos h]
    simp only [precentorlaw05_NetDups.j0]
    by_cases h2 : (l.length : Int) < 1
    · rw [if_pos (decide_eq_true h2)]
    · rw [if_neg (by rw [decide_eq_false h2]; exact Bool.false_ne_true), if_neg (by omega), wrap_id (by omega) (by omega), wrap_id (by omega) (by omega)]
      obtain ⟨p, rfl⟩ : ∃ p : Nat, a = (p : Int) := ⟨a.toNat, by omega⟩
      obtain ⟨q, rfl⟩ : ∃ q : Nat, b = (q : Int) := ⟨b.toNat, by omega⟩
      have e1 : Int.tmod (p : Int) (l.length : Int) = ((p % l.length : Nat) : Int) := rfl
      have e2 : Int.tmod (q : Int) 9 = ((q % 9 : Nat) : Int) := rfl
      rw [e1, e2]
      have := l0_go l hl (p % l.length) (Nat.mod_lt _ (by omega)) (q % 9) (by omega) (q % 9) 499 0 (by omega) (by omega)
      rw [List.replicate_zero, List.append_nil] at this
      exact this
  · rw [if_neg h]
    simp only [precentorlaw05_NetDups.j0]
    rw [if_pos trivial]
end Go.Proofs.Ythmgaeecfhmenaa.NetDupsS
