/- ItemHeads, the plain law. No condition. -/
import Derived.Test.YtocoikndkmdnkaaDoorSayItemHeads
import Derived.Test.YtocoikndkmdnkaaDoorItemPlain
import Derived.Lib.Bytes
namespace Go.Proofs.YtocoikndkmdnkaaDoor.ItemHeadsS
set_option linter.unusedVariables false
set_option linter.unusedSimpArgs false
open Go.RowKit Go.Proofs.YtocoikndkmdnkaaDoor.Print Go.Proofs.YtocoikndkmdnkaaDoor.Opens Go.Proofs.YtocoikndkmdnkaaDoor.NumPlain
open Go.Proofs.YtocoikndkmdnkaaDoorW.PrintWords Go.Proofs.YtocoikndkmdnkaaDoorW.PrintLast

theorem num_step {s : Int} (h0 : 0 ≤ s) (h1 : s ≤ 4611686018427387904) {c : Int} (j : Nat) (hj : j < 8) (hc : c = s / 256 ^ (7 - j) % 256) :
    wrap64 (wrap64 (256 * (s / 256 ^ (8 - j))) + wrap64 c) = s / 256 ^ (7 - j) := by
  have e : s / 256 ^ (8 - j) = s / 256 ^ (7 - j) / 256 := by
    rw [show 8 - j = (7 - j) + 1 by omega, Int.pow_succ, Int.ediv_ediv_of_nonneg (Int.pow_nonneg (by decide))]
  have hp : (1 : Int) ≤ 256 ^ (7 - j) := by
    have : (0 : Int) < 256 ^ (7 - j) := Int.pow_pos (by decide)
    omega
  have b0 : 0 ≤ s / 256 ^ (7 - j) := Int.ediv_nonneg h0 (by omega)
  have b1 : s / 256 ^ (7 - j) ≤ s := Int.ediv_le_self _ h0
  rw [e, hc]
  generalize s / 256 ^ (7 - j) = q at *
  rw [wrap_id (x := 256 * (q / 256)) (by omega) (by omega), wrap_id (x := q % 256) (by omega) (by omega), wrap_id (by omega) (by omega)]
  omega
theorem heads_loop {B C : List Int} {k s e i t c : Int} {L bo : List Int} {k' s' e' i' t' c' : Int} {L' bo' : List Int} (hs : 0 ≤ s ∧ s ≤ 4611686018427387904) (he : 0 ≤ e ∧ e ≤ 4611686018427387904) (hl : 17 ≤ B.length)
    (hB : ∀ j : Nat, j < 8 → rd B ((j : Int) + 1) = s / 256 ^ (7 - j) % 256 ∧ rd B ((j : Int) + 9) = e / 256 ^ (7 - j) % 256) : ∀ (d j n : Nat), j + d = 8 → d < n →
    precentorlaw03_ItemHeads.l0 n true B C (s / 256 ^ (8 - j)) (e / 256 ^ (8 - j)) ((j : Int) + 1) k s e i t c L bo k' s' e' i' t' c' L' bo' = if k = k' then some true else some ((strOfNums B).toList != (strOfNums C).toList) := by
  intro d
  induction d with
  | zero =>
    intro j n hj hn
    obtain ⟨n, rfl⟩ : ∃ q, n = q + 1 := ⟨n - 1, by omega⟩
    obtain rfl : j = 8 := by omega
    simp only [precentorlaw03_ItemHeads.l0]
    rw [if_neg (by decide), if_pos trivial, if_pos (by simp), if_pos (by simp)]
  | succ d ih =>
    intro j n hj hn
    obtain ⟨n, rfl⟩ : ∃ q, n = q + 1 := ⟨n - 1, by omega⟩
    have j8 : j < 8 := by omega
    have p1 : (j : Int) + 1 < 9 := by omega
    have p2 : 0 ≤ (j : Int) + 1 := by omega
    have p3 : (j : Int) + 1 < (B.length : Int) := by omega
    have p4 : 0 ≤ (j : Int) + 9 := by omega
    have p5 : (j : Int) + 9 < (B.length : Int) := by omega
    have a1 : (j + 1) + d = 8 := by omega
    have a2 : d < n := by omega
    have a3 : 8 - (j + 1) = 7 - j := by omega
    have w1 : wrap64 ((j : Int) + 1 + 8) = (j : Int) + 9 := by rw [wrap_id (by omega) (by omega)]; omega
    have w2 : wrap64 ((j : Int) + 1 + 1) = ((j + 1 : Nat) : Int) + 1 := by rw [wrap_id (by omega) (by omega)]; omega
    have s1 := num_step hs.1 hs.2 j j8 (hB j j8).1
    have s2 := num_step he.1 he.2 j j8 (hB j j8).2
    have key := ih (j + 1) n a1 a2
    rw [a3] at key
    clear ih
    simp only [precentorlaw03_ItemHeads.l0]
    rw [if_pos p1, if_pos p2, if_pos p3, w1, if_pos p4, if_pos p5, w2, s1, s2]
    exact key
theorem few_if (a b c d e f : Int) (L bo : List Int) : precentorref03_Few.f a b c d e f L bo = some (decide (L.length ≤ 80) && decide (bo.length ≤ 1100)) := by
  unfold precentorref03_Few.f
  by_cases h : L.length ≤ 80
  · rw [if_pos (by omega), decide_eq_true h, Bool.true_and]
    by_cases h2 : bo.length ≤ 1100
    · rw [decide_eq_true h2, decide_eq_true (by omega)]
    · rw [decide_eq_false h2, decide_eq_false (by omega)]
  · rw [if_neg (by omega), decide_eq_false h, Bool.false_and]
theorem bytes_at {k s e i t c : Int} {L bo : List Int} (h : mayB k s e i t c L bo.length = true) : ∃ T, Print.bytesOf k s e i t c L bo = k :: (enc 8 s ++ (enc 8 e ++ T)) := by
  obtain ⟨⟨h1, h6⟩, _, _⟩ := mayB_head h
  exact ⟨tailOf k i t c L bo, by unfold Print.bytesOf headOf; rw [enc1 (by omega) (by omega)]; simp⟩
theorem rd_heads (k s e : Int) (T : List Int) (j : Nat) (hj : j < 8) : rd (k :: (enc 8 s ++ (enc 8 e ++ T))) ((j : Int) + 1) = s / 256 ^ (7 - j) % 256 ∧ rd (k :: (enc 8 s ++ (enc 8 e ++ T))) ((j : Int) + 9) = e / 256 ^ (7 - j) % 256 := by
  have l1 := enc_length 8 s
  have l2 := enc_length 8 e
  unfold rd
  rw [show ((j : Int) + 1).toNat = j + 1 by omega, show ((j : Int) + 9).toNat = (8 + j) + 1 by omega, List.getD_cons_succ, List.getD_cons_succ]
  have g1 := enc_get 8 s j hj
  have g2 := enc_get 8 e j hj
  rw [show 8 - 1 - j = 7 - j by omega] at g1 g2
  refine ⟨?_, ?_⟩
  · rw [← g1]
    simp only [List.getD_eq_getElem?_getD]
    rw [List.getElem?_append_left (by omega)]
  · rw [← g2]
    simp only [List.getD_eq_getElem?_getD]
    rw [List.getElem?_append_right (by omega), l1, show 8 + j - 8 = j by omega, List.getElem?_append_left (by omega)]
theorem plain : Pure := by
  intro x y g g'
  obtain ⟨k, s, e, i, t, c, L, bo⟩ := x
  obtain ⟨k', s', e', i', t', c', L', bo'⟩ := y
  obtain ⟨hk, _⟩ := g
  obtain ⟨hk', _⟩ := g'
  refine ⟨40, ?_⟩
  have j0 : ∀ n : Nat, precentorlaw03_ItemHeads.j0 (n + 1) true true k s e i t c L bo k' s' e' i' t' c' L' bo' = some true := fun n => by simp only [precentorlaw03_ItemHeads.j0]; rw [if_pos trivial]
  simp only [precentorlaw03_ItemHeads.f, precentorlaw03_shown.f]
  rw [Option.bind_some, few_if, Option.bind_some]
  split
  · rename_i hf
    rw [Bool.and_eq_true, decide_eq_true_eq, decide_eq_true_eq] at hf
    rw [few_if, Option.bind_some]
    split
    · rename_i hf'
      rw [Bool.and_eq_true, decide_eq_true_eq, decide_eq_true_eq] at hf'
      rw [show precentorref03_May.f k s e i t c L bo = some (mayB k s e i t c L bo.length) from if_pos (by omega), Option.bind_some]
      cases hm : mayB k s e i t c L bo.length
      · rw [if_neg Bool.false_ne_true]; exact j0 39
      · rw [if_pos rfl, show precentorref03_May.f k' s' e' i' t' c' L' bo' = some (mayB k' s' e' i' t' c' L' bo'.length) from if_pos (by omega), Option.bind_some]
        cases hm' : mayB k' s' e' i' t' c' L' bo'.length
        · exact j0 39
        · simp only [precentorlaw03_ItemHeads.j0, Bool.not_true]
          rw [if_neg Bool.false_ne_true, show item_Bytes.f k s e i t c L bo = some (Print.bytesOf k s e i t c L bo) from (if_pos ⟨hk, by omega, by omega⟩).trans (by rw [hm, if_pos rfl]), Option.bind_some,
            show item_Bytes.f k' s' e' i' t' c' L' bo' = some (Print.bytesOf k' s' e' i' t' c' L' bo') from (if_pos ⟨hk', by omega, by omega⟩).trans (by rw [hm', if_pos rfl]), Option.bind_some]
          obtain ⟨T, hT⟩ := bytes_at hm
          obtain ⟨T', hT'⟩ := bytes_at hm'
          obtain ⟨⟨k1, k6⟩, hs, he⟩ := mayB_head hm
          obtain ⟨⟨k1', k6'⟩, _, _⟩ := mayB_head hm'
          rw [hT, hT']
          have l1 : 17 ≤ (k :: (enc 8 s ++ (enc 8 e ++ T))).length := by simp [enc_length]; omega
          have l2 : 17 ≤ (k' :: (enc 8 s' ++ (enc 8 e' ++ T'))).length := by simp [enc_length]; omega
          rw [if_neg (by omega), if_neg (by omega), if_pos (by omega), show rd (k :: (enc 8 s ++ (enc 8 e ++ T))) 0 = k from rfl, wrap_id (by omega) (by omega), show (k != k) = false by simp]
          simp only [precentorlaw03_ItemHeads.j1]
          rw [if_neg Bool.false_ne_true]
          have key := heads_loop (B := k :: (enc 8 s ++ (enc 8 e ++ T))) (C := k' :: (enc 8 s' ++ (enc 8 e' ++ T'))) (k := k) (i := i) (t := t) (c := c) (L := L) (bo := bo) (k' := k') (s' := s') (e' := e') (i' := i') (t' := t') (c' := c') (L' := L') (bo' := bo') (by omega : 0 ≤ s ∧ s ≤ 4611686018427387904) he l1 (rd_heads k s e T) 8 0 38 rfl (by omega)
          rw [show s / 256 ^ (8 - 0) = 0 from Int.ediv_eq_zero_of_lt (by omega) (by omega), show e / 256 ^ (8 - 0) = 0 from Int.ediv_eq_zero_of_lt (by omega) (by omega)] at key
          refine Eq.trans key ?_
          split
          · rfl
          · rename_i hne
            refine congrArg some ?_
            rw [bne_iff_ne]
            intro h
            rw [Lib.strOfNums_toList, Lib.strOfNums_toList] at h
            unfold Lib.bytesOf at h
            rw [List.map_cons, List.map_cons] at h
            exact hne ((u8_eq ⟨by omega, by omega⟩ ⟨by omega, by omega⟩).1 (List.cons.inj h).1)
    · exact j0 39
  · exact j0 39
end Go.Proofs.YtocoikndkmdnkaaDoor.ItemHeadsS
