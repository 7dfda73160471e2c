/- The document's Take gives what item.Take gives: plain laws. Conditions stand in each theorem. -/
import Derived.Test.YtocoikndkmdnkaaDoorHandT
import Derived.Test.YtocoikndkmdnkaaDoorItemMore
namespace Go.Proofs.YtocoikndkmdnkaaDoor.Print
set_option linter.unusedVariables false
set_option linter.unusedSimpArgs false
open Go.RowKit Go.Proofs.YtocoikndkmdnkaaDoorW.PrintWords Go.Proofs.YtocoikndkmdnkaaDoorW.PrintLast Go.Proofs.YtocoikndkmdnkaaDoorW.PrintMore Go.Proofs.YtocoikndkmdnkaaDoor.NumPlain
theorem ref_take_bytes {k s e i t c : Int} {L bo : List Int} (h : mayB k s e i t c L bo.length = true) : refTake (Print.bytesOf k s e i t c L bo) = some (k, s, e, i, t, c, L, bo) := by
  obtain ⟨hs, he, hk⟩ := may_is h
  have key : ∀ T : List Int, tailOf k i t c L bo = T → 1 ≤ k → k ≤ 6 → candM k T = ⟨true, i, t, c, L, bo, []⟩ → refTake (Print.bytesOf k s e i t c L bo) = some (k, s, e, i, t, c, L, bo) := by
    intro T hT k1 k6 hm
    have hB : Print.bytesOf k s e i t c L bo = k :: ((enc 8 s ++ enc 8 e) ++ T) := by unfold Print.bytesOf headOf; rw [hT, enc1 (by omega) (by omega)]; simp
    have h16 : (enc 8 s ++ enc 8 e).length = 16 := by simp [enc_length]
    have hrow := rowS_flat (W := 8) [s, e] [] (fun x hx => ⟨Or.inr (Or.inr rfl), by simp at hx; rcases hx with rfl | rfl <;> omega, by simp at hx; rcases hx with rfl | rfl; exact hs.2; exact he.2⟩)
    have hf : flat 8 [s, e] = enc 8 s ++ enc 8 e := by simp [flat]
    rw [hf, List.append_nil] at hrow
    have hrow : rowS 8 2 (enc 8 s ++ enc 8 e) = some ([s, e], []) := hrow
    have e1 : ((Print.bytesOf k s e i t c L bo).take 17).drop 1 = enc 8 s ++ enc 8 e := by rw [hB]; exact List.take_left' h16
    have e2 : (Print.bytesOf k s e i t c L bo).drop 17 = T := by rw [hB]; exact List.drop_left' h16
    have e3 : (Print.bytesOf k s e i t c L bo).headD 0 = k := by rw [hB]; rfl
    have e4 : ¬ (Print.bytesOf k s e i t c L bo).length < 17 := by rw [hB, List.length_cons, List.length_append, h16]; omega
    unfold refTake
    rw [if_neg e4, e1, hrow]
    simp only []
    rw [e2, e3, hm]
    unfold refItem
    rw [if_pos (by rw [show rd [s, e] 0 = s from rfl, show rd [s, e] 1 = e from rfl]; simp [h])]
    rfl
  have c1 : ∀ T : List Int, k ≠ 1 → ∀ m, cand1 k T m = m := fun T hk m => if_neg (fun h => hk h.1)
  have c2 : ∀ T : List Int, k ≠ 2 → ∀ m, cand2 k T m = m := fun T hk m => if_neg (fun h => hk h.1)
  have c4 : ∀ T : List Int, k ≠ 4 → ∀ m, cand4 k T m = m := fun T hk m => if_neg (fun h => hk h.1)
  have c5 : ∀ T : List Int, k ≠ 5 → ∀ m, cand5 k T m = m := fun T hk m => if_neg hk
  have c6 : ∀ T : List Int, k ≠ 6 → ∀ m, cand6 k T m = m := fun T hk m => if_neg hk
  rcases hk with ⟨rfl, h1, h2, h3, h4, rfl, rfl, h5⟩ | ⟨rfl, rfl, rfl, h1, h2, h3, h4, h5, h6⟩ | ⟨rfl, rfl, rfl, rfl, rfl, h1⟩ | ⟨rfl, rfl, rfl, h1, h2, rfl, h3⟩ | ⟨rfl, rfl, rfl, rfl, h1, h2, h3⟩ | ⟨rfl, rfl, rfl, rfl, h1, h2, h3, h4⟩
  · refine key (i :: t :: bo) ?_ (by decide) (by decide) ?_
    · unfold tailOf
      rw [if_pos rfl, enc1 h3 (by omega), enc1 (by omega) (by omega)]; rfl
    · unfold candM
      rw [c6 _ (by decide), c5 _ (by decide), c4 _ (by decide), c2 _ (by decide)]
      unfold cand1
      rw [if_pos ⟨rfl, by simp⟩]; rfl
  · obtain rfl := List.length_eq_zero_iff.1 h6
    refine key (i :: flat 1 L) ?_ (by decide) (by decide) ?_
    · unfold tailOf
      rw [if_neg (by decide), if_pos rfl, enc1 h1 (by omega)]; rfl
    · unfold candM
      rw [c6 _ (by decide), c5 _ (by decide), c4 _ (by decide), c1 _ (by decide)]
      unfold cand2
      rw [if_pos ⟨rfl, by simp⟩, show (i :: flat 1 L).drop 1 = flat 1 L from rfl, rowT_flat (Or.inl rfl) (fun x hx => ⟨Or.inl rfl, (h5 x hx).1, by have := (h5 x hx).2; show x ≤ 255; omega⟩) (by omega)]; rfl
  · obtain rfl := List.length_eq_zero_iff.1 h1
    refine key [] rfl (by decide) (by decide) ?_
    unfold candM
    rw [c6 _ (by decide), c5 _ (by decide), c4 _ (by decide), c2 _ (by decide), c1 _ (by decide)]; rfl
  · obtain rfl := List.length_eq_zero_iff.1 h3
    refine key [i] ?_ (by decide) (by decide) ?_
    · unfold tailOf
      rw [if_neg (by decide), if_neg (by decide), if_pos rfl, enc1 h1 (by omega)]
    · unfold candM
      rw [c6 _ (by decide), c5 _ (by decide), c2 _ (by decide), c1 _ (by decide)]
      unfold cand4
      rw [if_pos ⟨rfl, by simp⟩]; rfl
  · obtain rfl := List.length_eq_zero_iff.1 h1
    refine key (enc 8 c) rfl (by decide) (by decide) ?_
    unfold candM
    rw [c6 _ (by decide), c4 _ (by decide), c2 _ (by decide), c1 _ (by decide)]
    unfold cand5
    rw [if_pos rfl, take8_enc h2 h3]; rfl
  · obtain rfl := List.length_eq_zero_iff.1 h4
    refine key (flat 8 L) rfl (by decide) (by decide) ?_
    unfold candM
    rw [c5 _ (by decide), c4 _ (by decide), c2 _ (by decide), c1 _ (by decide)]
    unfold cand6
    rw [if_pos rfl, rowT_flat (Or.inr (Or.inr rfl)) (fun x hx => ⟨Or.inr (Or.inr rfl), (h3 x hx).1, (h3 x hx).2⟩) (by omega)]; rfl
theorem cand_by (k : Int) {c : List Int} (hb : By c) : By (candM k c).bo := by
  have h0 : By m0.bo := fun _ h => absurd h List.not_mem_nil
  have a1 : ∀ m : RMid, By m.bo → By (cand1 k c m).bo := fun m h => by
    unfold cand1; split
    · exact hb.drop 2
    · exact h
  have a2 : ∀ m : RMid, By m.bo → By (cand2 k c m).bo := fun m h => by unfold cand2; split <;> exact h
  have a4 : ∀ m : RMid, By m.bo → By (cand4 k c m).bo := fun m h => by unfold cand4; split <;> exact h
  have a5 : ∀ m : RMid, By m.bo → By (cand5 k c m).bo := fun m h => by unfold cand5; split <;> exact h
  have a6 : ∀ m : RMid, By m.bo → By (cand6 k c m).bo := fun m h => by unfold cand6; split <;> exact h
  exact a6 _ (a5 _ (a4 _ (a2 _ (a1 _ h0))))
theorem ref_take_is {l : List Int} (hb : By l) (hl : l.length < 5000) : refTake l = takeItem l := by
  cases ht : takeItem l with
  | some p =>
    obtain ⟨k, s, e, i, t, c, L, bo⟩ := p
    obtain ⟨hm, hbb⟩ := take_inv hb (by omega) ht
    rw [← hbb]
    exact ref_take_bytes hm
  | none =>
    unfold refTake
    split
    · rfl
    · cases hr : rowS 8 2 ((l.take 17).drop 1) with
      | none => rfl
      | some p =>
        obtain ⟨xs, r⟩ := p
        show refItem _ _ _ _ l = none
        unfold refItem
        rw [if_neg]
        intro hq
        rw [Bool.and_eq_true, beq_iff_eq] at hq
        have hbo := cand_by (l.headD 0) (hb.drop 17)
        have he := (str_eq (by_bytes _ _ _ _ _ _ _ hbo) hb).1 hq.2
        have h2 := take_bytes hq.1
        rw [he, ht] at h2
        cases h2
end Go.Proofs.YtocoikndkmdnkaaDoor.Print
