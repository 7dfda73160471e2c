/- ItemBack, the plain law. No condition. -/
import Derived.Test.YtocoikndkmdnkaaDoorSayItemBack
import Derived.Test.YtocoikndkmdnkaaDoorItemPlain
namespace Go.Proofs.YtocoikndkmdnkaaDoor.ItemBackS
set_option linter.unusedVariables false
set_option linter.unusedSimpArgs false
open Go.RowKit Go.Proofs.YtocoikndkmdnkaaDoor.Print Go.Proofs.YtocoikndkmdnkaaDoor.Opens Go.Proofs.YtocoikndkmdnkaaDoor.NumPlain
open Go.Proofs.YtocoikndkmdnkaaDoorW.PrintWords Go.Proofs.YtocoikndkmdnkaaDoorW.PrintLast

theorem bytes_ok {k s e i t c : Int} {L bo : List Int} (h : mayB k s e i t c L bo.length = true) (hb : By bo) : okL (Print.bytesOf k s e i t c L bo) = true ∧ 17 ≤ (Print.bytesOf k s e i t c L bo).length := by
  obtain ⟨hs, he, hk⟩ := may_is h
  have hh : By (headOf k s e) := ((enc_by 1 k).append (enc_by 8 s)).append (enc_by 8 e)
  have hl : (headOf k s e).length = 17 := by unfold headOf; simp [enc_length]
  have ht : By (tailOf k i t c L bo) ∧ (tailOf k i t c L bo).length ≤ 2000 := by
    unfold tailOf
    have f1 := flat_length 1 L
    have f8 := flat_length 8 L
    rw [show Int.toNat 1 = 1 from rfl] at f1
    rw [show Int.toNat 8 = 8 from rfl] at f8
    have hL : L.length ≤ 64 ∧ bo.length ≤ 1024 := by
      rcases hk with ⟨_, _, _, _, _, _, rfl, _⟩ | ⟨_, _, _, _, _, _, _, _, _⟩ | ⟨_, _, _, _, rfl, _⟩ | ⟨_, _, _, _, _, rfl, _⟩ | ⟨_, _, _, rfl, _, _, _⟩ | ⟨_, _, _, _, _, _, _, _⟩ <;> first | omega | (simp; omega)
    repeat' split
    · exact ⟨((enc_by 1 i).append (enc_by 1 t)).append hb, by simp [enc_length]; omega⟩
    · exact ⟨(enc_by 1 i).append (flat_by 1 L), by simp [enc_length]; omega⟩
    · exact ⟨enc_by 1 i, by simp [enc_length]⟩
    · exact ⟨enc_by 8 c, by simp [enc_length]⟩
    · exact ⟨flat_by 8 L, by omega⟩
    · exact ⟨fun _ h => absurd h List.not_mem_nil, by simp⟩
  have hB : By (Print.bytesOf k s e i t c L bo) := hh.append ht.1
  have hBl : (Print.bytesOf k s e i t c L bo).length = 17 + (tailOf k i t c L bo).length := by unfold Print.bytesOf; rw [List.length_append, hl]
  have := ht.2
  refine ⟨?_, by omega⟩
  unfold okL
  rw [Bool.and_eq_true, List.all_eq_true, decide_eq_true_eq]
  exact ⟨fun x hx => decide_eq_true (hB x hx), by omega⟩
theorem okL_of {l : List Int} (hb : By l) (hl : l.length < 10000) : okL l = true := by
  unfold okL
  rw [Bool.and_eq_true, List.all_eq_true, decide_eq_true_eq]
  exact ⟨fun x hx => decide_eq_true (hb x hx), hl⟩
theorem wf_small {k : Int} (h1 : 1 ≤ k) (h6 : k ≤ 6) : (Lit.int .i64 k).wf = true := by
  have : k = 1 ∨ k = 2 ∨ k = 3 ∨ k = 4 ∨ k = 5 ∨ k = 6 := by omega
  rcases this with rfl | rfl | rfl | rfl | rfl | rfl <;> decide
theorem j1_yes {k s e i t c : Int} {L bo : List Int} (n : Nat) (hw : (Lit.int .i64 k).wf = true) (hL : L.length < 10000) (B : List Int) (hB : B = if mayB k s e i t c L bo.length = true then Print.bytesOf k s e i t c L bo else [])
    (hbo : By bo) : precentorlaw03_ItemBack.j1 (n + 1) true B (tell9 (takeItem B)).2.2.2.2.2.2.2.2 false k s e i t c L bo (tell9 (takeItem B)).1 (tell9 (takeItem B)).2.1 (tell9 (takeItem B)).2.2.1 (tell9 (takeItem B)).2.2.2.1 (tell9 (takeItem B)).2.2.2.2.1 (tell9 (takeItem B)).2.2.2.2.2.1 (tell9 (takeItem B)).2.2.2.2.2.2.1 (tell9 (takeItem B)).2.2.2.2.2.2.2.1 = some true := by
  simp only [precentorlaw03_ItemBack.j1]
  rw [if_neg Bool.false_ne_true, show item_May.f k s e i t c L bo = some (mayB k s e i t c L bo.length) from if_pos hw, Option.bind_some]
  cases hm : mayB k s e i t c L bo.length
  · rw [hm, if_neg Bool.false_ne_true] at hB
    subst hB
    rw [if_neg Bool.false_ne_true, if_pos trivial]; rfl
  · rw [hm, if_pos rfl] at hB
    subst hB
    rw [if_pos rfl, if_pos trivial, take_bytes hm]
    simp only [tell9]
    rw [if_pos trivial, show precentorref03_Same.f k s e i t c L bo k s e i t c L bo = some true from (if_pos hL).trans (by unfold sameB; simp), Option.bind_some, if_pos rfl]
    have := (bytes_ok hm hbo).2
    rw [decide_eq_true (by omega)]
theorem plain : Pure := by
  intro x l g hl
  obtain ⟨k, s, e, i, t, c, L, bo⟩ := x
  obtain ⟨hk, _, _, _, _, _, hL, hbo⟩ := g
  have hbo := by_of hbo.2
  have hb := by_of hl.2
  refine ⟨10, ?_⟩
  simp only [precentorlaw03_ItemBack.f, precentorlaw03_shown.f, precentorref03_Few.f]
  rw [Option.bind_some]
  by_cases h80 : (L.length : Int) ≤ 80
  · rw [if_pos h80, Option.bind_some]
    by_cases h11 : (bo.length : Int) ≤ 1100
    · rw [decide_eq_true h11, if_pos rfl]
      by_cases h12 : (l.length : Int) > 1200
      · rw [decide_eq_true h12]
        simp only [precentorlaw03_ItemBack.j0]
        rw [if_pos trivial]
      · rw [decide_eq_false h12]
        simp only [precentorlaw03_ItemBack.j0]
        obtain ⟨B, hB⟩ : ∃ B, B = if mayB k s e i t c L bo.length = true then Print.bytesOf k s e i t c L bo else [] := ⟨_, rfl⟩
        have hokB : okL B = true := by
          cases hm : mayB k s e i t c L bo.length
          · rw [hm, if_neg Bool.false_ne_true] at hB
            subst hB; rfl
          · rw [hm, if_pos rfl] at hB
            subst hB; exact (bytes_ok hm hbo).1
        rw [if_neg Bool.false_ne_true, show item_Bytes.f k s e i t c L bo = some B from (if_pos ⟨hk, by omega, by omega⟩).trans (by rw [hB]), Option.bind_some,
          show item_Take.f B = some (tell9 (takeItem B)) from if_pos hokB, Option.bind_some, show item_Take.f l = some (tell9 (takeItem l)) from if_pos (okL_of hb (by omega)), Option.bind_some]
        have key := j1_yes (k := k) (s := s) (e := e) (i := i) (t := t) (c := c) (L := L) (bo := bo) 8 hk (by omega) B hB hbo
        cases ht : takeItem l with
        | none => exact key
        | some p =>
          obtain ⟨k', s', e', i', t', c', L', bo'⟩ := p
          obtain ⟨hm, hbb⟩ := take_inv hb (by omega) ht
          have hK := mayB_head hm
          have hL' : L'.length < 10000 ∧ bo'.length < 100000000 := by
            obtain ⟨_, _, hk⟩ := may_is hm
            rcases hk with ⟨_, _, _, _, _, _, rfl, _⟩ | ⟨_, _, _, _, _, _, _, _, _⟩ | ⟨_, _, _, _, rfl, _⟩ | ⟨_, _, _, _, _, rfl, _⟩ | ⟨_, _, _, rfl, _, _, _⟩ | ⟨_, _, _, _, _, _, _, _⟩ <;> first | omega | (simp; omega)
          have hw := wf_small hK.1.1 hK.1.2
          simp only [tell9]
          rw [if_pos trivial, show item_May.f k' s' e' i' t' c' L' bo' = some true from (if_pos hw).trans (by rw [hm]), Option.bind_some, if_pos rfl,
            show item_Bytes.f k' s' e' i' t' c' L' bo' = some l from (if_pos ⟨hw, hL'.1, hL'.2⟩).trans (by rw [hm, if_pos rfl, hbb]), Option.bind_some, show ((strOfNums l).toList != (strOfNums l).toList) = false by simp]
          exact key
    · rw [decide_eq_false h11, if_neg Bool.false_ne_true]
      simp only [precentorlaw03_ItemBack.j0]
      rw [if_pos trivial]
  · rw [if_neg h80, Option.bind_some, if_neg Bool.false_ne_true]
    simp only [precentorlaw03_ItemBack.j0]
    rw [if_pos trivial]
end Go.Proofs.YtocoikndkmdnkaaDoor.ItemBackS
