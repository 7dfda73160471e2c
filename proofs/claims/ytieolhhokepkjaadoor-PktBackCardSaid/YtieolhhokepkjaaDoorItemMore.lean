/- More of items' bytes: plain laws that the statements share. Conditions stand in each theorem. -/
import Derived.Test.YtieolhhokepkjaaDoorItemPlain
import Derived.Test.YtieolhhokepkjaaDoorBase1
import Derived.Lib.Bytes
namespace Go.Proofs.YtieolhhokepkjaaDoor.Print
set_option linter.unusedVariables false
set_option linter.unusedSimpArgs false
open Go.RowKit Go.Proofs.YtieolhhokepkjaaDoorW.PrintWords Go.Proofs.YtieolhhokepkjaaDoorW.PrintLast Go.Proofs.YtieolhhokepkjaaDoorW.PrintMore Go.Proofs.YtieolhhokepkjaaDoor.NumPlain
theorem str_eq {l m : List Int} (hl : By l) (hm : By m) : (strOfNums l).toList = (strOfNums m).toList ↔ l = m := by
  rw [Lib.strOfNums_toList, Lib.strOfNums_toList]
  unfold Lib.bytesOf
  constructor
  · intro h
    induction l generalizing m with
    | nil => cases m; rfl; simp at h
    | cons c l ih =>
      cases m with
      | nil => simp at h
      | cons d m =>
        simp only [List.map_cons, List.cons.injEq] at h
        have h1 := hl c List.mem_cons_self
        have h2 := hm d List.mem_cons_self
        have h3 := congrArg UInt8.toNat h.1
        rw [UInt8.toNat_ofNat', UInt8.toNat_ofNat'] at h3
        rw [show c = d by omega, ih (fun x hx => hl x (List.mem_cons_of_mem _ hx)) (fun x hx => hm x (List.mem_cons_of_mem _ hx)) h.2]
  · intro h; rw [h]
theorem by_bytes (k s e i t c : Int) (L : List Int) {bo : List Int} (hb : By bo) : By (Print.bytesOf k s e i t c L bo) := by
  have hh : By (headOf k s e) := ((enc_by 1 k).append (enc_by 8 s)).append (enc_by 8 e)
  refine hh.append ?_
  unfold tailOf
  repeat' split
  · exact ((enc_by 1 i).append (enc_by 1 t)).append hb
  · exact (enc_by 1 i).append (flat_by 1 L)
  · exact enc_by 1 i
  · exact enc_by 8 c
  · exact flat_by 8 L
  · exact fun _ h => absurd h List.not_mem_nil
theorem few_is (a b c d e f : Int) (L bo : List Int) : precentorref03_Few.f a b c d e f L bo = some (decide (L.length ≤ 80) && decide (bo.length ≤ 1100)) := by
  unfold precentorref03_Few.f
  by_cases h : L.length ≤ 80
  · rw [if_pos (by omega), decide_eq_true h, Bool.true_and]
    by_cases h2 : bo.length ≤ 1100
    · rw [decide_eq_true h2, decide_eq_true (by omega)]
    · rw [decide_eq_false h2, decide_eq_false (by omega)]
  · rw [if_neg (by omega), decide_eq_false h, Bool.false_and]
theorem may_len {k s e i t c : Int} {L : List Int} {m : Nat} (h : mayB k s e i t c L m = true) : L.length ≤ 64 ∧ m ≤ 1024 := by
  obtain ⟨_, _, hk⟩ := may_is h
  rcases hk with ⟨_, _, _, _, _, _, rfl, _⟩ | ⟨_, _, _, _, _, _, _, _, _⟩ | ⟨_, _, _, _, rfl, _⟩ | ⟨_, _, _, _, _, rfl, _⟩ | ⟨_, _, _, rfl, _, _, _⟩ | ⟨_, _, _, _, _, _, _, _⟩ <;> first | omega | (simp; omega)
theorem wf_kind {k : Int} (h1 : 1 ≤ k) (h6 : k ≤ 6) : (Lit.int .i64 k).wf = true := by
  have : k = 1 ∨ k = 2 ∨ k = 3 ∨ k = 4 ∨ k = 5 ∨ k = 6 := by omega
  rcases this with rfl | rfl | rfl | rfl | rfl | rfl <;> decide
theorem okL_by {l : List Int} (hb : By l) (hl : l.length < 10000) : okL l = true := by
  unfold okL
  rw [Bool.and_eq_true, List.all_eq_true, decide_eq_true_eq]
  exact ⟨fun x hx => decide_eq_true (hb x hx), hl⟩
theorem bytes_len {k s e i t c : Int} {L bo : List Int} (h : mayB k s e i t c L bo.length = true) : 17 ≤ (Print.bytesOf k s e i t c L bo).length ∧ (Print.bytesOf k s e i t c L bo).length ≤ 1100 := by
  have hL := may_len h
  have hk := may_is h
  have hl : (headOf k s e).length = 17 := by unfold headOf; simp [enc_length]
  have ht : (tailOf k i t c L bo).length ≤ 1030 := by
    unfold tailOf
    have f1 := flat_length 1 L
    have f8 := flat_length 8 L
    rw [show Int.toNat 1 = 1 from rfl] at f1
    rw [show Int.toNat 8 = 8 from rfl] at f8
    repeat' split
    all_goals first | omega | (simp [enc_length]; omega) | simp [enc_length]
  unfold Print.bytesOf
  rw [List.length_append, hl]
  omega
theorem same_refl (k s e i t c : Int) (L bo : List Int) : sameB k s e i t c L bo k s e i t c L bo = true := by unfold sameB; simp
theorem same_iff {k s e i t c : Int} {L bo : List Int} {k' s' e' i' t' c' : Int} {L' bo' : List Int} (hb : By bo) (hb' : By bo') :
    sameB k s e i t c L bo k' s' e' i' t' c' L' bo' = true ↔ (k, s, e, i, t, c, L, bo) = (k', s', e', i', t', c', L', bo') := by
  unfold sameB
  simp only [Bool.and_eq_true, beq_iff_eq, decide_eq_true_eq, Prod.mk.injEq, str_eq hb hb']
theorem bytes_inj {k s e i t c : Int} {L bo : List Int} {k' s' e' i' t' c' : Int} {L' bo' : List Int} (h : mayB k s e i t c L bo.length = true) (h' : mayB k' s' e' i' t' c' L' bo'.length = true)
    (he : Print.bytesOf k s e i t c L bo = Print.bytesOf k' s' e' i' t' c' L' bo') : (k, s, e, i, t, c, L, bo) = (k', s', e', i', t', c', L', bo') := by
  have h1 := take_bytes h
  have h2 := take_bytes h'
  rw [he, h2] at h1
  exact (Option.some.inj h1).symm
end Go.Proofs.YtieolhhokepkjaaDoor.Print
