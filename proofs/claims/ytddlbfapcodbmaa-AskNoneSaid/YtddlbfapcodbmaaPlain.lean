/- Plain lemmas on gaps: what the program's steps come to within the bounds. Conditions stand in each lemma. -/
import Derived.Test.YtddlbfapcodbmaaPrint2
namespace Go.Proofs.Ytddlbfapcodbmaa.Plain
set_option linter.unusedVariables false
set_option linter.unusedSimpArgs false
open Go.RowKit Go.Proofs.Ytddlbfapcodbmaa.Print

theorem shown_true : precentorlaw10_shown.f = some true := by decide +kernel
theorem wrap_id {x : Int} (h0 : -9223372036854775808 ≤ x) (h : x ≤ 9223372036854775807) : wrap64 x = x := by
  unfold wrap64; omega
theorem wf_u8 {n : Int} (h : (Lit.int .u8 n).wf = true) : 0 ≤ n ∧ n ≤ 255 := by
  simpa [Lit.wf, IntKind.min, IntKind.max, IntKind.bits, IntKind.signed] using h
theorem wf_u16 {n : Int} (h : (Lit.int .u16 n).wf = true) : 0 ≤ n ∧ n ≤ 65535 := by
  simpa [Lit.wf, IntKind.min, IntKind.max, IntKind.bits, IntKind.signed] using h
theorem wf_u32 {n : Int} (h : (Lit.int .u32 n).wf = true) : 0 ≤ n ∧ n ≤ 4294967295 := by
  simpa [Lit.wf, IntKind.min, IntKind.max, IntKind.bits, IntKind.signed] using h
/-- A small number, cut down. -/
theorem cut {x n : Int} (h0 : 0 ≤ x) (h : x ≤ 4294967295) : Int.tmod (wrap64 x) n = x % n := by
  rw [wrap_id (by omega) (by omega), Int.tmod_eq_emod_of_nonneg h0]

theorem step_off (due now wait : Int) : ask_Step.f due now wait false = some (0, false) := rfl
theorem step_new {now : Int} (wait : Int) (h0 : 0 ≤ now) (h : now ≤ 4611686018427387904) : ask_Step.f 0 now wait true = some (now + 1, false) := by
  simp only [ask_Step.f, Bool.true_eq_false, if_false, if_true]
  rw [wrap_id (by omega) (by omega)]
theorem step_fire {due now wait : Int} (hd : due ≠ 0) (hle : due ≤ now) (h0 : 0 ≤ now) (h : now ≤ 4611686018427387904) (hw : 1 ≤ wait) (hw2 : wait ≤ 1000) : ask_Step.f due now wait true = some (now + wait, true) := by
  simp only [ask_Step.f, Bool.true_eq_false, if_false]
  rw [if_neg hd, if_pos hle, wrap_id (x := now + wait) (by omega) (by omega), wrap_id (x := now + wait - 1) (by omega) (by omega), show now + wait - 1 + 1 = now + wait by omega, wrap_id (by omega) (by omega)]
theorem step_wait {due now : Int} (wait : Int) (hd : due ≠ 0) (hle : now < due) : ask_Step.f due now wait true = some (due, false) := by
  simp only [ask_Step.f, Bool.true_eq_false, if_false]
  rw [if_neg hd, if_neg (by omega)]
theorem step_some (due now wait : Int) (gap : Bool) : ∃ r, ask_Step.f due now wait gap = some r := by
  unfold ask_Step.f
  repeat' split
  all_goals exact ⟨_, rfl⟩
/-- How far the next time is. -/
theorem mod_pred {x w : Int} (hw : 1 ≤ w) : (x % w = 0 → (x - 1) % w = w - 1) ∧ (x % w ≠ 0 → (x - 1) % w = x % w - 1) := by
  have h1 := Int.emod_nonneg x (show w ≠ 0 by omega)
  have h2 := Int.emod_lt_of_pos x (show 0 < w by omega)
  have e : (x - 1) % w = (x % w - 1) % w := by
    rw [Int.sub_eq_add_neg, Int.sub_eq_add_neg, Int.emod_add_emod]
  constructor
  · intro h
    rw [e, h, show (0 : Int) - 1 = -1 + w * 0 by omega, ← Int.emod_emod_of_dvd _ (Int.dvd_refl w)]
    rw [show (-1 + w * 0 : Int) = (w - 1) + w * (-1) by omega, Int.add_mul_emod_self_left, Int.emod_emod_of_dvd _ (Int.dvd_refl w), Int.emod_eq_of_lt (by omega) (by omega)]
  · intro h
    rw [e, Int.emod_eq_of_lt (by omega) (by omega)]
theorem neg_mod_zero {x w : Int} : (-x) % w = 0 ↔ x % w = 0 := by
  rw [← Int.dvd_iff_emod_eq_zero, ← Int.dvd_iff_emod_eq_zero, Int.dvd_neg]
/-- What watches a gap that has been there k ticks, at the tick t (k at least 1). -/
def dueAt (t k w : Int) : Int := t + (1 - k) % w
theorem due_bounds {t k w : Int} (hw : 1 ≤ w) : t ≤ dueAt t k w ∧ dueAt t k w ≤ t + w - 1 := by
  have h1 := Int.emod_nonneg (1 - k) (show w ≠ 0 by omega)
  have h2 := Int.emod_lt_of_pos (1 - k) (show 0 < w by omega)
  unfold dueAt; omega
theorem due_one (t w : Int) : dueAt t 1 w = t := by unfold dueAt; simp
/-- One tick of a gap that stays. -/
theorem step_due {t k w : Int} (ht : 1 ≤ t) (ht2 : t ≤ 4611686018427387904) (hw : 1 ≤ w) (hw2 : w ≤ 1000) :
    ask_Step.f (dueAt t k w) t w true = some (dueAt (t + 1) (k + 1) w, decide ((k - 1) % w = 0)) := by
  have hb := due_bounds (t := t) (k := k) hw
  have hz : (1 - k) % w = 0 ↔ (k - 1) % w = 0 := by rw [show 1 - k = -(k - 1) by omega]; exact neg_mod_zero
  obtain ⟨p1, p2⟩ := mod_pred (x := 1 - k) hw
  by_cases h : (1 - k) % w = 0
  · rw [step_fire (by omega) (by unfold dueAt; omega) (by omega) ht2 hw hw2]
    have := p1 h
    unfold dueAt
    rw [show 1 - (k + 1) = 1 - k - 1 by omega, this, decide_eq_true (hz.1 h)]
    congr 2; omega
  · have h1 := Int.emod_nonneg (1 - k) (show w ≠ 0 by omega)
    rw [step_wait _ (by omega) (by unfold dueAt; omega)]
    have := p2 h
    unfold dueAt
    rw [show 1 - (k + 1) = 1 - k - 1 by omega, this, decide_eq_false (fun hk => h (hz.2 hk))]
    congr 2; omega
end Go.Proofs.Ytddlbfapcodbmaa.Plain
