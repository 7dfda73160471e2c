/- AskHushed, the plain law. No condition. -/
import Derived.Test.YtddlbfapcodbmaaSayAskHushed
import Derived.Test.YtddlbfapcodbmaaPlain
namespace Go.Proofs.Ytddlbfapcodbmaa.AskHushedS
set_option linter.unusedVariables false
set_option linter.unusedSimpArgs false
open Go.RowKit Go.Proofs.Ytddlbfapcodbmaa.Print Go.Proofs.Ytddlbfapcodbmaa.Plain
open Go.Proofs.YtddlbfapcodbmaaW.PrintWords Go.Proofs.YtddlbfapcodbmaaW.PrintLast Go.Proofs.YtddlbfapcodbmaaW.PrintMore

theorem hush_val {due now wait : Int} (hd : due ≠ 0) (hle : due ≤ now + wait) (h0 : 0 ≤ now) (h1 : now ≤ 4611686018427387904) (hw : 1 ≤ wait) (hw2 : wait ≤ 1000) : ask_Hush.f due now wait = some (now + wait) := by
  unfold ask_Hush.f mx
  rw [if_neg hd, wrap_id (x := now + wait) (by omega) (by omega)]
  split
  · rfl
  · congr 1; omega

/-- Behind the hushed gap's time: nothing counts any more. -/
theorem after {t w h : Int} (ht : 0 ≤ t) (ht2 : t ≤ 4294967295) (hw : 1 ≤ w) (hw2 : w ≤ 30) (hh : 1 ≤ h) (hh2 : h ≤ 60) (d : Nat) :
    ∀ (k : Nat) (i due : Int), 120 - i = d → h + w < i → 3 * d < k → precentorlaw10_AskHushed.l0 k t true w h (h + w) i due = some true := by
  induction d with
  | zero =>
    intro k i due hd hi hk
    obtain ⟨k, rfl⟩ : ∃ m, k = m + 1 := ⟨k - 1, by omega⟩
    simp only [precentorlaw10_AskHushed.l0]
    rw [if_neg (by omega), wrap_id (x := h + w) (by omega) (by omega)]
    simp [ask_Hush.f]
  | succ d ih =>
    intro k i due hd hi hk
    obtain ⟨k, rfl⟩ : ∃ m, k = m + 3 := ⟨k - 3, by omega⟩
    simp only [precentorlaw10_AskHushed.l0]
    rw [if_pos (by omega)]
    obtain ⟨r, hr⟩ := step_some due (wrap64 (wrap64 t + i)) w true
    rw [hr]
    simp only [Option.bind_some]
    rw [if_pos (by omega), if_neg (by omega)]
    simp only [precentorlaw10_AskHushed.j1, precentorlaw10_AskHushed.j2, Bool.false_eq_true, if_false]
    rw [if_neg (by omega), wrap_id (x := i + 1) (by omega) (by omega)]
    exact ih k (i + 1) r.1 (by omega) (by omega) (by omega)

/-- Behind the hush, up to its time. -/
theorem hushed {t w h : Int} (ht : 0 ≤ t) (ht2 : t ≤ 4294967295) (hw : 1 ≤ w) (hw2 : w ≤ 30) (hh : 1 ≤ h) (hh2 : h ≤ 60) (d : Nat) :
    ∀ (k : Nat) (i : Int), h + w - i = d → h < i → 3 * d + 3 * 120 < k → precentorlaw10_AskHushed.l0 k t true w h (-1) i (t + h + w) = some true := by
  induction d with
  | zero =>
    intro k i hd hi hk
    obtain ⟨k, rfl⟩ : ∃ m, k = m + 3 := ⟨k - 3, by omega⟩
    simp only [precentorlaw10_AskHushed.l0]
    rw [if_pos (by omega), wrap_id (x := t) (by omega) (by omega), wrap_id (x := t + i) (by omega) (by omega), step_fire (by omega) (by omega) (by omega) (by omega) hw (by omega)]
    simp only [Option.bind_some]
    rw [if_pos (by omega), if_pos (by omega)]
    simp only [precentorlaw10_AskHushed.j1, precentorlaw10_AskHushed.j2, if_true]
    rw [if_neg (by omega), wrap_id (x := i + 1) (by omega) (by omega), show i = h + w by omega]
    exact after ht ht2 hw hw2 hh hh2 (120 - (h + w + 1)).toNat k (h + w + 1) _ (by omega) (by omega) (by omega)
  | succ d ih =>
    intro k i hd hi hk
    obtain ⟨k, rfl⟩ : ∃ m, k = m + 3 := ⟨k - 3, by omega⟩
    simp only [precentorlaw10_AskHushed.l0]
    rw [if_pos (by omega), wrap_id (x := t) (by omega) (by omega), wrap_id (x := t + i) (by omega) (by omega), step_wait w (by omega) (by omega)]
    simp only [Option.bind_some]
    rw [if_pos (by omega), if_pos (by omega)]
    simp only [precentorlaw10_AskHushed.j1, precentorlaw10_AskHushed.j2, Bool.false_eq_true, if_false]
    rw [if_neg (by omega), wrap_id (x := i + 1) (by omega) (by omega)]
    exact ih k (i + 1) (by omega) (by omega) (by omega)

/-- Up to the hush. -/
theorem before {t w h : Int} (ht : 0 ≤ t) (ht2 : t ≤ 4294967295) (hw : 1 ≤ w) (hw2 : w ≤ 30) (hh : 1 ≤ h) (hh2 : h ≤ 60) (d : Nat) :
    ∀ (k : Nat) (i due : Int), 0 ≤ i → h - i = d → (i = 0 ∧ due = 0 ∨ 1 ≤ i ∧ due = dueAt (t + i) i w) → 3 * d + 3 * 160 < k → precentorlaw10_AskHushed.l0 k t true w h (-1) i due = some true := by
  induction d with
  | zero =>
    intro k i due h0 hd hinv hk
    obtain ⟨k, rfl⟩ : ∃ m, k = m + 3 := ⟨k - 3, by omega⟩
    rcases hinv with ⟨hi, _⟩ | ⟨hi, rfl⟩
    · omega
    have hb := due_bounds (t := t + i + 1) (k := i + 1) hw
    simp only [precentorlaw10_AskHushed.l0]
    rw [if_pos (by omega), wrap_id (x := t) (by omega) (by omega), wrap_id (x := t + i) (by omega) (by omega), step_due (by omega) (by omega) hw (by omega)]
    simp only [Option.bind_some]
    rw [if_neg (by omega)]
    simp only [precentorlaw10_AskHushed.j1, precentorlaw10_AskHushed.j2, Bool.false_eq_true, if_false]
    rw [if_pos (by omega), wrap_id (x := t) (by omega) (by omega), wrap_id (x := t + i) (by omega) (by omega), hush_val (by omega) (by omega) (by omega) (by omega) hw (by omega)]
    simp only [Option.bind_some]
    rw [if_neg (by omega), wrap_id (x := i + 1) (by omega) (by omega), show t + i + w = t + h + w by omega]
    exact hushed ht ht2 hw hw2 hh hh2 (h + w - (i + 1)).toNat k (i + 1) (by omega) (by omega) (by omega)
  | succ d ih =>
    intro k i due h0 hd hinv hk
    obtain ⟨k, rfl⟩ : ∃ m, k = m + 3 := ⟨k - 3, by omega⟩
    simp only [precentorlaw10_AskHushed.l0]
    rw [if_pos (by omega), wrap_id (x := t) (by omega) (by omega), wrap_id (x := t + i) (by omega) (by omega)]
    have hnext : ∃ r, ask_Step.f due (t + i) w true = some r ∧ r.1 = dueAt (t + (i + 1)) (i + 1) w := by
      rcases hinv with ⟨hi, rfl⟩ | ⟨hi, rfl⟩
      · refine ⟨_, step_new w (by omega) (by omega), ?_⟩
        rw [show i + 1 = 1 by omega, due_one]
        show t + i + 1 = _
        omega
      · refine ⟨_, step_due (by omega) (by omega) hw (by omega), ?_⟩
        show dueAt (t + i + 1) (i + 1) w = _
        congr 1; omega
    obtain ⟨r, hr, hr1⟩ := hnext
    rw [hr]
    simp only [Option.bind_some]
    rw [if_neg (by omega)]
    simp only [precentorlaw10_AskHushed.j1, precentorlaw10_AskHushed.j2, Bool.false_eq_true, if_false]
    rw [if_neg (by omega), wrap_id (x := i + 1) (by omega) (by omega)]
    exact ih k (i + 1) r.1 (by omega) (by omega) (Or.inr ⟨by omega, hr1⟩) (by omega)

theorem plain : Pure := by
  intro t wait h ht hw hg
  obtain ⟨t0, t1⟩ := wf_u32 ht
  obtain ⟨w0, w1⟩ := wf_u8 hw
  obtain ⟨g0, g1⟩ := wf_u8 hg
  refine ⟨1000, ?_⟩
  simp only [precentorlaw10_AskHushed.f, shown_true, Option.bind_some, cut w0 (by omega : wait ≤ 4294967295), cut g0 (by omega : h ≤ 4294967295)]
  rw [wrap_id (x := 1 + wait % 30) (by omega) (by omega), wrap_id (x := 1 + h % 60) (by omega) (by omega)]
  exact before t0 t1 (by omega) (by omega) (by omega) (by omega) (1 + h % 60).toNat 1000 0 0 (by omega) (by omega) (Or.inl ⟨rfl, rfl⟩) (by omega)
end Go.Proofs.Ytddlbfapcodbmaa.AskHushedS
