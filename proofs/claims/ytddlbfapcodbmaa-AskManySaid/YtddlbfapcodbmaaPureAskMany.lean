/- AskMany, the plain law. No condition. -/
import Derived.Test.YtddlbfapcodbmaaSayAskMany
import Derived.Test.YtddlbfapcodbmaaPlain
namespace Go.Proofs.Ytddlbfapcodbmaa.AskManyS
set_option linter.unusedVariables false
set_option linter.unusedSimpArgs false
open Go.RowKit Go.Proofs.Ytddlbfapcodbmaa.Print Go.Proofs.Ytddlbfapcodbmaa.Plain
open Go.Proofs.YtddlbfapcodbmaaW.PrintWords Go.Proofs.YtddlbfapcodbmaaW.PrintLast Go.Proofs.YtddlbfapcodbmaaW.PrintMore

/-- How often a gap is asked for in n ticks. -/
def cnt (w n : Int) : Int := if n ≥ 2 then (n - 2) / w + 1 else 0
theorem div_step {x w : Int} (hw : 1 ≤ w) : (x + 1) / w = x / w + (if (x + 1) % w = 0 then 1 else 0) := by
  have e := Int.emod_add_mul_ediv x w
  have h1 := Int.emod_nonneg x (show w ≠ 0 by omega)
  have h2 := Int.emod_lt_of_pos x (show 0 < w by omega)
  generalize hq : x / w = q at *
  generalize hr : x % w = r at *
  by_cases h : r + 1 < w
  · have hx : x + 1 = (r + 1) + w * q := by omega
    rw [hx, Int.add_mul_ediv_left _ _ (by omega), Int.add_mul_emod_self_left, Int.ediv_eq_zero_of_lt (by omega) h, Int.emod_eq_of_lt (by omega) h, if_neg (by omega)]
    omega
  · have hx : x + 1 = 0 + w * (q + 1) := by rw [Int.mul_add]; omega
    rw [hx, Int.add_mul_ediv_left _ _ (by omega), Int.add_mul_emod_self_left]
    simp
theorem cnt_step {w i : Int} (hw : 1 ≤ w) (hi : 0 ≤ i) : cnt w (i + 1) = cnt w i + (if 1 ≤ i ∧ (i - 1) % w = 0 then 1 else 0) := by
  unfold cnt
  by_cases h0 : i = 0
  · subst h0; simp
  · by_cases h1 : i = 1
    · subst h1; simp
    · rw [if_pos (by omega), if_pos (by omega)]
      have := div_step (x := i - 2) hw
      rw [show i - 2 + 1 = i - 1 by omega] at this
      rw [show i + 1 - 2 = i - 1 by omega, this]
      by_cases h2 : (i - 1) % w = 0
      · rw [if_pos h2, if_pos ⟨by omega, h2⟩]
      · rw [if_neg h2, if_neg (fun h => h2 h.2)]
        omega
theorem cnt_bounds {w n : Int} (hw : 1 ≤ w) (hn : n ≤ 300) : 0 ≤ cnt w n ∧ cnt w n ≤ 300 := by
  unfold cnt
  split
  · have a := Int.ediv_nonneg (show 0 ≤ n - 2 by omega) (show 0 ≤ w by omega)
    have b := Int.ediv_le_self w (show 0 ≤ n - 2 by omega)
    omega
  · omega
theorem cnt_less {w v n : Int} (hw : 1 ≤ w) (hv : w ≤ v) : cnt v n ≤ cnt w n := by
  unfold cnt
  split
  · have h0 : 0 ≤ n - 2 := by omega
    generalize n - 2 = x at h0
    have hq : 0 ≤ x / v := Int.ediv_nonneg h0 (by omega)
    have h2 := Int.mul_ediv_self_le (x := x) (k := v) (by omega)
    have h3 : x / v * w ≤ x / v * v := Int.mul_le_mul_of_nonneg_left hv hq
    rw [Int.mul_comm v] at h2
    have h4 := (Int.le_ediv_iff_mul_le (show 0 < w by omega)).2 (Int.le_trans h3 h2)
    omega
  · omega
/-- What watches a gap that is there from the tick 0 on. -/
def Inv (w i due : Int) : Prop := i = 0 ∧ due = 0 ∨ 1 ≤ i ∧ due = dueAt i i w
theorem step_inv {w i due : Int} (hw : 1 ≤ w) (hw2 : w ≤ 1000) (h0 : 0 ≤ i) (hi : i ≤ 300) (h : Inv w i due) :
    ∃ due', ask_Step.f due i w true = some (due', decide (1 ≤ i ∧ (i - 1) % w = 0)) ∧ Inv w (i + 1) due' := by
  rcases h with ⟨rfl, rfl⟩ | ⟨h1, rfl⟩
  · exact ⟨_, step_new w (by omega) (by omega), Or.inr ⟨by omega, by rw [show (0 : Int) + 1 = 1 from rfl, due_one]⟩⟩
  · refine ⟨_, ?_, Or.inr ⟨by omega, rfl⟩⟩
    rw [step_due h1 (by omega) hw hw2]
    simp [h1]

theorem loop {w v n : Int} (hw : 1 ≤ w) (hw2 : w ≤ 60) (hv : w ≤ v) (hv2 : v ≤ 100) (hn0 : 0 ≤ n) (hn : n < 300) (d : Nat) :
    ∀ (k : Nat) (i a b : Int), 0 ≤ i → n - i = d → Inv w i a → Inv v i b → d < k → precentorlaw10_AskMany.l0 k true n w v (cnt w i) (cnt v i) i a b = some true := by
  induction d with
  | zero =>
    intro k i a b h0 hd ha hb hk
    obtain ⟨k, rfl⟩ : ∃ m, k = m + 1 := ⟨k - 1, by omega⟩
    have c1 := cnt_bounds (n := n) hw (by omega)
    have hless := cnt_less (n := n) hw hv
    simp only [precentorlaw10_AskMany.l0]
    rw [if_neg (by omega), show i = n by omega]
    by_cases h2 : n ≥ 2
    · rw [if_pos h2, if_neg (by omega), wrap_id (x := n - 2) (by omega) (by omega)]
      have e : cnt w n = (n - 2) / w + 1 := by unfold cnt; rw [if_pos h2]
      rw [Int.tdiv_eq_ediv_of_nonneg (by omega), wrap_id (x := (n - 2) / w) (by omega) (by omega), wrap_id (x := (n - 2) / w + 1) (by omega) (by omega), if_pos trivial, if_pos e]
      simp [hless]
    · have e : cnt w n = 0 := by unfold cnt; rw [if_neg h2]
      rw [if_neg h2]
      simp [e]
      omega
  | succ d ih =>
    intro k i a b h0 hd ha hb hk
    obtain ⟨k, rfl⟩ : ∃ m, k = m + 1 := ⟨k - 1, by omega⟩
    obtain ⟨a', ea, ia⟩ := step_inv hw (by omega) h0 (by omega) ha
    obtain ⟨b', eb, ib⟩ := step_inv (w := v) (by omega) (by omega) h0 (by omega) hb
    have c1 := cnt_bounds (n := i) hw (by omega)
    have c2 := cnt_bounds (w := v) (n := i) (by omega) (by omega)
    have s1 := cnt_step hw h0
    have s2 := cnt_step (w := v) (by omega) h0
    have hih := ih k (i + 1) a' b' (by omega) (by omega) ia ib (by omega)
    simp only [precentorlaw10_AskMany.l0]
    rw [if_pos (by omega), ea]
    simp only [Option.bind_some]
    rw [eb]
    simp only [Option.bind_some]
    rw [wrap_id (x := i + 1) (by omega) (by omega), wrap_id (x := cnt w i + 1) (by omega) (by omega), wrap_id (x := cnt v i + 1) (by omega) (by omega)]
    by_cases p : 1 ≤ i ∧ (i - 1) % w = 0
    · rw [if_pos p] at s1
      by_cases q : 1 ≤ i ∧ (i - 1) % v = 0
      · rw [if_pos q] at s2
        rw [s1, s2] at hih
        simpa [p, q] using hih
      · rw [if_neg q] at s2
        rw [s1, s2] at hih
        rw [decide_eq_true p, decide_eq_false q]
        simpa using hih
    · rw [if_neg p] at s1
      by_cases q : 1 ≤ i ∧ (i - 1) % v = 0
      · rw [if_pos q] at s2
        rw [s1, s2] at hih
        rw [decide_eq_false p, decide_eq_true q]
        simpa using hih
      · rw [if_neg q] at s2
        rw [s1, s2] at hih
        rw [decide_eq_false p, decide_eq_false q]
        simpa using hih

theorem plain : Pure := by
  intro ticks wait more ht hw hm
  obtain ⟨t0, t1⟩ := wf_u16 ht
  obtain ⟨w0, w1⟩ := wf_u8 hw
  obtain ⟨m0, m1⟩ := wf_u8 hm
  refine ⟨301, ?_⟩
  simp only [precentorlaw10_AskMany.f, shown_true, Option.bind_some, cut t0 (by omega : ticks ≤ 4294967295), cut w0 (by omega : wait ≤ 4294967295), cut m0 (by omega : more ≤ 4294967295)]
  rw [wrap_id (x := 1 + wait % 60) (by omega) (by omega), wrap_id (by omega) (by omega)]
  have := loop (w := 1 + wait % 60) (v := 1 + wait % 60 + more % 20) (n := ticks % 300) (by omega) (by omega) (by omega) (by omega) (by omega) (by omega) (ticks % 300).toNat 301 0 0 0 (by omega) (by omega) (Or.inl ⟨rfl, rfl⟩) (Or.inl ⟨rfl, rfl⟩) (by omega)
  simpa [cnt] using this
end Go.Proofs.Ytddlbfapcodbmaa.AskManyS
