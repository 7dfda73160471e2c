/- AskEach, the plain law. No condition. -/
import Derived.Test.YtddlbfapcodbmaaSayAskEach
import Derived.Test.YtddlbfapcodbmaaPlain
namespace Go.Proofs.Ytddlbfapcodbmaa.AskEachS
set_option linter.unusedVariables false
set_option linter.unusedSimpArgs false
open Go.RowKit Go.Proofs.Ytddlbfapcodbmaa.Print Go.Proofs.Ytddlbfapcodbmaa.Plain
open Go.Proofs.YtddlbfapcodbmaaW.PrintWords Go.Proofs.YtddlbfapcodbmaaW.PrintLast Go.Proofs.YtddlbfapcodbmaaW.PrintMore

/-- What watches the gap at the head of round i; 'gone': the round without it. -/
def Inv (t w gone i due : Int) : Prop :=
  if i = 0 ∨ i = gone + 1 then due = 0 else if gone < i then due = dueAt (t + i) (i - (gone + 1)) w else due = dueAt (t + i) i w

theorem loop {t w gone : Int} (ht : 0 ≤ t) (ht2 : t ≤ 4294967295) (hw : 1 ≤ w) (hw2 : w ≤ 50) (hg : 0 ≤ gone) (hg2 : gone < 200) (d : Nat) :
    ∀ (k : Nat) (i due : Int), 0 ≤ i → 200 - i = d → Inv t w gone i due → d < k → precentorlaw10_AskEach.l0 k t true w gone i due = some true := by
  induction d with
  | zero =>
    intro k i due h0 hd _ hk
    obtain ⟨k, rfl⟩ : ∃ m, k = m + 1 := ⟨k - 1, by omega⟩
    simp only [precentorlaw10_AskEach.l0]
    rw [if_neg (by omega)]
  | succ d ih =>
    intro k i due h0 hd hinv hk
    obtain ⟨k, rfl⟩ : ∃ m, k = m + 1 := ⟨k - 1, by omega⟩
    simp only [precentorlaw10_AskEach.l0]
    rw [if_pos (by omega), wrap_id (x := t) (by omega) (by omega), wrap_id (x := t + i) (by omega) (by omega), wrap_id (x := i + 1) (by omega) (by omega)]
    by_cases hi : i = gone
    · rw [if_pos hi, step_off]
      simp only [Option.bind_some]
      have hnext : Inv t w gone (i + 1) 0 := by unfold Inv; rw [if_pos (by omega)]
      have := ih k (i + 1) 0 (by omega) (by omega) hnext (by omega)
      rw [if_neg (by omega)]
      simpa using this
    · rw [if_neg hi]
      unfold Inv at hinv
      by_cases hnew : i = 0 ∨ i = gone + 1
      · rw [if_pos hnew] at hinv
        subst hinv
        rw [step_new w (by omega) (by omega)]
        simp only [Option.bind_some]
        have hnext : Inv t w gone (i + 1) (t + i + 1) := by
          unfold Inv
          rw [if_neg (by omega)]
          split
          · rw [show i + 1 - (gone + 1) = 1 by omega, due_one]; omega
          · rw [show i + 1 = 1 by omega, due_one]; omega
        have := ih k (i + 1) (t + i + 1) (by omega) (by omega) hnext (by omega)
        by_cases hgt : i > gone
        · rw [if_pos hgt, wrap_id (x := gone + 1) (by omega) (by omega), wrap_id (x := i - (gone + 1)) (by omega) (by omega), if_neg (by omega)]
          simpa using this
        · rw [if_neg hgt, wrap_id (x := i) (by omega) (by omega), if_neg (by omega)]
          simpa using this
      · rw [if_neg hnew] at hinv
        by_cases hgt : i > gone
        · rw [if_pos hgt] at hinv
          subst hinv
          rw [step_due (by omega) (by omega) hw (by omega)]
          simp only [Option.bind_some]
          have hnext : Inv t w gone (i + 1) (dueAt (t + i + 1) (i - (gone + 1) + 1) w) := by
            unfold Inv
            rw [if_neg (by omega), if_pos (by omega)]
            congr 1 <;> omega
          have := ih k (i + 1) _ (by omega) (by omega) hnext (by omega)
          rw [if_pos hgt, wrap_id (x := gone + 1) (by omega) (by omega), wrap_id (x := i - (gone + 1)) (by omega) (by omega), if_pos (by omega), if_neg (by omega), wrap_id (x := i - (gone + 1) - 1) (by omega) (by omega), Int.tmod_eq_emod_of_nonneg (by omega)]
          have e : ((i - (gone + 1) - 1) % w == 0) = decide ((i - (gone + 1) - 1) % w = 0) := rfl
          rw [e]
          simpa using this
        · rw [if_neg (by omega)] at hinv
          subst hinv
          rw [step_due (by omega) (by omega) hw (by omega)]
          simp only [Option.bind_some]
          have hnext : Inv t w gone (i + 1) (dueAt (t + i + 1) (i + 1) w) := by
            unfold Inv
            rw [if_neg (by omega), if_neg (by omega)]
            congr 1; omega
          have := ih k (i + 1) _ (by omega) (by omega) hnext (by omega)
          rw [if_neg hgt, wrap_id (x := i) (by omega) (by omega), if_pos (by omega), if_neg (by omega), wrap_id (x := i - 1) (by omega) (by omega), Int.tmod_eq_emod_of_nonneg (by omega)]
          have e : ((i - 1) % w == 0) = decide ((i - 1) % w = 0) := rfl
          rw [e]
          simpa using this

theorem plain : Pure := by
  intro t wait gone ht hw hg
  obtain ⟨t0, t1⟩ := wf_u32 ht
  obtain ⟨w0, w1⟩ := wf_u8 hw
  obtain ⟨g0, g1⟩ := wf_u8 hg
  refine ⟨201, ?_⟩
  simp only [precentorlaw10_AskEach.f, shown_true, Option.bind_some, cut w0 (by omega : wait ≤ 4294967295), cut g0 (by omega : gone ≤ 4294967295)]
  rw [wrap_id (by omega) (by omega)]
  exact loop t0 t1 (by omega) (by omega) (by omega) (by omega) 200 201 0 0 (by omega) (by omega) (by unfold Inv; rw [if_pos (by omega)]) (by omega)
end Go.Proofs.Ytddlbfapcodbmaa.AskEachS
