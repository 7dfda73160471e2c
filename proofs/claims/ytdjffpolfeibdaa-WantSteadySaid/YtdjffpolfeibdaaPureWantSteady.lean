/- WantSteady, the plain law. No condition. -/
import Derived.Test.YtdjffpolfeibdaaSayWantSteady
import Derived.Test.YtdjffpolfeibdaaPlain
namespace Go.Proofs.Ytdjffpolfeibdaa.WantSteadyS
set_option linter.unusedVariables false
set_option linter.unusedSimpArgs false
open Go.RowKit Go.Proofs.Ytdjffpolfeibdaa.Print Go.Proofs.Ytdjffpolfeibdaa.Plain
open Go.Proofs.YtdjffpolfeibdaaW.PrintWords Go.Proofs.YtdjffpolfeibdaaW.PrintLast Go.Proofs.YtdjffpolfeibdaaW.PrintMore

theorem mod_step {i n : Int} (hn : 1 ≤ n) : (i % n + 1 < n → (i + 1) % n = i % n + 1) ∧ (¬ i % n + 1 < n → (i + 1) % n = 0) := by
  have h1 := Int.emod_nonneg i (show n ≠ 0 by omega)
  have h2 := Int.emod_lt_of_pos i (show 0 < n by omega)
  have e : (i + 1) % n = (i % n + 1) % n := by rw [Int.emod_add_emod]
  constructor
  · intro h
    rw [e, Int.emod_eq_of_lt (by omega) h]
  · intro h
    rw [e, show i % n + 1 = n by omega, Int.emod_self]
theorem loop_yes {e l hi lo n : Int} (ha : asks e l hi lo = true) (hn : 1 ≤ n) (hn2 : n ≤ 9) (d : Nat) :
    ∀ (k : Nat) (i : Int), 1 ≤ i → 101 - i = d → d < k → precentorlaw14_WantSteady.l0 k l hi lo true e n true i ((i - 1) % n) = some true := by
  induction d with
  | zero =>
    intro k i h0 hd hk
    obtain ⟨k, rfl⟩ : ∃ m, k = m + 1 := ⟨k - 1, by omega⟩
    simp only [precentorlaw14_WantSteady.l0]
    rw [if_neg (by omega)]
  | succ d ih =>
    intro k i h0 hd hk
    obtain ⟨k, rfl⟩ : ∃ m, k = m + 1 := ⟨k - 1, by omega⟩
    have h1 := Int.emod_nonneg (i - 1) (show n ≠ 0 by omega)
    have h2 := Int.emod_lt_of_pos (i - 1) (show 0 < n by omega)
    obtain ⟨m1, m2⟩ := mod_step (i := i - 1) hn
    rw [show i - 1 + 1 = i by omega] at m1 m2
    have hih := ih k (i + 1) (by omega) (by omega) (by omega)
    rw [show i + 1 - 1 = i by omega] at hih
    simp only [precentorlaw14_WantSteady.l0]
    rw [if_pos (by omega), step_yes ha h1 (by omega)]
    simp only [Option.bind_some, if_true]
    rw [if_neg (by omega), Int.tmod_eq_emod_of_nonneg (by omega), wrap_id (x := i + 1) (by omega) (by omega)]
    by_cases h : (i - 1) % n + 1 ≥ n
    · have hz := m2 (by omega)
      rw [if_pos h, if_pos hz]
      simp only [if_true]
      rw [if_neg (by omega), if_neg (by omega)]
      rw [hz] at hih
      exact hih
    · have hz := m1 (by omega)
      rw [if_neg h, if_neg (by omega)]
      simp only [Bool.false_eq_true, if_false]
      rw [if_neg (by omega), if_neg (by omega)]
      rw [hz] at hih
      exact hih
theorem loop_no {e l hi lo n : Int} (ha : asks e l hi lo = false) (hn : 1 ≤ n) (hn2 : n ≤ 9) (d : Nat) :
    ∀ (k : Nat) (i : Int), 1 ≤ i → 101 - i = d → d < k → precentorlaw14_WantSteady.l0 k l hi lo true e n false i 0 = some true := by
  induction d with
  | zero =>
    intro k i h0 hd hk
    obtain ⟨k, rfl⟩ : ∃ m, k = m + 1 := ⟨k - 1, by omega⟩
    simp only [precentorlaw14_WantSteady.l0]
    rw [if_neg (by omega)]
  | succ d ih =>
    intro k i h0 hd hk
    obtain ⟨k, rfl⟩ : ∃ m, k = m + 1 := ⟨k - 1, by omega⟩
    have hih := ih k (i + 1) (by omega) (by omega) (by omega)
    simp only [precentorlaw14_WantSteady.l0]
    rw [if_pos (by omega), step_no ha]
    simp only [Option.bind_some, Bool.false_eq_true, if_false]
    rw [if_neg (by omega), if_neg (by omega), wrap_id (x := i + 1) (by omega) (by omega)]
    exact hih
theorem plain : Pure := by
  rintro ⟨e, l, hi, lo, n⟩ ⟨we, _, _, _, wn⟩
  obtain ⟨e0, e1⟩ := wf_u8 we
  obtain ⟨n0, n1⟩ := wf_u8 wn
  simp only at e0 e1 n0 n1
  refine ⟨800, ?_⟩
  simp only [precentorlaw14_WantSteady.f, shown_true, Option.bind_some, asks_eq]
  by_cases h : lo ≥ hi
  · rw [if_pos h]
  · rw [if_neg h, cut n0 (by omega), wrap_id (x := 1 + n % 9) (by omega) (by omega)]
    cases ha : asks (Int.tmod (wrap64 e) 2) l hi lo with
    | true =>
      have := loop_yes ha (n := 1 + n % 9) (by omega) (by omega) 100 800 1 (by omega) (by omega) (by omega)
      rw [show (1 : Int) - 1 = 0 from rfl, Int.zero_emod] at this
      exact this
    | false => exact loop_no ha (n := 1 + n % 9) (by omega) (by omega) 100 800 1 (by omega) (by omega) (by omega)
end Go.Proofs.Ytdjffpolfeibdaa.WantSteadyS
