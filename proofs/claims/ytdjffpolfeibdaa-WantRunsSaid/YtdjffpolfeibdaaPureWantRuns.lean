/- WantRuns, the plain law. No condition. -/
import Derived.Test.YtdjffpolfeibdaaSayWantRuns
import Derived.Test.YtdjffpolfeibdaaPlain
namespace Go.Proofs.Ytdjffpolfeibdaa.WantRunsS
set_option linter.unusedVariables false
set_option linter.unusedSimpArgs false
open Go.RowKit Go.Proofs.Ytdjffpolfeibdaa.Print Go.Proofs.Ytdjffpolfeibdaa.Plain
open Go.Proofs.YtdjffpolfeibdaaW.PrintWords Go.Proofs.YtdjffpolfeibdaaW.PrintLast Go.Proofs.YtdjffpolfeibdaaW.PrintMore

theorem rd_good {xs : List Int} (h : ∀ y ∈ xs, (Lit.int .u8 y).wf = true) (i : Int) : 0 ≤ rd xs i ∧ rd xs i ≤ 255 := by
  unfold rd
  rw [List.getD_eq_getElem?_getD]
  by_cases hi : i.toNat < xs.length
  · rw [List.getElem?_eq_getElem hi, Option.getD_some]
    exact wf_u8 (h _ (List.getElem_mem hi))
  · rw [List.getElem?_eq_none (by omega), Option.getD_none]
    omega
/-- A round, behind the question whether the level asks. -/
theorem round {xs : List Int} {e hi lo n i run l : Int} {k : Nat} (hn : 1 ≤ n) (hn2 : n ≤ 6) (h0 : 0 ≤ i) (hi2 : i ≤ 200) (hr0 : 0 ≤ run) (hr : run < n) (b : Bool) (hb : asks e l hi lo = b)
    (ih : ∀ run', 0 ≤ run' → run' < n → precentorlaw14_WantRuns.l0 k xs true e hi lo n run' (i + 1) run' = some true) :
    precentorlaw14_WantRuns.j1 (k + 2) xs true e hi lo n run i l b run = some true := by
  simp only [precentorlaw14_WantRuns.j1]
  cases b with
  | false =>
    rw [step_no hb]
    simp only [Option.bind_some, Bool.false_eq_true, if_false, precentorlaw14_WantRuns.j2]
    rw [if_neg (by omega), wrap_id (x := i + 1) (by omega) (by omega)]
    exact ih 0 (by omega) (by omega)
  | true =>
    rw [step_yes hb hr0 (by omega)]
    simp only [Option.bind_some, if_true, precentorlaw14_WantRuns.j2]
    rw [wrap_id (x := run + 1) (by omega) (by omega), wrap_id (x := i + 1) (by omega) (by omega)]
    by_cases h : run + 1 ≥ n
    · rw [if_pos h, if_pos (by omega)]
      simp only [if_true]
      exact ih 0 (by omega) (by omega)
    · rw [if_neg h, if_neg (by omega)]
      simp only [Bool.false_eq_true, if_false]
      exact ih (run + 1) (by omega) (by omega)
theorem loop {xs : List Int} (hg : ∀ y ∈ xs, (Lit.int .u8 y).wf = true) (hl : xs.length ≤ 200) {e hi lo n : Int} (he : e = 0 ∨ e = 1) (hn : 1 ≤ n) (hn2 : n ≤ 6) (d : Nat) :
    ∀ (k : Nat) (i run : Int), 0 ≤ i → (xs.length : Int) - i = d → 0 ≤ run → run < n → 3 * d < k → precentorlaw14_WantRuns.l0 k xs true e hi lo n run i run = some true := by
  induction d with
  | zero =>
    intro k i run h0 hd _ _ hk
    obtain ⟨k, rfl⟩ : ∃ m, k = m + 1 := ⟨k - 1, by omega⟩
    simp only [precentorlaw14_WantRuns.l0]
    rw [if_neg (by omega)]
  | succ d ih =>
    intro k i run h0 hd hr0 hr hk
    obtain ⟨k, rfl⟩ : ∃ m, k = m + 3 := ⟨k - 3, by omega⟩
    obtain ⟨g0, g1⟩ := rd_good hg i
    have hih := fun run' (a : 0 ≤ run') (b : run' < n) => ih k (i + 1) run' (by omega) (by omega) a b (by omega)
    simp only [precentorlaw14_WantRuns.l0]
    rw [if_pos (by omega), if_pos h0, wrap_id (x := rd xs i) (by omega) (by omega)]
    rcases he with rfl | rfl
    · rw [if_pos rfl]
      by_cases h : rd xs i ≥ hi
      · rw [if_pos h]
        exact round hn hn2 h0 (by omega) hr0 hr true (by unfold asks; rw [if_pos rfl]; exact decide_eq_true h) hih
      · rw [if_neg h, if_neg (by omega)]
        exact round hn hn2 h0 (by omega) hr0 hr false (by unfold asks; rw [if_pos rfl]; exact decide_eq_false h) hih
    · rw [if_neg (by omega), if_pos rfl]
      exact round hn hn2 h0 (by omega) hr0 hr _ (by unfold asks; rw [if_neg (by omega)]) hih
theorem plain : Pure := by
  rintro ⟨xs, e, hi, gap, n⟩ ⟨⟨_, hg⟩, we, wh, wg, wn⟩
  obtain ⟨e0, e1⟩ := wf_u8 we
  obtain ⟨n0, n1⟩ := wf_u8 wn
  refine ⟨800, ?_⟩
  simp only at hg e0 e1 n0 n1
  simp only [precentorlaw14_WantRuns.f, shown_true, Option.bind_some]
  by_cases hl : (xs.length : Int) > 200
  · rw [if_pos hl]
  · rw [if_neg hl, cut e0 (by omega), cut n0 (by omega), wrap_id (x := 1 + n % 6) (by omega) (by omega)]
    exact loop hg (by omega) (by omega) (by omega) (by omega) xs.length 800 0 0 (by omega) (by omega) (by omega) (by omega) (by omega)
end Go.Proofs.Ytdjffpolfeibdaa.WantRunsS
