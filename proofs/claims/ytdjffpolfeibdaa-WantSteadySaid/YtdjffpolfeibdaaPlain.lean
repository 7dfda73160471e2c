/- Plain lemmas on which engine a load asks for. Conditions stand in each lemma. -/
import Derived.Test.YtdjffpolfeibdaaPrint2
namespace Go.Proofs.Ytdjffpolfeibdaa.Plain
set_option linter.unusedVariables false
set_option linter.unusedSimpArgs false
open Go.RowKit Go.Proofs.Ytdjffpolfeibdaa.Print

theorem shown_true : precentorlaw14_shown.f 800 = some true := by decide +kernel
theorem wrap_id {x : Int} (h0 : -9223372036854775808 ≤ x) (h : x ≤ 9223372036854775807) : wrap64 x = x := by
  unfold wrap64; omega
theorem wf_u8 {n : Int} (h : (Lit.int .u8 n).wf = true) : 0 ≤ n ∧ n ≤ 255 := by
  simpa [Lit.wf, IntKind.min, IntKind.max, IntKind.bits, IntKind.signed] using h
theorem cut {x n : Int} (h0 : 0 ≤ x) (h : x ≤ 4294967295) : Int.tmod (wrap64 x) n = x % n := by
  rw [wrap_id (by omega) (by omega), Int.tmod_eq_emod_of_nonneg h0]
/-- Does a level ask to leave an engine? -/
def asks (e l hi lo : Int) : Bool := if e = 0 then decide (hi ≤ l) else decide (l ≤ lo)
theorem asks_eq (e l hi lo : Int) : want_Asks.f e l hi lo = some (asks e l hi lo) := rfl
theorem step_yes {h e l hi lo n : Int} (ha : asks e l hi lo = true) (h0 : 0 ≤ h) (h1 : h ≤ 1152921504606846976) : want_Step.f h e l hi lo n = some (if h + 1 ≥ n then (0, true) else (h + 1, false)) := by
  simp only [want_Step.f, asks_eq, Option.bind_some, ha, if_true, wrap_id (x := h + 1) (by omega) (by omega)]
  split <;> rfl
theorem step_no {h e l hi lo n : Int} (ha : asks e l hi lo = false) : want_Step.f h e l hi lo n = some (0, false) := by
  simp only [want_Step.f, asks_eq, Option.bind_some, ha, Bool.false_eq_true, if_false]
end Go.Proofs.Ytdjffpolfeibdaa.Plain
