/- What ask.Step gives, as a Lean function, and that each call does just that. No condition. -/
import Derived.Test.YtddlbfapcodbmaaPrint0
import Derived.WalkLawsBesides
import Derived.Lib.Hide
namespace Go.Proofs.Ytddlbfapcodbmaa.Print
set_option linter.unusedVariables false
set_option linter.unusedSimpArgs false
open Go.RowKit Go.Proofs.YtddlbfapcodbmaaW.PrintWords Go.Proofs.YtddlbfapcodbmaaW.PrintLast Go.Proofs.YtddlbfapcodbmaaW.PrintMore

def ask_Step.f (due now wait : Int) (gap : Bool) : Option (Int × Bool) :=
  if gap = false then some (0, false)
  else if due = 0 then some (wrap64 (now + 1), false)
  else if due ≤ now then some (wrap64 (wrap64 (wrap64 (now + wait) - 1) + 1), true)
  else some (due, false)

theorem ask_Step.calls (due now wait : Int) (gap : Bool) (r1 : Int) (r2 : Bool) (w : World) (h : ask_Step.f due now wait gap = some (r1, r2)) :
    Calls Try.prog 10 #[.agg #[.int .i64 due], .int .i64 now, .int .i64 wait, .bool gap] w fun e w' => e = .returned (.tuple #[.agg #[.int .i64 r1], .bool r2]) ∧ Below w.heap.size w w' := by
  unfold ask_Step.f at h
  cases gap with
  | false =>
    simp only [if_true, Option.some.injEq, Prod.mk.injEq] at h
    obtain ⟨rfl, rfl⟩ := h
    go_enter Try.func10, Try.ntmps10
    go_wp2
    refine bodyPost_ret (v := .tuple #[.agg #[.int .i64 0], .bool false]) (by simp [results, Try.results10, go_sem]) rfl ⟨rfl, ?_⟩
    exact (((Below.refl _ _).alloc (Nat.le_refl _) _).alloc (by simp) _).alloc (by simp; omega) _
  | true =>
    simp only [Bool.true_eq_false, if_false] at h
    by_cases h0 : due = 0
    · rw [if_pos h0] at h
      simp only [Option.some.injEq, Prod.mk.injEq] at h
      obtain ⟨rfl, rfl⟩ := h
      subst h0
      go_enter Try.func10, Try.ntmps10
      go_wp2
      refine bodyPost_ret (v := .tuple #[.agg #[.int .i64 (wrap64 (now + 1))], .bool false]) (by simp [results, Try.results10, go_sem]) rfl ⟨rfl, ?_⟩
      exact (((Below.refl _ _).alloc (Nat.le_refl _) _).alloc (by simp) _).alloc (by simp; omega) _
    · rw [if_neg h0] at h
      have b1 : (due == 0) = false := beq_eq_false_iff_ne.2 h0
      have b2 : (due != 0) = true := bne_iff_ne.2 h0
      clear h0
      by_cases hc : due ≤ now
      · rw [if_pos hc] at h
        simp only [Option.some.injEq, Prod.mk.injEq] at h
        obtain ⟨rfl, rfl⟩ := h
        go_enter Try.func10, Try.ntmps10
        go_wp2
        refine bodyPost_ret (v := .tuple #[.agg #[.int .i64 (wrap64 (wrap64 (wrap64 (now + wait) - 1) + 1))], .bool true]) (by simp [results, Try.results10, go_sem]) rfl ⟨rfl, ?_⟩
        exact (((Below.refl _ _).alloc (Nat.le_refl _) _).alloc (by simp) _).alloc (by simp; omega) _
      · rw [if_neg hc] at h
        simp only [Option.some.injEq, Prod.mk.injEq] at h
        obtain ⟨rfl, rfl⟩ := h
        have hcd : decide (due ≤ now) = false := decide_eq_false hc
        go_enter Try.func10, Try.ntmps10
        go_wp2
        refine bodyPost_ret (v := .tuple #[.agg #[.int .i64 due], .bool false]) (by simp [results, Try.results10, go_sem]) rfl ⟨rfl, ?_⟩
        exact (((Below.refl _ _).alloc (Nat.le_refl _) _).alloc (by simp) _).alloc (by simp; omega) _
end Go.Proofs.Ytddlbfapcodbmaa.Print
