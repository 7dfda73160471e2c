/- What want.Asks gives, as a Lean function, and that each call does just that. No condition. -/
import Derived.Test.YtdjffpolfeibdaaPrint0
import Derived.WalkLawsBesides
import Derived.Lib.Hide
namespace Go.Proofs.Ytdjffpolfeibdaa.Print
set_option linter.unusedVariables false
set_option linter.unusedSimpArgs false
open Go.RowKit Go.Proofs.YtdjffpolfeibdaaW.PrintWords Go.Proofs.YtdjffpolfeibdaaW.PrintLast Go.Proofs.YtdjffpolfeibdaaW.PrintMore

def want_Asks.f (engine level high low : Int) : Option Bool := some (if engine = 0 then decide (high ≤ level) else decide (level ≤ low))

/-- The float of a number's sign. -/
def sg (a b : Int) : Nat := if a < b then 13830554455654793216 else if b < a then 4607182418800017408 else 0

theorem sign_calls (a b : Int) (w : World) :
    Calls Try.prog 15 #[.int .i64 a, .int .i64 b] w fun e w' => e = .returned (.float .f64 (sg a b)) ∧ w = w' := by
  unfold sg
  by_cases h : a < b
  · rw [if_pos h]
    go_enter Try.func15, Try.ntmps15
    go_wp2
    go_ret
    exact ⟨rfl, rfl⟩
  · rw [if_neg h]
    by_cases h2 : b < a
    · rw [if_pos h2]
      go_enter Try.func15, Try.ntmps15
      go_wp2
      go_ret
      exact ⟨rfl, rfl⟩
    · rw [if_neg h2]
      go_enter Try.func15, Try.ntmps15
      go_wp2
      go_ret
      exact ⟨rfl, rfl⟩
theorem side_zero (w : World) : Calls Try.prog 16 #[.int .i64 0] w fun e w' => e = .returned (.complex .f64 4607182418800017408 0) ∧ w = w' := by
  go_enter Try.func16, Try.ntmps16
  go_wp2
  go_ret
  exact ⟨rfl, rfl⟩
theorem side_other (n : Int) (h : n ≠ 0) (w : World) : Calls Try.prog 16 #[.int .i64 n] w fun e w' => e = .returned (.complex .f64 0 4607182418800017408) ∧ w = w' := by
  have hb : (n == 0) = false := beq_eq_false_iff_ne.2 h
  clear h
  go_enter Try.func16, Try.ntmps16
  go_wp2
  go_ret
  exact ⟨rfl, rfl⟩

/-- Is a float at least zero? -/
def ge0 (r : Nat) : Bool := (FloatKind.f64.format.order r 0 == some .gt) || (FloatKind.f64.format.order r 0 == some .eq)
def sgs : List Nat := [13830554455654793216, 4607182418800017408, 0]
theorem sg_mem (a b : Int) : sg a b ∈ sgs := by
  unfold sg sgs
  repeat' split
  all_goals simp
def mulOk (c d : Nat) (f : Nat → Nat → Bool) : Bool := sgs.all fun x => sgs.all fun y => match cMulBits x y c d with | some (r, _) => ge0 r == f x y | none => false
theorem mul_one : mulOk 4607182418800017408 0 (fun x _ => x != 13830554455654793216) = true := by decide +kernel
theorem mul_i : mulOk 0 4607182418800017408 (fun _ y => y != 4607182418800017408) = true := by decide +kernel
theorem mul_at {c d : Nat} {f : Nat → Nat → Bool} (h : mulOk c d f = true) {x y : Nat} (hx : x ∈ sgs) (hy : y ∈ sgs) : ∃ r i, cMulBits x y c d = some (r, i) ∧ ge0 r = f x y := by
  have := List.all_eq_true.1 (List.all_eq_true.1 h x hx) y hy
  cases hm : cMulBits x y c d with
  | none => rw [hm] at this; simp at this
  | some p =>
    obtain ⟨r, i⟩ := p
    rw [hm] at this
    exact ⟨r, i, rfl, by simpa using this⟩

theorem want_Asks.calls (engine level high low : Int) (r : Bool) (w : World) (h : want_Asks.f engine level high low = some r) :
    Calls Try.prog 11 #[.int .i64 engine, .int .i64 level, .int .i64 high, .int .i64 low] w fun e w' => e = .returned (.bool r) ∧ Drawn0 w w' := by
  obtain rfl := Option.some.inj h
  by_cases he : engine = 0
  · subst he
    rw [if_pos rfl]
    obtain ⟨R, I, hm, hg⟩ := mul_at mul_one (sg_mem level high) (sg_mem level low)
    have hmul := fun t w => run_complex_mul (P := Try.prog) w t _ _ _ _ _ _ hm
    have HG := Lib.hid hg
    clear hg hm h
    generalize hx : sg level high = x at hmul HG
    generalize hy : sg level low = y at hmul HG
    have HX := Lib.hid hx
    have HY := Lib.hid hy
    clear hx hy
    go_enter Try.func11, Try.ntmps11
    go_wp2_with fail
    refine (sign_calls level high _).mono ?_
    rintro e w' ⟨rfl, rfl⟩
    rw [HX.out]
    go_wp2_with fail
    refine (sign_calls level low _).mono ?_
    rintro e w' ⟨rfl, rfl⟩
    rw [HY.out]
    go_wp2_with fail
    refine (side_zero _).mono ?_
    rintro e w' ⟨rfl, rfl⟩
    go_wp2_with (simp only [hmul])
    go_ret
    refine ⟨?_, Drawn0.refl _⟩
    have e1 : ge0 R = decide (high ≤ level) := by
      rw [HG.out, ← HX.out]
      unfold sg
      repeat' split
      all_goals (rw [Bool.eq_iff_iff]; simp; omega)
    rw [← e1]
    rfl
  · rw [if_neg he]
    have HE := Lib.hid he
    obtain ⟨R, I, hm, hg⟩ := mul_at mul_i (sg_mem level high) (sg_mem level low)
    have hmul := fun t w => run_complex_mul (P := Try.prog) w t _ _ _ _ _ _ hm
    have HG := Lib.hid hg
    clear hg hm h he
    generalize hx : sg level high = x at hmul HG
    generalize hy : sg level low = y at hmul HG
    have HX := Lib.hid hx
    have HY := Lib.hid hy
    clear hx hy
    go_enter Try.func11, Try.ntmps11
    go_wp2_with fail
    refine (sign_calls level high _).mono ?_
    rintro e w' ⟨rfl, rfl⟩
    rw [HX.out]
    go_wp2_with fail
    refine (sign_calls level low _).mono ?_
    rintro e w' ⟨rfl, rfl⟩
    rw [HY.out]
    go_wp2_with fail
    refine (side_other engine HE.out _).mono ?_
    rintro e w' ⟨rfl, rfl⟩
    go_wp2_with (simp only [hmul])
    go_ret
    refine ⟨?_, Drawn0.refl _⟩
    have e1 : ge0 R = decide (level ≤ low) := by
      rw [HG.out, ← HY.out]
      unfold sg
      repeat' split
      all_goals (rw [Bool.eq_iff_iff]; simp; omega)
    rw [← e1]
    rfl
end Go.Proofs.Ytdjffpolfeibdaa.Print
