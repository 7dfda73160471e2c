/- The Go functions of this seat as Lean functions, and of each that its call does just what its Lean function says, where that says something. Condition: the arguments read as they are told. -/
import Derived.Test.YtdjffpolfeibdaaPrint0
import Derived.Test.YtdjffpolfeibdaaPrint2
import Derived.Test.YtdjffpolfeibdaaHand
namespace Go.Proofs.Ytdjffpolfeibdaa.Print
open Go.RowKit Go.Proofs.YtdjffpolfeibdaaW.PrintWords Go.Proofs.YtdjffpolfeibdaaW.PrintLast Go.Proofs.YtdjffpolfeibdaaW.PrintMore
attribute [local go_sem] max2_int min2_int max_two min_two max_three min_three max_four min_four   -- for this text's walks alone
set_option linter.unusedVariables false
set_option linter.unusedSimpArgs false

/-! ### precentorlaw14_WantEither: function 5 -/
def precentorlaw14_WantEither.f (k : Nat) (a0 : Int) (a1 : Int) (a2 : Int) : Option (Bool) := (precentorlaw14_shown.f k).bind fun t140 => (if a2 ≥ a1 then (some t140) else ((want_Asks.f 0 a0 a1 a2).bind fun t141 => ((want_Asks.f 1 a0 a1 a2).bind fun t142 => ((want_Step.f 0 0 a0 a1 a2 1).bind fun bt143 => ((want_Step.f 0 1 a0 a1 a2 1).bind fun bt146 => (if t140 = true then (if t141 = true then (if t142 = true then (none) else (if a0 ≥ a1 then (if (t141 == bt143.2) = true then (if (t142 == bt146.2) = true then ((want_Other.f 0).bind fun t149 => ((want_Other.f t149).bind fun t150 => (some (t150 == 0)))) else (none)) else (none)) else (if a0 ≤ a2 then (if (t141 == bt143.2) = true then (if (t142 == bt146.2) = true then ((want_Other.f 0).bind fun t151 => ((want_Other.f t151).bind fun t152 => (some (t152 == 0)))) else (none)) else (none)) else (none)))) else (if a0 ≥ a1 then (if t142 = true then (if (t141 == bt143.2) = true then (if (t142 == bt146.2) = true then ((want_Other.f 0).bind fun t153 => ((want_Other.f t153).bind fun t154 => (some (t154 == 0)))) else (none)) else (none)) else (none)) else (if a0 ≤ a2 then (if t142 = true then (if (t141 == bt143.2) = true then (if (t142 == bt146.2) = true then ((want_Other.f 0).bind fun t155 => ((want_Other.f t155).bind fun t156 => (some (t156 == 0)))) else (none)) else (none)) else (none)) else (if t142 = true then (none) else (if (t141 == bt143.2) = true then (if (t142 == bt146.2) = true then ((want_Other.f 0).bind fun t157 => ((want_Other.f t157).bind fun t158 => (some (t158 == 0)))) else (none)) else (none)))))) else (none)))))))
theorem precentorlaw14_WantEither.mono : ∀ a0 a1 a2 k, LeO (precentorlaw14_WantEither.f k a0 a1 a2) (precentorlaw14_WantEither.f (k + 1) a0 a1 a2) := by
  intro a0 a1 a2 k
  unfold precentorlaw14_WantEither.f
  repeat' first
      | (with_reducible exact precentorlaw14_shown.mono _)
      | (with_reducible exact LeO.refl _)
      | (with_reducible exact LeO.none _)
      | (with_reducible refine LeO.ite ?_ ?_)
      | (with_reducible refine LeO.bind ?_ (fun _ => ?_))
      | exact precentorlaw14_shown.mono _
      | exact LeO.none _
      | refine LeO.ite ?_ ?_
      | refine LeO.bind ?_ (fun _ => ?_)
set_option maxHeartbeats 8000000 in
set_option maxRecDepth 100000 in
theorem precentorlaw14_WantEither.calls (k : Nat) (a0 : Int) (a1 : Int) (a2 : Int) (r : Bool) (w : World) (h : precentorlaw14_WantEither.f k a0 a1 a2 = some r) :
    Calls Try.prog 5 #[.int .i64 a0, .int .i64 a1, .int .i64 a2] w fun e w' => e = .returned (.bool r) ∧ Below w.heap.size w w' := by
  have hu23 := Try.underlying23
  have HB := Aside0.mk (Below.refl w.heap.size w)
  have H : ((precentorlaw14_shown.f k).bind fun t140 => (if a2 ≥ a1 then (some t140) else ((want_Asks.f 0 a0 a1 a2).bind fun t141 => ((want_Asks.f 1 a0 a1 a2).bind fun t142 => ((want_Step.f 0 0 a0 a1 a2 1).bind fun bt143 => ((want_Step.f 0 1 a0 a1 a2 1).bind fun bt146 => (if t140 = true then (if t141 = true then (if t142 = true then (none) else (if a0 ≥ a1 then (if (t141 == bt143.2) = true then (if (t142 == bt146.2) = true then ((want_Other.f 0).bind fun t149 => ((want_Other.f t149).bind fun t150 => (some (t150 == 0)))) else (none)) else (none)) else (if a0 ≤ a2 then (if (t141 == bt143.2) = true then (if (t142 == bt146.2) = true then ((want_Other.f 0).bind fun t151 => ((want_Other.f t151).bind fun t152 => (some (t152 == 0)))) else (none)) else (none)) else (none)))) else (if a0 ≥ a1 then (if t142 = true then (if (t141 == bt143.2) = true then (if (t142 == bt146.2) = true then ((want_Other.f 0).bind fun t153 => ((want_Other.f t153).bind fun t154 => (some (t154 == 0)))) else (none)) else (none)) else (none)) else (if a0 ≤ a2 then (if t142 = true then (if (t141 == bt143.2) = true then (if (t142 == bt146.2) = true then ((want_Other.f 0).bind fun t155 => ((want_Other.f t155).bind fun t156 => (some (t156 == 0)))) else (none)) else (none)) else (none)) else (if t142 = true then (none) else (if (t141 == bt143.2) = true then (if (t142 == bt146.2) = true then ((want_Other.f 0).bind fun t157 => ((want_Other.f t157).bind fun t158 => (some (t158 == 0)))) else (none)) else (none)))))) else (none)))))))) = some r := h
  clear h
  replace H := Option.bind_eq_some_iff.mp H
  obtain ⟨t140, A40, H⟩ := H
  replace H : (if a2 ≥ a1 then (some t140) else ((want_Asks.f 0 a0 a1 a2).bind fun t141 => ((want_Asks.f 1 a0 a1 a2).bind fun t142 => ((want_Step.f 0 0 a0 a1 a2 1).bind fun bt143 => ((want_Step.f 0 1 a0 a1 a2 1).bind fun bt146 => (if t140 = true then (if t141 = true then (if t142 = true then (none) else (if a0 ≥ a1 then (if (t141 == bt143.2) = true then (if (t142 == bt146.2) = true then ((want_Other.f 0).bind fun t149 => ((want_Other.f t149).bind fun t150 => (some (t150 == 0)))) else (none)) else (none)) else (if a0 ≤ a2 then (if (t141 == bt143.2) = true then (if (t142 == bt146.2) = true then ((want_Other.f 0).bind fun t151 => ((want_Other.f t151).bind fun t152 => (some (t152 == 0)))) else (none)) else (none)) else (none)))) else (if a0 ≥ a1 then (if t142 = true then (if (t141 == bt143.2) = true then (if (t142 == bt146.2) = true then ((want_Other.f 0).bind fun t153 => ((want_Other.f t153).bind fun t154 => (some (t154 == 0)))) else (none)) else (none)) else (none)) else (if a0 ≤ a2 then (if t142 = true then (if (t141 == bt143.2) = true then (if (t142 == bt146.2) = true then ((want_Other.f 0).bind fun t155 => ((want_Other.f t155).bind fun t156 => (some (t156 == 0)))) else (none)) else (none)) else (none)) else (if t142 = true then (none) else (if (t141 == bt143.2) = true then (if (t142 == bt146.2) = true then ((want_Other.f 0).bind fun t157 => ((want_Other.f t157).bind fun t158 => (some (t158 == 0)))) else (none)) else (none)))))) else (none))))))) = some r := H
  have A4 := Aside0.mk A40
  clear A40
  by_cases c5 : a2 ≥ a1
  · rw [if_pos c5] at H
    have c5b0 : decide (a1 ≤ a2) = true := decide_eq_true c5
    clear c5
    obtain rfl := Option.some.inj H
    go_enter Try.func5, Try.ntmps5
    go_wp2_with (first | ((with_reducible refine gate_callee (f := 7) rfl ?_); refine goesL_ (some 14) rfl rfl Try.func7 (by kernel_rfl) rfl #[] rfl (by (try simp only [List.map_toArray, List.map_cons, List.map_nil]); first | done | rfl | (simp only [List.length_drop, List.length_take]; rfl)) ?_; (with_reducible refine (precentorlaw14_shown.calls k  t140 _ A4.out).mono ?_); rintro e w6 ⟨rfl, hb⟩; refine ⟨_, rfl, ?_⟩; have n0_ := Aside0.mk (below_step (by repeat (first | (with_reducible first | exact HB.out | apply below_alloc | apply pw_below_drewN | apply below_drew1) | exact HB.out)) hb); clear HB; have HB := n0_; clear n0_; (try clear hb); (try clear hb2); (try clear hk); (try clear hi)))
    go_ret
    exact ⟨by first | rfl | (simp [errW_none, errW_some] <;> rfl) | (simp [*, errW_none, errW_some] <;> rfl), by repeat (first | (with_reducible first | exact HB.out | apply below_alloc | apply pw_below_drewN | apply below_drew1) | exact HB.out)⟩
  · rw [if_neg c5] at H
    have c5b0 : decide (a1 ≤ a2) = false := decide_eq_false c5
    clear c5
    replace H := Option.bind_eq_some_iff.mp H
    obtain ⟨t141, A70, H⟩ := H
    replace H : ((want_Asks.f 1 a0 a1 a2).bind fun t142 => ((want_Step.f 0 0 a0 a1 a2 1).bind fun bt143 => ((want_Step.f 0 1 a0 a1 a2 1).bind fun bt146 => (if t140 = true then (if t141 = true then (if t142 = true then (none) else (if a0 ≥ a1 then (if (t141 == bt143.2) = true then (if (t142 == bt146.2) = true then ((want_Other.f 0).bind fun t149 => ((want_Other.f t149).bind fun t150 => (some (t150 == 0)))) else (none)) else (none)) else (if a0 ≤ a2 then (if (t141 == bt143.2) = true then (if (t142 == bt146.2) = true then ((want_Other.f 0).bind fun t151 => ((want_Other.f t151).bind fun t152 => (some (t152 == 0)))) else (none)) else (none)) else (none)))) else (if a0 ≥ a1 then (if t142 = true then (if (t141 == bt143.2) = true then (if (t142 == bt146.2) = true then ((want_Other.f 0).bind fun t153 => ((want_Other.f t153).bind fun t154 => (some (t154 == 0)))) else (none)) else (none)) else (none)) else (if a0 ≤ a2 then (if t142 = true then (if (t141 == bt143.2) = true then (if (t142 == bt146.2) = true then ((want_Other.f 0).bind fun t155 => ((want_Other.f t155).bind fun t156 => (some (t156 == 0)))) else (none)) else (none)) else (none)) else (if t142 = true then (none) else (if (t141 == bt143.2) = true then (if (t142 == bt146.2) = true then ((want_Other.f 0).bind fun t157 => ((want_Other.f t157).bind fun t158 => (some (t158 == 0)))) else (none)) else (none)))))) else (none))))) = some r := H
    have A7 := Aside0.mk A70
    clear A70
    replace H := Option.bind_eq_some_iff.mp H
    obtain ⟨t142, A80, H⟩ := H
    replace H : ((want_Step.f 0 0 a0 a1 a2 1).bind fun bt143 => ((want_Step.f 0 1 a0 a1 a2 1).bind fun bt146 => (if t140 = true then (if t141 = true then (if t142 = true then (none) else (if a0 ≥ a1 then (if (t141 == bt143.2) = true then (if (t142 == bt146.2) = true then ((want_Other.f 0).bind fun t149 => ((want_Other.f t149).bind fun t150 => (some (t150 == 0)))) else (none)) else (none)) else (if a0 ≤ a2 then (if (t141 == bt143.2) = true then (if (t142 == bt146.2) = true then ((want_Other.f 0).bind fun t151 => ((want_Other.f t151).bind fun t152 => (some (t152 == 0)))) else (none)) else (none)) else (none)))) else (if a0 ≥ a1 then (if t142 = true then (if (t141 == bt143.2) = true then (if (t142 == bt146.2) = true then ((want_Other.f 0).bind fun t153 => ((want_Other.f t153).bind fun t154 => (some (t154 == 0)))) else (none)) else (none)) else (none)) else (if a0 ≤ a2 then (if t142 = true then (if (t141 == bt143.2) = true then (if (t142 == bt146.2) = true then ((want_Other.f 0).bind fun t155 => ((want_Other.f t155).bind fun t156 => (some (t156 == 0)))) else (none)) else (none)) else (none)) else (if t142 = true then (none) else (if (t141 == bt143.2) = true then (if (t142 == bt146.2) = true then ((want_Other.f 0).bind fun t157 => ((want_Other.f t157).bind fun t158 => (some (t158 == 0)))) else (none)) else (none)))))) else (none)))) = some r := H
    have A8 := Aside0.mk A80
    clear A80
    replace H := Option.bind_eq_some_iff.mp H
    obtain ⟨⟨t143, t144⟩, A90, H⟩ := H
    replace H : ((want_Step.f 0 1 a0 a1 a2 1).bind fun bt146 => (if t140 = true then (if t141 = true then (if t142 = true then (none) else (if a0 ≥ a1 then (if (t141 == t144) = true then (if (t142 == bt146.2) = true then ((want_Other.f 0).bind fun t149 => ((want_Other.f t149).bind fun t150 => (some (t150 == 0)))) else (none)) else (none)) else (if a0 ≤ a2 then (if (t141 == t144) = true then (if (t142 == bt146.2) = true then ((want_Other.f 0).bind fun t151 => ((want_Other.f t151).bind fun t152 => (some (t152 == 0)))) else (none)) else (none)) else (none)))) else (if a0 ≥ a1 then (if t142 = true then (if (t141 == t144) = true then (if (t142 == bt146.2) = true then ((want_Other.f 0).bind fun t153 => ((want_Other.f t153).bind fun t154 => (some (t154 == 0)))) else (none)) else (none)) else (none)) else (if a0 ≤ a2 then (if t142 = true then (if (t141 == t144) = true then (if (t142 == bt146.2) = true then ((want_Other.f 0).bind fun t155 => ((want_Other.f t155).bind fun t156 => (some (t156 == 0)))) else (none)) else (none)) else (none)) else (if t142 = true then (none) else (if (t141 == t144) = true then (if (t142 == bt146.2) = true then ((want_Other.f 0).bind fun t157 => ((want_Other.f t157).bind fun t158 => (some (t158 == 0)))) else (none)) else (none)))))) else (none))) = some r := H
    have A9 := Aside0.mk A90
    clear A90
    replace H := Option.bind_eq_some_iff.mp H
    obtain ⟨⟨t146, t147⟩, A100, H⟩ := H
    replace H : (if t140 = true then (if t141 = true then (if t142 = true then (none) else (if a0 ≥ a1 then (if (t141 == t144) = true then (if (t142 == t147) = true then ((want_Other.f 0).bind fun t149 => ((want_Other.f t149).bind fun t150 => (some (t150 == 0)))) else (none)) else (none)) else (if a0 ≤ a2 then (if (t141 == t144) = true then (if (t142 == t147) = true then ((want_Other.f 0).bind fun t151 => ((want_Other.f t151).bind fun t152 => (some (t152 == 0)))) else (none)) else (none)) else (none)))) else (if a0 ≥ a1 then (if t142 = true then (if (t141 == t144) = true then (if (t142 == t147) = true then ((want_Other.f 0).bind fun t153 => ((want_Other.f t153).bind fun t154 => (some (t154 == 0)))) else (none)) else (none)) else (none)) else (if a0 ≤ a2 then (if t142 = true then (if (t141 == t144) = true then (if (t142 == t147) = true then ((want_Other.f 0).bind fun t155 => ((want_Other.f t155).bind fun t156 => (some (t156 == 0)))) else (none)) else (none)) else (none)) else (if t142 = true then (none) else (if (t141 == t144) = true then (if (t142 == t147) = true then ((want_Other.f 0).bind fun t157 => ((want_Other.f t157).bind fun t158 => (some (t158 == 0)))) else (none)) else (none)))))) else (none)) = some r := H
    have A10 := Aside0.mk A100
    clear A100
    by_cases c11 : t140 = true
    · subst c11
      have H1 : (if t141 = true then (if t142 = true then (none) else (if a0 ≥ a1 then (if (t141 == t144) = true then (if (t142 == t147) = true then ((want_Other.f 0).bind fun t149 => ((want_Other.f t149).bind fun t150 => (some (t150 == 0)))) else (none)) else (none)) else (if a0 ≤ a2 then (if (t141 == t144) = true then (if (t142 == t147) = true then ((want_Other.f 0).bind fun t151 => ((want_Other.f t151).bind fun t152 => (some (t152 == 0)))) else (none)) else (none)) else (none)))) else (if a0 ≥ a1 then (if t142 = true then (if (t141 == t144) = true then (if (t142 == t147) = true then ((want_Other.f 0).bind fun t153 => ((want_Other.f t153).bind fun t154 => (some (t154 == 0)))) else (none)) else (none)) else (none)) else (if a0 ≤ a2 then (if t142 = true then (if (t141 == t144) = true then (if (t142 == t147) = true then ((want_Other.f 0).bind fun t155 => ((want_Other.f t155).bind fun t156 => (some (t156 == 0)))) else (none)) else (none)) else (none)) else (if t142 = true then (none) else (if (t141 == t144) = true then (if (t142 == t147) = true then ((want_Other.f 0).bind fun t157 => ((want_Other.f t157).bind fun t158 => (some (t158 == 0)))) else (none)) else (none)))))) = some r := by rw [if_pos rfl] at H; exact H
      clear H
      have H := H1
      clear H1
      by_cases c12 : t141 = true
      · subst c12
        have H1 : (if t142 = true then (none) else (if a0 ≥ a1 then (if (true == t144) = true then (if (t142 == t147) = true then ((want_Other.f 0).bind fun t149 => ((want_Other.f t149).bind fun t150 => (some (t150 == 0)))) else (none)) else (none)) else (if a0 ≤ a2 then (if (true == t144) = true then (if (t142 == t147) = true then ((want_Other.f 0).bind fun t151 => ((want_Other.f t151).bind fun t152 => (some (t152 == 0)))) else (none)) else (none)) else (none)))) = some r := by rw [if_pos rfl] at H; exact H
        clear H
        have H := H1
        clear H1
        by_cases c13 : t142 = true
        · subst c13
          have H1 : (none) = some r := by rw [if_pos rfl] at H; exact H
          clear H
          have H := H1
          clear H1
          exact absurd H (by simp)
        · replace c13 := Bool.eq_false_iff.mpr c13
          subst c13
          have H1 : (if a0 ≥ a1 then (if (true == t144) = true then (if (false == t147) = true then ((want_Other.f 0).bind fun t149 => ((want_Other.f t149).bind fun t150 => (some (t150 == 0)))) else (none)) else (none)) else (if a0 ≤ a2 then (if (true == t144) = true then (if (false == t147) = true then ((want_Other.f 0).bind fun t151 => ((want_Other.f t151).bind fun t152 => (some (t152 == 0)))) else (none)) else (none)) else (none))) = some r := by rw [if_neg (show ¬ (false = true) by decide)] at H; exact H
          clear H
          have H := H1
          clear H1
          by_cases c14 : a0 ≥ a1
          · rw [if_pos c14] at H
            have c14b0 : decide (a1 ≤ a0) = true := decide_eq_true c14
            clear c14
            by_cases c15 : (true == t144) = true
            · rw [if_pos c15] at H
              have c15b0 : (true == t144) = true := c15
              (try (have c15b1 : decide (true = t144) = true := by simpa using c15))
              (try (have c15b2 : (true == t144) = true := by simpa using c15))
              clear c15
              by_cases c16 : (false == t147) = true
              · rw [if_pos c16] at H
                have c16b0 : (false == t147) = true := c16
                (try (have c16b1 : decide (false = t147) = true := by simpa using c16))
                (try (have c16b2 : (false == t147) = true := by simpa using c16))
                clear c16
                replace H := Option.bind_eq_some_iff.mp H
                obtain ⟨t149, A170, H⟩ := H
                replace H : ((want_Other.f t149).bind fun t150 => (some (t150 == 0))) = some r := H
                have A17 := Aside0.mk A170
                clear A170
                replace H := Option.bind_eq_some_iff.mp H
                obtain ⟨t150, A180, H⟩ := H
                replace H : (some (t150 == 0)) = some r := H
                have A18 := Aside0.mk A180
                clear A180
                obtain rfl := Option.some.inj H
                go_enter Try.func5, Try.ntmps5
                go_wp2_with (first | ((with_reducible refine gate_callee (f := 7) rfl ?_); refine goesL_ (some 14) rfl rfl Try.func7 (by kernel_rfl) rfl #[] rfl (by (try simp only [List.map_toArray, List.map_cons, List.map_nil]); first | done | rfl | (simp only [List.length_drop, List.length_take]; rfl)) ?_; (with_reducible refine (precentorlaw14_shown.calls k  true _ A4.out).mono ?_); rintro e w19 ⟨rfl, hb⟩; refine ⟨_, rfl, ?_⟩; have n0_ := Aside0.mk (below_step (by repeat (first | (with_reducible first | exact HB.out | apply below_alloc | apply pw_below_drewN | apply below_drew1) | exact HB.out)) hb); clear HB; have HB := n0_; clear n0_; (try clear hb); (try clear hb2); (try clear hk); (try clear hi)) | ((with_reducible refine gate_callee (f := 11) rfl ?_); refine goesL_ (some 22) rfl rfl Try.func11 (by kernel_rfl) rfl #[.int .i64 0, .int .i64 a0, .int .i64 a1, .int .i64 a2] rfl (by (try simp only [List.map_toArray, List.map_cons, List.map_nil]); first | done | rfl | (simp only [List.length_drop, List.length_take]; rfl)) ?_; (with_reducible refine (want_Asks.calls 0 a0 a1 a2 true _ A7.out).mono ?_); rintro e w' ⟨rfl, ⟨nd, rfl⟩⟩; refine ⟨_, rfl, ?_⟩; (try (rw [drewN_self w19]; generalize hq_ : World.drewN w19 _ = w19; have n0_ : Aside0 (Below w.heap.size w w19) := ⟨by rw [← hq_]; exact (by repeat (first | (with_reducible first | exact HB.out | apply below_alloc | apply pw_below_drewN | apply below_drew1) | exact HB.out))⟩; clear HB hq_; have HB := n0_; clear n0_))) | ((with_reducible refine gate_callee (f := 11) rfl ?_); refine goesL_ (some 26) rfl rfl Try.func11 (by kernel_rfl) rfl #[.int .i64 1, .int .i64 a0, .int .i64 a1, .int .i64 a2] rfl (by (try simp only [List.map_toArray, List.map_cons, List.map_nil]); first | done | rfl | (simp only [List.length_drop, List.length_take]; rfl)) ?_; (with_reducible refine (want_Asks.calls 1 a0 a1 a2 false _ A8.out).mono ?_); rintro e w' ⟨rfl, ⟨nd, rfl⟩⟩; refine ⟨_, rfl, ?_⟩; (try (rw [drewN_self w19]; generalize hq_ : World.drewN w19 _ = w19; have n0_ : Aside0 (Below w.heap.size w w19) := ⟨by rw [← hq_]; exact (by repeat (first | (with_reducible first | exact HB.out | apply below_alloc | apply pw_below_drewN | apply below_drew1) | exact HB.out))⟩; clear HB hq_; have HB := n0_; clear n0_))) | ((with_reducible refine gate_callee (f := 9) rfl ?_); refine goesL_ (some 32) rfl rfl Try.func9 (by kernel_rfl) rfl #[.agg #[.int .i64 0], .int .i64 0, .int .i64 a0, .int .i64 a1, .int .i64 a2, .int .i64 1] rfl (by (try simp only [List.map_toArray, List.map_cons, List.map_nil]); first | done | rfl | (simp only [List.length_drop, List.length_take]; rfl)) ?_; (with_reducible refine (want_Step.calls 0 0 a0 a1 a2 1 t143 t144 _ A9.out).mono ?_); rintro e w20 ⟨rfl, hb⟩; refine ⟨_, rfl, ?_⟩; have n0_ := Aside0.mk (below_step (by repeat (first | (with_reducible first | exact HB.out | apply below_alloc | apply pw_below_drewN | apply below_drew1) | exact HB.out)) hb); clear HB; have HB := n0_; clear n0_; (try clear hb); (try clear hb2); (try clear hk); (try clear hi)) | ((with_reducible refine gate_dst (N := 10) rfl ?_); refine box_event ?hg (N := 10) ?hd (cs := #[.int .i64 0]) (t := 23) ?hr ?_; (case hd => rfl); (case hg => rfl); (case hr => first | (go_simp; done) | (go_simp; rfl)); intro gb145 hg w21 hbox hb; have n0_ := Aside0.mk (below_step (by repeat (first | (with_reducible first | exact HB.out | apply below_alloc | apply pw_below_drewN | apply below_drew1) | exact HB.out)) hb); have n1_ := Aside0.mk (hbox); have n2_ := Aside0.mk ((by rw [hg]; exact (below_size (by repeat (first | (with_reducible first | exact HB.out | apply below_alloc | apply pw_below_drewN | apply below_drew1) | exact HB.out))) : w.heap.size ≤ gb145)); have n3_ := Aside0.mk ((by rw [hg]; exact (below_size (by repeat (first | (with_reducible first | exact HB.out | apply below_alloc | apply pw_below_drewN | apply below_drew1) | exact HB.out))) : w.heap.size ≤ gb145)); clear HB; have HB := n0_; have BK145 := n1_; have GW145 := n2_; have GE145 := n3_; clear n0_ n1_ n2_ n3_; clear hb hbox hg; have hcz22_0 : w21.cell? ⟨gb145, 0, none⟩ = some (.int .i64 0) := (blk_cell BK145.out 0).trans rfl; have hfz22_0 := blk_frozen BK145.out 0) | ((with_reducible refine gate_callee (f := 9) rfl ?_); refine goesL_ (some 40) rfl rfl Try.func9 (by kernel_rfl) rfl #[.agg #[.int .i64 0], .int .i64 1, .int .i64 a0, .int .i64 a1, .int .i64 a2, .int .i64 1] rfl (by (try simp only [List.map_toArray, List.map_cons, List.map_nil]); first | done | rfl | (simp only [List.length_drop, List.length_take]; rfl)) ?_; (with_reducible refine (want_Step.calls 0 1 a0 a1 a2 1 t146 t147 _ A10.out).mono ?_); rintro e w23 ⟨rfl, hb⟩; refine ⟨_, rfl, ?_⟩; have n0_ := Aside0.mk (blk_below (g := gb145) (o := .cells #[.int .i64 t143] 23 (0, 0)) (by (with_reducible repeat (first | refine blk_drewN ?_ _ | refine blk_drew ?_ | refine blk_alloc ?_ _)); refine blk_put (cs := #[.int .i64 0]) ?_ 0 _ rfl; (with_reducible repeat (first | refine blk_drewN ?_ _ | refine blk_drew ?_ | refine blk_alloc ?_ _)); exact BK145.out) hb); have n1_ := Aside0.mk (below_step (by repeat (first | (with_reducible first | exact HB.out | apply below_alloc | apply pw_below_drewN | apply below_drew1 | refine below_set ?_ GE145.out) | exact HB.out)) hb); clear BK145; clear HB; have BK145 := n0_; have HB := n1_; clear n0_ n1_; (try clear hb); (try clear hb2); (try clear hk); (try clear hi)) | ((with_reducible refine gate_dst (N := 12) rfl ?_); refine box_event ?hg (N := 12) ?hd (cs := #[.int .i64 0]) (t := 23) ?hr ?_; (case hd => rfl); (case hg => rfl); (case hr => first | (go_simp; done) | (go_simp; rfl)); intro gb148 hg w24 hbox hb; have n0_ := Aside0.mk (blk_below (g := gb145) (o := .cells #[.int .i64 t143] 23 (0, 0)) (by (with_reducible repeat (first | refine blk_drewN ?_ _ | refine blk_drew ?_ | refine blk_alloc ?_ _)); exact BK145.out) hb); have n1_ := Aside0.mk (below_step (by repeat (first | (with_reducible first | exact HB.out | apply below_alloc | apply pw_below_drewN | apply below_drew1 | refine below_set ?_ GE145.out) | exact HB.out)) hb); have n2_ := Aside0.mk (hbox); have n3_ := Aside0.mk ((by rw [hg]; exact (below_size (by repeat (first | (with_reducible first | exact HB.out | apply below_alloc | apply pw_below_drewN | apply below_drew1 | refine below_set ?_ GE145.out) | exact HB.out))) : w.heap.size ≤ gb148)); have n4_ := Aside0.mk ((by rw [hg]; exact (below_size (by repeat (first | (with_reducible first | exact HB.out | apply below_alloc | apply pw_below_drewN | apply below_drew1 | refine below_set ?_ GE145.out) | exact HB.out))) : w.heap.size ≤ gb148)); have n5_ := Aside0.mk ((by rw [hg]; exact Nat.ne_of_lt (blk_lt (g := gb145) (o := .cells #[.int .i64 t143] 23 (0, 0)) (by (with_reducible repeat (first | refine blk_drewN ?_ _ | refine blk_drew ?_ | refine blk_alloc ?_ _)); exact BK145.out)) : gb145 ≠ gb148)); have n6_ := Aside0.mk ((by rw [hg]; exact Nat.ne_of_gt (blk_lt (g := gb145) (o := .cells #[.int .i64 t143] 23 (0, 0)) (by (with_reducible repeat (first | refine blk_drewN ?_ _ | refine blk_drew ?_ | refine blk_alloc ?_ _)); exact BK145.out)) : gb148 ≠ gb145)); clear BK145; clear HB; have BK145 := n0_; have HB := n1_; have BK148 := n2_; have GW148 := n3_; have GE148 := n4_; have NB145_148 := n5_; have NB148_145 := n6_; clear n0_ n1_ n2_ n3_ n4_ n5_ n6_; clear hb hbox hg; have hnb25 := NB148_145.out; have hnc25 := NB145_148.out; have hcz26_0 : w24.cell? ⟨gb148, 0, none⟩ = some (.int .i64 0) := (blk_cell BK148.out 0).trans rfl; have hfz26_0 := blk_frozen BK148.out 0) | (go_at_call 13; (with_reducible refine (want_Other.calls 0 t149 _ A17.out).mono ?_); rintro e w' ⟨rfl, ⟨nd, rfl⟩⟩) | (go_at_call 13; (with_reducible refine (want_Other.calls t149 t150 _ A18.out).mono ?_); rintro e w' ⟨rfl, ⟨nd, rfl⟩⟩))
                go_ret
                exact ⟨by first | rfl | (simp [errW_none, errW_some] <;> rfl) | (simp [*, errW_none, errW_some] <;> rfl), by repeat (first | (with_reducible first | exact HB.out | apply below_alloc | apply pw_below_drewN | apply below_drew1 | refine below_set ?_ GE145.out | refine below_set ?_ GE148.out) | exact HB.out)⟩
              · rw [if_neg c16] at H
                exact absurd H (by simp)
            · rw [if_neg c15] at H
              exact absurd H (by simp)
          · rw [if_neg c14] at H
            have c14b0 : decide (a1 ≤ a0) = false := decide_eq_false c14
            clear c14
            by_cases c27 : a0 ≤ a2
            · rw [if_pos c27] at H
              have c27b0 : decide (a0 ≤ a2) = true := decide_eq_true c27
              clear c27
              by_cases c28 : (true == t144) = true
              · rw [if_pos c28] at H
                have c28b0 : (true == t144) = true := c28
                (try (have c28b1 : decide (true = t144) = true := by simpa using c28))
                (try (have c28b2 : (true == t144) = true := by simpa using c28))
                clear c28
                by_cases c29 : (false == t147) = true
                · rw [if_pos c29] at H
                  have c29b0 : (false == t147) = true := c29
                  (try (have c29b1 : decide (false = t147) = true := by simpa using c29))
                  (try (have c29b2 : (false == t147) = true := by simpa using c29))
                  clear c29
                  replace H := Option.bind_eq_some_iff.mp H
                  obtain ⟨t151, A300, H⟩ := H
                  replace H : ((want_Other.f t151).bind fun t152 => (some (t152 == 0))) = some r := H
                  have A30 := Aside0.mk A300
                  clear A300
                  replace H := Option.bind_eq_some_iff.mp H
                  obtain ⟨t152, A310, H⟩ := H
                  replace H : (some (t152 == 0)) = some r := H
                  have A31 := Aside0.mk A310
                  clear A310
                  obtain rfl := Option.some.inj H
                  go_enter Try.func5, Try.ntmps5
                  go_wp2_with (first | ((with_reducible refine gate_callee (f := 7) rfl ?_); refine goesL_ (some 14) rfl rfl Try.func7 (by kernel_rfl) rfl #[] rfl (by (try simp only [List.map_toArray, List.map_cons, List.map_nil]); first | done | rfl | (simp only [List.length_drop, List.length_take]; rfl)) ?_; (with_reducible refine (precentorlaw14_shown.calls k  true _ A4.out).mono ?_); rintro e w32 ⟨rfl, hb⟩; refine ⟨_, rfl, ?_⟩; have n0_ := Aside0.mk (below_step (by repeat (first | (with_reducible first | exact HB.out | apply below_alloc | apply pw_below_drewN | apply below_drew1) | exact HB.out)) hb); clear HB; have HB := n0_; clear n0_; (try clear hb); (try clear hb2); (try clear hk); (try clear hi)) | ((with_reducible refine gate_callee (f := 11) rfl ?_); refine goesL_ (some 22) rfl rfl Try.func11 (by kernel_rfl) rfl #[.int .i64 0, .int .i64 a0, .int .i64 a1, .int .i64 a2] rfl (by (try simp only [List.map_toArray, List.map_cons, List.map_nil]); first | done | rfl | (simp only [List.length_drop, List.length_take]; rfl)) ?_; (with_reducible refine (want_Asks.calls 0 a0 a1 a2 true _ A7.out).mono ?_); rintro e w' ⟨rfl, ⟨nd, rfl⟩⟩; refine ⟨_, rfl, ?_⟩; (try (rw [drewN_self w32]; generalize hq_ : World.drewN w32 _ = w32; have n0_ : Aside0 (Below w.heap.size w w32) := ⟨by rw [← hq_]; exact (by repeat (first | (with_reducible first | exact HB.out | apply below_alloc | apply pw_below_drewN | apply below_drew1) | exact HB.out))⟩; clear HB hq_; have HB := n0_; clear n0_))) | ((with_reducible refine gate_callee (f := 11) rfl ?_); refine goesL_ (some 26) rfl rfl Try.func11 (by kernel_rfl) rfl #[.int .i64 1, .int .i64 a0, .int .i64 a1, .int .i64 a2] rfl (by (try simp only [List.map_toArray, List.map_cons, List.map_nil]); first | done | rfl | (simp only [List.length_drop, List.length_take]; rfl)) ?_; (with_reducible refine (want_Asks.calls 1 a0 a1 a2 false _ A8.out).mono ?_); rintro e w' ⟨rfl, ⟨nd, rfl⟩⟩; refine ⟨_, rfl, ?_⟩; (try (rw [drewN_self w32]; generalize hq_ : World.drewN w32 _ = w32; have n0_ : Aside0 (Below w.heap.size w w32) := ⟨by rw [← hq_]; exact (by repeat (first | (with_reducible first | exact HB.out | apply below_alloc | apply pw_below_drewN | apply below_drew1) | exact HB.out))⟩; clear HB hq_; have HB := n0_; clear n0_))) | ((with_reducible refine gate_callee (f := 9) rfl ?_); refine goesL_ (some 32) rfl rfl Try.func9 (by kernel_rfl) rfl #[.agg #[.int .i64 0], .int .i64 0, .int .i64 a0, .int .i64 a1, .int .i64 a2, .int .i64 1] rfl (by (try simp only [List.map_toArray, List.map_cons, List.map_nil]); first | done | rfl | (simp only [List.length_drop, List.length_take]; rfl)) ?_; (with_reducible refine (want_Step.calls 0 0 a0 a1 a2 1 t143 t144 _ A9.out).mono ?_); rintro e w33 ⟨rfl, hb⟩; refine ⟨_, rfl, ?_⟩; have n0_ := Aside0.mk (below_step (by repeat (first | (with_reducible first | exact HB.out | apply below_alloc | apply pw_below_drewN | apply below_drew1) | exact HB.out)) hb); clear HB; have HB := n0_; clear n0_; (try clear hb); (try clear hb2); (try clear hk); (try clear hi)) | ((with_reducible refine gate_dst (N := 10) rfl ?_); refine box_event ?hg (N := 10) ?hd (cs := #[.int .i64 0]) (t := 23) ?hr ?_; (case hd => rfl); (case hg => rfl); (case hr => first | (go_simp; done) | (go_simp; rfl)); intro gb145 hg w34 hbox hb; have n0_ := Aside0.mk (below_step (by repeat (first | (with_reducible first | exact HB.out | apply below_alloc | apply pw_below_drewN | apply below_drew1) | exact HB.out)) hb); have n1_ := Aside0.mk (hbox); have n2_ := Aside0.mk ((by rw [hg]; exact (below_size (by repeat (first | (with_reducible first | exact HB.out | apply below_alloc | apply pw_below_drewN | apply below_drew1) | exact HB.out))) : w.heap.size ≤ gb145)); have n3_ := Aside0.mk ((by rw [hg]; exact (below_size (by repeat (first | (with_reducible first | exact HB.out | apply below_alloc | apply pw_below_drewN | apply below_drew1) | exact HB.out))) : w.heap.size ≤ gb145)); clear HB; have HB := n0_; have BK145 := n1_; have GW145 := n2_; have GE145 := n3_; clear n0_ n1_ n2_ n3_; clear hb hbox hg; have hcz35_0 : w34.cell? ⟨gb145, 0, none⟩ = some (.int .i64 0) := (blk_cell BK145.out 0).trans rfl; have hfz35_0 := blk_frozen BK145.out 0) | ((with_reducible refine gate_callee (f := 9) rfl ?_); refine goesL_ (some 40) rfl rfl Try.func9 (by kernel_rfl) rfl #[.agg #[.int .i64 0], .int .i64 1, .int .i64 a0, .int .i64 a1, .int .i64 a2, .int .i64 1] rfl (by (try simp only [List.map_toArray, List.map_cons, List.map_nil]); first | done | rfl | (simp only [List.length_drop, List.length_take]; rfl)) ?_; (with_reducible refine (want_Step.calls 0 1 a0 a1 a2 1 t146 t147 _ A10.out).mono ?_); rintro e w36 ⟨rfl, hb⟩; refine ⟨_, rfl, ?_⟩; have n0_ := Aside0.mk (blk_below (g := gb145) (o := .cells #[.int .i64 t143] 23 (0, 0)) (by (with_reducible repeat (first | refine blk_drewN ?_ _ | refine blk_drew ?_ | refine blk_alloc ?_ _)); refine blk_put (cs := #[.int .i64 0]) ?_ 0 _ rfl; (with_reducible repeat (first | refine blk_drewN ?_ _ | refine blk_drew ?_ | refine blk_alloc ?_ _)); exact BK145.out) hb); have n1_ := Aside0.mk (below_step (by repeat (first | (with_reducible first | exact HB.out | apply below_alloc | apply pw_below_drewN | apply below_drew1 | refine below_set ?_ GE145.out) | exact HB.out)) hb); clear BK145; clear HB; have BK145 := n0_; have HB := n1_; clear n0_ n1_; (try clear hb); (try clear hb2); (try clear hk); (try clear hi)) | ((with_reducible refine gate_dst (N := 12) rfl ?_); refine box_event ?hg (N := 12) ?hd (cs := #[.int .i64 0]) (t := 23) ?hr ?_; (case hd => rfl); (case hg => rfl); (case hr => first | (go_simp; done) | (go_simp; rfl)); intro gb148 hg w37 hbox hb; have n0_ := Aside0.mk (blk_below (g := gb145) (o := .cells #[.int .i64 t143] 23 (0, 0)) (by (with_reducible repeat (first | refine blk_drewN ?_ _ | refine blk_drew ?_ | refine blk_alloc ?_ _)); exact BK145.out) hb); have n1_ := Aside0.mk (below_step (by repeat (first | (with_reducible first | exact HB.out | apply below_alloc | apply pw_below_drewN | apply below_drew1 | refine below_set ?_ GE145.out) | exact HB.out)) hb); have n2_ := Aside0.mk (hbox); have n3_ := Aside0.mk ((by rw [hg]; exact (below_size (by repeat (first | (with_reducible first | exact HB.out | apply below_alloc | apply pw_below_drewN | apply below_drew1 | refine below_set ?_ GE145.out) | exact HB.out))) : w.heap.size ≤ gb148)); have n4_ := Aside0.mk ((by rw [hg]; exact (below_size (by repeat (first | (with_reducible first | exact HB.out | apply below_alloc | apply pw_below_drewN | apply below_drew1 | refine below_set ?_ GE145.out) | exact HB.out))) : w.heap.size ≤ gb148)); have n5_ := Aside0.mk ((by rw [hg]; exact Nat.ne_of_lt (blk_lt (g := gb145) (o := .cells #[.int .i64 t143] 23 (0, 0)) (by (with_reducible repeat (first | refine blk_drewN ?_ _ | refine blk_drew ?_ | refine blk_alloc ?_ _)); exact BK145.out)) : gb145 ≠ gb148)); have n6_ := Aside0.mk ((by rw [hg]; exact Nat.ne_of_gt (blk_lt (g := gb145) (o := .cells #[.int .i64 t143] 23 (0, 0)) (by (with_reducible repeat (first | refine blk_drewN ?_ _ | refine blk_drew ?_ | refine blk_alloc ?_ _)); exact BK145.out)) : gb148 ≠ gb145)); clear BK145; clear HB; have BK145 := n0_; have HB := n1_; have BK148 := n2_; have GW148 := n3_; have GE148 := n4_; have NB145_148 := n5_; have NB148_145 := n6_; clear n0_ n1_ n2_ n3_ n4_ n5_ n6_; clear hb hbox hg; have hnb38 := NB148_145.out; have hnc38 := NB145_148.out; have hcz39_0 : w37.cell? ⟨gb148, 0, none⟩ = some (.int .i64 0) := (blk_cell BK148.out 0).trans rfl; have hfz39_0 := blk_frozen BK148.out 0) | (go_at_call 13; (with_reducible refine (want_Other.calls 0 t151 _ A30.out).mono ?_); rintro e w' ⟨rfl, ⟨nd, rfl⟩⟩) | (go_at_call 13; (with_reducible refine (want_Other.calls t151 t152 _ A31.out).mono ?_); rintro e w' ⟨rfl, ⟨nd, rfl⟩⟩))
                  go_ret
                  exact ⟨by first | rfl | (simp [errW_none, errW_some] <;> rfl) | (simp [*, errW_none, errW_some] <;> rfl), by repeat (first | (with_reducible first | exact HB.out | apply below_alloc | apply pw_below_drewN | apply below_drew1 | refine below_set ?_ GE145.out | refine below_set ?_ GE148.out) | exact HB.out)⟩
                · rw [if_neg c29] at H
                  exact absurd H (by simp)
              · rw [if_neg c28] at H
                exact absurd H (by simp)
            · rw [if_neg c27] at H
              exact absurd H (by simp)
      · replace c12 := Bool.eq_false_iff.mpr c12
        subst c12
        have H1 : (if a0 ≥ a1 then (if t142 = true then (if (false == t144) = true then (if (t142 == t147) = true then ((want_Other.f 0).bind fun t153 => ((want_Other.f t153).bind fun t154 => (some (t154 == 0)))) else (none)) else (none)) else (none)) else (if a0 ≤ a2 then (if t142 = true then (if (false == t144) = true then (if (t142 == t147) = true then ((want_Other.f 0).bind fun t155 => ((want_Other.f t155).bind fun t156 => (some (t156 == 0)))) else (none)) else (none)) else (none)) else (if t142 = true then (none) else (if (false == t144) = true then (if (t142 == t147) = true then ((want_Other.f 0).bind fun t157 => ((want_Other.f t157).bind fun t158 => (some (t158 == 0)))) else (none)) else (none))))) = some r := by rw [if_neg (show ¬ (false = true) by decide)] at H; exact H
        clear H
        have H := H1
        clear H1
        by_cases c40 : a0 ≥ a1
        · rw [if_pos c40] at H
          have c40b0 : decide (a1 ≤ a0) = true := decide_eq_true c40
          clear c40
          by_cases c41 : t142 = true
          · subst c41
            have H1 : (if (false == t144) = true then (if (true == t147) = true then ((want_Other.f 0).bind fun t153 => ((want_Other.f t153).bind fun t154 => (some (t154 == 0)))) else (none)) else (none)) = some r := by rw [if_pos rfl] at H; exact H
            clear H
            have H := H1
            clear H1
            by_cases c42 : (false == t144) = true
            · rw [if_pos c42] at H
              have c42b0 : (false == t144) = true := c42
              (try (have c42b1 : decide (false = t144) = true := by simpa using c42))
              (try (have c42b2 : (false == t144) = true := by simpa using c42))
              clear c42
              by_cases c43 : (true == t147) = true
              · rw [if_pos c43] at H
                have c43b0 : (true == t147) = true := c43
                (try (have c43b1 : decide (true = t147) = true := by simpa using c43))
                (try (have c43b2 : (true == t147) = true := by simpa using c43))
                clear c43
                replace H := Option.bind_eq_some_iff.mp H
                obtain ⟨t153, A440, H⟩ := H
                replace H : ((want_Other.f t153).bind fun t154 => (some (t154 == 0))) = some r := H
                have A44 := Aside0.mk A440
                clear A440
                replace H := Option.bind_eq_some_iff.mp H
                obtain ⟨t154, A450, H⟩ := H
                replace H : (some (t154 == 0)) = some r := H
                have A45 := Aside0.mk A450
                clear A450
                obtain rfl := Option.some.inj H
                go_enter Try.func5, Try.ntmps5
                go_wp2_with (first | ((with_reducible refine gate_callee (f := 7) rfl ?_); refine goesL_ (some 14) rfl rfl Try.func7 (by kernel_rfl) rfl #[] rfl (by (try simp only [List.map_toArray, List.map_cons, List.map_nil]); first | done | rfl | (simp only [List.length_drop, List.length_take]; rfl)) ?_; (with_reducible refine (precentorlaw14_shown.calls k  true _ A4.out).mono ?_); rintro e w46 ⟨rfl, hb⟩; refine ⟨_, rfl, ?_⟩; have n0_ := Aside0.mk (below_step (by repeat (first | (with_reducible first | exact HB.out | apply below_alloc | apply pw_below_drewN | apply below_drew1) | exact HB.out)) hb); clear HB; have HB := n0_; clear n0_; (try clear hb); (try clear hb2); (try clear hk); (try clear hi)) | ((with_reducible refine gate_callee (f := 11) rfl ?_); refine goesL_ (some 22) rfl rfl Try.func11 (by kernel_rfl) rfl #[.int .i64 0, .int .i64 a0, .int .i64 a1, .int .i64 a2] rfl (by (try simp only [List.map_toArray, List.map_cons, List.map_nil]); first | done | rfl | (simp only [List.length_drop, List.length_take]; rfl)) ?_; (with_reducible refine (want_Asks.calls 0 a0 a1 a2 false _ A7.out).mono ?_); rintro e w' ⟨rfl, ⟨nd, rfl⟩⟩; refine ⟨_, rfl, ?_⟩; (try (rw [drewN_self w46]; generalize hq_ : World.drewN w46 _ = w46; have n0_ : Aside0 (Below w.heap.size w w46) := ⟨by rw [← hq_]; exact (by repeat (first | (with_reducible first | exact HB.out | apply below_alloc | apply pw_below_drewN | apply below_drew1) | exact HB.out))⟩; clear HB hq_; have HB := n0_; clear n0_))) | ((with_reducible refine gate_callee (f := 11) rfl ?_); refine goesL_ (some 26) rfl rfl Try.func11 (by kernel_rfl) rfl #[.int .i64 1, .int .i64 a0, .int .i64 a1, .int .i64 a2] rfl (by (try simp only [List.map_toArray, List.map_cons, List.map_nil]); first | done | rfl | (simp only [List.length_drop, List.length_take]; rfl)) ?_; (with_reducible refine (want_Asks.calls 1 a0 a1 a2 true _ A8.out).mono ?_); rintro e w' ⟨rfl, ⟨nd, rfl⟩⟩; refine ⟨_, rfl, ?_⟩; (try (rw [drewN_self w46]; generalize hq_ : World.drewN w46 _ = w46; have n0_ : Aside0 (Below w.heap.size w w46) := ⟨by rw [← hq_]; exact (by repeat (first | (with_reducible first | exact HB.out | apply below_alloc | apply pw_below_drewN | apply below_drew1) | exact HB.out))⟩; clear HB hq_; have HB := n0_; clear n0_))) | ((with_reducible refine gate_callee (f := 9) rfl ?_); refine goesL_ (some 32) rfl rfl Try.func9 (by kernel_rfl) rfl #[.agg #[.int .i64 0], .int .i64 0, .int .i64 a0, .int .i64 a1, .int .i64 a2, .int .i64 1] rfl (by (try simp only [List.map_toArray, List.map_cons, List.map_nil]); first | done | rfl | (simp only [List.length_drop, List.length_take]; rfl)) ?_; (with_reducible refine (want_Step.calls 0 0 a0 a1 a2 1 t143 t144 _ A9.out).mono ?_); rintro e w47 ⟨rfl, hb⟩; refine ⟨_, rfl, ?_⟩; have n0_ := Aside0.mk (below_step (by repeat (first | (with_reducible first | exact HB.out | apply below_alloc | apply pw_below_drewN | apply below_drew1) | exact HB.out)) hb); clear HB; have HB := n0_; clear n0_; (try clear hb); (try clear hb2); (try clear hk); (try clear hi)) | ((with_reducible refine gate_dst (N := 10) rfl ?_); refine box_event ?hg (N := 10) ?hd (cs := #[.int .i64 0]) (t := 23) ?hr ?_; (case hd => rfl); (case hg => rfl); (case hr => first | (go_simp; done) | (go_simp; rfl)); intro gb145 hg w48 hbox hb; have n0_ := Aside0.mk (below_step (by repeat (first | (with_reducible first | exact HB.out | apply below_alloc | apply pw_below_drewN | apply below_drew1) | exact HB.out)) hb); have n1_ := Aside0.mk (hbox); have n2_ := Aside0.mk ((by rw [hg]; exact (below_size (by repeat (first | (with_reducible first | exact HB.out | apply below_alloc | apply pw_below_drewN | apply below_drew1) | exact HB.out))) : w.heap.size ≤ gb145)); have n3_ := Aside0.mk ((by rw [hg]; exact (below_size (by repeat (first | (with_reducible first | exact HB.out | apply below_alloc | apply pw_below_drewN | apply below_drew1) | exact HB.out))) : w.heap.size ≤ gb145)); clear HB; have HB := n0_; have BK145 := n1_; have GW145 := n2_; have GE145 := n3_; clear n0_ n1_ n2_ n3_; clear hb hbox hg; have hcz49_0 : w48.cell? ⟨gb145, 0, none⟩ = some (.int .i64 0) := (blk_cell BK145.out 0).trans rfl; have hfz49_0 := blk_frozen BK145.out 0) | ((with_reducible refine gate_callee (f := 9) rfl ?_); refine goesL_ (some 40) rfl rfl Try.func9 (by kernel_rfl) rfl #[.agg #[.int .i64 0], .int .i64 1, .int .i64 a0, .int .i64 a1, .int .i64 a2, .int .i64 1] rfl (by (try simp only [List.map_toArray, List.map_cons, List.map_nil]); first | done | rfl | (simp only [List.length_drop, List.length_take]; rfl)) ?_; (with_reducible refine (want_Step.calls 0 1 a0 a1 a2 1 t146 t147 _ A10.out).mono ?_); rintro e w50 ⟨rfl, hb⟩; refine ⟨_, rfl, ?_⟩; have n0_ := Aside0.mk (blk_below (g := gb145) (o := .cells #[.int .i64 t143] 23 (0, 0)) (by (with_reducible repeat (first | refine blk_drewN ?_ _ | refine blk_drew ?_ | refine blk_alloc ?_ _)); refine blk_put (cs := #[.int .i64 0]) ?_ 0 _ rfl; (with_reducible repeat (first | refine blk_drewN ?_ _ | refine blk_drew ?_ | refine blk_alloc ?_ _)); exact BK145.out) hb); have n1_ := Aside0.mk (below_step (by repeat (first | (with_reducible first | exact HB.out | apply below_alloc | apply pw_below_drewN | apply below_drew1 | refine below_set ?_ GE145.out) | exact HB.out)) hb); clear BK145; clear HB; have BK145 := n0_; have HB := n1_; clear n0_ n1_; (try clear hb); (try clear hb2); (try clear hk); (try clear hi)) | ((with_reducible refine gate_dst (N := 12) rfl ?_); refine box_event ?hg (N := 12) ?hd (cs := #[.int .i64 0]) (t := 23) ?hr ?_; (case hd => rfl); (case hg => rfl); (case hr => first | (go_simp; done) | (go_simp; rfl)); intro gb148 hg w51 hbox hb; have n0_ := Aside0.mk (blk_below (g := gb145) (o := .cells #[.int .i64 t143] 23 (0, 0)) (by (with_reducible repeat (first | refine blk_drewN ?_ _ | refine blk_drew ?_ | refine blk_alloc ?_ _)); exact BK145.out) hb); have n1_ := Aside0.mk (below_step (by repeat (first | (with_reducible first | exact HB.out | apply below_alloc | apply pw_below_drewN | apply below_drew1 | refine below_set ?_ GE145.out) | exact HB.out)) hb); have n2_ := Aside0.mk (hbox); have n3_ := Aside0.mk ((by rw [hg]; exact (below_size (by repeat (first | (with_reducible first | exact HB.out | apply below_alloc | apply pw_below_drewN | apply below_drew1 | refine below_set ?_ GE145.out) | exact HB.out))) : w.heap.size ≤ gb148)); have n4_ := Aside0.mk ((by rw [hg]; exact (below_size (by repeat (first | (with_reducible first | exact HB.out | apply below_alloc | apply pw_below_drewN | apply below_drew1 | refine below_set ?_ GE145.out) | exact HB.out))) : w.heap.size ≤ gb148)); have n5_ := Aside0.mk ((by rw [hg]; exact Nat.ne_of_lt (blk_lt (g := gb145) (o := .cells #[.int .i64 t143] 23 (0, 0)) (by (with_reducible repeat (first | refine blk_drewN ?_ _ | refine blk_drew ?_ | refine blk_alloc ?_ _)); exact BK145.out)) : gb145 ≠ gb148)); have n6_ := Aside0.mk ((by rw [hg]; exact Nat.ne_of_gt (blk_lt (g := gb145) (o := .cells #[.int .i64 t143] 23 (0, 0)) (by (with_reducible repeat (first | refine blk_drewN ?_ _ | refine blk_drew ?_ | refine blk_alloc ?_ _)); exact BK145.out)) : gb148 ≠ gb145)); clear BK145; clear HB; have BK145 := n0_; have HB := n1_; have BK148 := n2_; have GW148 := n3_; have GE148 := n4_; have NB145_148 := n5_; have NB148_145 := n6_; clear n0_ n1_ n2_ n3_ n4_ n5_ n6_; clear hb hbox hg; have hnb52 := NB148_145.out; have hnc52 := NB145_148.out; have hcz53_0 : w51.cell? ⟨gb148, 0, none⟩ = some (.int .i64 0) := (blk_cell BK148.out 0).trans rfl; have hfz53_0 := blk_frozen BK148.out 0) | (go_at_call 13; (with_reducible refine (want_Other.calls 0 t153 _ A44.out).mono ?_); rintro e w' ⟨rfl, ⟨nd, rfl⟩⟩) | (go_at_call 13; (with_reducible refine (want_Other.calls t153 t154 _ A45.out).mono ?_); rintro e w' ⟨rfl, ⟨nd, rfl⟩⟩))
                go_ret
                exact ⟨by first | rfl | (simp [errW_none, errW_some] <;> rfl) | (simp [*, errW_none, errW_some] <;> rfl), by repeat (first | (with_reducible first | exact HB.out | apply below_alloc | apply pw_below_drewN | apply below_drew1 | refine below_set ?_ GE145.out | refine below_set ?_ GE148.out) | exact HB.out)⟩
              · rw [if_neg c43] at H
                exact absurd H (by simp)
            · rw [if_neg c42] at H
              exact absurd H (by simp)
          · replace c41 := Bool.eq_false_iff.mpr c41
            subst c41
            have H1 : (none) = some r := by rw [if_neg (show ¬ (false = true) by decide)] at H; exact H
            clear H
            have H := H1
            clear H1
            exact absurd H (by simp)
        · rw [if_neg c40] at H
          have c40b0 : decide (a1 ≤ a0) = false := decide_eq_false c40
          clear c40
          by_cases c54 : a0 ≤ a2
          · rw [if_pos c54] at H
            have c54b0 : decide (a0 ≤ a2) = true := decide_eq_true c54
            clear c54
            by_cases c55 : t142 = true
            · subst c55
              have H1 : (if (false == t144) = true then (if (true == t147) = true then ((want_Other.f 0).bind fun t155 => ((want_Other.f t155).bind fun t156 => (some (t156 == 0)))) else (none)) else (none)) = some r := by rw [if_pos rfl] at H; exact H
              clear H
              have H := H1
              clear H1
              by_cases c56 : (false == t144) = true
              · rw [if_pos c56] at H
                have c56b0 : (false == t144) = true := c56
                (try (have c56b1 : decide (false = t144) = true := by simpa using c56))
                (try (have c56b2 : (false == t144) = true := by simpa using c56))
                clear c56
                by_cases c57 : (true == t147) = true
                · rw [if_pos c57] at H
                  have c57b0 : (true == t147) = true := c57
                  (try (have c57b1 : decide (true = t147) = true := by simpa using c57))
                  (try (have c57b2 : (true == t147) = true := by simpa using c57))
                  clear c57
                  replace H := Option.bind_eq_some_iff.mp H
                  obtain ⟨t155, A580, H⟩ := H
                  replace H : ((want_Other.f t155).bind fun t156 => (some (t156 == 0))) = some r := H
                  have A58 := Aside0.mk A580
                  clear A580
                  replace H := Option.bind_eq_some_iff.mp H
                  obtain ⟨t156, A590, H⟩ := H
                  replace H : (some (t156 == 0)) = some r := H
                  have A59 := Aside0.mk A590
                  clear A590
                  obtain rfl := Option.some.inj H
                  go_enter Try.func5, Try.ntmps5
                  go_wp2_with (first | ((with_reducible refine gate_callee (f := 7) rfl ?_); refine goesL_ (some 14) rfl rfl Try.func7 (by kernel_rfl) rfl #[] rfl (by (try simp only [List.map_toArray, List.map_cons, List.map_nil]); first | done | rfl | (simp only [List.length_drop, List.length_take]; rfl)) ?_; (with_reducible refine (precentorlaw14_shown.calls k  true _ A4.out).mono ?_); rintro e w60 ⟨rfl, hb⟩; refine ⟨_, rfl, ?_⟩; have n0_ := Aside0.mk (below_step (by repeat (first | (with_reducible first | exact HB.out | apply below_alloc | apply pw_below_drewN | apply below_drew1) | exact HB.out)) hb); clear HB; have HB := n0_; clear n0_; (try clear hb); (try clear hb2); (try clear hk); (try clear hi)) | ((with_reducible refine gate_callee (f := 11) rfl ?_); refine goesL_ (some 22) rfl rfl Try.func11 (by kernel_rfl) rfl #[.int .i64 0, .int .i64 a0, .int .i64 a1, .int .i64 a2] rfl (by (try simp only [List.map_toArray, List.map_cons, List.map_nil]); first | done | rfl | (simp only [List.length_drop, List.length_take]; rfl)) ?_; (with_reducible refine (want_Asks.calls 0 a0 a1 a2 false _ A7.out).mono ?_); rintro e w' ⟨rfl, ⟨nd, rfl⟩⟩; refine ⟨_, rfl, ?_⟩; (try (rw [drewN_self w60]; generalize hq_ : World.drewN w60 _ = w60; have n0_ : Aside0 (Below w.heap.size w w60) := ⟨by rw [← hq_]; exact (by repeat (first | (with_reducible first | exact HB.out | apply below_alloc | apply pw_below_drewN | apply below_drew1) | exact HB.out))⟩; clear HB hq_; have HB := n0_; clear n0_))) | ((with_reducible refine gate_callee (f := 11) rfl ?_); refine goesL_ (some 26) rfl rfl Try.func11 (by kernel_rfl) rfl #[.int .i64 1, .int .i64 a0, .int .i64 a1, .int .i64 a2] rfl (by (try simp only [List.map_toArray, List.map_cons, List.map_nil]); first | done | rfl | (simp only [List.length_drop, List.length_take]; rfl)) ?_; (with_reducible refine (want_Asks.calls 1 a0 a1 a2 true _ A8.out).mono ?_); rintro e w' ⟨rfl, ⟨nd, rfl⟩⟩; refine ⟨_, rfl, ?_⟩; (try (rw [drewN_self w60]; generalize hq_ : World.drewN w60 _ = w60; have n0_ : Aside0 (Below w.heap.size w w60) := ⟨by rw [← hq_]; exact (by repeat (first | (with_reducible first | exact HB.out | apply below_alloc | apply pw_below_drewN | apply below_drew1) | exact HB.out))⟩; clear HB hq_; have HB := n0_; clear n0_))) | ((with_reducible refine gate_callee (f := 9) rfl ?_); refine goesL_ (some 32) rfl rfl Try.func9 (by kernel_rfl) rfl #[.agg #[.int .i64 0], .int .i64 0, .int .i64 a0, .int .i64 a1, .int .i64 a2, .int .i64 1] rfl (by (try simp only [List.map_toArray, List.map_cons, List.map_nil]); first | done | rfl | (simp only [List.length_drop, List.length_take]; rfl)) ?_; (with_reducible refine (want_Step.calls 0 0 a0 a1 a2 1 t143 t144 _ A9.out).mono ?_); rintro e w61 ⟨rfl, hb⟩; refine ⟨_, rfl, ?_⟩; have n0_ := Aside0.mk (below_step (by repeat (first | (with_reducible first | exact HB.out | apply below_alloc | apply pw_below_drewN | apply below_drew1) | exact HB.out)) hb); clear HB; have HB := n0_; clear n0_; (try clear hb); (try clear hb2); (try clear hk); (try clear hi)) | ((with_reducible refine gate_dst (N := 10) rfl ?_); refine box_event ?hg (N := 10) ?hd (cs := #[.int .i64 0]) (t := 23) ?hr ?_; (case hd => rfl); (case hg => rfl); (case hr => first | (go_simp; done) | (go_simp; rfl)); intro gb145 hg w62 hbox hb; have n0_ := Aside0.mk (below_step (by repeat (first | (with_reducible first | exact HB.out | apply below_alloc | apply pw_below_drewN | apply below_drew1) | exact HB.out)) hb); have n1_ := Aside0.mk (hbox); have n2_ := Aside0.mk ((by rw [hg]; exact (below_size (by repeat (first | (with_reducible first | exact HB.out | apply below_alloc | apply pw_below_drewN | apply below_drew1) | exact HB.out))) : w.heap.size ≤ gb145)); have n3_ := Aside0.mk ((by rw [hg]; exact (below_size (by repeat (first | (with_reducible first | exact HB.out | apply below_alloc | apply pw_below_drewN | apply below_drew1) | exact HB.out))) : w.heap.size ≤ gb145)); clear HB; have HB := n0_; have BK145 := n1_; have GW145 := n2_; have GE145 := n3_; clear n0_ n1_ n2_ n3_; clear hb hbox hg; have hcz63_0 : w62.cell? ⟨gb145, 0, none⟩ = some (.int .i64 0) := (blk_cell BK145.out 0).trans rfl; have hfz63_0 := blk_frozen BK145.out 0) | ((with_reducible refine gate_callee (f := 9) rfl ?_); refine goesL_ (some 40) rfl rfl Try.func9 (by kernel_rfl) rfl #[.agg #[.int .i64 0], .int .i64 1, .int .i64 a0, .int .i64 a1, .int .i64 a2, .int .i64 1] rfl (by (try simp only [List.map_toArray, List.map_cons, List.map_nil]); first | done | rfl | (simp only [List.length_drop, List.length_take]; rfl)) ?_; (with_reducible refine (want_Step.calls 0 1 a0 a1 a2 1 t146 t147 _ A10.out).mono ?_); rintro e w64 ⟨rfl, hb⟩; refine ⟨_, rfl, ?_⟩; have n0_ := Aside0.mk (blk_below (g := gb145) (o := .cells #[.int .i64 t143] 23 (0, 0)) (by (with_reducible repeat (first | refine blk_drewN ?_ _ | refine blk_drew ?_ | refine blk_alloc ?_ _)); refine blk_put (cs := #[.int .i64 0]) ?_ 0 _ rfl; (with_reducible repeat (first | refine blk_drewN ?_ _ | refine blk_drew ?_ | refine blk_alloc ?_ _)); exact BK145.out) hb); have n1_ := Aside0.mk (below_step (by repeat (first | (with_reducible first | exact HB.out | apply below_alloc | apply pw_below_drewN | apply below_drew1 | refine below_set ?_ GE145.out) | exact HB.out)) hb); clear BK145; clear HB; have BK145 := n0_; have HB := n1_; clear n0_ n1_; (try clear hb); (try clear hb2); (try clear hk); (try clear hi)) | ((with_reducible refine gate_dst (N := 12) rfl ?_); refine box_event ?hg (N := 12) ?hd (cs := #[.int .i64 0]) (t := 23) ?hr ?_; (case hd => rfl); (case hg => rfl); (case hr => first | (go_simp; done) | (go_simp; rfl)); intro gb148 hg w65 hbox hb; have n0_ := Aside0.mk (blk_below (g := gb145) (o := .cells #[.int .i64 t143] 23 (0, 0)) (by (with_reducible repeat (first | refine blk_drewN ?_ _ | refine blk_drew ?_ | refine blk_alloc ?_ _)); exact BK145.out) hb); have n1_ := Aside0.mk (below_step (by repeat (first | (with_reducible first | exact HB.out | apply below_alloc | apply pw_below_drewN | apply below_drew1 | refine below_set ?_ GE145.out) | exact HB.out)) hb); have n2_ := Aside0.mk (hbox); have n3_ := Aside0.mk ((by rw [hg]; exact (below_size (by repeat (first | (with_reducible first | exact HB.out | apply below_alloc | apply pw_below_drewN | apply below_drew1 | refine below_set ?_ GE145.out) | exact HB.out))) : w.heap.size ≤ gb148)); have n4_ := Aside0.mk ((by rw [hg]; exact (below_size (by repeat (first | (with_reducible first | exact HB.out | apply below_alloc | apply pw_below_drewN | apply below_drew1 | refine below_set ?_ GE145.out) | exact HB.out))) : w.heap.size ≤ gb148)); have n5_ := Aside0.mk ((by rw [hg]; exact Nat.ne_of_lt (blk_lt (g := gb145) (o := .cells #[.int .i64 t143] 23 (0, 0)) (by (with_reducible repeat (first | refine blk_drewN ?_ _ | refine blk_drew ?_ | refine blk_alloc ?_ _)); exact BK145.out)) : gb145 ≠ gb148)); have n6_ := Aside0.mk ((by rw [hg]; exact Nat.ne_of_gt (blk_lt (g := gb145) (o := .cells #[.int .i64 t143] 23 (0, 0)) (by (with_reducible repeat (first | refine blk_drewN ?_ _ | refine blk_drew ?_ | refine blk_alloc ?_ _)); exact BK145.out)) : gb148 ≠ gb145)); clear BK145; clear HB; have BK145 := n0_; have HB := n1_; have BK148 := n2_; have GW148 := n3_; have GE148 := n4_; have NB145_148 := n5_; have NB148_145 := n6_; clear n0_ n1_ n2_ n3_ n4_ n5_ n6_; clear hb hbox hg; have hnb66 := NB148_145.out; have hnc66 := NB145_148.out; have hcz67_0 : w65.cell? ⟨gb148, 0, none⟩ = some (.int .i64 0) := (blk_cell BK148.out 0).trans rfl; have hfz67_0 := blk_frozen BK148.out 0) | (go_at_call 13; (with_reducible refine (want_Other.calls 0 t155 _ A58.out).mono ?_); rintro e w' ⟨rfl, ⟨nd, rfl⟩⟩) | (go_at_call 13; (with_reducible refine (want_Other.calls t155 t156 _ A59.out).mono ?_); rintro e w' ⟨rfl, ⟨nd, rfl⟩⟩))
                  go_ret
                  exact ⟨by first | rfl | (simp [errW_none, errW_some] <;> rfl) | (simp [*, errW_none, errW_some] <;> rfl), by repeat (first | (with_reducible first | exact HB.out | apply below_alloc | apply pw_below_drewN | apply below_drew1 | refine below_set ?_ GE145.out | refine below_set ?_ GE148.out) | exact HB.out)⟩
                · rw [if_neg c57] at H
                  exact absurd H (by simp)
              · rw [if_neg c56] at H
                exact absurd H (by simp)
            · replace c55 := Bool.eq_false_iff.mpr c55
              subst c55
              have H1 : (none) = some r := by rw [if_neg (show ¬ (false = true) by decide)] at H; exact H
              clear H
              have H := H1
              clear H1
              exact absurd H (by simp)
          · rw [if_neg c54] at H
            have c54b0 : decide (a0 ≤ a2) = false := decide_eq_false c54
            clear c54
            by_cases c68 : t142 = true
            · subst c68
              have H1 : (none) = some r := by rw [if_pos rfl] at H; exact H
              clear H
              have H := H1
              clear H1
              exact absurd H (by simp)
            · replace c68 := Bool.eq_false_iff.mpr c68
              subst c68
              have H1 : (if (false == t144) = true then (if (false == t147) = true then ((want_Other.f 0).bind fun t157 => ((want_Other.f t157).bind fun t158 => (some (t158 == 0)))) else (none)) else (none)) = some r := by rw [if_neg (show ¬ (false = true) by decide)] at H; exact H
              clear H
              have H := H1
              clear H1
              by_cases c69 : (false == t144) = true
              · rw [if_pos c69] at H
                have c69b0 : (false == t144) = true := c69
                (try (have c69b1 : decide (false = t144) = true := by simpa using c69))
                (try (have c69b2 : (false == t144) = true := by simpa using c69))
                clear c69
                by_cases c70 : (false == t147) = true
                · rw [if_pos c70] at H
                  have c70b0 : (false == t147) = true := c70
                  (try (have c70b1 : decide (false = t147) = true := by simpa using c70))
                  (try (have c70b2 : (false == t147) = true := by simpa using c70))
                  clear c70
                  replace H := Option.bind_eq_some_iff.mp H
                  obtain ⟨t157, A710, H⟩ := H
                  replace H : ((want_Other.f t157).bind fun t158 => (some (t158 == 0))) = some r := H
                  have A71 := Aside0.mk A710
                  clear A710
                  replace H := Option.bind_eq_some_iff.mp H
                  obtain ⟨t158, A720, H⟩ := H
                  replace H : (some (t158 == 0)) = some r := H
                  have A72 := Aside0.mk A720
                  clear A720
                  obtain rfl := Option.some.inj H
                  go_enter Try.func5, Try.ntmps5
                  go_wp2_with (first | ((with_reducible refine gate_callee (f := 7) rfl ?_); refine goesL_ (some 14) rfl rfl Try.func7 (by kernel_rfl) rfl #[] rfl (by (try simp only [List.map_toArray, List.map_cons, List.map_nil]); first | done | rfl | (simp only [List.length_drop, List.length_take]; rfl)) ?_; (with_reducible refine (precentorlaw14_shown.calls k  true _ A4.out).mono ?_); rintro e w73 ⟨rfl, hb⟩; refine ⟨_, rfl, ?_⟩; have n0_ := Aside0.mk (below_step (by repeat (first | (with_reducible first | exact HB.out | apply below_alloc | apply pw_below_drewN | apply below_drew1) | exact HB.out)) hb); clear HB; have HB := n0_; clear n0_; (try clear hb); (try clear hb2); (try clear hk); (try clear hi)) | ((with_reducible refine gate_callee (f := 11) rfl ?_); refine goesL_ (some 22) rfl rfl Try.func11 (by kernel_rfl) rfl #[.int .i64 0, .int .i64 a0, .int .i64 a1, .int .i64 a2] rfl (by (try simp only [List.map_toArray, List.map_cons, List.map_nil]); first | done | rfl | (simp only [List.length_drop, List.length_take]; rfl)) ?_; (with_reducible refine (want_Asks.calls 0 a0 a1 a2 false _ A7.out).mono ?_); rintro e w' ⟨rfl, ⟨nd, rfl⟩⟩; refine ⟨_, rfl, ?_⟩; (try (rw [drewN_self w73]; generalize hq_ : World.drewN w73 _ = w73; have n0_ : Aside0 (Below w.heap.size w w73) := ⟨by rw [← hq_]; exact (by repeat (first | (with_reducible first | exact HB.out | apply below_alloc | apply pw_below_drewN | apply below_drew1) | exact HB.out))⟩; clear HB hq_; have HB := n0_; clear n0_))) | ((with_reducible refine gate_callee (f := 11) rfl ?_); refine goesL_ (some 26) rfl rfl Try.func11 (by kernel_rfl) rfl #[.int .i64 1, .int .i64 a0, .int .i64 a1, .int .i64 a2] rfl (by (try simp only [List.map_toArray, List.map_cons, List.map_nil]); first | done | rfl | (simp only [List.length_drop, List.length_take]; rfl)) ?_; (with_reducible refine (want_Asks.calls 1 a0 a1 a2 false _ A8.out).mono ?_); rintro e w' ⟨rfl, ⟨nd, rfl⟩⟩; refine ⟨_, rfl, ?_⟩; (try (rw [drewN_self w73]; generalize hq_ : World.drewN w73 _ = w73; have n0_ : Aside0 (Below w.heap.size w w73) := ⟨by rw [← hq_]; exact (by repeat (first | (with_reducible first | exact HB.out | apply below_alloc | apply pw_below_drewN | apply below_drew1) | exact HB.out))⟩; clear HB hq_; have HB := n0_; clear n0_))) | ((with_reducible refine gate_callee (f := 9) rfl ?_); refine goesL_ (some 32) rfl rfl Try.func9 (by kernel_rfl) rfl #[.agg #[.int .i64 0], .int .i64 0, .int .i64 a0, .int .i64 a1, .int .i64 a2, .int .i64 1] rfl (by (try simp only [List.map_toArray, List.map_cons, List.map_nil]); first | done | rfl | (simp only [List.length_drop, List.length_take]; rfl)) ?_; (with_reducible refine (want_Step.calls 0 0 a0 a1 a2 1 t143 t144 _ A9.out).mono ?_); rintro e w74 ⟨rfl, hb⟩; refine ⟨_, rfl, ?_⟩; have n0_ := Aside0.mk (below_step (by repeat (first | (with_reducible first | exact HB.out | apply below_alloc | apply pw_below_drewN | apply below_drew1) | exact HB.out)) hb); clear HB; have HB := n0_; clear n0_; (try clear hb); (try clear hb2); (try clear hk); (try clear hi)) | ((with_reducible refine gate_dst (N := 10) rfl ?_); refine box_event ?hg (N := 10) ?hd (cs := #[.int .i64 0]) (t := 23) ?hr ?_; (case hd => rfl); (case hg => rfl); (case hr => first | (go_simp; done) | (go_simp; rfl)); intro gb145 hg w75 hbox hb; have n0_ := Aside0.mk (below_step (by repeat (first | (with_reducible first | exact HB.out | apply below_alloc | apply pw_below_drewN | apply below_drew1) | exact HB.out)) hb); have n1_ := Aside0.mk (hbox); have n2_ := Aside0.mk ((by rw [hg]; exact (below_size (by repeat (first | (with_reducible first | exact HB.out | apply below_alloc | apply pw_below_drewN | apply below_drew1) | exact HB.out))) : w.heap.size ≤ gb145)); have n3_ := Aside0.mk ((by rw [hg]; exact (below_size (by repeat (first | (with_reducible first | exact HB.out | apply below_alloc | apply pw_below_drewN | apply below_drew1) | exact HB.out))) : w.heap.size ≤ gb145)); clear HB; have HB := n0_; have BK145 := n1_; have GW145 := n2_; have GE145 := n3_; clear n0_ n1_ n2_ n3_; clear hb hbox hg; have hcz76_0 : w75.cell? ⟨gb145, 0, none⟩ = some (.int .i64 0) := (blk_cell BK145.out 0).trans rfl; have hfz76_0 := blk_frozen BK145.out 0) | ((with_reducible refine gate_callee (f := 9) rfl ?_); refine goesL_ (some 40) rfl rfl Try.func9 (by kernel_rfl) rfl #[.agg #[.int .i64 0], .int .i64 1, .int .i64 a0, .int .i64 a1, .int .i64 a2, .int .i64 1] rfl (by (try simp only [List.map_toArray, List.map_cons, List.map_nil]); first | done | rfl | (simp only [List.length_drop, List.length_take]; rfl)) ?_; (with_reducible refine (want_Step.calls 0 1 a0 a1 a2 1 t146 t147 _ A10.out).mono ?_); rintro e w77 ⟨rfl, hb⟩; refine ⟨_, rfl, ?_⟩; have n0_ := Aside0.mk (blk_below (g := gb145) (o := .cells #[.int .i64 t143] 23 (0, 0)) (by (with_reducible repeat (first | refine blk_drewN ?_ _ | refine blk_drew ?_ | refine blk_alloc ?_ _)); refine blk_put (cs := #[.int .i64 0]) ?_ 0 _ rfl; (with_reducible repeat (first | refine blk_drewN ?_ _ | refine blk_drew ?_ | refine blk_alloc ?_ _)); exact BK145.out) hb); have n1_ := Aside0.mk (below_step (by repeat (first | (with_reducible first | exact HB.out | apply below_alloc | apply pw_below_drewN | apply below_drew1 | refine below_set ?_ GE145.out) | exact HB.out)) hb); clear BK145; clear HB; have BK145 := n0_; have HB := n1_; clear n0_ n1_; (try clear hb); (try clear hb2); (try clear hk); (try clear hi)) | ((with_reducible refine gate_dst (N := 12) rfl ?_); refine box_event ?hg (N := 12) ?hd (cs := #[.int .i64 0]) (t := 23) ?hr ?_; (case hd => rfl); (case hg => rfl); (case hr => first | (go_simp; done) | (go_simp; rfl)); intro gb148 hg w78 hbox hb; have n0_ := Aside0.mk (blk_below (g := gb145) (o := .cells #[.int .i64 t143] 23 (0, 0)) (by (with_reducible repeat (first | refine blk_drewN ?_ _ | refine blk_drew ?_ | refine blk_alloc ?_ _)); exact BK145.out) hb); have n1_ := Aside0.mk (below_step (by repeat (first | (with_reducible first | exact HB.out | apply below_alloc | apply pw_below_drewN | apply below_drew1 | refine below_set ?_ GE145.out) | exact HB.out)) hb); have n2_ := Aside0.mk (hbox); have n3_ := Aside0.mk ((by rw [hg]; exact (below_size (by repeat (first | (with_reducible first | exact HB.out | apply below_alloc | apply pw_below_drewN | apply below_drew1 | refine below_set ?_ GE145.out) | exact HB.out))) : w.heap.size ≤ gb148)); have n4_ := Aside0.mk ((by rw [hg]; exact (below_size (by repeat (first | (with_reducible first | exact HB.out | apply below_alloc | apply pw_below_drewN | apply below_drew1 | refine below_set ?_ GE145.out) | exact HB.out))) : w.heap.size ≤ gb148)); have n5_ := Aside0.mk ((by rw [hg]; exact Nat.ne_of_lt (blk_lt (g := gb145) (o := .cells #[.int .i64 t143] 23 (0, 0)) (by (with_reducible repeat (first | refine blk_drewN ?_ _ | refine blk_drew ?_ | refine blk_alloc ?_ _)); exact BK145.out)) : gb145 ≠ gb148)); have n6_ := Aside0.mk ((by rw [hg]; exact Nat.ne_of_gt (blk_lt (g := gb145) (o := .cells #[.int .i64 t143] 23 (0, 0)) (by (with_reducible repeat (first | refine blk_drewN ?_ _ | refine blk_drew ?_ | refine blk_alloc ?_ _)); exact BK145.out)) : gb148 ≠ gb145)); clear BK145; clear HB; have BK145 := n0_; have HB := n1_; have BK148 := n2_; have GW148 := n3_; have GE148 := n4_; have NB145_148 := n5_; have NB148_145 := n6_; clear n0_ n1_ n2_ n3_ n4_ n5_ n6_; clear hb hbox hg; have hnb79 := NB148_145.out; have hnc79 := NB145_148.out; have hcz80_0 : w78.cell? ⟨gb148, 0, none⟩ = some (.int .i64 0) := (blk_cell BK148.out 0).trans rfl; have hfz80_0 := blk_frozen BK148.out 0) | (go_at_call 13; (with_reducible refine (want_Other.calls 0 t157 _ A71.out).mono ?_); rintro e w' ⟨rfl, ⟨nd, rfl⟩⟩) | (go_at_call 13; (with_reducible refine (want_Other.calls t157 t158 _ A72.out).mono ?_); rintro e w' ⟨rfl, ⟨nd, rfl⟩⟩))
                  go_ret
                  exact ⟨by first | rfl | (simp [errW_none, errW_some] <;> rfl) | (simp [*, errW_none, errW_some] <;> rfl), by repeat (first | (with_reducible first | exact HB.out | apply below_alloc | apply pw_below_drewN | apply below_drew1 | refine below_set ?_ GE145.out | refine below_set ?_ GE148.out) | exact HB.out)⟩
                · rw [if_neg c70] at H
                  exact absurd H (by simp)
              · rw [if_neg c69] at H
                exact absurd H (by simp)
    · replace c11 := Bool.eq_false_iff.mpr c11
      subst c11
      have H1 : (none) = some r := by rw [if_neg (show ¬ (false = true) by decide)] at H; exact H
      clear H
      have H := H1
      clear H1
      exact absurd H (by simp)

/-! ### precentorlaw14_WantSteady: function 6 -/
def precentorlaw14_WantSteady.l0 : Nat → Int → Int → Int → Bool → Int → Int → Bool → Int → Int → Option (Bool)
  | 0, _, _, _, _, _, _, _, _, _ => none
  | k + 1, x4, x5, x6, x8, x9, x10, x11, x13, x163000 => if x13 ≤ 100 then ((want_Step.f x163000 x9 x4 x5 x6 x10).bind fun bt163 => (if x11 = true then (if x10 = 0 then (none) else (if (Int.tmod x13 x10) = 0 then (if bt163.2 = true then (if bt163.1 < 0 then (none) else (if bt163.1 ≥ x10 then (none) else (precentorlaw14_WantSteady.l0 k x4 x5 x6 x8 x9 x10 x11 (wrap64 (x13 + 1)) bt163.1))) else (none)) else (if bt163.2 = true then (none) else (if bt163.1 < 0 then (none) else (if bt163.1 ≥ x10 then (none) else (precentorlaw14_WantSteady.l0 k x4 x5 x6 x8 x9 x10 x11 (wrap64 (x13 + 1)) bt163.1)))))) else (if bt163.2 = true then (none) else (if bt163.1 < 0 then (none) else (if bt163.1 ≥ x10 then (none) else (precentorlaw14_WantSteady.l0 k x4 x5 x6 x8 x9 x10 x11 (wrap64 (x13 + 1)) bt163.1)))))) else (some x8)
def precentorlaw14_WantSteady.f (k : Nat) (a0_0 : Int) (a0_1 : Int) (a0_2 : Int) (a0_3 : Int) (a0_4 : Int) : Option (Bool) := (precentorlaw14_shown.f k).bind fun t160 => (if a0_3 ≥ a0_2 then (some t160) else ((want_Asks.f (Int.tmod (wrap64 (a0_0)) 2) a0_1 a0_2 a0_3).bind fun t161 => (precentorlaw14_WantSteady.l0 k a0_1 a0_2 a0_3 t160 (Int.tmod (wrap64 (a0_0)) 2) (wrap64 (1 + (Int.tmod (wrap64 (a0_4)) 9))) t161 1 0)))
theorem precentorlaw14_WantSteady.mono_l : ∀ k, (∀ y0 y1 y2 y3 y4 y5 y6 y7 y8, LeO (precentorlaw14_WantSteady.l0 k y0 y1 y2 y3 y4 y5 y6 y7 y8) (precentorlaw14_WantSteady.l0 (k + 1) y0 y1 y2 y3 y4 y5 y6 y7 y8))
  | 0 => fun _ _ _ _ _ _ _ _ _ r h => by simp [precentorlaw14_WantSteady.l0] at h
  | k + 1 => by
    have ih0 := precentorlaw14_WantSteady.mono_l k
    · intro y0 y1 y2 y3 y4 y5 y6 y7 y8
      unfold precentorlaw14_WantSteady.l0
      repeat' first
      | (with_reducible exact ih0 _ _ _ _ _ _ _ _ _)
      | (with_reducible exact precentorlaw14_shown.mono _)
      | (with_reducible exact LeO.refl _)
      | (with_reducible exact LeO.none _)
      | (with_reducible refine LeO.ite ?_ ?_)
      | (with_reducible refine LeO.bind ?_ (fun _ => ?_))
      | exact ih0 _ _ _ _ _ _ _ _ _
      | exact precentorlaw14_shown.mono _
      | exact LeO.none _
      | refine LeO.ite ?_ ?_
      | refine LeO.bind ?_ (fun _ => ?_)
theorem precentorlaw14_WantSteady.mono : ∀ a0 a1 a2 a3 a4 k, LeO (precentorlaw14_WantSteady.f k a0 a1 a2 a3 a4) (precentorlaw14_WantSteady.f (k + 1) a0 a1 a2 a3 a4) := by
  intro a0 a1 a2 a3 a4 k
  have ih0 := precentorlaw14_WantSteady.mono_l k
  unfold precentorlaw14_WantSteady.f
  repeat' first
      | (with_reducible exact ih0 _ _ _ _ _ _ _ _ _)
      | (with_reducible exact precentorlaw14_shown.mono _)
      | (with_reducible exact LeO.refl _)
      | (with_reducible exact LeO.none _)
      | (with_reducible refine LeO.ite ?_ ?_)
      | (with_reducible refine LeO.bind ?_ (fun _ => ?_))
      | exact ih0 _ _ _ _ _ _ _ _ _
      | exact precentorlaw14_shown.mono _
      | exact LeO.none _
      | refine LeO.ite ?_ ?_
      | refine LeO.bind ?_ (fun _ => ?_)
set_option maxHeartbeats 8000000 in
set_option maxRecDepth 100000 in
theorem precentorlaw14_WantSteady.calls (k : Nat) (a0_0 : Int) (a0_1 : Int) (a0_2 : Int) (a0_3 : Int) (a0_4 : Int) (r : Bool) (w : World) (h : precentorlaw14_WantSteady.f k a0_0 a0_1 a0_2 a0_3 a0_4 = some r) :
    Calls Try.prog 6 #[.agg #[.int .u8 a0_0, .int .i64 a0_1, .int .i64 a0_2, .int .i64 a0_3, .int .u8 a0_4]] w fun e w' => e = .returned (.bool r) ∧ Below w.heap.size w w' := by
  have hu38 := Try.underlying38
  have hu23 := Try.underlying23
  have HB := Aside0.mk (Below.refl w.heap.size w)
  have H : ((precentorlaw14_shown.f k).bind fun t160 => (if a0_3 ≥ a0_2 then (some t160) else ((want_Asks.f (Int.tmod (wrap64 (a0_0)) 2) a0_1 a0_2 a0_3).bind fun t161 => (precentorlaw14_WantSteady.l0 k a0_1 a0_2 a0_3 t160 (Int.tmod (wrap64 (a0_0)) 2) (wrap64 (1 + (Int.tmod (wrap64 (a0_4)) 9))) t161 1 0)))) = some r := h
  clear h
  replace H := Option.bind_eq_some_iff.mp H
  obtain ⟨t160, A20, H⟩ := H
  replace H : (if a0_3 ≥ a0_2 then (some t160) else ((want_Asks.f (Int.tmod (wrap64 (a0_0)) 2) a0_1 a0_2 a0_3).bind fun t161 => (precentorlaw14_WantSteady.l0 k a0_1 a0_2 a0_3 t160 (Int.tmod (wrap64 (a0_0)) 2) (wrap64 (1 + (Int.tmod (wrap64 (a0_4)) 9))) t161 1 0))) = some r := H
  have A2 := Aside0.mk A20
  clear A20
  by_cases c3 : a0_3 ≥ a0_2
  · rw [if_pos c3] at H
    have c3b0 : decide (a0_2 ≤ a0_3) = true := decide_eq_true c3
    clear c3
    obtain rfl := Option.some.inj H
    go_enter Try.func6, Try.ntmps6
    go_wp2_with (first | ((with_reducible refine gate_dst (N := 1) rfl ?_); refine box_event ?hg (N := 1) ?hd (cs := #[.int .u8 a0_0, .int .i64 a0_1, .int .i64 a0_2, .int .i64 a0_3, .int .u8 a0_4]) (t := 38) ?hr ?_; (case hd => rfl); (case hg => rfl); (case hr => first | (go_simp; done) | (go_simp; rfl)); intro gb159 hg w4 hbox hb; have n0_ := Aside0.mk (below_step (by repeat (first | (with_reducible first | exact HB.out | apply below_alloc | apply pw_below_drewN | apply below_drew1) | exact HB.out)) hb); have n1_ := Aside0.mk (hbox); have n2_ := Aside0.mk ((by rw [hg]; exact (below_size (by repeat (first | (with_reducible first | exact HB.out | apply below_alloc | apply pw_below_drewN | apply below_drew1) | exact HB.out))) : w.heap.size ≤ gb159)); have n3_ := Aside0.mk ((by rw [hg]; exact (below_size (by repeat (first | (with_reducible first | exact HB.out | apply below_alloc | apply pw_below_drewN | apply below_drew1) | exact HB.out))) : w.heap.size ≤ gb159)); clear HB; have HB := n0_; have BK159 := n1_; have GW159 := n2_; have GE159 := n3_; clear n0_ n1_ n2_ n3_; clear hb hbox hg; have hcz5_0 : w4.cell? ⟨gb159, 0, none⟩ = some (.int .u8 a0_0) := (blk_cell BK159.out 0).trans rfl; have hcz5_1 : w4.cell? ⟨gb159, 1, none⟩ = some (.int .i64 a0_1) := (blk_cell BK159.out 1).trans rfl; have hcz5_2 : w4.cell? ⟨gb159, 2, none⟩ = some (.int .i64 a0_2) := (blk_cell BK159.out 2).trans rfl; have hcz5_3 : w4.cell? ⟨gb159, 3, none⟩ = some (.int .i64 a0_3) := (blk_cell BK159.out 3).trans rfl; have hcz5_4 : w4.cell? ⟨gb159, 4, none⟩ = some (.int .u8 a0_4) := (blk_cell BK159.out 4).trans rfl; have hfz5_0 := blk_frozen BK159.out 0; have hfz5_1 := blk_frozen BK159.out 1; have hfz5_2 := blk_frozen BK159.out 2; have hfz5_3 := blk_frozen BK159.out 3; have hfz5_4 := blk_frozen BK159.out 4) | ((with_reducible refine gate_callee (f := 7) rfl ?_); refine goesL_ (some 26) rfl rfl Try.func7 (by kernel_rfl) rfl #[] rfl (by (try simp only [List.map_toArray, List.map_cons, List.map_nil]); first | done | rfl | (simp only [List.length_drop, List.length_take]; rfl)) ?_; (with_reducible refine (precentorlaw14_shown.calls k  t160 _ A2.out).mono ?_); rintro e w6 ⟨rfl, hb⟩; refine ⟨_, rfl, ?_⟩; have n0_ := Aside0.mk (blk_below (g := gb159) (o := .cells #[.int .u8 a0_0, .int .i64 a0_1, .int .i64 a0_2, .int .i64 a0_3, .int .u8 a0_4] 38 (0, 0)) (by (with_reducible repeat (first | refine blk_drewN ?_ _ | refine blk_drew ?_ | refine blk_alloc ?_ _)); exact BK159.out) hb); have n1_ := Aside0.mk (below_step (by repeat (first | (with_reducible first | exact HB.out | apply below_alloc | apply pw_below_drewN | apply below_drew1 | refine below_set ?_ GE159.out) | exact HB.out)) hb); clear BK159; clear HB; have BK159 := n0_; have HB := n1_; clear n0_ n1_; (try clear hb); (try clear hb2); (try clear hk); (try clear hi)))
    go_ret
    exact ⟨by first | rfl | (simp [errW_none, errW_some] <;> rfl) | (simp [*, errW_none, errW_some] <;> rfl), by repeat (first | (with_reducible first | exact HB.out | apply below_alloc | apply pw_below_drewN | apply below_drew1 | refine below_set ?_ GE159.out) | exact HB.out)⟩
  · rw [if_neg c3] at H
    have c3b0 : decide (a0_2 ≤ a0_3) = false := decide_eq_false c3
    clear c3
    replace H := Option.bind_eq_some_iff.mp H
    obtain ⟨t161, A70, H⟩ := H
    replace H : (precentorlaw14_WantSteady.l0 k a0_1 a0_2 a0_3 t160 (Int.tmod (wrap64 (a0_0)) 2) (wrap64 (1 + (Int.tmod (wrap64 (a0_4)) 9))) t161 1 0) = some r := H
    have A7 := Aside0.mk A70
    clear A70
    have H' := Aside0.mk H
    clear H
    go_enter Try.func6, Try.ntmps6
    go_wp2_with (first | ((with_reducible refine gate_dst (N := 1) rfl ?_); refine box_event ?hg (N := 1) ?hd (cs := #[.int .u8 a0_0, .int .i64 a0_1, .int .i64 a0_2, .int .i64 a0_3, .int .u8 a0_4]) (t := 38) ?hr ?_; (case hd => rfl); (case hg => rfl); (case hr => first | (go_simp; done) | (go_simp; rfl)); intro gb159 hg w8 hbox hb; have n0_ := Aside0.mk (below_step (by repeat (first | (with_reducible first | exact HB.out | apply below_alloc | apply pw_below_drewN | apply below_drew1) | exact HB.out)) hb); have n1_ := Aside0.mk (hbox); have n2_ := Aside0.mk ((by rw [hg]; exact (below_size (by repeat (first | (with_reducible first | exact HB.out | apply below_alloc | apply pw_below_drewN | apply below_drew1) | exact HB.out))) : w.heap.size ≤ gb159)); have n3_ := Aside0.mk ((by rw [hg]; exact (below_size (by repeat (first | (with_reducible first | exact HB.out | apply below_alloc | apply pw_below_drewN | apply below_drew1) | exact HB.out))) : w.heap.size ≤ gb159)); clear HB; have HB := n0_; have BK159 := n1_; have GW159 := n2_; have GE159 := n3_; clear n0_ n1_ n2_ n3_; clear hb hbox hg; have hcz9_0 : w8.cell? ⟨gb159, 0, none⟩ = some (.int .u8 a0_0) := (blk_cell BK159.out 0).trans rfl; have hcz9_1 : w8.cell? ⟨gb159, 1, none⟩ = some (.int .i64 a0_1) := (blk_cell BK159.out 1).trans rfl; have hcz9_2 : w8.cell? ⟨gb159, 2, none⟩ = some (.int .i64 a0_2) := (blk_cell BK159.out 2).trans rfl; have hcz9_3 : w8.cell? ⟨gb159, 3, none⟩ = some (.int .i64 a0_3) := (blk_cell BK159.out 3).trans rfl; have hcz9_4 : w8.cell? ⟨gb159, 4, none⟩ = some (.int .u8 a0_4) := (blk_cell BK159.out 4).trans rfl; have hfz9_0 := blk_frozen BK159.out 0; have hfz9_1 := blk_frozen BK159.out 1; have hfz9_2 := blk_frozen BK159.out 2; have hfz9_3 := blk_frozen BK159.out 3; have hfz9_4 := blk_frozen BK159.out 4) | ((with_reducible refine gate_callee (f := 7) rfl ?_); refine goesL_ (some 26) rfl rfl Try.func7 (by kernel_rfl) rfl #[] rfl (by (try simp only [List.map_toArray, List.map_cons, List.map_nil]); first | done | rfl | (simp only [List.length_drop, List.length_take]; rfl)) ?_; (with_reducible refine (precentorlaw14_shown.calls k  t160 _ A2.out).mono ?_); rintro e w10 ⟨rfl, hb⟩; refine ⟨_, rfl, ?_⟩; have n0_ := Aside0.mk (blk_below (g := gb159) (o := .cells #[.int .u8 a0_0, .int .i64 a0_1, .int .i64 a0_2, .int .i64 a0_3, .int .u8 a0_4] 38 (0, 0)) (by (with_reducible repeat (first | refine blk_drewN ?_ _ | refine blk_drew ?_ | refine blk_alloc ?_ _)); exact BK159.out) hb); have n1_ := Aside0.mk (below_step (by repeat (first | (with_reducible first | exact HB.out | apply below_alloc | apply pw_below_drewN | apply below_drew1 | refine below_set ?_ GE159.out) | exact HB.out)) hb); clear BK159; clear HB; have BK159 := n0_; have HB := n1_; clear n0_ n1_; (try clear hb); (try clear hb2); (try clear hk); (try clear hi)) | ((with_reducible refine gate_callee (f := 11) rfl ?_); refine goesL_ (some 42) rfl rfl Try.func11 (by kernel_rfl) rfl #[.int .i64 (Int.tmod (wrap64 (a0_0)) 2), .int .i64 a0_1, .int .i64 a0_2, .int .i64 a0_3] rfl (by (try simp only [List.map_toArray, List.map_cons, List.map_nil]); first | done | rfl | (simp only [List.length_drop, List.length_take]; rfl)) ?_; (with_reducible refine (want_Asks.calls (Int.tmod (wrap64 (a0_0)) 2) a0_1 a0_2 a0_3 t161 _ A7.out).mono ?_); rintro e w' ⟨rfl, ⟨nd, rfl⟩⟩; refine ⟨_, rfl, ?_⟩; (try (rw [drewN_self w10]; generalize hq_ : World.drewN w10 _ = w10; have n0_ : Aside0 (w10.heap[gb159]? = some (.cells #[.int .u8 a0_0, .int .i64 a0_1, .int .i64 a0_2, .int .i64 a0_3, .int .u8 a0_4] 38 (0, 0))) := ⟨by rw [← hq_]; exact (by (with_reducible repeat (first | refine blk_drewN ?_ _ | refine blk_drew ?_ | refine blk_alloc ?_ _)); exact BK159.out)⟩; have n1_ : Aside0 (Below w.heap.size w w10) := ⟨by rw [← hq_]; exact (by repeat (first | (with_reducible first | exact HB.out | apply below_alloc | apply pw_below_drewN | apply below_drew1 | refine below_set ?_ GE159.out) | exact HB.out))⟩; clear BK159 HB hq_; have BK159 := n0_; have HB := n1_; clear n0_ n1_))) | ((with_reducible refine gate_dst (N := 12) rfl ?_); refine box_event ?hg (N := 12) ?hd (cs := #[.int .i64 0]) (t := 23) ?hr ?_; (case hd => rfl); (case hg => rfl); (case hr => first | (go_simp; done) | (go_simp; rfl)); intro gb162 hg w11 hbox hb; have n0_ := Aside0.mk (blk_below (g := gb159) (o := .cells #[.int .u8 a0_0, .int .i64 a0_1, .int .i64 a0_2, .int .i64 a0_3, .int .u8 a0_4] 38 (0, 0)) (by (with_reducible repeat (first | refine blk_drewN ?_ _ | refine blk_drew ?_ | refine blk_alloc ?_ _)); exact BK159.out) hb); have n1_ := Aside0.mk (below_step (by repeat (first | (with_reducible first | exact HB.out | apply below_alloc | apply pw_below_drewN | apply below_drew1 | refine below_set ?_ GE159.out) | exact HB.out)) hb); have n2_ := Aside0.mk (hbox); have n3_ := Aside0.mk ((by rw [hg]; exact (below_size (by repeat (first | (with_reducible first | exact HB.out | apply below_alloc | apply pw_below_drewN | apply below_drew1 | refine below_set ?_ GE159.out) | exact HB.out))) : w.heap.size ≤ gb162)); have n4_ := Aside0.mk ((by rw [hg]; exact (below_size (by repeat (first | (with_reducible first | exact HB.out | apply below_alloc | apply pw_below_drewN | apply below_drew1 | refine below_set ?_ GE159.out) | exact HB.out))) : w.heap.size ≤ gb162)); have n5_ := Aside0.mk ((by rw [hg]; exact Nat.ne_of_lt (blk_lt (g := gb159) (o := .cells #[.int .u8 a0_0, .int .i64 a0_1, .int .i64 a0_2, .int .i64 a0_3, .int .u8 a0_4] 38 (0, 0)) (by (with_reducible repeat (first | refine blk_drewN ?_ _ | refine blk_drew ?_ | refine blk_alloc ?_ _)); exact BK159.out)) : gb159 ≠ gb162)); have n6_ := Aside0.mk ((by rw [hg]; exact Nat.ne_of_gt (blk_lt (g := gb159) (o := .cells #[.int .u8 a0_0, .int .i64 a0_1, .int .i64 a0_2, .int .i64 a0_3, .int .u8 a0_4] 38 (0, 0)) (by (with_reducible repeat (first | refine blk_drewN ?_ _ | refine blk_drew ?_ | refine blk_alloc ?_ _)); exact BK159.out)) : gb162 ≠ gb159)); clear BK159; clear HB; have BK159 := n0_; have HB := n1_; have BK162 := n2_; have GW162 := n3_; have GE162 := n4_; have NB159_162 := n5_; have NB162_159 := n6_; clear n0_ n1_ n2_ n3_ n4_ n5_ n6_; clear hb hbox hg; have hnb12 := NB162_159.out; have hnc12 := NB159_162.out; have hcz13_0 : w11.cell? ⟨gb162, 0, none⟩ = some (.int .i64 0) := (blk_cell BK162.out 0).trans rfl; have hfz13_0 := blk_frozen BK162.out 0))
    go_loopg [13] k (fun kq v13 w' => ∃ (x13_1 : Int) (x163000_1 : Int), v13 = .int .i64 x13_1 ∧ Aside0 (precentorlaw14_WantSteady.l0 kq a0_1 a0_2 a0_3 t160 (Int.tmod (wrap64 (a0_0)) 2) (wrap64 (1 + (Int.tmod (wrap64 (a0_4)) 9))) t161 x13_1 x163000_1 = some r) ∧ Aside0 (kq ≤ k) ∧ Aside0 (w'.heap[gb159]? = some (.cells #[.int .u8 a0_0, .int .i64 a0_1, .int .i64 a0_2, .int .i64 a0_3, .int .u8 a0_4] 38 (0, 0))) ∧ Aside0 (w'.heap[gb162]? = some (.cells #[.int .i64 x163000_1] 23 (0, 0))) ∧ Aside0 (Below w.heap.size w w'))
    case atStart => exact ⟨(1), (0), (by first | rfl | (simp; done) | (simp [*]; done)), H', ⟨Nat.le_refl _⟩, ⟨by (with_reducible repeat (first | refine blk_drewN ?_ _ | refine blk_drew ?_ | refine blk_alloc ?_ _)); refine blk_far ?_ NB159_162.out _; (with_reducible repeat (first | refine blk_drewN ?_ _ | refine blk_drew ?_ | refine blk_alloc ?_ _)); exact BK159.out⟩, ⟨by (with_reducible repeat (first | refine blk_drewN ?_ _ | refine blk_drew ?_ | refine blk_alloc ?_ _)); refine blk_put (cs := #[.int .i64 0]) ?_ 0 _ rfl; (with_reducible repeat (first | refine blk_drewN ?_ _ | refine blk_drew ?_ | refine blk_alloc ?_ _)); exact BK162.out⟩, ⟨by repeat (first | (with_reducible first | exact HB.out | apply below_alloc | apply pw_below_drewN | apply below_drew1 | refine below_set ?_ GE159.out | refine below_set ?_ GE162.out) | exact HB.out)⟩⟩
    case round =>
      clear H'
      try clear c1
      try clear p2
      try clear c3
      try clear c3b0
      try clear c6
      try clear p6
      try clear c7
      try clear c11
      try clear c12
      try clear hcz13_0
      try clear hcz5_0
      try clear hcz5_1
      try clear hcz5_2
      try clear hcz5_3
      try clear hcz5_4
      try clear hcz9_0
      try clear hcz9_1
      try clear hcz9_2
      try clear hcz9_3
      try clear hcz9_4
      try clear hfz13_0
      try clear hfz5_0
      try clear hfz5_1
      try clear hfz5_2
      try clear hfz5_3
      try clear hfz5_4
      try clear hfz9_0
      try clear hfz9_1
      try clear hfz9_2
      try clear hfz9_3
      try clear hfz9_4
      obtain ⟨x13_1, x163000_1, rfl, HA, HK1, BK159, BK162, HB⟩ := hrel
      cases gk with
      | zero => exact absurd HA.out (by simp [precentorlaw14_WantSteady.l0])
      | succ k1 =>
        have H := HA.out
        clear HA
        simp only [precentorlaw14_WantSteady.l0] at H
        by_cases c14 : x13_1 ≤ 100
        · rw [if_pos c14] at H
          have c14b0 : decide (x13_1 ≤ 100) = true := decide_eq_true c14
          clear c14
          replace H := Option.bind_eq_some_iff.mp H
          obtain ⟨⟨t163, t164⟩, A150, H⟩ := H
          replace H : (if t161 = true then (if (wrap64 (1 + (Int.tmod (wrap64 (a0_4)) 9))) = 0 then (none) else (if (Int.tmod x13_1 (wrap64 (1 + (Int.tmod (wrap64 (a0_4)) 9)))) = 0 then (if t164 = true then (if t163 < 0 then (none) else (if t163 ≥ (wrap64 (1 + (Int.tmod (wrap64 (a0_4)) 9))) then (none) else (precentorlaw14_WantSteady.l0 k1 a0_1 a0_2 a0_3 t160 (Int.tmod (wrap64 (a0_0)) 2) (wrap64 (1 + (Int.tmod (wrap64 (a0_4)) 9))) t161 (wrap64 (x13_1 + 1)) t163))) else (none)) else (if t164 = true then (none) else (if t163 < 0 then (none) else (if t163 ≥ (wrap64 (1 + (Int.tmod (wrap64 (a0_4)) 9))) then (none) else (precentorlaw14_WantSteady.l0 k1 a0_1 a0_2 a0_3 t160 (Int.tmod (wrap64 (a0_0)) 2) (wrap64 (1 + (Int.tmod (wrap64 (a0_4)) 9))) t161 (wrap64 (x13_1 + 1)) t163)))))) else (if t164 = true then (none) else (if t163 < 0 then (none) else (if t163 ≥ (wrap64 (1 + (Int.tmod (wrap64 (a0_4)) 9))) then (none) else (precentorlaw14_WantSteady.l0 k1 a0_1 a0_2 a0_3 t160 (Int.tmod (wrap64 (a0_0)) 2) (wrap64 (1 + (Int.tmod (wrap64 (a0_4)) 9))) t161 (wrap64 (x13_1 + 1)) t163))))) = some r := H
          have A15 := Aside0.mk A150
          clear A150
          by_cases c16 : t161 = true
          · subst c16
            have H1 : (if (wrap64 (1 + (Int.tmod (wrap64 (a0_4)) 9))) = 0 then (none) else (if (Int.tmod x13_1 (wrap64 (1 + (Int.tmod (wrap64 (a0_4)) 9)))) = 0 then (if t164 = true then (if t163 < 0 then (none) else (if t163 ≥ (wrap64 (1 + (Int.tmod (wrap64 (a0_4)) 9))) then (none) else (precentorlaw14_WantSteady.l0 k1 a0_1 a0_2 a0_3 t160 (Int.tmod (wrap64 (a0_0)) 2) (wrap64 (1 + (Int.tmod (wrap64 (a0_4)) 9))) true (wrap64 (x13_1 + 1)) t163))) else (none)) else (if t164 = true then (none) else (if t163 < 0 then (none) else (if t163 ≥ (wrap64 (1 + (Int.tmod (wrap64 (a0_4)) 9))) then (none) else (precentorlaw14_WantSteady.l0 k1 a0_1 a0_2 a0_3 t160 (Int.tmod (wrap64 (a0_0)) 2) (wrap64 (1 + (Int.tmod (wrap64 (a0_4)) 9))) true (wrap64 (x13_1 + 1)) t163)))))) = some r := by rw [if_pos rfl] at H; exact H
            clear H
            have H := H1
            clear H1
            by_cases c17 : (wrap64 (1 + (Int.tmod (wrap64 (a0_4)) 9))) = 0
            · rw [if_pos c17] at H
              exact absurd H (by simp)
            · rw [if_neg c17] at H
              have c17b0 : ((wrap64 (1 + (Int.tmod (wrap64 (a0_4)) 9))) == 0) = false := beq_eq_false_iff_ne.mpr c17
              have c17b1 : ((wrap64 (1 + (Int.tmod (wrap64 (a0_4)) 9))) != 0) = true := bne_iff_ne.mpr c17
              by_cases c18 : (Int.tmod x13_1 (wrap64 (1 + (Int.tmod (wrap64 (a0_4)) 9)))) = 0
              · rw [if_pos c18] at H
                have c18b0 : ((Int.tmod x13_1 (wrap64 (1 + (Int.tmod (wrap64 (a0_4)) 9)))) == 0) = true := beq_iff_eq.mpr c18
                have c18b1 : ((Int.tmod x13_1 (wrap64 (1 + (Int.tmod (wrap64 (a0_4)) 9)))) != 0) = false := bne_eq_false_iff_eq.mpr c18
                clear c18
                by_cases c19 : t164 = true
                · subst c19
                  have H1 : (if t163 < 0 then (none) else (if t163 ≥ (wrap64 (1 + (Int.tmod (wrap64 (a0_4)) 9))) then (none) else (precentorlaw14_WantSteady.l0 k1 a0_1 a0_2 a0_3 t160 (Int.tmod (wrap64 (a0_0)) 2) (wrap64 (1 + (Int.tmod (wrap64 (a0_4)) 9))) true (wrap64 (x13_1 + 1)) t163))) = some r := by rw [if_pos rfl] at H; exact H
                  clear H
                  have H := H1
                  clear H1
                  by_cases c20 : t163 < 0
                  · rw [if_pos c20] at H
                    exact absurd H (by simp)
                  · rw [if_neg c20] at H
                    have c20b0 : decide (t163 < 0) = false := decide_eq_false c20
                    clear c20
                    by_cases c21 : t163 ≥ (wrap64 (1 + (Int.tmod (wrap64 (a0_4)) 9)))
                    · rw [if_pos c21] at H
                      exact absurd H (by simp)
                    · rw [if_neg c21] at H
                      have c21b0 : decide ((wrap64 (1 + (Int.tmod (wrap64 (a0_4)) 9))) ≤ t163) = false := decide_eq_false c21
                      clear c21
                      have H' := Aside0.mk H
                      clear H
                      have hnb22 := NB162_159.out
                      have hnc22 := NB159_162.out
                      have hcz23_0 : wr.cell? ⟨gb162, 0, none⟩ = some (.int .i64 x163000_1) := (blk_cell BK162.out 0).trans rfl
                      have hfz23_0 := blk_frozen BK162.out 0
                      go_wp2_with (first | ((with_reducible refine gate_callee (f := 9) rfl ?_); refine goesL_ (some 55) rfl rfl Try.func9 (by kernel_rfl) rfl #[.agg #[.int .i64 x163000_1], .int .i64 (Int.tmod (wrap64 (a0_0)) 2), .int .i64 a0_1, .int .i64 a0_2, .int .i64 a0_3, .int .i64 (wrap64 (1 + (Int.tmod (wrap64 (a0_4)) 9)))] rfl (by (try simp only [List.map_toArray, List.map_cons, List.map_nil]); first | done | rfl | (simp only [List.length_drop, List.length_take]; rfl)) ?_; (with_reducible refine (want_Step.calls x163000_1 (Int.tmod (wrap64 (a0_0)) 2) a0_1 a0_2 a0_3 (wrap64 (1 + (Int.tmod (wrap64 (a0_4)) 9))) t163 true _ A15.out).mono ?_); rintro e w24 ⟨rfl, hb⟩; refine ⟨_, rfl, ?_⟩; have n0_ := Aside0.mk (blk_below (g := gb159) (o := .cells #[.int .u8 a0_0, .int .i64 a0_1, .int .i64 a0_2, .int .i64 a0_3, .int .u8 a0_4] 38 (0, 0)) (by (with_reducible repeat (first | refine blk_drewN ?_ _ | refine blk_drew ?_ | refine blk_alloc ?_ _)); exact BK159.out) hb); have n1_ := Aside0.mk (blk_below (g := gb162) (o := .cells #[.int .i64 x163000_1] 23 (0, 0)) (by (with_reducible repeat (first | refine blk_drewN ?_ _ | refine blk_drew ?_ | refine blk_alloc ?_ _)); exact BK162.out) hb); have n2_ := Aside0.mk (below_step (by repeat (first | (with_reducible first | exact HB.out | apply below_alloc | apply pw_below_drewN | apply below_drew1 | refine below_set ?_ GE159.out | refine below_set ?_ GE162.out) | exact HB.out)) hb); clear BK159; clear BK162; clear HB; have BK159 := n0_; have BK162 := n1_; have HB := n2_; clear n0_ n1_ n2_; (try clear hb); (try clear hb2); (try clear hk); (try clear hi)) | ((with_reducible refine gate_dst (N := 14) rfl ?_); refine box_event ?hg (N := 14) ?hd (cs := #[.int .i64 0]) (t := 23) ?hr ?_; (case hd => rfl); (case hg => rfl); (case hr => first | (go_simp; done) | (go_simp; rfl)); intro gb165 hg w25 hbox hb; have n0_ := Aside0.mk (blk_below (g := gb159) (o := .cells #[.int .u8 a0_0, .int .i64 a0_1, .int .i64 a0_2, .int .i64 a0_3, .int .u8 a0_4] 38 (0, 0)) (by (with_reducible repeat (first | refine blk_drewN ?_ _ | refine blk_drew ?_ | refine blk_alloc ?_ _)); exact BK159.out) hb); have n1_ := Aside0.mk (blk_below (g := gb162) (o := .cells #[.int .i64 x163000_1] 23 (0, 0)) (by (with_reducible repeat (first | refine blk_drewN ?_ _ | refine blk_drew ?_ | refine blk_alloc ?_ _)); exact BK162.out) hb); have n2_ := Aside0.mk (below_step (by repeat (first | (with_reducible first | exact HB.out | apply below_alloc | apply pw_below_drewN | apply below_drew1 | refine below_set ?_ GE159.out | refine below_set ?_ GE162.out) | exact HB.out)) hb); have n3_ := Aside0.mk (hbox); have n4_ := Aside0.mk ((by rw [hg]; exact (below_size (by repeat (first | (with_reducible first | exact HB.out | apply below_alloc | apply pw_below_drewN | apply below_drew1 | refine below_set ?_ GE159.out | refine below_set ?_ GE162.out) | exact HB.out))) : w.heap.size ≤ gb165)); have n5_ := Aside0.mk ((by rw [hg]; exact (below_size (by repeat (first | (with_reducible first | exact HB.out | apply below_alloc | apply pw_below_drewN | apply below_drew1 | refine below_set ?_ GE159.out | refine below_set ?_ GE162.out) | exact HB.out))) : w.heap.size ≤ gb165)); have n6_ := Aside0.mk ((by rw [hg]; exact Nat.ne_of_lt (blk_lt (g := gb159) (o := .cells #[.int .u8 a0_0, .int .i64 a0_1, .int .i64 a0_2, .int .i64 a0_3, .int .u8 a0_4] 38 (0, 0)) (by (with_reducible repeat (first | refine blk_drewN ?_ _ | refine blk_drew ?_ | refine blk_alloc ?_ _)); exact BK159.out)) : gb159 ≠ gb165)); have n7_ := Aside0.mk ((by rw [hg]; exact Nat.ne_of_gt (blk_lt (g := gb159) (o := .cells #[.int .u8 a0_0, .int .i64 a0_1, .int .i64 a0_2, .int .i64 a0_3, .int .u8 a0_4] 38 (0, 0)) (by (with_reducible repeat (first | refine blk_drewN ?_ _ | refine blk_drew ?_ | refine blk_alloc ?_ _)); exact BK159.out)) : gb165 ≠ gb159)); have n8_ := Aside0.mk ((by rw [hg]; exact Nat.ne_of_lt (blk_lt (g := gb162) (o := .cells #[.int .i64 x163000_1] 23 (0, 0)) (by (with_reducible repeat (first | refine blk_drewN ?_ _ | refine blk_drew ?_ | refine blk_alloc ?_ _)); exact BK162.out)) : gb162 ≠ gb165)); have n9_ := Aside0.mk ((by rw [hg]; exact Nat.ne_of_gt (blk_lt (g := gb162) (o := .cells #[.int .i64 x163000_1] 23 (0, 0)) (by (with_reducible repeat (first | refine blk_drewN ?_ _ | refine blk_drew ?_ | refine blk_alloc ?_ _)); exact BK162.out)) : gb165 ≠ gb162)); clear BK159; clear BK162; clear HB; have BK159 := n0_; have BK162 := n1_; have HB := n2_; have BK165 := n3_; have GW165 := n4_; have GE165 := n5_; have NB159_165 := n6_; have NB165_159 := n7_; have NB162_165 := n8_; have NB165_162 := n9_; clear n0_ n1_ n2_ n3_ n4_ n5_ n6_ n7_ n8_ n9_; clear hb hbox hg; have hnb26 := NB165_159.out; have hnc26 := NB159_165.out; have hnb27 := NB165_162.out; have hnc27 := NB162_165.out; have hcz28_0 : w25.cell? ⟨gb165, 0, none⟩ = some (.int .i64 0) := (blk_cell BK165.out 0).trans rfl; have hfz28_0 := blk_frozen BK165.out 0; have hcz29_0 : w25.cell? ⟨gb162, 0, none⟩ = some (.int .i64 x163000_1) := (blk_cell BK162.out 0).trans rfl; have hfz29_0 := blk_frozen BK162.out 0))
                      go_roundg k1
                      case measure => have := HK1.out; omega
                      case rel => exact ⟨(wrap64 (x13_1 + 1)), (t163), (by first | rfl | (simp; done) | (simp [*]; done)), H', ⟨by have := HK1.out; omega⟩, ⟨by (with_reducible repeat (first | refine blk_drewN ?_ _ | refine blk_drew ?_ | refine blk_alloc ?_ _)); refine blk_far ?_ NB159_162.out _; (with_reducible repeat (first | refine blk_drewN ?_ _ | refine blk_drew ?_ | refine blk_alloc ?_ _)); refine blk_far ?_ NB159_165.out _; (with_reducible repeat (first | refine blk_drewN ?_ _ | refine blk_drew ?_ | refine blk_alloc ?_ _)); exact BK159.out⟩, ⟨by (with_reducible repeat (first | refine blk_drewN ?_ _ | refine blk_drew ?_ | refine blk_alloc ?_ _)); refine blk_put (cs := #[.int .i64 x163000_1]) ?_ 0 _ rfl; (with_reducible repeat (first | refine blk_drewN ?_ _ | refine blk_drew ?_ | refine blk_alloc ?_ _)); refine blk_far ?_ NB162_165.out _; (with_reducible repeat (first | refine blk_drewN ?_ _ | refine blk_drew ?_ | refine blk_alloc ?_ _)); exact BK162.out⟩, ⟨by repeat (first | (with_reducible first | exact HB.out | apply below_alloc | apply pw_below_drewN | apply below_drew1 | refine below_set ?_ GE159.out | refine below_set ?_ GE162.out | refine below_set ?_ GE165.out) | exact HB.out)⟩⟩
                · replace c19 := Bool.eq_false_iff.mpr c19
                  subst c19
                  have H1 : (none) = some r := by rw [if_neg (show ¬ (false = true) by decide)] at H; exact H
                  clear H
                  have H := H1
                  clear H1
                  exact absurd H (by simp)
              · rw [if_neg c18] at H
                have c18b0 : ((Int.tmod x13_1 (wrap64 (1 + (Int.tmod (wrap64 (a0_4)) 9)))) == 0) = false := beq_eq_false_iff_ne.mpr c18
                have c18b1 : ((Int.tmod x13_1 (wrap64 (1 + (Int.tmod (wrap64 (a0_4)) 9)))) != 0) = true := bne_iff_ne.mpr c18
                by_cases c30 : t164 = true
                · subst c30
                  have H1 : (none) = some r := by rw [if_pos rfl] at H; exact H
                  clear H
                  have H := H1
                  clear H1
                  exact absurd H (by simp)
                · replace c30 := Bool.eq_false_iff.mpr c30
                  subst c30
                  have H1 : (if t163 < 0 then (none) else (if t163 ≥ (wrap64 (1 + (Int.tmod (wrap64 (a0_4)) 9))) then (none) else (precentorlaw14_WantSteady.l0 k1 a0_1 a0_2 a0_3 t160 (Int.tmod (wrap64 (a0_0)) 2) (wrap64 (1 + (Int.tmod (wrap64 (a0_4)) 9))) true (wrap64 (x13_1 + 1)) t163))) = some r := by rw [if_neg (show ¬ (false = true) by decide)] at H; exact H
                  clear H
                  have H := H1
                  clear H1
                  by_cases c31 : t163 < 0
                  · rw [if_pos c31] at H
                    exact absurd H (by simp)
                  · rw [if_neg c31] at H
                    have c31b0 : decide (t163 < 0) = false := decide_eq_false c31
                    clear c31
                    by_cases c32 : t163 ≥ (wrap64 (1 + (Int.tmod (wrap64 (a0_4)) 9)))
                    · rw [if_pos c32] at H
                      exact absurd H (by simp)
                    · rw [if_neg c32] at H
                      have c32b0 : decide ((wrap64 (1 + (Int.tmod (wrap64 (a0_4)) 9))) ≤ t163) = false := decide_eq_false c32
                      clear c32
                      have H' := Aside0.mk H
                      clear H
                      have hnb33 := NB162_159.out
                      have hnc33 := NB159_162.out
                      have hcz34_0 : wr.cell? ⟨gb162, 0, none⟩ = some (.int .i64 x163000_1) := (blk_cell BK162.out 0).trans rfl
                      have hfz34_0 := blk_frozen BK162.out 0
                      go_wp2_with (first | ((with_reducible refine gate_callee (f := 9) rfl ?_); refine goesL_ (some 55) rfl rfl Try.func9 (by kernel_rfl) rfl #[.agg #[.int .i64 x163000_1], .int .i64 (Int.tmod (wrap64 (a0_0)) 2), .int .i64 a0_1, .int .i64 a0_2, .int .i64 a0_3, .int .i64 (wrap64 (1 + (Int.tmod (wrap64 (a0_4)) 9)))] rfl (by (try simp only [List.map_toArray, List.map_cons, List.map_nil]); first | done | rfl | (simp only [List.length_drop, List.length_take]; rfl)) ?_; (with_reducible refine (want_Step.calls x163000_1 (Int.tmod (wrap64 (a0_0)) 2) a0_1 a0_2 a0_3 (wrap64 (1 + (Int.tmod (wrap64 (a0_4)) 9))) t163 false _ A15.out).mono ?_); rintro e w35 ⟨rfl, hb⟩; refine ⟨_, rfl, ?_⟩; have n0_ := Aside0.mk (blk_below (g := gb159) (o := .cells #[.int .u8 a0_0, .int .i64 a0_1, .int .i64 a0_2, .int .i64 a0_3, .int .u8 a0_4] 38 (0, 0)) (by (with_reducible repeat (first | refine blk_drewN ?_ _ | refine blk_drew ?_ | refine blk_alloc ?_ _)); exact BK159.out) hb); have n1_ := Aside0.mk (blk_below (g := gb162) (o := .cells #[.int .i64 x163000_1] 23 (0, 0)) (by (with_reducible repeat (first | refine blk_drewN ?_ _ | refine blk_drew ?_ | refine blk_alloc ?_ _)); exact BK162.out) hb); have n2_ := Aside0.mk (below_step (by repeat (first | (with_reducible first | exact HB.out | apply below_alloc | apply pw_below_drewN | apply below_drew1 | refine below_set ?_ GE159.out | refine below_set ?_ GE162.out) | exact HB.out)) hb); clear BK159; clear BK162; clear HB; have BK159 := n0_; have BK162 := n1_; have HB := n2_; clear n0_ n1_ n2_; (try clear hb); (try clear hb2); (try clear hk); (try clear hi)) | ((with_reducible refine gate_dst (N := 14) rfl ?_); refine box_event ?hg (N := 14) ?hd (cs := #[.int .i64 0]) (t := 23) ?hr ?_; (case hd => rfl); (case hg => rfl); (case hr => first | (go_simp; done) | (go_simp; rfl)); intro gb165 hg w36 hbox hb; have n0_ := Aside0.mk (blk_below (g := gb159) (o := .cells #[.int .u8 a0_0, .int .i64 a0_1, .int .i64 a0_2, .int .i64 a0_3, .int .u8 a0_4] 38 (0, 0)) (by (with_reducible repeat (first | refine blk_drewN ?_ _ | refine blk_drew ?_ | refine blk_alloc ?_ _)); exact BK159.out) hb); have n1_ := Aside0.mk (blk_below (g := gb162) (o := .cells #[.int .i64 x163000_1] 23 (0, 0)) (by (with_reducible repeat (first | refine blk_drewN ?_ _ | refine blk_drew ?_ | refine blk_alloc ?_ _)); exact BK162.out) hb); have n2_ := Aside0.mk (below_step (by repeat (first | (with_reducible first | exact HB.out | apply below_alloc | apply pw_below_drewN | apply below_drew1 | refine below_set ?_ GE159.out | refine below_set ?_ GE162.out) | exact HB.out)) hb); have n3_ := Aside0.mk (hbox); have n4_ := Aside0.mk ((by rw [hg]; exact (below_size (by repeat (first | (with_reducible first | exact HB.out | apply below_alloc | apply pw_below_drewN | apply below_drew1 | refine below_set ?_ GE159.out | refine below_set ?_ GE162.out) | exact HB.out))) : w.heap.size ≤ gb165)); have n5_ := Aside0.mk ((by rw [hg]; exact (below_size (by repeat (first | (with_reducible first | exact HB.out | apply below_alloc | apply pw_below_drewN | apply below_drew1 | refine below_set ?_ GE159.out | refine below_set ?_ GE162.out) | exact HB.out))) : w.heap.size ≤ gb165)); have n6_ := Aside0.mk ((by rw [hg]; exact Nat.ne_of_lt (blk_lt (g := gb159) (o := .cells #[.int .u8 a0_0, .int .i64 a0_1, .int .i64 a0_2, .int .i64 a0_3, .int .u8 a0_4] 38 (0, 0)) (by (with_reducible repeat (first | refine blk_drewN ?_ _ | refine blk_drew ?_ | refine blk_alloc ?_ _)); exact BK159.out)) : gb159 ≠ gb165)); have n7_ := Aside0.mk ((by rw [hg]; exact Nat.ne_of_gt (blk_lt (g := gb159) (o := .cells #[.int .u8 a0_0, .int .i64 a0_1, .int .i64 a0_2, .int .i64 a0_3, .int .u8 a0_4] 38 (0, 0)) (by (with_reducible repeat (first | refine blk_drewN ?_ _ | refine blk_drew ?_ | refine blk_alloc ?_ _)); exact BK159.out)) : gb165 ≠ gb159)); have n8_ := Aside0.mk ((by rw [hg]; exact Nat.ne_of_lt (blk_lt (g := gb162) (o := .cells #[.int .i64 x163000_1] 23 (0, 0)) (by (with_reducible repeat (first | refine blk_drewN ?_ _ | refine blk_drew ?_ | refine blk_alloc ?_ _)); exact BK162.out)) : gb162 ≠ gb165)); have n9_ := Aside0.mk ((by rw [hg]; exact Nat.ne_of_gt (blk_lt (g := gb162) (o := .cells #[.int .i64 x163000_1] 23 (0, 0)) (by (with_reducible repeat (first | refine blk_drewN ?_ _ | refine blk_drew ?_ | refine blk_alloc ?_ _)); exact BK162.out)) : gb165 ≠ gb162)); clear BK159; clear BK162; clear HB; have BK159 := n0_; have BK162 := n1_; have HB := n2_; have BK165 := n3_; have GW165 := n4_; have GE165 := n5_; have NB159_165 := n6_; have NB165_159 := n7_; have NB162_165 := n8_; have NB165_162 := n9_; clear n0_ n1_ n2_ n3_ n4_ n5_ n6_ n7_ n8_ n9_; clear hb hbox hg; have hnb37 := NB165_159.out; have hnc37 := NB159_165.out; have hnb38 := NB165_162.out; have hnc38 := NB162_165.out; have hcz39_0 : w36.cell? ⟨gb165, 0, none⟩ = some (.int .i64 0) := (blk_cell BK165.out 0).trans rfl; have hfz39_0 := blk_frozen BK165.out 0; have hcz40_0 : w36.cell? ⟨gb162, 0, none⟩ = some (.int .i64 x163000_1) := (blk_cell BK162.out 0).trans rfl; have hfz40_0 := blk_frozen BK162.out 0))
                      go_roundg k1
                      case measure => have := HK1.out; omega
                      case rel => exact ⟨(wrap64 (x13_1 + 1)), (t163), (by first | rfl | (simp; done) | (simp [*]; done)), H', ⟨by have := HK1.out; omega⟩, ⟨by (with_reducible repeat (first | refine blk_drewN ?_ _ | refine blk_drew ?_ | refine blk_alloc ?_ _)); refine blk_far ?_ NB159_162.out _; (with_reducible repeat (first | refine blk_drewN ?_ _ | refine blk_drew ?_ | refine blk_alloc ?_ _)); refine blk_far ?_ NB159_165.out _; (with_reducible repeat (first | refine blk_drewN ?_ _ | refine blk_drew ?_ | refine blk_alloc ?_ _)); exact BK159.out⟩, ⟨by (with_reducible repeat (first | refine blk_drewN ?_ _ | refine blk_drew ?_ | refine blk_alloc ?_ _)); refine blk_put (cs := #[.int .i64 x163000_1]) ?_ 0 _ rfl; (with_reducible repeat (first | refine blk_drewN ?_ _ | refine blk_drew ?_ | refine blk_alloc ?_ _)); refine blk_far ?_ NB162_165.out _; (with_reducible repeat (first | refine blk_drewN ?_ _ | refine blk_drew ?_ | refine blk_alloc ?_ _)); exact BK162.out⟩, ⟨by repeat (first | (with_reducible first | exact HB.out | apply below_alloc | apply pw_below_drewN | apply below_drew1 | refine below_set ?_ GE159.out | refine below_set ?_ GE162.out | refine below_set ?_ GE165.out) | exact HB.out)⟩⟩
          · replace c16 := Bool.eq_false_iff.mpr c16
            subst c16
            have H1 : (if t164 = true then (none) else (if t163 < 0 then (none) else (if t163 ≥ (wrap64 (1 + (Int.tmod (wrap64 (a0_4)) 9))) then (none) else (precentorlaw14_WantSteady.l0 k1 a0_1 a0_2 a0_3 t160 (Int.tmod (wrap64 (a0_0)) 2) (wrap64 (1 + (Int.tmod (wrap64 (a0_4)) 9))) false (wrap64 (x13_1 + 1)) t163)))) = some r := by rw [if_neg (show ¬ (false = true) by decide)] at H; exact H
            clear H
            have H := H1
            clear H1
            by_cases c41 : t164 = true
            · subst c41
              have H1 : (none) = some r := by rw [if_pos rfl] at H; exact H
              clear H
              have H := H1
              clear H1
              exact absurd H (by simp)
            · replace c41 := Bool.eq_false_iff.mpr c41
              subst c41
              have H1 : (if t163 < 0 then (none) else (if t163 ≥ (wrap64 (1 + (Int.tmod (wrap64 (a0_4)) 9))) then (none) else (precentorlaw14_WantSteady.l0 k1 a0_1 a0_2 a0_3 t160 (Int.tmod (wrap64 (a0_0)) 2) (wrap64 (1 + (Int.tmod (wrap64 (a0_4)) 9))) false (wrap64 (x13_1 + 1)) t163))) = some r := by rw [if_neg (show ¬ (false = true) by decide)] at H; exact H
              clear H
              have H := H1
              clear H1
              by_cases c42 : t163 < 0
              · rw [if_pos c42] at H
                exact absurd H (by simp)
              · rw [if_neg c42] at H
                have c42b0 : decide (t163 < 0) = false := decide_eq_false c42
                clear c42
                by_cases c43 : t163 ≥ (wrap64 (1 + (Int.tmod (wrap64 (a0_4)) 9)))
                · rw [if_pos c43] at H
                  exact absurd H (by simp)
                · rw [if_neg c43] at H
                  have c43b0 : decide ((wrap64 (1 + (Int.tmod (wrap64 (a0_4)) 9))) ≤ t163) = false := decide_eq_false c43
                  clear c43
                  have H' := Aside0.mk H
                  clear H
                  have hnb44 := NB162_159.out
                  have hnc44 := NB159_162.out
                  have hcz45_0 : wr.cell? ⟨gb162, 0, none⟩ = some (.int .i64 x163000_1) := (blk_cell BK162.out 0).trans rfl
                  have hfz45_0 := blk_frozen BK162.out 0
                  go_wp2_with (first | ((with_reducible refine gate_callee (f := 9) rfl ?_); refine goesL_ (some 55) rfl rfl Try.func9 (by kernel_rfl) rfl #[.agg #[.int .i64 x163000_1], .int .i64 (Int.tmod (wrap64 (a0_0)) 2), .int .i64 a0_1, .int .i64 a0_2, .int .i64 a0_3, .int .i64 (wrap64 (1 + (Int.tmod (wrap64 (a0_4)) 9)))] rfl (by (try simp only [List.map_toArray, List.map_cons, List.map_nil]); first | done | rfl | (simp only [List.length_drop, List.length_take]; rfl)) ?_; (with_reducible refine (want_Step.calls x163000_1 (Int.tmod (wrap64 (a0_0)) 2) a0_1 a0_2 a0_3 (wrap64 (1 + (Int.tmod (wrap64 (a0_4)) 9))) t163 false _ A15.out).mono ?_); rintro e w46 ⟨rfl, hb⟩; refine ⟨_, rfl, ?_⟩; have n0_ := Aside0.mk (blk_below (g := gb159) (o := .cells #[.int .u8 a0_0, .int .i64 a0_1, .int .i64 a0_2, .int .i64 a0_3, .int .u8 a0_4] 38 (0, 0)) (by (with_reducible repeat (first | refine blk_drewN ?_ _ | refine blk_drew ?_ | refine blk_alloc ?_ _)); exact BK159.out) hb); have n1_ := Aside0.mk (blk_below (g := gb162) (o := .cells #[.int .i64 x163000_1] 23 (0, 0)) (by (with_reducible repeat (first | refine blk_drewN ?_ _ | refine blk_drew ?_ | refine blk_alloc ?_ _)); exact BK162.out) hb); have n2_ := Aside0.mk (below_step (by repeat (first | (with_reducible first | exact HB.out | apply below_alloc | apply pw_below_drewN | apply below_drew1 | refine below_set ?_ GE159.out | refine below_set ?_ GE162.out) | exact HB.out)) hb); clear BK159; clear BK162; clear HB; have BK159 := n0_; have BK162 := n1_; have HB := n2_; clear n0_ n1_ n2_; (try clear hb); (try clear hb2); (try clear hk); (try clear hi)) | ((with_reducible refine gate_dst (N := 14) rfl ?_); refine box_event ?hg (N := 14) ?hd (cs := #[.int .i64 0]) (t := 23) ?hr ?_; (case hd => rfl); (case hg => rfl); (case hr => first | (go_simp; done) | (go_simp; rfl)); intro gb165 hg w47 hbox hb; have n0_ := Aside0.mk (blk_below (g := gb159) (o := .cells #[.int .u8 a0_0, .int .i64 a0_1, .int .i64 a0_2, .int .i64 a0_3, .int .u8 a0_4] 38 (0, 0)) (by (with_reducible repeat (first | refine blk_drewN ?_ _ | refine blk_drew ?_ | refine blk_alloc ?_ _)); exact BK159.out) hb); have n1_ := Aside0.mk (blk_below (g := gb162) (o := .cells #[.int .i64 x163000_1] 23 (0, 0)) (by (with_reducible repeat (first | refine blk_drewN ?_ _ | refine blk_drew ?_ | refine blk_alloc ?_ _)); exact BK162.out) hb); have n2_ := Aside0.mk (below_step (by repeat (first | (with_reducible first | exact HB.out | apply below_alloc | apply pw_below_drewN | apply below_drew1 | refine below_set ?_ GE159.out | refine below_set ?_ GE162.out) | exact HB.out)) hb); have n3_ := Aside0.mk (hbox); have n4_ := Aside0.mk ((by rw [hg]; exact (below_size (by repeat (first | (with_reducible first | exact HB.out | apply below_alloc | apply pw_below_drewN | apply below_drew1 | refine below_set ?_ GE159.out | refine below_set ?_ GE162.out) | exact HB.out))) : w.heap.size ≤ gb165)); have n5_ := Aside0.mk ((by rw [hg]; exact (below_size (by repeat (first | (with_reducible first | exact HB.out | apply below_alloc | apply pw_below_drewN | apply below_drew1 | refine below_set ?_ GE159.out | refine below_set ?_ GE162.out) | exact HB.out))) : w.heap.size ≤ gb165)); have n6_ := Aside0.mk ((by rw [hg]; exact Nat.ne_of_lt (blk_lt (g := gb159) (o := .cells #[.int .u8 a0_0, .int .i64 a0_1, .int .i64 a0_2, .int .i64 a0_3, .int .u8 a0_4] 38 (0, 0)) (by (with_reducible repeat (first | refine blk_drewN ?_ _ | refine blk_drew ?_ | refine blk_alloc ?_ _)); exact BK159.out)) : gb159 ≠ gb165)); have n7_ := Aside0.mk ((by rw [hg]; exact Nat.ne_of_gt (blk_lt (g := gb159) (o := .cells #[.int .u8 a0_0, .int .i64 a0_1, .int .i64 a0_2, .int .i64 a0_3, .int .u8 a0_4] 38 (0, 0)) (by (with_reducible repeat (first | refine blk_drewN ?_ _ | refine blk_drew ?_ | refine blk_alloc ?_ _)); exact BK159.out)) : gb165 ≠ gb159)); have n8_ := Aside0.mk ((by rw [hg]; exact Nat.ne_of_lt (blk_lt (g := gb162) (o := .cells #[.int .i64 x163000_1] 23 (0, 0)) (by (with_reducible repeat (first | refine blk_drewN ?_ _ | refine blk_drew ?_ | refine blk_alloc ?_ _)); exact BK162.out)) : gb162 ≠ gb165)); have n9_ := Aside0.mk ((by rw [hg]; exact Nat.ne_of_gt (blk_lt (g := gb162) (o := .cells #[.int .i64 x163000_1] 23 (0, 0)) (by (with_reducible repeat (first | refine blk_drewN ?_ _ | refine blk_drew ?_ | refine blk_alloc ?_ _)); exact BK162.out)) : gb165 ≠ gb162)); clear BK159; clear BK162; clear HB; have BK159 := n0_; have BK162 := n1_; have HB := n2_; have BK165 := n3_; have GW165 := n4_; have GE165 := n5_; have NB159_165 := n6_; have NB165_159 := n7_; have NB162_165 := n8_; have NB165_162 := n9_; clear n0_ n1_ n2_ n3_ n4_ n5_ n6_ n7_ n8_ n9_; clear hb hbox hg; have hnb48 := NB165_159.out; have hnc48 := NB159_165.out; have hnb49 := NB165_162.out; have hnc49 := NB162_165.out; have hcz50_0 : w47.cell? ⟨gb165, 0, none⟩ = some (.int .i64 0) := (blk_cell BK165.out 0).trans rfl; have hfz50_0 := blk_frozen BK165.out 0; have hcz51_0 : w47.cell? ⟨gb162, 0, none⟩ = some (.int .i64 x163000_1) := (blk_cell BK162.out 0).trans rfl; have hfz51_0 := blk_frozen BK162.out 0))
                  go_roundg k1
                  case measure => have := HK1.out; omega
                  case rel => exact ⟨(wrap64 (x13_1 + 1)), (t163), (by first | rfl | (simp; done) | (simp [*]; done)), H', ⟨by have := HK1.out; omega⟩, ⟨by (with_reducible repeat (first | refine blk_drewN ?_ _ | refine blk_drew ?_ | refine blk_alloc ?_ _)); refine blk_far ?_ NB159_162.out _; (with_reducible repeat (first | refine blk_drewN ?_ _ | refine blk_drew ?_ | refine blk_alloc ?_ _)); refine blk_far ?_ NB159_165.out _; (with_reducible repeat (first | refine blk_drewN ?_ _ | refine blk_drew ?_ | refine blk_alloc ?_ _)); exact BK159.out⟩, ⟨by (with_reducible repeat (first | refine blk_drewN ?_ _ | refine blk_drew ?_ | refine blk_alloc ?_ _)); refine blk_put (cs := #[.int .i64 x163000_1]) ?_ 0 _ rfl; (with_reducible repeat (first | refine blk_drewN ?_ _ | refine blk_drew ?_ | refine blk_alloc ?_ _)); refine blk_far ?_ NB162_165.out _; (with_reducible repeat (first | refine blk_drewN ?_ _ | refine blk_drew ?_ | refine blk_alloc ?_ _)); exact BK162.out⟩, ⟨by repeat (first | (with_reducible first | exact HB.out | apply below_alloc | apply pw_below_drewN | apply below_drew1 | refine below_set ?_ GE159.out | refine below_set ?_ GE162.out | refine below_set ?_ GE165.out) | exact HB.out)⟩⟩
        · rw [if_neg c14] at H
          have c14b0 : decide (x13_1 ≤ 100) = false := decide_eq_false c14
          clear c14
          obtain rfl := Option.some.inj H
          go_wp2
          go_ret
          exact ⟨by first | rfl | (simp [errW_none, errW_some] <;> rfl) | (simp [*, errW_none, errW_some] <;> rfl), by repeat (first | (with_reducible first | exact HB.out | apply below_alloc | apply pw_below_drewN | apply below_drew1 | refine below_set ?_ GE159.out | refine below_set ?_ GE162.out) | exact HB.out)⟩

end Go.Proofs.Ytdjffpolfeibdaa.Print
