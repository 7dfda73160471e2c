/- The Go functions of this seat as Lean functions, and of each that its call does just what its Lean function says, where that says something. Condition: the arguments read as they are told. -/
import Derived.Test.YtejponabffffkaaDoorPrint0
import Derived.Test.YtejponabffffkaaDoorPrint1
import Derived.Test.YtejponabffffkaaDoorHand
namespace Go.Proofs.YtejponabffffkaaDoor.Print
open Go.RowKit Go.Proofs.YtejponabffffkaaDoorW.PrintWords Go.Proofs.YtejponabffffkaaDoorW.PrintLast Go.Proofs.YtejponabffffkaaDoorW.PrintMore
attribute [local go_sem] max2_int min2_int max_two min_two max_three min_three max_four min_four   -- for this text's walks alone
set_option linter.unusedVariables false
set_option linter.unusedSimpArgs false

/-! ### precentorlaw02_NumBack: function 4 -/
def precentorlaw02_NumBack.f (k : Nat) (a0 : Int) (a1 : Int) (l2 : List Int) : Option (Bool) := (precentorlaw02_shown.f k).bind fun t253 => (if (l2.length : Int) > 300 then (some t253) else ((some (([1, 2, 8] : List Int) : List Int)).bind fun y254 => (if 0 ≤ (Int.tmod a1 3) then (if (Int.tmod a1 3) < (y254.length : Int) then ((num_Put.f k a0 (rd y254 (Int.tmod a1 3))).bind fun t258 => ((num_Fits.f a0 (rd y254 (Int.tmod a1 3))).bind fun t261 => (if t261 = true then ((some (([] : List Int) : List Int)).bind fun y262 => (if y262.length + t258.length < 140737488355328 then ((some (y262 ++ t258 : List Int)).bind fun y265 => (if y265.length + l2.length < 140737488355328 then ((num_Take.f (y265 ++ l2) (rd y254 (Int.tmod a1 3))).bind fun bt271 => ((num_Take.f l2 (rd y254 (Int.tmod a1 3))).bind fun bt276 => (if bt276.2.2 = 0 then ((num_Put.f k bt276.1 (rd y254 (Int.tmod a1 3))).bind fun t281 => (if (strOfNums t281).size + (strOfNums bt276.2.1).size ≤ 9223372036854775807 then (if ((strOfNums t281) ++ (strOfNums bt276.2.1)).toList = (strOfNums l2).toList then (if t253 = true then (if (t258.length : Int) = (rd y254 (Int.tmod a1 3)) then (if bt271.2.2 = 0 then (if bt271.1 = a0 then (some ((strOfNums bt271.2.1).toList == (strOfNums l2).toList)) else (none)) else (none)) else (none)) else (none)) else (none)) else (none))) else (if t253 = true then (if (t258.length : Int) = (rd y254 (Int.tmod a1 3)) then (if bt271.2.2 = 0 then (if bt271.1 = a0 then (some ((strOfNums bt271.2.1).toList == (strOfNums l2).toList)) else (none)) else (none)) else (none)) else (none))))) else (none))) else (none))) else (if t253 = true then (some ((t258.length : Int) == 0)) else (none))))) else (none)) else (none))))
theorem precentorlaw02_NumBack.mono : ∀ a0 a1 a2 k, LeO (precentorlaw02_NumBack.f k a0 a1 a2) (precentorlaw02_NumBack.f (k + 1) a0 a1 a2) := by
  intro a0 a1 a2 k
  unfold precentorlaw02_NumBack.f
  repeat' first
      | (with_reducible exact num_Put.mono _ _ _)
      | (with_reducible exact precentorlaw02_shown.mono _)
      | (with_reducible exact LeO.refl _)
      | (with_reducible exact LeO.none _)
      | (with_reducible refine LeO.ite ?_ ?_)
      | (with_reducible refine LeO.bind ?_ (fun _ => ?_))
      | exact num_Put.mono _ _ _
      | exact precentorlaw02_shown.mono _
      | exact LeO.none _
      | refine LeO.ite ?_ ?_
      | refine LeO.bind ?_ (fun _ => ?_)
def precentorlaw02_NumBack.T10 : Bool × List (List Nat × List Nat) := (true, [([], []), ([0], [0]), ([1], [1]), ([2], [2]), ([2], [2]), ([3, 4, 2, 2], [2, 3, 4]), ([5, 2], [2, 5]), ([2], [2]), ([7, 2], [2, 7]), ([6, 8, 2], [2, 6, 8]), ([2], [2]), ([10, 2], [2, 10]), ([9, 11, 2], [2, 9, 11]), ([2, 12], [2, 12])])
def precentorlaw02_NumBack.B10 : List Nat := [0, 1, 3, 7, 7, 31, 63, 7, 135, 511, 7, 1031, 4095, 8191]
theorem precentorlaw02_NumBack.tab10 : rtab .any (opsOf Tryd.f4 10) = precentorlaw02_NumBack.T10 := by kernel_rfl
theorem precentorlaw02_NumBack.bits10 : waitsOk precentorlaw02_NumBack.T10.2 precentorlaw02_NumBack.B10 = true := by kernel_rfl
set_option maxHeartbeats 8000000 in
set_option maxRecDepth 100000 in
theorem precentorlaw02_NumBack.calls (k : Nat) (a0 : Int) (a1 : Int) (A2 : Option Addr) (c2 : Nat) (l2 : List Int) (r : Bool) (w : World) (hr2 : Kd.C (Kd.int .u8) w A2 l2.length l2) (hc2 : l2.length ≤ c2) (hG : GB w) (h : precentorlaw02_NumBack.f k a0 a1 l2 = some r) :
    Calls Tryd.prog 4 #[.int .i64 a0, .int .u8 a1, .slice A2 l2.length c2] w fun e w' => e = .returned (.bool r) ∧ Below w.heap.size w w' := by
  have HR2 := Aside0.mk hr2
  have HC2 := Aside0.mk hc2
  clear hr2 hc2
  have HB := Aside0.mk (Below.refl w.heap.size w)
  have H : ((precentorlaw02_shown.f k).bind fun t253 => (if (l2.length : Int) > 300 then (some t253) else ((some (([1, 2, 8] : List Int) : List Int)).bind fun y254 => (if 0 ≤ (Int.tmod a1 3) then (if (Int.tmod a1 3) < (y254.length : Int) then ((num_Put.f k a0 (rd y254 (Int.tmod a1 3))).bind fun t258 => ((num_Fits.f a0 (rd y254 (Int.tmod a1 3))).bind fun t261 => (if t261 = true then ((some (([] : List Int) : List Int)).bind fun y262 => (if y262.length + t258.length < 140737488355328 then ((some (y262 ++ t258 : List Int)).bind fun y265 => (if y265.length + l2.length < 140737488355328 then ((num_Take.f (y265 ++ l2) (rd y254 (Int.tmod a1 3))).bind fun bt271 => ((num_Take.f l2 (rd y254 (Int.tmod a1 3))).bind fun bt276 => (if bt276.2.2 = 0 then ((num_Put.f k bt276.1 (rd y254 (Int.tmod a1 3))).bind fun t281 => (if (strOfNums t281).size + (strOfNums bt276.2.1).size ≤ 9223372036854775807 then (if ((strOfNums t281) ++ (strOfNums bt276.2.1)).toList = (strOfNums l2).toList then (if t253 = true then (if (t258.length : Int) = (rd y254 (Int.tmod a1 3)) then (if bt271.2.2 = 0 then (if bt271.1 = a0 then (some ((strOfNums bt271.2.1).toList == (strOfNums l2).toList)) else (none)) else (none)) else (none)) else (none)) else (none)) else (none))) else (if t253 = true then (if (t258.length : Int) = (rd y254 (Int.tmod a1 3)) then (if bt271.2.2 = 0 then (if bt271.1 = a0 then (some ((strOfNums bt271.2.1).toList == (strOfNums l2).toList)) else (none)) else (none)) else (none)) else (none))))) else (none))) else (none))) else (if t253 = true then (some ((t258.length : Int) == 0)) else (none))))) else (none)) else (none))))) = some r := h
  clear h
  replace H := Option.bind_eq_some_iff.mp H
  obtain ⟨t253, A40, H⟩ := H
  replace H : (if (l2.length : Int) > 300 then (some t253) else ((some (([1, 2, 8] : List Int) : List Int)).bind fun y254 => (if 0 ≤ (Int.tmod a1 3) then (if (Int.tmod a1 3) < (y254.length : Int) then ((num_Put.f k a0 (rd y254 (Int.tmod a1 3))).bind fun t258 => ((num_Fits.f a0 (rd y254 (Int.tmod a1 3))).bind fun t261 => (if t261 = true then ((some (([] : List Int) : List Int)).bind fun y262 => (if y262.length + t258.length < 140737488355328 then ((some (y262 ++ t258 : List Int)).bind fun y265 => (if y265.length + l2.length < 140737488355328 then ((num_Take.f (y265 ++ l2) (rd y254 (Int.tmod a1 3))).bind fun bt271 => ((num_Take.f l2 (rd y254 (Int.tmod a1 3))).bind fun bt276 => (if bt276.2.2 = 0 then ((num_Put.f k bt276.1 (rd y254 (Int.tmod a1 3))).bind fun t281 => (if (strOfNums t281).size + (strOfNums bt276.2.1).size ≤ 9223372036854775807 then (if ((strOfNums t281) ++ (strOfNums bt276.2.1)).toList = (strOfNums l2).toList then (if t253 = true then (if (t258.length : Int) = (rd y254 (Int.tmod a1 3)) then (if bt271.2.2 = 0 then (if bt271.1 = a0 then (some ((strOfNums bt271.2.1).toList == (strOfNums l2).toList)) else (none)) else (none)) else (none)) else (none)) else (none)) else (none))) else (if t253 = true then (if (t258.length : Int) = (rd y254 (Int.tmod a1 3)) then (if bt271.2.2 = 0 then (if bt271.1 = a0 then (some ((strOfNums bt271.2.1).toList == (strOfNums l2).toList)) else (none)) else (none)) else (none)) else (none))))) else (none))) else (none))) else (if t253 = true then (some ((t258.length : Int) == 0)) else (none))))) else (none)) else (none)))) = some r := H
  have A4 := Aside0.mk A40
  clear A40
  by_cases c5 : (l2.length : Int) > 300
  · rw [if_pos c5] at H
    have c5b0 : decide (300 < (l2.length : Int)) = true := decide_eq_true c5
    have c5b1 : decide (300 < l2.length) = true := decide_eq_true (by omega)
    clear c5
    obtain rfl := Option.some.inj H
    go_enter Tryd.func4, Tryd.ntmps4
    go_wp2_with (first | ((with_reducible refine gate_callee (f := 9) rfl ?_); refine goesL_ (some 16) rfl rfl Tryd.func9 (by kernel_rfl) rfl #[] rfl (by (try simp only [List.map_toArray, List.map_cons, List.map_nil]); first | done | rfl | (simp only [List.length_drop, List.length_take]; rfl)) ?_; (with_reducible refine (precentorlaw02_shown.calls k  t253 _ ?side1 A4.out).mono ?_); (case side1 => exact GB.below hG (by repeat (first | (with_reducible first | exact HB.out | apply below_alloc | apply pw_below_drewN | apply below_drew1) | exact HB.out))); rintro e w6 ⟨rfl, hb⟩; refine ⟨_, rfl, ?_⟩; have n0_ := Aside0.mk (below_step (by repeat (first | (with_reducible first | exact HB.out | apply below_alloc | apply pw_below_drewN | apply below_drew1) | exact HB.out)) hb); clear HB; have HB := n0_; clear n0_; (try clear hb); (try clear hb2); (try clear hk); (try clear hi)))
    go_ret
    exact ⟨by first | rfl | (simp [errW_none, errW_some] <;> rfl) | (simp [*, errW_none, errW_some] <;> rfl), by repeat (first | (with_reducible first | exact HB.out | apply below_alloc | apply pw_below_drewN | apply below_drew1) | exact HB.out)⟩
  · rw [if_neg c5] at H
    have c5b0 : decide (300 < (l2.length : Int)) = false := decide_eq_false c5
    have c5b1 : decide (300 < l2.length) = false := decide_eq_false (by omega)
    clear c5
    obtain ⟨y254, hy254⟩ : ∃ y_ : List Int, y_ = (([1, 2, 8] : List Int)) := ⟨_, rfl⟩
    replace H : (if 0 ≤ (Int.tmod a1 3) then (if (Int.tmod a1 3) < (y254.length : Int) then ((num_Put.f k a0 (rd y254 (Int.tmod a1 3))).bind fun t258 => ((num_Fits.f a0 (rd y254 (Int.tmod a1 3))).bind fun t261 => (if t261 = true then ((some (([] : List Int) : List Int)).bind fun y262 => (if y262.length + t258.length < 140737488355328 then ((some (y262 ++ t258 : List Int)).bind fun y265 => (if y265.length + l2.length < 140737488355328 then ((num_Take.f (y265 ++ l2) (rd y254 (Int.tmod a1 3))).bind fun bt271 => ((num_Take.f l2 (rd y254 (Int.tmod a1 3))).bind fun bt276 => (if bt276.2.2 = 0 then ((num_Put.f k bt276.1 (rd y254 (Int.tmod a1 3))).bind fun t281 => (if (strOfNums t281).size + (strOfNums bt276.2.1).size ≤ 9223372036854775807 then (if ((strOfNums t281) ++ (strOfNums bt276.2.1)).toList = (strOfNums l2).toList then (if t253 = true then (if (t258.length : Int) = (rd y254 (Int.tmod a1 3)) then (if bt271.2.2 = 0 then (if bt271.1 = a0 then (some ((strOfNums bt271.2.1).toList == (strOfNums l2).toList)) else (none)) else (none)) else (none)) else (none)) else (none)) else (none))) else (if t253 = true then (if (t258.length : Int) = (rd y254 (Int.tmod a1 3)) then (if bt271.2.2 = 0 then (if bt271.1 = a0 then (some ((strOfNums bt271.2.1).toList == (strOfNums l2).toList)) else (none)) else (none)) else (none)) else (none))))) else (none))) else (none))) else (if t253 = true then (some ((t258.length : Int) == 0)) else (none))))) else (none)) else (none)) = some r := by first | (rw [hy254]; with_reducible exact H) | (have H2_ := (Option.bind_some _ _).symm.trans H; rw [hy254]; with_reducible exact H2_) | (have H2_ := (Option.bind_some _ _).symm.trans H; with_reducible exact H2_) | with_reducible exact H | (rw [hy254]; exact H) | exact H
    have Ny254 := Aside0.mk hy254
    clear hy254
    obtain ⟨ji7, hji7⟩ : ∃ j_ : Int, (Int.tmod a1 3) = j_ := ⟨_, rfl⟩
    replace H : (if 0 ≤ (ji7) then (if (ji7) < (y254.length : Int) then ((num_Put.f k a0 (rd y254 (ji7))).bind fun t258 => ((num_Fits.f a0 (rd y254 (ji7))).bind fun t261 => (if t261 = true then ((some (([] : List Int) : List Int)).bind fun y262 => (if y262.length + t258.length < 140737488355328 then ((some (y262 ++ t258 : List Int)).bind fun y265 => (if y265.length + l2.length < 140737488355328 then ((num_Take.f (y265 ++ l2) (rd y254 (ji7))).bind fun bt271 => ((num_Take.f l2 (rd y254 (ji7))).bind fun bt276 => (if bt276.2.2 = 0 then ((num_Put.f k bt276.1 (rd y254 (ji7))).bind fun t281 => (if (strOfNums t281).size + (strOfNums bt276.2.1).size ≤ 9223372036854775807 then (if ((strOfNums t281) ++ (strOfNums bt276.2.1)).toList = (strOfNums l2).toList then (if t253 = true then (if (t258.length : Int) = (rd y254 (ji7)) then (if bt271.2.2 = 0 then (if bt271.1 = a0 then (some ((strOfNums bt271.2.1).toList == (strOfNums l2).toList)) else (none)) else (none)) else (none)) else (none)) else (none)) else (none))) else (if t253 = true then (if (t258.length : Int) = (rd y254 (ji7)) then (if bt271.2.2 = 0 then (if bt271.1 = a0 then (some ((strOfNums bt271.2.1).toList == (strOfNums l2).toList)) else (none)) else (none)) else (none)) else (none))))) else (none))) else (none))) else (if t253 = true then (some ((t258.length : Int) == 0)) else (none))))) else (none)) else (none)) = some r := by first | (rw [hji7] at H; exact H) | (simp only [hji7] at H ⊢; exact H)
    (try rw [hji7] at A4)
    by_cases c8 : 0 ≤ (ji7)
    · rw [if_pos c8] at H
      have c8b0 : decide (0 ≤ (ji7)) = true := decide_eq_true c8
      clear c8
      by_cases c9 : (ji7) < (y254.length : Int)
      · rw [if_pos c9] at H
        have c9b0 : decide ((ji7) < (y254.length : Int)) = true := decide_eq_true c9
        clear c9
        replace H := Option.bind_eq_some_iff.mp H
        obtain ⟨t258, A100, H⟩ := H
        replace H : ((num_Fits.f a0 (rd y254 (ji7))).bind fun t261 => (if t261 = true then ((some (([] : List Int) : List Int)).bind fun y262 => (if y262.length + t258.length < 140737488355328 then ((some (y262 ++ t258 : List Int)).bind fun y265 => (if y265.length + l2.length < 140737488355328 then ((num_Take.f (y265 ++ l2) (rd y254 (ji7))).bind fun bt271 => ((num_Take.f l2 (rd y254 (ji7))).bind fun bt276 => (if bt276.2.2 = 0 then ((num_Put.f k bt276.1 (rd y254 (ji7))).bind fun t281 => (if (strOfNums t281).size + (strOfNums bt276.2.1).size ≤ 9223372036854775807 then (if ((strOfNums t281) ++ (strOfNums bt276.2.1)).toList = (strOfNums l2).toList then (if t253 = true then (if (t258.length : Int) = (rd y254 (ji7)) then (if bt271.2.2 = 0 then (if bt271.1 = a0 then (some ((strOfNums bt271.2.1).toList == (strOfNums l2).toList)) else (none)) else (none)) else (none)) else (none)) else (none)) else (none))) else (if t253 = true then (if (t258.length : Int) = (rd y254 (ji7)) then (if bt271.2.2 = 0 then (if bt271.1 = a0 then (some ((strOfNums bt271.2.1).toList == (strOfNums l2).toList)) else (none)) else (none)) else (none)) else (none))))) else (none))) else (none))) else (if t253 = true then (some ((t258.length : Int) == 0)) else (none)))) = some r := H
        have A10 := Aside0.mk A100
        clear A100
        replace H := Option.bind_eq_some_iff.mp H
        obtain ⟨t261, A110, H⟩ := H
        replace H : (if t261 = true then ((some (([] : List Int) : List Int)).bind fun y262 => (if y262.length + t258.length < 140737488355328 then ((some (y262 ++ t258 : List Int)).bind fun y265 => (if y265.length + l2.length < 140737488355328 then ((num_Take.f (y265 ++ l2) (rd y254 (ji7))).bind fun bt271 => ((num_Take.f l2 (rd y254 (ji7))).bind fun bt276 => (if bt276.2.2 = 0 then ((num_Put.f k bt276.1 (rd y254 (ji7))).bind fun t281 => (if (strOfNums t281).size + (strOfNums bt276.2.1).size ≤ 9223372036854775807 then (if ((strOfNums t281) ++ (strOfNums bt276.2.1)).toList = (strOfNums l2).toList then (if t253 = true then (if (t258.length : Int) = (rd y254 (ji7)) then (if bt271.2.2 = 0 then (if bt271.1 = a0 then (some ((strOfNums bt271.2.1).toList == (strOfNums l2).toList)) else (none)) else (none)) else (none)) else (none)) else (none)) else (none))) else (if t253 = true then (if (t258.length : Int) = (rd y254 (ji7)) then (if bt271.2.2 = 0 then (if bt271.1 = a0 then (some ((strOfNums bt271.2.1).toList == (strOfNums l2).toList)) else (none)) else (none)) else (none)) else (none))))) else (none))) else (none))) else (if t253 = true then (some ((t258.length : Int) == 0)) else (none))) = some r := H
        have A11 := Aside0.mk A110
        clear A110
        by_cases c12 : t261 = true
        · subst c12
          have H1 : ((some (([] : List Int) : List Int)).bind fun y262 => (if y262.length + t258.length < 140737488355328 then ((some (y262 ++ t258 : List Int)).bind fun y265 => (if y265.length + l2.length < 140737488355328 then ((num_Take.f (y265 ++ l2) (rd y254 (ji7))).bind fun bt271 => ((num_Take.f l2 (rd y254 (ji7))).bind fun bt276 => (if bt276.2.2 = 0 then ((num_Put.f k bt276.1 (rd y254 (ji7))).bind fun t281 => (if (strOfNums t281).size + (strOfNums bt276.2.1).size ≤ 9223372036854775807 then (if ((strOfNums t281) ++ (strOfNums bt276.2.1)).toList = (strOfNums l2).toList then (if t253 = true then (if (t258.length : Int) = (rd y254 (ji7)) then (if bt271.2.2 = 0 then (if bt271.1 = a0 then (some ((strOfNums bt271.2.1).toList == (strOfNums l2).toList)) else (none)) else (none)) else (none)) else (none)) else (none)) else (none))) else (if t253 = true then (if (t258.length : Int) = (rd y254 (ji7)) then (if bt271.2.2 = 0 then (if bt271.1 = a0 then (some ((strOfNums bt271.2.1).toList == (strOfNums l2).toList)) else (none)) else (none)) else (none)) else (none))))) else (none))) else (none))) = some r := by rw [if_pos rfl] at H; exact H
          clear H
          have H := H1
          clear H1
          obtain ⟨y262, hy262⟩ : ∃ y_ : List Int, y_ = (([] : List Int)) := ⟨_, rfl⟩
          replace H : (if y262.length + t258.length < 140737488355328 then ((some (y262 ++ t258 : List Int)).bind fun y265 => (if y265.length + l2.length < 140737488355328 then ((num_Take.f (y265 ++ l2) (rd y254 (ji7))).bind fun bt271 => ((num_Take.f l2 (rd y254 (ji7))).bind fun bt276 => (if bt276.2.2 = 0 then ((num_Put.f k bt276.1 (rd y254 (ji7))).bind fun t281 => (if (strOfNums t281).size + (strOfNums bt276.2.1).size ≤ 9223372036854775807 then (if ((strOfNums t281) ++ (strOfNums bt276.2.1)).toList = (strOfNums l2).toList then (if t253 = true then (if (t258.length : Int) = (rd y254 (ji7)) then (if bt271.2.2 = 0 then (if bt271.1 = a0 then (some ((strOfNums bt271.2.1).toList == (strOfNums l2).toList)) else (none)) else (none)) else (none)) else (none)) else (none)) else (none))) else (if t253 = true then (if (t258.length : Int) = (rd y254 (ji7)) then (if bt271.2.2 = 0 then (if bt271.1 = a0 then (some ((strOfNums bt271.2.1).toList == (strOfNums l2).toList)) else (none)) else (none)) else (none)) else (none))))) else (none))) else (none)) = some r := by first | (rw [hy262]; with_reducible exact H) | (have H2_ := (Option.bind_some _ _).symm.trans H; rw [hy262]; with_reducible exact H2_) | (have H2_ := (Option.bind_some _ _).symm.trans H; with_reducible exact H2_) | with_reducible exact H | (rw [hy262]; exact H) | exact H
          have Ny262 := Aside0.mk hy262
          clear hy262
          by_cases c13 : y262.length + t258.length < 140737488355328
          · rw [if_pos c13] at H
            have LMc13 := Aside0.mk c13
            clear c13
            obtain ⟨y265, hy265⟩ : ∃ y_ : List Int, y_ = (y262 ++ t258) := ⟨_, rfl⟩
            replace H : (if y265.length + l2.length < 140737488355328 then ((num_Take.f (y265 ++ l2) (rd y254 (ji7))).bind fun bt271 => ((num_Take.f l2 (rd y254 (ji7))).bind fun bt276 => (if bt276.2.2 = 0 then ((num_Put.f k bt276.1 (rd y254 (ji7))).bind fun t281 => (if (strOfNums t281).size + (strOfNums bt276.2.1).size ≤ 9223372036854775807 then (if ((strOfNums t281) ++ (strOfNums bt276.2.1)).toList = (strOfNums l2).toList then (if t253 = true then (if (t258.length : Int) = (rd y254 (ji7)) then (if bt271.2.2 = 0 then (if bt271.1 = a0 then (some ((strOfNums bt271.2.1).toList == (strOfNums l2).toList)) else (none)) else (none)) else (none)) else (none)) else (none)) else (none))) else (if t253 = true then (if (t258.length : Int) = (rd y254 (ji7)) then (if bt271.2.2 = 0 then (if bt271.1 = a0 then (some ((strOfNums bt271.2.1).toList == (strOfNums l2).toList)) else (none)) else (none)) else (none)) else (none))))) else (none)) = some r := by first | (rw [hy265]; with_reducible exact H) | (have H2_ := (Option.bind_some _ _).symm.trans H; rw [hy265]; with_reducible exact H2_) | (have H2_ := (Option.bind_some _ _).symm.trans H; with_reducible exact H2_) | with_reducible exact H | (rw [hy265]; exact H) | exact H
            have Ny265 := Aside0.mk hy265
            clear hy265
            by_cases c14 : y265.length + l2.length < 140737488355328
            · rw [if_pos c14] at H
              have LMc14 := Aside0.mk c14
              clear c14
              obtain ⟨y268, hy268⟩ : ∃ y_ : List Int, y_ = (y265 ++ l2) := ⟨_, rfl⟩
              replace H : ((num_Take.f y268 (rd y254 (ji7))).bind fun bt271 => ((num_Take.f l2 (rd y254 (ji7))).bind fun bt276 => (if bt276.2.2 = 0 then ((num_Put.f k bt276.1 (rd y254 (ji7))).bind fun t281 => (if (strOfNums t281).size + (strOfNums bt276.2.1).size ≤ 9223372036854775807 then (if ((strOfNums t281) ++ (strOfNums bt276.2.1)).toList = (strOfNums l2).toList then (if t253 = true then (if (t258.length : Int) = (rd y254 (ji7)) then (if bt271.2.2 = 0 then (if bt271.1 = a0 then (some ((strOfNums bt271.2.1).toList == (strOfNums l2).toList)) else (none)) else (none)) else (none)) else (none)) else (none)) else (none))) else (if t253 = true then (if (t258.length : Int) = (rd y254 (ji7)) then (if bt271.2.2 = 0 then (if bt271.1 = a0 then (some ((strOfNums bt271.2.1).toList == (strOfNums l2).toList)) else (none)) else (none)) else (none)) else (none))))) = some r := by first | (rw [hy268]; with_reducible exact H) | (have H2_ := (Option.bind_some _ _).symm.trans H; rw [hy268]; with_reducible exact H2_) | (have H2_ := (Option.bind_some _ _).symm.trans H; with_reducible exact H2_) | with_reducible exact H | (rw [hy268]; exact H) | exact H
              have Ny268 := Aside0.mk hy268
              clear hy268
              replace H := Option.bind_eq_some_iff.mp H
              obtain ⟨⟨t271, t272, t275⟩, A150, H⟩ := H
              replace H : ((num_Take.f l2 (rd y254 (ji7))).bind fun bt276 => (if bt276.2.2 = 0 then ((num_Put.f k bt276.1 (rd y254 (ji7))).bind fun t281 => (if (strOfNums t281).size + (strOfNums bt276.2.1).size ≤ 9223372036854775807 then (if ((strOfNums t281) ++ (strOfNums bt276.2.1)).toList = (strOfNums l2).toList then (if t253 = true then (if (t258.length : Int) = (rd y254 (ji7)) then (if t275 = 0 then (if t271 = a0 then (some ((strOfNums t272).toList == (strOfNums l2).toList)) else (none)) else (none)) else (none)) else (none)) else (none)) else (none))) else (if t253 = true then (if (t258.length : Int) = (rd y254 (ji7)) then (if t275 = 0 then (if t271 = a0 then (some ((strOfNums t272).toList == (strOfNums l2).toList)) else (none)) else (none)) else (none)) else (none)))) = some r := H
              have A15 := Aside0.mk A150
              clear A150
              replace H := Option.bind_eq_some_iff.mp H
              obtain ⟨⟨t276, t277, t280⟩, A160, H⟩ := H
              replace H : (if t280 = 0 then ((num_Put.f k t276 (rd y254 (ji7))).bind fun t281 => (if (strOfNums t281).size + (strOfNums t277).size ≤ 9223372036854775807 then (if ((strOfNums t281) ++ (strOfNums t277)).toList = (strOfNums l2).toList then (if t253 = true then (if (t258.length : Int) = (rd y254 (ji7)) then (if t275 = 0 then (if t271 = a0 then (some ((strOfNums t272).toList == (strOfNums l2).toList)) else (none)) else (none)) else (none)) else (none)) else (none)) else (none))) else (if t253 = true then (if (t258.length : Int) = (rd y254 (ji7)) then (if t275 = 0 then (if t271 = a0 then (some ((strOfNums t272).toList == (strOfNums l2).toList)) else (none)) else (none)) else (none)) else (none))) = some r := H
              have A16 := Aside0.mk A160
              clear A160
              by_cases c17 : t280 = 0
              · rw [if_pos c17] at H
                have c17b0 : (t280 == 0) = true := beq_iff_eq.mpr c17
                have c17b1 : (t280 != 0) = false := bne_eq_false_iff_eq.mpr c17
                clear c17
                replace H := Option.bind_eq_some_iff.mp H
                obtain ⟨t281, A180, H⟩ := H
                replace H : (if (strOfNums t281).size + (strOfNums t277).size ≤ 9223372036854775807 then (if ((strOfNums t281) ++ (strOfNums t277)).toList = (strOfNums l2).toList then (if t253 = true then (if (t258.length : Int) = (rd y254 (ji7)) then (if t275 = 0 then (if t271 = a0 then (some ((strOfNums t272).toList == (strOfNums l2).toList)) else (none)) else (none)) else (none)) else (none)) else (none)) else (none)) = some r := H
                have A18 := Aside0.mk A180
                clear A180
                by_cases c19 : (strOfNums t281).size + (strOfNums t277).size ≤ 9223372036854775807
                · rw [if_pos c19] at H
                  have c19b0 := eq_true c19
                  have c19b1 : decide ((strOfNums t281).size + (strOfNums t277).size ≤ 9223372036854775807) = true := decide_eq_true c19
                  try have c19b2 : (9223372036854775807 < (strOfNums t281).size + (strOfNums t277).size) = False := eq_false (Nat.not_lt.2 c19)
                  by_cases c20 : ((strOfNums t281) ++ (strOfNums t277)).toList = (strOfNums l2).toList
                  · rw [if_pos c20] at H
                    have c20b0 : (((strOfNums t281) ++ (strOfNums t277)).toList == (strOfNums l2).toList) = true := beq_iff_eq.mpr c20
                    have c20b1 : (((strOfNums t281) ++ (strOfNums t277)).toList != (strOfNums l2).toList) = false := bne_eq_false_iff_eq.mpr c20
                    clear c20
                    by_cases c21 : t253 = true
                    · subst c21
                      have H1 : (if (t258.length : Int) = (rd y254 (ji7)) then (if t275 = 0 then (if t271 = a0 then (some ((strOfNums t272).toList == (strOfNums l2).toList)) else (none)) else (none)) else (none)) = some r := by rw [if_pos rfl] at H; exact H
                      clear H
                      have H := H1
                      clear H1
                      by_cases c22 : (t258.length : Int) = (rd y254 (ji7))
                      · rw [if_pos c22] at H
                        have c22b0 : ((t258.length : Int) == (rd y254 (ji7))) = true := beq_iff_eq.mpr c22
                        have c22b1 : ((t258.length : Int) != (rd y254 (ji7))) = false := bne_eq_false_iff_eq.mpr c22
                        clear c22
                        by_cases c23 : t275 = 0
                        · rw [if_pos c23] at H
                          have c23b0 : (t275 == 0) = true := beq_iff_eq.mpr c23
                          have c23b1 : (t275 != 0) = false := bne_eq_false_iff_eq.mpr c23
                          clear c23
                          by_cases c24 : t271 = a0
                          · rw [if_pos c24] at H
                            have c24b0 : (t271 == a0) = true := beq_iff_eq.mpr c24
                            have c24b1 : (t271 != a0) = false := bne_eq_false_iff_eq.mpr c24
                            clear c24
                            obtain rfl := Option.some.inj H
                            go_enter Tryd.func4, Tryd.ntmps4
                            try go_wp2_with (first | ((with_reducible refine gate_callee (f := 9) rfl ?_); refine goesL_ (some 16) rfl rfl Tryd.func9 (by kernel_rfl) rfl #[] rfl (by (try simp only [List.map_toArray, List.map_cons, List.map_nil]); first | done | rfl | (simp only [List.length_drop, List.length_take]; rfl)) ?_; (with_reducible refine (precentorlaw02_shown.calls k  true _ ?side1 A4.out).mono ?_); (case side1 => exact GB.below hG (by repeat (first | (with_reducible first | exact HB.out | apply below_alloc | apply pw_below_drewN | apply below_drew1) | exact HB.out))); rintro e w25 ⟨rfl, hb⟩; refine ⟨_, rfl, ?_⟩; have n0_ := Aside0.mk (below_step (by repeat (first | (with_reducible first | exact HB.out | apply below_alloc | apply pw_below_drewN | apply below_drew1) | exact HB.out)) hb); clear HB; have HB := n0_; clear n0_; (try clear hb); (try clear hb2); (try clear hk); (try clear hi)) | ((with_reducible refine gate_dst (N := 21) rfl ?_); (try (refine gate_guard (by rfl) ?_; dsimp only)); refine Kd.R_lit (Kd.int .i64) _ 3 ?hg (N := 21) ?hd (xs := ([1, 2, 8] : List Int)) (inner := [.int .i64 1, .int .i64 2, .int .i64 8]) (ok := fun _ => True) (okp := fun _ => True) ?hr ?hp (fun _ hk => hk) trivial (Below.refl _ _) (Nat.le_refl _) (by simp) ?_; (case hd => rfl); (case hg => rfl); (case hr => first | (go_simp; done) | (go_simp; rfl)); (case hp => exact (Reps.one (show Kd.M (Kd.int .i64) _ _ _ 1 [.int .i64 1] from rfl) (Reps.one (show Kd.M (Kd.int .i64) _ _ _ 2 [.int .i64 2] from rfl) (Reps.one (show Kd.M (Kd.int .i64) _ _ _ 8 [.int .i64 8] from rfl) (Reps.none _ _))))); intro v255 w26 ho27 hb hg_ hnew_; clear hg_ hnew_; (first | rw [← Ny254.out] at ho27 | (simp only [Int.reduceToNat] at ho27; rw [← Ny254.out] at ho27)); have n0_ := Aside0.mk (Kd.R_lower ho27 (below_size (by repeat (first | (with_reducible first | exact HB.out | apply below_alloc | apply pw_below_drewN | apply below_drew1) | exact HB.out)))); have n1_ := Aside0.mk (below_step (by repeat (first | (with_reducible first | exact HB.out | apply below_alloc | apply pw_below_drewN | apply below_drew1) | exact HB.out)) hb); clear HB; have HO256 := n0_; have HB := n1_; clear n0_ n1_; clear hb ho27; obtain ⟨Ao28, co28, eo28⟩ := Kd.R_slice HO256.out; subst eo28; have p257 : 0 ≤ ((ji7) : Int) := of_decide_eq_true (by first | (with_reducible assumption) | assumption); have q257 : (ji7) < (y254.length : Int) := of_decide_eq_true (by first | (with_reducible assumption) | assumption); obtain ⟨ad257, e257, hx257_0⟩ := Kd.at_int (Kd.R_reads' HO256.out).2.2 (ji7) p257 q257; cases e257; replace p257 := eq_true p257; replace q257 := eq_true q257) | ((with_reducible refine gate_callee (f := 17) rfl ?_); refine goesL_ (some 28) rfl rfl Tryd.func17 (by kernel_rfl) rfl #[.int .i64 a0, .int .i64 (rd y254 (ji7))] rfl (by (try simp only [List.map_toArray, List.map_cons, List.map_nil]); first | done | (simp only [hji7]; rfl) | rfl | (simp only [List.length_drop, List.length_take]; rfl)) ?_; (with_reducible refine (num_Put.calls k a0 (rd y254 (ji7)) t258 _ ?side1 A10.out).mono ?_); (case side1 => exact GB.below hG (by repeat (first | (with_reducible first | exact HB.out | apply below_alloc | apply pw_below_drewN | apply below_drew1) | exact HB.out))); rintro e w29 ⟨v259, rfl, ho0, hb⟩; refine ⟨_, rfl, ?_⟩; have n0_ := Aside0.mk (Kd.R_below (by (with_reducible repeat (first | apply Kd.R_alloc | apply Kd.R_drewN | apply Kd.R_drew)); exact HO256.out) hb); have n1_ := Aside0.mk (Kd.R_lower ho0 (below_size (by repeat (first | (with_reducible first | exact HB.out | apply below_alloc | apply pw_below_drewN | apply below_drew1) | exact HB.out)))); have n2_ := Aside0.mk (below_step (by repeat (first | (with_reducible first | exact HB.out | apply below_alloc | apply pw_below_drewN | apply below_drew1) | exact HB.out)) hb); clear HO256; clear HB; have HO256 := n0_; have HO260 := n1_; have HB := n2_; clear n0_ n1_ n2_; (try clear hb); (try clear hb2); (try clear hk); (try clear hi); (try clear ho0)) | ((with_reducible refine gate_callee (f := 15) rfl ?_); refine goesL_ (some 31) rfl rfl Tryd.func15 (by kernel_rfl) rfl #[.int .i64 a0, .int .i64 (rd y254 (ji7))] rfl (by (try simp only [List.map_toArray, List.map_cons, List.map_nil]); first | done | (simp only [hji7]; rfl) | rfl | (simp only [List.length_drop, List.length_take]; rfl)) ?_; (with_reducible refine (num_Fits.calls a0 (rd y254 (ji7)) true _ ?side1 A11.out).mono ?_); (case side1 => exact GB.below hG (by repeat (first | (with_reducible first | exact HB.out | apply below_alloc | apply pw_below_drewN | apply below_drew1) | exact HB.out))); rintro e w' ⟨rfl, ⟨nd, rfl⟩⟩; refine ⟨_, rfl, ?_⟩) | ((with_reducible refine gate_dst (N := 40) rfl ?_); (try (refine gate_guard (by rfl) ?_; dsimp only)); refine Kd.R_lit (Kd.int .u8) _ 5 ?hg (N := 40) ?hd (xs := ([] : List Int)) (inner := []) (ok := fun _ => True) (okp := fun _ => True) ?hr ?hp (fun _ hk => hk) trivial (Below.refl _ _) (Nat.le_refl _) (by simp) ?_; (case hd => rfl); (case hg => rfl); (case hr => first | (go_simp; done) | (go_simp; rfl)); (case hp => exact (Reps.none _ _)); intro v263 w30 ho31 hb hg_ hnew_; clear hg_ hnew_; (first | rw [← Ny262.out] at ho31 | (simp only [Int.reduceToNat] at ho31; rw [← Ny262.out] at ho31)); have n0_ := Aside0.mk (Kd.R_below (by (with_reducible repeat (first | apply Kd.R_alloc | apply Kd.R_drewN | apply Kd.R_drew)); exact HO256.out) hb); have n1_ := Aside0.mk (Kd.R_elder' (by (with_reducible repeat (first | apply Kd.R_alloc | apply Kd.R_drewN | apply Kd.R_drew)); exact HO260.out) (Kd.R_base ho31) hb); have n2_ := Aside0.mk (Kd.R_lower (Kd.R_new' ho31 (Kd.R_lt (by (with_reducible repeat (first | apply Kd.R_alloc | apply Kd.R_drewN | apply Kd.R_drew)); exact HO260.out))) (below_size (by repeat (first | (with_reducible first | exact HB.out | apply below_alloc | apply pw_below_drewN | apply below_drew1) | exact HB.out)))); have n3_ := Aside0.mk (below_step (by repeat (first | (with_reducible first | exact HB.out | apply below_alloc | apply pw_below_drewN | apply below_drew1) | exact HB.out)) hb); clear HO256; clear HO260; clear HB; have HO256 := n0_; have HO260 := n1_; have HO264 := n2_; have HB := n3_; clear n0_ n1_ n2_ n3_; clear hb ho31; obtain ⟨Ao33, co33, eo33⟩ := Kd.R_slice HO260.out; subst eo33) | ((with_reducible refine gate_builtin (b := .append) (xs := #[.tmp 40, .tmp 41]) rfl ?_); (try (refine gate_guard (by rfl) ?_; dsimp only)); at_builtin; refine Kd.R_append_rows (Kd.int .u8) (w0 := w) w.heap.size rfl (.tmp 40) (.tmp 41) 22 5 (.int .u8 0) 1 rfl Tryd.underlying22 info5 rfl (by decide) (by omega) v263 y262 t258 _ _ _ (fun k_ => some k_ ≠ (.slice Ao33 t258.length co33 : Value).ownBlock) (fun _ => False) rfl rfl ?aO ?aR (fun _ _ h => h) (fun _ h => h.elim) ?aF ?aB ?aS ?aL ?_; (case aR => repeat (first | exact (Kd.R_reads' HO260.out).2.2 | (with_reducible refine Kd.C_alloc ?_ _) | (with_reducible refine Kd.C_drewN ?_ _) | (with_reducible refine Kd.C_drew ?_))); (case aB => exact (by repeat (first | (with_reducible first | exact HB.out | apply below_alloc | apply pw_below_drewN | apply below_drew1) | exact HB.out))); (case aF => exact (fun k_ hk => Kd.fresh' (Kd.R_lt (by (with_reducible repeat (first | apply Kd.R_alloc | apply Kd.R_drewN | apply Kd.R_drew)); exact HO260.out)) k_ hk)); (case aO => exact (by (with_reducible repeat (first | apply Kd.R_alloc | apply Kd.R_drewN | apply Kd.R_drew)); exact Kd.R_mono HO264.out (fun _ hk => hk.2))); (case aS => exact (below_size (by repeat (first | (with_reducible first | exact HB.out | apply below_alloc | apply pw_below_drewN | apply below_drew1) | exact HB.out)))); (case aL => have := LMc13.out; omega); intro v266 w32 ho hb hg hat; rw [← Ny265.out] at ho; have n0_ := Aside0.mk (Kd.R_over' (by (with_reducible repeat (first | apply Kd.R_alloc | apply Kd.R_drewN | apply Kd.R_drew)); exact HO256.out) (Kd.R_typed (by (with_reducible repeat (first | apply Kd.R_alloc | apply Kd.R_drewN | apply Kd.R_drew)); exact HO264.out)) (by decide) hg); have n1_ := Aside0.mk (Kd.R_after (ok := (fun _ => True)) (by (with_reducible repeat (first | apply Kd.R_alloc | apply Kd.R_drewN | apply Kd.R_drew)); exact HO260.out) hg hat); have n2_ := Aside0.mk (hb); have n3_ := Aside0.mk (ho); clear HO256; clear HO260; clear HB; clear HO264; have HO256 := n0_; have HO260 := n1_; have HB := n2_; have HO267 := n3_; clear n0_ n1_ n2_ n3_; clear ho hb hg hat) | ((with_reducible refine gate_builtin (b := .append) (xs := #[.tmp 42, .tmp 43]) rfl ?_); (try (refine gate_guard (by rfl) ?_; dsimp only)); at_builtin; refine Kd.R_append_rows (Kd.int .u8) (w0 := w) w.heap.size rfl (.tmp 42) (.tmp 43) 22 5 (.int .u8 0) 1 rfl Tryd.underlying22 info5 rfl (by decide) (by omega) v266 y265 l2 _ _ _ (fun k_ => some k_ ≠ (.slice Ao33 t258.length co33 : Value).ownBlock) (fun _ => False) rfl rfl ?aO ?aR (fun _ _ h => h) (fun _ h => h.elim) ?aF ?aB ?aS ?aL ?_; (case aR => repeat (first | exact (Kd.C_below HR2.out HB.out) | (with_reducible refine Kd.C_alloc ?_ _) | (with_reducible refine Kd.C_drewN ?_ _) | (with_reducible refine Kd.C_drew ?_))); (case aB => exact (by repeat (first | (with_reducible first | exact HB.out | apply below_alloc | apply pw_below_drewN | apply below_drew1) | exact HB.out))); (case aF => exact (fun k_ hk => Kd.fresh' (Kd.R_lt (by (with_reducible repeat (first | apply Kd.R_alloc | apply Kd.R_drewN | apply Kd.R_drew)); exact HO260.out)) k_ hk)); (case aO => exact (by (with_reducible repeat (first | apply Kd.R_alloc | apply Kd.R_drewN | apply Kd.R_drew)); exact HO267.out)); (case aS => exact (below_size (by repeat (first | (with_reducible first | exact HB.out | apply below_alloc | apply pw_below_drewN | apply below_drew1) | exact HB.out)))); (case aL => have := LMc14.out; omega); intro v269 w34 ho hb hg hat; rw [← Ny268.out] at ho; have n0_ := Aside0.mk (Kd.R_over' (by (with_reducible repeat (first | apply Kd.R_alloc | apply Kd.R_drewN | apply Kd.R_drew)); exact HO256.out) (Kd.R_typed (by (with_reducible repeat (first | apply Kd.R_alloc | apply Kd.R_drewN | apply Kd.R_drew)); exact HO267.out)) (by decide) hg); have n1_ := Aside0.mk (Kd.R_after (ok := (fun _ => True)) (by (with_reducible repeat (first | apply Kd.R_alloc | apply Kd.R_drewN | apply Kd.R_drew)); exact HO260.out) hg hat); have n2_ := Aside0.mk (hb); have n3_ := Aside0.mk (ho); clear HO256; clear HO260; clear HB; clear HO267; have HO256 := n0_; have HO260 := n1_; have HB := n2_; have HO270 := n3_; clear n0_ n1_ n2_ n3_; clear ho hb hg hat; obtain ⟨Ao35, co35, eo35⟩ := Kd.R_slice HO270.out; subst eo35) | ((with_reducible refine gate_callee (f := 10) rfl ?_); refine goesL_ (some 46) rfl rfl Tryd.func10 (by kernel_rfl) rfl #[.slice Ao35 y268.length co35, .int .i64 (rd y254 (ji7))] rfl (by (try simp only [List.map_toArray, List.map_cons, List.map_nil]); first | done | (simp only [hji7]; rfl) | rfl | (simp only [List.length_drop, List.length_take]; rfl)) ?_; (with_reducible refine (num_Take.calls (fun k_ => some k_ = (.slice Ao35 y268.length co35 : Value).ownBlock) _ _ y268 (rd y254 (ji7)) t271 t272 t275 _ ?side1 ?side2 A15.out).mono ?_); (case side1 => exact Kd.R_V (Kd.R_tight rfl (Kd.R_apart' (HO270.out) (Kd.R_typed HO256.out) (by decide)))); (case side2 => exact GB.below hG (by repeat (first | (with_reducible first | exact HB.out | apply below_alloc | apply pw_below_drewN | apply below_drew1) | exact HB.out))); rintro e w36 ⟨v273, rfl, ho0, hb⟩; refine ⟨_, rfl, ?_⟩; have n0_ := Aside0.mk (Kd.R_below (by (with_reducible repeat (first | apply Kd.R_alloc | apply Kd.R_drewN | apply Kd.R_drew)); exact HO256.out) hb); have n1_ := Aside0.mk (Kd.R_below (by (with_reducible repeat (first | apply Kd.R_alloc | apply Kd.R_drewN | apply Kd.R_drew)); exact HO260.out) hb); have n2_ := Aside0.mk (Kd.R_below (by (with_reducible repeat (first | apply Kd.R_alloc | apply Kd.R_drewN | apply Kd.R_drew)); exact HO270.out) hb); have n3_ := Aside0.mk (Kd.V_lower (Kd.V_mono (ok' := fun k_ => some k_ ≠ (.slice (some ad257) y254.length co28 : Value).ownBlock ∧ some k_ ≠ (.slice Ao33 t258.length co33 : Value).ownBlock) ho0 (fun k_ hk_ => ⟨Or.elim hk_ (fun hs_ => ((Kd.R_apart' (HO270.out) (Kd.R_typed HO256.out) (by decide)).1 k_ hs_.symm).2) (fun hn_ => (Kd.fresh' (Kd.R_lt (by (with_reducible repeat (first | apply Kd.R_alloc | apply Kd.R_drewN | apply Kd.R_drew)); exact HO256.out)) k_ hn_)), Or.elim hk_ (fun hs_ => ((Kd.R_apart' (HO270.out) (Kd.R_typed HO256.out) (by decide)).1 k_ hs_.symm).1) (fun hn_ => (Kd.fresh' (Kd.R_lt (by (with_reducible repeat (first | apply Kd.R_alloc | apply Kd.R_drewN | apply Kd.R_drew)); exact HO260.out)) k_ hn_))⟩)) (below_size (by repeat (first | (with_reducible first | exact HB.out | apply below_alloc | apply pw_below_drewN | apply below_drew1) | exact HB.out)))); have n4_ := Aside0.mk (below_step (by repeat (first | (with_reducible first | exact HB.out | apply below_alloc | apply pw_below_drewN | apply below_drew1) | exact HB.out)) hb); clear HO256; clear HO260; clear HO270; clear HB; have HO256 := n0_; have HO260 := n1_; have HO270 := n2_; have HO274 := n3_; have HB := n4_; clear n0_ n1_ n2_ n3_ n4_; (try clear hb); (try clear hb2); (try clear hk); (try clear hi); (try clear ho0)) | ((with_reducible refine gate_callee (f := 10) rfl ?_); refine goesL_ (some 53) rfl rfl Tryd.func10 (by kernel_rfl) rfl #[.slice A2 l2.length c2, .int .i64 (rd y254 (ji7))] rfl (by (try simp only [List.map_toArray, List.map_cons, List.map_nil]); first | done | (simp only [hji7]; rfl) | rfl | (simp only [List.length_drop, List.length_take]; rfl)) ?_; (with_reducible refine (num_Take.calls (fun k_ => k_ < w.heap.size) _ _ l2 (rd y254 (ji7)) t276 t277 t280 _ ?side1 ?side2 A16.out).mono ?_); (case side1 => exact Kd.V_mk HC2.out (Kd.F_below (Kd.C_F (Kd.heap_int .u8) HR2.out) (by repeat (first | (with_reducible first | exact HB.out | apply below_alloc | apply pw_below_drewN | apply below_drew1) | exact HB.out)))); (case side2 => exact GB.below hG (by repeat (first | (with_reducible first | exact HB.out | apply below_alloc | apply pw_below_drewN | apply below_drew1) | exact HB.out))); rintro e w37 ⟨v278, rfl, ho0, hb⟩; refine ⟨_, rfl, ?_⟩; have n0_ := Aside0.mk (Kd.R_below (by (with_reducible repeat (first | apply Kd.R_alloc | apply Kd.R_drewN | apply Kd.R_drew)); exact HO256.out) hb); have n1_ := Aside0.mk (Kd.R_below (by (with_reducible repeat (first | apply Kd.R_alloc | apply Kd.R_drewN | apply Kd.R_drew)); exact HO260.out) hb); have n2_ := Aside0.mk (Kd.R_below (by (with_reducible repeat (first | apply Kd.R_alloc | apply Kd.R_drewN | apply Kd.R_drew)); exact HO270.out) hb); have n3_ := Aside0.mk (Kd.V_below (by (with_reducible repeat (first | apply Kd.V_alloc | apply Kd.V_drewN | apply Kd.V_drew)); exact HO274.out) hb); have n4_ := Aside0.mk (Kd.V_lower (Kd.V_mono (ok' := fun k_ => some k_ ≠ (.slice (some ad257) y254.length co28 : Value).ownBlock ∧ some k_ ≠ (.slice Ao33 t258.length co33 : Value).ownBlock ∧ some k_ ≠ (.slice Ao35 y268.length co35 : Value).ownBlock) ho0 (fun k_ hk_ => ⟨Or.elim hk_ (fun hs_ => fun e_ => Nat.not_le.2 hs_ (Kd.R_base HO256.out k_ e_.symm)) (fun hn_ => (Kd.fresh' (Kd.R_lt (by (with_reducible repeat (first | apply Kd.R_alloc | apply Kd.R_drewN | apply Kd.R_drew)); exact HO256.out)) k_ hn_)), Or.elim hk_ (fun hs_ => fun e_ => Nat.not_le.2 hs_ (Kd.R_base HO260.out k_ e_.symm)) (fun hn_ => (Kd.fresh' (Kd.R_lt (by (with_reducible repeat (first | apply Kd.R_alloc | apply Kd.R_drewN | apply Kd.R_drew)); exact HO260.out)) k_ hn_)), Or.elim hk_ (fun hs_ => fun e_ => Nat.not_le.2 hs_ (Kd.R_base HO270.out k_ e_.symm)) (fun hn_ => (Kd.fresh' (Kd.R_lt (by (with_reducible repeat (first | apply Kd.R_alloc | apply Kd.R_drewN | apply Kd.R_drew)); exact HO270.out)) k_ hn_))⟩)) (below_size (by repeat (first | (with_reducible first | exact HB.out | apply below_alloc | apply pw_below_drewN | apply below_drew1) | exact HB.out)))); have n5_ := Aside0.mk (below_step (by repeat (first | (with_reducible first | exact HB.out | apply below_alloc | apply pw_below_drewN | apply below_drew1) | exact HB.out)) hb); clear HO256; clear HO260; clear HO270; clear HO274; clear HB; have HO256 := n0_; have HO260 := n1_; have HO270 := n2_; have HO274 := n3_; have HO279 := n4_; have HB := n5_; clear n0_ n1_ n2_ n3_ n4_ n5_; (try clear hb); (try clear hb2); (try clear hk); (try clear hi); (try clear ho0)))
                            have n0_ := Aside0.mk (Kd.R_drew HO256.out)
                            have n1_ := Aside0.mk (Kd.R_drew HO260.out)
                            have n2_ := Aside0.mk (Kd.R_drew HO270.out)
                            have n3_ := Aside0.mk (Kd.V_drew HO274.out)
                            have n4_ := Aside0.mk (Kd.V_drew HO279.out)
                            have n5_ := Aside0.mk (below_drew1 HB.out)
                            clear HO256
                            clear HO260
                            clear HO270
                            clear HO274
                            clear HO279
                            clear HB
                            have HO256 := n0_
                            have HO260 := n1_
                            have HO270 := n2_
                            have HO274 := n3_
                            have HO279 := n4_
                            have HB := n5_
                            clear n0_ n1_ n2_ n3_ n4_ n5_
                            refine start_ (n := 14) (S := fun w' => (convert 22 9 (v278)).run Tryd.prog w' = .ok (.string (strOfNums t277)) w' ∧ (convert 22 9 (.slice A2 l2.length c2)).run Tryd.prog w' = .ok (.string (strOfNums l2)) w') (ds := []) #[false, false, false, false, false, false, false, false, false, false, false, false, false, false] (by kernel_rfl) rfl rfl ⟨(V_string (base := w.heap.size) (e' := 5) (P := Tryd.prog) Tryd.underlying22 Tryd.underlying5 Tryd.underlying9 (by (with_reducible repeat (first | apply Kd.V_alloc | apply Kd.V_drewN | apply Kd.V_drew)); exact HO279.out)), (Kd.C_string (P := Tryd.prog) (A := A2) (c := c2) Tryd.underlying22 Tryd.underlying5 Tryd.underlying9 (by repeat (first | exact (Kd.C_below (HR2.out) (HB.out)) | (with_reducible refine Kd.C_alloc ?_ _) | (with_reducible refine Kd.C_drewN ?_ _) | (with_reducible refine Kd.C_drew ?_))))⟩ (fun hHeld => ?_); refine with_tabW precentorlaw02_NumBack.tab10 precentorlaw02_NumBack.bits10 (fun HT_ HW_ => ?_)
                            generalize w37.drew = w38 at HO256 HO260 HO270 HO274 HO279 HB hHeld ⊢
                            refine pure_ (i := 0) (N := some 57) (v := ?_) (a' := ?_) #[true, false, false, false, false, false, false, false, false, false, false, false, false, false] rfl rfl (any_of HT_.out (by kernel_rfl)) (fun _ _ _ h => h) (Or.inl ⟨by rfl, ?_⟩) ?_ ?_
                            rotate_left
                            · intro w'
                              go_simp
                              with_reducible rfl
                            rotate_left
                            · simp only [Act.put, List.setIfInBounds_toArray, List.set_cons_zero, List.set_cons_succ, i64_w, i32_w]
                              rfl
                            refine pure_ (i := 1) (N := some 58) (v := ?_) (a' := ?_) #[true, true, false, false, false, false, false, false, false, false, false, false, false, false] rfl rfl (any_of HT_.out (by kernel_rfl)) (fun _ _ _ h => h) (Or.inl ⟨by rfl, ?_⟩) ?_ ?_
                            rotate_left
                            · intro w'
                              go_simp
                              with_reducible rfl
                            rotate_left
                            · simp only [Act.put, List.setIfInBounds_toArray, List.set_cons_zero, List.set_cons_succ, i64_w, i32_w]
                              rfl
                            refine pure_ (i := 2) (N := some 59) (v := ?_) (a' := ?_) #[true, true, true, false, false, false, false, false, false, false, false, false, false, false] rfl rfl (any_of HT_.out (by kernel_rfl)) (fun _ _ _ h => h) (Or.inl ⟨by rfl, ?_⟩) ?_ ?_
                            rotate_left
                            · intro w'
                              go_simp
                              with_reducible rfl
                            rotate_left
                            · simp only [Act.put, List.setIfInBounds_toArray, List.set_cons_zero, List.set_cons_succ, i64_w, i32_w]
                              rfl
                            refine pure_ (i := 3) (N := some 60) (v := ?_) (a' := ?_) #[true, true, true, true, false, false, false, false, false, false, false, false, false, false] rfl rfl (any_of HT_.out (by kernel_rfl)) (fun _ _ _ h => h) (Or.inl ⟨by rfl, ?_⟩) ?_ ?_
                            rotate_left
                            · intro w'
                              go_simp
                              with_reducible rfl
                            rotate_left
                            · simp only [Act.put, List.setIfInBounds_toArray, List.set_cons_zero, List.set_cons_succ, i64_w, i32_w]
                              rfl
                            refine pure_ (i := 4) (N := some 61) (v := ?_) (a' := ?_) #[true, true, true, true, true, false, false, false, false, false, false, false, false, false] rfl rfl (any_of HT_.out (by kernel_rfl)) (fun _ _ _ h => h) (Or.inl ⟨by rfl, ?_⟩) ?_ ?_
                            rotate_left
                            · intro w'
                              go_simp
                              with_reducible rfl
                            rotate_left
                            · simp only [Act.put, List.setIfInBounds_toArray, List.set_cons_zero, List.set_cons_succ, i64_w, i32_w]
                              rfl
                            refine pure_ (i := 7) (N := some 64) (v := ?_) (a' := ?_) #[true, true, true, true, true, false, false, true, false, false, false, false, false, false] rfl rfl (any_of HT_.out (by kernel_rfl)) (fun _ _ _ h => h) (Or.inl ⟨by rfl, ?_⟩) ?_ ?_
                            rotate_left
                            · intro w'
                              go_simp
                              with_reducible rfl
                            rotate_left
                            · simp only [Act.put, List.setIfInBounds_toArray, List.set_cons_zero, List.set_cons_succ, i64_w, i32_w]
                              rfl
                            refine pure_ (i := 10) (N := some 67) (v := ?_) (a' := ?_) #[true, true, true, true, true, false, false, true, false, false, true, false, false, false] rfl rfl (any_of HT_.out (by kernel_rfl)) (fun _ _ _ h => h) (Or.inl ⟨by rfl, ?_⟩) ?_ ?_
                            rotate_left
                            · intro w'
                              go_simp
                              with_reducible rfl
                            rotate_left
                            · simp only [Act.put, List.setIfInBounds_toArray, List.set_cons_zero, List.set_cons_succ, i64_w, i32_w]
                              rfl
                            refine take_ (i := 8) (N := some 65) (v := ?_) (a' := ?_) #[true, true, true, true, true, false, false, true, true, false, true, false, false, false] rfl rfl (take_ofW HT_.out HW_.out (by kernel_rfl)) (fun _ _ _ h => h) (Or.inl ⟨by rfl, ?_⟩) hHeld ?_ ?_
                            rotate_left
                            · rintro w' ⟨s0, s1⟩
                              go_simp
                              with_reducible rfl
                            rotate_left
                            · simp only [Act.put, List.setIfInBounds_toArray, List.set_cons_zero, List.set_cons_succ, i64_w, i32_w]
                              rfl
                            refine take_ (i := 11) (N := some 68) (v := ?_) (a' := ?_) #[true, true, true, true, true, false, false, true, true, false, true, true, false, false] rfl rfl (take_ofW HT_.out HW_.out (by kernel_rfl)) (fun _ _ _ h => h) (Or.inl ⟨by rfl, ?_⟩) hHeld ?_ ?_
                            rotate_left
                            · rintro w' ⟨s0, s1⟩
                              go_simp
                              with_reducible rfl
                            rotate_left
                            · simp only [Act.put, List.setIfInBounds_toArray, List.set_cons_zero, List.set_cons_succ, i64_w, i32_w]
                              rfl
                            refine one_ (i := 5) (N := some 62) #[true, true, true, true, true, true, false, true, true, false, true, true, false, false] rfl rfl (one_of HT_.out (by kernel_rfl)) (by decide) (fun K hK => ?_)
                            refine goes_ Tryd.func17 (by kernel_rfl) rfl #[.int .i64 t276, .int .i64 (rd y254 (ji7))] (by rfl) rfl rfl (by (try simp only [List.map_toArray, List.map_cons, List.map_nil]); first | done | (simp only [hji7]; rfl) | rfl | (simp only [List.length_drop, List.length_take]; rfl)) ?_
                            with_reducible refine (num_Put.calls k t276 (rd y254 (ji7)) t281 _ ?side1 A18.out).mono ?_
                            (case side1 => exact GB.below hG (by repeat (first | (with_reducible first | exact HB.out | apply below_alloc | apply pw_below_drewN | apply below_drew1) | exact HB.out)))
                            rintro e w39 ⟨v282, rfl, ho0, hb⟩
                            refine ⟨_, rfl, ?_⟩
                            have n0_ := Aside0.mk (Kd.R_below (by (with_reducible repeat (first | apply Kd.R_alloc | apply Kd.R_drewN | apply Kd.R_drew)); exact HO256.out) hb)
                            have n1_ := Aside0.mk (Kd.R_elder' (by (with_reducible repeat (first | apply Kd.R_alloc | apply Kd.R_drewN | apply Kd.R_drew)); exact HO260.out) (Kd.R_base ho0) hb)
                            have n2_ := Aside0.mk (Kd.R_elder' (by (with_reducible repeat (first | apply Kd.R_alloc | apply Kd.R_drewN | apply Kd.R_drew)); exact HO270.out) (Kd.R_base ho0) hb)
                            have n3_ := Aside0.mk (Kd.V_elder' (by (with_reducible repeat (first | apply Kd.V_alloc | apply Kd.V_drewN | apply Kd.V_drew)); exact HO274.out) (Kd.R_base ho0) hb)
                            have n4_ := Aside0.mk (Kd.V_elder' (by (with_reducible repeat (first | apply Kd.V_alloc | apply Kd.V_drewN | apply Kd.V_drew)); exact HO279.out) (Kd.R_base ho0) hb)
                            have n5_ := Aside0.mk (Kd.R_lower (Kd.R_new' (Kd.R_new' ho0 (Kd.R_lt (by (with_reducible repeat (first | apply Kd.R_alloc | apply Kd.R_drewN | apply Kd.R_drew)); exact HO260.out))) (Kd.R_lt (by (with_reducible repeat (first | apply Kd.R_alloc | apply Kd.R_drewN | apply Kd.R_drew)); exact HO270.out))) (below_size (by repeat (first | (with_reducible first | exact HB.out | apply below_alloc | apply pw_below_drewN | apply below_drew1) | exact HB.out))))
                            have n6_ := Aside0.mk (below_step (by repeat (first | (with_reducible first | exact HB.out | apply below_alloc | apply pw_below_drewN | apply below_drew1) | exact HB.out)) hb)
                            clear HO256
                            clear HO260
                            clear HO270
                            clear HO274
                            clear HO279
                            clear HB
                            have HO256 := n0_
                            have HO260 := n1_
                            have HO270 := n2_
                            have HO274 := n3_
                            have HO279 := n4_
                            have HO283 := n5_
                            have HB := n6_
                            clear n0_ n1_ n2_ n3_ n4_ n5_ n6_
                            (try clear hb)
                            (try clear hb2)
                            (try clear hk)
                            (try clear hi)
                            (try clear ho0)
                            refine hK.out _ _ ⟨(V_string (base := w.heap.size) (e' := 5) (P := Tryd.prog) Tryd.underlying22 Tryd.underlying5 Tryd.underlying9 (by (with_reducible repeat (first | apply Kd.V_alloc | apply Kd.V_drewN | apply Kd.V_drew)); exact HO279.out)), (Kd.C_string (P := Tryd.prog) (A := A2) (c := c2) Tryd.underlying22 Tryd.underlying5 Tryd.underlying9 (by repeat (first | exact (Kd.C_below (HR2.out) (HB.out)) | (with_reducible refine Kd.C_alloc ?_ _) | (with_reducible refine Kd.C_drewN ?_ _) | (with_reducible refine Kd.C_drew ?_))))⟩ (fun hHeld => ?_)
                            clear hK K
                            refine norm_ (a' := ?_) ?_ ?_
                            rotate_left
                            · show Act.put _ (some 62) _ = _
                              simp only [Act.put, List.setIfInBounds_toArray, List.set_cons_zero, List.set_cons_succ, i64_w, i32_w]
                              rfl
                            refine one_ (i := 6) (N := some 63) #[true, true, true, true, true, true, true, true, true, false, true, true, false, false] rfl rfl (one_of HT_.out (by kernel_rfl)) (by decide) (fun K hK => ?_)
                            have hcv40 := (by first | exact own_string (P := Tryd.prog) Tryd.underlying22 Tryd.underlying5 Tryd.underlying9 (Kd.own_of_R HO283.out) | exact V_string (P := Tryd.prog) Tryd.underlying22 Tryd.underlying5 Tryd.underlying9 HO283.out); have hcv40d := (by first | exact own_string_d (P := Tryd.prog) Tryd.underlying22 Tryd.underlying5 Tryd.underlying9 HO283.out | exact V_string_d (P := Tryd.prog) Tryd.underlying22 Tryd.underlying5 Tryd.underlying9 HO283.out)
                            refine value_ (w1 := ?_) (v := ?_) (by rfl) rfl ?_ ?_
                            rotate_left 2
                            · go_simp
                              constructor
                              · rfl
                              · rfl
                            clear hcv40
                            refine hK.out _ _ ⟨(V_string (base := w.heap.size) (e' := 5) (P := Tryd.prog) Tryd.underlying22 Tryd.underlying5 Tryd.underlying9 (by (with_reducible repeat (first | apply Kd.V_alloc | apply Kd.V_drewN | apply Kd.V_drew)); exact HO279.out)), (Kd.C_string (P := Tryd.prog) (A := A2) (c := c2) Tryd.underlying22 Tryd.underlying5 Tryd.underlying9 (by repeat (first | exact (Kd.C_below (HR2.out) (HB.out)) | (with_reducible refine Kd.C_alloc ?_ _) | (with_reducible refine Kd.C_drewN ?_ _) | (with_reducible refine Kd.C_drew ?_))))⟩ (fun hHeld => ?_)
                            clear hK K
                            refine norm_ (a' := ?_) ?_ ?_
                            rotate_left
                            · show Act.put _ (some 63) _ = _
                              simp only [Act.put, List.setIfInBounds_toArray, List.set_cons_zero, List.set_cons_succ, i64_w, i32_w]
                              rfl
                            refine pure_ (i := 9) (N := some 66) (v := ?_) (a' := ?_) #[true, true, true, true, true, true, true, true, true, true, true, true, false, false] rfl rfl (any_of HT_.out (by kernel_rfl)) (fun _ _ _ h => h) (Or.inl ⟨by rfl, ?_⟩) ?_ ?_
                            rotate_left
                            · intro w'
                              go_simp
                              with_reducible rfl
                            rotate_left
                            · simp only [Act.put, List.setIfInBounds_toArray, List.set_cons_zero, List.set_cons_succ, i64_w, i32_w]
                              rfl
                            refine pure_ (i := 12) (N := some 69) (v := ?_) (a' := ?_) #[true, true, true, true, true, true, true, true, true, true, true, true, true, false] rfl rfl (any_of HT_.out (by kernel_rfl)) (fun _ _ _ h => h) (Or.inl ⟨by rfl, ?_⟩) ?_ ?_
                            rotate_left
                            · intro w'
                              go_simp
                              with_reducible rfl
                            rotate_left
                            · simp only [Act.put, List.setIfInBounds_toArray, List.set_cons_zero, List.set_cons_succ, i64_w, i32_w]
                              rfl
                            refine pure_ (i := 13) (N := some 70) (v := ?_) (a' := ?_) #[true, true, true, true, true, true, true, true, true, true, true, true, true, true] rfl rfl (any_of HT_.out (by kernel_rfl)) (fun _ _ _ h => h) (Or.inl ⟨by rfl, ?_⟩) ?_ ?_
                            rotate_left
                            · intro w'
                              go_simp
                              with_reducible rfl
                            rotate_left
                            · simp only [Act.put, List.setIfInBounds_toArray, List.set_cons_zero, List.set_cons_succ, i64_w, i32_w]
                              rfl
                            refine done_ (done_of HT_.out (by kernel_rfl)) ?_
                            have hcv42 := (by first | exact own_string (P := Tryd.prog) Tryd.underlying22 Tryd.underlying5 Tryd.underlying9 (Kd.own_of_R HO274.out) | exact V_string (P := Tryd.prog) Tryd.underlying22 Tryd.underlying5 Tryd.underlying9 HO274.out); have hcv42d := (by first | exact own_string_d (P := Tryd.prog) Tryd.underlying22 Tryd.underlying5 Tryd.underlying9 HO274.out | exact V_string_d (P := Tryd.prog) Tryd.underlying22 Tryd.underlying5 Tryd.underlying9 HO274.out)
                            have hcv43 := Kd.C_string (P := Tryd.prog) (A := A2) (c := c2) Tryd.underlying22 Tryd.underlying5 Tryd.underlying9 (Kd.C_below HR2.out HB.out)
                            try go_wp2
                            go_ret
                            exact ⟨by first | rfl | (simp [errW_none, errW_some] <;> rfl) | (simp only [← hji7]; first | rfl | (simp [errW_none, errW_some] <;> rfl)) | (simp [*, errW_none, errW_some] <;> rfl), by repeat (first | (with_reducible first | exact HB.out | apply below_alloc | apply pw_below_drewN | apply below_drew1) | exact HB.out)⟩
                          · rw [if_neg c24] at H
                            exact absurd H (by simp)
                        · rw [if_neg c23] at H
                          exact absurd H (by simp)
                      · rw [if_neg c22] at H
                        exact absurd H (by simp)
                    · replace c21 := Bool.eq_false_iff.mpr c21
                      subst c21
                      have H1 : (none) = some r := by rw [if_neg (show ¬ (false = true) by decide)] at H; exact H
                      clear H
                      have H := H1
                      clear H1
                      exact absurd H (by simp)
                  · rw [if_neg c20] at H
                    exact absurd H (by simp)
                · rw [if_neg c19] at H
                  exact absurd H (by simp)
              · rw [if_neg c17] at H
                have c17b0 : (t280 == 0) = false := beq_eq_false_iff_ne.mpr c17
                have c17b1 : (t280 != 0) = true := bne_iff_ne.mpr c17
                by_cases c44 : t253 = true
                · subst c44
                  have H1 : (if (t258.length : Int) = (rd y254 (ji7)) then (if t275 = 0 then (if t271 = a0 then (some ((strOfNums t272).toList == (strOfNums l2).toList)) else (none)) else (none)) else (none)) = some r := by rw [if_pos rfl] at H; exact H
                  clear H
                  have H := H1
                  clear H1
                  by_cases c45 : (t258.length : Int) = (rd y254 (ji7))
                  · rw [if_pos c45] at H
                    have c45b0 : ((t258.length : Int) == (rd y254 (ji7))) = true := beq_iff_eq.mpr c45
                    have c45b1 : ((t258.length : Int) != (rd y254 (ji7))) = false := bne_eq_false_iff_eq.mpr c45
                    clear c45
                    by_cases c46 : t275 = 0
                    · rw [if_pos c46] at H
                      have c46b0 : (t275 == 0) = true := beq_iff_eq.mpr c46
                      have c46b1 : (t275 != 0) = false := bne_eq_false_iff_eq.mpr c46
                      clear c46
                      by_cases c47 : t271 = a0
                      · rw [if_pos c47] at H
                        have c47b0 : (t271 == a0) = true := beq_iff_eq.mpr c47
                        have c47b1 : (t271 != a0) = false := bne_eq_false_iff_eq.mpr c47
                        clear c47
                        obtain rfl := Option.some.inj H
                        go_enter Tryd.func4, Tryd.ntmps4
                        try go_wp2_with (first | ((with_reducible refine gate_callee (f := 9) rfl ?_); refine goesL_ (some 16) rfl rfl Tryd.func9 (by kernel_rfl) rfl #[] rfl (by (try simp only [List.map_toArray, List.map_cons, List.map_nil]); first | done | rfl | (simp only [List.length_drop, List.length_take]; rfl)) ?_; (with_reducible refine (precentorlaw02_shown.calls k  true _ ?side1 A4.out).mono ?_); (case side1 => exact GB.below hG (by repeat (first | (with_reducible first | exact HB.out | apply below_alloc | apply pw_below_drewN | apply below_drew1) | exact HB.out))); rintro e w48 ⟨rfl, hb⟩; refine ⟨_, rfl, ?_⟩; have n0_ := Aside0.mk (below_step (by repeat (first | (with_reducible first | exact HB.out | apply below_alloc | apply pw_below_drewN | apply below_drew1) | exact HB.out)) hb); clear HB; have HB := n0_; clear n0_; (try clear hb); (try clear hb2); (try clear hk); (try clear hi)) | ((with_reducible refine gate_dst (N := 21) rfl ?_); (try (refine gate_guard (by rfl) ?_; dsimp only)); refine Kd.R_lit (Kd.int .i64) _ 3 ?hg (N := 21) ?hd (xs := ([1, 2, 8] : List Int)) (inner := [.int .i64 1, .int .i64 2, .int .i64 8]) (ok := fun _ => True) (okp := fun _ => True) ?hr ?hp (fun _ hk => hk) trivial (Below.refl _ _) (Nat.le_refl _) (by simp) ?_; (case hd => rfl); (case hg => rfl); (case hr => first | (go_simp; done) | (go_simp; rfl)); (case hp => exact (Reps.one (show Kd.M (Kd.int .i64) _ _ _ 1 [.int .i64 1] from rfl) (Reps.one (show Kd.M (Kd.int .i64) _ _ _ 2 [.int .i64 2] from rfl) (Reps.one (show Kd.M (Kd.int .i64) _ _ _ 8 [.int .i64 8] from rfl) (Reps.none _ _))))); intro v255 w49 ho50 hb hg_ hnew_; clear hg_ hnew_; (first | rw [← Ny254.out] at ho50 | (simp only [Int.reduceToNat] at ho50; rw [← Ny254.out] at ho50)); have n0_ := Aside0.mk (Kd.R_lower ho50 (below_size (by repeat (first | (with_reducible first | exact HB.out | apply below_alloc | apply pw_below_drewN | apply below_drew1) | exact HB.out)))); have n1_ := Aside0.mk (below_step (by repeat (first | (with_reducible first | exact HB.out | apply below_alloc | apply pw_below_drewN | apply below_drew1) | exact HB.out)) hb); clear HB; have HO256 := n0_; have HB := n1_; clear n0_ n1_; clear hb ho50; obtain ⟨Ao51, co51, eo51⟩ := Kd.R_slice HO256.out; subst eo51; have p257 : 0 ≤ ((ji7) : Int) := of_decide_eq_true (by first | (with_reducible assumption) | assumption); have q257 : (ji7) < (y254.length : Int) := of_decide_eq_true (by first | (with_reducible assumption) | assumption); obtain ⟨ad257, e257, hx257_0⟩ := Kd.at_int (Kd.R_reads' HO256.out).2.2 (ji7) p257 q257; cases e257; replace p257 := eq_true p257; replace q257 := eq_true q257) | ((with_reducible refine gate_callee (f := 17) rfl ?_); refine goesL_ (some 28) rfl rfl Tryd.func17 (by kernel_rfl) rfl #[.int .i64 a0, .int .i64 (rd y254 (ji7))] rfl (by (try simp only [List.map_toArray, List.map_cons, List.map_nil]); first | done | (simp only [hji7]; rfl) | rfl | (simp only [List.length_drop, List.length_take]; rfl)) ?_; (with_reducible refine (num_Put.calls k a0 (rd y254 (ji7)) t258 _ ?side1 A10.out).mono ?_); (case side1 => exact GB.below hG (by repeat (first | (with_reducible first | exact HB.out | apply below_alloc | apply pw_below_drewN | apply below_drew1) | exact HB.out))); rintro e w52 ⟨v259, rfl, ho0, hb⟩; refine ⟨_, rfl, ?_⟩; have n0_ := Aside0.mk (Kd.R_below (by (with_reducible repeat (first | apply Kd.R_alloc | apply Kd.R_drewN | apply Kd.R_drew)); exact HO256.out) hb); have n1_ := Aside0.mk (Kd.R_lower ho0 (below_size (by repeat (first | (with_reducible first | exact HB.out | apply below_alloc | apply pw_below_drewN | apply below_drew1) | exact HB.out)))); have n2_ := Aside0.mk (below_step (by repeat (first | (with_reducible first | exact HB.out | apply below_alloc | apply pw_below_drewN | apply below_drew1) | exact HB.out)) hb); clear HO256; clear HB; have HO256 := n0_; have HO260 := n1_; have HB := n2_; clear n0_ n1_ n2_; (try clear hb); (try clear hb2); (try clear hk); (try clear hi); (try clear ho0)) | ((with_reducible refine gate_callee (f := 15) rfl ?_); refine goesL_ (some 31) rfl rfl Tryd.func15 (by kernel_rfl) rfl #[.int .i64 a0, .int .i64 (rd y254 (ji7))] rfl (by (try simp only [List.map_toArray, List.map_cons, List.map_nil]); first | done | (simp only [hji7]; rfl) | rfl | (simp only [List.length_drop, List.length_take]; rfl)) ?_; (with_reducible refine (num_Fits.calls a0 (rd y254 (ji7)) true _ ?side1 A11.out).mono ?_); (case side1 => exact GB.below hG (by repeat (first | (with_reducible first | exact HB.out | apply below_alloc | apply pw_below_drewN | apply below_drew1) | exact HB.out))); rintro e w' ⟨rfl, ⟨nd, rfl⟩⟩; refine ⟨_, rfl, ?_⟩) | ((with_reducible refine gate_dst (N := 40) rfl ?_); (try (refine gate_guard (by rfl) ?_; dsimp only)); refine Kd.R_lit (Kd.int .u8) _ 5 ?hg (N := 40) ?hd (xs := ([] : List Int)) (inner := []) (ok := fun _ => True) (okp := fun _ => True) ?hr ?hp (fun _ hk => hk) trivial (Below.refl _ _) (Nat.le_refl _) (by simp) ?_; (case hd => rfl); (case hg => rfl); (case hr => first | (go_simp; done) | (go_simp; rfl)); (case hp => exact (Reps.none _ _)); intro v263 w53 ho54 hb hg_ hnew_; clear hg_ hnew_; (first | rw [← Ny262.out] at ho54 | (simp only [Int.reduceToNat] at ho54; rw [← Ny262.out] at ho54)); have n0_ := Aside0.mk (Kd.R_below (by (with_reducible repeat (first | apply Kd.R_alloc | apply Kd.R_drewN | apply Kd.R_drew)); exact HO256.out) hb); have n1_ := Aside0.mk (Kd.R_elder' (by (with_reducible repeat (first | apply Kd.R_alloc | apply Kd.R_drewN | apply Kd.R_drew)); exact HO260.out) (Kd.R_base ho54) hb); have n2_ := Aside0.mk (Kd.R_lower (Kd.R_new' ho54 (Kd.R_lt (by (with_reducible repeat (first | apply Kd.R_alloc | apply Kd.R_drewN | apply Kd.R_drew)); exact HO260.out))) (below_size (by repeat (first | (with_reducible first | exact HB.out | apply below_alloc | apply pw_below_drewN | apply below_drew1) | exact HB.out)))); have n3_ := Aside0.mk (below_step (by repeat (first | (with_reducible first | exact HB.out | apply below_alloc | apply pw_below_drewN | apply below_drew1) | exact HB.out)) hb); clear HO256; clear HO260; clear HB; have HO256 := n0_; have HO260 := n1_; have HO264 := n2_; have HB := n3_; clear n0_ n1_ n2_ n3_; clear hb ho54; obtain ⟨Ao56, co56, eo56⟩ := Kd.R_slice HO260.out; subst eo56) | ((with_reducible refine gate_builtin (b := .append) (xs := #[.tmp 40, .tmp 41]) rfl ?_); (try (refine gate_guard (by rfl) ?_; dsimp only)); at_builtin; refine Kd.R_append_rows (Kd.int .u8) (w0 := w) w.heap.size rfl (.tmp 40) (.tmp 41) 22 5 (.int .u8 0) 1 rfl Tryd.underlying22 info5 rfl (by decide) (by omega) v263 y262 t258 _ _ _ (fun k_ => some k_ ≠ (.slice Ao56 t258.length co56 : Value).ownBlock) (fun _ => False) rfl rfl ?aO ?aR (fun _ _ h => h) (fun _ h => h.elim) ?aF ?aB ?aS ?aL ?_; (case aR => repeat (first | exact (Kd.R_reads' HO260.out).2.2 | (with_reducible refine Kd.C_alloc ?_ _) | (with_reducible refine Kd.C_drewN ?_ _) | (with_reducible refine Kd.C_drew ?_))); (case aB => exact (by repeat (first | (with_reducible first | exact HB.out | apply below_alloc | apply pw_below_drewN | apply below_drew1) | exact HB.out))); (case aF => exact (fun k_ hk => Kd.fresh' (Kd.R_lt (by (with_reducible repeat (first | apply Kd.R_alloc | apply Kd.R_drewN | apply Kd.R_drew)); exact HO260.out)) k_ hk)); (case aO => exact (by (with_reducible repeat (first | apply Kd.R_alloc | apply Kd.R_drewN | apply Kd.R_drew)); exact Kd.R_mono HO264.out (fun _ hk => hk.2))); (case aS => exact (below_size (by repeat (first | (with_reducible first | exact HB.out | apply below_alloc | apply pw_below_drewN | apply below_drew1) | exact HB.out)))); (case aL => have := LMc13.out; omega); intro v266 w55 ho hb hg hat; rw [← Ny265.out] at ho; have n0_ := Aside0.mk (Kd.R_over' (by (with_reducible repeat (first | apply Kd.R_alloc | apply Kd.R_drewN | apply Kd.R_drew)); exact HO256.out) (Kd.R_typed (by (with_reducible repeat (first | apply Kd.R_alloc | apply Kd.R_drewN | apply Kd.R_drew)); exact HO264.out)) (by decide) hg); have n1_ := Aside0.mk (Kd.R_after (ok := (fun _ => True)) (by (with_reducible repeat (first | apply Kd.R_alloc | apply Kd.R_drewN | apply Kd.R_drew)); exact HO260.out) hg hat); have n2_ := Aside0.mk (hb); have n3_ := Aside0.mk (ho); clear HO256; clear HO260; clear HB; clear HO264; have HO256 := n0_; have HO260 := n1_; have HB := n2_; have HO267 := n3_; clear n0_ n1_ n2_ n3_; clear ho hb hg hat) | ((with_reducible refine gate_builtin (b := .append) (xs := #[.tmp 42, .tmp 43]) rfl ?_); (try (refine gate_guard (by rfl) ?_; dsimp only)); at_builtin; refine Kd.R_append_rows (Kd.int .u8) (w0 := w) w.heap.size rfl (.tmp 42) (.tmp 43) 22 5 (.int .u8 0) 1 rfl Tryd.underlying22 info5 rfl (by decide) (by omega) v266 y265 l2 _ _ _ (fun k_ => some k_ ≠ (.slice Ao56 t258.length co56 : Value).ownBlock) (fun _ => False) rfl rfl ?aO ?aR (fun _ _ h => h) (fun _ h => h.elim) ?aF ?aB ?aS ?aL ?_; (case aR => repeat (first | exact (Kd.C_below HR2.out HB.out) | (with_reducible refine Kd.C_alloc ?_ _) | (with_reducible refine Kd.C_drewN ?_ _) | (with_reducible refine Kd.C_drew ?_))); (case aB => exact (by repeat (first | (with_reducible first | exact HB.out | apply below_alloc | apply pw_below_drewN | apply below_drew1) | exact HB.out))); (case aF => exact (fun k_ hk => Kd.fresh' (Kd.R_lt (by (with_reducible repeat (first | apply Kd.R_alloc | apply Kd.R_drewN | apply Kd.R_drew)); exact HO260.out)) k_ hk)); (case aO => exact (by (with_reducible repeat (first | apply Kd.R_alloc | apply Kd.R_drewN | apply Kd.R_drew)); exact HO267.out)); (case aS => exact (below_size (by repeat (first | (with_reducible first | exact HB.out | apply below_alloc | apply pw_below_drewN | apply below_drew1) | exact HB.out)))); (case aL => have := LMc14.out; omega); intro v269 w57 ho hb hg hat; rw [← Ny268.out] at ho; have n0_ := Aside0.mk (Kd.R_over' (by (with_reducible repeat (first | apply Kd.R_alloc | apply Kd.R_drewN | apply Kd.R_drew)); exact HO256.out) (Kd.R_typed (by (with_reducible repeat (first | apply Kd.R_alloc | apply Kd.R_drewN | apply Kd.R_drew)); exact HO267.out)) (by decide) hg); have n1_ := Aside0.mk (Kd.R_after (ok := (fun _ => True)) (by (with_reducible repeat (first | apply Kd.R_alloc | apply Kd.R_drewN | apply Kd.R_drew)); exact HO260.out) hg hat); have n2_ := Aside0.mk (hb); have n3_ := Aside0.mk (ho); clear HO256; clear HO260; clear HB; clear HO267; have HO256 := n0_; have HO260 := n1_; have HB := n2_; have HO270 := n3_; clear n0_ n1_ n2_ n3_; clear ho hb hg hat; obtain ⟨Ao58, co58, eo58⟩ := Kd.R_slice HO270.out; subst eo58) | ((with_reducible refine gate_callee (f := 10) rfl ?_); refine goesL_ (some 46) rfl rfl Tryd.func10 (by kernel_rfl) rfl #[.slice Ao58 y268.length co58, .int .i64 (rd y254 (ji7))] rfl (by (try simp only [List.map_toArray, List.map_cons, List.map_nil]); first | done | (simp only [hji7]; rfl) | rfl | (simp only [List.length_drop, List.length_take]; rfl)) ?_; (with_reducible refine (num_Take.calls (fun k_ => some k_ = (.slice Ao58 y268.length co58 : Value).ownBlock) _ _ y268 (rd y254 (ji7)) t271 t272 t275 _ ?side1 ?side2 A15.out).mono ?_); (case side1 => exact Kd.R_V (Kd.R_tight rfl (Kd.R_apart' (HO270.out) (Kd.R_typed HO256.out) (by decide)))); (case side2 => exact GB.below hG (by repeat (first | (with_reducible first | exact HB.out | apply below_alloc | apply pw_below_drewN | apply below_drew1) | exact HB.out))); rintro e w59 ⟨v273, rfl, ho0, hb⟩; refine ⟨_, rfl, ?_⟩; have n0_ := Aside0.mk (Kd.R_below (by (with_reducible repeat (first | apply Kd.R_alloc | apply Kd.R_drewN | apply Kd.R_drew)); exact HO256.out) hb); have n1_ := Aside0.mk (Kd.R_below (by (with_reducible repeat (first | apply Kd.R_alloc | apply Kd.R_drewN | apply Kd.R_drew)); exact HO260.out) hb); have n2_ := Aside0.mk (Kd.R_below (by (with_reducible repeat (first | apply Kd.R_alloc | apply Kd.R_drewN | apply Kd.R_drew)); exact HO270.out) hb); have n3_ := Aside0.mk (Kd.V_lower (Kd.V_mono (ok' := fun k_ => some k_ ≠ (.slice (some ad257) y254.length co51 : Value).ownBlock ∧ some k_ ≠ (.slice Ao56 t258.length co56 : Value).ownBlock) ho0 (fun k_ hk_ => ⟨Or.elim hk_ (fun hs_ => ((Kd.R_apart' (HO270.out) (Kd.R_typed HO256.out) (by decide)).1 k_ hs_.symm).2) (fun hn_ => (Kd.fresh' (Kd.R_lt (by (with_reducible repeat (first | apply Kd.R_alloc | apply Kd.R_drewN | apply Kd.R_drew)); exact HO256.out)) k_ hn_)), Or.elim hk_ (fun hs_ => ((Kd.R_apart' (HO270.out) (Kd.R_typed HO256.out) (by decide)).1 k_ hs_.symm).1) (fun hn_ => (Kd.fresh' (Kd.R_lt (by (with_reducible repeat (first | apply Kd.R_alloc | apply Kd.R_drewN | apply Kd.R_drew)); exact HO260.out)) k_ hn_))⟩)) (below_size (by repeat (first | (with_reducible first | exact HB.out | apply below_alloc | apply pw_below_drewN | apply below_drew1) | exact HB.out)))); have n4_ := Aside0.mk (below_step (by repeat (first | (with_reducible first | exact HB.out | apply below_alloc | apply pw_below_drewN | apply below_drew1) | exact HB.out)) hb); clear HO256; clear HO260; clear HO270; clear HB; have HO256 := n0_; have HO260 := n1_; have HO270 := n2_; have HO274 := n3_; have HB := n4_; clear n0_ n1_ n2_ n3_ n4_; (try clear hb); (try clear hb2); (try clear hk); (try clear hi); (try clear ho0)) | ((with_reducible refine gate_callee (f := 10) rfl ?_); refine goesL_ (some 53) rfl rfl Tryd.func10 (by kernel_rfl) rfl #[.slice A2 l2.length c2, .int .i64 (rd y254 (ji7))] rfl (by (try simp only [List.map_toArray, List.map_cons, List.map_nil]); first | done | (simp only [hji7]; rfl) | rfl | (simp only [List.length_drop, List.length_take]; rfl)) ?_; (with_reducible refine (num_Take.calls (fun k_ => k_ < w.heap.size) _ _ l2 (rd y254 (ji7)) t276 t277 t280 _ ?side1 ?side2 A16.out).mono ?_); (case side1 => exact Kd.V_mk HC2.out (Kd.F_below (Kd.C_F (Kd.heap_int .u8) HR2.out) (by repeat (first | (with_reducible first | exact HB.out | apply below_alloc | apply pw_below_drewN | apply below_drew1) | exact HB.out)))); (case side2 => exact GB.below hG (by repeat (first | (with_reducible first | exact HB.out | apply below_alloc | apply pw_below_drewN | apply below_drew1) | exact HB.out))); rintro e w60 ⟨v278, rfl, ho0, hb⟩; refine ⟨_, rfl, ?_⟩; have n0_ := Aside0.mk (Kd.R_below (by (with_reducible repeat (first | apply Kd.R_alloc | apply Kd.R_drewN | apply Kd.R_drew)); exact HO256.out) hb); have n1_ := Aside0.mk (Kd.R_below (by (with_reducible repeat (first | apply Kd.R_alloc | apply Kd.R_drewN | apply Kd.R_drew)); exact HO260.out) hb); have n2_ := Aside0.mk (Kd.R_below (by (with_reducible repeat (first | apply Kd.R_alloc | apply Kd.R_drewN | apply Kd.R_drew)); exact HO270.out) hb); have n3_ := Aside0.mk (Kd.V_below (by (with_reducible repeat (first | apply Kd.V_alloc | apply Kd.V_drewN | apply Kd.V_drew)); exact HO274.out) hb); have n4_ := Aside0.mk (Kd.V_lower (Kd.V_mono (ok' := fun k_ => some k_ ≠ (.slice (some ad257) y254.length co51 : Value).ownBlock ∧ some k_ ≠ (.slice Ao56 t258.length co56 : Value).ownBlock ∧ some k_ ≠ (.slice Ao58 y268.length co58 : Value).ownBlock) ho0 (fun k_ hk_ => ⟨Or.elim hk_ (fun hs_ => fun e_ => Nat.not_le.2 hs_ (Kd.R_base HO256.out k_ e_.symm)) (fun hn_ => (Kd.fresh' (Kd.R_lt (by (with_reducible repeat (first | apply Kd.R_alloc | apply Kd.R_drewN | apply Kd.R_drew)); exact HO256.out)) k_ hn_)), Or.elim hk_ (fun hs_ => fun e_ => Nat.not_le.2 hs_ (Kd.R_base HO260.out k_ e_.symm)) (fun hn_ => (Kd.fresh' (Kd.R_lt (by (with_reducible repeat (first | apply Kd.R_alloc | apply Kd.R_drewN | apply Kd.R_drew)); exact HO260.out)) k_ hn_)), Or.elim hk_ (fun hs_ => fun e_ => Nat.not_le.2 hs_ (Kd.R_base HO270.out k_ e_.symm)) (fun hn_ => (Kd.fresh' (Kd.R_lt (by (with_reducible repeat (first | apply Kd.R_alloc | apply Kd.R_drewN | apply Kd.R_drew)); exact HO270.out)) k_ hn_))⟩)) (below_size (by repeat (first | (with_reducible first | exact HB.out | apply below_alloc | apply pw_below_drewN | apply below_drew1) | exact HB.out)))); have n5_ := Aside0.mk (below_step (by repeat (first | (with_reducible first | exact HB.out | apply below_alloc | apply pw_below_drewN | apply below_drew1) | exact HB.out)) hb); clear HO256; clear HO260; clear HO270; clear HO274; clear HB; have HO256 := n0_; have HO260 := n1_; have HO270 := n2_; have HO274 := n3_; have HO279 := n4_; have HB := n5_; clear n0_ n1_ n2_ n3_ n4_ n5_; (try clear hb); (try clear hb2); (try clear hk); (try clear hi); (try clear ho0)))
                        have n0_ := Aside0.mk (Kd.R_drew HO256.out)
                        have n1_ := Aside0.mk (Kd.R_drew HO260.out)
                        have n2_ := Aside0.mk (Kd.R_drew HO270.out)
                        have n3_ := Aside0.mk (Kd.V_drew HO274.out)
                        have n4_ := Aside0.mk (Kd.V_drew HO279.out)
                        have n5_ := Aside0.mk (below_drew1 HB.out)
                        clear HO256
                        clear HO260
                        clear HO270
                        clear HO274
                        clear HO279
                        clear HB
                        have HO256 := n0_
                        have HO260 := n1_
                        have HO270 := n2_
                        have HO274 := n3_
                        have HO279 := n4_
                        have HB := n5_
                        clear n0_ n1_ n2_ n3_ n4_ n5_
                        refine start_ (n := 14) (S := fun w' => True) (ds := []) #[false, false, false, false, false, false, false, false, false, false, false, false, false, false] (by kernel_rfl) rfl rfl trivial (fun hHeld => ?_); refine with_tabW precentorlaw02_NumBack.tab10 precentorlaw02_NumBack.bits10 (fun HT_ HW_ => ?_)
                        generalize w60.drew = w61 at HO256 HO260 HO270 HO274 HO279 HB hHeld ⊢
                        refine pure_ (i := 0) (N := some 57) (v := ?_) (a' := ?_) #[true, false, false, false, false, false, false, false, false, false, false, false, false, false] rfl rfl (any_of HT_.out (by kernel_rfl)) (fun _ _ _ h => h) (Or.inl ⟨by rfl, ?_⟩) ?_ ?_
                        rotate_left
                        · intro w'
                          go_simp
                          with_reducible rfl
                        rotate_left
                        · simp only [Act.put, List.setIfInBounds_toArray, List.set_cons_zero, List.set_cons_succ, i64_w, i32_w]
                          rfl
                        refine pure_ (i := 1) (N := some 58) (v := ?_) (a' := ?_) #[true, true, false, false, false, false, false, false, false, false, false, false, false, false] rfl rfl (any_of HT_.out (by kernel_rfl)) (fun _ _ _ h => h) (Or.inl ⟨by rfl, ?_⟩) ?_ ?_
                        rotate_left
                        · intro w'
                          go_simp
                          with_reducible rfl
                        rotate_left
                        · simp only [Act.put, List.setIfInBounds_toArray, List.set_cons_zero, List.set_cons_succ, i64_w, i32_w]
                          rfl
                        refine pure_ (i := 2) (N := some 59) (v := ?_) (a' := ?_) #[true, true, true, false, false, false, false, false, false, false, false, false, false, false] rfl rfl (any_of HT_.out (by kernel_rfl)) (fun _ _ _ h => h) (Or.inl ⟨by rfl, ?_⟩) ?_ ?_
                        rotate_left
                        · intro w'
                          go_simp
                          with_reducible rfl
                        rotate_left
                        · simp only [Act.put, List.setIfInBounds_toArray, List.set_cons_zero, List.set_cons_succ, i64_w, i32_w]
                          rfl
                        refine pure_ (i := 3) (N := some 60) (v := undef) (a' := ?_) #[true, true, true, true, false, false, false, false, false, false, false, false, false, false] rfl rfl (any_of HT_.out (by kernel_rfl)) (fun _ _ _ h => h) (Or.inr ⟨by rfl, rfl⟩) ?_ ?_
                        rotate_left
                        · simp only [Act.put, List.setIfInBounds_toArray, List.set_cons_zero, List.set_cons_succ, i64_w, i32_w]
                          rfl
                        refine pure_ (i := 4) (N := some 61) (v := undef) (a' := ?_) #[true, true, true, true, true, false, false, false, false, false, false, false, false, false] rfl rfl (any_of HT_.out (by kernel_rfl)) (fun _ _ _ h => h) (Or.inr ⟨by rfl, rfl⟩) ?_ ?_
                        rotate_left
                        · simp only [Act.put, List.setIfInBounds_toArray, List.set_cons_zero, List.set_cons_succ, i64_w, i32_w]
                          rfl
                        refine pure_ (i := 5) (N := some 62) (v := undef) (a' := ?_) #[true, true, true, true, true, true, false, false, false, false, false, false, false, false] rfl rfl (any_of HT_.out (by kernel_rfl)) (fun _ _ _ h => h) (Or.inr ⟨by rfl, rfl⟩) ?_ ?_
                        rotate_left
                        · simp only [Act.put, List.setIfInBounds_toArray, List.set_cons_zero, List.set_cons_succ, i64_w, i32_w]
                          rfl
                        refine pure_ (i := 6) (N := some 63) (v := undef) (a' := ?_) #[true, true, true, true, true, true, true, false, false, false, false, false, false, false] rfl rfl (any_of HT_.out (by kernel_rfl)) (fun _ _ _ h => h) (Or.inr ⟨by rfl, rfl⟩) ?_ ?_
                        rotate_left
                        · simp only [Act.put, List.setIfInBounds_toArray, List.set_cons_zero, List.set_cons_succ, i64_w, i32_w]
                          rfl
                        refine pure_ (i := 7) (N := some 64) (v := undef) (a' := ?_) #[true, true, true, true, true, true, true, true, false, false, false, false, false, false] rfl rfl (any_of HT_.out (by kernel_rfl)) (fun _ _ _ h => h) (Or.inr ⟨by rfl, rfl⟩) ?_ ?_
                        rotate_left
                        · simp only [Act.put, List.setIfInBounds_toArray, List.set_cons_zero, List.set_cons_succ, i64_w, i32_w]
                          rfl
                        refine pure_ (i := 8) (N := some 65) (v := undef) (a' := ?_) #[true, true, true, true, true, true, true, true, true, false, false, false, false, false] rfl rfl (any_of HT_.out (by kernel_rfl)) (fun _ _ _ h => h) (Or.inr ⟨by rfl, rfl⟩) ?_ ?_
                        rotate_left
                        · simp only [Act.put, List.setIfInBounds_toArray, List.set_cons_zero, List.set_cons_succ, i64_w, i32_w]
                          rfl
                        refine pure_ (i := 9) (N := some 66) (v := undef) (a' := ?_) #[true, true, true, true, true, true, true, true, true, true, false, false, false, false] rfl rfl (any_of HT_.out (by kernel_rfl)) (fun _ _ _ h => h) (Or.inr ⟨by rfl, rfl⟩) ?_ ?_
                        rotate_left
                        · simp only [Act.put, List.setIfInBounds_toArray, List.set_cons_zero, List.set_cons_succ, i64_w, i32_w]
                          rfl
                        refine pure_ (i := 10) (N := some 67) (v := undef) (a' := ?_) #[true, true, true, true, true, true, true, true, true, true, true, false, false, false] rfl rfl (any_of HT_.out (by kernel_rfl)) (fun _ _ _ h => h) (Or.inr ⟨by rfl, rfl⟩) ?_ ?_
                        rotate_left
                        · simp only [Act.put, List.setIfInBounds_toArray, List.set_cons_zero, List.set_cons_succ, i64_w, i32_w]
                          rfl
                        refine pure_ (i := 11) (N := some 68) (v := undef) (a' := ?_) #[true, true, true, true, true, true, true, true, true, true, true, true, false, false] rfl rfl (any_of HT_.out (by kernel_rfl)) (fun _ _ _ h => h) (Or.inr ⟨by rfl, rfl⟩) ?_ ?_
                        rotate_left
                        · simp only [Act.put, List.setIfInBounds_toArray, List.set_cons_zero, List.set_cons_succ, i64_w, i32_w]
                          rfl
                        refine pure_ (i := 12) (N := some 69) (v := undef) (a' := ?_) #[true, true, true, true, true, true, true, true, true, true, true, true, true, false] rfl rfl (any_of HT_.out (by kernel_rfl)) (fun _ _ _ h => h) (Or.inr ⟨by rfl, rfl⟩) ?_ ?_
                        rotate_left
                        · simp only [Act.put, List.setIfInBounds_toArray, List.set_cons_zero, List.set_cons_succ, i64_w, i32_w]
                          rfl
                        refine pure_ (i := 13) (N := some 70) (v := ?_) (a' := ?_) #[true, true, true, true, true, true, true, true, true, true, true, true, true, true] rfl rfl (any_of HT_.out (by kernel_rfl)) (fun _ _ _ h => h) (Or.inl ⟨by rfl, ?_⟩) ?_ ?_
                        rotate_left
                        · intro w'
                          go_simp
                          with_reducible rfl
                        rotate_left
                        · simp only [Act.put, List.setIfInBounds_toArray, List.set_cons_zero, List.set_cons_succ, i64_w, i32_w]
                          rfl
                        refine done_ (done_of HT_.out (by kernel_rfl)) ?_
                        have hcv62 := (by first | exact own_string (P := Tryd.prog) Tryd.underlying22 Tryd.underlying5 Tryd.underlying9 (Kd.own_of_R HO274.out) | exact V_string (P := Tryd.prog) Tryd.underlying22 Tryd.underlying5 Tryd.underlying9 HO274.out); have hcv62d := (by first | exact own_string_d (P := Tryd.prog) Tryd.underlying22 Tryd.underlying5 Tryd.underlying9 HO274.out | exact V_string_d (P := Tryd.prog) Tryd.underlying22 Tryd.underlying5 Tryd.underlying9 HO274.out)
                        have hcv63 := Kd.C_string (P := Tryd.prog) (A := A2) (c := c2) Tryd.underlying22 Tryd.underlying5 Tryd.underlying9 (Kd.C_below HR2.out HB.out)
                        try go_wp2
                        go_ret
                        exact ⟨by first | rfl | (simp [errW_none, errW_some] <;> rfl) | (simp only [← hji7]; first | rfl | (simp [errW_none, errW_some] <;> rfl)) | (simp [*, errW_none, errW_some] <;> rfl), by repeat (first | (with_reducible first | exact HB.out | apply below_alloc | apply pw_below_drewN | apply below_drew1) | exact HB.out)⟩
                      · rw [if_neg c47] at H
                        exact absurd H (by simp)
                    · rw [if_neg c46] at H
                      exact absurd H (by simp)
                  · rw [if_neg c45] at H
                    exact absurd H (by simp)
                · replace c44 := Bool.eq_false_iff.mpr c44
                  subst c44
                  have H1 : (none) = some r := by rw [if_neg (show ¬ (false = true) by decide)] at H; exact H
                  clear H
                  have H := H1
                  clear H1
                  exact absurd H (by simp)
            · rw [if_neg c14] at H
              exact absurd H (by simp)
          · rw [if_neg c13] at H
            exact absurd H (by simp)
        · replace c12 := Bool.eq_false_iff.mpr c12
          subst c12
          have H1 : (if t253 = true then (some ((t258.length : Int) == 0)) else (none)) = some r := by rw [if_neg (show ¬ (false = true) by decide)] at H; exact H
          clear H
          have H := H1
          clear H1
          by_cases c64 : t253 = true
          · subst c64
            have H1 : (some ((t258.length : Int) == 0)) = some r := by rw [if_pos rfl] at H; exact H
            clear H
            have H := H1
            clear H1
            obtain rfl := Option.some.inj H
            go_enter Tryd.func4, Tryd.ntmps4
            go_wp2_with (first | ((with_reducible refine gate_callee (f := 9) rfl ?_); refine goesL_ (some 16) rfl rfl Tryd.func9 (by kernel_rfl) rfl #[] rfl (by (try simp only [List.map_toArray, List.map_cons, List.map_nil]); first | done | rfl | (simp only [List.length_drop, List.length_take]; rfl)) ?_; (with_reducible refine (precentorlaw02_shown.calls k  true _ ?side1 A4.out).mono ?_); (case side1 => exact GB.below hG (by repeat (first | (with_reducible first | exact HB.out | apply below_alloc | apply pw_below_drewN | apply below_drew1) | exact HB.out))); rintro e w65 ⟨rfl, hb⟩; refine ⟨_, rfl, ?_⟩; have n0_ := Aside0.mk (below_step (by repeat (first | (with_reducible first | exact HB.out | apply below_alloc | apply pw_below_drewN | apply below_drew1) | exact HB.out)) hb); clear HB; have HB := n0_; clear n0_; (try clear hb); (try clear hb2); (try clear hk); (try clear hi)) | ((with_reducible refine gate_dst (N := 21) rfl ?_); (try (refine gate_guard (by rfl) ?_; dsimp only)); refine Kd.R_lit (Kd.int .i64) _ 3 ?hg (N := 21) ?hd (xs := ([1, 2, 8] : List Int)) (inner := [.int .i64 1, .int .i64 2, .int .i64 8]) (ok := fun _ => True) (okp := fun _ => True) ?hr ?hp (fun _ hk => hk) trivial (Below.refl _ _) (Nat.le_refl _) (by simp) ?_; (case hd => rfl); (case hg => rfl); (case hr => first | (go_simp; done) | (go_simp; rfl)); (case hp => exact (Reps.one (show Kd.M (Kd.int .i64) _ _ _ 1 [.int .i64 1] from rfl) (Reps.one (show Kd.M (Kd.int .i64) _ _ _ 2 [.int .i64 2] from rfl) (Reps.one (show Kd.M (Kd.int .i64) _ _ _ 8 [.int .i64 8] from rfl) (Reps.none _ _))))); intro v255 w66 ho67 hb hg_ hnew_; clear hg_ hnew_; (first | rw [← Ny254.out] at ho67 | (simp only [Int.reduceToNat] at ho67; rw [← Ny254.out] at ho67)); have n0_ := Aside0.mk (Kd.R_lower ho67 (below_size (by repeat (first | (with_reducible first | exact HB.out | apply below_alloc | apply pw_below_drewN | apply below_drew1) | exact HB.out)))); have n1_ := Aside0.mk (below_step (by repeat (first | (with_reducible first | exact HB.out | apply below_alloc | apply pw_below_drewN | apply below_drew1) | exact HB.out)) hb); clear HB; have HO256 := n0_; have HB := n1_; clear n0_ n1_; clear hb ho67; obtain ⟨Ao68, co68, eo68⟩ := Kd.R_slice HO256.out; subst eo68; have p257 : 0 ≤ ((ji7) : Int) := of_decide_eq_true (by first | (with_reducible assumption) | assumption); have q257 : (ji7) < (y254.length : Int) := of_decide_eq_true (by first | (with_reducible assumption) | assumption); obtain ⟨ad257, e257, hx257_0⟩ := Kd.at_int (Kd.R_reads' HO256.out).2.2 (ji7) p257 q257; cases e257; replace p257 := eq_true p257; replace q257 := eq_true q257) | ((with_reducible refine gate_callee (f := 17) rfl ?_); refine goesL_ (some 28) rfl rfl Tryd.func17 (by kernel_rfl) rfl #[.int .i64 a0, .int .i64 (rd y254 (ji7))] rfl (by (try simp only [List.map_toArray, List.map_cons, List.map_nil]); first | done | (simp only [hji7]; rfl) | rfl | (simp only [List.length_drop, List.length_take]; rfl)) ?_; (with_reducible refine (num_Put.calls k a0 (rd y254 (ji7)) t258 _ ?side1 A10.out).mono ?_); (case side1 => exact GB.below hG (by repeat (first | (with_reducible first | exact HB.out | apply below_alloc | apply pw_below_drewN | apply below_drew1) | exact HB.out))); rintro e w69 ⟨v259, rfl, ho0, hb⟩; refine ⟨_, rfl, ?_⟩; have n0_ := Aside0.mk (Kd.R_below (by (with_reducible repeat (first | apply Kd.R_alloc | apply Kd.R_drewN | apply Kd.R_drew)); exact HO256.out) hb); have n1_ := Aside0.mk (Kd.R_lower ho0 (below_size (by repeat (first | (with_reducible first | exact HB.out | apply below_alloc | apply pw_below_drewN | apply below_drew1) | exact HB.out)))); have n2_ := Aside0.mk (below_step (by repeat (first | (with_reducible first | exact HB.out | apply below_alloc | apply pw_below_drewN | apply below_drew1) | exact HB.out)) hb); clear HO256; clear HB; have HO256 := n0_; have HO260 := n1_; have HB := n2_; clear n0_ n1_ n2_; (try clear hb); (try clear hb2); (try clear hk); (try clear hi); (try clear ho0)) | ((with_reducible refine gate_callee (f := 15) rfl ?_); refine goesL_ (some 31) rfl rfl Tryd.func15 (by kernel_rfl) rfl #[.int .i64 a0, .int .i64 (rd y254 (ji7))] rfl (by (try simp only [List.map_toArray, List.map_cons, List.map_nil]); first | done | (simp only [hji7]; rfl) | rfl | (simp only [List.length_drop, List.length_take]; rfl)) ?_; (with_reducible refine (num_Fits.calls a0 (rd y254 (ji7)) false _ ?side1 A11.out).mono ?_); (case side1 => exact GB.below hG (by repeat (first | (with_reducible first | exact HB.out | apply below_alloc | apply pw_below_drewN | apply below_drew1) | exact HB.out))); rintro e w' ⟨rfl, ⟨nd, rfl⟩⟩; refine ⟨_, rfl, ?_⟩; obtain ⟨Ao70, co70, eo70⟩ := Kd.R_slice HO260.out; subst eo70))
            go_ret
            exact ⟨by first | rfl | (simp [errW_none, errW_some] <;> rfl) | (simp only [← hji7]; first | rfl | (simp [errW_none, errW_some] <;> rfl)) | (simp [*, errW_none, errW_some] <;> rfl), by repeat (first | (with_reducible first | exact HB.out | apply below_alloc | apply pw_below_drewN | apply below_drew1) | exact HB.out)⟩
          · replace c64 := Bool.eq_false_iff.mpr c64
            subst c64
            have H1 : (none) = some r := by rw [if_neg (show ¬ (false = true) by decide)] at H; exact H
            clear H
            have H := H1
            clear H1
            exact absurd H (by simp)
      · rw [if_neg c9] at H
        exact absurd H (by simp)
    · rw [if_neg c8] at H
      exact absurd H (by simp)

end Go.Proofs.YtejponabffffkaaDoor.Print
