/- The Go functions of this seat as Lean functions, and of each that its call does just what its Lean function says, where that says something. Condition: the arguments read as they are told. -/
import Derived.Test.YtkihhkhhmplnlaaPrint0
import Derived.Test.YtkihhkhhmplnlaaPrint1
import Derived.Test.YtkihhkhhmplnlaaPrint2
import Derived.Test.YtkihhkhhmplnlaaHand
namespace Go.Proofs.Ytkihhkhhmplnlaa.Print
open Go.RowKit Go.Proofs.YtkihhkhhmplnlaaW.PrintWords Go.Proofs.YtkihhkhhmplnlaaW.PrintLast Go.Proofs.YtkihhkhhmplnlaaW.PrintMore
attribute [local go_sem] max2_int min2_int max_two min_two max_three min_three max_four min_four   -- for this text's walks alone
set_option linter.unusedVariables false
set_option linter.unusedSimpArgs false

attribute [local go_sem high] eqA23
/-! ### precentorlaw13_MeterMore: function 6 -/
def precentorlaw13_MeterMore.j0 : Nat → Int → Int → Int → Bool → Bool → Int → Int → Int → Option (Bool)
  | 0, _, _, _, _, _, _, _, _ => none
  | k + 1, x4, x5, x6, x7, x34, x179000, x179001, x179002 => if x34 = true then (some x7) else ((meter_Add.f x179000 x179001 x179002 x4 x5).bind fun bt182 => ((meter_Add.f x179000 x179001 x179002 (wrap64 (x4 + (wrap64 (x6)))) x5).bind fun bt186 => (if x7 = true then (if bt182.2.1 ≤ bt186.2.1 then (if bt182.2.2 = bt186.2.2 then (if bt186.2.1 ≤ 1099511627776 then (if bt182.2.2 ≤ 1099511627776 then (if (wrap64 (x179001 + x4)) > 1099511627776 then (if (wrap64 (x179002 + x5)) > 1099511627776 then (some true) else (some (bt182.2.2 == (wrap64 (x179002 + x5))))) else (if bt182.2.1 = (wrap64 (x179001 + x4)) then (if (wrap64 (x179002 + x5)) > 1099511627776 then (some true) else (some (bt182.2.2 == (wrap64 (x179002 + x5))))) else (none))) else (none)) else (none)) else (none)) else (none)) else (none))))
def precentorlaw13_MeterMore.f (k : Nat) (a0_0 : Int) (a0_1 : Int) (a0_2 : Int) (a0_3 : Int) (a0_4 : Int) (a0_5 : Int) : Option (Bool) := (precentorlaw13_shown.f).bind fun t179 => ((precentorref13_Right.f a0_0 a0_1 a0_2).bind fun t180 => (if t180 = true then ((precentorref13_May.f a0_3 a0_4 1).bind fun t181 => (if t181 = true then (precentorlaw13_MeterMore.j0 k a0_3 a0_4 a0_5 t179 (decide ((wrap64 (a0_3 + (wrap64 (a0_5)))) > 1099511627776)) a0_0 a0_1 a0_2) else (precentorlaw13_MeterMore.j0 k a0_3 a0_4 a0_5 t179 true a0_0 a0_1 a0_2))) else (precentorlaw13_MeterMore.j0 k a0_3 a0_4 a0_5 t179 true a0_0 a0_1 a0_2)))
theorem precentorlaw13_MeterMore.mono_l : ∀ k, (∀ y0 y1 y2 y3 y4 y5 y6 y7, LeO (precentorlaw13_MeterMore.j0 k y0 y1 y2 y3 y4 y5 y6 y7) (precentorlaw13_MeterMore.j0 (k + 1) y0 y1 y2 y3 y4 y5 y6 y7))
  | 0 => fun _ _ _ _ _ _ _ _ r h => by simp [precentorlaw13_MeterMore.j0] at h
  | k + 1 => by
    have ih0 := precentorlaw13_MeterMore.mono_l k
    · intro y0 y1 y2 y3 y4 y5 y6 y7
      unfold precentorlaw13_MeterMore.j0
      repeat' first
      | (with_reducible exact ih0 _ _ _ _ _ _ _ _)
      | (with_reducible exact LeO.refl _)
      | (with_reducible exact LeO.none _)
      | (with_reducible refine LeO.ite ?_ ?_)
      | (with_reducible refine LeO.bind ?_ (fun _ => ?_))
      | exact ih0 _ _ _ _ _ _ _ _
      | exact LeO.none _
      | refine LeO.ite ?_ ?_
      | refine LeO.bind ?_ (fun _ => ?_)
theorem precentorlaw13_MeterMore.mono : ∀ a0 a1 a2 a3 a4 a5 k, LeO (precentorlaw13_MeterMore.f k a0 a1 a2 a3 a4 a5) (precentorlaw13_MeterMore.f (k + 1) a0 a1 a2 a3 a4 a5) := by
  intro a0 a1 a2 a3 a4 a5 k
  have ih0 := precentorlaw13_MeterMore.mono_l k
  unfold precentorlaw13_MeterMore.f
  repeat' first
      | (with_reducible exact ih0 _ _ _ _ _ _ _ _)
      | (with_reducible exact LeO.refl _)
      | (with_reducible exact LeO.none _)
      | (with_reducible refine LeO.ite ?_ ?_)
      | (with_reducible refine LeO.bind ?_ (fun _ => ?_))
      | exact ih0 _ _ _ _ _ _ _ _
      | exact LeO.none _
      | refine LeO.ite ?_ ?_
      | refine LeO.bind ?_ (fun _ => ?_)
set_option maxHeartbeats 8000000 in
set_option maxRecDepth 100000 in
theorem precentorlaw13_MeterMore.calls (k : Nat) (a0_0 : Int) (a0_1 : Int) (a0_2 : Int) (a0_3 : Int) (a0_4 : Int) (a0_5 : Int) (r : Bool) (w : World) (h : precentorlaw13_MeterMore.f k a0_0 a0_1 a0_2 a0_3 a0_4 a0_5 = some r) :
    Calls Try.prog 6 #[.agg #[.int .i64 a0_0, .int .i64 a0_1, .int .i64 a0_2, .int .i64 a0_3, .int .i64 a0_4, .int .u32 a0_5]] w fun e w' => e = .returned (.bool r) ∧ Below w.heap.size w w' := by
  have hu41 := Try.underlying41
  have hu23 := Try.underlying23
  have HB := Aside0.mk (Below.refl w.heap.size w)
  have H : ((precentorlaw13_shown.f).bind fun t179 => ((precentorref13_Right.f a0_0 a0_1 a0_2).bind fun t180 => (if t180 = true then ((precentorref13_May.f a0_3 a0_4 1).bind fun t181 => (if t181 = true then (precentorlaw13_MeterMore.j0 k a0_3 a0_4 a0_5 t179 (decide ((wrap64 (a0_3 + (wrap64 (a0_5)))) > 1099511627776)) a0_0 a0_1 a0_2) else (precentorlaw13_MeterMore.j0 k a0_3 a0_4 a0_5 t179 true a0_0 a0_1 a0_2))) else (precentorlaw13_MeterMore.j0 k a0_3 a0_4 a0_5 t179 true a0_0 a0_1 a0_2)))) = some r := h
  clear h
  replace H := Option.bind_eq_some_iff.mp H
  obtain ⟨t179, A20, H⟩ := H
  replace H : ((precentorref13_Right.f a0_0 a0_1 a0_2).bind fun t180 => (if t180 = true then ((precentorref13_May.f a0_3 a0_4 1).bind fun t181 => (if t181 = true then (precentorlaw13_MeterMore.j0 k a0_3 a0_4 a0_5 t179 (decide ((wrap64 (a0_3 + (wrap64 (a0_5)))) > 1099511627776)) a0_0 a0_1 a0_2) else (precentorlaw13_MeterMore.j0 k a0_3 a0_4 a0_5 t179 true a0_0 a0_1 a0_2))) else (precentorlaw13_MeterMore.j0 k a0_3 a0_4 a0_5 t179 true a0_0 a0_1 a0_2))) = some r := H
  have A2 := Aside0.mk A20
  clear A20
  have HC3 := Aside0.mk H
  clear H
  go_enter Try.func6, Try.ntmps6
  go_upto_region 6 with (first | ((with_reducible refine gate_dst (N := 1) rfl ?_); refine box_event ?hg (N := 1) ?hd (cs := #[.int .i64 a0_0, .int .i64 a0_1, .int .i64 a0_2, .int .i64 a0_3, .int .i64 a0_4, .int .u32 a0_5]) (t := 41) ?hr ?_; (case hd => rfl); (case hg => rfl); (case hr => first | (go_simp; done) | (go_simp; rfl)); intro gb177 hg w4 hbox hb; have n0_ := Aside0.mk (below_step (by repeat (first | (with_reducible first | exact HB.out | apply below_alloc | apply pw_below_drewN | apply below_drew1) | exact HB.out)) hb); have n1_ := Aside0.mk (hbox); have n2_ := Aside0.mk ((by rw [hg]; exact (below_size (by repeat (first | (with_reducible first | exact HB.out | apply below_alloc | apply pw_below_drewN | apply below_drew1) | exact HB.out))) : w.heap.size ≤ gb177)); have n3_ := Aside0.mk ((by rw [hg]; exact (below_size (by repeat (first | (with_reducible first | exact HB.out | apply below_alloc | apply pw_below_drewN | apply below_drew1) | exact HB.out))) : w.heap.size ≤ gb177)); clear HB; have HB := n0_; have BK177 := n1_; have GW177 := n2_; have GE177 := n3_; clear n0_ n1_ n2_ n3_; clear hb hbox hg; have hcz5_0 : w4.cell? ⟨gb177, 0, none⟩ = some (.int .i64 a0_0) := (blk_cell BK177.out 0).trans rfl; have hcz5_1 : w4.cell? ⟨gb177, 1, none⟩ = some (.int .i64 a0_1) := (blk_cell BK177.out 1).trans rfl; have hcz5_2 : w4.cell? ⟨gb177, 2, none⟩ = some (.int .i64 a0_2) := (blk_cell BK177.out 2).trans rfl; have hcz5_3 : w4.cell? ⟨gb177, 3, none⟩ = some (.int .i64 a0_3) := (blk_cell BK177.out 3).trans rfl; have hcz5_4 : w4.cell? ⟨gb177, 4, none⟩ = some (.int .i64 a0_4) := (blk_cell BK177.out 4).trans rfl; have hcz5_5 : w4.cell? ⟨gb177, 5, none⟩ = some (.int .u32 a0_5) := (blk_cell BK177.out 5).trans rfl; have hfz5_0 := blk_frozen BK177.out 0; have hfz5_1 := blk_frozen BK177.out 1; have hfz5_2 := blk_frozen BK177.out 2; have hfz5_3 := blk_frozen BK177.out 3; have hfz5_4 := blk_frozen BK177.out 4; have hfz5_5 := blk_frozen BK177.out 5) | ((with_reducible refine gate_dst (N := 3) rfl ?_); refine box_event ?hg (N := 3) ?hd (cs := #[.int .i64 0, .int .i64 0, .int .i64 0]) (t := 23) ?hr ?_; (case hd => rfl); (case hg => rfl); (case hr => first | (go_simp; done) | (go_simp; rfl)); intro gb178 hg w6 hbox hb; have n0_ := Aside0.mk (blk_below (g := gb177) (o := .cells #[.int .i64 a0_0, .int .i64 a0_1, .int .i64 a0_2, .int .i64 a0_3, .int .i64 a0_4, .int .u32 a0_5] 41 (0, 0)) (by (with_reducible repeat (first | refine blk_drewN ?_ _ | refine blk_drew ?_ | refine blk_alloc ?_ _)); exact BK177.out) hb); have n1_ := Aside0.mk (below_step (by repeat (first | (with_reducible first | exact HB.out | apply below_alloc | apply pw_below_drewN | apply below_drew1 | refine below_set ?_ GE177.out) | exact HB.out)) hb); have n2_ := Aside0.mk (hbox); have n3_ := Aside0.mk ((by rw [hg]; exact (below_size (by repeat (first | (with_reducible first | exact HB.out | apply below_alloc | apply pw_below_drewN | apply below_drew1 | refine below_set ?_ GE177.out) | exact HB.out))) : w.heap.size ≤ gb178)); have n4_ := Aside0.mk ((by rw [hg]; exact (below_size (by repeat (first | (with_reducible first | exact HB.out | apply below_alloc | apply pw_below_drewN | apply below_drew1 | refine below_set ?_ GE177.out) | exact HB.out))) : w.heap.size ≤ gb178)); have n5_ := Aside0.mk ((by rw [hg]; exact Nat.ne_of_lt (blk_lt (g := gb177) (o := .cells #[.int .i64 a0_0, .int .i64 a0_1, .int .i64 a0_2, .int .i64 a0_3, .int .i64 a0_4, .int .u32 a0_5] 41 (0, 0)) (by (with_reducible repeat (first | refine blk_drewN ?_ _ | refine blk_drew ?_ | refine blk_alloc ?_ _)); exact BK177.out)) : gb177 ≠ gb178)); have n6_ := Aside0.mk ((by rw [hg]; exact Nat.ne_of_gt (blk_lt (g := gb177) (o := .cells #[.int .i64 a0_0, .int .i64 a0_1, .int .i64 a0_2, .int .i64 a0_3, .int .i64 a0_4, .int .u32 a0_5] 41 (0, 0)) (by (with_reducible repeat (first | refine blk_drewN ?_ _ | refine blk_drew ?_ | refine blk_alloc ?_ _)); exact BK177.out)) : gb178 ≠ gb177)); clear BK177; clear HB; have BK177 := n0_; have HB := n1_; have BK178 := n2_; have GW178 := n3_; have GE178 := n4_; have NB177_178 := n5_; have NB178_177 := n6_; clear n0_ n1_ n2_ n3_ n4_ n5_ n6_; clear hb hbox hg; have hnb7 := NB178_177.out; have hnc7 := NB177_178.out; have hcz8_0 : w6.cell? ⟨gb178, 0, none⟩ = some (.int .i64 0) := (blk_cell BK178.out 0).trans rfl; have hcz8_1 : w6.cell? ⟨gb178, 1, none⟩ = some (.int .i64 0) := (blk_cell BK178.out 1).trans rfl; have hcz8_2 : w6.cell? ⟨gb178, 2, none⟩ = some (.int .i64 0) := (blk_cell BK178.out 2).trans rfl; have hfz8_0 := blk_frozen BK178.out 0; have hfz8_1 := blk_frozen BK178.out 1; have hfz8_2 := blk_frozen BK178.out 2; have hcz9_0 : w6.cell? ⟨gb177, 0, none⟩ = some (.int .i64 a0_0) := (blk_cell BK177.out 0).trans rfl; have hcz9_1 : w6.cell? ⟨gb177, 1, none⟩ = some (.int .i64 a0_1) := (blk_cell BK177.out 1).trans rfl; have hcz9_2 : w6.cell? ⟨gb177, 2, none⟩ = some (.int .i64 a0_2) := (blk_cell BK177.out 2).trans rfl; have hcz9_3 : w6.cell? ⟨gb177, 3, none⟩ = some (.int .i64 a0_3) := (blk_cell BK177.out 3).trans rfl; have hcz9_4 : w6.cell? ⟨gb177, 4, none⟩ = some (.int .i64 a0_4) := (blk_cell BK177.out 4).trans rfl; have hcz9_5 : w6.cell? ⟨gb177, 5, none⟩ = some (.int .u32 a0_5) := (blk_cell BK177.out 5).trans rfl; have hfz9_0 := blk_frozen BK177.out 0; have hfz9_1 := blk_frozen BK177.out 1; have hfz9_2 := blk_frozen BK177.out 2; have hfz9_3 := blk_frozen BK177.out 3; have hfz9_4 := blk_frozen BK177.out 4; have hfz9_5 := blk_frozen BK177.out 5) | ((with_reducible refine gate_callee (f := 7) rfl ?_); refine goesL_ (some 18) rfl rfl Try.func7 (by kernel_rfl) rfl #[] rfl (by (try simp only [List.map_toArray, List.map_cons, List.map_nil]); first | done | rfl | (simp only [List.length_drop, List.length_take]; rfl)) ?_; (with_reducible refine (precentorlaw13_shown.calls  t179 _ A2.out).mono ?_); rintro e w10 ⟨rfl, hb⟩; refine ⟨_, rfl, ?_⟩; have n0_ := Aside0.mk (blk_below (g := gb177) (o := .cells #[.int .i64 a0_0, .int .i64 a0_1, .int .i64 a0_2, .int .i64 a0_3, .int .i64 a0_4, .int .u32 a0_5] 41 (0, 0)) (by (with_reducible repeat (first | refine blk_drewN ?_ _ | refine blk_drew ?_ | refine blk_alloc ?_ _)); refine blk_far ?_ NB177_178.out _; (with_reducible repeat (first | refine blk_drewN ?_ _ | refine blk_drew ?_ | refine blk_alloc ?_ _)); refine blk_far ?_ NB177_178.out _; (with_reducible repeat (first | refine blk_drewN ?_ _ | refine blk_drew ?_ | refine blk_alloc ?_ _)); refine blk_far ?_ NB177_178.out _; (with_reducible repeat (first | refine blk_drewN ?_ _ | refine blk_drew ?_ | refine blk_alloc ?_ _)); exact BK177.out) hb); have n1_ := Aside0.mk (blk_below (g := gb178) (o := .cells #[.int .i64 a0_0, .int .i64 a0_1, .int .i64 a0_2] 23 (0, 0)) (by (with_reducible repeat (first | refine blk_drewN ?_ _ | refine blk_drew ?_ | refine blk_alloc ?_ _)); refine blk_put (cs := #[.int .i64 a0_0, .int .i64 a0_1, .int .i64 0]) ?_ 2 _ rfl; (with_reducible repeat (first | refine blk_drewN ?_ _ | refine blk_drew ?_ | refine blk_alloc ?_ _)); refine blk_put (cs := #[.int .i64 a0_0, .int .i64 0, .int .i64 0]) ?_ 1 _ rfl; (with_reducible repeat (first | refine blk_drewN ?_ _ | refine blk_drew ?_ | refine blk_alloc ?_ _)); refine blk_put (cs := #[.int .i64 0, .int .i64 0, .int .i64 0]) ?_ 0 _ rfl; (with_reducible repeat (first | refine blk_drewN ?_ _ | refine blk_drew ?_ | refine blk_alloc ?_ _)); exact BK178.out) hb); have n2_ := Aside0.mk (below_step (by repeat (first | (with_reducible first | exact HB.out | apply below_alloc | apply pw_below_drewN | apply below_drew1 | refine below_set ?_ GE177.out | refine below_set ?_ GE178.out) | exact HB.out)) hb); clear BK177; clear BK178; clear HB; have BK177 := n0_; have BK178 := n1_; have HB := n2_; clear n0_ n1_ n2_; (try clear hb); (try clear hb2); (try clear hk); (try clear hi)))
  (try simp only [Act.put, List.setIfInBounds_toArray, List.set_cons_zero, List.set_cons_succ])
  go_cut [34] (fun v34 wc => ∃ (kq : Nat) (x34_2 : Bool), v34 = .bool x34_2 ∧ Aside0 (precentorlaw13_MeterMore.j0 kq a0_3 a0_4 a0_5 t179 x34_2 a0_0 a0_1 a0_2 = some r) ∧ Aside0 (kq ≤ k) ∧ Aside0 (wc.heap[gb177]? = some (.cells #[.int .i64 a0_0, .int .i64 a0_1, .int .i64 a0_2, .int .i64 a0_3, .int .i64 a0_4, .int .u32 a0_5] 41 (0, 0))) ∧ Aside0 (wc.heap[gb178]? = some (.cells #[.int .i64 a0_0, .int .i64 a0_1, .int .i64 a0_2] 23 (0, 0))) ∧ Aside0 (Below w.heap.size w wc))
  case first =>
    have H := HC3.out
    clear HC3
    replace H := Option.bind_eq_some_iff.mp H
    obtain ⟨t180, A110, H⟩ := H
    replace H : (if t180 = true then ((precentorref13_May.f a0_3 a0_4 1).bind fun t181 => (if t181 = true then (precentorlaw13_MeterMore.j0 k a0_3 a0_4 a0_5 t179 (decide ((wrap64 (a0_3 + (wrap64 (a0_5)))) > 1099511627776)) a0_0 a0_1 a0_2) else (precentorlaw13_MeterMore.j0 k a0_3 a0_4 a0_5 t179 true a0_0 a0_1 a0_2))) else (precentorlaw13_MeterMore.j0 k a0_3 a0_4 a0_5 t179 true a0_0 a0_1 a0_2)) = some r := H
    have A11 := Aside0.mk A110
    clear A110
    by_cases c12 : t180 = true
    · subst c12
      have H1 : ((precentorref13_May.f a0_3 a0_4 1).bind fun t181 => (if t181 = true then (precentorlaw13_MeterMore.j0 k a0_3 a0_4 a0_5 t179 (decide ((wrap64 (a0_3 + (wrap64 (a0_5)))) > 1099511627776)) a0_0 a0_1 a0_2) else (precentorlaw13_MeterMore.j0 k a0_3 a0_4 a0_5 t179 true a0_0 a0_1 a0_2))) = some r := by rw [if_pos rfl] at H; exact H
      clear H
      have H := H1
      clear H1
      replace H := Option.bind_eq_some_iff.mp H
      obtain ⟨t181, A130, H⟩ := H
      replace H : (if t181 = true then (precentorlaw13_MeterMore.j0 k a0_3 a0_4 a0_5 t179 (decide ((wrap64 (a0_3 + (wrap64 (a0_5)))) > 1099511627776)) a0_0 a0_1 a0_2) else (precentorlaw13_MeterMore.j0 k a0_3 a0_4 a0_5 t179 true a0_0 a0_1 a0_2)) = some r := H
      have A13 := Aside0.mk A130
      clear A130
      by_cases c14 : t181 = true
      · subst c14
        have H1 : (precentorlaw13_MeterMore.j0 k a0_3 a0_4 a0_5 t179 (decide ((wrap64 (a0_3 + (wrap64 (a0_5)))) > 1099511627776)) a0_0 a0_1 a0_2) = some r := by rw [if_pos rfl] at H; exact H
        clear H
        have H := H1
        clear H1
        have H' := Aside0.mk H
        clear H
        have hnb15 := NB178_177.out
        have hnc15 := NB177_178.out
        have hcz16_0 : w10.cell? ⟨gb178, 0, none⟩ = some (.int .i64 a0_0) := (blk_cell BK178.out 0).trans rfl
        have hcz16_1 : w10.cell? ⟨gb178, 1, none⟩ = some (.int .i64 a0_1) := (blk_cell BK178.out 1).trans rfl
        have hcz16_2 : w10.cell? ⟨gb178, 2, none⟩ = some (.int .i64 a0_2) := (blk_cell BK178.out 2).trans rfl
        have hfz16_0 := blk_frozen BK178.out 0
        have hfz16_1 := blk_frozen BK178.out 1
        have hfz16_2 := blk_frozen BK178.out 2
        go_wp2_with (first | ((with_reducible refine gate_callee (f := 8) rfl ?_); refine goesL_ (some 20) rfl rfl Try.func8 (by kernel_rfl) rfl #[.agg #[.int .i64 a0_0, .int .i64 a0_1, .int .i64 a0_2]] rfl (by (try simp only [List.map_toArray, List.map_cons, List.map_nil]); first | done | rfl | (simp only [List.length_drop, List.length_take]; rfl)) ?_; (with_reducible refine (precentorref13_Right.calls a0_0 a0_1 a0_2 true _ A11.out).mono ?_); rintro e w17 ⟨rfl, hb⟩; refine ⟨_, rfl, ?_⟩; have n0_ := Aside0.mk (blk_below (g := gb177) (o := .cells #[.int .i64 a0_0, .int .i64 a0_1, .int .i64 a0_2, .int .i64 a0_3, .int .i64 a0_4, .int .u32 a0_5] 41 (0, 0)) (by (with_reducible repeat (first | refine blk_drewN ?_ _ | refine blk_drew ?_ | refine blk_alloc ?_ _)); exact BK177.out) hb); have n1_ := Aside0.mk (blk_below (g := gb178) (o := .cells #[.int .i64 a0_0, .int .i64 a0_1, .int .i64 a0_2] 23 (0, 0)) (by (with_reducible repeat (first | refine blk_drewN ?_ _ | refine blk_drew ?_ | refine blk_alloc ?_ _)); exact BK178.out) hb); have n2_ := Aside0.mk (below_step (by repeat (first | (with_reducible first | exact HB.out | apply below_alloc | apply pw_below_drewN | apply below_drew1 | refine below_set ?_ GE177.out | refine below_set ?_ GE178.out) | exact HB.out)) hb); clear BK177; clear BK178; clear HB; have BK177 := n0_; have BK178 := n1_; have HB := n2_; clear n0_ n1_ n2_; (try clear hb); (try clear hb2); (try clear hk); (try clear hi)) | (go_at_call 9; (with_reducible refine (precentorref13_May.calls a0_3 a0_4 1 true _ A13.out).mono ?_); rintro e w' ⟨rfl, ⟨nd, rfl⟩⟩))
        go_meet
        case rel => exact ⟨_, (decide ((wrap64 (a0_3 + (wrap64 (a0_5)))) > 1099511627776)), (by first | rfl | (simp; done) | (simp [*]; done)), H', ⟨by first | omega | exact Nat.le_refl _⟩, ⟨by (with_reducible repeat (first | refine blk_drewN ?_ _ | refine blk_drew ?_ | refine blk_alloc ?_ _)); exact BK177.out⟩, ⟨by (with_reducible repeat (first | refine blk_drewN ?_ _ | refine blk_drew ?_ | refine blk_alloc ?_ _)); exact BK178.out⟩, ⟨by repeat (first | (with_reducible first | exact HB.out | apply below_alloc | apply pw_below_drewN | apply below_drew1 | refine below_set ?_ GE177.out | refine below_set ?_ GE178.out) | exact HB.out)⟩⟩
      · replace c14 := Bool.eq_false_iff.mpr c14
        subst c14
        have H1 : (precentorlaw13_MeterMore.j0 k a0_3 a0_4 a0_5 t179 true a0_0 a0_1 a0_2) = some r := by rw [if_neg (show ¬ (false = true) by decide)] at H; exact H
        clear H
        have H := H1
        clear H1
        have H' := Aside0.mk H
        clear H
        have hnb18 := NB178_177.out
        have hnc18 := NB177_178.out
        have hcz19_0 : w10.cell? ⟨gb178, 0, none⟩ = some (.int .i64 a0_0) := (blk_cell BK178.out 0).trans rfl
        have hcz19_1 : w10.cell? ⟨gb178, 1, none⟩ = some (.int .i64 a0_1) := (blk_cell BK178.out 1).trans rfl
        have hcz19_2 : w10.cell? ⟨gb178, 2, none⟩ = some (.int .i64 a0_2) := (blk_cell BK178.out 2).trans rfl
        have hfz19_0 := blk_frozen BK178.out 0
        have hfz19_1 := blk_frozen BK178.out 1
        have hfz19_2 := blk_frozen BK178.out 2
        go_wp2_with (first | ((with_reducible refine gate_callee (f := 8) rfl ?_); refine goesL_ (some 20) rfl rfl Try.func8 (by kernel_rfl) rfl #[.agg #[.int .i64 a0_0, .int .i64 a0_1, .int .i64 a0_2]] rfl (by (try simp only [List.map_toArray, List.map_cons, List.map_nil]); first | done | rfl | (simp only [List.length_drop, List.length_take]; rfl)) ?_; (with_reducible refine (precentorref13_Right.calls a0_0 a0_1 a0_2 true _ A11.out).mono ?_); rintro e w20 ⟨rfl, hb⟩; refine ⟨_, rfl, ?_⟩; have n0_ := Aside0.mk (blk_below (g := gb177) (o := .cells #[.int .i64 a0_0, .int .i64 a0_1, .int .i64 a0_2, .int .i64 a0_3, .int .i64 a0_4, .int .u32 a0_5] 41 (0, 0)) (by (with_reducible repeat (first | refine blk_drewN ?_ _ | refine blk_drew ?_ | refine blk_alloc ?_ _)); exact BK177.out) hb); have n1_ := Aside0.mk (blk_below (g := gb178) (o := .cells #[.int .i64 a0_0, .int .i64 a0_1, .int .i64 a0_2] 23 (0, 0)) (by (with_reducible repeat (first | refine blk_drewN ?_ _ | refine blk_drew ?_ | refine blk_alloc ?_ _)); exact BK178.out) hb); have n2_ := Aside0.mk (below_step (by repeat (first | (with_reducible first | exact HB.out | apply below_alloc | apply pw_below_drewN | apply below_drew1 | refine below_set ?_ GE177.out | refine below_set ?_ GE178.out) | exact HB.out)) hb); clear BK177; clear BK178; clear HB; have BK177 := n0_; have BK178 := n1_; have HB := n2_; clear n0_ n1_ n2_; (try clear hb); (try clear hb2); (try clear hk); (try clear hi)) | (go_at_call 9; (with_reducible refine (precentorref13_May.calls a0_3 a0_4 1 false _ A13.out).mono ?_); rintro e w' ⟨rfl, ⟨nd, rfl⟩⟩))
        go_meet
        case rel => exact ⟨_, (true), (by first | rfl | (simp; done) | (simp [*]; done)), H', ⟨by first | omega | exact Nat.le_refl _⟩, ⟨by (with_reducible repeat (first | refine blk_drewN ?_ _ | refine blk_drew ?_ | refine blk_alloc ?_ _)); exact BK177.out⟩, ⟨by (with_reducible repeat (first | refine blk_drewN ?_ _ | refine blk_drew ?_ | refine blk_alloc ?_ _)); exact BK178.out⟩, ⟨by repeat (first | (with_reducible first | exact HB.out | apply below_alloc | apply pw_below_drewN | apply below_drew1 | refine below_set ?_ GE177.out | refine below_set ?_ GE178.out) | exact HB.out)⟩⟩
    · replace c12 := Bool.eq_false_iff.mpr c12
      subst c12
      have H1 : (precentorlaw13_MeterMore.j0 k a0_3 a0_4 a0_5 t179 true a0_0 a0_1 a0_2) = some r := by rw [if_neg (show ¬ (false = true) by decide)] at H; exact H
      clear H
      have H := H1
      clear H1
      have H' := Aside0.mk H
      clear H
      have hnb21 := NB178_177.out
      have hnc21 := NB177_178.out
      have hcz22_0 : w10.cell? ⟨gb178, 0, none⟩ = some (.int .i64 a0_0) := (blk_cell BK178.out 0).trans rfl
      have hcz22_1 : w10.cell? ⟨gb178, 1, none⟩ = some (.int .i64 a0_1) := (blk_cell BK178.out 1).trans rfl
      have hcz22_2 : w10.cell? ⟨gb178, 2, none⟩ = some (.int .i64 a0_2) := (blk_cell BK178.out 2).trans rfl
      have hfz22_0 := blk_frozen BK178.out 0
      have hfz22_1 := blk_frozen BK178.out 1
      have hfz22_2 := blk_frozen BK178.out 2
      go_wp2_with (first | ((with_reducible refine gate_callee (f := 8) rfl ?_); refine goesL_ (some 20) rfl rfl Try.func8 (by kernel_rfl) rfl #[.agg #[.int .i64 a0_0, .int .i64 a0_1, .int .i64 a0_2]] rfl (by (try simp only [List.map_toArray, List.map_cons, List.map_nil]); first | done | rfl | (simp only [List.length_drop, List.length_take]; rfl)) ?_; (with_reducible refine (precentorref13_Right.calls a0_0 a0_1 a0_2 false _ A11.out).mono ?_); rintro e w23 ⟨rfl, hb⟩; refine ⟨_, rfl, ?_⟩; have n0_ := Aside0.mk (blk_below (g := gb177) (o := .cells #[.int .i64 a0_0, .int .i64 a0_1, .int .i64 a0_2, .int .i64 a0_3, .int .i64 a0_4, .int .u32 a0_5] 41 (0, 0)) (by (with_reducible repeat (first | refine blk_drewN ?_ _ | refine blk_drew ?_ | refine blk_alloc ?_ _)); exact BK177.out) hb); have n1_ := Aside0.mk (blk_below (g := gb178) (o := .cells #[.int .i64 a0_0, .int .i64 a0_1, .int .i64 a0_2] 23 (0, 0)) (by (with_reducible repeat (first | refine blk_drewN ?_ _ | refine blk_drew ?_ | refine blk_alloc ?_ _)); exact BK178.out) hb); have n2_ := Aside0.mk (below_step (by repeat (first | (with_reducible first | exact HB.out | apply below_alloc | apply pw_below_drewN | apply below_drew1 | refine below_set ?_ GE177.out | refine below_set ?_ GE178.out) | exact HB.out)) hb); clear BK177; clear BK178; clear HB; have BK177 := n0_; have BK178 := n1_; have HB := n2_; clear n0_ n1_ n2_; (try clear hb); (try clear hb2); (try clear hk); (try clear hi)))
      go_meet
      case rel => exact ⟨_, (true), (by first | rfl | (simp; done) | (simp [*]; done)), H', ⟨by first | omega | exact Nat.le_refl _⟩, ⟨by (with_reducible repeat (first | refine blk_drewN ?_ _ | refine blk_drew ?_ | refine blk_alloc ?_ _)); exact BK177.out⟩, ⟨by (with_reducible repeat (first | refine blk_drewN ?_ _ | refine blk_drew ?_ | refine blk_alloc ?_ _)); exact BK178.out⟩, ⟨by repeat (first | (with_reducible first | exact HB.out | apply below_alloc | apply pw_below_drewN | apply below_drew1 | refine below_set ?_ GE177.out | refine below_set ?_ GE178.out) | exact HB.out)⟩⟩
  case rest =>
    clear HC3
    try clear c1
    try clear c2
    try clear p2
    try clear c6
    try clear p6
    try clear c7
    try clear c8
    try clear c12
    try clear c14
    try clear c15
    try clear c18
    try clear c21
    try clear hcz16_0
    try clear hcz16_1
    try clear hcz16_2
    try clear hcz19_0
    try clear hcz19_1
    try clear hcz19_2
    try clear hcz22_0
    try clear hcz22_1
    try clear hcz22_2
    try clear hcz5_0
    try clear hcz5_1
    try clear hcz5_2
    try clear hcz5_3
    try clear hcz5_4
    try clear hcz5_5
    try clear hcz8_0
    try clear hcz8_1
    try clear hcz8_2
    try clear hcz9_0
    try clear hcz9_1
    try clear hcz9_2
    try clear hcz9_3
    try clear hcz9_4
    try clear hcz9_5
    try clear hfz16_0
    try clear hfz16_1
    try clear hfz16_2
    try clear hfz19_0
    try clear hfz19_1
    try clear hfz19_2
    try clear hfz22_0
    try clear hfz22_1
    try clear hfz22_2
    try clear hfz5_0
    try clear hfz5_1
    try clear hfz5_2
    try clear hfz5_3
    try clear hfz5_4
    try clear hfz5_5
    try clear hfz8_0
    try clear hfz8_1
    try clear hfz8_2
    try clear hfz9_0
    try clear hfz9_1
    try clear hfz9_2
    try clear hfz9_3
    try clear hfz9_4
    try clear hfz9_5
    obtain ⟨kq, x34_2, rfl, HA, HJ2, BK177, BK178, HB⟩ := hcut
    cases kq with
    | zero => exact absurd HA.out (by simp [precentorlaw13_MeterMore.j0])
    | succ kj2 =>
      have H := HA.out
      clear HA
      simp only [precentorlaw13_MeterMore.j0] at H
      by_cases c24 : x34_2 = true
      · subst c24
        have H1 : (some t179) = some r := by rw [if_pos rfl] at H; exact H
        clear H
        have H := H1
        clear H1
        obtain rfl := Option.some.inj H
        go_wp2
        go_ret
        exact ⟨by first | rfl | (simp [errW_none, errW_some] <;> rfl) | (simp [*, errW_none, errW_some] <;> rfl), by repeat (first | (with_reducible first | exact HB.out | apply below_alloc | apply pw_below_drewN | apply below_drew1 | refine below_set ?_ GE177.out | refine below_set ?_ GE178.out) | exact HB.out)⟩
      · replace c24 := Bool.eq_false_iff.mpr c24
        subst c24
        have H1 : ((meter_Add.f a0_0 a0_1 a0_2 a0_3 a0_4).bind fun bt182 => ((meter_Add.f a0_0 a0_1 a0_2 (wrap64 (a0_3 + (wrap64 (a0_5)))) a0_4).bind fun bt186 => (if t179 = true then (if bt182.2.1 ≤ bt186.2.1 then (if bt182.2.2 = bt186.2.2 then (if bt186.2.1 ≤ 1099511627776 then (if bt182.2.2 ≤ 1099511627776 then (if (wrap64 (a0_1 + a0_3)) > 1099511627776 then (if (wrap64 (a0_2 + a0_4)) > 1099511627776 then (some true) else (some (bt182.2.2 == (wrap64 (a0_2 + a0_4))))) else (if bt182.2.1 = (wrap64 (a0_1 + a0_3)) then (if (wrap64 (a0_2 + a0_4)) > 1099511627776 then (some true) else (some (bt182.2.2 == (wrap64 (a0_2 + a0_4))))) else (none))) else (none)) else (none)) else (none)) else (none)) else (none)))) = some r := by rw [if_neg (show ¬ (false = true) by decide)] at H; exact H
        clear H
        have H := H1
        clear H1
        replace H := Option.bind_eq_some_iff.mp H
        obtain ⟨⟨t182, t183, t184⟩, A250, H⟩ := H
        replace H : ((meter_Add.f a0_0 a0_1 a0_2 (wrap64 (a0_3 + (wrap64 (a0_5)))) a0_4).bind fun bt186 => (if t179 = true then (if t183 ≤ bt186.2.1 then (if t184 = bt186.2.2 then (if bt186.2.1 ≤ 1099511627776 then (if t184 ≤ 1099511627776 then (if (wrap64 (a0_1 + a0_3)) > 1099511627776 then (if (wrap64 (a0_2 + a0_4)) > 1099511627776 then (some true) else (some (t184 == (wrap64 (a0_2 + a0_4))))) else (if t183 = (wrap64 (a0_1 + a0_3)) then (if (wrap64 (a0_2 + a0_4)) > 1099511627776 then (some true) else (some (t184 == (wrap64 (a0_2 + a0_4))))) else (none))) else (none)) else (none)) else (none)) else (none)) else (none))) = some r := H
        have A25 := Aside0.mk A250
        clear A250
        replace H := Option.bind_eq_some_iff.mp H
        obtain ⟨⟨t186, t187, t188⟩, A260, H⟩ := H
        replace H : (if t179 = true then (if t183 ≤ t187 then (if t184 = t188 then (if t187 ≤ 1099511627776 then (if t184 ≤ 1099511627776 then (if (wrap64 (a0_1 + a0_3)) > 1099511627776 then (if (wrap64 (a0_2 + a0_4)) > 1099511627776 then (some true) else (some (t184 == (wrap64 (a0_2 + a0_4))))) else (if t183 = (wrap64 (a0_1 + a0_3)) then (if (wrap64 (a0_2 + a0_4)) > 1099511627776 then (some true) else (some (t184 == (wrap64 (a0_2 + a0_4))))) else (none))) else (none)) else (none)) else (none)) else (none)) else (none)) = some r := H
        have A26 := Aside0.mk A260
        clear A260
        by_cases c27 : t179 = true
        · subst c27
          have H1 : (if t183 ≤ t187 then (if t184 = t188 then (if t187 ≤ 1099511627776 then (if t184 ≤ 1099511627776 then (if (wrap64 (a0_1 + a0_3)) > 1099511627776 then (if (wrap64 (a0_2 + a0_4)) > 1099511627776 then (some true) else (some (t184 == (wrap64 (a0_2 + a0_4))))) else (if t183 = (wrap64 (a0_1 + a0_3)) then (if (wrap64 (a0_2 + a0_4)) > 1099511627776 then (some true) else (some (t184 == (wrap64 (a0_2 + a0_4))))) else (none))) else (none)) else (none)) else (none)) else (none)) = some r := by rw [if_pos rfl] at H; exact H
          clear H
          have H := H1
          clear H1
          by_cases c28 : t183 ≤ t187
          · rw [if_pos c28] at H
            have c28b0 : decide (t183 ≤ t187) = true := decide_eq_true c28
            clear c28
            by_cases c29 : t184 = t188
            · rw [if_pos c29] at H
              have c29b0 : (t184 == t188) = true := beq_iff_eq.mpr c29
              have c29b1 : (t184 != t188) = false := bne_eq_false_iff_eq.mpr c29
              clear c29
              by_cases c30 : t187 ≤ 1099511627776
              · rw [if_pos c30] at H
                have c30b0 : decide (t187 ≤ 1099511627776) = true := decide_eq_true c30
                clear c30
                by_cases c31 : t184 ≤ 1099511627776
                · rw [if_pos c31] at H
                  have c31b0 : decide (t184 ≤ 1099511627776) = true := decide_eq_true c31
                  clear c31
                  by_cases c32 : (wrap64 (a0_1 + a0_3)) > 1099511627776
                  · rw [if_pos c32] at H
                    have c32b0 : decide (1099511627776 < (wrap64 (a0_1 + a0_3))) = true := decide_eq_true c32
                    clear c32
                    by_cases c33 : (wrap64 (a0_2 + a0_4)) > 1099511627776
                    · rw [if_pos c33] at H
                      have c33b0 : decide (1099511627776 < (wrap64 (a0_2 + a0_4))) = true := decide_eq_true c33
                      clear c33
                      obtain rfl := Option.some.inj H
                      have hnb34 := NB178_177.out
                      have hnc34 := NB177_178.out
                      have hcz35_0 : wc.cell? ⟨gb178, 0, none⟩ = some (.int .i64 a0_0) := (blk_cell BK178.out 0).trans rfl
                      have hcz35_1 : wc.cell? ⟨gb178, 1, none⟩ = some (.int .i64 a0_1) := (blk_cell BK178.out 1).trans rfl
                      have hcz35_2 : wc.cell? ⟨gb178, 2, none⟩ = some (.int .i64 a0_2) := (blk_cell BK178.out 2).trans rfl
                      have hfz35_0 := blk_frozen BK178.out 0
                      have hfz35_1 := blk_frozen BK178.out 1
                      have hfz35_2 := blk_frozen BK178.out 2
                      go_wp2_with (first | ((with_reducible refine gate_callee (f := 12) rfl ?_); refine goesL_ (some 39) rfl rfl Try.func12 (by kernel_rfl) rfl #[.agg #[.int .i64 a0_0, .int .i64 a0_1, .int .i64 a0_2], .int .i64 a0_3, .int .i64 a0_4] rfl (by (try simp only [List.map_toArray, List.map_cons, List.map_nil]); first | done | rfl | (simp only [List.length_drop, List.length_take]; rfl)) ?_; (with_reducible refine (meter_Add.calls a0_0 a0_1 a0_2 a0_3 a0_4 t182 t183 t184 _ A25.out).mono ?_); rintro e w36 ⟨rfl, hb⟩; refine ⟨_, rfl, ?_⟩; have n0_ := Aside0.mk (blk_below (g := gb177) (o := .cells #[.int .i64 a0_0, .int .i64 a0_1, .int .i64 a0_2, .int .i64 a0_3, .int .i64 a0_4, .int .u32 a0_5] 41 (0, 0)) (by (with_reducible repeat (first | refine blk_drewN ?_ _ | refine blk_drew ?_ | refine blk_alloc ?_ _)); exact BK177.out) hb); have n1_ := Aside0.mk (blk_below (g := gb178) (o := .cells #[.int .i64 a0_0, .int .i64 a0_1, .int .i64 a0_2] 23 (0, 0)) (by (with_reducible repeat (first | refine blk_drewN ?_ _ | refine blk_drew ?_ | refine blk_alloc ?_ _)); exact BK178.out) hb); have n2_ := Aside0.mk (below_step (by repeat (first | (with_reducible first | exact HB.out | apply below_alloc | apply pw_below_drewN | apply below_drew1 | refine below_set ?_ GE177.out | refine below_set ?_ GE178.out) | exact HB.out)) hb); clear BK177; clear BK178; clear HB; have BK177 := n0_; have BK178 := n1_; have HB := n2_; clear n0_ n1_ n2_; (try clear hb); (try clear hb2); (try clear hk); (try clear hi)) | ((with_reducible refine gate_dst (N := 8) rfl ?_); refine box_event ?hg (N := 8) ?hd (cs := #[.int .i64 0, .int .i64 0, .int .i64 0]) (t := 23) ?hr ?_; (case hd => rfl); (case hg => rfl); (case hr => first | (go_simp; done) | (go_simp; rfl)); intro gb185 hg w37 hbox hb; have n0_ := Aside0.mk (blk_below (g := gb177) (o := .cells #[.int .i64 a0_0, .int .i64 a0_1, .int .i64 a0_2, .int .i64 a0_3, .int .i64 a0_4, .int .u32 a0_5] 41 (0, 0)) (by (with_reducible repeat (first | refine blk_drewN ?_ _ | refine blk_drew ?_ | refine blk_alloc ?_ _)); exact BK177.out) hb); have n1_ := Aside0.mk (blk_below (g := gb178) (o := .cells #[.int .i64 a0_0, .int .i64 a0_1, .int .i64 a0_2] 23 (0, 0)) (by (with_reducible repeat (first | refine blk_drewN ?_ _ | refine blk_drew ?_ | refine blk_alloc ?_ _)); exact BK178.out) hb); have n2_ := Aside0.mk (below_step (by repeat (first | (with_reducible first | exact HB.out | apply below_alloc | apply pw_below_drewN | apply below_drew1 | refine below_set ?_ GE177.out | refine below_set ?_ GE178.out) | exact HB.out)) hb); have n3_ := Aside0.mk (hbox); have n4_ := Aside0.mk ((by rw [hg]; exact (below_size (by repeat (first | (with_reducible first | exact HB.out | apply below_alloc | apply pw_below_drewN | apply below_drew1 | refine below_set ?_ GE177.out | refine below_set ?_ GE178.out) | exact HB.out))) : w.heap.size ≤ gb185)); have n5_ := Aside0.mk ((by rw [hg]; exact (below_size (by repeat (first | (with_reducible first | exact HB.out | apply below_alloc | apply pw_below_drewN | apply below_drew1 | refine below_set ?_ GE177.out | refine below_set ?_ GE178.out) | exact HB.out))) : w.heap.size ≤ gb185)); have n6_ := Aside0.mk ((by rw [hg]; exact Nat.ne_of_lt (blk_lt (g := gb177) (o := .cells #[.int .i64 a0_0, .int .i64 a0_1, .int .i64 a0_2, .int .i64 a0_3, .int .i64 a0_4, .int .u32 a0_5] 41 (0, 0)) (by (with_reducible repeat (first | refine blk_drewN ?_ _ | refine blk_drew ?_ | refine blk_alloc ?_ _)); exact BK177.out)) : gb177 ≠ gb185)); have n7_ := Aside0.mk ((by rw [hg]; exact Nat.ne_of_gt (blk_lt (g := gb177) (o := .cells #[.int .i64 a0_0, .int .i64 a0_1, .int .i64 a0_2, .int .i64 a0_3, .int .i64 a0_4, .int .u32 a0_5] 41 (0, 0)) (by (with_reducible repeat (first | refine blk_drewN ?_ _ | refine blk_drew ?_ | refine blk_alloc ?_ _)); exact BK177.out)) : gb185 ≠ gb177)); have n8_ := Aside0.mk ((by rw [hg]; exact Nat.ne_of_lt (blk_lt (g := gb178) (o := .cells #[.int .i64 a0_0, .int .i64 a0_1, .int .i64 a0_2] 23 (0, 0)) (by (with_reducible repeat (first | refine blk_drewN ?_ _ | refine blk_drew ?_ | refine blk_alloc ?_ _)); exact BK178.out)) : gb178 ≠ gb185)); have n9_ := Aside0.mk ((by rw [hg]; exact Nat.ne_of_gt (blk_lt (g := gb178) (o := .cells #[.int .i64 a0_0, .int .i64 a0_1, .int .i64 a0_2] 23 (0, 0)) (by (with_reducible repeat (first | refine blk_drewN ?_ _ | refine blk_drew ?_ | refine blk_alloc ?_ _)); exact BK178.out)) : gb185 ≠ gb178)); clear BK177; clear BK178; clear HB; have BK177 := n0_; have BK178 := n1_; have HB := n2_; have BK185 := n3_; have GW185 := n4_; have GE185 := n5_; have NB177_185 := n6_; have NB185_177 := n7_; have NB178_185 := n8_; have NB185_178 := n9_; clear n0_ n1_ n2_ n3_ n4_ n5_ n6_ n7_ n8_ n9_; clear hb hbox hg; have hnb38 := NB185_177.out; have hnc38 := NB177_185.out; have hnb39 := NB185_178.out; have hnc39 := NB178_185.out; have hcz40_0 : w37.cell? ⟨gb185, 0, none⟩ = some (.int .i64 0) := (blk_cell BK185.out 0).trans rfl; have hcz40_1 : w37.cell? ⟨gb185, 1, none⟩ = some (.int .i64 0) := (blk_cell BK185.out 1).trans rfl; have hcz40_2 : w37.cell? ⟨gb185, 2, none⟩ = some (.int .i64 0) := (blk_cell BK185.out 2).trans rfl; have hfz40_0 := blk_frozen BK185.out 0; have hfz40_1 := blk_frozen BK185.out 1; have hfz40_2 := blk_frozen BK185.out 2; have hcz41_0 : w37.cell? ⟨gb178, 0, none⟩ = some (.int .i64 a0_0) := (blk_cell BK178.out 0).trans rfl; have hcz41_1 : w37.cell? ⟨gb178, 1, none⟩ = some (.int .i64 a0_1) := (blk_cell BK178.out 1).trans rfl; have hcz41_2 : w37.cell? ⟨gb178, 2, none⟩ = some (.int .i64 a0_2) := (blk_cell BK178.out 2).trans rfl; have hfz41_0 := blk_frozen BK178.out 0; have hfz41_1 := blk_frozen BK178.out 1; have hfz41_2 := blk_frozen BK178.out 2) | ((with_reducible refine gate_callee (f := 12) rfl ?_); refine goesL_ (some 46) rfl rfl Try.func12 (by kernel_rfl) rfl #[.agg #[.int .i64 a0_0, .int .i64 a0_1, .int .i64 a0_2], .int .i64 (wrap64 (a0_3 + (wrap64 (a0_5)))), .int .i64 a0_4] rfl (by (try simp only [List.map_toArray, List.map_cons, List.map_nil]); first | done | rfl | (simp only [List.length_drop, List.length_take]; rfl)) ?_; (with_reducible refine (meter_Add.calls a0_0 a0_1 a0_2 (wrap64 (a0_3 + (wrap64 (a0_5)))) a0_4 t186 t187 t188 _ A26.out).mono ?_); rintro e w42 ⟨rfl, hb⟩; refine ⟨_, rfl, ?_⟩; have n0_ := Aside0.mk (blk_below (g := gb177) (o := .cells #[.int .i64 a0_0, .int .i64 a0_1, .int .i64 a0_2, .int .i64 a0_3, .int .i64 a0_4, .int .u32 a0_5] 41 (0, 0)) (by (with_reducible repeat (first | refine blk_drewN ?_ _ | refine blk_drew ?_ | refine blk_alloc ?_ _)); refine blk_far ?_ NB177_185.out _; (with_reducible repeat (first | refine blk_drewN ?_ _ | refine blk_drew ?_ | refine blk_alloc ?_ _)); refine blk_far ?_ NB177_185.out _; (with_reducible repeat (first | refine blk_drewN ?_ _ | refine blk_drew ?_ | refine blk_alloc ?_ _)); refine blk_far ?_ NB177_185.out _; (with_reducible repeat (first | refine blk_drewN ?_ _ | refine blk_drew ?_ | refine blk_alloc ?_ _)); exact BK177.out) hb); have n1_ := Aside0.mk (blk_below (g := gb178) (o := .cells #[.int .i64 a0_0, .int .i64 a0_1, .int .i64 a0_2] 23 (0, 0)) (by (with_reducible repeat (first | refine blk_drewN ?_ _ | refine blk_drew ?_ | refine blk_alloc ?_ _)); refine blk_far ?_ NB178_185.out _; (with_reducible repeat (first | refine blk_drewN ?_ _ | refine blk_drew ?_ | refine blk_alloc ?_ _)); refine blk_far ?_ NB178_185.out _; (with_reducible repeat (first | refine blk_drewN ?_ _ | refine blk_drew ?_ | refine blk_alloc ?_ _)); refine blk_far ?_ NB178_185.out _; (with_reducible repeat (first | refine blk_drewN ?_ _ | refine blk_drew ?_ | refine blk_alloc ?_ _)); exact BK178.out) hb); have n2_ := Aside0.mk (blk_below (g := gb185) (o := .cells #[.int .i64 t182, .int .i64 t183, .int .i64 t184] 23 (0, 0)) (by (with_reducible repeat (first | refine blk_drewN ?_ _ | refine blk_drew ?_ | refine blk_alloc ?_ _)); refine blk_put (cs := #[.int .i64 t182, .int .i64 t183, .int .i64 0]) ?_ 2 _ rfl; (with_reducible repeat (first | refine blk_drewN ?_ _ | refine blk_drew ?_ | refine blk_alloc ?_ _)); refine blk_put (cs := #[.int .i64 t182, .int .i64 0, .int .i64 0]) ?_ 1 _ rfl; (with_reducible repeat (first | refine blk_drewN ?_ _ | refine blk_drew ?_ | refine blk_alloc ?_ _)); refine blk_put (cs := #[.int .i64 0, .int .i64 0, .int .i64 0]) ?_ 0 _ rfl; (with_reducible repeat (first | refine blk_drewN ?_ _ | refine blk_drew ?_ | refine blk_alloc ?_ _)); exact BK185.out) hb); have n3_ := Aside0.mk (below_step (by repeat (first | (with_reducible first | exact HB.out | apply below_alloc | apply pw_below_drewN | apply below_drew1 | refine below_set ?_ GE177.out | refine below_set ?_ GE178.out | refine below_set ?_ GE185.out) | exact HB.out)) hb); clear BK177; clear BK178; clear BK185; clear HB; have BK177 := n0_; have BK178 := n1_; have BK185 := n2_; have HB := n3_; clear n0_ n1_ n2_ n3_; (try clear hb); (try clear hb2); (try clear hk); (try clear hi)) | ((with_reducible refine gate_dst (N := 9) rfl ?_); refine box_event ?hg (N := 9) ?hd (cs := #[.int .i64 0, .int .i64 0, .int .i64 0]) (t := 23) ?hr ?_; (case hd => rfl); (case hg => rfl); (case hr => first | (go_simp; done) | (go_simp; rfl)); intro gb189 hg w43 hbox hb; have n0_ := Aside0.mk (blk_below (g := gb177) (o := .cells #[.int .i64 a0_0, .int .i64 a0_1, .int .i64 a0_2, .int .i64 a0_3, .int .i64 a0_4, .int .u32 a0_5] 41 (0, 0)) (by (with_reducible repeat (first | refine blk_drewN ?_ _ | refine blk_drew ?_ | refine blk_alloc ?_ _)); exact BK177.out) hb); have n1_ := Aside0.mk (blk_below (g := gb178) (o := .cells #[.int .i64 a0_0, .int .i64 a0_1, .int .i64 a0_2] 23 (0, 0)) (by (with_reducible repeat (first | refine blk_drewN ?_ _ | refine blk_drew ?_ | refine blk_alloc ?_ _)); exact BK178.out) hb); have n2_ := Aside0.mk (blk_below (g := gb185) (o := .cells #[.int .i64 t182, .int .i64 t183, .int .i64 t184] 23 (0, 0)) (by (with_reducible repeat (first | refine blk_drewN ?_ _ | refine blk_drew ?_ | refine blk_alloc ?_ _)); exact BK185.out) hb); have n3_ := Aside0.mk (below_step (by repeat (first | (with_reducible first | exact HB.out | apply below_alloc | apply pw_below_drewN | apply below_drew1 | refine below_set ?_ GE177.out | refine below_set ?_ GE178.out | refine below_set ?_ GE185.out) | exact HB.out)) hb); have n4_ := Aside0.mk (hbox); have n5_ := Aside0.mk ((by rw [hg]; exact (below_size (by repeat (first | (with_reducible first | exact HB.out | apply below_alloc | apply pw_below_drewN | apply below_drew1 | refine below_set ?_ GE177.out | refine below_set ?_ GE178.out | refine below_set ?_ GE185.out) | exact HB.out))) : w.heap.size ≤ gb189)); have n6_ := Aside0.mk ((by rw [hg]; exact (below_size (by repeat (first | (with_reducible first | exact HB.out | apply below_alloc | apply pw_below_drewN | apply below_drew1 | refine below_set ?_ GE177.out | refine below_set ?_ GE178.out | refine below_set ?_ GE185.out) | exact HB.out))) : w.heap.size ≤ gb189)); have n7_ := Aside0.mk ((by rw [hg]; exact Nat.ne_of_lt (blk_lt (g := gb177) (o := .cells #[.int .i64 a0_0, .int .i64 a0_1, .int .i64 a0_2, .int .i64 a0_3, .int .i64 a0_4, .int .u32 a0_5] 41 (0, 0)) (by (with_reducible repeat (first | refine blk_drewN ?_ _ | refine blk_drew ?_ | refine blk_alloc ?_ _)); exact BK177.out)) : gb177 ≠ gb189)); have n8_ := Aside0.mk ((by rw [hg]; exact Nat.ne_of_gt (blk_lt (g := gb177) (o := .cells #[.int .i64 a0_0, .int .i64 a0_1, .int .i64 a0_2, .int .i64 a0_3, .int .i64 a0_4, .int .u32 a0_5] 41 (0, 0)) (by (with_reducible repeat (first | refine blk_drewN ?_ _ | refine blk_drew ?_ | refine blk_alloc ?_ _)); exact BK177.out)) : gb189 ≠ gb177)); have n9_ := Aside0.mk ((by rw [hg]; exact Nat.ne_of_lt (blk_lt (g := gb178) (o := .cells #[.int .i64 a0_0, .int .i64 a0_1, .int .i64 a0_2] 23 (0, 0)) (by (with_reducible repeat (first | refine blk_drewN ?_ _ | refine blk_drew ?_ | refine blk_alloc ?_ _)); exact BK178.out)) : gb178 ≠ gb189)); have n10_ := Aside0.mk ((by rw [hg]; exact Nat.ne_of_gt (blk_lt (g := gb178) (o := .cells #[.int .i64 a0_0, .int .i64 a0_1, .int .i64 a0_2] 23 (0, 0)) (by (with_reducible repeat (first | refine blk_drewN ?_ _ | refine blk_drew ?_ | refine blk_alloc ?_ _)); exact BK178.out)) : gb189 ≠ gb178)); have n11_ := Aside0.mk ((by rw [hg]; exact Nat.ne_of_lt (blk_lt (g := gb185) (o := .cells #[.int .i64 t182, .int .i64 t183, .int .i64 t184] 23 (0, 0)) (by (with_reducible repeat (first | refine blk_drewN ?_ _ | refine blk_drew ?_ | refine blk_alloc ?_ _)); exact BK185.out)) : gb185 ≠ gb189)); have n12_ := Aside0.mk ((by rw [hg]; exact Nat.ne_of_gt (blk_lt (g := gb185) (o := .cells #[.int .i64 t182, .int .i64 t183, .int .i64 t184] 23 (0, 0)) (by (with_reducible repeat (first | refine blk_drewN ?_ _ | refine blk_drew ?_ | refine blk_alloc ?_ _)); exact BK185.out)) : gb189 ≠ gb185)); clear BK177; clear BK178; clear BK185; clear HB; have BK177 := n0_; have BK178 := n1_; have BK185 := n2_; have HB := n3_; have BK189 := n4_; have GW189 := n5_; have GE189 := n6_; have NB177_189 := n7_; have NB189_177 := n8_; have NB178_189 := n9_; have NB189_178 := n10_; have NB185_189 := n11_; have NB189_185 := n12_; clear n0_ n1_ n2_ n3_ n4_ n5_ n6_ n7_ n8_ n9_ n10_ n11_ n12_; clear hb hbox hg; have hnb44 := NB189_177.out; have hnc44 := NB177_189.out; have hnb45 := NB189_178.out; have hnc45 := NB178_189.out; have hnb46 := NB189_185.out; have hnc46 := NB185_189.out; have hcz47_0 : w43.cell? ⟨gb189, 0, none⟩ = some (.int .i64 0) := (blk_cell BK189.out 0).trans rfl; have hcz47_1 : w43.cell? ⟨gb189, 1, none⟩ = some (.int .i64 0) := (blk_cell BK189.out 1).trans rfl; have hcz47_2 : w43.cell? ⟨gb189, 2, none⟩ = some (.int .i64 0) := (blk_cell BK189.out 2).trans rfl; have hfz47_0 := blk_frozen BK189.out 0; have hfz47_1 := blk_frozen BK189.out 1; have hfz47_2 := blk_frozen BK189.out 2; have hcz48_0 : w43.cell? ⟨gb185, 0, none⟩ = some (.int .i64 t182) := (blk_cell BK185.out 0).trans rfl; have hcz48_1 : w43.cell? ⟨gb185, 1, none⟩ = some (.int .i64 t183) := (blk_cell BK185.out 1).trans rfl; have hcz48_2 : w43.cell? ⟨gb185, 2, none⟩ = some (.int .i64 t184) := (blk_cell BK185.out 2).trans rfl; have hfz48_0 := blk_frozen BK185.out 0; have hfz48_1 := blk_frozen BK185.out 1; have hfz48_2 := blk_frozen BK185.out 2; have hcz49_0 : w43.cell? ⟨gb178, 0, none⟩ = some (.int .i64 a0_0) := (blk_cell BK178.out 0).trans rfl; have hcz49_1 : w43.cell? ⟨gb178, 1, none⟩ = some (.int .i64 a0_1) := (blk_cell BK178.out 1).trans rfl; have hcz49_2 : w43.cell? ⟨gb178, 2, none⟩ = some (.int .i64 a0_2) := (blk_cell BK178.out 2).trans rfl; have hfz49_0 := blk_frozen BK178.out 0; have hfz49_1 := blk_frozen BK178.out 1; have hfz49_2 := blk_frozen BK178.out 2))
                      go_ret
                      exact ⟨by first | rfl | (simp [errW_none, errW_some] <;> rfl) | (simp [*, errW_none, errW_some] <;> rfl), by repeat (first | (with_reducible first | exact HB.out | apply below_alloc | apply pw_below_drewN | apply below_drew1 | refine below_set ?_ GE177.out | refine below_set ?_ GE178.out | refine below_set ?_ GE185.out | refine below_set ?_ GE189.out) | exact HB.out)⟩
                    · rw [if_neg c33] at H
                      have c33b0 : decide (1099511627776 < (wrap64 (a0_2 + a0_4))) = false := decide_eq_false c33
                      clear c33
                      obtain rfl := Option.some.inj H
                      have hnb50 := NB178_177.out
                      have hnc50 := NB177_178.out
                      have hcz51_0 : wc.cell? ⟨gb178, 0, none⟩ = some (.int .i64 a0_0) := (blk_cell BK178.out 0).trans rfl
                      have hcz51_1 : wc.cell? ⟨gb178, 1, none⟩ = some (.int .i64 a0_1) := (blk_cell BK178.out 1).trans rfl
                      have hcz51_2 : wc.cell? ⟨gb178, 2, none⟩ = some (.int .i64 a0_2) := (blk_cell BK178.out 2).trans rfl
                      have hfz51_0 := blk_frozen BK178.out 0
                      have hfz51_1 := blk_frozen BK178.out 1
                      have hfz51_2 := blk_frozen BK178.out 2
                      go_wp2_with (first | ((with_reducible refine gate_callee (f := 12) rfl ?_); refine goesL_ (some 39) rfl rfl Try.func12 (by kernel_rfl) rfl #[.agg #[.int .i64 a0_0, .int .i64 a0_1, .int .i64 a0_2], .int .i64 a0_3, .int .i64 a0_4] rfl (by (try simp only [List.map_toArray, List.map_cons, List.map_nil]); first | done | rfl | (simp only [List.length_drop, List.length_take]; rfl)) ?_; (with_reducible refine (meter_Add.calls a0_0 a0_1 a0_2 a0_3 a0_4 t182 t183 t184 _ A25.out).mono ?_); rintro e w52 ⟨rfl, hb⟩; refine ⟨_, rfl, ?_⟩; have n0_ := Aside0.mk (blk_below (g := gb177) (o := .cells #[.int .i64 a0_0, .int .i64 a0_1, .int .i64 a0_2, .int .i64 a0_3, .int .i64 a0_4, .int .u32 a0_5] 41 (0, 0)) (by (with_reducible repeat (first | refine blk_drewN ?_ _ | refine blk_drew ?_ | refine blk_alloc ?_ _)); exact BK177.out) hb); have n1_ := Aside0.mk (blk_below (g := gb178) (o := .cells #[.int .i64 a0_0, .int .i64 a0_1, .int .i64 a0_2] 23 (0, 0)) (by (with_reducible repeat (first | refine blk_drewN ?_ _ | refine blk_drew ?_ | refine blk_alloc ?_ _)); exact BK178.out) hb); have n2_ := Aside0.mk (below_step (by repeat (first | (with_reducible first | exact HB.out | apply below_alloc | apply pw_below_drewN | apply below_drew1 | refine below_set ?_ GE177.out | refine below_set ?_ GE178.out) | exact HB.out)) hb); clear BK177; clear BK178; clear HB; have BK177 := n0_; have BK178 := n1_; have HB := n2_; clear n0_ n1_ n2_; (try clear hb); (try clear hb2); (try clear hk); (try clear hi)) | ((with_reducible refine gate_dst (N := 8) rfl ?_); refine box_event ?hg (N := 8) ?hd (cs := #[.int .i64 0, .int .i64 0, .int .i64 0]) (t := 23) ?hr ?_; (case hd => rfl); (case hg => rfl); (case hr => first | (go_simp; done) | (go_simp; rfl)); intro gb185 hg w53 hbox hb; have n0_ := Aside0.mk (blk_below (g := gb177) (o := .cells #[.int .i64 a0_0, .int .i64 a0_1, .int .i64 a0_2, .int .i64 a0_3, .int .i64 a0_4, .int .u32 a0_5] 41 (0, 0)) (by (with_reducible repeat (first | refine blk_drewN ?_ _ | refine blk_drew ?_ | refine blk_alloc ?_ _)); exact BK177.out) hb); have n1_ := Aside0.mk (blk_below (g := gb178) (o := .cells #[.int .i64 a0_0, .int .i64 a0_1, .int .i64 a0_2] 23 (0, 0)) (by (with_reducible repeat (first | refine blk_drewN ?_ _ | refine blk_drew ?_ | refine blk_alloc ?_ _)); exact BK178.out) hb); have n2_ := Aside0.mk (below_step (by repeat (first | (with_reducible first | exact HB.out | apply below_alloc | apply pw_below_drewN | apply below_drew1 | refine below_set ?_ GE177.out | refine below_set ?_ GE178.out) | exact HB.out)) hb); have n3_ := Aside0.mk (hbox); have n4_ := Aside0.mk ((by rw [hg]; exact (below_size (by repeat (first | (with_reducible first | exact HB.out | apply below_alloc | apply pw_below_drewN | apply below_drew1 | refine below_set ?_ GE177.out | refine below_set ?_ GE178.out) | exact HB.out))) : w.heap.size ≤ gb185)); have n5_ := Aside0.mk ((by rw [hg]; exact (below_size (by repeat (first | (with_reducible first | exact HB.out | apply below_alloc | apply pw_below_drewN | apply below_drew1 | refine below_set ?_ GE177.out | refine below_set ?_ GE178.out) | exact HB.out))) : w.heap.size ≤ gb185)); have n6_ := Aside0.mk ((by rw [hg]; exact Nat.ne_of_lt (blk_lt (g := gb177) (o := .cells #[.int .i64 a0_0, .int .i64 a0_1, .int .i64 a0_2, .int .i64 a0_3, .int .i64 a0_4, .int .u32 a0_5] 41 (0, 0)) (by (with_reducible repeat (first | refine blk_drewN ?_ _ | refine blk_drew ?_ | refine blk_alloc ?_ _)); exact BK177.out)) : gb177 ≠ gb185)); have n7_ := Aside0.mk ((by rw [hg]; exact Nat.ne_of_gt (blk_lt (g := gb177) (o := .cells #[.int .i64 a0_0, .int .i64 a0_1, .int .i64 a0_2, .int .i64 a0_3, .int .i64 a0_4, .int .u32 a0_5] 41 (0, 0)) (by (with_reducible repeat (first | refine blk_drewN ?_ _ | refine blk_drew ?_ | refine blk_alloc ?_ _)); exact BK177.out)) : gb185 ≠ gb177)); have n8_ := Aside0.mk ((by rw [hg]; exact Nat.ne_of_lt (blk_lt (g := gb178) (o := .cells #[.int .i64 a0_0, .int .i64 a0_1, .int .i64 a0_2] 23 (0, 0)) (by (with_reducible repeat (first | refine blk_drewN ?_ _ | refine blk_drew ?_ | refine blk_alloc ?_ _)); exact BK178.out)) : gb178 ≠ gb185)); have n9_ := Aside0.mk ((by rw [hg]; exact Nat.ne_of_gt (blk_lt (g := gb178) (o := .cells #[.int .i64 a0_0, .int .i64 a0_1, .int .i64 a0_2] 23 (0, 0)) (by (with_reducible repeat (first | refine blk_drewN ?_ _ | refine blk_drew ?_ | refine blk_alloc ?_ _)); exact BK178.out)) : gb185 ≠ gb178)); clear BK177; clear BK178; clear HB; have BK177 := n0_; have BK178 := n1_; have HB := n2_; have BK185 := n3_; have GW185 := n4_; have GE185 := n5_; have NB177_185 := n6_; have NB185_177 := n7_; have NB178_185 := n8_; have NB185_178 := n9_; clear n0_ n1_ n2_ n3_ n4_ n5_ n6_ n7_ n8_ n9_; clear hb hbox hg; have hnb54 := NB185_177.out; have hnc54 := NB177_185.out; have hnb55 := NB185_178.out; have hnc55 := NB178_185.out; have hcz56_0 : w53.cell? ⟨gb185, 0, none⟩ = some (.int .i64 0) := (blk_cell BK185.out 0).trans rfl; have hcz56_1 : w53.cell? ⟨gb185, 1, none⟩ = some (.int .i64 0) := (blk_cell BK185.out 1).trans rfl; have hcz56_2 : w53.cell? ⟨gb185, 2, none⟩ = some (.int .i64 0) := (blk_cell BK185.out 2).trans rfl; have hfz56_0 := blk_frozen BK185.out 0; have hfz56_1 := blk_frozen BK185.out 1; have hfz56_2 := blk_frozen BK185.out 2; have hcz57_0 : w53.cell? ⟨gb178, 0, none⟩ = some (.int .i64 a0_0) := (blk_cell BK178.out 0).trans rfl; have hcz57_1 : w53.cell? ⟨gb178, 1, none⟩ = some (.int .i64 a0_1) := (blk_cell BK178.out 1).trans rfl; have hcz57_2 : w53.cell? ⟨gb178, 2, none⟩ = some (.int .i64 a0_2) := (blk_cell BK178.out 2).trans rfl; have hfz57_0 := blk_frozen BK178.out 0; have hfz57_1 := blk_frozen BK178.out 1; have hfz57_2 := blk_frozen BK178.out 2) | ((with_reducible refine gate_callee (f := 12) rfl ?_); refine goesL_ (some 46) rfl rfl Try.func12 (by kernel_rfl) rfl #[.agg #[.int .i64 a0_0, .int .i64 a0_1, .int .i64 a0_2], .int .i64 (wrap64 (a0_3 + (wrap64 (a0_5)))), .int .i64 a0_4] rfl (by (try simp only [List.map_toArray, List.map_cons, List.map_nil]); first | done | rfl | (simp only [List.length_drop, List.length_take]; rfl)) ?_; (with_reducible refine (meter_Add.calls a0_0 a0_1 a0_2 (wrap64 (a0_3 + (wrap64 (a0_5)))) a0_4 t186 t187 t188 _ A26.out).mono ?_); rintro e w58 ⟨rfl, hb⟩; refine ⟨_, rfl, ?_⟩; have n0_ := Aside0.mk (blk_below (g := gb177) (o := .cells #[.int .i64 a0_0, .int .i64 a0_1, .int .i64 a0_2, .int .i64 a0_3, .int .i64 a0_4, .int .u32 a0_5] 41 (0, 0)) (by (with_reducible repeat (first | refine blk_drewN ?_ _ | refine blk_drew ?_ | refine blk_alloc ?_ _)); refine blk_far ?_ NB177_185.out _; (with_reducible repeat (first | refine blk_drewN ?_ _ | refine blk_drew ?_ | refine blk_alloc ?_ _)); refine blk_far ?_ NB177_185.out _; (with_reducible repeat (first | refine blk_drewN ?_ _ | refine blk_drew ?_ | refine blk_alloc ?_ _)); refine blk_far ?_ NB177_185.out _; (with_reducible repeat (first | refine blk_drewN ?_ _ | refine blk_drew ?_ | refine blk_alloc ?_ _)); exact BK177.out) hb); have n1_ := Aside0.mk (blk_below (g := gb178) (o := .cells #[.int .i64 a0_0, .int .i64 a0_1, .int .i64 a0_2] 23 (0, 0)) (by (with_reducible repeat (first | refine blk_drewN ?_ _ | refine blk_drew ?_ | refine blk_alloc ?_ _)); refine blk_far ?_ NB178_185.out _; (with_reducible repeat (first | refine blk_drewN ?_ _ | refine blk_drew ?_ | refine blk_alloc ?_ _)); refine blk_far ?_ NB178_185.out _; (with_reducible repeat (first | refine blk_drewN ?_ _ | refine blk_drew ?_ | refine blk_alloc ?_ _)); refine blk_far ?_ NB178_185.out _; (with_reducible repeat (first | refine blk_drewN ?_ _ | refine blk_drew ?_ | refine blk_alloc ?_ _)); exact BK178.out) hb); have n2_ := Aside0.mk (blk_below (g := gb185) (o := .cells #[.int .i64 t182, .int .i64 t183, .int .i64 t184] 23 (0, 0)) (by (with_reducible repeat (first | refine blk_drewN ?_ _ | refine blk_drew ?_ | refine blk_alloc ?_ _)); refine blk_put (cs := #[.int .i64 t182, .int .i64 t183, .int .i64 0]) ?_ 2 _ rfl; (with_reducible repeat (first | refine blk_drewN ?_ _ | refine blk_drew ?_ | refine blk_alloc ?_ _)); refine blk_put (cs := #[.int .i64 t182, .int .i64 0, .int .i64 0]) ?_ 1 _ rfl; (with_reducible repeat (first | refine blk_drewN ?_ _ | refine blk_drew ?_ | refine blk_alloc ?_ _)); refine blk_put (cs := #[.int .i64 0, .int .i64 0, .int .i64 0]) ?_ 0 _ rfl; (with_reducible repeat (first | refine blk_drewN ?_ _ | refine blk_drew ?_ | refine blk_alloc ?_ _)); exact BK185.out) hb); have n3_ := Aside0.mk (below_step (by repeat (first | (with_reducible first | exact HB.out | apply below_alloc | apply pw_below_drewN | apply below_drew1 | refine below_set ?_ GE177.out | refine below_set ?_ GE178.out | refine below_set ?_ GE185.out) | exact HB.out)) hb); clear BK177; clear BK178; clear BK185; clear HB; have BK177 := n0_; have BK178 := n1_; have BK185 := n2_; have HB := n3_; clear n0_ n1_ n2_ n3_; (try clear hb); (try clear hb2); (try clear hk); (try clear hi)) | ((with_reducible refine gate_dst (N := 9) rfl ?_); refine box_event ?hg (N := 9) ?hd (cs := #[.int .i64 0, .int .i64 0, .int .i64 0]) (t := 23) ?hr ?_; (case hd => rfl); (case hg => rfl); (case hr => first | (go_simp; done) | (go_simp; rfl)); intro gb189 hg w59 hbox hb; have n0_ := Aside0.mk (blk_below (g := gb177) (o := .cells #[.int .i64 a0_0, .int .i64 a0_1, .int .i64 a0_2, .int .i64 a0_3, .int .i64 a0_4, .int .u32 a0_5] 41 (0, 0)) (by (with_reducible repeat (first | refine blk_drewN ?_ _ | refine blk_drew ?_ | refine blk_alloc ?_ _)); exact BK177.out) hb); have n1_ := Aside0.mk (blk_below (g := gb178) (o := .cells #[.int .i64 a0_0, .int .i64 a0_1, .int .i64 a0_2] 23 (0, 0)) (by (with_reducible repeat (first | refine blk_drewN ?_ _ | refine blk_drew ?_ | refine blk_alloc ?_ _)); exact BK178.out) hb); have n2_ := Aside0.mk (blk_below (g := gb185) (o := .cells #[.int .i64 t182, .int .i64 t183, .int .i64 t184] 23 (0, 0)) (by (with_reducible repeat (first | refine blk_drewN ?_ _ | refine blk_drew ?_ | refine blk_alloc ?_ _)); exact BK185.out) hb); have n3_ := Aside0.mk (below_step (by repeat (first | (with_reducible first | exact HB.out | apply below_alloc | apply pw_below_drewN | apply below_drew1 | refine below_set ?_ GE177.out | refine below_set ?_ GE178.out | refine below_set ?_ GE185.out) | exact HB.out)) hb); have n4_ := Aside0.mk (hbox); have n5_ := Aside0.mk ((by rw [hg]; exact (below_size (by repeat (first | (with_reducible first | exact HB.out | apply below_alloc | apply pw_below_drewN | apply below_drew1 | refine below_set ?_ GE177.out | refine below_set ?_ GE178.out | refine below_set ?_ GE185.out) | exact HB.out))) : w.heap.size ≤ gb189)); have n6_ := Aside0.mk ((by rw [hg]; exact (below_size (by repeat (first | (with_reducible first | exact HB.out | apply below_alloc | apply pw_below_drewN | apply below_drew1 | refine below_set ?_ GE177.out | refine below_set ?_ GE178.out | refine below_set ?_ GE185.out) | exact HB.out))) : w.heap.size ≤ gb189)); have n7_ := Aside0.mk ((by rw [hg]; exact Nat.ne_of_lt (blk_lt (g := gb177) (o := .cells #[.int .i64 a0_0, .int .i64 a0_1, .int .i64 a0_2, .int .i64 a0_3, .int .i64 a0_4, .int .u32 a0_5] 41 (0, 0)) (by (with_reducible repeat (first | refine blk_drewN ?_ _ | refine blk_drew ?_ | refine blk_alloc ?_ _)); exact BK177.out)) : gb177 ≠ gb189)); have n8_ := Aside0.mk ((by rw [hg]; exact Nat.ne_of_gt (blk_lt (g := gb177) (o := .cells #[.int .i64 a0_0, .int .i64 a0_1, .int .i64 a0_2, .int .i64 a0_3, .int .i64 a0_4, .int .u32 a0_5] 41 (0, 0)) (by (with_reducible repeat (first | refine blk_drewN ?_ _ | refine blk_drew ?_ | refine blk_alloc ?_ _)); exact BK177.out)) : gb189 ≠ gb177)); have n9_ := Aside0.mk ((by rw [hg]; exact Nat.ne_of_lt (blk_lt (g := gb178) (o := .cells #[.int .i64 a0_0, .int .i64 a0_1, .int .i64 a0_2] 23 (0, 0)) (by (with_reducible repeat (first | refine blk_drewN ?_ _ | refine blk_drew ?_ | refine blk_alloc ?_ _)); exact BK178.out)) : gb178 ≠ gb189)); have n10_ := Aside0.mk ((by rw [hg]; exact Nat.ne_of_gt (blk_lt (g := gb178) (o := .cells #[.int .i64 a0_0, .int .i64 a0_1, .int .i64 a0_2] 23 (0, 0)) (by (with_reducible repeat (first | refine blk_drewN ?_ _ | refine blk_drew ?_ | refine blk_alloc ?_ _)); exact BK178.out)) : gb189 ≠ gb178)); have n11_ := Aside0.mk ((by rw [hg]; exact Nat.ne_of_lt (blk_lt (g := gb185) (o := .cells #[.int .i64 t182, .int .i64 t183, .int .i64 t184] 23 (0, 0)) (by (with_reducible repeat (first | refine blk_drewN ?_ _ | refine blk_drew ?_ | refine blk_alloc ?_ _)); exact BK185.out)) : gb185 ≠ gb189)); have n12_ := Aside0.mk ((by rw [hg]; exact Nat.ne_of_gt (blk_lt (g := gb185) (o := .cells #[.int .i64 t182, .int .i64 t183, .int .i64 t184] 23 (0, 0)) (by (with_reducible repeat (first | refine blk_drewN ?_ _ | refine blk_drew ?_ | refine blk_alloc ?_ _)); exact BK185.out)) : gb189 ≠ gb185)); clear BK177; clear BK178; clear BK185; clear HB; have BK177 := n0_; have BK178 := n1_; have BK185 := n2_; have HB := n3_; have BK189 := n4_; have GW189 := n5_; have GE189 := n6_; have NB177_189 := n7_; have NB189_177 := n8_; have NB178_189 := n9_; have NB189_178 := n10_; have NB185_189 := n11_; have NB189_185 := n12_; clear n0_ n1_ n2_ n3_ n4_ n5_ n6_ n7_ n8_ n9_ n10_ n11_ n12_; clear hb hbox hg; have hnb60 := NB189_177.out; have hnc60 := NB177_189.out; have hnb61 := NB189_178.out; have hnc61 := NB178_189.out; have hnb62 := NB189_185.out; have hnc62 := NB185_189.out; have hcz63_0 : w59.cell? ⟨gb189, 0, none⟩ = some (.int .i64 0) := (blk_cell BK189.out 0).trans rfl; have hcz63_1 : w59.cell? ⟨gb189, 1, none⟩ = some (.int .i64 0) := (blk_cell BK189.out 1).trans rfl; have hcz63_2 : w59.cell? ⟨gb189, 2, none⟩ = some (.int .i64 0) := (blk_cell BK189.out 2).trans rfl; have hfz63_0 := blk_frozen BK189.out 0; have hfz63_1 := blk_frozen BK189.out 1; have hfz63_2 := blk_frozen BK189.out 2; have hcz64_0 : w59.cell? ⟨gb185, 0, none⟩ = some (.int .i64 t182) := (blk_cell BK185.out 0).trans rfl; have hcz64_1 : w59.cell? ⟨gb185, 1, none⟩ = some (.int .i64 t183) := (blk_cell BK185.out 1).trans rfl; have hcz64_2 : w59.cell? ⟨gb185, 2, none⟩ = some (.int .i64 t184) := (blk_cell BK185.out 2).trans rfl; have hfz64_0 := blk_frozen BK185.out 0; have hfz64_1 := blk_frozen BK185.out 1; have hfz64_2 := blk_frozen BK185.out 2; have hcz65_0 : w59.cell? ⟨gb178, 0, none⟩ = some (.int .i64 a0_0) := (blk_cell BK178.out 0).trans rfl; have hcz65_1 : w59.cell? ⟨gb178, 1, none⟩ = some (.int .i64 a0_1) := (blk_cell BK178.out 1).trans rfl; have hcz65_2 : w59.cell? ⟨gb178, 2, none⟩ = some (.int .i64 a0_2) := (blk_cell BK178.out 2).trans rfl; have hfz65_0 := blk_frozen BK178.out 0; have hfz65_1 := blk_frozen BK178.out 1; have hfz65_2 := blk_frozen BK178.out 2))
                      go_ret
                      exact ⟨by first | rfl | (simp [errW_none, errW_some] <;> rfl) | (simp [*, errW_none, errW_some] <;> rfl), by repeat (first | (with_reducible first | exact HB.out | apply below_alloc | apply pw_below_drewN | apply below_drew1 | refine below_set ?_ GE177.out | refine below_set ?_ GE178.out | refine below_set ?_ GE185.out | refine below_set ?_ GE189.out) | exact HB.out)⟩
                  · rw [if_neg c32] at H
                    have c32b0 : decide (1099511627776 < (wrap64 (a0_1 + a0_3))) = false := decide_eq_false c32
                    clear c32
                    by_cases c66 : t183 = (wrap64 (a0_1 + a0_3))
                    · rw [if_pos c66] at H
                      have c66b0 : (t183 == (wrap64 (a0_1 + a0_3))) = true := beq_iff_eq.mpr c66
                      have c66b1 : (t183 != (wrap64 (a0_1 + a0_3))) = false := bne_eq_false_iff_eq.mpr c66
                      clear c66
                      by_cases c67 : (wrap64 (a0_2 + a0_4)) > 1099511627776
                      · rw [if_pos c67] at H
                        have c67b0 : decide (1099511627776 < (wrap64 (a0_2 + a0_4))) = true := decide_eq_true c67
                        clear c67
                        obtain rfl := Option.some.inj H
                        have hnb68 := NB178_177.out
                        have hnc68 := NB177_178.out
                        have hcz69_0 : wc.cell? ⟨gb178, 0, none⟩ = some (.int .i64 a0_0) := (blk_cell BK178.out 0).trans rfl
                        have hcz69_1 : wc.cell? ⟨gb178, 1, none⟩ = some (.int .i64 a0_1) := (blk_cell BK178.out 1).trans rfl
                        have hcz69_2 : wc.cell? ⟨gb178, 2, none⟩ = some (.int .i64 a0_2) := (blk_cell BK178.out 2).trans rfl
                        have hfz69_0 := blk_frozen BK178.out 0
                        have hfz69_1 := blk_frozen BK178.out 1
                        have hfz69_2 := blk_frozen BK178.out 2
                        go_wp2_with (first | ((with_reducible refine gate_callee (f := 12) rfl ?_); refine goesL_ (some 39) rfl rfl Try.func12 (by kernel_rfl) rfl #[.agg #[.int .i64 a0_0, .int .i64 a0_1, .int .i64 a0_2], .int .i64 a0_3, .int .i64 a0_4] rfl (by (try simp only [List.map_toArray, List.map_cons, List.map_nil]); first | done | rfl | (simp only [List.length_drop, List.length_take]; rfl)) ?_; (with_reducible refine (meter_Add.calls a0_0 a0_1 a0_2 a0_3 a0_4 t182 t183 t184 _ A25.out).mono ?_); rintro e w70 ⟨rfl, hb⟩; refine ⟨_, rfl, ?_⟩; have n0_ := Aside0.mk (blk_below (g := gb177) (o := .cells #[.int .i64 a0_0, .int .i64 a0_1, .int .i64 a0_2, .int .i64 a0_3, .int .i64 a0_4, .int .u32 a0_5] 41 (0, 0)) (by (with_reducible repeat (first | refine blk_drewN ?_ _ | refine blk_drew ?_ | refine blk_alloc ?_ _)); exact BK177.out) hb); have n1_ := Aside0.mk (blk_below (g := gb178) (o := .cells #[.int .i64 a0_0, .int .i64 a0_1, .int .i64 a0_2] 23 (0, 0)) (by (with_reducible repeat (first | refine blk_drewN ?_ _ | refine blk_drew ?_ | refine blk_alloc ?_ _)); exact BK178.out) hb); have n2_ := Aside0.mk (below_step (by repeat (first | (with_reducible first | exact HB.out | apply below_alloc | apply pw_below_drewN | apply below_drew1 | refine below_set ?_ GE177.out | refine below_set ?_ GE178.out) | exact HB.out)) hb); clear BK177; clear BK178; clear HB; have BK177 := n0_; have BK178 := n1_; have HB := n2_; clear n0_ n1_ n2_; (try clear hb); (try clear hb2); (try clear hk); (try clear hi)) | ((with_reducible refine gate_dst (N := 8) rfl ?_); refine box_event ?hg (N := 8) ?hd (cs := #[.int .i64 0, .int .i64 0, .int .i64 0]) (t := 23) ?hr ?_; (case hd => rfl); (case hg => rfl); (case hr => first | (go_simp; done) | (go_simp; rfl)); intro gb185 hg w71 hbox hb; have n0_ := Aside0.mk (blk_below (g := gb177) (o := .cells #[.int .i64 a0_0, .int .i64 a0_1, .int .i64 a0_2, .int .i64 a0_3, .int .i64 a0_4, .int .u32 a0_5] 41 (0, 0)) (by (with_reducible repeat (first | refine blk_drewN ?_ _ | refine blk_drew ?_ | refine blk_alloc ?_ _)); exact BK177.out) hb); have n1_ := Aside0.mk (blk_below (g := gb178) (o := .cells #[.int .i64 a0_0, .int .i64 a0_1, .int .i64 a0_2] 23 (0, 0)) (by (with_reducible repeat (first | refine blk_drewN ?_ _ | refine blk_drew ?_ | refine blk_alloc ?_ _)); exact BK178.out) hb); have n2_ := Aside0.mk (below_step (by repeat (first | (with_reducible first | exact HB.out | apply below_alloc | apply pw_below_drewN | apply below_drew1 | refine below_set ?_ GE177.out | refine below_set ?_ GE178.out) | exact HB.out)) hb); have n3_ := Aside0.mk (hbox); have n4_ := Aside0.mk ((by rw [hg]; exact (below_size (by repeat (first | (with_reducible first | exact HB.out | apply below_alloc | apply pw_below_drewN | apply below_drew1 | refine below_set ?_ GE177.out | refine below_set ?_ GE178.out) | exact HB.out))) : w.heap.size ≤ gb185)); have n5_ := Aside0.mk ((by rw [hg]; exact (below_size (by repeat (first | (with_reducible first | exact HB.out | apply below_alloc | apply pw_below_drewN | apply below_drew1 | refine below_set ?_ GE177.out | refine below_set ?_ GE178.out) | exact HB.out))) : w.heap.size ≤ gb185)); have n6_ := Aside0.mk ((by rw [hg]; exact Nat.ne_of_lt (blk_lt (g := gb177) (o := .cells #[.int .i64 a0_0, .int .i64 a0_1, .int .i64 a0_2, .int .i64 a0_3, .int .i64 a0_4, .int .u32 a0_5] 41 (0, 0)) (by (with_reducible repeat (first | refine blk_drewN ?_ _ | refine blk_drew ?_ | refine blk_alloc ?_ _)); exact BK177.out)) : gb177 ≠ gb185)); have n7_ := Aside0.mk ((by rw [hg]; exact Nat.ne_of_gt (blk_lt (g := gb177) (o := .cells #[.int .i64 a0_0, .int .i64 a0_1, .int .i64 a0_2, .int .i64 a0_3, .int .i64 a0_4, .int .u32 a0_5] 41 (0, 0)) (by (with_reducible repeat (first | refine blk_drewN ?_ _ | refine blk_drew ?_ | refine blk_alloc ?_ _)); exact BK177.out)) : gb185 ≠ gb177)); have n8_ := Aside0.mk ((by rw [hg]; exact Nat.ne_of_lt (blk_lt (g := gb178) (o := .cells #[.int .i64 a0_0, .int .i64 a0_1, .int .i64 a0_2] 23 (0, 0)) (by (with_reducible repeat (first | refine blk_drewN ?_ _ | refine blk_drew ?_ | refine blk_alloc ?_ _)); exact BK178.out)) : gb178 ≠ gb185)); have n9_ := Aside0.mk ((by rw [hg]; exact Nat.ne_of_gt (blk_lt (g := gb178) (o := .cells #[.int .i64 a0_0, .int .i64 a0_1, .int .i64 a0_2] 23 (0, 0)) (by (with_reducible repeat (first | refine blk_drewN ?_ _ | refine blk_drew ?_ | refine blk_alloc ?_ _)); exact BK178.out)) : gb185 ≠ gb178)); clear BK177; clear BK178; clear HB; have BK177 := n0_; have BK178 := n1_; have HB := n2_; have BK185 := n3_; have GW185 := n4_; have GE185 := n5_; have NB177_185 := n6_; have NB185_177 := n7_; have NB178_185 := n8_; have NB185_178 := n9_; clear n0_ n1_ n2_ n3_ n4_ n5_ n6_ n7_ n8_ n9_; clear hb hbox hg; have hnb72 := NB185_177.out; have hnc72 := NB177_185.out; have hnb73 := NB185_178.out; have hnc73 := NB178_185.out; have hcz74_0 : w71.cell? ⟨gb185, 0, none⟩ = some (.int .i64 0) := (blk_cell BK185.out 0).trans rfl; have hcz74_1 : w71.cell? ⟨gb185, 1, none⟩ = some (.int .i64 0) := (blk_cell BK185.out 1).trans rfl; have hcz74_2 : w71.cell? ⟨gb185, 2, none⟩ = some (.int .i64 0) := (blk_cell BK185.out 2).trans rfl; have hfz74_0 := blk_frozen BK185.out 0; have hfz74_1 := blk_frozen BK185.out 1; have hfz74_2 := blk_frozen BK185.out 2; have hcz75_0 : w71.cell? ⟨gb178, 0, none⟩ = some (.int .i64 a0_0) := (blk_cell BK178.out 0).trans rfl; have hcz75_1 : w71.cell? ⟨gb178, 1, none⟩ = some (.int .i64 a0_1) := (blk_cell BK178.out 1).trans rfl; have hcz75_2 : w71.cell? ⟨gb178, 2, none⟩ = some (.int .i64 a0_2) := (blk_cell BK178.out 2).trans rfl; have hfz75_0 := blk_frozen BK178.out 0; have hfz75_1 := blk_frozen BK178.out 1; have hfz75_2 := blk_frozen BK178.out 2) | ((with_reducible refine gate_callee (f := 12) rfl ?_); refine goesL_ (some 46) rfl rfl Try.func12 (by kernel_rfl) rfl #[.agg #[.int .i64 a0_0, .int .i64 a0_1, .int .i64 a0_2], .int .i64 (wrap64 (a0_3 + (wrap64 (a0_5)))), .int .i64 a0_4] rfl (by (try simp only [List.map_toArray, List.map_cons, List.map_nil]); first | done | rfl | (simp only [List.length_drop, List.length_take]; rfl)) ?_; (with_reducible refine (meter_Add.calls a0_0 a0_1 a0_2 (wrap64 (a0_3 + (wrap64 (a0_5)))) a0_4 t186 t187 t188 _ A26.out).mono ?_); rintro e w76 ⟨rfl, hb⟩; refine ⟨_, rfl, ?_⟩; have n0_ := Aside0.mk (blk_below (g := gb177) (o := .cells #[.int .i64 a0_0, .int .i64 a0_1, .int .i64 a0_2, .int .i64 a0_3, .int .i64 a0_4, .int .u32 a0_5] 41 (0, 0)) (by (with_reducible repeat (first | refine blk_drewN ?_ _ | refine blk_drew ?_ | refine blk_alloc ?_ _)); refine blk_far ?_ NB177_185.out _; (with_reducible repeat (first | refine blk_drewN ?_ _ | refine blk_drew ?_ | refine blk_alloc ?_ _)); refine blk_far ?_ NB177_185.out _; (with_reducible repeat (first | refine blk_drewN ?_ _ | refine blk_drew ?_ | refine blk_alloc ?_ _)); refine blk_far ?_ NB177_185.out _; (with_reducible repeat (first | refine blk_drewN ?_ _ | refine blk_drew ?_ | refine blk_alloc ?_ _)); exact BK177.out) hb); have n1_ := Aside0.mk (blk_below (g := gb178) (o := .cells #[.int .i64 a0_0, .int .i64 a0_1, .int .i64 a0_2] 23 (0, 0)) (by (with_reducible repeat (first | refine blk_drewN ?_ _ | refine blk_drew ?_ | refine blk_alloc ?_ _)); refine blk_far ?_ NB178_185.out _; (with_reducible repeat (first | refine blk_drewN ?_ _ | refine blk_drew ?_ | refine blk_alloc ?_ _)); refine blk_far ?_ NB178_185.out _; (with_reducible repeat (first | refine blk_drewN ?_ _ | refine blk_drew ?_ | refine blk_alloc ?_ _)); refine blk_far ?_ NB178_185.out _; (with_reducible repeat (first | refine blk_drewN ?_ _ | refine blk_drew ?_ | refine blk_alloc ?_ _)); exact BK178.out) hb); have n2_ := Aside0.mk (blk_below (g := gb185) (o := .cells #[.int .i64 t182, .int .i64 t183, .int .i64 t184] 23 (0, 0)) (by (with_reducible repeat (first | refine blk_drewN ?_ _ | refine blk_drew ?_ | refine blk_alloc ?_ _)); refine blk_put (cs := #[.int .i64 t182, .int .i64 t183, .int .i64 0]) ?_ 2 _ rfl; (with_reducible repeat (first | refine blk_drewN ?_ _ | refine blk_drew ?_ | refine blk_alloc ?_ _)); refine blk_put (cs := #[.int .i64 t182, .int .i64 0, .int .i64 0]) ?_ 1 _ rfl; (with_reducible repeat (first | refine blk_drewN ?_ _ | refine blk_drew ?_ | refine blk_alloc ?_ _)); refine blk_put (cs := #[.int .i64 0, .int .i64 0, .int .i64 0]) ?_ 0 _ rfl; (with_reducible repeat (first | refine blk_drewN ?_ _ | refine blk_drew ?_ | refine blk_alloc ?_ _)); exact BK185.out) hb); have n3_ := Aside0.mk (below_step (by repeat (first | (with_reducible first | exact HB.out | apply below_alloc | apply pw_below_drewN | apply below_drew1 | refine below_set ?_ GE177.out | refine below_set ?_ GE178.out | refine below_set ?_ GE185.out) | exact HB.out)) hb); clear BK177; clear BK178; clear BK185; clear HB; have BK177 := n0_; have BK178 := n1_; have BK185 := n2_; have HB := n3_; clear n0_ n1_ n2_ n3_; (try clear hb); (try clear hb2); (try clear hk); (try clear hi)) | ((with_reducible refine gate_dst (N := 9) rfl ?_); refine box_event ?hg (N := 9) ?hd (cs := #[.int .i64 0, .int .i64 0, .int .i64 0]) (t := 23) ?hr ?_; (case hd => rfl); (case hg => rfl); (case hr => first | (go_simp; done) | (go_simp; rfl)); intro gb189 hg w77 hbox hb; have n0_ := Aside0.mk (blk_below (g := gb177) (o := .cells #[.int .i64 a0_0, .int .i64 a0_1, .int .i64 a0_2, .int .i64 a0_3, .int .i64 a0_4, .int .u32 a0_5] 41 (0, 0)) (by (with_reducible repeat (first | refine blk_drewN ?_ _ | refine blk_drew ?_ | refine blk_alloc ?_ _)); exact BK177.out) hb); have n1_ := Aside0.mk (blk_below (g := gb178) (o := .cells #[.int .i64 a0_0, .int .i64 a0_1, .int .i64 a0_2] 23 (0, 0)) (by (with_reducible repeat (first | refine blk_drewN ?_ _ | refine blk_drew ?_ | refine blk_alloc ?_ _)); exact BK178.out) hb); have n2_ := Aside0.mk (blk_below (g := gb185) (o := .cells #[.int .i64 t182, .int .i64 t183, .int .i64 t184] 23 (0, 0)) (by (with_reducible repeat (first | refine blk_drewN ?_ _ | refine blk_drew ?_ | refine blk_alloc ?_ _)); exact BK185.out) hb); have n3_ := Aside0.mk (below_step (by repeat (first | (with_reducible first | exact HB.out | apply below_alloc | apply pw_below_drewN | apply below_drew1 | refine below_set ?_ GE177.out | refine below_set ?_ GE178.out | refine below_set ?_ GE185.out) | exact HB.out)) hb); have n4_ := Aside0.mk (hbox); have n5_ := Aside0.mk ((by rw [hg]; exact (below_size (by repeat (first | (with_reducible first | exact HB.out | apply below_alloc | apply pw_below_drewN | apply below_drew1 | refine below_set ?_ GE177.out | refine below_set ?_ GE178.out | refine below_set ?_ GE185.out) | exact HB.out))) : w.heap.size ≤ gb189)); have n6_ := Aside0.mk ((by rw [hg]; exact (below_size (by repeat (first | (with_reducible first | exact HB.out | apply below_alloc | apply pw_below_drewN | apply below_drew1 | refine below_set ?_ GE177.out | refine below_set ?_ GE178.out | refine below_set ?_ GE185.out) | exact HB.out))) : w.heap.size ≤ gb189)); have n7_ := Aside0.mk ((by rw [hg]; exact Nat.ne_of_lt (blk_lt (g := gb177) (o := .cells #[.int .i64 a0_0, .int .i64 a0_1, .int .i64 a0_2, .int .i64 a0_3, .int .i64 a0_4, .int .u32 a0_5] 41 (0, 0)) (by (with_reducible repeat (first | refine blk_drewN ?_ _ | refine blk_drew ?_ | refine blk_alloc ?_ _)); exact BK177.out)) : gb177 ≠ gb189)); have n8_ := Aside0.mk ((by rw [hg]; exact Nat.ne_of_gt (blk_lt (g := gb177) (o := .cells #[.int .i64 a0_0, .int .i64 a0_1, .int .i64 a0_2, .int .i64 a0_3, .int .i64 a0_4, .int .u32 a0_5] 41 (0, 0)) (by (with_reducible repeat (first | refine blk_drewN ?_ _ | refine blk_drew ?_ | refine blk_alloc ?_ _)); exact BK177.out)) : gb189 ≠ gb177)); have n9_ := Aside0.mk ((by rw [hg]; exact Nat.ne_of_lt (blk_lt (g := gb178) (o := .cells #[.int .i64 a0_0, .int .i64 a0_1, .int .i64 a0_2] 23 (0, 0)) (by (with_reducible repeat (first | refine blk_drewN ?_ _ | refine blk_drew ?_ | refine blk_alloc ?_ _)); exact BK178.out)) : gb178 ≠ gb189)); have n10_ := Aside0.mk ((by rw [hg]; exact Nat.ne_of_gt (blk_lt (g := gb178) (o := .cells #[.int .i64 a0_0, .int .i64 a0_1, .int .i64 a0_2] 23 (0, 0)) (by (with_reducible repeat (first | refine blk_drewN ?_ _ | refine blk_drew ?_ | refine blk_alloc ?_ _)); exact BK178.out)) : gb189 ≠ gb178)); have n11_ := Aside0.mk ((by rw [hg]; exact Nat.ne_of_lt (blk_lt (g := gb185) (o := .cells #[.int .i64 t182, .int .i64 t183, .int .i64 t184] 23 (0, 0)) (by (with_reducible repeat (first | refine blk_drewN ?_ _ | refine blk_drew ?_ | refine blk_alloc ?_ _)); exact BK185.out)) : gb185 ≠ gb189)); have n12_ := Aside0.mk ((by rw [hg]; exact Nat.ne_of_gt (blk_lt (g := gb185) (o := .cells #[.int .i64 t182, .int .i64 t183, .int .i64 t184] 23 (0, 0)) (by (with_reducible repeat (first | refine blk_drewN ?_ _ | refine blk_drew ?_ | refine blk_alloc ?_ _)); exact BK185.out)) : gb189 ≠ gb185)); clear BK177; clear BK178; clear BK185; clear HB; have BK177 := n0_; have BK178 := n1_; have BK185 := n2_; have HB := n3_; have BK189 := n4_; have GW189 := n5_; have GE189 := n6_; have NB177_189 := n7_; have NB189_177 := n8_; have NB178_189 := n9_; have NB189_178 := n10_; have NB185_189 := n11_; have NB189_185 := n12_; clear n0_ n1_ n2_ n3_ n4_ n5_ n6_ n7_ n8_ n9_ n10_ n11_ n12_; clear hb hbox hg; have hnb78 := NB189_177.out; have hnc78 := NB177_189.out; have hnb79 := NB189_178.out; have hnc79 := NB178_189.out; have hnb80 := NB189_185.out; have hnc80 := NB185_189.out; have hcz81_0 : w77.cell? ⟨gb189, 0, none⟩ = some (.int .i64 0) := (blk_cell BK189.out 0).trans rfl; have hcz81_1 : w77.cell? ⟨gb189, 1, none⟩ = some (.int .i64 0) := (blk_cell BK189.out 1).trans rfl; have hcz81_2 : w77.cell? ⟨gb189, 2, none⟩ = some (.int .i64 0) := (blk_cell BK189.out 2).trans rfl; have hfz81_0 := blk_frozen BK189.out 0; have hfz81_1 := blk_frozen BK189.out 1; have hfz81_2 := blk_frozen BK189.out 2; have hcz82_0 : w77.cell? ⟨gb185, 0, none⟩ = some (.int .i64 t182) := (blk_cell BK185.out 0).trans rfl; have hcz82_1 : w77.cell? ⟨gb185, 1, none⟩ = some (.int .i64 t183) := (blk_cell BK185.out 1).trans rfl; have hcz82_2 : w77.cell? ⟨gb185, 2, none⟩ = some (.int .i64 t184) := (blk_cell BK185.out 2).trans rfl; have hfz82_0 := blk_frozen BK185.out 0; have hfz82_1 := blk_frozen BK185.out 1; have hfz82_2 := blk_frozen BK185.out 2; have hcz83_0 : w77.cell? ⟨gb178, 0, none⟩ = some (.int .i64 a0_0) := (blk_cell BK178.out 0).trans rfl; have hcz83_1 : w77.cell? ⟨gb178, 1, none⟩ = some (.int .i64 a0_1) := (blk_cell BK178.out 1).trans rfl; have hcz83_2 : w77.cell? ⟨gb178, 2, none⟩ = some (.int .i64 a0_2) := (blk_cell BK178.out 2).trans rfl; have hfz83_0 := blk_frozen BK178.out 0; have hfz83_1 := blk_frozen BK178.out 1; have hfz83_2 := blk_frozen BK178.out 2))
                        go_ret
                        exact ⟨by first | rfl | (simp [errW_none, errW_some] <;> rfl) | (simp [*, errW_none, errW_some] <;> rfl), by repeat (first | (with_reducible first | exact HB.out | apply below_alloc | apply pw_below_drewN | apply below_drew1 | refine below_set ?_ GE177.out | refine below_set ?_ GE178.out | refine below_set ?_ GE185.out | refine below_set ?_ GE189.out) | exact HB.out)⟩
                      · rw [if_neg c67] at H
                        have c67b0 : decide (1099511627776 < (wrap64 (a0_2 + a0_4))) = false := decide_eq_false c67
                        clear c67
                        obtain rfl := Option.some.inj H
                        have hnb84 := NB178_177.out
                        have hnc84 := NB177_178.out
                        have hcz85_0 : wc.cell? ⟨gb178, 0, none⟩ = some (.int .i64 a0_0) := (blk_cell BK178.out 0).trans rfl
                        have hcz85_1 : wc.cell? ⟨gb178, 1, none⟩ = some (.int .i64 a0_1) := (blk_cell BK178.out 1).trans rfl
                        have hcz85_2 : wc.cell? ⟨gb178, 2, none⟩ = some (.int .i64 a0_2) := (blk_cell BK178.out 2).trans rfl
                        have hfz85_0 := blk_frozen BK178.out 0
                        have hfz85_1 := blk_frozen BK178.out 1
                        have hfz85_2 := blk_frozen BK178.out 2
                        go_wp2_with (first | ((with_reducible refine gate_callee (f := 12) rfl ?_); refine goesL_ (some 39) rfl rfl Try.func12 (by kernel_rfl) rfl #[.agg #[.int .i64 a0_0, .int .i64 a0_1, .int .i64 a0_2], .int .i64 a0_3, .int .i64 a0_4] rfl (by (try simp only [List.map_toArray, List.map_cons, List.map_nil]); first | done | rfl | (simp only [List.length_drop, List.length_take]; rfl)) ?_; (with_reducible refine (meter_Add.calls a0_0 a0_1 a0_2 a0_3 a0_4 t182 t183 t184 _ A25.out).mono ?_); rintro e w86 ⟨rfl, hb⟩; refine ⟨_, rfl, ?_⟩; have n0_ := Aside0.mk (blk_below (g := gb177) (o := .cells #[.int .i64 a0_0, .int .i64 a0_1, .int .i64 a0_2, .int .i64 a0_3, .int .i64 a0_4, .int .u32 a0_5] 41 (0, 0)) (by (with_reducible repeat (first | refine blk_drewN ?_ _ | refine blk_drew ?_ | refine blk_alloc ?_ _)); exact BK177.out) hb); have n1_ := Aside0.mk (blk_below (g := gb178) (o := .cells #[.int .i64 a0_0, .int .i64 a0_1, .int .i64 a0_2] 23 (0, 0)) (by (with_reducible repeat (first | refine blk_drewN ?_ _ | refine blk_drew ?_ | refine blk_alloc ?_ _)); exact BK178.out) hb); have n2_ := Aside0.mk (below_step (by repeat (first | (with_reducible first | exact HB.out | apply below_alloc | apply pw_below_drewN | apply below_drew1 | refine below_set ?_ GE177.out | refine below_set ?_ GE178.out) | exact HB.out)) hb); clear BK177; clear BK178; clear HB; have BK177 := n0_; have BK178 := n1_; have HB := n2_; clear n0_ n1_ n2_; (try clear hb); (try clear hb2); (try clear hk); (try clear hi)) | ((with_reducible refine gate_dst (N := 8) rfl ?_); refine box_event ?hg (N := 8) ?hd (cs := #[.int .i64 0, .int .i64 0, .int .i64 0]) (t := 23) ?hr ?_; (case hd => rfl); (case hg => rfl); (case hr => first | (go_simp; done) | (go_simp; rfl)); intro gb185 hg w87 hbox hb; have n0_ := Aside0.mk (blk_below (g := gb177) (o := .cells #[.int .i64 a0_0, .int .i64 a0_1, .int .i64 a0_2, .int .i64 a0_3, .int .i64 a0_4, .int .u32 a0_5] 41 (0, 0)) (by (with_reducible repeat (first | refine blk_drewN ?_ _ | refine blk_drew ?_ | refine blk_alloc ?_ _)); exact BK177.out) hb); have n1_ := Aside0.mk (blk_below (g := gb178) (o := .cells #[.int .i64 a0_0, .int .i64 a0_1, .int .i64 a0_2] 23 (0, 0)) (by (with_reducible repeat (first | refine blk_drewN ?_ _ | refine blk_drew ?_ | refine blk_alloc ?_ _)); exact BK178.out) hb); have n2_ := Aside0.mk (below_step (by repeat (first | (with_reducible first | exact HB.out | apply below_alloc | apply pw_below_drewN | apply below_drew1 | refine below_set ?_ GE177.out | refine below_set ?_ GE178.out) | exact HB.out)) hb); have n3_ := Aside0.mk (hbox); have n4_ := Aside0.mk ((by rw [hg]; exact (below_size (by repeat (first | (with_reducible first | exact HB.out | apply below_alloc | apply pw_below_drewN | apply below_drew1 | refine below_set ?_ GE177.out | refine below_set ?_ GE178.out) | exact HB.out))) : w.heap.size ≤ gb185)); have n5_ := Aside0.mk ((by rw [hg]; exact (below_size (by repeat (first | (with_reducible first | exact HB.out | apply below_alloc | apply pw_below_drewN | apply below_drew1 | refine below_set ?_ GE177.out | refine below_set ?_ GE178.out) | exact HB.out))) : w.heap.size ≤ gb185)); have n6_ := Aside0.mk ((by rw [hg]; exact Nat.ne_of_lt (blk_lt (g := gb177) (o := .cells #[.int .i64 a0_0, .int .i64 a0_1, .int .i64 a0_2, .int .i64 a0_3, .int .i64 a0_4, .int .u32 a0_5] 41 (0, 0)) (by (with_reducible repeat (first | refine blk_drewN ?_ _ | refine blk_drew ?_ | refine blk_alloc ?_ _)); exact BK177.out)) : gb177 ≠ gb185)); have n7_ := Aside0.mk ((by rw [hg]; exact Nat.ne_of_gt (blk_lt (g := gb177) (o := .cells #[.int .i64 a0_0, .int .i64 a0_1, .int .i64 a0_2, .int .i64 a0_3, .int .i64 a0_4, .int .u32 a0_5] 41 (0, 0)) (by (with_reducible repeat (first | refine blk_drewN ?_ _ | refine blk_drew ?_ | refine blk_alloc ?_ _)); exact BK177.out)) : gb185 ≠ gb177)); have n8_ := Aside0.mk ((by rw [hg]; exact Nat.ne_of_lt (blk_lt (g := gb178) (o := .cells #[.int .i64 a0_0, .int .i64 a0_1, .int .i64 a0_2] 23 (0, 0)) (by (with_reducible repeat (first | refine blk_drewN ?_ _ | refine blk_drew ?_ | refine blk_alloc ?_ _)); exact BK178.out)) : gb178 ≠ gb185)); have n9_ := Aside0.mk ((by rw [hg]; exact Nat.ne_of_gt (blk_lt (g := gb178) (o := .cells #[.int .i64 a0_0, .int .i64 a0_1, .int .i64 a0_2] 23 (0, 0)) (by (with_reducible repeat (first | refine blk_drewN ?_ _ | refine blk_drew ?_ | refine blk_alloc ?_ _)); exact BK178.out)) : gb185 ≠ gb178)); clear BK177; clear BK178; clear HB; have BK177 := n0_; have BK178 := n1_; have HB := n2_; have BK185 := n3_; have GW185 := n4_; have GE185 := n5_; have NB177_185 := n6_; have NB185_177 := n7_; have NB178_185 := n8_; have NB185_178 := n9_; clear n0_ n1_ n2_ n3_ n4_ n5_ n6_ n7_ n8_ n9_; clear hb hbox hg; have hnb88 := NB185_177.out; have hnc88 := NB177_185.out; have hnb89 := NB185_178.out; have hnc89 := NB178_185.out; have hcz90_0 : w87.cell? ⟨gb185, 0, none⟩ = some (.int .i64 0) := (blk_cell BK185.out 0).trans rfl; have hcz90_1 : w87.cell? ⟨gb185, 1, none⟩ = some (.int .i64 0) := (blk_cell BK185.out 1).trans rfl; have hcz90_2 : w87.cell? ⟨gb185, 2, none⟩ = some (.int .i64 0) := (blk_cell BK185.out 2).trans rfl; have hfz90_0 := blk_frozen BK185.out 0; have hfz90_1 := blk_frozen BK185.out 1; have hfz90_2 := blk_frozen BK185.out 2; have hcz91_0 : w87.cell? ⟨gb178, 0, none⟩ = some (.int .i64 a0_0) := (blk_cell BK178.out 0).trans rfl; have hcz91_1 : w87.cell? ⟨gb178, 1, none⟩ = some (.int .i64 a0_1) := (blk_cell BK178.out 1).trans rfl; have hcz91_2 : w87.cell? ⟨gb178, 2, none⟩ = some (.int .i64 a0_2) := (blk_cell BK178.out 2).trans rfl; have hfz91_0 := blk_frozen BK178.out 0; have hfz91_1 := blk_frozen BK178.out 1; have hfz91_2 := blk_frozen BK178.out 2) | ((with_reducible refine gate_callee (f := 12) rfl ?_); refine goesL_ (some 46) rfl rfl Try.func12 (by kernel_rfl) rfl #[.agg #[.int .i64 a0_0, .int .i64 a0_1, .int .i64 a0_2], .int .i64 (wrap64 (a0_3 + (wrap64 (a0_5)))), .int .i64 a0_4] rfl (by (try simp only [List.map_toArray, List.map_cons, List.map_nil]); first | done | rfl | (simp only [List.length_drop, List.length_take]; rfl)) ?_; (with_reducible refine (meter_Add.calls a0_0 a0_1 a0_2 (wrap64 (a0_3 + (wrap64 (a0_5)))) a0_4 t186 t187 t188 _ A26.out).mono ?_); rintro e w92 ⟨rfl, hb⟩; refine ⟨_, rfl, ?_⟩; have n0_ := Aside0.mk (blk_below (g := gb177) (o := .cells #[.int .i64 a0_0, .int .i64 a0_1, .int .i64 a0_2, .int .i64 a0_3, .int .i64 a0_4, .int .u32 a0_5] 41 (0, 0)) (by (with_reducible repeat (first | refine blk_drewN ?_ _ | refine blk_drew ?_ | refine blk_alloc ?_ _)); refine blk_far ?_ NB177_185.out _; (with_reducible repeat (first | refine blk_drewN ?_ _ | refine blk_drew ?_ | refine blk_alloc ?_ _)); refine blk_far ?_ NB177_185.out _; (with_reducible repeat (first | refine blk_drewN ?_ _ | refine blk_drew ?_ | refine blk_alloc ?_ _)); refine blk_far ?_ NB177_185.out _; (with_reducible repeat (first | refine blk_drewN ?_ _ | refine blk_drew ?_ | refine blk_alloc ?_ _)); exact BK177.out) hb); have n1_ := Aside0.mk (blk_below (g := gb178) (o := .cells #[.int .i64 a0_0, .int .i64 a0_1, .int .i64 a0_2] 23 (0, 0)) (by (with_reducible repeat (first | refine blk_drewN ?_ _ | refine blk_drew ?_ | refine blk_alloc ?_ _)); refine blk_far ?_ NB178_185.out _; (with_reducible repeat (first | refine blk_drewN ?_ _ | refine blk_drew ?_ | refine blk_alloc ?_ _)); refine blk_far ?_ NB178_185.out _; (with_reducible repeat (first | refine blk_drewN ?_ _ | refine blk_drew ?_ | refine blk_alloc ?_ _)); refine blk_far ?_ NB178_185.out _; (with_reducible repeat (first | refine blk_drewN ?_ _ | refine blk_drew ?_ | refine blk_alloc ?_ _)); exact BK178.out) hb); have n2_ := Aside0.mk (blk_below (g := gb185) (o := .cells #[.int .i64 t182, .int .i64 t183, .int .i64 t184] 23 (0, 0)) (by (with_reducible repeat (first | refine blk_drewN ?_ _ | refine blk_drew ?_ | refine blk_alloc ?_ _)); refine blk_put (cs := #[.int .i64 t182, .int .i64 t183, .int .i64 0]) ?_ 2 _ rfl; (with_reducible repeat (first | refine blk_drewN ?_ _ | refine blk_drew ?_ | refine blk_alloc ?_ _)); refine blk_put (cs := #[.int .i64 t182, .int .i64 0, .int .i64 0]) ?_ 1 _ rfl; (with_reducible repeat (first | refine blk_drewN ?_ _ | refine blk_drew ?_ | refine blk_alloc ?_ _)); refine blk_put (cs := #[.int .i64 0, .int .i64 0, .int .i64 0]) ?_ 0 _ rfl; (with_reducible repeat (first | refine blk_drewN ?_ _ | refine blk_drew ?_ | refine blk_alloc ?_ _)); exact BK185.out) hb); have n3_ := Aside0.mk (below_step (by repeat (first | (with_reducible first | exact HB.out | apply below_alloc | apply pw_below_drewN | apply below_drew1 | refine below_set ?_ GE177.out | refine below_set ?_ GE178.out | refine below_set ?_ GE185.out) | exact HB.out)) hb); clear BK177; clear BK178; clear BK185; clear HB; have BK177 := n0_; have BK178 := n1_; have BK185 := n2_; have HB := n3_; clear n0_ n1_ n2_ n3_; (try clear hb); (try clear hb2); (try clear hk); (try clear hi)) | ((with_reducible refine gate_dst (N := 9) rfl ?_); refine box_event ?hg (N := 9) ?hd (cs := #[.int .i64 0, .int .i64 0, .int .i64 0]) (t := 23) ?hr ?_; (case hd => rfl); (case hg => rfl); (case hr => first | (go_simp; done) | (go_simp; rfl)); intro gb189 hg w93 hbox hb; have n0_ := Aside0.mk (blk_below (g := gb177) (o := .cells #[.int .i64 a0_0, .int .i64 a0_1, .int .i64 a0_2, .int .i64 a0_3, .int .i64 a0_4, .int .u32 a0_5] 41 (0, 0)) (by (with_reducible repeat (first | refine blk_drewN ?_ _ | refine blk_drew ?_ | refine blk_alloc ?_ _)); exact BK177.out) hb); have n1_ := Aside0.mk (blk_below (g := gb178) (o := .cells #[.int .i64 a0_0, .int .i64 a0_1, .int .i64 a0_2] 23 (0, 0)) (by (with_reducible repeat (first | refine blk_drewN ?_ _ | refine blk_drew ?_ | refine blk_alloc ?_ _)); exact BK178.out) hb); have n2_ := Aside0.mk (blk_below (g := gb185) (o := .cells #[.int .i64 t182, .int .i64 t183, .int .i64 t184] 23 (0, 0)) (by (with_reducible repeat (first | refine blk_drewN ?_ _ | refine blk_drew ?_ | refine blk_alloc ?_ _)); exact BK185.out) hb); have n3_ := Aside0.mk (below_step (by repeat (first | (with_reducible first | exact HB.out | apply below_alloc | apply pw_below_drewN | apply below_drew1 | refine below_set ?_ GE177.out | refine below_set ?_ GE178.out | refine below_set ?_ GE185.out) | exact HB.out)) hb); have n4_ := Aside0.mk (hbox); have n5_ := Aside0.mk ((by rw [hg]; exact (below_size (by repeat (first | (with_reducible first | exact HB.out | apply below_alloc | apply pw_below_drewN | apply below_drew1 | refine below_set ?_ GE177.out | refine below_set ?_ GE178.out | refine below_set ?_ GE185.out) | exact HB.out))) : w.heap.size ≤ gb189)); have n6_ := Aside0.mk ((by rw [hg]; exact (below_size (by repeat (first | (with_reducible first | exact HB.out | apply below_alloc | apply pw_below_drewN | apply below_drew1 | refine below_set ?_ GE177.out | refine below_set ?_ GE178.out | refine below_set ?_ GE185.out) | exact HB.out))) : w.heap.size ≤ gb189)); have n7_ := Aside0.mk ((by rw [hg]; exact Nat.ne_of_lt (blk_lt (g := gb177) (o := .cells #[.int .i64 a0_0, .int .i64 a0_1, .int .i64 a0_2, .int .i64 a0_3, .int .i64 a0_4, .int .u32 a0_5] 41 (0, 0)) (by (with_reducible repeat (first | refine blk_drewN ?_ _ | refine blk_drew ?_ | refine blk_alloc ?_ _)); exact BK177.out)) : gb177 ≠ gb189)); have n8_ := Aside0.mk ((by rw [hg]; exact Nat.ne_of_gt (blk_lt (g := gb177) (o := .cells #[.int .i64 a0_0, .int .i64 a0_1, .int .i64 a0_2, .int .i64 a0_3, .int .i64 a0_4, .int .u32 a0_5] 41 (0, 0)) (by (with_reducible repeat (first | refine blk_drewN ?_ _ | refine blk_drew ?_ | refine blk_alloc ?_ _)); exact BK177.out)) : gb189 ≠ gb177)); have n9_ := Aside0.mk ((by rw [hg]; exact Nat.ne_of_lt (blk_lt (g := gb178) (o := .cells #[.int .i64 a0_0, .int .i64 a0_1, .int .i64 a0_2] 23 (0, 0)) (by (with_reducible repeat (first | refine blk_drewN ?_ _ | refine blk_drew ?_ | refine blk_alloc ?_ _)); exact BK178.out)) : gb178 ≠ gb189)); have n10_ := Aside0.mk ((by rw [hg]; exact Nat.ne_of_gt (blk_lt (g := gb178) (o := .cells #[.int .i64 a0_0, .int .i64 a0_1, .int .i64 a0_2] 23 (0, 0)) (by (with_reducible repeat (first | refine blk_drewN ?_ _ | refine blk_drew ?_ | refine blk_alloc ?_ _)); exact BK178.out)) : gb189 ≠ gb178)); have n11_ := Aside0.mk ((by rw [hg]; exact Nat.ne_of_lt (blk_lt (g := gb185) (o := .cells #[.int .i64 t182, .int .i64 t183, .int .i64 t184] 23 (0, 0)) (by (with_reducible repeat (first | refine blk_drewN ?_ _ | refine blk_drew ?_ | refine blk_alloc ?_ _)); exact BK185.out)) : gb185 ≠ gb189)); have n12_ := Aside0.mk ((by rw [hg]; exact Nat.ne_of_gt (blk_lt (g := gb185) (o := .cells #[.int .i64 t182, .int .i64 t183, .int .i64 t184] 23 (0, 0)) (by (with_reducible repeat (first | refine blk_drewN ?_ _ | refine blk_drew ?_ | refine blk_alloc ?_ _)); exact BK185.out)) : gb189 ≠ gb185)); clear BK177; clear BK178; clear BK185; clear HB; have BK177 := n0_; have BK178 := n1_; have BK185 := n2_; have HB := n3_; have BK189 := n4_; have GW189 := n5_; have GE189 := n6_; have NB177_189 := n7_; have NB189_177 := n8_; have NB178_189 := n9_; have NB189_178 := n10_; have NB185_189 := n11_; have NB189_185 := n12_; clear n0_ n1_ n2_ n3_ n4_ n5_ n6_ n7_ n8_ n9_ n10_ n11_ n12_; clear hb hbox hg; have hnb94 := NB189_177.out; have hnc94 := NB177_189.out; have hnb95 := NB189_178.out; have hnc95 := NB178_189.out; have hnb96 := NB189_185.out; have hnc96 := NB185_189.out; have hcz97_0 : w93.cell? ⟨gb189, 0, none⟩ = some (.int .i64 0) := (blk_cell BK189.out 0).trans rfl; have hcz97_1 : w93.cell? ⟨gb189, 1, none⟩ = some (.int .i64 0) := (blk_cell BK189.out 1).trans rfl; have hcz97_2 : w93.cell? ⟨gb189, 2, none⟩ = some (.int .i64 0) := (blk_cell BK189.out 2).trans rfl; have hfz97_0 := blk_frozen BK189.out 0; have hfz97_1 := blk_frozen BK189.out 1; have hfz97_2 := blk_frozen BK189.out 2; have hcz98_0 : w93.cell? ⟨gb185, 0, none⟩ = some (.int .i64 t182) := (blk_cell BK185.out 0).trans rfl; have hcz98_1 : w93.cell? ⟨gb185, 1, none⟩ = some (.int .i64 t183) := (blk_cell BK185.out 1).trans rfl; have hcz98_2 : w93.cell? ⟨gb185, 2, none⟩ = some (.int .i64 t184) := (blk_cell BK185.out 2).trans rfl; have hfz98_0 := blk_frozen BK185.out 0; have hfz98_1 := blk_frozen BK185.out 1; have hfz98_2 := blk_frozen BK185.out 2; have hcz99_0 : w93.cell? ⟨gb178, 0, none⟩ = some (.int .i64 a0_0) := (blk_cell BK178.out 0).trans rfl; have hcz99_1 : w93.cell? ⟨gb178, 1, none⟩ = some (.int .i64 a0_1) := (blk_cell BK178.out 1).trans rfl; have hcz99_2 : w93.cell? ⟨gb178, 2, none⟩ = some (.int .i64 a0_2) := (blk_cell BK178.out 2).trans rfl; have hfz99_0 := blk_frozen BK178.out 0; have hfz99_1 := blk_frozen BK178.out 1; have hfz99_2 := blk_frozen BK178.out 2))
                        go_ret
                        exact ⟨by first | rfl | (simp [errW_none, errW_some] <;> rfl) | (simp [*, errW_none, errW_some] <;> rfl), by repeat (first | (with_reducible first | exact HB.out | apply below_alloc | apply pw_below_drewN | apply below_drew1 | refine below_set ?_ GE177.out | refine below_set ?_ GE178.out | refine below_set ?_ GE185.out | refine below_set ?_ GE189.out) | exact HB.out)⟩
                    · rw [if_neg c66] at H
                      exact absurd H (by simp)
                · rw [if_neg c31] at H
                  exact absurd H (by simp)
              · rw [if_neg c30] at H
                exact absurd H (by simp)
            · rw [if_neg c29] at H
              exact absurd H (by simp)
          · rw [if_neg c28] at H
            exact absurd H (by simp)
        · replace c27 := Bool.eq_false_iff.mpr c27
          subst c27
          have H1 : (none) = some r := by rw [if_neg (show ¬ (false = true) by decide)] at H; exact H
          clear H
          have H := H1
          clear H1
          exact absurd H (by simp)

/-! ### precentorlaw13_MeterSums: function 4 -/
mutual
def precentorlaw13_MeterSums.l0 : Nat → List (S35) → Bool → Int → Int → Int → Int → Int → Int → Int → Option (Bool)
  | 0, _, _, _, _, _, _, _, _, _ => none
  | k + 1, x0, x5, x6, x8, x9, x10, x192000, x192001, x192002 => if x10 < (x0.length : Int) then (if 0 ≤ x10 then ((meter_Add.f x192000 x192001 x192002 (Int.tmod (wrap64 ((rd_T35 x0 x10).f0)) 1048576) (Int.tmod (wrap64 ((rd_T35 x0 x10).f1)) 1048576)).bind fun bt194 => ((meter_Tick.f bt194.1 bt194.2.1 bt194.2.2 x6).bind fun bt197 => (if x6 = 0 then (none) else (if (bt197.2.2.2.2.2 != ((Int.tmod (wrap64 (x10 + 1)) x6) == 0)) = true then (precentorlaw13_MeterSums.j1 k x0 x5 x6 (wrap64 (x8 + (Int.tmod (wrap64 ((rd_T35 x0 x10).f0)) 1048576))) (wrap64 (x9 + (Int.tmod (wrap64 ((rd_T35 x0 x10).f1)) 1048576))) x10 bt197.2.2.2.2.2 true bt197.1 bt197.2.1 bt197.2.2.1) else (if bt197.2.2.2.2.2 = true then (if bt197.2.2.2.1 = (wrap64 (x8 + (Int.tmod (wrap64 ((rd_T35 x0 x10).f0)) 1048576))) then (if bt197.2.2.2.2.1 = (wrap64 (x9 + (Int.tmod (wrap64 ((rd_T35 x0 x10).f1)) 1048576))) then (if (!(bt197.1 == 0) || (!(bt197.2.1 == 0) || (!(bt197.2.2.1 == 0)))) = true then (precentorlaw13_MeterSums.j1 k x0 x5 x6 (wrap64 (x8 + (Int.tmod (wrap64 ((rd_T35 x0 x10).f0)) 1048576))) (wrap64 (x9 + (Int.tmod (wrap64 ((rd_T35 x0 x10).f1)) 1048576))) x10 bt197.2.2.2.2.2 true bt197.1 bt197.2.1 bt197.2.2.1) else (precentorlaw13_MeterSums.j1 k x0 x5 x6 (wrap64 (x8 + (Int.tmod (wrap64 ((rd_T35 x0 x10).f0)) 1048576))) (wrap64 (x9 + (Int.tmod (wrap64 ((rd_T35 x0 x10).f1)) 1048576))) x10 bt197.2.2.2.2.2 false bt197.1 bt197.2.1 bt197.2.2.1)) else (precentorlaw13_MeterSums.j1 k x0 x5 x6 (wrap64 (x8 + (Int.tmod (wrap64 ((rd_T35 x0 x10).f0)) 1048576))) (wrap64 (x9 + (Int.tmod (wrap64 ((rd_T35 x0 x10).f1)) 1048576))) x10 bt197.2.2.2.2.2 true bt197.1 bt197.2.1 bt197.2.2.1)) else (precentorlaw13_MeterSums.j1 k x0 x5 x6 (wrap64 (x8 + (Int.tmod (wrap64 ((rd_T35 x0 x10).f0)) 1048576))) (wrap64 (x9 + (Int.tmod (wrap64 ((rd_T35 x0 x10).f1)) 1048576))) x10 bt197.2.2.2.2.2 true bt197.1 bt197.2.1 bt197.2.2.1)) else (if bt197.2.1 = (wrap64 (x8 + (Int.tmod (wrap64 ((rd_T35 x0 x10).f0)) 1048576))) then (if bt197.2.2.1 = (wrap64 (x9 + (Int.tmod (wrap64 ((rd_T35 x0 x10).f1)) 1048576))) then (precentorlaw13_MeterSums.j1 k x0 x5 x6 (wrap64 (x8 + (Int.tmod (wrap64 ((rd_T35 x0 x10).f0)) 1048576))) (wrap64 (x9 + (Int.tmod (wrap64 ((rd_T35 x0 x10).f1)) 1048576))) x10 bt197.2.2.2.2.2 (bt197.1 != (Int.tmod (wrap64 (x10 + 1)) x6)) bt197.1 bt197.2.1 bt197.2.2.1) else (precentorlaw13_MeterSums.j1 k x0 x5 x6 (wrap64 (x8 + (Int.tmod (wrap64 ((rd_T35 x0 x10).f0)) 1048576))) (wrap64 (x9 + (Int.tmod (wrap64 ((rd_T35 x0 x10).f1)) 1048576))) x10 bt197.2.2.2.2.2 true bt197.1 bt197.2.1 bt197.2.2.1)) else (precentorlaw13_MeterSums.j1 k x0 x5 x6 (wrap64 (x8 + (Int.tmod (wrap64 ((rd_T35 x0 x10).f0)) 1048576))) (wrap64 (x9 + (Int.tmod (wrap64 ((rd_T35 x0 x10).f1)) 1048576))) x10 bt197.2.2.2.2.2 true bt197.1 bt197.2.1 bt197.2.2.1))))))) else (none)) else (some x5)
def precentorlaw13_MeterSums.j1 : Nat → List (S35) → Bool → Int → Int → Int → Int → Bool → Bool → Int → Int → Int → Option (Bool)
  | 0, _, _, _, _, _, _, _, _, _, _, _ => none
  | k + 1, x0, x5, x6, x8, x9, x10, x16, x113, x204000, x204001, x204002 => if x113 = true then (none) else (if x16 = true then (precentorlaw13_MeterSums.l0 k x0 x5 x6 0 0 (wrap64 (x10 + 1)) x204000 x204001 x204002) else (precentorlaw13_MeterSums.l0 k x0 x5 x6 x8 x9 (wrap64 (x10 + 1)) x204000 x204001 x204002))
end
def precentorlaw13_MeterSums.f (k : Nat) (l0 : List (S35)) (a1 : Int) : Option (Bool) := (precentorlaw13_shown.f).bind fun t190 => (if (l0.length : Int) > 200 then (some t190) else (precentorlaw13_MeterSums.l0 k l0 t190 (wrap64 (1 + (Int.tmod (wrap64 (a1)) 20))) 0 0 0 0 0 0))
theorem precentorlaw13_MeterSums.mono_l : ∀ k, (∀ y0 y1 y2 y3 y4 y5 y6 y7 y8, LeO (precentorlaw13_MeterSums.l0 k y0 y1 y2 y3 y4 y5 y6 y7 y8) (precentorlaw13_MeterSums.l0 (k + 1) y0 y1 y2 y3 y4 y5 y6 y7 y8)) ∧ (∀ y0 y1 y2 y3 y4 y5 y6 y7 y8 y9 y10, LeO (precentorlaw13_MeterSums.j1 k y0 y1 y2 y3 y4 y5 y6 y7 y8 y9 y10) (precentorlaw13_MeterSums.j1 (k + 1) y0 y1 y2 y3 y4 y5 y6 y7 y8 y9 y10))
  | 0 => ⟨fun _ _ _ _ _ _ _ _ _ r h => by simp [precentorlaw13_MeterSums.l0] at h, fun _ _ _ _ _ _ _ _ _ _ _ r h => by simp [precentorlaw13_MeterSums.j1] at h⟩
  | k + 1 => by
    obtain ⟨ih0, ih1⟩ := precentorlaw13_MeterSums.mono_l k
    refine ⟨?_, ?_⟩
    · intro y0 y1 y2 y3 y4 y5 y6 y7 y8
      unfold precentorlaw13_MeterSums.l0
      repeat' first
      | (with_reducible exact ih0 _ _ _ _ _ _ _ _ _)
      | (with_reducible exact ih1 _ _ _ _ _ _ _ _ _ _ _)
      | (with_reducible exact LeO.refl _)
      | (with_reducible exact LeO.none _)
      | (with_reducible refine LeO.ite ?_ ?_)
      | (with_reducible refine LeO.bind ?_ (fun _ => ?_))
      | exact ih0 _ _ _ _ _ _ _ _ _
      | exact ih1 _ _ _ _ _ _ _ _ _ _ _
      | exact LeO.none _
      | refine LeO.ite ?_ ?_
      | refine LeO.bind ?_ (fun _ => ?_)
    · intro y0 y1 y2 y3 y4 y5 y6 y7 y8 y9 y10
      unfold precentorlaw13_MeterSums.j1
      repeat' first
      | (with_reducible exact ih0 _ _ _ _ _ _ _ _ _)
      | (with_reducible exact ih1 _ _ _ _ _ _ _ _ _ _ _)
      | (with_reducible exact LeO.refl _)
      | (with_reducible exact LeO.none _)
      | (with_reducible refine LeO.ite ?_ ?_)
      | (with_reducible refine LeO.bind ?_ (fun _ => ?_))
      | exact ih0 _ _ _ _ _ _ _ _ _
      | exact ih1 _ _ _ _ _ _ _ _ _ _ _
      | exact LeO.none _
      | refine LeO.ite ?_ ?_
      | refine LeO.bind ?_ (fun _ => ?_)
theorem precentorlaw13_MeterSums.mono : ∀ a0 a1 k, LeO (precentorlaw13_MeterSums.f k a0 a1) (precentorlaw13_MeterSums.f (k + 1) a0 a1) := by
  intro a0 a1 k
  obtain ⟨ih0, ih1⟩ := precentorlaw13_MeterSums.mono_l k
  unfold precentorlaw13_MeterSums.f
  repeat' first
      | (with_reducible exact ih0 _ _ _ _ _ _ _ _ _)
      | (with_reducible exact ih1 _ _ _ _ _ _ _ _ _ _ _)
      | (with_reducible exact LeO.refl _)
      | (with_reducible exact LeO.none _)
      | (with_reducible refine LeO.ite ?_ ?_)
      | (with_reducible refine LeO.bind ?_ (fun _ => ?_))
      | exact ih0 _ _ _ _ _ _ _ _ _
      | exact ih1 _ _ _ _ _ _ _ _ _ _ _
      | exact LeO.none _
      | refine LeO.ite ?_ ?_
      | refine LeO.bind ?_ (fun _ => ?_)
set_option maxHeartbeats 8000000 in
set_option maxRecDepth 100000 in
theorem precentorlaw13_MeterSums.calls (k : Nat) (A0 : Option Addr) (c0 : Nat) (l0 : List (S35)) (a1 : Int) (r : Bool) (w : World) (hr0 : Kd.C k35 w A0 l0.length l0) (hc0 : l0.length ≤ c0) (h : precentorlaw13_MeterSums.f k l0 a1 = some r) :
    Calls Try.prog 4 #[.slice A0 l0.length c0, .int .u8 a1] w fun e w' => e = .returned (.bool r) ∧ Below w.heap.size w w' := by
  have hu23 := Try.underlying23
  have hu35 := Try.underlying35
  have HR0 := Aside0.mk hr0
  have HC0 := Aside0.mk hc0
  clear hr0 hc0
  have HB := Aside0.mk (Below.refl w.heap.size w)
  have H : ((precentorlaw13_shown.f).bind fun t190 => (if (l0.length : Int) > 200 then (some t190) else (precentorlaw13_MeterSums.l0 k l0 t190 (wrap64 (1 + (Int.tmod (wrap64 (a1)) 20))) 0 0 0 0 0 0))) = some r := h
  clear h
  replace H := Option.bind_eq_some_iff.mp H
  obtain ⟨t190, A30, H⟩ := H
  replace H : (if (l0.length : Int) > 200 then (some t190) else (precentorlaw13_MeterSums.l0 k l0 t190 (wrap64 (1 + (Int.tmod (wrap64 (a1)) 20))) 0 0 0 0 0 0)) = some r := H
  have A3 := Aside0.mk A30
  clear A30
  by_cases c4 : (l0.length : Int) > 200
  · rw [if_pos c4] at H
    have c4b0 : decide (200 < (l0.length : Int)) = true := decide_eq_true c4
    have c4b1 : decide (200 < l0.length) = true := decide_eq_true (by omega)
    clear c4
    obtain rfl := Option.some.inj H
    go_enter Try.func4, Try.ntmps4
    go_wp2_with (first | (go_at_call 7; (with_reducible refine (precentorlaw13_shown.calls  t190 _ A3.out).mono ?_); rintro e w5 ⟨rfl, hb⟩; have n0_ := Aside0.mk (below_step (by repeat (first | (with_reducible first | exact HB.out | apply below_alloc | apply pw_below_drewN | apply below_drew1) | exact HB.out)) hb); clear HB; have HB := n0_; clear n0_; (try clear hb); (try clear hb2); (try clear hk); (try clear hi)))
    repeat (go_quiet (first | (go_at_call 7; (with_reducible refine (precentorlaw13_shown.calls  t190 _ A3.out).mono ?_); rintro e w5 ⟨rfl, hb⟩; have n0_ := Aside0.mk (below_step (by repeat (first | (with_reducible first | exact HB.out | apply below_alloc | apply pw_below_drewN | apply below_drew1) | exact HB.out)) hb); clear HB; have HB := n0_; clear n0_; (try clear hb); (try clear hb2); (try clear hk); (try clear hi))); try go_wp2_with (first | (go_at_call 7; (with_reducible refine (precentorlaw13_shown.calls  t190 _ A3.out).mono ?_); rintro e w5 ⟨rfl, hb⟩; have n0_ := Aside0.mk (below_step (by repeat (first | (with_reducible first | exact HB.out | apply below_alloc | apply pw_below_drewN | apply below_drew1) | exact HB.out)) hb); clear HB; have HB := n0_; clear n0_; (try clear hb); (try clear hb2); (try clear hk); (try clear hi))))
    go_ret
    exact ⟨by first | rfl | (simp [errW_none, errW_some] <;> rfl) | (simp [*, errW_none, errW_some] <;> rfl), by repeat (first | (with_reducible first | exact HB.out | apply below_alloc | apply pw_below_drewN | apply below_drew1) | exact HB.out)⟩
  · rw [if_neg c4] at H
    have c4b0 : decide (200 < (l0.length : Int)) = false := decide_eq_false c4
    have c4b1 : decide (200 < l0.length) = false := decide_eq_false (by omega)
    clear c4
    have H' := Aside0.mk H
    clear H
    go_enter Try.func4, Try.ntmps4
    go_wp2_with (first | (go_at_call 7; (with_reducible refine (precentorlaw13_shown.calls  t190 _ A3.out).mono ?_); rintro e w6 ⟨rfl, hb⟩; have n0_ := Aside0.mk (below_step (by repeat (first | (with_reducible first | exact HB.out | apply below_alloc | apply pw_below_drewN | apply below_drew1) | exact HB.out)) hb); clear HB; have HB := n0_; clear n0_; (try clear hb); (try clear hb2); (try clear hk); (try clear hi)) | ((with_reducible refine gate_dst (N := 7) rfl ?_); refine box_event ?hg (N := 7) ?hd (cs := #[.int .i64 0, .int .i64 0, .int .i64 0]) (t := 23) ?hr ?_; (case hd => rfl); (case hg => rfl); (case hr => first | (go_simp; done) | (go_simp; rfl)); intro gb191 hg w7 hbox hb; have n0_ := Aside0.mk (below_step (by repeat (first | (with_reducible first | exact HB.out | apply below_alloc | apply pw_below_drewN | apply below_drew1) | exact HB.out)) hb); have n1_ := Aside0.mk (hbox); have n2_ := Aside0.mk ((by rw [hg]; exact (below_size (by repeat (first | (with_reducible first | exact HB.out | apply below_alloc | apply pw_below_drewN | apply below_drew1) | exact HB.out))) : w.heap.size ≤ gb191)); have n3_ := Aside0.mk ((by rw [hg]; exact (below_size (by repeat (first | (with_reducible first | exact HB.out | apply below_alloc | apply pw_below_drewN | apply below_drew1) | exact HB.out))) : w.heap.size ≤ gb191)); clear HB; have HB := n0_; have BK191 := n1_; have GW191 := n2_; have GE191 := n3_; clear n0_ n1_ n2_ n3_; clear hb hbox hg; have hcz8_0 : w7.cell? ⟨gb191, 0, none⟩ = some (.int .i64 0) := (blk_cell BK191.out 0).trans rfl; have hcz8_1 : w7.cell? ⟨gb191, 1, none⟩ = some (.int .i64 0) := (blk_cell BK191.out 1).trans rfl; have hcz8_2 : w7.cell? ⟨gb191, 2, none⟩ = some (.int .i64 0) := (blk_cell BK191.out 2).trans rfl; have hfz8_0 := blk_frozen BK191.out 0; have hfz8_1 := blk_frozen BK191.out 1; have hfz8_2 := blk_frozen BK191.out 2))
    repeat (go_quiet (first | (go_at_call 7; (with_reducible refine (precentorlaw13_shown.calls  t190 _ A3.out).mono ?_); rintro e w6 ⟨rfl, hb⟩; have n0_ := Aside0.mk (below_step (by repeat (first | (with_reducible first | exact HB.out | apply below_alloc | apply pw_below_drewN | apply below_drew1) | exact HB.out)) hb); clear HB; have HB := n0_; clear n0_; (try clear hb); (try clear hb2); (try clear hk); (try clear hi)) | ((with_reducible refine gate_dst (N := 7) rfl ?_); refine box_event ?hg (N := 7) ?hd (cs := #[.int .i64 0, .int .i64 0, .int .i64 0]) (t := 23) ?hr ?_; (case hd => rfl); (case hg => rfl); (case hr => first | (go_simp; done) | (go_simp; rfl)); intro gb191 hg w7 hbox hb; have n0_ := Aside0.mk (below_step (by repeat (first | (with_reducible first | exact HB.out | apply below_alloc | apply pw_below_drewN | apply below_drew1) | exact HB.out)) hb); have n1_ := Aside0.mk (hbox); have n2_ := Aside0.mk ((by rw [hg]; exact (below_size (by repeat (first | (with_reducible first | exact HB.out | apply below_alloc | apply pw_below_drewN | apply below_drew1) | exact HB.out))) : w.heap.size ≤ gb191)); have n3_ := Aside0.mk ((by rw [hg]; exact (below_size (by repeat (first | (with_reducible first | exact HB.out | apply below_alloc | apply pw_below_drewN | apply below_drew1) | exact HB.out))) : w.heap.size ≤ gb191)); clear HB; have HB := n0_; have BK191 := n1_; have GW191 := n2_; have GE191 := n3_; clear n0_ n1_ n2_ n3_; clear hb hbox hg; have hcz8_0 : w7.cell? ⟨gb191, 0, none⟩ = some (.int .i64 0) := (blk_cell BK191.out 0).trans rfl; have hcz8_1 : w7.cell? ⟨gb191, 1, none⟩ = some (.int .i64 0) := (blk_cell BK191.out 1).trans rfl; have hcz8_2 : w7.cell? ⟨gb191, 2, none⟩ = some (.int .i64 0) := (blk_cell BK191.out 2).trans rfl; have hfz8_0 := blk_frozen BK191.out 0; have hfz8_1 := blk_frozen BK191.out 1; have hfz8_2 := blk_frozen BK191.out 2)); try go_wp2_with (first | (go_at_call 7; (with_reducible refine (precentorlaw13_shown.calls  t190 _ A3.out).mono ?_); rintro e w6 ⟨rfl, hb⟩; have n0_ := Aside0.mk (below_step (by repeat (first | (with_reducible first | exact HB.out | apply below_alloc | apply pw_below_drewN | apply below_drew1) | exact HB.out)) hb); clear HB; have HB := n0_; clear n0_; (try clear hb); (try clear hb2); (try clear hk); (try clear hi)) | ((with_reducible refine gate_dst (N := 7) rfl ?_); refine box_event ?hg (N := 7) ?hd (cs := #[.int .i64 0, .int .i64 0, .int .i64 0]) (t := 23) ?hr ?_; (case hd => rfl); (case hg => rfl); (case hr => first | (go_simp; done) | (go_simp; rfl)); intro gb191 hg w7 hbox hb; have n0_ := Aside0.mk (below_step (by repeat (first | (with_reducible first | exact HB.out | apply below_alloc | apply pw_below_drewN | apply below_drew1) | exact HB.out)) hb); have n1_ := Aside0.mk (hbox); have n2_ := Aside0.mk ((by rw [hg]; exact (below_size (by repeat (first | (with_reducible first | exact HB.out | apply below_alloc | apply pw_below_drewN | apply below_drew1) | exact HB.out))) : w.heap.size ≤ gb191)); have n3_ := Aside0.mk ((by rw [hg]; exact (below_size (by repeat (first | (with_reducible first | exact HB.out | apply below_alloc | apply pw_below_drewN | apply below_drew1) | exact HB.out))) : w.heap.size ≤ gb191)); clear HB; have HB := n0_; have BK191 := n1_; have GW191 := n2_; have GE191 := n3_; clear n0_ n1_ n2_ n3_; clear hb hbox hg; have hcz8_0 : w7.cell? ⟨gb191, 0, none⟩ = some (.int .i64 0) := (blk_cell BK191.out 0).trans rfl; have hcz8_1 : w7.cell? ⟨gb191, 1, none⟩ = some (.int .i64 0) := (blk_cell BK191.out 1).trans rfl; have hcz8_2 : w7.cell? ⟨gb191, 2, none⟩ = some (.int .i64 0) := (blk_cell BK191.out 2).trans rfl; have hfz8_0 := blk_frozen BK191.out 0; have hfz8_1 := blk_frozen BK191.out 1; have hfz8_2 := blk_frozen BK191.out 2)))
    go_loopg [8, 9, 10] k (fun kq v8 v9 v10 w' => ∃ (x8_1 : Int) (x9_1 : Int) (x10_1 : Int) (x192000_1 : Int) (x192001_1 : Int) (x192002_1 : Int), v8 = .int .i64 x8_1 ∧ v9 = .int .i64 x9_1 ∧ v10 = .int .i64 x10_1 ∧ Aside0 (precentorlaw13_MeterSums.l0 kq l0 t190 (wrap64 (1 + (Int.tmod (wrap64 (a1)) 20))) x8_1 x9_1 x10_1 x192000_1 x192001_1 x192002_1 = some r) ∧ Aside0 (kq ≤ k) ∧ Aside0 (w'.heap[gb191]? = some (.cells #[.int .i64 x192000_1, .int .i64 x192001_1, .int .i64 x192002_1] 23 (0, 0))) ∧ Aside0 (Below w.heap.size w w'))
    case atStart => exact ⟨(0), (0), (0), (0), (0), (0), (by first | rfl | (simp; done) | (simp [*]; done)), (by first | rfl | (simp; done) | (simp [*]; done)), (by first | rfl | (simp; done) | (simp [*]; done)), H', ⟨Nat.le_refl _⟩, ⟨by (with_reducible repeat (first | refine blk_drewN ?_ _ | refine blk_drew ?_ | refine blk_alloc ?_ _)); refine blk_put (cs := #[.int .i64 0, .int .i64 0, .int .i64 0]) ?_ 2 _ rfl; (with_reducible repeat (first | refine blk_drewN ?_ _ | refine blk_drew ?_ | refine blk_alloc ?_ _)); refine blk_put (cs := #[.int .i64 0, .int .i64 0, .int .i64 0]) ?_ 1 _ rfl; (with_reducible repeat (first | refine blk_drewN ?_ _ | refine blk_drew ?_ | refine blk_alloc ?_ _)); refine blk_put (cs := #[.int .i64 0, .int .i64 0, .int .i64 0]) ?_ 0 _ rfl; (with_reducible repeat (first | refine blk_drewN ?_ _ | refine blk_drew ?_ | refine blk_alloc ?_ _)); exact BK191.out⟩, ⟨by repeat (first | (with_reducible first | exact HB.out | apply below_alloc | apply pw_below_drewN | apply below_drew1 | refine below_set ?_ GE191.out) | exact HB.out)⟩⟩
    case round =>
      clear H'
      try clear p2
      try clear c4
      try clear c4b0
      try clear c4b1
      try clear p6
      try clear hcz8_0
      try clear hcz8_1
      try clear hcz8_2
      try clear hfz8_0
      try clear hfz8_1
      try clear hfz8_2
      obtain ⟨x8_1, x9_1, x10_1, x192000_1, x192001_1, x192002_1, rfl, rfl, rfl, HA, HK1, BK191, HB⟩ := hrel
      cases gk with
      | zero => exact absurd HA.out (by simp [precentorlaw13_MeterSums.l0])
      | succ k1 =>
        have H := HA.out
        clear HA
        simp only [precentorlaw13_MeterSums.l0] at H
        by_cases c9 : x10_1 < (l0.length : Int)
        · rw [if_pos c9] at H
          have c9b0 : decide (x10_1 < (l0.length : Int)) = true := decide_eq_true c9
          clear c9
          by_cases c10 : 0 ≤ x10_1
          · rw [if_pos c10] at H
            have c10b0 : decide (0 ≤ x10_1) = true := decide_eq_true c10
            clear c10
            replace H := Option.bind_eq_some_iff.mp H
            obtain ⟨⟨t194, t195, t196⟩, A110, H⟩ := H
            replace H : ((meter_Tick.f t194 t195 t196 (wrap64 (1 + (Int.tmod (wrap64 (a1)) 20)))).bind fun bt197 => (if (wrap64 (1 + (Int.tmod (wrap64 (a1)) 20))) = 0 then (none) else (if (bt197.2.2.2.2.2 != ((Int.tmod (wrap64 (x10_1 + 1)) (wrap64 (1 + (Int.tmod (wrap64 (a1)) 20)))) == 0)) = true then (precentorlaw13_MeterSums.j1 k1 l0 t190 (wrap64 (1 + (Int.tmod (wrap64 (a1)) 20))) (wrap64 (x8_1 + (Int.tmod (wrap64 ((rd_T35 l0 x10_1).f0)) 1048576))) (wrap64 (x9_1 + (Int.tmod (wrap64 ((rd_T35 l0 x10_1).f1)) 1048576))) x10_1 bt197.2.2.2.2.2 true bt197.1 bt197.2.1 bt197.2.2.1) else (if bt197.2.2.2.2.2 = true then (if bt197.2.2.2.1 = (wrap64 (x8_1 + (Int.tmod (wrap64 ((rd_T35 l0 x10_1).f0)) 1048576))) then (if bt197.2.2.2.2.1 = (wrap64 (x9_1 + (Int.tmod (wrap64 ((rd_T35 l0 x10_1).f1)) 1048576))) then (if (!(bt197.1 == 0) || (!(bt197.2.1 == 0) || (!(bt197.2.2.1 == 0)))) = true then (precentorlaw13_MeterSums.j1 k1 l0 t190 (wrap64 (1 + (Int.tmod (wrap64 (a1)) 20))) (wrap64 (x8_1 + (Int.tmod (wrap64 ((rd_T35 l0 x10_1).f0)) 1048576))) (wrap64 (x9_1 + (Int.tmod (wrap64 ((rd_T35 l0 x10_1).f1)) 1048576))) x10_1 bt197.2.2.2.2.2 true bt197.1 bt197.2.1 bt197.2.2.1) else (precentorlaw13_MeterSums.j1 k1 l0 t190 (wrap64 (1 + (Int.tmod (wrap64 (a1)) 20))) (wrap64 (x8_1 + (Int.tmod (wrap64 ((rd_T35 l0 x10_1).f0)) 1048576))) (wrap64 (x9_1 + (Int.tmod (wrap64 ((rd_T35 l0 x10_1).f1)) 1048576))) x10_1 bt197.2.2.2.2.2 false bt197.1 bt197.2.1 bt197.2.2.1)) else (precentorlaw13_MeterSums.j1 k1 l0 t190 (wrap64 (1 + (Int.tmod (wrap64 (a1)) 20))) (wrap64 (x8_1 + (Int.tmod (wrap64 ((rd_T35 l0 x10_1).f0)) 1048576))) (wrap64 (x9_1 + (Int.tmod (wrap64 ((rd_T35 l0 x10_1).f1)) 1048576))) x10_1 bt197.2.2.2.2.2 true bt197.1 bt197.2.1 bt197.2.2.1)) else (precentorlaw13_MeterSums.j1 k1 l0 t190 (wrap64 (1 + (Int.tmod (wrap64 (a1)) 20))) (wrap64 (x8_1 + (Int.tmod (wrap64 ((rd_T35 l0 x10_1).f0)) 1048576))) (wrap64 (x9_1 + (Int.tmod (wrap64 ((rd_T35 l0 x10_1).f1)) 1048576))) x10_1 bt197.2.2.2.2.2 true bt197.1 bt197.2.1 bt197.2.2.1)) else (if bt197.2.1 = (wrap64 (x8_1 + (Int.tmod (wrap64 ((rd_T35 l0 x10_1).f0)) 1048576))) then (if bt197.2.2.1 = (wrap64 (x9_1 + (Int.tmod (wrap64 ((rd_T35 l0 x10_1).f1)) 1048576))) then (precentorlaw13_MeterSums.j1 k1 l0 t190 (wrap64 (1 + (Int.tmod (wrap64 (a1)) 20))) (wrap64 (x8_1 + (Int.tmod (wrap64 ((rd_T35 l0 x10_1).f0)) 1048576))) (wrap64 (x9_1 + (Int.tmod (wrap64 ((rd_T35 l0 x10_1).f1)) 1048576))) x10_1 bt197.2.2.2.2.2 (bt197.1 != (Int.tmod (wrap64 (x10_1 + 1)) (wrap64 (1 + (Int.tmod (wrap64 (a1)) 20))))) bt197.1 bt197.2.1 bt197.2.2.1) else (precentorlaw13_MeterSums.j1 k1 l0 t190 (wrap64 (1 + (Int.tmod (wrap64 (a1)) 20))) (wrap64 (x8_1 + (Int.tmod (wrap64 ((rd_T35 l0 x10_1).f0)) 1048576))) (wrap64 (x9_1 + (Int.tmod (wrap64 ((rd_T35 l0 x10_1).f1)) 1048576))) x10_1 bt197.2.2.2.2.2 true bt197.1 bt197.2.1 bt197.2.2.1)) else (precentorlaw13_MeterSums.j1 k1 l0 t190 (wrap64 (1 + (Int.tmod (wrap64 (a1)) 20))) (wrap64 (x8_1 + (Int.tmod (wrap64 ((rd_T35 l0 x10_1).f0)) 1048576))) (wrap64 (x9_1 + (Int.tmod (wrap64 ((rd_T35 l0 x10_1).f1)) 1048576))) x10_1 bt197.2.2.2.2.2 true bt197.1 bt197.2.1 bt197.2.2.1)))))) = some r := H
            have A11 := Aside0.mk A110
            clear A110
            replace H := Option.bind_eq_some_iff.mp H
            obtain ⟨⟨t197, t198, t199, t200, t201, t202⟩, A120, H⟩ := H
            replace H : (if (wrap64 (1 + (Int.tmod (wrap64 (a1)) 20))) = 0 then (none) else (if (t202 != ((Int.tmod (wrap64 (x10_1 + 1)) (wrap64 (1 + (Int.tmod (wrap64 (a1)) 20)))) == 0)) = true then (precentorlaw13_MeterSums.j1 k1 l0 t190 (wrap64 (1 + (Int.tmod (wrap64 (a1)) 20))) (wrap64 (x8_1 + (Int.tmod (wrap64 ((rd_T35 l0 x10_1).f0)) 1048576))) (wrap64 (x9_1 + (Int.tmod (wrap64 ((rd_T35 l0 x10_1).f1)) 1048576))) x10_1 t202 true t197 t198 t199) else (if t202 = true then (if t200 = (wrap64 (x8_1 + (Int.tmod (wrap64 ((rd_T35 l0 x10_1).f0)) 1048576))) then (if t201 = (wrap64 (x9_1 + (Int.tmod (wrap64 ((rd_T35 l0 x10_1).f1)) 1048576))) then (if (!(t197 == 0) || (!(t198 == 0) || (!(t199 == 0)))) = true then (precentorlaw13_MeterSums.j1 k1 l0 t190 (wrap64 (1 + (Int.tmod (wrap64 (a1)) 20))) (wrap64 (x8_1 + (Int.tmod (wrap64 ((rd_T35 l0 x10_1).f0)) 1048576))) (wrap64 (x9_1 + (Int.tmod (wrap64 ((rd_T35 l0 x10_1).f1)) 1048576))) x10_1 t202 true t197 t198 t199) else (precentorlaw13_MeterSums.j1 k1 l0 t190 (wrap64 (1 + (Int.tmod (wrap64 (a1)) 20))) (wrap64 (x8_1 + (Int.tmod (wrap64 ((rd_T35 l0 x10_1).f0)) 1048576))) (wrap64 (x9_1 + (Int.tmod (wrap64 ((rd_T35 l0 x10_1).f1)) 1048576))) x10_1 t202 false t197 t198 t199)) else (precentorlaw13_MeterSums.j1 k1 l0 t190 (wrap64 (1 + (Int.tmod (wrap64 (a1)) 20))) (wrap64 (x8_1 + (Int.tmod (wrap64 ((rd_T35 l0 x10_1).f0)) 1048576))) (wrap64 (x9_1 + (Int.tmod (wrap64 ((rd_T35 l0 x10_1).f1)) 1048576))) x10_1 t202 true t197 t198 t199)) else (precentorlaw13_MeterSums.j1 k1 l0 t190 (wrap64 (1 + (Int.tmod (wrap64 (a1)) 20))) (wrap64 (x8_1 + (Int.tmod (wrap64 ((rd_T35 l0 x10_1).f0)) 1048576))) (wrap64 (x9_1 + (Int.tmod (wrap64 ((rd_T35 l0 x10_1).f1)) 1048576))) x10_1 t202 true t197 t198 t199)) else (if t198 = (wrap64 (x8_1 + (Int.tmod (wrap64 ((rd_T35 l0 x10_1).f0)) 1048576))) then (if t199 = (wrap64 (x9_1 + (Int.tmod (wrap64 ((rd_T35 l0 x10_1).f1)) 1048576))) then (precentorlaw13_MeterSums.j1 k1 l0 t190 (wrap64 (1 + (Int.tmod (wrap64 (a1)) 20))) (wrap64 (x8_1 + (Int.tmod (wrap64 ((rd_T35 l0 x10_1).f0)) 1048576))) (wrap64 (x9_1 + (Int.tmod (wrap64 ((rd_T35 l0 x10_1).f1)) 1048576))) x10_1 t202 (t197 != (Int.tmod (wrap64 (x10_1 + 1)) (wrap64 (1 + (Int.tmod (wrap64 (a1)) 20))))) t197 t198 t199) else (precentorlaw13_MeterSums.j1 k1 l0 t190 (wrap64 (1 + (Int.tmod (wrap64 (a1)) 20))) (wrap64 (x8_1 + (Int.tmod (wrap64 ((rd_T35 l0 x10_1).f0)) 1048576))) (wrap64 (x9_1 + (Int.tmod (wrap64 ((rd_T35 l0 x10_1).f1)) 1048576))) x10_1 t202 true t197 t198 t199)) else (precentorlaw13_MeterSums.j1 k1 l0 t190 (wrap64 (1 + (Int.tmod (wrap64 (a1)) 20))) (wrap64 (x8_1 + (Int.tmod (wrap64 ((rd_T35 l0 x10_1).f0)) 1048576))) (wrap64 (x9_1 + (Int.tmod (wrap64 ((rd_T35 l0 x10_1).f1)) 1048576))) x10_1 t202 true t197 t198 t199))))) = some r := H
            have A12 := Aside0.mk A120
            clear A120
            have HC13 := Aside0.mk H
            clear H
            have p192 : 0 ≤ (x10_1 : Int) := of_decide_eq_true (by first | (with_reducible assumption) | assumption)
            have q192 : x10_1 < (l0.length : Int) := of_decide_eq_true (by first | (with_reducible assumption) | assumption)
            obtain ⟨ad192, e192, hx192_0, hx192_1⟩ := at_T35 HR0.out x10_1 p192 q192
            cases e192
            replace hx192_0 := (HB.out.cell (World.block_lt_of_cell? w _ hx192_0)).trans hx192_0
            replace hx192_1 := (HB.out.cell (World.block_lt_of_cell? w _ hx192_1)).trans hx192_1
            replace p192 := eq_true p192
            replace q192 := eq_true q192
            have p193 : 0 ≤ (x10_1 : Int) := of_decide_eq_true (by first | (with_reducible assumption) | assumption)
            have q193 : x10_1 < (l0.length : Int) := of_decide_eq_true (by first | (with_reducible assumption) | assumption)
            obtain ⟨ad193, e193, hx193_0, hx193_1⟩ := at_T35 HR0.out x10_1 p193 q193
            obtain rfl : ad192 = ad193 := (by injection e193)
            replace hx193_0 := (HB.out.cell (World.block_lt_of_cell? w _ hx193_0)).trans hx193_0
            replace hx193_1 := (HB.out.cell (World.block_lt_of_cell? w _ hx193_1)).trans hx193_1
            replace p193 := eq_true p193
            replace q193 := eq_true q193
            have hcz14_0 : wr.cell? ⟨gb191, 0, none⟩ = some (.int .i64 x192000_1) := (blk_cell BK191.out 0).trans rfl
            have hcz14_1 : wr.cell? ⟨gb191, 1, none⟩ = some (.int .i64 x192001_1) := (blk_cell BK191.out 1).trans rfl
            have hcz14_2 : wr.cell? ⟨gb191, 2, none⟩ = some (.int .i64 x192002_1) := (blk_cell BK191.out 2).trans rfl
            have hfz14_0 := blk_frozen BK191.out 0
            have hfz14_1 := blk_frozen BK191.out 1
            have hfz14_2 := blk_frozen BK191.out 2
            go_upto_region 16 with (first | (go_at_call 12; (with_reducible refine (meter_Add.calls x192000_1 x192001_1 x192002_1 (Int.tmod (wrap64 ((rd_T35 l0 x10_1).f0)) 1048576) (Int.tmod (wrap64 ((rd_T35 l0 x10_1).f1)) 1048576) t194 t195 t196 _ A11.out).mono ?_); rintro e w15 ⟨rfl, hb⟩; have n0_ := Aside0.mk (blk_below (g := gb191) (o := .cells #[.int .i64 x192000_1, .int .i64 x192001_1, .int .i64 x192002_1] 23 (0, 0)) (by (with_reducible repeat (first | refine blk_drewN ?_ _ | refine blk_drew ?_ | refine blk_alloc ?_ _)); exact BK191.out) hb); have n1_ := Aside0.mk (below_step (by repeat (first | (with_reducible first | exact HB.out | apply below_alloc | apply pw_below_drewN | apply below_drew1 | refine below_set ?_ GE191.out) | exact HB.out)) hb); clear BK191; clear HB; have BK191 := n0_; have HB := n1_; clear n0_ n1_; (try clear hb); (try clear hb2); (try clear hk); (try clear hi)) | (go_at_call 10; (with_reducible refine (meter_Tick.calls t194 t195 t196 (wrap64 (1 + (Int.tmod (wrap64 (a1)) 20))) t197 t198 t199 t200 t201 t202 _ A12.out).mono ?_); rintro e w16 ⟨rfl, hb⟩; have n0_ := Aside0.mk (blk_below (g := gb191) (o := .cells #[.int .i64 x192000_1, .int .i64 x192001_1, .int .i64 x192002_1] 23 (0, 0)) (by (with_reducible repeat (first | refine blk_drewN ?_ _ | refine blk_drew ?_ | refine blk_alloc ?_ _)); exact BK191.out) hb); have n1_ := Aside0.mk (below_step (by repeat (first | (with_reducible first | exact HB.out | apply below_alloc | apply pw_below_drewN | apply below_drew1 | refine below_set ?_ GE191.out) | exact HB.out)) hb); clear BK191; clear HB; have BK191 := n0_; have HB := n1_; clear n0_ n1_; (try clear hb); (try clear hb2); (try clear hk); (try clear hi)) | ((with_reducible refine gate_dst (N := 13) rfl ?_); refine box_event ?hg (N := 13) ?hd (cs := #[.int .i64 0, .int .i64 0, .int .i64 0]) (t := 23) ?hr ?_; (case hd => rfl); (case hg => rfl); (case hr => first | (go_simp; done) | (go_simp; rfl)); intro gb203 hg w17 hbox hb; have n0_ := Aside0.mk (blk_below (g := gb191) (o := .cells #[.int .i64 x192000_1, .int .i64 x192001_1, .int .i64 x192002_1] 23 (0, 0)) (by (with_reducible repeat (first | refine blk_drewN ?_ _ | refine blk_drew ?_ | refine blk_alloc ?_ _)); exact BK191.out) hb); have n1_ := Aside0.mk (below_step (by repeat (first | (with_reducible first | exact HB.out | apply below_alloc | apply pw_below_drewN | apply below_drew1 | refine below_set ?_ GE191.out) | exact HB.out)) hb); have n2_ := Aside0.mk (hbox); have n3_ := Aside0.mk ((by rw [hg]; exact (below_size (by repeat (first | (with_reducible first | exact HB.out | apply below_alloc | apply pw_below_drewN | apply below_drew1 | refine below_set ?_ GE191.out) | exact HB.out))) : w.heap.size ≤ gb203)); have n4_ := Aside0.mk ((by rw [hg]; exact (below_size (by repeat (first | (with_reducible first | exact HB.out | apply below_alloc | apply pw_below_drewN | apply below_drew1 | refine below_set ?_ GE191.out) | exact HB.out))) : w.heap.size ≤ gb203)); have n5_ := Aside0.mk ((by rw [hg]; exact Nat.ne_of_lt (blk_lt (g := gb191) (o := .cells #[.int .i64 x192000_1, .int .i64 x192001_1, .int .i64 x192002_1] 23 (0, 0)) (by (with_reducible repeat (first | refine blk_drewN ?_ _ | refine blk_drew ?_ | refine blk_alloc ?_ _)); exact BK191.out)) : gb191 ≠ gb203)); have n6_ := Aside0.mk ((by rw [hg]; exact Nat.ne_of_gt (blk_lt (g := gb191) (o := .cells #[.int .i64 x192000_1, .int .i64 x192001_1, .int .i64 x192002_1] 23 (0, 0)) (by (with_reducible repeat (first | refine blk_drewN ?_ _ | refine blk_drew ?_ | refine blk_alloc ?_ _)); exact BK191.out)) : gb203 ≠ gb191)); clear BK191; clear HB; have BK191 := n0_; have HB := n1_; have BK203 := n2_; have GW203 := n3_; have GE203 := n4_; have NB191_203 := n5_; have NB203_191 := n6_; clear n0_ n1_ n2_ n3_ n4_ n5_ n6_; clear hb hbox hg; have hnb18 := NB203_191.out; have hnc18 := NB191_203.out; have hcz19_0 : w17.cell? ⟨gb203, 0, none⟩ = some (.int .i64 0) := (blk_cell BK203.out 0).trans rfl; have hcz19_1 : w17.cell? ⟨gb203, 1, none⟩ = some (.int .i64 0) := (blk_cell BK203.out 1).trans rfl; have hcz19_2 : w17.cell? ⟨gb203, 2, none⟩ = some (.int .i64 0) := (blk_cell BK203.out 2).trans rfl; have hfz19_0 := blk_frozen BK203.out 0; have hfz19_1 := blk_frozen BK203.out 1; have hfz19_2 := blk_frozen BK203.out 2))
            repeat (go_quiet (first | (go_at_call 12; (with_reducible refine (meter_Add.calls x192000_1 x192001_1 x192002_1 (Int.tmod (wrap64 ((rd_T35 l0 x10_1).f0)) 1048576) (Int.tmod (wrap64 ((rd_T35 l0 x10_1).f1)) 1048576) t194 t195 t196 _ A11.out).mono ?_); rintro e w15 ⟨rfl, hb⟩; have n0_ := Aside0.mk (blk_below (g := gb191) (o := .cells #[.int .i64 x192000_1, .int .i64 x192001_1, .int .i64 x192002_1] 23 (0, 0)) (by (with_reducible repeat (first | refine blk_drewN ?_ _ | refine blk_drew ?_ | refine blk_alloc ?_ _)); exact BK191.out) hb); have n1_ := Aside0.mk (below_step (by repeat (first | (with_reducible first | exact HB.out | apply below_alloc | apply pw_below_drewN | apply below_drew1 | refine below_set ?_ GE191.out) | exact HB.out)) hb); clear BK191; clear HB; have BK191 := n0_; have HB := n1_; clear n0_ n1_; (try clear hb); (try clear hb2); (try clear hk); (try clear hi)) | (go_at_call 10; (with_reducible refine (meter_Tick.calls t194 t195 t196 (wrap64 (1 + (Int.tmod (wrap64 (a1)) 20))) t197 t198 t199 t200 t201 t202 _ A12.out).mono ?_); rintro e w16 ⟨rfl, hb⟩; have n0_ := Aside0.mk (blk_below (g := gb191) (o := .cells #[.int .i64 x192000_1, .int .i64 x192001_1, .int .i64 x192002_1] 23 (0, 0)) (by (with_reducible repeat (first | refine blk_drewN ?_ _ | refine blk_drew ?_ | refine blk_alloc ?_ _)); exact BK191.out) hb); have n1_ := Aside0.mk (below_step (by repeat (first | (with_reducible first | exact HB.out | apply below_alloc | apply pw_below_drewN | apply below_drew1 | refine below_set ?_ GE191.out) | exact HB.out)) hb); clear BK191; clear HB; have BK191 := n0_; have HB := n1_; clear n0_ n1_; (try clear hb); (try clear hb2); (try clear hk); (try clear hi)) | ((with_reducible refine gate_dst (N := 13) rfl ?_); refine box_event ?hg (N := 13) ?hd (cs := #[.int .i64 0, .int .i64 0, .int .i64 0]) (t := 23) ?hr ?_; (case hd => rfl); (case hg => rfl); (case hr => first | (go_simp; done) | (go_simp; rfl)); intro gb203 hg w17 hbox hb; have n0_ := Aside0.mk (blk_below (g := gb191) (o := .cells #[.int .i64 x192000_1, .int .i64 x192001_1, .int .i64 x192002_1] 23 (0, 0)) (by (with_reducible repeat (first | refine blk_drewN ?_ _ | refine blk_drew ?_ | refine blk_alloc ?_ _)); exact BK191.out) hb); have n1_ := Aside0.mk (below_step (by repeat (first | (with_reducible first | exact HB.out | apply below_alloc | apply pw_below_drewN | apply below_drew1 | refine below_set ?_ GE191.out) | exact HB.out)) hb); have n2_ := Aside0.mk (hbox); have n3_ := Aside0.mk ((by rw [hg]; exact (below_size (by repeat (first | (with_reducible first | exact HB.out | apply below_alloc | apply pw_below_drewN | apply below_drew1 | refine below_set ?_ GE191.out) | exact HB.out))) : w.heap.size ≤ gb203)); have n4_ := Aside0.mk ((by rw [hg]; exact (below_size (by repeat (first | (with_reducible first | exact HB.out | apply below_alloc | apply pw_below_drewN | apply below_drew1 | refine below_set ?_ GE191.out) | exact HB.out))) : w.heap.size ≤ gb203)); have n5_ := Aside0.mk ((by rw [hg]; exact Nat.ne_of_lt (blk_lt (g := gb191) (o := .cells #[.int .i64 x192000_1, .int .i64 x192001_1, .int .i64 x192002_1] 23 (0, 0)) (by (with_reducible repeat (first | refine blk_drewN ?_ _ | refine blk_drew ?_ | refine blk_alloc ?_ _)); exact BK191.out)) : gb191 ≠ gb203)); have n6_ := Aside0.mk ((by rw [hg]; exact Nat.ne_of_gt (blk_lt (g := gb191) (o := .cells #[.int .i64 x192000_1, .int .i64 x192001_1, .int .i64 x192002_1] 23 (0, 0)) (by (with_reducible repeat (first | refine blk_drewN ?_ _ | refine blk_drew ?_ | refine blk_alloc ?_ _)); exact BK191.out)) : gb203 ≠ gb191)); clear BK191; clear HB; have BK191 := n0_; have HB := n1_; have BK203 := n2_; have GW203 := n3_; have GE203 := n4_; have NB191_203 := n5_; have NB203_191 := n6_; clear n0_ n1_ n2_ n3_ n4_ n5_ n6_; clear hb hbox hg; have hnb18 := NB203_191.out; have hnc18 := NB191_203.out; have hcz19_0 : w17.cell? ⟨gb203, 0, none⟩ = some (.int .i64 0) := (blk_cell BK203.out 0).trans rfl; have hcz19_1 : w17.cell? ⟨gb203, 1, none⟩ = some (.int .i64 0) := (blk_cell BK203.out 1).trans rfl; have hcz19_2 : w17.cell? ⟨gb203, 2, none⟩ = some (.int .i64 0) := (blk_cell BK203.out 2).trans rfl; have hfz19_0 := blk_frozen BK203.out 0; have hfz19_1 := blk_frozen BK203.out 1; have hfz19_2 := blk_frozen BK203.out 2)); go_upto_region 16 with (first | (go_at_call 12; (with_reducible refine (meter_Add.calls x192000_1 x192001_1 x192002_1 (Int.tmod (wrap64 ((rd_T35 l0 x10_1).f0)) 1048576) (Int.tmod (wrap64 ((rd_T35 l0 x10_1).f1)) 1048576) t194 t195 t196 _ A11.out).mono ?_); rintro e w15 ⟨rfl, hb⟩; have n0_ := Aside0.mk (blk_below (g := gb191) (o := .cells #[.int .i64 x192000_1, .int .i64 x192001_1, .int .i64 x192002_1] 23 (0, 0)) (by (with_reducible repeat (first | refine blk_drewN ?_ _ | refine blk_drew ?_ | refine blk_alloc ?_ _)); exact BK191.out) hb); have n1_ := Aside0.mk (below_step (by repeat (first | (with_reducible first | exact HB.out | apply below_alloc | apply pw_below_drewN | apply below_drew1 | refine below_set ?_ GE191.out) | exact HB.out)) hb); clear BK191; clear HB; have BK191 := n0_; have HB := n1_; clear n0_ n1_; (try clear hb); (try clear hb2); (try clear hk); (try clear hi)) | (go_at_call 10; (with_reducible refine (meter_Tick.calls t194 t195 t196 (wrap64 (1 + (Int.tmod (wrap64 (a1)) 20))) t197 t198 t199 t200 t201 t202 _ A12.out).mono ?_); rintro e w16 ⟨rfl, hb⟩; have n0_ := Aside0.mk (blk_below (g := gb191) (o := .cells #[.int .i64 x192000_1, .int .i64 x192001_1, .int .i64 x192002_1] 23 (0, 0)) (by (with_reducible repeat (first | refine blk_drewN ?_ _ | refine blk_drew ?_ | refine blk_alloc ?_ _)); exact BK191.out) hb); have n1_ := Aside0.mk (below_step (by repeat (first | (with_reducible first | exact HB.out | apply below_alloc | apply pw_below_drewN | apply below_drew1 | refine below_set ?_ GE191.out) | exact HB.out)) hb); clear BK191; clear HB; have BK191 := n0_; have HB := n1_; clear n0_ n1_; (try clear hb); (try clear hb2); (try clear hk); (try clear hi)) | ((with_reducible refine gate_dst (N := 13) rfl ?_); refine box_event ?hg (N := 13) ?hd (cs := #[.int .i64 0, .int .i64 0, .int .i64 0]) (t := 23) ?hr ?_; (case hd => rfl); (case hg => rfl); (case hr => first | (go_simp; done) | (go_simp; rfl)); intro gb203 hg w17 hbox hb; have n0_ := Aside0.mk (blk_below (g := gb191) (o := .cells #[.int .i64 x192000_1, .int .i64 x192001_1, .int .i64 x192002_1] 23 (0, 0)) (by (with_reducible repeat (first | refine blk_drewN ?_ _ | refine blk_drew ?_ | refine blk_alloc ?_ _)); exact BK191.out) hb); have n1_ := Aside0.mk (below_step (by repeat (first | (with_reducible first | exact HB.out | apply below_alloc | apply pw_below_drewN | apply below_drew1 | refine below_set ?_ GE191.out) | exact HB.out)) hb); have n2_ := Aside0.mk (hbox); have n3_ := Aside0.mk ((by rw [hg]; exact (below_size (by repeat (first | (with_reducible first | exact HB.out | apply below_alloc | apply pw_below_drewN | apply below_drew1 | refine below_set ?_ GE191.out) | exact HB.out))) : w.heap.size ≤ gb203)); have n4_ := Aside0.mk ((by rw [hg]; exact (below_size (by repeat (first | (with_reducible first | exact HB.out | apply below_alloc | apply pw_below_drewN | apply below_drew1 | refine below_set ?_ GE191.out) | exact HB.out))) : w.heap.size ≤ gb203)); have n5_ := Aside0.mk ((by rw [hg]; exact Nat.ne_of_lt (blk_lt (g := gb191) (o := .cells #[.int .i64 x192000_1, .int .i64 x192001_1, .int .i64 x192002_1] 23 (0, 0)) (by (with_reducible repeat (first | refine blk_drewN ?_ _ | refine blk_drew ?_ | refine blk_alloc ?_ _)); exact BK191.out)) : gb191 ≠ gb203)); have n6_ := Aside0.mk ((by rw [hg]; exact Nat.ne_of_gt (blk_lt (g := gb191) (o := .cells #[.int .i64 x192000_1, .int .i64 x192001_1, .int .i64 x192002_1] 23 (0, 0)) (by (with_reducible repeat (first | refine blk_drewN ?_ _ | refine blk_drew ?_ | refine blk_alloc ?_ _)); exact BK191.out)) : gb203 ≠ gb191)); clear BK191; clear HB; have BK191 := n0_; have HB := n1_; have BK203 := n2_; have GW203 := n3_; have GE203 := n4_; have NB191_203 := n5_; have NB203_191 := n6_; clear n0_ n1_ n2_ n3_ n4_ n5_ n6_; clear hb hbox hg; have hnb18 := NB203_191.out; have hnc18 := NB191_203.out; have hcz19_0 : w17.cell? ⟨gb203, 0, none⟩ = some (.int .i64 0) := (blk_cell BK203.out 0).trans rfl; have hcz19_1 : w17.cell? ⟨gb203, 1, none⟩ = some (.int .i64 0) := (blk_cell BK203.out 1).trans rfl; have hcz19_2 : w17.cell? ⟨gb203, 2, none⟩ = some (.int .i64 0) := (blk_cell BK203.out 2).trans rfl; have hfz19_0 := blk_frozen BK203.out 0; have hfz19_1 := blk_frozen BK203.out 1; have hfz19_2 := blk_frozen BK203.out 2)))
            (try simp only [Act.put, List.setIfInBounds_toArray, List.set_cons_zero, List.set_cons_succ])
            go_cut [113] (fun v113 wc => ∃ (kq : Nat) (x113_12 : Bool), v113 = .bool x113_12 ∧ Aside0 (precentorlaw13_MeterSums.j1 kq l0 t190 (wrap64 (1 + (Int.tmod (wrap64 (a1)) 20))) (wrap64 (x8_1 + (Int.tmod (wrap64 ((rd_T35 l0 x10_1).f0)) 1048576))) (wrap64 (x9_1 + (Int.tmod (wrap64 ((rd_T35 l0 x10_1).f1)) 1048576))) x10_1 t202 x113_12 t197 t198 t199 = some r) ∧ Aside0 (kq ≤ k1) ∧ Aside0 (wc.heap[gb191]? = some (.cells #[.int .i64 x192000_1, .int .i64 x192001_1, .int .i64 x192002_1] 23 (0, 0))) ∧ Aside0 (wc.heap[gb203]? = some (.cells #[.int .i64 t197, .int .i64 t198, .int .i64 t199] 23 (0, 0))) ∧ Aside0 (Below w.heap.size w wc))
            case first =>
              have H := HC13.out
              clear HC13
              by_cases c20 : (wrap64 (1 + (Int.tmod (wrap64 (a1)) 20))) = 0
              · rw [if_pos c20] at H
                exact absurd H (by simp)
              · rw [if_neg c20] at H
                have c20b0 : ((wrap64 (1 + (Int.tmod (wrap64 (a1)) 20))) == 0) = false := beq_eq_false_iff_ne.mpr c20
                have c20b1 : ((wrap64 (1 + (Int.tmod (wrap64 (a1)) 20))) != 0) = true := bne_iff_ne.mpr c20
                (first | rw [c20b0] | (simp only [i64_w, i32_w]; rw [c20b0]) | skip)
                by_cases c21 : (t202 != ((Int.tmod (wrap64 (x10_1 + 1)) (wrap64 (1 + (Int.tmod (wrap64 (a1)) 20)))) == 0)) = true
                · rw [if_pos c21] at H
                  have c21b0 : (t202 != ((Int.tmod (wrap64 (x10_1 + 1)) (wrap64 (1 + (Int.tmod (wrap64 (a1)) 20)))) == 0)) = true := c21
                  (try (have c21b1 : decide (t202 = ((Int.tmod (wrap64 (x10_1 + 1)) (wrap64 (1 + (Int.tmod (wrap64 (a1)) 20)))) == 0)) = false := by simpa using c21))
                  (try (have c21b2 : (t202 == ((Int.tmod (wrap64 (x10_1 + 1)) (wrap64 (1 + (Int.tmod (wrap64 (a1)) 20)))) == 0)) = false := by simpa using c21))
                  (try (have c21b3 : ¬ (t202 = ((Int.tmod (wrap64 (x10_1 + 1)) (wrap64 (1 + (Int.tmod (wrap64 (a1)) 20)))) == 0)) := by simpa using c21))
                  clear c21
                  have H' := Aside0.mk H
                  clear H
                  go_wp2
                  repeat (go_quiet (fail); try go_wp2)
                  go_meet
                  case rel => exact ⟨_, (true), (by first | rfl | (simp; done) | (simp [*]; done)), H', ⟨by have := HK1.out; first | omega | exact Nat.le_refl _⟩, ⟨by (with_reducible repeat (first | refine blk_drewN ?_ _ | refine blk_drew ?_ | refine blk_alloc ?_ _)); refine blk_far ?_ NB191_203.out _; (with_reducible repeat (first | refine blk_drewN ?_ _ | refine blk_drew ?_ | refine blk_alloc ?_ _)); refine blk_far ?_ NB191_203.out _; (with_reducible repeat (first | refine blk_drewN ?_ _ | refine blk_drew ?_ | refine blk_alloc ?_ _)); refine blk_far ?_ NB191_203.out _; (with_reducible repeat (first | refine blk_drewN ?_ _ | refine blk_drew ?_ | refine blk_alloc ?_ _)); exact BK191.out⟩, ⟨by (with_reducible repeat (first | refine blk_drewN ?_ _ | refine blk_drew ?_ | refine blk_alloc ?_ _)); refine blk_put (cs := #[.int .i64 t197, .int .i64 t198, .int .i64 0]) ?_ 2 _ rfl; (with_reducible repeat (first | refine blk_drewN ?_ _ | refine blk_drew ?_ | refine blk_alloc ?_ _)); refine blk_put (cs := #[.int .i64 t197, .int .i64 0, .int .i64 0]) ?_ 1 _ rfl; (with_reducible repeat (first | refine blk_drewN ?_ _ | refine blk_drew ?_ | refine blk_alloc ?_ _)); refine blk_put (cs := #[.int .i64 0, .int .i64 0, .int .i64 0]) ?_ 0 _ rfl; (with_reducible repeat (first | refine blk_drewN ?_ _ | refine blk_drew ?_ | refine blk_alloc ?_ _)); exact BK203.out⟩, ⟨by repeat (first | (with_reducible first | exact HB.out | apply below_alloc | apply pw_below_drewN | apply below_drew1 | refine below_set ?_ GE191.out | refine below_set ?_ GE203.out) | exact HB.out)⟩⟩
                · rw [if_neg c21] at H
                  have c21b0 : (t202 != ((Int.tmod (wrap64 (x10_1 + 1)) (wrap64 (1 + (Int.tmod (wrap64 (a1)) 20)))) == 0)) = false := by simpa using c21
                  (try (have c21b1 : decide (t202 = ((Int.tmod (wrap64 (x10_1 + 1)) (wrap64 (1 + (Int.tmod (wrap64 (a1)) 20)))) == 0)) = true := by simpa using c21))
                  (try (have c21b2 : (t202 == ((Int.tmod (wrap64 (x10_1 + 1)) (wrap64 (1 + (Int.tmod (wrap64 (a1)) 20)))) == 0)) = true := by simpa using c21))
                  clear c21
                  by_cases c22 : t202 = true
                  · subst c22
                    have H1 : (if t200 = (wrap64 (x8_1 + (Int.tmod (wrap64 ((rd_T35 l0 x10_1).f0)) 1048576))) then (if t201 = (wrap64 (x9_1 + (Int.tmod (wrap64 ((rd_T35 l0 x10_1).f1)) 1048576))) then (if (!(t197 == 0) || (!(t198 == 0) || (!(t199 == 0)))) = true then (precentorlaw13_MeterSums.j1 k1 l0 t190 (wrap64 (1 + (Int.tmod (wrap64 (a1)) 20))) (wrap64 (x8_1 + (Int.tmod (wrap64 ((rd_T35 l0 x10_1).f0)) 1048576))) (wrap64 (x9_1 + (Int.tmod (wrap64 ((rd_T35 l0 x10_1).f1)) 1048576))) x10_1 true true t197 t198 t199) else (precentorlaw13_MeterSums.j1 k1 l0 t190 (wrap64 (1 + (Int.tmod (wrap64 (a1)) 20))) (wrap64 (x8_1 + (Int.tmod (wrap64 ((rd_T35 l0 x10_1).f0)) 1048576))) (wrap64 (x9_1 + (Int.tmod (wrap64 ((rd_T35 l0 x10_1).f1)) 1048576))) x10_1 true false t197 t198 t199)) else (precentorlaw13_MeterSums.j1 k1 l0 t190 (wrap64 (1 + (Int.tmod (wrap64 (a1)) 20))) (wrap64 (x8_1 + (Int.tmod (wrap64 ((rd_T35 l0 x10_1).f0)) 1048576))) (wrap64 (x9_1 + (Int.tmod (wrap64 ((rd_T35 l0 x10_1).f1)) 1048576))) x10_1 true true t197 t198 t199)) else (precentorlaw13_MeterSums.j1 k1 l0 t190 (wrap64 (1 + (Int.tmod (wrap64 (a1)) 20))) (wrap64 (x8_1 + (Int.tmod (wrap64 ((rd_T35 l0 x10_1).f0)) 1048576))) (wrap64 (x9_1 + (Int.tmod (wrap64 ((rd_T35 l0 x10_1).f1)) 1048576))) x10_1 true true t197 t198 t199)) = some r := by rw [if_pos rfl] at H; exact H
                    clear H
                    have H := H1
                    clear H1
                    by_cases c23 : t200 = (wrap64 (x8_1 + (Int.tmod (wrap64 ((rd_T35 l0 x10_1).f0)) 1048576)))
                    · rw [if_pos c23] at H
                      have c23b0 : (t200 == (wrap64 (x8_1 + (Int.tmod (wrap64 ((rd_T35 l0 x10_1).f0)) 1048576)))) = true := beq_iff_eq.mpr c23
                      have c23b1 : (t200 != (wrap64 (x8_1 + (Int.tmod (wrap64 ((rd_T35 l0 x10_1).f0)) 1048576)))) = false := bne_eq_false_iff_eq.mpr c23
                      clear c23
                      by_cases c24 : t201 = (wrap64 (x9_1 + (Int.tmod (wrap64 ((rd_T35 l0 x10_1).f1)) 1048576)))
                      · rw [if_pos c24] at H
                        have c24b0 : (t201 == (wrap64 (x9_1 + (Int.tmod (wrap64 ((rd_T35 l0 x10_1).f1)) 1048576)))) = true := beq_iff_eq.mpr c24
                        have c24b1 : (t201 != (wrap64 (x9_1 + (Int.tmod (wrap64 ((rd_T35 l0 x10_1).f1)) 1048576)))) = false := bne_eq_false_iff_eq.mpr c24
                        clear c24
                        by_cases c25 : (!(t197 == 0) || (!(t198 == 0) || (!(t199 == 0)))) = true
                        · rw [if_pos c25] at H
                          have c25b0 : (!(t197 == 0) || (!(t198 == 0) || (!(t199 == 0)))) = true := c25
                          clear c25
                          have H' := Aside0.mk H
                          clear H
                          have hnb26 := NB203_191.out
                          have hnc26 := NB191_203.out
                          have hcz27_0 : w17.cell? ⟨gb203, 0, none⟩ = some (.int .i64 0) := (blk_cell BK203.out 0).trans rfl
                          have hcz27_1 : w17.cell? ⟨gb203, 1, none⟩ = some (.int .i64 0) := (blk_cell BK203.out 1).trans rfl
                          have hcz27_2 : w17.cell? ⟨gb203, 2, none⟩ = some (.int .i64 0) := (blk_cell BK203.out 2).trans rfl
                          have hfz27_0 := blk_frozen BK203.out 0
                          have hfz27_1 := blk_frozen BK203.out 1
                          have hfz27_2 := blk_frozen BK203.out 2
                          go_wp2
                          repeat (go_quiet (fail); try go_wp2)
                          go_meet
                          case rel => exact ⟨_, (true), (by first | rfl | (simp; done) | (simp [*]; done)), H', ⟨by have := HK1.out; first | omega | exact Nat.le_refl _⟩, ⟨by (with_reducible repeat (first | refine blk_drewN ?_ _ | refine blk_drew ?_ | refine blk_alloc ?_ _)); refine blk_far ?_ NB191_203.out _; (with_reducible repeat (first | refine blk_drewN ?_ _ | refine blk_drew ?_ | refine blk_alloc ?_ _)); refine blk_far ?_ NB191_203.out _; (with_reducible repeat (first | refine blk_drewN ?_ _ | refine blk_drew ?_ | refine blk_alloc ?_ _)); refine blk_far ?_ NB191_203.out _; (with_reducible repeat (first | refine blk_drewN ?_ _ | refine blk_drew ?_ | refine blk_alloc ?_ _)); exact BK191.out⟩, ⟨by (with_reducible repeat (first | refine blk_drewN ?_ _ | refine blk_drew ?_ | refine blk_alloc ?_ _)); refine blk_put (cs := #[.int .i64 t197, .int .i64 t198, .int .i64 0]) ?_ 2 _ rfl; (with_reducible repeat (first | refine blk_drewN ?_ _ | refine blk_drew ?_ | refine blk_alloc ?_ _)); refine blk_put (cs := #[.int .i64 t197, .int .i64 0, .int .i64 0]) ?_ 1 _ rfl; (with_reducible repeat (first | refine blk_drewN ?_ _ | refine blk_drew ?_ | refine blk_alloc ?_ _)); refine blk_put (cs := #[.int .i64 0, .int .i64 0, .int .i64 0]) ?_ 0 _ rfl; (with_reducible repeat (first | refine blk_drewN ?_ _ | refine blk_drew ?_ | refine blk_alloc ?_ _)); exact BK203.out⟩, ⟨by repeat (first | (with_reducible first | exact HB.out | apply below_alloc | apply pw_below_drewN | apply below_drew1 | refine below_set ?_ GE191.out | refine below_set ?_ GE203.out) | exact HB.out)⟩⟩
                        · rw [if_neg c25] at H
                          have c25b0 : (!(t197 == 0) || (!(t198 == 0) || (!(t199 == 0)))) = false := by simpa using c25
                          clear c25
                          have H' := Aside0.mk H
                          clear H
                          have hnb28 := NB203_191.out
                          have hnc28 := NB191_203.out
                          have hcz29_0 : w17.cell? ⟨gb203, 0, none⟩ = some (.int .i64 0) := (blk_cell BK203.out 0).trans rfl
                          have hcz29_1 : w17.cell? ⟨gb203, 1, none⟩ = some (.int .i64 0) := (blk_cell BK203.out 1).trans rfl
                          have hcz29_2 : w17.cell? ⟨gb203, 2, none⟩ = some (.int .i64 0) := (blk_cell BK203.out 2).trans rfl
                          have hfz29_0 := blk_frozen BK203.out 0
                          have hfz29_1 := blk_frozen BK203.out 1
                          have hfz29_2 := blk_frozen BK203.out 2
                          go_wp2
                          repeat (go_quiet (fail); try go_wp2)
                          go_meet
                          case rel => exact ⟨_, (false), (by first | rfl | (simp; done) | (simp [*]; done)), H', ⟨by have := HK1.out; first | omega | exact Nat.le_refl _⟩, ⟨by (with_reducible repeat (first | refine blk_drewN ?_ _ | refine blk_drew ?_ | refine blk_alloc ?_ _)); refine blk_far ?_ NB191_203.out _; (with_reducible repeat (first | refine blk_drewN ?_ _ | refine blk_drew ?_ | refine blk_alloc ?_ _)); refine blk_far ?_ NB191_203.out _; (with_reducible repeat (first | refine blk_drewN ?_ _ | refine blk_drew ?_ | refine blk_alloc ?_ _)); refine blk_far ?_ NB191_203.out _; (with_reducible repeat (first | refine blk_drewN ?_ _ | refine blk_drew ?_ | refine blk_alloc ?_ _)); exact BK191.out⟩, ⟨by (with_reducible repeat (first | refine blk_drewN ?_ _ | refine blk_drew ?_ | refine blk_alloc ?_ _)); refine blk_put (cs := #[.int .i64 t197, .int .i64 t198, .int .i64 0]) ?_ 2 _ rfl; (with_reducible repeat (first | refine blk_drewN ?_ _ | refine blk_drew ?_ | refine blk_alloc ?_ _)); refine blk_put (cs := #[.int .i64 t197, .int .i64 0, .int .i64 0]) ?_ 1 _ rfl; (with_reducible repeat (first | refine blk_drewN ?_ _ | refine blk_drew ?_ | refine blk_alloc ?_ _)); refine blk_put (cs := #[.int .i64 0, .int .i64 0, .int .i64 0]) ?_ 0 _ rfl; (with_reducible repeat (first | refine blk_drewN ?_ _ | refine blk_drew ?_ | refine blk_alloc ?_ _)); exact BK203.out⟩, ⟨by repeat (first | (with_reducible first | exact HB.out | apply below_alloc | apply pw_below_drewN | apply below_drew1 | refine below_set ?_ GE191.out | refine below_set ?_ GE203.out) | exact HB.out)⟩⟩
                      · rw [if_neg c24] at H
                        have c24b0 : (t201 == (wrap64 (x9_1 + (Int.tmod (wrap64 ((rd_T35 l0 x10_1).f1)) 1048576)))) = false := beq_eq_false_iff_ne.mpr c24
                        have c24b1 : (t201 != (wrap64 (x9_1 + (Int.tmod (wrap64 ((rd_T35 l0 x10_1).f1)) 1048576)))) = true := bne_iff_ne.mpr c24
                        have H' := Aside0.mk H
                        clear H
                        go_wp2
                        repeat (go_quiet (fail); try go_wp2)
                        go_meet
                        case rel => exact ⟨_, (true), (by first | rfl | (simp; done) | (simp [*]; done)), H', ⟨by have := HK1.out; first | omega | exact Nat.le_refl _⟩, ⟨by (with_reducible repeat (first | refine blk_drewN ?_ _ | refine blk_drew ?_ | refine blk_alloc ?_ _)); refine blk_far ?_ NB191_203.out _; (with_reducible repeat (first | refine blk_drewN ?_ _ | refine blk_drew ?_ | refine blk_alloc ?_ _)); refine blk_far ?_ NB191_203.out _; (with_reducible repeat (first | refine blk_drewN ?_ _ | refine blk_drew ?_ | refine blk_alloc ?_ _)); refine blk_far ?_ NB191_203.out _; (with_reducible repeat (first | refine blk_drewN ?_ _ | refine blk_drew ?_ | refine blk_alloc ?_ _)); exact BK191.out⟩, ⟨by (with_reducible repeat (first | refine blk_drewN ?_ _ | refine blk_drew ?_ | refine blk_alloc ?_ _)); refine blk_put (cs := #[.int .i64 t197, .int .i64 t198, .int .i64 0]) ?_ 2 _ rfl; (with_reducible repeat (first | refine blk_drewN ?_ _ | refine blk_drew ?_ | refine blk_alloc ?_ _)); refine blk_put (cs := #[.int .i64 t197, .int .i64 0, .int .i64 0]) ?_ 1 _ rfl; (with_reducible repeat (first | refine blk_drewN ?_ _ | refine blk_drew ?_ | refine blk_alloc ?_ _)); refine blk_put (cs := #[.int .i64 0, .int .i64 0, .int .i64 0]) ?_ 0 _ rfl; (with_reducible repeat (first | refine blk_drewN ?_ _ | refine blk_drew ?_ | refine blk_alloc ?_ _)); exact BK203.out⟩, ⟨by repeat (first | (with_reducible first | exact HB.out | apply below_alloc | apply pw_below_drewN | apply below_drew1 | refine below_set ?_ GE191.out | refine below_set ?_ GE203.out) | exact HB.out)⟩⟩
                    · rw [if_neg c23] at H
                      have c23b0 : (t200 == (wrap64 (x8_1 + (Int.tmod (wrap64 ((rd_T35 l0 x10_1).f0)) 1048576)))) = false := beq_eq_false_iff_ne.mpr c23
                      have c23b1 : (t200 != (wrap64 (x8_1 + (Int.tmod (wrap64 ((rd_T35 l0 x10_1).f0)) 1048576)))) = true := bne_iff_ne.mpr c23
                      have H' := Aside0.mk H
                      clear H
                      go_wp2
                      repeat (go_quiet (fail); try go_wp2)
                      go_meet
                      case rel => exact ⟨_, (true), (by first | rfl | (simp; done) | (simp [*]; done)), H', ⟨by have := HK1.out; first | omega | exact Nat.le_refl _⟩, ⟨by (with_reducible repeat (first | refine blk_drewN ?_ _ | refine blk_drew ?_ | refine blk_alloc ?_ _)); refine blk_far ?_ NB191_203.out _; (with_reducible repeat (first | refine blk_drewN ?_ _ | refine blk_drew ?_ | refine blk_alloc ?_ _)); refine blk_far ?_ NB191_203.out _; (with_reducible repeat (first | refine blk_drewN ?_ _ | refine blk_drew ?_ | refine blk_alloc ?_ _)); refine blk_far ?_ NB191_203.out _; (with_reducible repeat (first | refine blk_drewN ?_ _ | refine blk_drew ?_ | refine blk_alloc ?_ _)); exact BK191.out⟩, ⟨by (with_reducible repeat (first | refine blk_drewN ?_ _ | refine blk_drew ?_ | refine blk_alloc ?_ _)); refine blk_put (cs := #[.int .i64 t197, .int .i64 t198, .int .i64 0]) ?_ 2 _ rfl; (with_reducible repeat (first | refine blk_drewN ?_ _ | refine blk_drew ?_ | refine blk_alloc ?_ _)); refine blk_put (cs := #[.int .i64 t197, .int .i64 0, .int .i64 0]) ?_ 1 _ rfl; (with_reducible repeat (first | refine blk_drewN ?_ _ | refine blk_drew ?_ | refine blk_alloc ?_ _)); refine blk_put (cs := #[.int .i64 0, .int .i64 0, .int .i64 0]) ?_ 0 _ rfl; (with_reducible repeat (first | refine blk_drewN ?_ _ | refine blk_drew ?_ | refine blk_alloc ?_ _)); exact BK203.out⟩, ⟨by repeat (first | (with_reducible first | exact HB.out | apply below_alloc | apply pw_below_drewN | apply below_drew1 | refine below_set ?_ GE191.out | refine below_set ?_ GE203.out) | exact HB.out)⟩⟩
                  · replace c22 := Bool.eq_false_iff.mpr c22
                    subst c22
                    have H1 : (if t198 = (wrap64 (x8_1 + (Int.tmod (wrap64 ((rd_T35 l0 x10_1).f0)) 1048576))) then (if t199 = (wrap64 (x9_1 + (Int.tmod (wrap64 ((rd_T35 l0 x10_1).f1)) 1048576))) then (precentorlaw13_MeterSums.j1 k1 l0 t190 (wrap64 (1 + (Int.tmod (wrap64 (a1)) 20))) (wrap64 (x8_1 + (Int.tmod (wrap64 ((rd_T35 l0 x10_1).f0)) 1048576))) (wrap64 (x9_1 + (Int.tmod (wrap64 ((rd_T35 l0 x10_1).f1)) 1048576))) x10_1 false (t197 != (Int.tmod (wrap64 (x10_1 + 1)) (wrap64 (1 + (Int.tmod (wrap64 (a1)) 20))))) t197 t198 t199) else (precentorlaw13_MeterSums.j1 k1 l0 t190 (wrap64 (1 + (Int.tmod (wrap64 (a1)) 20))) (wrap64 (x8_1 + (Int.tmod (wrap64 ((rd_T35 l0 x10_1).f0)) 1048576))) (wrap64 (x9_1 + (Int.tmod (wrap64 ((rd_T35 l0 x10_1).f1)) 1048576))) x10_1 false true t197 t198 t199)) else (precentorlaw13_MeterSums.j1 k1 l0 t190 (wrap64 (1 + (Int.tmod (wrap64 (a1)) 20))) (wrap64 (x8_1 + (Int.tmod (wrap64 ((rd_T35 l0 x10_1).f0)) 1048576))) (wrap64 (x9_1 + (Int.tmod (wrap64 ((rd_T35 l0 x10_1).f1)) 1048576))) x10_1 false true t197 t198 t199)) = some r := by rw [if_neg (show ¬ (false = true) by decide)] at H; exact H
                    clear H
                    have H := H1
                    clear H1
                    by_cases c30 : t198 = (wrap64 (x8_1 + (Int.tmod (wrap64 ((rd_T35 l0 x10_1).f0)) 1048576)))
                    · rw [if_pos c30] at H
                      have c30b0 : (t198 == (wrap64 (x8_1 + (Int.tmod (wrap64 ((rd_T35 l0 x10_1).f0)) 1048576)))) = true := beq_iff_eq.mpr c30
                      have c30b1 : (t198 != (wrap64 (x8_1 + (Int.tmod (wrap64 ((rd_T35 l0 x10_1).f0)) 1048576)))) = false := bne_eq_false_iff_eq.mpr c30
                      clear c30
                      by_cases c31 : t199 = (wrap64 (x9_1 + (Int.tmod (wrap64 ((rd_T35 l0 x10_1).f1)) 1048576)))
                      · rw [if_pos c31] at H
                        have c31b0 : (t199 == (wrap64 (x9_1 + (Int.tmod (wrap64 ((rd_T35 l0 x10_1).f1)) 1048576)))) = true := beq_iff_eq.mpr c31
                        have c31b1 : (t199 != (wrap64 (x9_1 + (Int.tmod (wrap64 ((rd_T35 l0 x10_1).f1)) 1048576)))) = false := bne_eq_false_iff_eq.mpr c31
                        clear c31
                        have H' := Aside0.mk H
                        clear H
                        have hnb32 := NB203_191.out
                        have hnc32 := NB191_203.out
                        have hcz33_0 : w17.cell? ⟨gb203, 0, none⟩ = some (.int .i64 0) := (blk_cell BK203.out 0).trans rfl
                        have hcz33_1 : w17.cell? ⟨gb203, 1, none⟩ = some (.int .i64 0) := (blk_cell BK203.out 1).trans rfl
                        have hcz33_2 : w17.cell? ⟨gb203, 2, none⟩ = some (.int .i64 0) := (blk_cell BK203.out 2).trans rfl
                        have hfz33_0 := blk_frozen BK203.out 0
                        have hfz33_1 := blk_frozen BK203.out 1
                        have hfz33_2 := blk_frozen BK203.out 2
                        go_wp2
                        repeat (go_quiet (fail); try go_wp2)
                        go_meet
                        case rel => exact ⟨_, ((t197 != (Int.tmod (wrap64 (x10_1 + 1)) (wrap64 (1 + (Int.tmod (wrap64 (a1)) 20)))))), (by first | rfl | (simp; done) | (simp [*]; done)), H', ⟨by have := HK1.out; first | omega | exact Nat.le_refl _⟩, ⟨by (with_reducible repeat (first | refine blk_drewN ?_ _ | refine blk_drew ?_ | refine blk_alloc ?_ _)); refine blk_far ?_ NB191_203.out _; (with_reducible repeat (first | refine blk_drewN ?_ _ | refine blk_drew ?_ | refine blk_alloc ?_ _)); refine blk_far ?_ NB191_203.out _; (with_reducible repeat (first | refine blk_drewN ?_ _ | refine blk_drew ?_ | refine blk_alloc ?_ _)); refine blk_far ?_ NB191_203.out _; (with_reducible repeat (first | refine blk_drewN ?_ _ | refine blk_drew ?_ | refine blk_alloc ?_ _)); exact BK191.out⟩, ⟨by (with_reducible repeat (first | refine blk_drewN ?_ _ | refine blk_drew ?_ | refine blk_alloc ?_ _)); refine blk_put (cs := #[.int .i64 t197, .int .i64 t198, .int .i64 0]) ?_ 2 _ rfl; (with_reducible repeat (first | refine blk_drewN ?_ _ | refine blk_drew ?_ | refine blk_alloc ?_ _)); refine blk_put (cs := #[.int .i64 t197, .int .i64 0, .int .i64 0]) ?_ 1 _ rfl; (with_reducible repeat (first | refine blk_drewN ?_ _ | refine blk_drew ?_ | refine blk_alloc ?_ _)); refine blk_put (cs := #[.int .i64 0, .int .i64 0, .int .i64 0]) ?_ 0 _ rfl; (with_reducible repeat (first | refine blk_drewN ?_ _ | refine blk_drew ?_ | refine blk_alloc ?_ _)); exact BK203.out⟩, ⟨by repeat (first | (with_reducible first | exact HB.out | apply below_alloc | apply pw_below_drewN | apply below_drew1 | refine below_set ?_ GE191.out | refine below_set ?_ GE203.out) | exact HB.out)⟩⟩
                      · rw [if_neg c31] at H
                        have c31b0 : (t199 == (wrap64 (x9_1 + (Int.tmod (wrap64 ((rd_T35 l0 x10_1).f1)) 1048576)))) = false := beq_eq_false_iff_ne.mpr c31
                        have c31b1 : (t199 != (wrap64 (x9_1 + (Int.tmod (wrap64 ((rd_T35 l0 x10_1).f1)) 1048576)))) = true := bne_iff_ne.mpr c31
                        have H' := Aside0.mk H
                        clear H
                        have hnb34 := NB203_191.out
                        have hnc34 := NB191_203.out
                        have hcz35_0 : w17.cell? ⟨gb203, 0, none⟩ = some (.int .i64 0) := (blk_cell BK203.out 0).trans rfl
                        have hcz35_1 : w17.cell? ⟨gb203, 1, none⟩ = some (.int .i64 0) := (blk_cell BK203.out 1).trans rfl
                        have hcz35_2 : w17.cell? ⟨gb203, 2, none⟩ = some (.int .i64 0) := (blk_cell BK203.out 2).trans rfl
                        have hfz35_0 := blk_frozen BK203.out 0
                        have hfz35_1 := blk_frozen BK203.out 1
                        have hfz35_2 := blk_frozen BK203.out 2
                        go_wp2
                        repeat (go_quiet (fail); try go_wp2)
                        go_meet
                        case rel => exact ⟨_, (true), (by first | rfl | (simp; done) | (simp [*]; done)), H', ⟨by have := HK1.out; first | omega | exact Nat.le_refl _⟩, ⟨by (with_reducible repeat (first | refine blk_drewN ?_ _ | refine blk_drew ?_ | refine blk_alloc ?_ _)); refine blk_far ?_ NB191_203.out _; (with_reducible repeat (first | refine blk_drewN ?_ _ | refine blk_drew ?_ | refine blk_alloc ?_ _)); refine blk_far ?_ NB191_203.out _; (with_reducible repeat (first | refine blk_drewN ?_ _ | refine blk_drew ?_ | refine blk_alloc ?_ _)); refine blk_far ?_ NB191_203.out _; (with_reducible repeat (first | refine blk_drewN ?_ _ | refine blk_drew ?_ | refine blk_alloc ?_ _)); exact BK191.out⟩, ⟨by (with_reducible repeat (first | refine blk_drewN ?_ _ | refine blk_drew ?_ | refine blk_alloc ?_ _)); refine blk_put (cs := #[.int .i64 t197, .int .i64 t198, .int .i64 0]) ?_ 2 _ rfl; (with_reducible repeat (first | refine blk_drewN ?_ _ | refine blk_drew ?_ | refine blk_alloc ?_ _)); refine blk_put (cs := #[.int .i64 t197, .int .i64 0, .int .i64 0]) ?_ 1 _ rfl; (with_reducible repeat (first | refine blk_drewN ?_ _ | refine blk_drew ?_ | refine blk_alloc ?_ _)); refine blk_put (cs := #[.int .i64 0, .int .i64 0, .int .i64 0]) ?_ 0 _ rfl; (with_reducible repeat (first | refine blk_drewN ?_ _ | refine blk_drew ?_ | refine blk_alloc ?_ _)); exact BK203.out⟩, ⟨by repeat (first | (with_reducible first | exact HB.out | apply below_alloc | apply pw_below_drewN | apply below_drew1 | refine below_set ?_ GE191.out | refine below_set ?_ GE203.out) | exact HB.out)⟩⟩
                    · rw [if_neg c30] at H
                      have c30b0 : (t198 == (wrap64 (x8_1 + (Int.tmod (wrap64 ((rd_T35 l0 x10_1).f0)) 1048576)))) = false := beq_eq_false_iff_ne.mpr c30
                      have c30b1 : (t198 != (wrap64 (x8_1 + (Int.tmod (wrap64 ((rd_T35 l0 x10_1).f0)) 1048576)))) = true := bne_iff_ne.mpr c30
                      have H' := Aside0.mk H
                      clear H
                      have hnb36 := NB203_191.out
                      have hnc36 := NB191_203.out
                      have hcz37_0 : w17.cell? ⟨gb203, 0, none⟩ = some (.int .i64 0) := (blk_cell BK203.out 0).trans rfl
                      have hcz37_1 : w17.cell? ⟨gb203, 1, none⟩ = some (.int .i64 0) := (blk_cell BK203.out 1).trans rfl
                      have hcz37_2 : w17.cell? ⟨gb203, 2, none⟩ = some (.int .i64 0) := (blk_cell BK203.out 2).trans rfl
                      have hfz37_0 := blk_frozen BK203.out 0
                      have hfz37_1 := blk_frozen BK203.out 1
                      have hfz37_2 := blk_frozen BK203.out 2
                      go_wp2
                      repeat (go_quiet (fail); try go_wp2)
                      go_meet
                      case rel => exact ⟨_, (true), (by first | rfl | (simp; done) | (simp [*]; done)), H', ⟨by have := HK1.out; first | omega | exact Nat.le_refl _⟩, ⟨by (with_reducible repeat (first | refine blk_drewN ?_ _ | refine blk_drew ?_ | refine blk_alloc ?_ _)); refine blk_far ?_ NB191_203.out _; (with_reducible repeat (first | refine blk_drewN ?_ _ | refine blk_drew ?_ | refine blk_alloc ?_ _)); refine blk_far ?_ NB191_203.out _; (with_reducible repeat (first | refine blk_drewN ?_ _ | refine blk_drew ?_ | refine blk_alloc ?_ _)); refine blk_far ?_ NB191_203.out _; (with_reducible repeat (first | refine blk_drewN ?_ _ | refine blk_drew ?_ | refine blk_alloc ?_ _)); exact BK191.out⟩, ⟨by (with_reducible repeat (first | refine blk_drewN ?_ _ | refine blk_drew ?_ | refine blk_alloc ?_ _)); refine blk_put (cs := #[.int .i64 t197, .int .i64 t198, .int .i64 0]) ?_ 2 _ rfl; (with_reducible repeat (first | refine blk_drewN ?_ _ | refine blk_drew ?_ | refine blk_alloc ?_ _)); refine blk_put (cs := #[.int .i64 t197, .int .i64 0, .int .i64 0]) ?_ 1 _ rfl; (with_reducible repeat (first | refine blk_drewN ?_ _ | refine blk_drew ?_ | refine blk_alloc ?_ _)); refine blk_put (cs := #[.int .i64 0, .int .i64 0, .int .i64 0]) ?_ 0 _ rfl; (with_reducible repeat (first | refine blk_drewN ?_ _ | refine blk_drew ?_ | refine blk_alloc ?_ _)); exact BK203.out⟩, ⟨by repeat (first | (with_reducible first | exact HB.out | apply below_alloc | apply pw_below_drewN | apply below_drew1 | refine below_set ?_ GE191.out | refine below_set ?_ GE203.out) | exact HB.out)⟩⟩
            case rest =>
              clear HC13
              try clear c1
              try clear p1
              try clear q1
              try clear hx1
              try clear c2
              try clear p2
              try clear c3
              try clear c4
              try clear c4b0
              try clear c4b1
              try clear p6
              try clear c9
              try clear c9b0
              try clear c10
              try clear c10b0
              try clear c18
              try clear p19
              try clear q19
              try clear hx19
              try clear c20
              try clear c20b0
              try clear c20b1
              try clear c21
              try clear c21b0
              try clear c21b1
              try clear c21b2
              try clear c22
              try clear c23
              try clear c23b0
              try clear c23b1
              try clear c24
              try clear c24b0
              try clear c24b1
              try clear c25
              try clear c25b0
              try clear c26
              try clear c28
              try clear c30
              try clear c30b0
              try clear c30b1
              try clear c31
              try clear c31b0
              try clear c31b1
              try clear c32
              try clear c34
              try clear c36
              try clear hcz14_0
              try clear hcz14_1
              try clear hcz14_2
              try clear hcz19_0
              try clear hcz19_1
              try clear hcz19_2
              try clear hcz27_0
              try clear hcz27_1
              try clear hcz27_2
              try clear hcz29_0
              try clear hcz29_1
              try clear hcz29_2
              try clear hcz33_0
              try clear hcz33_1
              try clear hcz33_2
              try clear hcz35_0
              try clear hcz35_1
              try clear hcz35_2
              try clear hcz37_0
              try clear hcz37_1
              try clear hcz37_2
              try clear hcz8_0
              try clear hcz8_1
              try clear hcz8_2
              try clear hfz14_0
              try clear hfz14_1
              try clear hfz14_2
              try clear hfz19_0
              try clear hfz19_1
              try clear hfz19_2
              try clear hfz27_0
              try clear hfz27_1
              try clear hfz27_2
              try clear hfz29_0
              try clear hfz29_1
              try clear hfz29_2
              try clear hfz33_0
              try clear hfz33_1
              try clear hfz33_2
              try clear hfz35_0
              try clear hfz35_1
              try clear hfz35_2
              try clear hfz37_0
              try clear hfz37_1
              try clear hfz37_2
              try clear hfz8_0
              try clear hfz8_1
              try clear hfz8_2
              try clear hx192_0
              try clear hx192_1
              try clear hx193_0
              try clear hx193_1
              try clear p192
              try clear p193
              try clear p2
              try clear p6
              try clear q192
              try clear q193
              obtain ⟨kq, x113_12, rfl, HA, HJ12, BK191, BK203, HB⟩ := hcut
              cases kq with
              | zero => exact absurd HA.out (by simp [precentorlaw13_MeterSums.j1])
              | succ kj12 =>
                have H := HA.out
                clear HA
                simp only [precentorlaw13_MeterSums.j1] at H
                by_cases c38 : x113_12 = true
                · subst c38
                  have H1 : (none) = some r := by rw [if_pos rfl] at H; exact H
                  clear H
                  have H := H1
                  clear H1
                  exact absurd H (by simp)
                · replace c38 := Bool.eq_false_iff.mpr c38
                  subst c38
                  have H1 : (if t202 = true then (precentorlaw13_MeterSums.l0 kj12 l0 t190 (wrap64 (1 + (Int.tmod (wrap64 (a1)) 20))) 0 0 (wrap64 (x10_1 + 1)) t197 t198 t199) else (precentorlaw13_MeterSums.l0 kj12 l0 t190 (wrap64 (1 + (Int.tmod (wrap64 (a1)) 20))) (wrap64 (x8_1 + (Int.tmod (wrap64 ((rd_T35 l0 x10_1).f0)) 1048576))) (wrap64 (x9_1 + (Int.tmod (wrap64 ((rd_T35 l0 x10_1).f1)) 1048576))) (wrap64 (x10_1 + 1)) t197 t198 t199)) = some r := by rw [if_neg (show ¬ (false = true) by decide)] at H; exact H
                  clear H
                  have H := H1
                  clear H1
                  by_cases c39 : t202 = true
                  · subst c39
                    have H1 : (precentorlaw13_MeterSums.l0 kj12 l0 t190 (wrap64 (1 + (Int.tmod (wrap64 (a1)) 20))) 0 0 (wrap64 (x10_1 + 1)) t197 t198 t199) = some r := by rw [if_pos rfl] at H; exact H
                    clear H
                    have H := H1
                    clear H1
                    have H' := Aside0.mk H
                    clear H
                    have hnb40 := NB203_191.out
                    have hnc40 := NB191_203.out
                    have hcz41_0 : wc.cell? ⟨gb203, 0, none⟩ = some (.int .i64 t197) := (blk_cell BK203.out 0).trans rfl
                    have hcz41_1 : wc.cell? ⟨gb203, 1, none⟩ = some (.int .i64 t198) := (blk_cell BK203.out 1).trans rfl
                    have hcz41_2 : wc.cell? ⟨gb203, 2, none⟩ = some (.int .i64 t199) := (blk_cell BK203.out 2).trans rfl
                    have hfz41_0 := blk_frozen BK203.out 0
                    have hfz41_1 := blk_frozen BK203.out 1
                    have hfz41_2 := blk_frozen BK203.out 2
                    have hcz42_0 : wc.cell? ⟨gb191, 0, none⟩ = some (.int .i64 x192000_1) := (blk_cell BK191.out 0).trans rfl
                    have hcz42_1 : wc.cell? ⟨gb191, 1, none⟩ = some (.int .i64 x192001_1) := (blk_cell BK191.out 1).trans rfl
                    have hcz42_2 : wc.cell? ⟨gb191, 2, none⟩ = some (.int .i64 x192002_1) := (blk_cell BK191.out 2).trans rfl
                    have hfz42_0 := blk_frozen BK191.out 0
                    have hfz42_1 := blk_frozen BK191.out 1
                    have hfz42_2 := blk_frozen BK191.out 2
                    go_wp2
                    repeat (go_quiet (fail); try go_wp2)
                    go_roundg kj12
                    case measure => have := HK1.out; have := HJ12.out; omega
                    case rel => exact ⟨(0), (0), (wrap64 (x10_1 + 1)), (t197), (t198), (t199), (by first | rfl | (simp; done) | (simp [*]; done)), (by first | rfl | (simp; done) | (simp [*]; done)), (by first | rfl | (simp; done) | (simp [*]; done)), H', ⟨by have := HK1.out; have := HJ12.out; omega⟩, ⟨by (with_reducible repeat (first | refine blk_drewN ?_ _ | refine blk_drew ?_ | refine blk_alloc ?_ _)); refine blk_put (cs := #[.int .i64 t197, .int .i64 t198, .int .i64 x192002_1]) ?_ 2 _ rfl; (with_reducible repeat (first | refine blk_drewN ?_ _ | refine blk_drew ?_ | refine blk_alloc ?_ _)); refine blk_put (cs := #[.int .i64 t197, .int .i64 x192001_1, .int .i64 x192002_1]) ?_ 1 _ rfl; (with_reducible repeat (first | refine blk_drewN ?_ _ | refine blk_drew ?_ | refine blk_alloc ?_ _)); refine blk_put (cs := #[.int .i64 x192000_1, .int .i64 x192001_1, .int .i64 x192002_1]) ?_ 0 _ rfl; (with_reducible repeat (first | refine blk_drewN ?_ _ | refine blk_drew ?_ | refine blk_alloc ?_ _)); exact BK191.out⟩, ⟨by repeat (first | (with_reducible first | exact HB.out | apply below_alloc | apply pw_below_drewN | apply below_drew1 | refine below_set ?_ GE191.out | refine below_set ?_ GE203.out) | exact HB.out)⟩⟩
                  · replace c39 := Bool.eq_false_iff.mpr c39
                    subst c39
                    have H1 : (precentorlaw13_MeterSums.l0 kj12 l0 t190 (wrap64 (1 + (Int.tmod (wrap64 (a1)) 20))) (wrap64 (x8_1 + (Int.tmod (wrap64 ((rd_T35 l0 x10_1).f0)) 1048576))) (wrap64 (x9_1 + (Int.tmod (wrap64 ((rd_T35 l0 x10_1).f1)) 1048576))) (wrap64 (x10_1 + 1)) t197 t198 t199) = some r := by rw [if_neg (show ¬ (false = true) by decide)] at H; exact H
                    clear H
                    have H := H1
                    clear H1
                    have H' := Aside0.mk H
                    clear H
                    have hnb43 := NB203_191.out
                    have hnc43 := NB191_203.out
                    have hcz44_0 : wc.cell? ⟨gb203, 0, none⟩ = some (.int .i64 t197) := (blk_cell BK203.out 0).trans rfl
                    have hcz44_1 : wc.cell? ⟨gb203, 1, none⟩ = some (.int .i64 t198) := (blk_cell BK203.out 1).trans rfl
                    have hcz44_2 : wc.cell? ⟨gb203, 2, none⟩ = some (.int .i64 t199) := (blk_cell BK203.out 2).trans rfl
                    have hfz44_0 := blk_frozen BK203.out 0
                    have hfz44_1 := blk_frozen BK203.out 1
                    have hfz44_2 := blk_frozen BK203.out 2
                    have hcz45_0 : wc.cell? ⟨gb191, 0, none⟩ = some (.int .i64 x192000_1) := (blk_cell BK191.out 0).trans rfl
                    have hcz45_1 : wc.cell? ⟨gb191, 1, none⟩ = some (.int .i64 x192001_1) := (blk_cell BK191.out 1).trans rfl
                    have hcz45_2 : wc.cell? ⟨gb191, 2, none⟩ = some (.int .i64 x192002_1) := (blk_cell BK191.out 2).trans rfl
                    have hfz45_0 := blk_frozen BK191.out 0
                    have hfz45_1 := blk_frozen BK191.out 1
                    have hfz45_2 := blk_frozen BK191.out 2
                    go_wp2
                    repeat (go_quiet (fail); try go_wp2)
                    go_roundg kj12
                    case measure => have := HK1.out; have := HJ12.out; omega
                    case rel => exact ⟨((wrap64 (x8_1 + (Int.tmod (wrap64 ((rd_T35 l0 x10_1).f0)) 1048576)))), ((wrap64 (x9_1 + (Int.tmod (wrap64 ((rd_T35 l0 x10_1).f1)) 1048576)))), (wrap64 (x10_1 + 1)), (t197), (t198), (t199), (by first | rfl | (simp; done) | (simp [*]; done)), (by first | rfl | (simp; done) | (simp [*]; done)), (by first | rfl | (simp; done) | (simp [*]; done)), H', ⟨by have := HK1.out; have := HJ12.out; omega⟩, ⟨by (with_reducible repeat (first | refine blk_drewN ?_ _ | refine blk_drew ?_ | refine blk_alloc ?_ _)); refine blk_put (cs := #[.int .i64 t197, .int .i64 t198, .int .i64 x192002_1]) ?_ 2 _ rfl; (with_reducible repeat (first | refine blk_drewN ?_ _ | refine blk_drew ?_ | refine blk_alloc ?_ _)); refine blk_put (cs := #[.int .i64 t197, .int .i64 x192001_1, .int .i64 x192002_1]) ?_ 1 _ rfl; (with_reducible repeat (first | refine blk_drewN ?_ _ | refine blk_drew ?_ | refine blk_alloc ?_ _)); refine blk_put (cs := #[.int .i64 x192000_1, .int .i64 x192001_1, .int .i64 x192002_1]) ?_ 0 _ rfl; (with_reducible repeat (first | refine blk_drewN ?_ _ | refine blk_drew ?_ | refine blk_alloc ?_ _)); exact BK191.out⟩, ⟨by repeat (first | (with_reducible first | exact HB.out | apply below_alloc | apply pw_below_drewN | apply below_drew1 | refine below_set ?_ GE191.out | refine below_set ?_ GE203.out) | exact HB.out)⟩⟩
          · rw [if_neg c10] at H
            exact absurd H (by simp)
        · rw [if_neg c9] at H
          have c9b0 : decide (x10_1 < (l0.length : Int)) = false := decide_eq_false c9
          clear c9
          obtain rfl := Option.some.inj H
          go_wp2
          repeat (go_quiet (fail); try go_wp2)
          go_ret
          exact ⟨by first | rfl | (simp [errW_none, errW_some] <;> rfl) | (simp [*, errW_none, errW_some] <;> rfl), by repeat (first | (with_reducible first | exact HB.out | apply below_alloc | apply pw_below_drewN | apply below_drew1 | refine below_set ?_ GE191.out) | exact HB.out)⟩

end Go.Proofs.Ytkihhkhhmplnlaa.Print
