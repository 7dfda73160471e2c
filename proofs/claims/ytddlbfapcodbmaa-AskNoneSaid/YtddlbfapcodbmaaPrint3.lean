/- The Go functions of this seat as Lean functions, and of each that its call does just what its Lean function says, where that says something. Condition: the arguments read as they are told. -/
import Derived.Test.YtddlbfapcodbmaaPrint0
import Derived.Test.YtddlbfapcodbmaaPrint2
import Derived.Test.YtddlbfapcodbmaaHand
namespace Go.Proofs.Ytddlbfapcodbmaa.Print
open Go.RowKit Go.Proofs.YtddlbfapcodbmaaW.PrintWords Go.Proofs.YtddlbfapcodbmaaW.PrintLast Go.Proofs.YtddlbfapcodbmaaW.PrintMore
attribute [local go_sem] max2_int min2_int max_two min_two max_three min_three max_four min_four   -- for this text's walks alone
set_option linter.unusedVariables false
set_option linter.unusedSimpArgs false

/-! ### precentorlaw10_AskEach: function 4 -/
def precentorlaw10_AskEach.l0 : Nat → Int → Bool → Int → Int → Int → Int → Option (Bool)
  | 0, _, _, _, _, _, _ => none
  | k + 1, x0, x7, x8, x10, x11, x138000 => if x11 < 200 then (if x11 = x10 then ((ask_Step.f x138000 (wrap64 ((wrap64 (x0)) + x11)) x8 false).bind fun bt138 => (if x11 > x10 then (if (bt138.2 != false) = true then (none) else (precentorlaw10_AskEach.l0 k x0 x7 x8 x10 (wrap64 (x11 + 1)) bt138.1)) else (if (bt138.2 != false) = true then (none) else (precentorlaw10_AskEach.l0 k x0 x7 x8 x10 (wrap64 (x11 + 1)) bt138.1)))) else ((ask_Step.f x138000 (wrap64 ((wrap64 (x0)) + x11)) x8 true).bind fun bt141 => (if x11 > x10 then (if (wrap64 (x11 - (wrap64 (x10 + 1)))) ≥ 1 then (if x8 = 0 then (none) else (if (bt141.2 != ((Int.tmod (wrap64 ((wrap64 (x11 - (wrap64 (x10 + 1)))) - 1)) x8) == 0)) = true then (none) else (precentorlaw10_AskEach.l0 k x0 x7 x8 x10 (wrap64 (x11 + 1)) bt141.1))) else (if (bt141.2 != false) = true then (none) else (precentorlaw10_AskEach.l0 k x0 x7 x8 x10 (wrap64 (x11 + 1)) bt141.1))) else (if (wrap64 (x11)) ≥ 1 then (if x8 = 0 then (none) else (if (bt141.2 != ((Int.tmod (wrap64 ((wrap64 (x11)) - 1)) x8) == 0)) = true then (none) else (precentorlaw10_AskEach.l0 k x0 x7 x8 x10 (wrap64 (x11 + 1)) bt141.1))) else (if (bt141.2 != false) = true then (none) else (precentorlaw10_AskEach.l0 k x0 x7 x8 x10 (wrap64 (x11 + 1)) bt141.1)))))) else (some x7)
def precentorlaw10_AskEach.f (k : Nat) (a0 : Int) (a1 : Int) (a2 : Int) : Option (Bool) := (precentorlaw10_shown.f).bind fun t136 => (precentorlaw10_AskEach.l0 k a0 t136 (wrap64 (1 + (Int.tmod (wrap64 (a1)) 50))) (Int.tmod (wrap64 (a2)) 200) 0 0)
theorem precentorlaw10_AskEach.mono_l : ∀ k, (∀ y0 y1 y2 y3 y4 y5, LeO (precentorlaw10_AskEach.l0 k y0 y1 y2 y3 y4 y5) (precentorlaw10_AskEach.l0 (k + 1) y0 y1 y2 y3 y4 y5))
  | 0 => fun _ _ _ _ _ _ r h => by simp [precentorlaw10_AskEach.l0] at h
  | k + 1 => by
    have ih0 := precentorlaw10_AskEach.mono_l k
    · intro y0 y1 y2 y3 y4 y5
      unfold precentorlaw10_AskEach.l0
      repeat' first
      | (with_reducible exact ih0 _ _ _ _ _ _)
      | (with_reducible exact LeO.refl _)
      | (with_reducible exact LeO.none _)
      | (with_reducible refine LeO.ite ?_ ?_)
      | (with_reducible refine LeO.bind ?_ (fun _ => ?_))
      | exact ih0 _ _ _ _ _ _
      | exact LeO.none _
      | refine LeO.ite ?_ ?_
      | refine LeO.bind ?_ (fun _ => ?_)
theorem precentorlaw10_AskEach.mono : ∀ a0 a1 a2 k, LeO (precentorlaw10_AskEach.f k a0 a1 a2) (precentorlaw10_AskEach.f (k + 1) a0 a1 a2) := by
  intro a0 a1 a2 k
  have ih0 := precentorlaw10_AskEach.mono_l k
  unfold precentorlaw10_AskEach.f
  repeat' first
      | (with_reducible exact ih0 _ _ _ _ _ _)
      | (with_reducible exact LeO.refl _)
      | (with_reducible exact LeO.none _)
      | (with_reducible refine LeO.ite ?_ ?_)
      | (with_reducible refine LeO.bind ?_ (fun _ => ?_))
      | exact ih0 _ _ _ _ _ _
      | exact LeO.none _
      | refine LeO.ite ?_ ?_
      | refine LeO.bind ?_ (fun _ => ?_)
set_option maxHeartbeats 8000000 in
set_option maxRecDepth 100000 in
theorem precentorlaw10_AskEach.calls (k : Nat) (a0 : Int) (a1 : Int) (a2 : Int) (r : Bool) (w : World) (h : precentorlaw10_AskEach.f k a0 a1 a2 = some r) :
    Calls Try.prog 4 #[.int .u32 a0, .int .u8 a1, .int .u8 a2] w fun e w' => e = .returned (.bool r) ∧ Below w.heap.size w w' := by
  have hu23 := Try.underlying23
  have HB := Aside0.mk (Below.refl w.heap.size w)
  have H : ((precentorlaw10_shown.f).bind fun t136 => (precentorlaw10_AskEach.l0 k a0 t136 (wrap64 (1 + (Int.tmod (wrap64 (a1)) 50))) (Int.tmod (wrap64 (a2)) 200) 0 0)) = some r := h
  clear h
  replace H := Option.bind_eq_some_iff.mp H
  obtain ⟨t136, A40, H⟩ := H
  replace H : (precentorlaw10_AskEach.l0 k a0 t136 (wrap64 (1 + (Int.tmod (wrap64 (a1)) 50))) (Int.tmod (wrap64 (a2)) 200) 0 0) = some r := H
  have A4 := Aside0.mk A40
  clear A40
  have H' := Aside0.mk H
  clear H
  go_enter Try.func4, Try.ntmps4
  go_wp2_with (first | ((with_reducible refine gate_callee (f := 8) rfl ?_); refine goesL_ (some 17) rfl rfl Try.func8 (by kernel_rfl) rfl #[] rfl (by (try simp only [List.map_toArray, List.map_cons, List.map_nil]); first | done | rfl | (simp only [List.length_drop, List.length_take]; rfl)) ?_; (with_reducible refine (precentorlaw10_shown.calls  t136 _ A4.out).mono ?_); rintro e w5 ⟨rfl, hb⟩; refine ⟨_, rfl, ?_⟩; have n0_ := Aside0.mk (below_step (by repeat (first | (with_reducible first | exact HB.out | apply below_alloc | apply pw_below_drewN | apply below_drew1) | exact HB.out)) hb); clear HB; have HB := n0_; clear n0_; (try clear hb); (try clear hb2); (try clear hk); (try clear hi)) | ((with_reducible refine gate_dst (N := 9) rfl ?_); refine box_event ?hg (N := 9) ?hd (cs := #[.int .i64 0]) (t := 23) ?hr ?_; (case hd => rfl); (case hg => rfl); (case hr => first | (go_simp; done) | (go_simp; rfl)); intro gb137 hg w6 hbox hb; have n0_ := Aside0.mk (below_step (by repeat (first | (with_reducible first | exact HB.out | apply below_alloc | apply pw_below_drewN | apply below_drew1) | exact HB.out)) hb); have n1_ := Aside0.mk (hbox); have n2_ := Aside0.mk ((by rw [hg]; exact (below_size (by repeat (first | (with_reducible first | exact HB.out | apply below_alloc | apply pw_below_drewN | apply below_drew1) | exact HB.out))) : w.heap.size ≤ gb137)); have n3_ := Aside0.mk ((by rw [hg]; exact (below_size (by repeat (first | (with_reducible first | exact HB.out | apply below_alloc | apply pw_below_drewN | apply below_drew1) | exact HB.out))) : w.heap.size ≤ gb137)); clear HB; have HB := n0_; have BK137 := n1_; have GW137 := n2_; have GE137 := n3_; clear n0_ n1_ n2_ n3_; clear hb hbox hg; have hcz7_0 : w6.cell? ⟨gb137, 0, none⟩ = some (.int .i64 0) := (blk_cell BK137.out 0).trans rfl; have hfz7_0 := blk_frozen BK137.out 0))
  go_loopg [11] k (fun kq v11 w' => ∃ (x11_1 : Int) (x138000_1 : Int), v11 = .int .i64 x11_1 ∧ Aside0 (precentorlaw10_AskEach.l0 kq a0 t136 (wrap64 (1 + (Int.tmod (wrap64 (a1)) 50))) (Int.tmod (wrap64 (a2)) 200) x11_1 x138000_1 = some r) ∧ Aside0 (kq ≤ k) ∧ Aside0 (w'.heap[gb137]? = some (.cells #[.int .i64 x138000_1] 23 (0, 0))) ∧ Aside0 (Below w.heap.size w w'))
  case atStart => exact ⟨(0), (0), (by first | rfl | (simp; done) | (simp [*]; done)), H', ⟨Nat.le_refl _⟩, ⟨by (with_reducible repeat (first | refine blk_drewN ?_ _ | refine blk_drew ?_ | refine blk_alloc ?_ _)); refine blk_put (cs := #[.int .i64 0]) ?_ 0 _ rfl; (with_reducible repeat (first | refine blk_drewN ?_ _ | refine blk_drew ?_ | refine blk_alloc ?_ _)); exact BK137.out⟩, ⟨by repeat (first | (with_reducible first | exact HB.out | apply below_alloc | apply pw_below_drewN | apply below_drew1 | refine below_set ?_ GE137.out) | exact HB.out)⟩⟩
  case round =>
    clear H'
    try clear p2
    try clear c4
    try clear p6
    try clear hcz7_0
    try clear hfz7_0
    obtain ⟨x11_1, x138000_1, rfl, HA, HK1, BK137, HB⟩ := hrel
    cases gk with
    | zero => exact absurd HA.out (by simp [precentorlaw10_AskEach.l0])
    | succ k1 =>
      have H := HA.out
      clear HA
      simp only [precentorlaw10_AskEach.l0] at H
      by_cases c8 : x11_1 < 200
      · rw [if_pos c8] at H
        have c8b0 : decide (x11_1 < 200) = true := decide_eq_true c8
        clear c8
        by_cases c9 : x11_1 = (Int.tmod (wrap64 (a2)) 200)
        · rw [if_pos c9] at H
          have c9b0 : (x11_1 == (Int.tmod (wrap64 (a2)) 200)) = true := beq_iff_eq.mpr c9
          have c9b1 : (x11_1 != (Int.tmod (wrap64 (a2)) 200)) = false := bne_eq_false_iff_eq.mpr c9
          clear c9
          replace H := Option.bind_eq_some_iff.mp H
          obtain ⟨⟨t138, t139⟩, A100, H⟩ := H
          replace H : (if x11_1 > (Int.tmod (wrap64 (a2)) 200) then (if (t139 != false) = true then (none) else (precentorlaw10_AskEach.l0 k1 a0 t136 (wrap64 (1 + (Int.tmod (wrap64 (a1)) 50))) (Int.tmod (wrap64 (a2)) 200) (wrap64 (x11_1 + 1)) t138)) else (if (t139 != false) = true then (none) else (precentorlaw10_AskEach.l0 k1 a0 t136 (wrap64 (1 + (Int.tmod (wrap64 (a1)) 50))) (Int.tmod (wrap64 (a2)) 200) (wrap64 (x11_1 + 1)) t138))) = some r := H
          have A10 := Aside0.mk A100
          clear A100
          by_cases c11 : x11_1 > (Int.tmod (wrap64 (a2)) 200)
          · rw [if_pos c11] at H
            have c11b0 : decide ((Int.tmod (wrap64 (a2)) 200) < x11_1) = true := decide_eq_true c11
            clear c11
            by_cases c12 : (t139 != false) = true
            · rw [if_pos c12] at H
              exact absurd H (by simp)
            · rw [if_neg c12] at H
              have c12b0 : (t139 != false) = false := by simpa using c12
              (try (have c12b1 : decide (t139 = false) = true := by simpa using c12))
              (try (have c12b2 : (t139 == false) = true := by simpa using c12))
              clear c12
              have H' := Aside0.mk H
              clear H
              have hcz13_0 : wr.cell? ⟨gb137, 0, none⟩ = some (.int .i64 x138000_1) := (blk_cell BK137.out 0).trans rfl
              have hfz13_0 := blk_frozen BK137.out 0
              go_wp2_with (first | ((with_reducible refine gate_callee (f := 10) rfl ?_); refine goesL_ (some 40) rfl rfl Try.func10 (by kernel_rfl) rfl #[.agg #[.int .i64 x138000_1], .int .i64 (wrap64 ((wrap64 (a0)) + x11_1)), .int .i64 (wrap64 (1 + (Int.tmod (wrap64 (a1)) 50))), .bool false] rfl (by (try simp only [List.map_toArray, List.map_cons, List.map_nil]); first | done | rfl | (simp only [List.length_drop, List.length_take]; rfl)) ?_; (with_reducible refine (ask_Step.calls x138000_1 (wrap64 ((wrap64 (a0)) + x11_1)) (wrap64 (1 + (Int.tmod (wrap64 (a1)) 50))) false t138 t139 _ A10.out).mono ?_); rintro e w14 ⟨rfl, hb⟩; refine ⟨_, rfl, ?_⟩; have n0_ := Aside0.mk (blk_below (g := gb137) (o := .cells #[.int .i64 x138000_1] 23 (0, 0)) (by (with_reducible repeat (first | refine blk_drewN ?_ _ | refine blk_drew ?_ | refine blk_alloc ?_ _)); exact BK137.out) hb); have n1_ := Aside0.mk (below_step (by repeat (first | (with_reducible first | exact HB.out | apply below_alloc | apply pw_below_drewN | apply below_drew1 | refine below_set ?_ GE137.out) | exact HB.out)) hb); clear BK137; clear HB; have BK137 := n0_; have HB := n1_; clear n0_ n1_; (try clear hb); (try clear hb2); (try clear hk); (try clear hi)) | ((with_reducible refine gate_dst (N := 12) rfl ?_); refine box_event ?hg (N := 12) ?hd (cs := #[.int .i64 0]) (t := 23) ?hr ?_; (case hd => rfl); (case hg => rfl); (case hr => first | (go_simp; done) | (go_simp; rfl)); intro gb140 hg w15 hbox hb; have n0_ := Aside0.mk (blk_below (g := gb137) (o := .cells #[.int .i64 x138000_1] 23 (0, 0)) (by (with_reducible repeat (first | refine blk_drewN ?_ _ | refine blk_drew ?_ | refine blk_alloc ?_ _)); exact BK137.out) hb); have n1_ := Aside0.mk (below_step (by repeat (first | (with_reducible first | exact HB.out | apply below_alloc | apply pw_below_drewN | apply below_drew1 | refine below_set ?_ GE137.out) | exact HB.out)) hb); have n2_ := Aside0.mk (hbox); have n3_ := Aside0.mk ((by rw [hg]; exact (below_size (by repeat (first | (with_reducible first | exact HB.out | apply below_alloc | apply pw_below_drewN | apply below_drew1 | refine below_set ?_ GE137.out) | exact HB.out))) : w.heap.size ≤ gb140)); have n4_ := Aside0.mk ((by rw [hg]; exact (below_size (by repeat (first | (with_reducible first | exact HB.out | apply below_alloc | apply pw_below_drewN | apply below_drew1 | refine below_set ?_ GE137.out) | exact HB.out))) : w.heap.size ≤ gb140)); have n5_ := Aside0.mk ((by rw [hg]; exact Nat.ne_of_lt (blk_lt (g := gb137) (o := .cells #[.int .i64 x138000_1] 23 (0, 0)) (by (with_reducible repeat (first | refine blk_drewN ?_ _ | refine blk_drew ?_ | refine blk_alloc ?_ _)); exact BK137.out)) : gb137 ≠ gb140)); have n6_ := Aside0.mk ((by rw [hg]; exact Nat.ne_of_gt (blk_lt (g := gb137) (o := .cells #[.int .i64 x138000_1] 23 (0, 0)) (by (with_reducible repeat (first | refine blk_drewN ?_ _ | refine blk_drew ?_ | refine blk_alloc ?_ _)); exact BK137.out)) : gb140 ≠ gb137)); clear BK137; clear HB; have BK137 := n0_; have HB := n1_; have BK140 := n2_; have GW140 := n3_; have GE140 := n4_; have NB137_140 := n5_; have NB140_137 := n6_; clear n0_ n1_ n2_ n3_ n4_ n5_ n6_; clear hb hbox hg; have hnb16 := NB140_137.out; have hnc16 := NB137_140.out; have hcz17_0 : w15.cell? ⟨gb140, 0, none⟩ = some (.int .i64 0) := (blk_cell BK140.out 0).trans rfl; have hfz17_0 := blk_frozen BK140.out 0; have hcz18_0 : w15.cell? ⟨gb137, 0, none⟩ = some (.int .i64 x138000_1) := (blk_cell BK137.out 0).trans rfl; have hfz18_0 := blk_frozen BK137.out 0))
              go_roundg k1
              case measure => have := HK1.out; omega
              case rel => exact ⟨(wrap64 (x11_1 + 1)), (t138), (by first | rfl | (simp; done) | (simp [*]; done)), H', ⟨by have := HK1.out; omega⟩, ⟨by (with_reducible repeat (first | refine blk_drewN ?_ _ | refine blk_drew ?_ | refine blk_alloc ?_ _)); refine blk_put (cs := #[.int .i64 x138000_1]) ?_ 0 _ rfl; (with_reducible repeat (first | refine blk_drewN ?_ _ | refine blk_drew ?_ | refine blk_alloc ?_ _)); refine blk_far ?_ NB137_140.out _; (with_reducible repeat (first | refine blk_drewN ?_ _ | refine blk_drew ?_ | refine blk_alloc ?_ _)); exact BK137.out⟩, ⟨by repeat (first | (with_reducible first | exact HB.out | apply below_alloc | apply pw_below_drewN | apply below_drew1 | refine below_set ?_ GE137.out | refine below_set ?_ GE140.out) | exact HB.out)⟩⟩
          · rw [if_neg c11] at H
            have c11b0 : decide ((Int.tmod (wrap64 (a2)) 200) < x11_1) = false := decide_eq_false c11
            clear c11
            by_cases c19 : (t139 != false) = true
            · rw [if_pos c19] at H
              exact absurd H (by simp)
            · rw [if_neg c19] at H
              have c19b0 : (t139 != false) = false := by simpa using c19
              (try (have c19b1 : decide (t139 = false) = true := by simpa using c19))
              (try (have c19b2 : (t139 == false) = true := by simpa using c19))
              clear c19
              have H' := Aside0.mk H
              clear H
              have hcz20_0 : wr.cell? ⟨gb137, 0, none⟩ = some (.int .i64 x138000_1) := (blk_cell BK137.out 0).trans rfl
              have hfz20_0 := blk_frozen BK137.out 0
              go_wp2_with (first | ((with_reducible refine gate_callee (f := 10) rfl ?_); refine goesL_ (some 40) rfl rfl Try.func10 (by kernel_rfl) rfl #[.agg #[.int .i64 x138000_1], .int .i64 (wrap64 ((wrap64 (a0)) + x11_1)), .int .i64 (wrap64 (1 + (Int.tmod (wrap64 (a1)) 50))), .bool false] rfl (by (try simp only [List.map_toArray, List.map_cons, List.map_nil]); first | done | rfl | (simp only [List.length_drop, List.length_take]; rfl)) ?_; (with_reducible refine (ask_Step.calls x138000_1 (wrap64 ((wrap64 (a0)) + x11_1)) (wrap64 (1 + (Int.tmod (wrap64 (a1)) 50))) false t138 t139 _ A10.out).mono ?_); rintro e w21 ⟨rfl, hb⟩; refine ⟨_, rfl, ?_⟩; have n0_ := Aside0.mk (blk_below (g := gb137) (o := .cells #[.int .i64 x138000_1] 23 (0, 0)) (by (with_reducible repeat (first | refine blk_drewN ?_ _ | refine blk_drew ?_ | refine blk_alloc ?_ _)); exact BK137.out) hb); have n1_ := Aside0.mk (below_step (by repeat (first | (with_reducible first | exact HB.out | apply below_alloc | apply pw_below_drewN | apply below_drew1 | refine below_set ?_ GE137.out) | exact HB.out)) hb); clear BK137; clear HB; have BK137 := n0_; have HB := n1_; clear n0_ n1_; (try clear hb); (try clear hb2); (try clear hk); (try clear hi)) | ((with_reducible refine gate_dst (N := 12) rfl ?_); refine box_event ?hg (N := 12) ?hd (cs := #[.int .i64 0]) (t := 23) ?hr ?_; (case hd => rfl); (case hg => rfl); (case hr => first | (go_simp; done) | (go_simp; rfl)); intro gb140 hg w22 hbox hb; have n0_ := Aside0.mk (blk_below (g := gb137) (o := .cells #[.int .i64 x138000_1] 23 (0, 0)) (by (with_reducible repeat (first | refine blk_drewN ?_ _ | refine blk_drew ?_ | refine blk_alloc ?_ _)); exact BK137.out) hb); have n1_ := Aside0.mk (below_step (by repeat (first | (with_reducible first | exact HB.out | apply below_alloc | apply pw_below_drewN | apply below_drew1 | refine below_set ?_ GE137.out) | exact HB.out)) hb); have n2_ := Aside0.mk (hbox); have n3_ := Aside0.mk ((by rw [hg]; exact (below_size (by repeat (first | (with_reducible first | exact HB.out | apply below_alloc | apply pw_below_drewN | apply below_drew1 | refine below_set ?_ GE137.out) | exact HB.out))) : w.heap.size ≤ gb140)); have n4_ := Aside0.mk ((by rw [hg]; exact (below_size (by repeat (first | (with_reducible first | exact HB.out | apply below_alloc | apply pw_below_drewN | apply below_drew1 | refine below_set ?_ GE137.out) | exact HB.out))) : w.heap.size ≤ gb140)); have n5_ := Aside0.mk ((by rw [hg]; exact Nat.ne_of_lt (blk_lt (g := gb137) (o := .cells #[.int .i64 x138000_1] 23 (0, 0)) (by (with_reducible repeat (first | refine blk_drewN ?_ _ | refine blk_drew ?_ | refine blk_alloc ?_ _)); exact BK137.out)) : gb137 ≠ gb140)); have n6_ := Aside0.mk ((by rw [hg]; exact Nat.ne_of_gt (blk_lt (g := gb137) (o := .cells #[.int .i64 x138000_1] 23 (0, 0)) (by (with_reducible repeat (first | refine blk_drewN ?_ _ | refine blk_drew ?_ | refine blk_alloc ?_ _)); exact BK137.out)) : gb140 ≠ gb137)); clear BK137; clear HB; have BK137 := n0_; have HB := n1_; have BK140 := n2_; have GW140 := n3_; have GE140 := n4_; have NB137_140 := n5_; have NB140_137 := n6_; clear n0_ n1_ n2_ n3_ n4_ n5_ n6_; clear hb hbox hg; have hnb23 := NB140_137.out; have hnc23 := NB137_140.out; have hcz24_0 : w22.cell? ⟨gb140, 0, none⟩ = some (.int .i64 0) := (blk_cell BK140.out 0).trans rfl; have hfz24_0 := blk_frozen BK140.out 0; have hcz25_0 : w22.cell? ⟨gb137, 0, none⟩ = some (.int .i64 x138000_1) := (blk_cell BK137.out 0).trans rfl; have hfz25_0 := blk_frozen BK137.out 0))
              go_roundg k1
              case measure => have := HK1.out; omega
              case rel => exact ⟨(wrap64 (x11_1 + 1)), (t138), (by first | rfl | (simp; done) | (simp [*]; done)), H', ⟨by have := HK1.out; omega⟩, ⟨by (with_reducible repeat (first | refine blk_drewN ?_ _ | refine blk_drew ?_ | refine blk_alloc ?_ _)); refine blk_put (cs := #[.int .i64 x138000_1]) ?_ 0 _ rfl; (with_reducible repeat (first | refine blk_drewN ?_ _ | refine blk_drew ?_ | refine blk_alloc ?_ _)); refine blk_far ?_ NB137_140.out _; (with_reducible repeat (first | refine blk_drewN ?_ _ | refine blk_drew ?_ | refine blk_alloc ?_ _)); exact BK137.out⟩, ⟨by repeat (first | (with_reducible first | exact HB.out | apply below_alloc | apply pw_below_drewN | apply below_drew1 | refine below_set ?_ GE137.out | refine below_set ?_ GE140.out) | exact HB.out)⟩⟩
        · rw [if_neg c9] at H
          have c9b0 : (x11_1 == (Int.tmod (wrap64 (a2)) 200)) = false := beq_eq_false_iff_ne.mpr c9
          have c9b1 : (x11_1 != (Int.tmod (wrap64 (a2)) 200)) = true := bne_iff_ne.mpr c9
          replace H := Option.bind_eq_some_iff.mp H
          obtain ⟨⟨t141, t142⟩, A260, H⟩ := H
          replace H : (if x11_1 > (Int.tmod (wrap64 (a2)) 200) then (if (wrap64 (x11_1 - (wrap64 ((Int.tmod (wrap64 (a2)) 200) + 1)))) ≥ 1 then (if (wrap64 (1 + (Int.tmod (wrap64 (a1)) 50))) = 0 then (none) else (if (t142 != ((Int.tmod (wrap64 ((wrap64 (x11_1 - (wrap64 ((Int.tmod (wrap64 (a2)) 200) + 1)))) - 1)) (wrap64 (1 + (Int.tmod (wrap64 (a1)) 50)))) == 0)) = true then (none) else (precentorlaw10_AskEach.l0 k1 a0 t136 (wrap64 (1 + (Int.tmod (wrap64 (a1)) 50))) (Int.tmod (wrap64 (a2)) 200) (wrap64 (x11_1 + 1)) t141))) else (if (t142 != false) = true then (none) else (precentorlaw10_AskEach.l0 k1 a0 t136 (wrap64 (1 + (Int.tmod (wrap64 (a1)) 50))) (Int.tmod (wrap64 (a2)) 200) (wrap64 (x11_1 + 1)) t141))) else (if (wrap64 (x11_1)) ≥ 1 then (if (wrap64 (1 + (Int.tmod (wrap64 (a1)) 50))) = 0 then (none) else (if (t142 != ((Int.tmod (wrap64 ((wrap64 (x11_1)) - 1)) (wrap64 (1 + (Int.tmod (wrap64 (a1)) 50)))) == 0)) = true then (none) else (precentorlaw10_AskEach.l0 k1 a0 t136 (wrap64 (1 + (Int.tmod (wrap64 (a1)) 50))) (Int.tmod (wrap64 (a2)) 200) (wrap64 (x11_1 + 1)) t141))) else (if (t142 != false) = true then (none) else (precentorlaw10_AskEach.l0 k1 a0 t136 (wrap64 (1 + (Int.tmod (wrap64 (a1)) 50))) (Int.tmod (wrap64 (a2)) 200) (wrap64 (x11_1 + 1)) t141)))) = some r := H
          have A26 := Aside0.mk A260
          clear A260
          by_cases c27 : x11_1 > (Int.tmod (wrap64 (a2)) 200)
          · rw [if_pos c27] at H
            have c27b0 : decide ((Int.tmod (wrap64 (a2)) 200) < x11_1) = true := decide_eq_true c27
            clear c27
            by_cases c28 : (wrap64 (x11_1 - (wrap64 ((Int.tmod (wrap64 (a2)) 200) + 1)))) ≥ 1
            · rw [if_pos c28] at H
              have c28b0 : decide (1 ≤ (wrap64 (x11_1 - (wrap64 ((Int.tmod (wrap64 (a2)) 200) + 1))))) = true := decide_eq_true c28
              clear c28
              by_cases c29 : (wrap64 (1 + (Int.tmod (wrap64 (a1)) 50))) = 0
              · rw [if_pos c29] at H
                exact absurd H (by simp)
              · rw [if_neg c29] at H
                have c29b0 : ((wrap64 (1 + (Int.tmod (wrap64 (a1)) 50))) == 0) = false := beq_eq_false_iff_ne.mpr c29
                have c29b1 : ((wrap64 (1 + (Int.tmod (wrap64 (a1)) 50))) != 0) = true := bne_iff_ne.mpr c29
                by_cases c30 : (t142 != ((Int.tmod (wrap64 ((wrap64 (x11_1 - (wrap64 ((Int.tmod (wrap64 (a2)) 200) + 1)))) - 1)) (wrap64 (1 + (Int.tmod (wrap64 (a1)) 50)))) == 0)) = true
                · rw [if_pos c30] at H
                  exact absurd H (by simp)
                · rw [if_neg c30] at H
                  have c30b0 : (t142 != ((Int.tmod (wrap64 ((wrap64 (x11_1 - (wrap64 ((Int.tmod (wrap64 (a2)) 200) + 1)))) - 1)) (wrap64 (1 + (Int.tmod (wrap64 (a1)) 50)))) == 0)) = false := by simpa using c30
                  (try (have c30b1 : decide (t142 = ((Int.tmod (wrap64 ((wrap64 (x11_1 - (wrap64 ((Int.tmod (wrap64 (a2)) 200) + 1)))) - 1)) (wrap64 (1 + (Int.tmod (wrap64 (a1)) 50)))) == 0)) = true := by simpa using c30))
                  (try (have c30b2 : (t142 == ((Int.tmod (wrap64 ((wrap64 (x11_1 - (wrap64 ((Int.tmod (wrap64 (a2)) 200) + 1)))) - 1)) (wrap64 (1 + (Int.tmod (wrap64 (a1)) 50)))) == 0)) = true := by simpa using c30))
                  clear c30
                  have H' := Aside0.mk H
                  clear H
                  have hcz31_0 : wr.cell? ⟨gb137, 0, none⟩ = some (.int .i64 x138000_1) := (blk_cell BK137.out 0).trans rfl
                  have hfz31_0 := blk_frozen BK137.out 0
                  go_wp2_with (first | ((with_reducible refine gate_callee (f := 10) rfl ?_); refine goesL_ (some 40) rfl rfl Try.func10 (by kernel_rfl) rfl #[.agg #[.int .i64 x138000_1], .int .i64 (wrap64 ((wrap64 (a0)) + x11_1)), .int .i64 (wrap64 (1 + (Int.tmod (wrap64 (a1)) 50))), .bool true] rfl (by (try simp only [List.map_toArray, List.map_cons, List.map_nil]); first | done | rfl | (simp only [List.length_drop, List.length_take]; rfl)) ?_; (with_reducible refine (ask_Step.calls x138000_1 (wrap64 ((wrap64 (a0)) + x11_1)) (wrap64 (1 + (Int.tmod (wrap64 (a1)) 50))) true t141 t142 _ A26.out).mono ?_); rintro e w32 ⟨rfl, hb⟩; refine ⟨_, rfl, ?_⟩; have n0_ := Aside0.mk (blk_below (g := gb137) (o := .cells #[.int .i64 x138000_1] 23 (0, 0)) (by (with_reducible repeat (first | refine blk_drewN ?_ _ | refine blk_drew ?_ | refine blk_alloc ?_ _)); exact BK137.out) hb); have n1_ := Aside0.mk (below_step (by repeat (first | (with_reducible first | exact HB.out | apply below_alloc | apply pw_below_drewN | apply below_drew1 | refine below_set ?_ GE137.out) | exact HB.out)) hb); clear BK137; clear HB; have BK137 := n0_; have HB := n1_; clear n0_ n1_; (try clear hb); (try clear hb2); (try clear hk); (try clear hi)) | ((with_reducible refine gate_dst (N := 12) rfl ?_); refine box_event ?hg (N := 12) ?hd (cs := #[.int .i64 0]) (t := 23) ?hr ?_; (case hd => rfl); (case hg => rfl); (case hr => first | (go_simp; done) | (go_simp; rfl)); intro gb143 hg w33 hbox hb; have n0_ := Aside0.mk (blk_below (g := gb137) (o := .cells #[.int .i64 x138000_1] 23 (0, 0)) (by (with_reducible repeat (first | refine blk_drewN ?_ _ | refine blk_drew ?_ | refine blk_alloc ?_ _)); exact BK137.out) hb); have n1_ := Aside0.mk (below_step (by repeat (first | (with_reducible first | exact HB.out | apply below_alloc | apply pw_below_drewN | apply below_drew1 | refine below_set ?_ GE137.out) | exact HB.out)) hb); have n2_ := Aside0.mk (hbox); have n3_ := Aside0.mk ((by rw [hg]; exact (below_size (by repeat (first | (with_reducible first | exact HB.out | apply below_alloc | apply pw_below_drewN | apply below_drew1 | refine below_set ?_ GE137.out) | exact HB.out))) : w.heap.size ≤ gb143)); have n4_ := Aside0.mk ((by rw [hg]; exact (below_size (by repeat (first | (with_reducible first | exact HB.out | apply below_alloc | apply pw_below_drewN | apply below_drew1 | refine below_set ?_ GE137.out) | exact HB.out))) : w.heap.size ≤ gb143)); have n5_ := Aside0.mk ((by rw [hg]; exact Nat.ne_of_lt (blk_lt (g := gb137) (o := .cells #[.int .i64 x138000_1] 23 (0, 0)) (by (with_reducible repeat (first | refine blk_drewN ?_ _ | refine blk_drew ?_ | refine blk_alloc ?_ _)); exact BK137.out)) : gb137 ≠ gb143)); have n6_ := Aside0.mk ((by rw [hg]; exact Nat.ne_of_gt (blk_lt (g := gb137) (o := .cells #[.int .i64 x138000_1] 23 (0, 0)) (by (with_reducible repeat (first | refine blk_drewN ?_ _ | refine blk_drew ?_ | refine blk_alloc ?_ _)); exact BK137.out)) : gb143 ≠ gb137)); clear BK137; clear HB; have BK137 := n0_; have HB := n1_; have BK143 := n2_; have GW143 := n3_; have GE143 := n4_; have NB137_143 := n5_; have NB143_137 := n6_; clear n0_ n1_ n2_ n3_ n4_ n5_ n6_; clear hb hbox hg; have hnb34 := NB143_137.out; have hnc34 := NB137_143.out; have hcz35_0 : w33.cell? ⟨gb143, 0, none⟩ = some (.int .i64 0) := (blk_cell BK143.out 0).trans rfl; have hfz35_0 := blk_frozen BK143.out 0; have hcz36_0 : w33.cell? ⟨gb137, 0, none⟩ = some (.int .i64 x138000_1) := (blk_cell BK137.out 0).trans rfl; have hfz36_0 := blk_frozen BK137.out 0))
                  go_roundg k1
                  case measure => have := HK1.out; omega
                  case rel => exact ⟨(wrap64 (x11_1 + 1)), (t141), (by first | rfl | (simp; done) | (simp [*]; done)), H', ⟨by have := HK1.out; omega⟩, ⟨by (with_reducible repeat (first | refine blk_drewN ?_ _ | refine blk_drew ?_ | refine blk_alloc ?_ _)); refine blk_put (cs := #[.int .i64 x138000_1]) ?_ 0 _ rfl; (with_reducible repeat (first | refine blk_drewN ?_ _ | refine blk_drew ?_ | refine blk_alloc ?_ _)); refine blk_far ?_ NB137_143.out _; (with_reducible repeat (first | refine blk_drewN ?_ _ | refine blk_drew ?_ | refine blk_alloc ?_ _)); exact BK137.out⟩, ⟨by repeat (first | (with_reducible first | exact HB.out | apply below_alloc | apply pw_below_drewN | apply below_drew1 | refine below_set ?_ GE137.out | refine below_set ?_ GE143.out) | exact HB.out)⟩⟩
            · rw [if_neg c28] at H
              have c28b0 : decide (1 ≤ (wrap64 (x11_1 - (wrap64 ((Int.tmod (wrap64 (a2)) 200) + 1))))) = false := decide_eq_false c28
              clear c28
              by_cases c37 : (t142 != false) = true
              · rw [if_pos c37] at H
                exact absurd H (by simp)
              · rw [if_neg c37] at H
                have c37b0 : (t142 != false) = false := by simpa using c37
                (try (have c37b1 : decide (t142 = false) = true := by simpa using c37))
                (try (have c37b2 : (t142 == false) = true := by simpa using c37))
                clear c37
                have H' := Aside0.mk H
                clear H
                have hcz38_0 : wr.cell? ⟨gb137, 0, none⟩ = some (.int .i64 x138000_1) := (blk_cell BK137.out 0).trans rfl
                have hfz38_0 := blk_frozen BK137.out 0
                go_wp2_with (first | ((with_reducible refine gate_callee (f := 10) rfl ?_); refine goesL_ (some 40) rfl rfl Try.func10 (by kernel_rfl) rfl #[.agg #[.int .i64 x138000_1], .int .i64 (wrap64 ((wrap64 (a0)) + x11_1)), .int .i64 (wrap64 (1 + (Int.tmod (wrap64 (a1)) 50))), .bool true] rfl (by (try simp only [List.map_toArray, List.map_cons, List.map_nil]); first | done | rfl | (simp only [List.length_drop, List.length_take]; rfl)) ?_; (with_reducible refine (ask_Step.calls x138000_1 (wrap64 ((wrap64 (a0)) + x11_1)) (wrap64 (1 + (Int.tmod (wrap64 (a1)) 50))) true t141 t142 _ A26.out).mono ?_); rintro e w39 ⟨rfl, hb⟩; refine ⟨_, rfl, ?_⟩; have n0_ := Aside0.mk (blk_below (g := gb137) (o := .cells #[.int .i64 x138000_1] 23 (0, 0)) (by (with_reducible repeat (first | refine blk_drewN ?_ _ | refine blk_drew ?_ | refine blk_alloc ?_ _)); exact BK137.out) hb); have n1_ := Aside0.mk (below_step (by repeat (first | (with_reducible first | exact HB.out | apply below_alloc | apply pw_below_drewN | apply below_drew1 | refine below_set ?_ GE137.out) | exact HB.out)) hb); clear BK137; clear HB; have BK137 := n0_; have HB := n1_; clear n0_ n1_; (try clear hb); (try clear hb2); (try clear hk); (try clear hi)) | ((with_reducible refine gate_dst (N := 12) rfl ?_); refine box_event ?hg (N := 12) ?hd (cs := #[.int .i64 0]) (t := 23) ?hr ?_; (case hd => rfl); (case hg => rfl); (case hr => first | (go_simp; done) | (go_simp; rfl)); intro gb143 hg w40 hbox hb; have n0_ := Aside0.mk (blk_below (g := gb137) (o := .cells #[.int .i64 x138000_1] 23 (0, 0)) (by (with_reducible repeat (first | refine blk_drewN ?_ _ | refine blk_drew ?_ | refine blk_alloc ?_ _)); exact BK137.out) hb); have n1_ := Aside0.mk (below_step (by repeat (first | (with_reducible first | exact HB.out | apply below_alloc | apply pw_below_drewN | apply below_drew1 | refine below_set ?_ GE137.out) | exact HB.out)) hb); have n2_ := Aside0.mk (hbox); have n3_ := Aside0.mk ((by rw [hg]; exact (below_size (by repeat (first | (with_reducible first | exact HB.out | apply below_alloc | apply pw_below_drewN | apply below_drew1 | refine below_set ?_ GE137.out) | exact HB.out))) : w.heap.size ≤ gb143)); have n4_ := Aside0.mk ((by rw [hg]; exact (below_size (by repeat (first | (with_reducible first | exact HB.out | apply below_alloc | apply pw_below_drewN | apply below_drew1 | refine below_set ?_ GE137.out) | exact HB.out))) : w.heap.size ≤ gb143)); have n5_ := Aside0.mk ((by rw [hg]; exact Nat.ne_of_lt (blk_lt (g := gb137) (o := .cells #[.int .i64 x138000_1] 23 (0, 0)) (by (with_reducible repeat (first | refine blk_drewN ?_ _ | refine blk_drew ?_ | refine blk_alloc ?_ _)); exact BK137.out)) : gb137 ≠ gb143)); have n6_ := Aside0.mk ((by rw [hg]; exact Nat.ne_of_gt (blk_lt (g := gb137) (o := .cells #[.int .i64 x138000_1] 23 (0, 0)) (by (with_reducible repeat (first | refine blk_drewN ?_ _ | refine blk_drew ?_ | refine blk_alloc ?_ _)); exact BK137.out)) : gb143 ≠ gb137)); clear BK137; clear HB; have BK137 := n0_; have HB := n1_; have BK143 := n2_; have GW143 := n3_; have GE143 := n4_; have NB137_143 := n5_; have NB143_137 := n6_; clear n0_ n1_ n2_ n3_ n4_ n5_ n6_; clear hb hbox hg; have hnb41 := NB143_137.out; have hnc41 := NB137_143.out; have hcz42_0 : w40.cell? ⟨gb143, 0, none⟩ = some (.int .i64 0) := (blk_cell BK143.out 0).trans rfl; have hfz42_0 := blk_frozen BK143.out 0; have hcz43_0 : w40.cell? ⟨gb137, 0, none⟩ = some (.int .i64 x138000_1) := (blk_cell BK137.out 0).trans rfl; have hfz43_0 := blk_frozen BK137.out 0))
                go_roundg k1
                case measure => have := HK1.out; omega
                case rel => exact ⟨(wrap64 (x11_1 + 1)), (t141), (by first | rfl | (simp; done) | (simp [*]; done)), H', ⟨by have := HK1.out; omega⟩, ⟨by (with_reducible repeat (first | refine blk_drewN ?_ _ | refine blk_drew ?_ | refine blk_alloc ?_ _)); refine blk_put (cs := #[.int .i64 x138000_1]) ?_ 0 _ rfl; (with_reducible repeat (first | refine blk_drewN ?_ _ | refine blk_drew ?_ | refine blk_alloc ?_ _)); refine blk_far ?_ NB137_143.out _; (with_reducible repeat (first | refine blk_drewN ?_ _ | refine blk_drew ?_ | refine blk_alloc ?_ _)); exact BK137.out⟩, ⟨by repeat (first | (with_reducible first | exact HB.out | apply below_alloc | apply pw_below_drewN | apply below_drew1 | refine below_set ?_ GE137.out | refine below_set ?_ GE143.out) | exact HB.out)⟩⟩
          · rw [if_neg c27] at H
            have c27b0 : decide ((Int.tmod (wrap64 (a2)) 200) < x11_1) = false := decide_eq_false c27
            clear c27
            by_cases c44 : (wrap64 (x11_1)) ≥ 1
            · rw [if_pos c44] at H
              have c44b0 : decide (1 ≤ (wrap64 (x11_1))) = true := decide_eq_true c44
              clear c44
              by_cases c45 : (wrap64 (1 + (Int.tmod (wrap64 (a1)) 50))) = 0
              · rw [if_pos c45] at H
                exact absurd H (by simp)
              · rw [if_neg c45] at H
                have c45b0 : ((wrap64 (1 + (Int.tmod (wrap64 (a1)) 50))) == 0) = false := beq_eq_false_iff_ne.mpr c45
                have c45b1 : ((wrap64 (1 + (Int.tmod (wrap64 (a1)) 50))) != 0) = true := bne_iff_ne.mpr c45
                by_cases c46 : (t142 != ((Int.tmod (wrap64 ((wrap64 (x11_1)) - 1)) (wrap64 (1 + (Int.tmod (wrap64 (a1)) 50)))) == 0)) = true
                · rw [if_pos c46] at H
                  exact absurd H (by simp)
                · rw [if_neg c46] at H
                  have c46b0 : (t142 != ((Int.tmod (wrap64 ((wrap64 (x11_1)) - 1)) (wrap64 (1 + (Int.tmod (wrap64 (a1)) 50)))) == 0)) = false := by simpa using c46
                  (try (have c46b1 : decide (t142 = ((Int.tmod (wrap64 ((wrap64 (x11_1)) - 1)) (wrap64 (1 + (Int.tmod (wrap64 (a1)) 50)))) == 0)) = true := by simpa using c46))
                  (try (have c46b2 : (t142 == ((Int.tmod (wrap64 ((wrap64 (x11_1)) - 1)) (wrap64 (1 + (Int.tmod (wrap64 (a1)) 50)))) == 0)) = true := by simpa using c46))
                  clear c46
                  have H' := Aside0.mk H
                  clear H
                  have hcz47_0 : wr.cell? ⟨gb137, 0, none⟩ = some (.int .i64 x138000_1) := (blk_cell BK137.out 0).trans rfl
                  have hfz47_0 := blk_frozen BK137.out 0
                  go_wp2_with (first | ((with_reducible refine gate_callee (f := 10) rfl ?_); refine goesL_ (some 40) rfl rfl Try.func10 (by kernel_rfl) rfl #[.agg #[.int .i64 x138000_1], .int .i64 (wrap64 ((wrap64 (a0)) + x11_1)), .int .i64 (wrap64 (1 + (Int.tmod (wrap64 (a1)) 50))), .bool true] rfl (by (try simp only [List.map_toArray, List.map_cons, List.map_nil]); first | done | rfl | (simp only [List.length_drop, List.length_take]; rfl)) ?_; (with_reducible refine (ask_Step.calls x138000_1 (wrap64 ((wrap64 (a0)) + x11_1)) (wrap64 (1 + (Int.tmod (wrap64 (a1)) 50))) true t141 t142 _ A26.out).mono ?_); rintro e w48 ⟨rfl, hb⟩; refine ⟨_, rfl, ?_⟩; have n0_ := Aside0.mk (blk_below (g := gb137) (o := .cells #[.int .i64 x138000_1] 23 (0, 0)) (by (with_reducible repeat (first | refine blk_drewN ?_ _ | refine blk_drew ?_ | refine blk_alloc ?_ _)); exact BK137.out) hb); have n1_ := Aside0.mk (below_step (by repeat (first | (with_reducible first | exact HB.out | apply below_alloc | apply pw_below_drewN | apply below_drew1 | refine below_set ?_ GE137.out) | exact HB.out)) hb); clear BK137; clear HB; have BK137 := n0_; have HB := n1_; clear n0_ n1_; (try clear hb); (try clear hb2); (try clear hk); (try clear hi)) | ((with_reducible refine gate_dst (N := 12) rfl ?_); refine box_event ?hg (N := 12) ?hd (cs := #[.int .i64 0]) (t := 23) ?hr ?_; (case hd => rfl); (case hg => rfl); (case hr => first | (go_simp; done) | (go_simp; rfl)); intro gb143 hg w49 hbox hb; have n0_ := Aside0.mk (blk_below (g := gb137) (o := .cells #[.int .i64 x138000_1] 23 (0, 0)) (by (with_reducible repeat (first | refine blk_drewN ?_ _ | refine blk_drew ?_ | refine blk_alloc ?_ _)); exact BK137.out) hb); have n1_ := Aside0.mk (below_step (by repeat (first | (with_reducible first | exact HB.out | apply below_alloc | apply pw_below_drewN | apply below_drew1 | refine below_set ?_ GE137.out) | exact HB.out)) hb); have n2_ := Aside0.mk (hbox); have n3_ := Aside0.mk ((by rw [hg]; exact (below_size (by repeat (first | (with_reducible first | exact HB.out | apply below_alloc | apply pw_below_drewN | apply below_drew1 | refine below_set ?_ GE137.out) | exact HB.out))) : w.heap.size ≤ gb143)); have n4_ := Aside0.mk ((by rw [hg]; exact (below_size (by repeat (first | (with_reducible first | exact HB.out | apply below_alloc | apply pw_below_drewN | apply below_drew1 | refine below_set ?_ GE137.out) | exact HB.out))) : w.heap.size ≤ gb143)); have n5_ := Aside0.mk ((by rw [hg]; exact Nat.ne_of_lt (blk_lt (g := gb137) (o := .cells #[.int .i64 x138000_1] 23 (0, 0)) (by (with_reducible repeat (first | refine blk_drewN ?_ _ | refine blk_drew ?_ | refine blk_alloc ?_ _)); exact BK137.out)) : gb137 ≠ gb143)); have n6_ := Aside0.mk ((by rw [hg]; exact Nat.ne_of_gt (blk_lt (g := gb137) (o := .cells #[.int .i64 x138000_1] 23 (0, 0)) (by (with_reducible repeat (first | refine blk_drewN ?_ _ | refine blk_drew ?_ | refine blk_alloc ?_ _)); exact BK137.out)) : gb143 ≠ gb137)); clear BK137; clear HB; have BK137 := n0_; have HB := n1_; have BK143 := n2_; have GW143 := n3_; have GE143 := n4_; have NB137_143 := n5_; have NB143_137 := n6_; clear n0_ n1_ n2_ n3_ n4_ n5_ n6_; clear hb hbox hg; have hnb50 := NB143_137.out; have hnc50 := NB137_143.out; have hcz51_0 : w49.cell? ⟨gb143, 0, none⟩ = some (.int .i64 0) := (blk_cell BK143.out 0).trans rfl; have hfz51_0 := blk_frozen BK143.out 0; have hcz52_0 : w49.cell? ⟨gb137, 0, none⟩ = some (.int .i64 x138000_1) := (blk_cell BK137.out 0).trans rfl; have hfz52_0 := blk_frozen BK137.out 0))
                  go_roundg k1
                  case measure => have := HK1.out; omega
                  case rel => exact ⟨(wrap64 (x11_1 + 1)), (t141), (by first | rfl | (simp; done) | (simp [*]; done)), H', ⟨by have := HK1.out; omega⟩, ⟨by (with_reducible repeat (first | refine blk_drewN ?_ _ | refine blk_drew ?_ | refine blk_alloc ?_ _)); refine blk_put (cs := #[.int .i64 x138000_1]) ?_ 0 _ rfl; (with_reducible repeat (first | refine blk_drewN ?_ _ | refine blk_drew ?_ | refine blk_alloc ?_ _)); refine blk_far ?_ NB137_143.out _; (with_reducible repeat (first | refine blk_drewN ?_ _ | refine blk_drew ?_ | refine blk_alloc ?_ _)); exact BK137.out⟩, ⟨by repeat (first | (with_reducible first | exact HB.out | apply below_alloc | apply pw_below_drewN | apply below_drew1 | refine below_set ?_ GE137.out | refine below_set ?_ GE143.out) | exact HB.out)⟩⟩
            · rw [if_neg c44] at H
              have c44b0 : decide (1 ≤ (wrap64 (x11_1))) = false := decide_eq_false c44
              clear c44
              by_cases c53 : (t142 != false) = true
              · rw [if_pos c53] at H
                exact absurd H (by simp)
              · rw [if_neg c53] at H
                have c53b0 : (t142 != false) = false := by simpa using c53
                (try (have c53b1 : decide (t142 = false) = true := by simpa using c53))
                (try (have c53b2 : (t142 == false) = true := by simpa using c53))
                clear c53
                have H' := Aside0.mk H
                clear H
                have hcz54_0 : wr.cell? ⟨gb137, 0, none⟩ = some (.int .i64 x138000_1) := (blk_cell BK137.out 0).trans rfl
                have hfz54_0 := blk_frozen BK137.out 0
                go_wp2_with (first | ((with_reducible refine gate_callee (f := 10) rfl ?_); refine goesL_ (some 40) rfl rfl Try.func10 (by kernel_rfl) rfl #[.agg #[.int .i64 x138000_1], .int .i64 (wrap64 ((wrap64 (a0)) + x11_1)), .int .i64 (wrap64 (1 + (Int.tmod (wrap64 (a1)) 50))), .bool true] rfl (by (try simp only [List.map_toArray, List.map_cons, List.map_nil]); first | done | rfl | (simp only [List.length_drop, List.length_take]; rfl)) ?_; (with_reducible refine (ask_Step.calls x138000_1 (wrap64 ((wrap64 (a0)) + x11_1)) (wrap64 (1 + (Int.tmod (wrap64 (a1)) 50))) true t141 t142 _ A26.out).mono ?_); rintro e w55 ⟨rfl, hb⟩; refine ⟨_, rfl, ?_⟩; have n0_ := Aside0.mk (blk_below (g := gb137) (o := .cells #[.int .i64 x138000_1] 23 (0, 0)) (by (with_reducible repeat (first | refine blk_drewN ?_ _ | refine blk_drew ?_ | refine blk_alloc ?_ _)); exact BK137.out) hb); have n1_ := Aside0.mk (below_step (by repeat (first | (with_reducible first | exact HB.out | apply below_alloc | apply pw_below_drewN | apply below_drew1 | refine below_set ?_ GE137.out) | exact HB.out)) hb); clear BK137; clear HB; have BK137 := n0_; have HB := n1_; clear n0_ n1_; (try clear hb); (try clear hb2); (try clear hk); (try clear hi)) | ((with_reducible refine gate_dst (N := 12) rfl ?_); refine box_event ?hg (N := 12) ?hd (cs := #[.int .i64 0]) (t := 23) ?hr ?_; (case hd => rfl); (case hg => rfl); (case hr => first | (go_simp; done) | (go_simp; rfl)); intro gb143 hg w56 hbox hb; have n0_ := Aside0.mk (blk_below (g := gb137) (o := .cells #[.int .i64 x138000_1] 23 (0, 0)) (by (with_reducible repeat (first | refine blk_drewN ?_ _ | refine blk_drew ?_ | refine blk_alloc ?_ _)); exact BK137.out) hb); have n1_ := Aside0.mk (below_step (by repeat (first | (with_reducible first | exact HB.out | apply below_alloc | apply pw_below_drewN | apply below_drew1 | refine below_set ?_ GE137.out) | exact HB.out)) hb); have n2_ := Aside0.mk (hbox); have n3_ := Aside0.mk ((by rw [hg]; exact (below_size (by repeat (first | (with_reducible first | exact HB.out | apply below_alloc | apply pw_below_drewN | apply below_drew1 | refine below_set ?_ GE137.out) | exact HB.out))) : w.heap.size ≤ gb143)); have n4_ := Aside0.mk ((by rw [hg]; exact (below_size (by repeat (first | (with_reducible first | exact HB.out | apply below_alloc | apply pw_below_drewN | apply below_drew1 | refine below_set ?_ GE137.out) | exact HB.out))) : w.heap.size ≤ gb143)); have n5_ := Aside0.mk ((by rw [hg]; exact Nat.ne_of_lt (blk_lt (g := gb137) (o := .cells #[.int .i64 x138000_1] 23 (0, 0)) (by (with_reducible repeat (first | refine blk_drewN ?_ _ | refine blk_drew ?_ | refine blk_alloc ?_ _)); exact BK137.out)) : gb137 ≠ gb143)); have n6_ := Aside0.mk ((by rw [hg]; exact Nat.ne_of_gt (blk_lt (g := gb137) (o := .cells #[.int .i64 x138000_1] 23 (0, 0)) (by (with_reducible repeat (first | refine blk_drewN ?_ _ | refine blk_drew ?_ | refine blk_alloc ?_ _)); exact BK137.out)) : gb143 ≠ gb137)); clear BK137; clear HB; have BK137 := n0_; have HB := n1_; have BK143 := n2_; have GW143 := n3_; have GE143 := n4_; have NB137_143 := n5_; have NB143_137 := n6_; clear n0_ n1_ n2_ n3_ n4_ n5_ n6_; clear hb hbox hg; have hnb57 := NB143_137.out; have hnc57 := NB137_143.out; have hcz58_0 : w56.cell? ⟨gb143, 0, none⟩ = some (.int .i64 0) := (blk_cell BK143.out 0).trans rfl; have hfz58_0 := blk_frozen BK143.out 0; have hcz59_0 : w56.cell? ⟨gb137, 0, none⟩ = some (.int .i64 x138000_1) := (blk_cell BK137.out 0).trans rfl; have hfz59_0 := blk_frozen BK137.out 0))
                go_roundg k1
                case measure => have := HK1.out; omega
                case rel => exact ⟨(wrap64 (x11_1 + 1)), (t141), (by first | rfl | (simp; done) | (simp [*]; done)), H', ⟨by have := HK1.out; omega⟩, ⟨by (with_reducible repeat (first | refine blk_drewN ?_ _ | refine blk_drew ?_ | refine blk_alloc ?_ _)); refine blk_put (cs := #[.int .i64 x138000_1]) ?_ 0 _ rfl; (with_reducible repeat (first | refine blk_drewN ?_ _ | refine blk_drew ?_ | refine blk_alloc ?_ _)); refine blk_far ?_ NB137_143.out _; (with_reducible repeat (first | refine blk_drewN ?_ _ | refine blk_drew ?_ | refine blk_alloc ?_ _)); exact BK137.out⟩, ⟨by repeat (first | (with_reducible first | exact HB.out | apply below_alloc | apply pw_below_drewN | apply below_drew1 | refine below_set ?_ GE137.out | refine below_set ?_ GE143.out) | exact HB.out)⟩⟩
      · rw [if_neg c8] at H
        have c8b0 : decide (x11_1 < 200) = false := decide_eq_false c8
        clear c8
        obtain rfl := Option.some.inj H
        go_wp2
        go_ret
        exact ⟨by first | rfl | (simp [errW_none, errW_some] <;> rfl) | (simp [*, errW_none, errW_some] <;> rfl), by repeat (first | (with_reducible first | exact HB.out | apply below_alloc | apply pw_below_drewN | apply below_drew1 | refine below_set ?_ GE137.out) | exact HB.out)⟩

/-! ### precentorlaw10_AskHushed: function 5 -/
mutual
def precentorlaw10_AskHushed.l0 : Nat → Int → Bool → Int → Int → Int → Int → Int → Option (Bool)
  | 0, _, _, _, _, _, _, _ => none
  | k + 1, x0, x7, x8, x9, x11, x12, x146000 => if x12 < 120 then ((ask_Step.f x146000 (wrap64 ((wrap64 (x0)) + x12)) x8 true).bind fun bt147 => (if x12 > x9 then (if x11 < 0 then (precentorlaw10_AskHushed.j1 k x0 x7 x8 x9 x11 x12 bt147.2 bt147.1) else (precentorlaw10_AskHushed.j1 k x0 x7 x8 x9 x11 x12 false bt147.1)) else (precentorlaw10_AskHushed.j1 k x0 x7 x8 x9 x11 x12 false bt147.1))) else (if x7 = true then (if x11 = (wrap64 (x9 + x8)) then ((ask_Hush.f 0 (wrap64 (x0)) x8).bind fun t146 => (some (t146 == 0))) else (none)) else (none))
def precentorlaw10_AskHushed.j1 : Nat → Int → Bool → Int → Int → Int → Int → Bool → Int → Option (Bool)
  | 0, _, _, _, _, _, _, _, _ => none
  | k + 1, x0, x7, x8, x9, x11, x12, x49, x150000 => if x49 = true then (precentorlaw10_AskHushed.j2 k x0 x7 x8 x9 x12 x12 x150000) else (precentorlaw10_AskHushed.j2 k x0 x7 x8 x9 x11 x12 x150000)
def precentorlaw10_AskHushed.j2 : Nat → Int → Bool → Int → Int → Int → Int → Int → Option (Bool)
  | 0, _, _, _, _, _, _, _ => none
  | k + 1, x0, x7, x8, x9, x11, x12, x150000 => if x12 = x9 then ((ask_Hush.f x150000 (wrap64 ((wrap64 (x0)) + x12)) x8).bind fun t150 => (if t150 < x150000 then (none) else (precentorlaw10_AskHushed.l0 k x0 x7 x8 x9 x11 (wrap64 (x12 + 1)) t150))) else (precentorlaw10_AskHushed.l0 k x0 x7 x8 x9 x11 (wrap64 (x12 + 1)) x150000)
end
def precentorlaw10_AskHushed.f (k : Nat) (a0 : Int) (a1 : Int) (a2 : Int) : Option (Bool) := (precentorlaw10_shown.f).bind fun t144 => (precentorlaw10_AskHushed.l0 k a0 t144 (wrap64 (1 + (Int.tmod (wrap64 (a1)) 30))) (wrap64 (1 + (Int.tmod (wrap64 (a2)) 60))) (-1) 0 0)
theorem precentorlaw10_AskHushed.mono_l : ∀ k, (∀ y0 y1 y2 y3 y4 y5 y6, LeO (precentorlaw10_AskHushed.l0 k y0 y1 y2 y3 y4 y5 y6) (precentorlaw10_AskHushed.l0 (k + 1) y0 y1 y2 y3 y4 y5 y6)) ∧ (∀ y0 y1 y2 y3 y4 y5 y6 y7, LeO (precentorlaw10_AskHushed.j1 k y0 y1 y2 y3 y4 y5 y6 y7) (precentorlaw10_AskHushed.j1 (k + 1) y0 y1 y2 y3 y4 y5 y6 y7)) ∧ (∀ y0 y1 y2 y3 y4 y5 y6, LeO (precentorlaw10_AskHushed.j2 k y0 y1 y2 y3 y4 y5 y6) (precentorlaw10_AskHushed.j2 (k + 1) y0 y1 y2 y3 y4 y5 y6))
  | 0 => ⟨fun _ _ _ _ _ _ _ r h => by simp [precentorlaw10_AskHushed.l0] at h, fun _ _ _ _ _ _ _ _ r h => by simp [precentorlaw10_AskHushed.j1] at h, fun _ _ _ _ _ _ _ r h => by simp [precentorlaw10_AskHushed.j2] at h⟩
  | k + 1 => by
    obtain ⟨ih0, ih1, ih2⟩ := precentorlaw10_AskHushed.mono_l k
    refine ⟨?_, ?_, ?_⟩
    · intro y0 y1 y2 y3 y4 y5 y6
      unfold precentorlaw10_AskHushed.l0
      repeat' first
      | (with_reducible exact ih0 _ _ _ _ _ _ _)
      | (with_reducible exact ih1 _ _ _ _ _ _ _ _)
      | (with_reducible exact ih2 _ _ _ _ _ _ _)
      | (with_reducible exact LeO.refl _)
      | (with_reducible exact LeO.none _)
      | (with_reducible refine LeO.ite ?_ ?_)
      | (with_reducible refine LeO.bind ?_ (fun _ => ?_))
      | exact ih0 _ _ _ _ _ _ _
      | exact ih1 _ _ _ _ _ _ _ _
      | exact ih2 _ _ _ _ _ _ _
      | exact LeO.none _
      | refine LeO.ite ?_ ?_
      | refine LeO.bind ?_ (fun _ => ?_)
    · intro y0 y1 y2 y3 y4 y5 y6 y7
      unfold precentorlaw10_AskHushed.j1
      repeat' first
      | (with_reducible exact ih0 _ _ _ _ _ _ _)
      | (with_reducible exact ih1 _ _ _ _ _ _ _ _)
      | (with_reducible exact ih2 _ _ _ _ _ _ _)
      | (with_reducible exact LeO.refl _)
      | (with_reducible exact LeO.none _)
      | (with_reducible refine LeO.ite ?_ ?_)
      | (with_reducible refine LeO.bind ?_ (fun _ => ?_))
      | exact ih0 _ _ _ _ _ _ _
      | exact ih1 _ _ _ _ _ _ _ _
      | exact ih2 _ _ _ _ _ _ _
      | exact LeO.none _
      | refine LeO.ite ?_ ?_
      | refine LeO.bind ?_ (fun _ => ?_)
    · intro y0 y1 y2 y3 y4 y5 y6
      unfold precentorlaw10_AskHushed.j2
      repeat' first
      | (with_reducible exact ih0 _ _ _ _ _ _ _)
      | (with_reducible exact ih1 _ _ _ _ _ _ _ _)
      | (with_reducible exact ih2 _ _ _ _ _ _ _)
      | (with_reducible exact LeO.refl _)
      | (with_reducible exact LeO.none _)
      | (with_reducible refine LeO.ite ?_ ?_)
      | (with_reducible refine LeO.bind ?_ (fun _ => ?_))
      | exact ih0 _ _ _ _ _ _ _
      | exact ih1 _ _ _ _ _ _ _ _
      | exact ih2 _ _ _ _ _ _ _
      | exact LeO.none _
      | refine LeO.ite ?_ ?_
      | refine LeO.bind ?_ (fun _ => ?_)
theorem precentorlaw10_AskHushed.mono : ∀ a0 a1 a2 k, LeO (precentorlaw10_AskHushed.f k a0 a1 a2) (precentorlaw10_AskHushed.f (k + 1) a0 a1 a2) := by
  intro a0 a1 a2 k
  obtain ⟨ih0, ih1, ih2⟩ := precentorlaw10_AskHushed.mono_l k
  unfold precentorlaw10_AskHushed.f
  repeat' first
      | (with_reducible exact ih0 _ _ _ _ _ _ _)
      | (with_reducible exact ih1 _ _ _ _ _ _ _ _)
      | (with_reducible exact ih2 _ _ _ _ _ _ _)
      | (with_reducible exact LeO.refl _)
      | (with_reducible exact LeO.none _)
      | (with_reducible refine LeO.ite ?_ ?_)
      | (with_reducible refine LeO.bind ?_ (fun _ => ?_))
      | exact ih0 _ _ _ _ _ _ _
      | exact ih1 _ _ _ _ _ _ _ _
      | exact ih2 _ _ _ _ _ _ _
      | exact LeO.none _
      | refine LeO.ite ?_ ?_
      | refine LeO.bind ?_ (fun _ => ?_)
set_option maxHeartbeats 8000000 in
set_option maxRecDepth 100000 in
theorem precentorlaw10_AskHushed.calls (k : Nat) (a0 : Int) (a1 : Int) (a2 : Int) (r : Bool) (w : World) (h : precentorlaw10_AskHushed.f k a0 a1 a2 = some r) :
    Calls Try.prog 5 #[.int .u32 a0, .int .u8 a1, .int .u8 a2] w fun e w' => e = .returned (.bool r) ∧ Below w.heap.size w w' := by
  have hu23 := Try.underlying23
  have hfld23_0 : ∀ (x0_ : Value) (W_ : World), (Instr.field 23 (.agg #[x0_]) 0).run Try.prog W_ = .ok (x0_) W_ := fun _ _ => by kernel_rfl
  have HB := Aside0.mk (Below.refl w.heap.size w)
  have H : ((precentorlaw10_shown.f).bind fun t144 => (precentorlaw10_AskHushed.l0 k a0 t144 (wrap64 (1 + (Int.tmod (wrap64 (a1)) 30))) (wrap64 (1 + (Int.tmod (wrap64 (a2)) 60))) (-1) 0 0)) = some r := h
  clear h
  replace H := Option.bind_eq_some_iff.mp H
  obtain ⟨t144, A40, H⟩ := H
  replace H : (precentorlaw10_AskHushed.l0 k a0 t144 (wrap64 (1 + (Int.tmod (wrap64 (a1)) 30))) (wrap64 (1 + (Int.tmod (wrap64 (a2)) 60))) (-1) 0 0) = some r := H
  have A4 := Aside0.mk A40
  clear A40
  have H' := Aside0.mk H
  clear H
  go_enter Try.func5, Try.ntmps5
  go_wp2_with (first | ((with_reducible refine gate_callee (f := 8) rfl ?_); refine goesL_ (some 16) rfl rfl Try.func8 (by kernel_rfl) rfl #[] rfl (by (try simp only [List.map_toArray, List.map_cons, List.map_nil]); first | done | rfl | (simp only [List.length_drop, List.length_take]; rfl)) ?_; (with_reducible refine (precentorlaw10_shown.calls  t144 _ A4.out).mono ?_); rintro e w5 ⟨rfl, hb⟩; refine ⟨_, rfl, ?_⟩; have n0_ := Aside0.mk (below_step (by repeat (first | (with_reducible first | exact HB.out | apply below_alloc | apply pw_below_drewN | apply below_drew1) | exact HB.out)) hb); clear HB; have HB := n0_; clear n0_; (try clear hb); (try clear hb2); (try clear hk); (try clear hi)) | ((with_reducible refine gate_dst (N := 10) rfl ?_); refine box_event ?hg (N := 10) ?hd (cs := #[.int .i64 0]) (t := 23) ?hr ?_; (case hd => rfl); (case hg => rfl); (case hr => first | (go_simp; done) | (go_simp; rfl)); intro gb145 hg w6 hbox hb; have n0_ := Aside0.mk (below_step (by repeat (first | (with_reducible first | exact HB.out | apply below_alloc | apply pw_below_drewN | apply below_drew1) | exact HB.out)) hb); have n1_ := Aside0.mk (hbox); have n2_ := Aside0.mk ((by rw [hg]; exact (below_size (by repeat (first | (with_reducible first | exact HB.out | apply below_alloc | apply pw_below_drewN | apply below_drew1) | exact HB.out))) : w.heap.size ≤ gb145)); have n3_ := Aside0.mk ((by rw [hg]; exact (below_size (by repeat (first | (with_reducible first | exact HB.out | apply below_alloc | apply pw_below_drewN | apply below_drew1) | exact HB.out))) : w.heap.size ≤ gb145)); clear HB; have HB := n0_; have BK145 := n1_; have GW145 := n2_; have GE145 := n3_; clear n0_ n1_ n2_ n3_; clear hb hbox hg; have hcz7_0 : w6.cell? ⟨gb145, 0, none⟩ = some (.int .i64 0) := (blk_cell BK145.out 0).trans rfl; have hfz7_0 := blk_frozen BK145.out 0))
  go_loopg [11, 12] k (fun kq v11 v12 w' => ∃ (x11_1 : Int) (x12_1 : Int) (x146000_1 : Int), v11 = .int .i64 x11_1 ∧ v12 = .int .i64 x12_1 ∧ Aside0 (precentorlaw10_AskHushed.l0 kq a0 t144 (wrap64 (1 + (Int.tmod (wrap64 (a1)) 30))) (wrap64 (1 + (Int.tmod (wrap64 (a2)) 60))) x11_1 x12_1 x146000_1 = some r) ∧ Aside0 (kq ≤ k) ∧ Aside0 (w'.heap[gb145]? = some (.cells #[.int .i64 x146000_1] 23 (0, 0))) ∧ Aside0 (Below w.heap.size w w'))
  case atStart => exact ⟨((-1)), (0), (0), (by first | rfl | (simp; done) | (simp [*]; done)), (by first | rfl | (simp; done) | (simp [*]; done)), H', ⟨Nat.le_refl _⟩, ⟨by (with_reducible repeat (first | refine blk_drewN ?_ _ | refine blk_drew ?_ | refine blk_alloc ?_ _)); refine blk_put (cs := #[.int .i64 0]) ?_ 0 _ rfl; (with_reducible repeat (first | refine blk_drewN ?_ _ | refine blk_drew ?_ | refine blk_alloc ?_ _)); exact BK145.out⟩, ⟨by repeat (first | (with_reducible first | exact HB.out | apply below_alloc | apply pw_below_drewN | apply below_drew1 | refine below_set ?_ GE145.out) | exact HB.out)⟩⟩
  case round =>
    clear H'
    try clear p2
    try clear c5
    try clear p6
    try clear hcz7_0
    try clear hfz7_0
    obtain ⟨x11_1, x12_1, x146000_1, rfl, rfl, HA, HK1, BK145, HB⟩ := hrel
    cases gk with
    | zero => exact absurd HA.out (by simp [precentorlaw10_AskHushed.l0])
    | succ k1 =>
      have H := HA.out
      clear HA
      simp only [precentorlaw10_AskHushed.l0] at H
      by_cases c8 : x12_1 < 120
      · rw [if_pos c8] at H
        have c8b0 : decide (x12_1 < 120) = true := decide_eq_true c8
        clear c8
        replace H := Option.bind_eq_some_iff.mp H
        obtain ⟨⟨t147, t148⟩, A90, H⟩ := H
        replace H : (if x12_1 > (wrap64 (1 + (Int.tmod (wrap64 (a2)) 60))) then (if x11_1 < 0 then (precentorlaw10_AskHushed.j1 k1 a0 t144 (wrap64 (1 + (Int.tmod (wrap64 (a1)) 30))) (wrap64 (1 + (Int.tmod (wrap64 (a2)) 60))) x11_1 x12_1 t148 t147) else (precentorlaw10_AskHushed.j1 k1 a0 t144 (wrap64 (1 + (Int.tmod (wrap64 (a1)) 30))) (wrap64 (1 + (Int.tmod (wrap64 (a2)) 60))) x11_1 x12_1 false t147)) else (precentorlaw10_AskHushed.j1 k1 a0 t144 (wrap64 (1 + (Int.tmod (wrap64 (a1)) 30))) (wrap64 (1 + (Int.tmod (wrap64 (a2)) 60))) x11_1 x12_1 false t147)) = some r := H
        have A9 := Aside0.mk A90
        clear A90
        have HC10 := Aside0.mk H
        clear H
        have hcz11_0 : wr.cell? ⟨gb145, 0, none⟩ = some (.int .i64 x146000_1) := (blk_cell BK145.out 0).trans rfl
        have hfz11_0 := blk_frozen BK145.out 0
        go_upto_region 10 with (first | ((with_reducible refine gate_callee (f := 10) rfl ?_); refine goesL_ (some 37) rfl rfl Try.func10 (by kernel_rfl) rfl #[.agg #[.int .i64 x146000_1], .int .i64 (wrap64 ((wrap64 (a0)) + x12_1)), .int .i64 (wrap64 (1 + (Int.tmod (wrap64 (a1)) 30))), .bool true] rfl (by (try simp only [List.map_toArray, List.map_cons, List.map_nil]); first | done | rfl | (simp only [List.length_drop, List.length_take]; rfl)) ?_; (with_reducible refine (ask_Step.calls x146000_1 (wrap64 ((wrap64 (a0)) + x12_1)) (wrap64 (1 + (Int.tmod (wrap64 (a1)) 30))) true t147 t148 _ A9.out).mono ?_); rintro e w12 ⟨rfl, hb⟩; refine ⟨_, rfl, ?_⟩; have n0_ := Aside0.mk (blk_below (g := gb145) (o := .cells #[.int .i64 x146000_1] 23 (0, 0)) (by (with_reducible repeat (first | refine blk_drewN ?_ _ | refine blk_drew ?_ | refine blk_alloc ?_ _)); exact BK145.out) hb); have n1_ := Aside0.mk (below_step (by repeat (first | (with_reducible first | exact HB.out | apply below_alloc | apply pw_below_drewN | apply below_drew1 | refine below_set ?_ GE145.out) | exact HB.out)) hb); clear BK145; clear HB; have BK145 := n0_; have HB := n1_; clear n0_ n1_; (try clear hb); (try clear hb2); (try clear hk); (try clear hi)) | ((with_reducible refine gate_dst (N := 13) rfl ?_); refine box_event ?hg (N := 13) ?hd (cs := #[.int .i64 0]) (t := 23) ?hr ?_; (case hd => rfl); (case hg => rfl); (case hr => first | (go_simp; done) | (go_simp; rfl)); intro gb149 hg w13 hbox hb; have n0_ := Aside0.mk (blk_below (g := gb145) (o := .cells #[.int .i64 x146000_1] 23 (0, 0)) (by (with_reducible repeat (first | refine blk_drewN ?_ _ | refine blk_drew ?_ | refine blk_alloc ?_ _)); exact BK145.out) hb); have n1_ := Aside0.mk (below_step (by repeat (first | (with_reducible first | exact HB.out | apply below_alloc | apply pw_below_drewN | apply below_drew1 | refine below_set ?_ GE145.out) | exact HB.out)) hb); have n2_ := Aside0.mk (hbox); have n3_ := Aside0.mk ((by rw [hg]; exact (below_size (by repeat (first | (with_reducible first | exact HB.out | apply below_alloc | apply pw_below_drewN | apply below_drew1 | refine below_set ?_ GE145.out) | exact HB.out))) : w.heap.size ≤ gb149)); have n4_ := Aside0.mk ((by rw [hg]; exact (below_size (by repeat (first | (with_reducible first | exact HB.out | apply below_alloc | apply pw_below_drewN | apply below_drew1 | refine below_set ?_ GE145.out) | exact HB.out))) : w.heap.size ≤ gb149)); have n5_ := Aside0.mk ((by rw [hg]; exact Nat.ne_of_lt (blk_lt (g := gb145) (o := .cells #[.int .i64 x146000_1] 23 (0, 0)) (by (with_reducible repeat (first | refine blk_drewN ?_ _ | refine blk_drew ?_ | refine blk_alloc ?_ _)); exact BK145.out)) : gb145 ≠ gb149)); have n6_ := Aside0.mk ((by rw [hg]; exact Nat.ne_of_gt (blk_lt (g := gb145) (o := .cells #[.int .i64 x146000_1] 23 (0, 0)) (by (with_reducible repeat (first | refine blk_drewN ?_ _ | refine blk_drew ?_ | refine blk_alloc ?_ _)); exact BK145.out)) : gb149 ≠ gb145)); clear BK145; clear HB; have BK145 := n0_; have HB := n1_; have BK149 := n2_; have GW149 := n3_; have GE149 := n4_; have NB145_149 := n5_; have NB149_145 := n6_; clear n0_ n1_ n2_ n3_ n4_ n5_ n6_; clear hb hbox hg; have hnb14 := NB149_145.out; have hnc14 := NB145_149.out; have hcz15_0 : w13.cell? ⟨gb149, 0, none⟩ = some (.int .i64 0) := (blk_cell BK149.out 0).trans rfl; have hfz15_0 := blk_frozen BK149.out 0))
        (try simp only [Act.put, List.setIfInBounds_toArray, List.set_cons_zero, List.set_cons_succ])
        go_cut [49] (fun v49 wc => ∃ (kq : Nat) (x49_9 : Bool), v49 = .bool x49_9 ∧ Aside0 (precentorlaw10_AskHushed.j1 kq a0 t144 (wrap64 (1 + (Int.tmod (wrap64 (a1)) 30))) (wrap64 (1 + (Int.tmod (wrap64 (a2)) 60))) x11_1 x12_1 x49_9 t147 = some r) ∧ Aside0 (kq ≤ k1) ∧ Aside0 (wc.heap[gb145]? = some (.cells #[.int .i64 x146000_1] 23 (0, 0))) ∧ Aside0 (wc.heap[gb149]? = some (.cells #[.int .i64 t147] 23 (0, 0))) ∧ Aside0 (Below w.heap.size w wc))
        case first =>
          have H := HC10.out
          clear HC10
          by_cases c16 : x12_1 > (wrap64 (1 + (Int.tmod (wrap64 (a2)) 60)))
          · rw [if_pos c16] at H
            have c16b0 : decide ((wrap64 (1 + (Int.tmod (wrap64 (a2)) 60))) < x12_1) = true := decide_eq_true c16
            clear c16
            (first | rw [c16b0] | (simp only [i64_w, i32_w]; rw [c16b0]) | skip)
            by_cases c17 : x11_1 < 0
            · rw [if_pos c17] at H
              have c17b0 : decide (x11_1 < 0) = true := decide_eq_true c17
              clear c17
              have H' := Aside0.mk H
              clear H
              go_wp2
              go_meet
              case rel => exact ⟨_, (t148), (by first | rfl | (simp; done) | (simp [*]; done)), H', ⟨by have := HK1.out; first | omega | exact Nat.le_refl _⟩, ⟨by (with_reducible repeat (first | refine blk_drewN ?_ _ | refine blk_drew ?_ | refine blk_alloc ?_ _)); refine blk_far ?_ NB145_149.out _; (with_reducible repeat (first | refine blk_drewN ?_ _ | refine blk_drew ?_ | refine blk_alloc ?_ _)); exact BK145.out⟩, ⟨by (with_reducible repeat (first | refine blk_drewN ?_ _ | refine blk_drew ?_ | refine blk_alloc ?_ _)); refine blk_put (cs := #[.int .i64 0]) ?_ 0 _ rfl; (with_reducible repeat (first | refine blk_drewN ?_ _ | refine blk_drew ?_ | refine blk_alloc ?_ _)); exact BK149.out⟩, ⟨by repeat (first | (with_reducible first | exact HB.out | apply below_alloc | apply pw_below_drewN | apply below_drew1 | refine below_set ?_ GE145.out | refine below_set ?_ GE149.out) | exact HB.out)⟩⟩
            · rw [if_neg c17] at H
              have c17b0 : decide (x11_1 < 0) = false := decide_eq_false c17
              clear c17
              have H' := Aside0.mk H
              clear H
              go_wp2
              go_meet
              case rel => exact ⟨_, (false), (by first | rfl | (simp; done) | (simp [*]; done)), H', ⟨by have := HK1.out; first | omega | exact Nat.le_refl _⟩, ⟨by (with_reducible repeat (first | refine blk_drewN ?_ _ | refine blk_drew ?_ | refine blk_alloc ?_ _)); refine blk_far ?_ NB145_149.out _; (with_reducible repeat (first | refine blk_drewN ?_ _ | refine blk_drew ?_ | refine blk_alloc ?_ _)); exact BK145.out⟩, ⟨by (with_reducible repeat (first | refine blk_drewN ?_ _ | refine blk_drew ?_ | refine blk_alloc ?_ _)); refine blk_put (cs := #[.int .i64 0]) ?_ 0 _ rfl; (with_reducible repeat (first | refine blk_drewN ?_ _ | refine blk_drew ?_ | refine blk_alloc ?_ _)); exact BK149.out⟩, ⟨by repeat (first | (with_reducible first | exact HB.out | apply below_alloc | apply pw_below_drewN | apply below_drew1 | refine below_set ?_ GE145.out | refine below_set ?_ GE149.out) | exact HB.out)⟩⟩
          · rw [if_neg c16] at H
            have c16b0 : decide ((wrap64 (1 + (Int.tmod (wrap64 (a2)) 60))) < x12_1) = false := decide_eq_false c16
            clear c16
            (first | rw [c16b0] | (simp only [i64_w, i32_w]; rw [c16b0]) | skip)
            have H' := Aside0.mk H
            clear H
            go_wp2
            go_meet
            case rel => exact ⟨_, (false), (by first | rfl | (simp; done) | (simp [*]; done)), H', ⟨by have := HK1.out; first | omega | exact Nat.le_refl _⟩, ⟨by (with_reducible repeat (first | refine blk_drewN ?_ _ | refine blk_drew ?_ | refine blk_alloc ?_ _)); refine blk_far ?_ NB145_149.out _; (with_reducible repeat (first | refine blk_drewN ?_ _ | refine blk_drew ?_ | refine blk_alloc ?_ _)); exact BK145.out⟩, ⟨by (with_reducible repeat (first | refine blk_drewN ?_ _ | refine blk_drew ?_ | refine blk_alloc ?_ _)); refine blk_put (cs := #[.int .i64 0]) ?_ 0 _ rfl; (with_reducible repeat (first | refine blk_drewN ?_ _ | refine blk_drew ?_ | refine blk_alloc ?_ _)); exact BK149.out⟩, ⟨by repeat (first | (with_reducible first | exact HB.out | apply below_alloc | apply pw_below_drewN | apply below_drew1 | refine below_set ?_ GE145.out | refine below_set ?_ GE149.out) | exact HB.out)⟩⟩
        case rest =>
          clear HC10
          try clear c1
          try clear p2
          try clear c5
          try clear p6
          try clear c8
          try clear c8b0
          try clear c10
          try clear c14
          try clear c16
          try clear c16b0
          try clear c17
          try clear c17b0
          try clear hcz11_0
          try clear hcz15_0
          try clear hcz7_0
          try clear hfz11_0
          try clear hfz15_0
          try clear hfz7_0
          try clear p2
          try clear p6
          obtain ⟨kq, x49_9, rfl, HA, HJ9, BK145, BK149, HB⟩ := hcut
          cases kq with
          | zero => exact absurd HA.out (by simp [precentorlaw10_AskHushed.j1])
          | succ kj9 =>
            have H := HA.out
            clear HA
            simp only [precentorlaw10_AskHushed.j1] at H
            have HC18 := Aside0.mk H
            clear H
            go_upto_if 49 with (fail)
            go_cut [11] (fun v11 wc => ∃ (kq : Nat) (x11_17 : Int), v11 = .int .i64 x11_17 ∧ Aside0 (precentorlaw10_AskHushed.j2 kq a0 t144 (wrap64 (1 + (Int.tmod (wrap64 (a1)) 30))) (wrap64 (1 + (Int.tmod (wrap64 (a2)) 60))) x11_17 x12_1 t147 = some r) ∧ Aside0 (kq ≤ kj9) ∧ Aside0 (wc.heap[gb145]? = some (.cells #[.int .i64 x146000_1] 23 (0, 0))) ∧ Aside0 (wc.heap[gb149]? = some (.cells #[.int .i64 t147] 23 (0, 0))) ∧ Aside0 (Below w.heap.size w wc))
            case first =>
              have H := HC18.out
              clear HC18
              by_cases c19 : x49_9 = true
              · subst c19
                have H1 : (precentorlaw10_AskHushed.j2 kj9 a0 t144 (wrap64 (1 + (Int.tmod (wrap64 (a1)) 30))) (wrap64 (1 + (Int.tmod (wrap64 (a2)) 60))) x12_1 x12_1 t147) = some r := by rw [if_pos rfl] at H; exact H
                clear H
                have H := H1
                clear H1
                have H' := Aside0.mk H
                clear H
                go_wp2
                go_meet
                case rel => exact ⟨_, (x12_1), (by first | rfl | (simp; done) | (simp [*]; done)), H', ⟨by have := HK1.out; have := HJ9.out; first | omega | exact Nat.le_refl _⟩, ⟨by (with_reducible repeat (first | refine blk_drewN ?_ _ | refine blk_drew ?_ | refine blk_alloc ?_ _)); exact BK145.out⟩, ⟨by (with_reducible repeat (first | refine blk_drewN ?_ _ | refine blk_drew ?_ | refine blk_alloc ?_ _)); exact BK149.out⟩, ⟨by repeat (first | (with_reducible first | exact HB.out | apply below_alloc | apply pw_below_drewN | apply below_drew1 | refine below_set ?_ GE145.out | refine below_set ?_ GE149.out) | exact HB.out)⟩⟩
              · replace c19 := Bool.eq_false_iff.mpr c19
                subst c19
                have H1 : (precentorlaw10_AskHushed.j2 kj9 a0 t144 (wrap64 (1 + (Int.tmod (wrap64 (a1)) 30))) (wrap64 (1 + (Int.tmod (wrap64 (a2)) 60))) x11_1 x12_1 t147) = some r := by rw [if_neg (show ¬ (false = true) by decide)] at H; exact H
                clear H
                have H := H1
                clear H1
                have H' := Aside0.mk H
                clear H
                go_wp2
                go_meet
                case rel => exact ⟨_, (x11_1), (by first | rfl | (simp; done) | (simp [*]; done)), H', ⟨by have := HK1.out; have := HJ9.out; first | omega | exact Nat.le_refl _⟩, ⟨by (with_reducible repeat (first | refine blk_drewN ?_ _ | refine blk_drew ?_ | refine blk_alloc ?_ _)); exact BK145.out⟩, ⟨by (with_reducible repeat (first | refine blk_drewN ?_ _ | refine blk_drew ?_ | refine blk_alloc ?_ _)); exact BK149.out⟩, ⟨by repeat (first | (with_reducible first | exact HB.out | apply below_alloc | apply pw_below_drewN | apply below_drew1 | refine below_set ?_ GE145.out | refine below_set ?_ GE149.out) | exact HB.out)⟩⟩
            case rest =>
              clear HC18
              try clear c1
              try clear p2
              try clear c5
              try clear p6
              try clear c8
              try clear c8b0
              try clear c10
              try clear c14
              try clear c16
              try clear c16b0
              try clear c17
              try clear c17b0
              try clear c19
              try clear hcz11_0
              try clear hcz15_0
              try clear hcz7_0
              try clear hfz11_0
              try clear hfz15_0
              try clear hfz7_0
              try clear p2
              try clear p6
              obtain ⟨kq, x11_17, rfl, HA, HJ17, BK145, BK149, HB⟩ := hcut
              cases kq with
              | zero => exact absurd HA.out (by simp [precentorlaw10_AskHushed.j2])
              | succ kj17 =>
                have H := HA.out
                clear HA
                simp only [precentorlaw10_AskHushed.j2] at H
                by_cases c20 : x12_1 = (wrap64 (1 + (Int.tmod (wrap64 (a2)) 60)))
                · rw [if_pos c20] at H
                  have c20b0 : (x12_1 == (wrap64 (1 + (Int.tmod (wrap64 (a2)) 60)))) = true := beq_iff_eq.mpr c20
                  have c20b1 : (x12_1 != (wrap64 (1 + (Int.tmod (wrap64 (a2)) 60)))) = false := bne_eq_false_iff_eq.mpr c20
                  clear c20
                  replace H := Option.bind_eq_some_iff.mp H
                  obtain ⟨t150, A210, H⟩ := H
                  replace H : (if t150 < t147 then (none) else (precentorlaw10_AskHushed.l0 kj17 a0 t144 (wrap64 (1 + (Int.tmod (wrap64 (a1)) 30))) (wrap64 (1 + (Int.tmod (wrap64 (a2)) 60))) x11_17 (wrap64 (x12_1 + 1)) t150)) = some r := H
                  have A21 := Aside0.mk A210
                  clear A210
                  by_cases c22 : t150 < t147
                  · rw [if_pos c22] at H
                    exact absurd H (by simp)
                  · rw [if_neg c22] at H
                    have c22b0 : decide (t150 < t147) = false := decide_eq_false c22
                    clear c22
                    have H' := Aside0.mk H
                    clear H
                    have hnb23 := NB149_145.out
                    have hnc23 := NB145_149.out
                    have hcz24_0 : wc.cell? ⟨gb149, 0, none⟩ = some (.int .i64 t147) := (blk_cell BK149.out 0).trans rfl
                    have hfz24_0 := blk_frozen BK149.out 0
                    have hcz25_0 : wc.cell? ⟨gb145, 0, none⟩ = some (.int .i64 x146000_1) := (blk_cell BK145.out 0).trans rfl
                    have hfz25_0 := blk_frozen BK145.out 0
                    go_wp2_with (first | ((with_reducible refine gate_callee (f := 12) rfl ?_); refine goesL_ (some 61) rfl rfl Try.func12 (by kernel_rfl) rfl #[.agg #[.int .i64 t147], .int .i64 (wrap64 ((wrap64 (a0)) + x12_1)), .int .i64 (wrap64 (1 + (Int.tmod (wrap64 (a1)) 30)))] rfl (by (try simp only [List.map_toArray, List.map_cons, List.map_nil]); first | done | rfl | (simp only [List.length_drop, List.length_take]; rfl)) ?_; (with_reducible refine (ask_Hush.calls t147 (wrap64 ((wrap64 (a0)) + x12_1)) (wrap64 (1 + (Int.tmod (wrap64 (a1)) 30))) t150 _ A21.out).mono ?_); rintro e w26 ⟨rfl, hb⟩; refine ⟨_, rfl, ?_⟩; have n0_ := Aside0.mk (blk_below (g := gb145) (o := .cells #[.int .i64 t147] 23 (0, 0)) (by (with_reducible repeat (first | refine blk_drewN ?_ _ | refine blk_drew ?_ | refine blk_alloc ?_ _)); refine blk_put (cs := #[.int .i64 x146000_1]) ?_ 0 _ rfl; (with_reducible repeat (first | refine blk_drewN ?_ _ | refine blk_drew ?_ | refine blk_alloc ?_ _)); exact BK145.out) hb); have n1_ := Aside0.mk (blk_below (g := gb149) (o := .cells #[.int .i64 t147] 23 (0, 0)) (by (with_reducible repeat (first | refine blk_drewN ?_ _ | refine blk_drew ?_ | refine blk_alloc ?_ _)); refine blk_far ?_ NB149_145.out _; (with_reducible repeat (first | refine blk_drewN ?_ _ | refine blk_drew ?_ | refine blk_alloc ?_ _)); exact BK149.out) hb); have n2_ := Aside0.mk (below_step (by repeat (first | (with_reducible first | exact HB.out | apply below_alloc | apply pw_below_drewN | apply below_drew1 | refine below_set ?_ GE145.out | refine below_set ?_ GE149.out) | exact HB.out)) hb); clear BK145; clear BK149; clear HB; have BK145 := n0_; have BK149 := n1_; have HB := n2_; clear n0_ n1_ n2_; (try clear hb); (try clear hb2); (try clear hk); (try clear hi)) | ((with_reducible refine gate_dst (N := 15) rfl ?_); refine box_event ?hg (N := 15) ?hd (cs := #[.int .i64 0]) (t := 23) ?hr ?_; (case hd => rfl); (case hg => rfl); (case hr => first | (go_simp; done) | (go_simp; rfl)); intro gb151 hg w27 hbox hb; have n0_ := Aside0.mk (blk_below (g := gb145) (o := .cells #[.int .i64 t147] 23 (0, 0)) (by (with_reducible repeat (first | refine blk_drewN ?_ _ | refine blk_drew ?_ | refine blk_alloc ?_ _)); exact BK145.out) hb); have n1_ := Aside0.mk (blk_below (g := gb149) (o := .cells #[.int .i64 t147] 23 (0, 0)) (by (with_reducible repeat (first | refine blk_drewN ?_ _ | refine blk_drew ?_ | refine blk_alloc ?_ _)); exact BK149.out) hb); have n2_ := Aside0.mk (below_step (by repeat (first | (with_reducible first | exact HB.out | apply below_alloc | apply pw_below_drewN | apply below_drew1 | refine below_set ?_ GE145.out | refine below_set ?_ GE149.out) | exact HB.out)) hb); have n3_ := Aside0.mk (hbox); have n4_ := Aside0.mk ((by rw [hg]; exact (below_size (by repeat (first | (with_reducible first | exact HB.out | apply below_alloc | apply pw_below_drewN | apply below_drew1 | refine below_set ?_ GE145.out | refine below_set ?_ GE149.out) | exact HB.out))) : w.heap.size ≤ gb151)); have n5_ := Aside0.mk ((by rw [hg]; exact (below_size (by repeat (first | (with_reducible first | exact HB.out | apply below_alloc | apply pw_below_drewN | apply below_drew1 | refine below_set ?_ GE145.out | refine below_set ?_ GE149.out) | exact HB.out))) : w.heap.size ≤ gb151)); have n6_ := Aside0.mk ((by rw [hg]; exact Nat.ne_of_lt (blk_lt (g := gb145) (o := .cells #[.int .i64 t147] 23 (0, 0)) (by (with_reducible repeat (first | refine blk_drewN ?_ _ | refine blk_drew ?_ | refine blk_alloc ?_ _)); exact BK145.out)) : gb145 ≠ gb151)); have n7_ := Aside0.mk ((by rw [hg]; exact Nat.ne_of_gt (blk_lt (g := gb145) (o := .cells #[.int .i64 t147] 23 (0, 0)) (by (with_reducible repeat (first | refine blk_drewN ?_ _ | refine blk_drew ?_ | refine blk_alloc ?_ _)); exact BK145.out)) : gb151 ≠ gb145)); have n8_ := Aside0.mk ((by rw [hg]; exact Nat.ne_of_lt (blk_lt (g := gb149) (o := .cells #[.int .i64 t147] 23 (0, 0)) (by (with_reducible repeat (first | refine blk_drewN ?_ _ | refine blk_drew ?_ | refine blk_alloc ?_ _)); exact BK149.out)) : gb149 ≠ gb151)); have n9_ := Aside0.mk ((by rw [hg]; exact Nat.ne_of_gt (blk_lt (g := gb149) (o := .cells #[.int .i64 t147] 23 (0, 0)) (by (with_reducible repeat (first | refine blk_drewN ?_ _ | refine blk_drew ?_ | refine blk_alloc ?_ _)); exact BK149.out)) : gb151 ≠ gb149)); clear BK145; clear BK149; clear HB; have BK145 := n0_; have BK149 := n1_; have HB := n2_; have BK151 := n3_; have GW151 := n4_; have GE151 := n5_; have NB145_151 := n6_; have NB151_145 := n7_; have NB149_151 := n8_; have NB151_149 := n9_; clear n0_ n1_ n2_ n3_ n4_ n5_ n6_ n7_ n8_ n9_; clear hb hbox hg; have hnb28 := NB151_145.out; have hnc28 := NB145_151.out; have hnb29 := NB151_149.out; have hnc29 := NB149_151.out; have hcz30_0 : w27.cell? ⟨gb151, 0, none⟩ = some (.int .i64 0) := (blk_cell BK151.out 0).trans rfl; have hfz30_0 := blk_frozen BK151.out 0; have hcz31_0 : w27.cell? ⟨gb145, 0, none⟩ = some (.int .i64 t147) := (blk_cell BK145.out 0).trans rfl; have hfz31_0 := blk_frozen BK145.out 0))
                    go_roundg kj17
                    case measure => have := HK1.out; have := HJ9.out; have := HJ17.out; omega
                    case rel => exact ⟨(x11_17), (wrap64 (x12_1 + 1)), (t150), (by first | rfl | (simp; done) | (simp [*]; done)), (by first | rfl | (simp; done) | (simp [*]; done)), H', ⟨by have := HK1.out; have := HJ9.out; have := HJ17.out; omega⟩, ⟨by (with_reducible repeat (first | refine blk_drewN ?_ _ | refine blk_drew ?_ | refine blk_alloc ?_ _)); refine blk_put (cs := #[.int .i64 t147]) ?_ 0 _ rfl; (with_reducible repeat (first | refine blk_drewN ?_ _ | refine blk_drew ?_ | refine blk_alloc ?_ _)); refine blk_far ?_ NB145_151.out _; (with_reducible repeat (first | refine blk_drewN ?_ _ | refine blk_drew ?_ | refine blk_alloc ?_ _)); exact BK145.out⟩, ⟨by repeat (first | (with_reducible first | exact HB.out | apply below_alloc | apply pw_below_drewN | apply below_drew1 | refine below_set ?_ GE145.out | refine below_set ?_ GE149.out | refine below_set ?_ GE151.out) | exact HB.out)⟩⟩
                · rw [if_neg c20] at H
                  have c20b0 : (x12_1 == (wrap64 (1 + (Int.tmod (wrap64 (a2)) 60)))) = false := beq_eq_false_iff_ne.mpr c20
                  have c20b1 : (x12_1 != (wrap64 (1 + (Int.tmod (wrap64 (a2)) 60)))) = true := bne_iff_ne.mpr c20
                  have H' := Aside0.mk H
                  clear H
                  have hnb32 := NB149_145.out
                  have hnc32 := NB145_149.out
                  have hcz33_0 : wc.cell? ⟨gb149, 0, none⟩ = some (.int .i64 t147) := (blk_cell BK149.out 0).trans rfl
                  have hfz33_0 := blk_frozen BK149.out 0
                  have hcz34_0 : wc.cell? ⟨gb145, 0, none⟩ = some (.int .i64 x146000_1) := (blk_cell BK145.out 0).trans rfl
                  have hfz34_0 := blk_frozen BK145.out 0
                  go_wp2
                  go_roundg kj17
                  case measure => have := HK1.out; have := HJ9.out; have := HJ17.out; omega
                  case rel => exact ⟨(x11_17), (wrap64 (x12_1 + 1)), (t147), (by first | rfl | (simp; done) | (simp [*]; done)), (by first | rfl | (simp; done) | (simp [*]; done)), H', ⟨by have := HK1.out; have := HJ9.out; have := HJ17.out; omega⟩, ⟨by (with_reducible repeat (first | refine blk_drewN ?_ _ | refine blk_drew ?_ | refine blk_alloc ?_ _)); refine blk_put (cs := #[.int .i64 x146000_1]) ?_ 0 _ rfl; (with_reducible repeat (first | refine blk_drewN ?_ _ | refine blk_drew ?_ | refine blk_alloc ?_ _)); exact BK145.out⟩, ⟨by repeat (first | (with_reducible first | exact HB.out | apply below_alloc | apply pw_below_drewN | apply below_drew1 | refine below_set ?_ GE145.out | refine below_set ?_ GE149.out) | exact HB.out)⟩⟩
      · rw [if_neg c8] at H
        have c8b0 : decide (x12_1 < 120) = false := decide_eq_false c8
        clear c8
        by_cases c35 : t144 = true
        · subst c35
          have H1 : (if x11_1 = (wrap64 ((wrap64 (1 + (Int.tmod (wrap64 (a2)) 60))) + (wrap64 (1 + (Int.tmod (wrap64 (a1)) 30))))) then ((ask_Hush.f 0 (wrap64 (a0)) (wrap64 (1 + (Int.tmod (wrap64 (a1)) 30)))).bind fun t146 => (some (t146 == 0))) else (none)) = some r := by rw [if_pos rfl] at H; exact H
          clear H
          have H := H1
          clear H1
          by_cases c36 : x11_1 = (wrap64 ((wrap64 (1 + (Int.tmod (wrap64 (a2)) 60))) + (wrap64 (1 + (Int.tmod (wrap64 (a1)) 30)))))
          · rw [if_pos c36] at H
            have c36b0 : (x11_1 == (wrap64 ((wrap64 (1 + (Int.tmod (wrap64 (a2)) 60))) + (wrap64 (1 + (Int.tmod (wrap64 (a1)) 30)))))) = true := beq_iff_eq.mpr c36
            have c36b1 : (x11_1 != (wrap64 ((wrap64 (1 + (Int.tmod (wrap64 (a2)) 60))) + (wrap64 (1 + (Int.tmod (wrap64 (a1)) 30)))))) = false := bne_eq_false_iff_eq.mpr c36
            clear c36
            replace H := Option.bind_eq_some_iff.mp H
            obtain ⟨t146, A370, H⟩ := H
            replace H : (some (t146 == 0)) = some r := H
            have A37 := Aside0.mk A370
            clear A370
            obtain rfl := Option.some.inj H
            go_wp2_with (first | (go_at_call 12; (with_reducible refine (ask_Hush.calls 0 (wrap64 (a0)) (wrap64 (1 + (Int.tmod (wrap64 (a1)) 30))) t146 _ A37.out).mono ?_); rintro e w38 ⟨rfl, hb⟩; have n0_ := Aside0.mk (blk_below (g := gb145) (o := .cells #[.int .i64 x146000_1] 23 (0, 0)) (by (with_reducible repeat (first | refine blk_drewN ?_ _ | refine blk_drew ?_ | refine blk_alloc ?_ _)); exact BK145.out) hb); have n1_ := Aside0.mk (below_step (by repeat (first | (with_reducible first | exact HB.out | apply below_alloc | apply pw_below_drewN | apply below_drew1 | refine below_set ?_ GE145.out) | exact HB.out)) hb); clear BK145; clear HB; have BK145 := n0_; have HB := n1_; clear n0_ n1_; (try clear hb); (try clear hb2); (try clear hk); (try clear hi)))
            go_ret
            exact ⟨by first | rfl | (simp [errW_none, errW_some] <;> rfl) | (simp [*, errW_none, errW_some] <;> rfl), by repeat (first | (with_reducible first | exact HB.out | apply below_alloc | apply pw_below_drewN | apply below_drew1 | refine below_set ?_ GE145.out) | exact HB.out)⟩
          · rw [if_neg c36] at H
            exact absurd H (by simp)
        · replace c35 := Bool.eq_false_iff.mpr c35
          subst c35
          have H1 : (none) = some r := by rw [if_neg (show ¬ (false = true) by decide)] at H; exact H
          clear H
          have H := H1
          clear H1
          exact absurd H (by simp)

/-! ### precentorlaw10_AskMany: function 6 -/
def precentorlaw10_AskMany.l0 : Nat → Bool → Int → Int → Int → Int → Int → Int → Int → Int → Option (Bool)
  | 0, _, _, _, _, _, _, _, _, _ => none
  | k + 1, x7, x8, x9, x10, x13, x14, x15, x154000, x155000 => if x15 < x8 then ((ask_Step.f x154000 x15 x9 true).bind fun bt155 => ((ask_Step.f x155000 x15 x10 true).bind fun bt158 => (if bt155.2 = true then (if bt158.2 = true then (precentorlaw10_AskMany.l0 k x7 x8 x9 x10 (wrap64 (x13 + 1)) (wrap64 (x14 + 1)) (wrap64 (x15 + 1)) bt155.1 bt158.1) else (precentorlaw10_AskMany.l0 k x7 x8 x9 x10 (wrap64 (x13 + 1)) x14 (wrap64 (x15 + 1)) bt155.1 bt158.1)) else (if bt158.2 = true then (precentorlaw10_AskMany.l0 k x7 x8 x9 x10 x13 (wrap64 (x14 + 1)) (wrap64 (x15 + 1)) bt155.1 bt158.1) else (precentorlaw10_AskMany.l0 k x7 x8 x9 x10 x13 x14 (wrap64 (x15 + 1)) bt155.1 bt158.1))))) else (if x8 ≥ 2 then (if x9 = 0 then (none) else (if x7 = true then (if x13 = (wrap64 ((wrap64 (Int.tdiv (wrap64 (x8 - 2)) x9)) + 1)) then (some (decide (x14 ≤ x13))) else (none)) else (none))) else (if x7 = true then (if x13 = 0 then (some (decide (x14 ≤ x13))) else (none)) else (none)))
def precentorlaw10_AskMany.f (k : Nat) (a0 : Int) (a1 : Int) (a2 : Int) : Option (Bool) := (precentorlaw10_shown.f).bind fun t152 => (precentorlaw10_AskMany.l0 k t152 (Int.tmod (wrap64 (a0)) 300) (wrap64 (1 + (Int.tmod (wrap64 (a1)) 60))) (wrap64 ((wrap64 (1 + (Int.tmod (wrap64 (a1)) 60))) + (Int.tmod (wrap64 (a2)) 20))) 0 0 0 0 0)
theorem precentorlaw10_AskMany.mono_l : ∀ k, (∀ y0 y1 y2 y3 y4 y5 y6 y7 y8, LeO (precentorlaw10_AskMany.l0 k y0 y1 y2 y3 y4 y5 y6 y7 y8) (precentorlaw10_AskMany.l0 (k + 1) y0 y1 y2 y3 y4 y5 y6 y7 y8))
  | 0 => fun _ _ _ _ _ _ _ _ _ r h => by simp [precentorlaw10_AskMany.l0] at h
  | k + 1 => by
    have ih0 := precentorlaw10_AskMany.mono_l k
    · intro y0 y1 y2 y3 y4 y5 y6 y7 y8
      unfold precentorlaw10_AskMany.l0
      repeat' first
      | (with_reducible exact ih0 _ _ _ _ _ _ _ _ _)
      | (with_reducible exact LeO.refl _)
      | (with_reducible exact LeO.none _)
      | (with_reducible refine LeO.ite ?_ ?_)
      | (with_reducible refine LeO.bind ?_ (fun _ => ?_))
      | exact ih0 _ _ _ _ _ _ _ _ _
      | exact LeO.none _
      | refine LeO.ite ?_ ?_
      | refine LeO.bind ?_ (fun _ => ?_)
theorem precentorlaw10_AskMany.mono : ∀ a0 a1 a2 k, LeO (precentorlaw10_AskMany.f k a0 a1 a2) (precentorlaw10_AskMany.f (k + 1) a0 a1 a2) := by
  intro a0 a1 a2 k
  have ih0 := precentorlaw10_AskMany.mono_l k
  unfold precentorlaw10_AskMany.f
  repeat' first
      | (with_reducible exact ih0 _ _ _ _ _ _ _ _ _)
      | (with_reducible exact LeO.refl _)
      | (with_reducible exact LeO.none _)
      | (with_reducible refine LeO.ite ?_ ?_)
      | (with_reducible refine LeO.bind ?_ (fun _ => ?_))
      | exact ih0 _ _ _ _ _ _ _ _ _
      | exact LeO.none _
      | refine LeO.ite ?_ ?_
      | refine LeO.bind ?_ (fun _ => ?_)
set_option maxHeartbeats 8000000 in
set_option maxRecDepth 100000 in
theorem precentorlaw10_AskMany.calls (k : Nat) (a0 : Int) (a1 : Int) (a2 : Int) (r : Bool) (w : World) (h : precentorlaw10_AskMany.f k a0 a1 a2 = some r) :
    Calls Try.prog 6 #[.int .u16 a0, .int .u8 a1, .int .u8 a2] w fun e w' => e = .returned (.bool r) ∧ Below w.heap.size w w' := by
  have hu23 := Try.underlying23
  have HB := Aside0.mk (Below.refl w.heap.size w)
  have H : ((precentorlaw10_shown.f).bind fun t152 => (precentorlaw10_AskMany.l0 k t152 (Int.tmod (wrap64 (a0)) 300) (wrap64 (1 + (Int.tmod (wrap64 (a1)) 60))) (wrap64 ((wrap64 (1 + (Int.tmod (wrap64 (a1)) 60))) + (Int.tmod (wrap64 (a2)) 20))) 0 0 0 0 0)) = some r := h
  clear h
  replace H := Option.bind_eq_some_iff.mp H
  obtain ⟨t152, A40, H⟩ := H
  replace H : (precentorlaw10_AskMany.l0 k t152 (Int.tmod (wrap64 (a0)) 300) (wrap64 (1 + (Int.tmod (wrap64 (a1)) 60))) (wrap64 ((wrap64 (1 + (Int.tmod (wrap64 (a1)) 60))) + (Int.tmod (wrap64 (a2)) 20))) 0 0 0 0 0) = some r := H
  have A4 := Aside0.mk A40
  clear A40
  have H' := Aside0.mk H
  clear H
  go_enter Try.func6, Try.ntmps6
  go_wp2_with (first | ((with_reducible refine gate_callee (f := 8) rfl ?_); refine goesL_ (some 21) rfl rfl Try.func8 (by kernel_rfl) rfl #[] rfl (by (try simp only [List.map_toArray, List.map_cons, List.map_nil]); first | done | rfl | (simp only [List.length_drop, List.length_take]; rfl)) ?_; (with_reducible refine (precentorlaw10_shown.calls  t152 _ A4.out).mono ?_); rintro e w5 ⟨rfl, hb⟩; refine ⟨_, rfl, ?_⟩; have n0_ := Aside0.mk (below_step (by repeat (first | (with_reducible first | exact HB.out | apply below_alloc | apply pw_below_drewN | apply below_drew1) | exact HB.out)) hb); clear HB; have HB := n0_; clear n0_; (try clear hb); (try clear hb2); (try clear hk); (try clear hi)) | ((with_reducible refine gate_dst (N := 11) rfl ?_); refine box_event ?hg (N := 11) ?hd (cs := #[.int .i64 0]) (t := 23) ?hr ?_; (case hd => rfl); (case hg => rfl); (case hr => first | (go_simp; done) | (go_simp; rfl)); intro gb153 hg w6 hbox hb; have n0_ := Aside0.mk (below_step (by repeat (first | (with_reducible first | exact HB.out | apply below_alloc | apply pw_below_drewN | apply below_drew1) | exact HB.out)) hb); have n1_ := Aside0.mk (hbox); have n2_ := Aside0.mk ((by rw [hg]; exact (below_size (by repeat (first | (with_reducible first | exact HB.out | apply below_alloc | apply pw_below_drewN | apply below_drew1) | exact HB.out))) : w.heap.size ≤ gb153)); have n3_ := Aside0.mk ((by rw [hg]; exact (below_size (by repeat (first | (with_reducible first | exact HB.out | apply below_alloc | apply pw_below_drewN | apply below_drew1) | exact HB.out))) : w.heap.size ≤ gb153)); clear HB; have HB := n0_; have BK153 := n1_; have GW153 := n2_; have GE153 := n3_; clear n0_ n1_ n2_ n3_; clear hb hbox hg; have hcz7_0 : w6.cell? ⟨gb153, 0, none⟩ = some (.int .i64 0) := (blk_cell BK153.out 0).trans rfl; have hfz7_0 := blk_frozen BK153.out 0) | ((with_reducible refine gate_dst (N := 12) rfl ?_); refine box_event ?hg (N := 12) ?hd (cs := #[.int .i64 0]) (t := 23) ?hr ?_; (case hd => rfl); (case hg => rfl); (case hr => first | (go_simp; done) | (go_simp; rfl)); intro gb154 hg w8 hbox hb; have n0_ := Aside0.mk (blk_below (g := gb153) (o := .cells #[.int .i64 0] 23 (0, 0)) (by (with_reducible repeat (first | refine blk_drewN ?_ _ | refine blk_drew ?_ | refine blk_alloc ?_ _)); refine blk_put (cs := #[.int .i64 0]) ?_ 0 _ rfl; (with_reducible repeat (first | refine blk_drewN ?_ _ | refine blk_drew ?_ | refine blk_alloc ?_ _)); exact BK153.out) hb); have n1_ := Aside0.mk (below_step (by repeat (first | (with_reducible first | exact HB.out | apply below_alloc | apply pw_below_drewN | apply below_drew1 | refine below_set ?_ GE153.out) | exact HB.out)) hb); have n2_ := Aside0.mk (hbox); have n3_ := Aside0.mk ((by rw [hg]; exact (below_size (by repeat (first | (with_reducible first | exact HB.out | apply below_alloc | apply pw_below_drewN | apply below_drew1 | refine below_set ?_ GE153.out) | exact HB.out))) : w.heap.size ≤ gb154)); have n4_ := Aside0.mk ((by rw [hg]; exact (below_size (by repeat (first | (with_reducible first | exact HB.out | apply below_alloc | apply pw_below_drewN | apply below_drew1 | refine below_set ?_ GE153.out) | exact HB.out))) : w.heap.size ≤ gb154)); have n5_ := Aside0.mk ((by rw [hg]; exact Nat.ne_of_lt (blk_lt (g := gb153) (o := .cells #[.int .i64 0] 23 (0, 0)) (by (with_reducible repeat (first | refine blk_drewN ?_ _ | refine blk_drew ?_ | refine blk_alloc ?_ _)); refine blk_put (cs := #[.int .i64 0]) ?_ 0 _ rfl; (with_reducible repeat (first | refine blk_drewN ?_ _ | refine blk_drew ?_ | refine blk_alloc ?_ _)); exact BK153.out)) : gb153 ≠ gb154)); have n6_ := Aside0.mk ((by rw [hg]; exact Nat.ne_of_gt (blk_lt (g := gb153) (o := .cells #[.int .i64 0] 23 (0, 0)) (by (with_reducible repeat (first | refine blk_drewN ?_ _ | refine blk_drew ?_ | refine blk_alloc ?_ _)); refine blk_put (cs := #[.int .i64 0]) ?_ 0 _ rfl; (with_reducible repeat (first | refine blk_drewN ?_ _ | refine blk_drew ?_ | refine blk_alloc ?_ _)); exact BK153.out)) : gb154 ≠ gb153)); clear BK153; clear HB; have BK153 := n0_; have HB := n1_; have BK154 := n2_; have GW154 := n3_; have GE154 := n4_; have NB153_154 := n5_; have NB154_153 := n6_; clear n0_ n1_ n2_ n3_ n4_ n5_ n6_; clear hb hbox hg; have hnb9 := NB154_153.out; have hnc9 := NB153_154.out; have hcz10_0 : w8.cell? ⟨gb154, 0, none⟩ = some (.int .i64 0) := (blk_cell BK154.out 0).trans rfl; have hfz10_0 := blk_frozen BK154.out 0))
  go_loopg [13, 14, 15] k (fun kq v13 v14 v15 w' => ∃ (x13_1 : Int) (x14_1 : Int) (x15_1 : Int) (x154000_1 : Int) (x155000_1 : Int), v13 = .int .i64 x13_1 ∧ v14 = .int .i64 x14_1 ∧ v15 = .int .i64 x15_1 ∧ Aside0 (precentorlaw10_AskMany.l0 kq t152 (Int.tmod (wrap64 (a0)) 300) (wrap64 (1 + (Int.tmod (wrap64 (a1)) 60))) (wrap64 ((wrap64 (1 + (Int.tmod (wrap64 (a1)) 60))) + (Int.tmod (wrap64 (a2)) 20))) x13_1 x14_1 x15_1 x154000_1 x155000_1 = some r) ∧ Aside0 (kq ≤ k) ∧ Aside0 (w'.heap[gb153]? = some (.cells #[.int .i64 x154000_1] 23 (0, 0))) ∧ Aside0 (w'.heap[gb154]? = some (.cells #[.int .i64 x155000_1] 23 (0, 0))) ∧ Aside0 (Below w.heap.size w w'))
  case atStart => exact ⟨(0), (0), (0), (0), (0), (by first | rfl | (simp; done) | (simp [*]; done)), (by first | rfl | (simp; done) | (simp [*]; done)), (by first | rfl | (simp; done) | (simp [*]; done)), H', ⟨Nat.le_refl _⟩, ⟨by (with_reducible repeat (first | refine blk_drewN ?_ _ | refine blk_drew ?_ | refine blk_alloc ?_ _)); refine blk_far ?_ NB153_154.out _; (with_reducible repeat (first | refine blk_drewN ?_ _ | refine blk_drew ?_ | refine blk_alloc ?_ _)); exact BK153.out⟩, ⟨by (with_reducible repeat (first | refine blk_drewN ?_ _ | refine blk_drew ?_ | refine blk_alloc ?_ _)); refine blk_put (cs := #[.int .i64 0]) ?_ 0 _ rfl; (with_reducible repeat (first | refine blk_drewN ?_ _ | refine blk_drew ?_ | refine blk_alloc ?_ _)); exact BK154.out⟩, ⟨by repeat (first | (with_reducible first | exact HB.out | apply below_alloc | apply pw_below_drewN | apply below_drew1 | refine below_set ?_ GE153.out | refine below_set ?_ GE154.out) | exact HB.out)⟩⟩
  case round =>
    clear H'
    try clear p2
    try clear c6
    try clear p6
    try clear c8
    try clear c9
    try clear hcz10_0
    try clear hcz7_0
    try clear hfz10_0
    try clear hfz7_0
    obtain ⟨x13_1, x14_1, x15_1, x154000_1, x155000_1, rfl, rfl, rfl, HA, HK1, BK153, BK154, HB⟩ := hrel
    cases gk with
    | zero => exact absurd HA.out (by simp [precentorlaw10_AskMany.l0])
    | succ k1 =>
      have H := HA.out
      clear HA
      simp only [precentorlaw10_AskMany.l0] at H
      by_cases c11 : x15_1 < (Int.tmod (wrap64 (a0)) 300)
      · rw [if_pos c11] at H
        have c11b0 : decide (x15_1 < (Int.tmod (wrap64 (a0)) 300)) = true := decide_eq_true c11
        clear c11
        replace H := Option.bind_eq_some_iff.mp H
        obtain ⟨⟨t155, t156⟩, A120, H⟩ := H
        replace H : ((ask_Step.f x155000_1 x15_1 (wrap64 ((wrap64 (1 + (Int.tmod (wrap64 (a1)) 60))) + (Int.tmod (wrap64 (a2)) 20))) true).bind fun bt158 => (if t156 = true then (if bt158.2 = true then (precentorlaw10_AskMany.l0 k1 t152 (Int.tmod (wrap64 (a0)) 300) (wrap64 (1 + (Int.tmod (wrap64 (a1)) 60))) (wrap64 ((wrap64 (1 + (Int.tmod (wrap64 (a1)) 60))) + (Int.tmod (wrap64 (a2)) 20))) (wrap64 (x13_1 + 1)) (wrap64 (x14_1 + 1)) (wrap64 (x15_1 + 1)) t155 bt158.1) else (precentorlaw10_AskMany.l0 k1 t152 (Int.tmod (wrap64 (a0)) 300) (wrap64 (1 + (Int.tmod (wrap64 (a1)) 60))) (wrap64 ((wrap64 (1 + (Int.tmod (wrap64 (a1)) 60))) + (Int.tmod (wrap64 (a2)) 20))) (wrap64 (x13_1 + 1)) x14_1 (wrap64 (x15_1 + 1)) t155 bt158.1)) else (if bt158.2 = true then (precentorlaw10_AskMany.l0 k1 t152 (Int.tmod (wrap64 (a0)) 300) (wrap64 (1 + (Int.tmod (wrap64 (a1)) 60))) (wrap64 ((wrap64 (1 + (Int.tmod (wrap64 (a1)) 60))) + (Int.tmod (wrap64 (a2)) 20))) x13_1 (wrap64 (x14_1 + 1)) (wrap64 (x15_1 + 1)) t155 bt158.1) else (precentorlaw10_AskMany.l0 k1 t152 (Int.tmod (wrap64 (a0)) 300) (wrap64 (1 + (Int.tmod (wrap64 (a1)) 60))) (wrap64 ((wrap64 (1 + (Int.tmod (wrap64 (a1)) 60))) + (Int.tmod (wrap64 (a2)) 20))) x13_1 x14_1 (wrap64 (x15_1 + 1)) t155 bt158.1)))) = some r := H
        have A12 := Aside0.mk A120
        clear A120
        replace H := Option.bind_eq_some_iff.mp H
        obtain ⟨⟨t158, t159⟩, A130, H⟩ := H
        replace H : (if t156 = true then (if t159 = true then (precentorlaw10_AskMany.l0 k1 t152 (Int.tmod (wrap64 (a0)) 300) (wrap64 (1 + (Int.tmod (wrap64 (a1)) 60))) (wrap64 ((wrap64 (1 + (Int.tmod (wrap64 (a1)) 60))) + (Int.tmod (wrap64 (a2)) 20))) (wrap64 (x13_1 + 1)) (wrap64 (x14_1 + 1)) (wrap64 (x15_1 + 1)) t155 t158) else (precentorlaw10_AskMany.l0 k1 t152 (Int.tmod (wrap64 (a0)) 300) (wrap64 (1 + (Int.tmod (wrap64 (a1)) 60))) (wrap64 ((wrap64 (1 + (Int.tmod (wrap64 (a1)) 60))) + (Int.tmod (wrap64 (a2)) 20))) (wrap64 (x13_1 + 1)) x14_1 (wrap64 (x15_1 + 1)) t155 t158)) else (if t159 = true then (precentorlaw10_AskMany.l0 k1 t152 (Int.tmod (wrap64 (a0)) 300) (wrap64 (1 + (Int.tmod (wrap64 (a1)) 60))) (wrap64 ((wrap64 (1 + (Int.tmod (wrap64 (a1)) 60))) + (Int.tmod (wrap64 (a2)) 20))) x13_1 (wrap64 (x14_1 + 1)) (wrap64 (x15_1 + 1)) t155 t158) else (precentorlaw10_AskMany.l0 k1 t152 (Int.tmod (wrap64 (a0)) 300) (wrap64 (1 + (Int.tmod (wrap64 (a1)) 60))) (wrap64 ((wrap64 (1 + (Int.tmod (wrap64 (a1)) 60))) + (Int.tmod (wrap64 (a2)) 20))) x13_1 x14_1 (wrap64 (x15_1 + 1)) t155 t158))) = some r := H
        have A13 := Aside0.mk A130
        clear A130
        by_cases c14 : t156 = true
        · subst c14
          have H1 : (if t159 = true then (precentorlaw10_AskMany.l0 k1 t152 (Int.tmod (wrap64 (a0)) 300) (wrap64 (1 + (Int.tmod (wrap64 (a1)) 60))) (wrap64 ((wrap64 (1 + (Int.tmod (wrap64 (a1)) 60))) + (Int.tmod (wrap64 (a2)) 20))) (wrap64 (x13_1 + 1)) (wrap64 (x14_1 + 1)) (wrap64 (x15_1 + 1)) t155 t158) else (precentorlaw10_AskMany.l0 k1 t152 (Int.tmod (wrap64 (a0)) 300) (wrap64 (1 + (Int.tmod (wrap64 (a1)) 60))) (wrap64 ((wrap64 (1 + (Int.tmod (wrap64 (a1)) 60))) + (Int.tmod (wrap64 (a2)) 20))) (wrap64 (x13_1 + 1)) x14_1 (wrap64 (x15_1 + 1)) t155 t158)) = some r := by rw [if_pos rfl] at H; exact H
          clear H
          have H := H1
          clear H1
          by_cases c15 : t159 = true
          · subst c15
            have H1 : (precentorlaw10_AskMany.l0 k1 t152 (Int.tmod (wrap64 (a0)) 300) (wrap64 (1 + (Int.tmod (wrap64 (a1)) 60))) (wrap64 ((wrap64 (1 + (Int.tmod (wrap64 (a1)) 60))) + (Int.tmod (wrap64 (a2)) 20))) (wrap64 (x13_1 + 1)) (wrap64 (x14_1 + 1)) (wrap64 (x15_1 + 1)) t155 t158) = some r := by rw [if_pos rfl] at H; exact H
            clear H
            have H := H1
            clear H1
            have H' := Aside0.mk H
            clear H
            have hnb16 := NB153_154.out
            have hnc16 := NB154_153.out
            have hcz17_0 : wr.cell? ⟨gb153, 0, none⟩ = some (.int .i64 x154000_1) := (blk_cell BK153.out 0).trans rfl
            have hfz17_0 := blk_frozen BK153.out 0
            go_wp2_with (first | ((with_reducible refine gate_callee (f := 10) rfl ?_); refine goesL_ (some 45) rfl rfl Try.func10 (by kernel_rfl) rfl #[.agg #[.int .i64 x154000_1], .int .i64 x15_1, .int .i64 (wrap64 (1 + (Int.tmod (wrap64 (a1)) 60))), .bool true] rfl (by (try simp only [List.map_toArray, List.map_cons, List.map_nil]); first | done | rfl | (simp only [List.length_drop, List.length_take]; rfl)) ?_; (with_reducible refine (ask_Step.calls x154000_1 x15_1 (wrap64 (1 + (Int.tmod (wrap64 (a1)) 60))) true t155 true _ A12.out).mono ?_); rintro e w18 ⟨rfl, hb⟩; refine ⟨_, rfl, ?_⟩; have n0_ := Aside0.mk (blk_below (g := gb153) (o := .cells #[.int .i64 x154000_1] 23 (0, 0)) (by (with_reducible repeat (first | refine blk_drewN ?_ _ | refine blk_drew ?_ | refine blk_alloc ?_ _)); exact BK153.out) hb); have n1_ := Aside0.mk (blk_below (g := gb154) (o := .cells #[.int .i64 x155000_1] 23 (0, 0)) (by (with_reducible repeat (first | refine blk_drewN ?_ _ | refine blk_drew ?_ | refine blk_alloc ?_ _)); exact BK154.out) hb); have n2_ := Aside0.mk (below_step (by repeat (first | (with_reducible first | exact HB.out | apply below_alloc | apply pw_below_drewN | apply below_drew1 | refine below_set ?_ GE153.out | refine below_set ?_ GE154.out) | exact HB.out)) hb); clear BK153; clear BK154; clear HB; have BK153 := n0_; have BK154 := n1_; have HB := n2_; clear n0_ n1_ n2_; (try clear hb); (try clear hb2); (try clear hk); (try clear hi)) | ((with_reducible refine gate_dst (N := 16) rfl ?_); refine box_event ?hg (N := 16) ?hd (cs := #[.int .i64 0]) (t := 23) ?hr ?_; (case hd => rfl); (case hg => rfl); (case hr => first | (go_simp; done) | (go_simp; rfl)); intro gb157 hg w19 hbox hb; have n0_ := Aside0.mk (blk_below (g := gb153) (o := .cells #[.int .i64 x154000_1] 23 (0, 0)) (by (with_reducible repeat (first | refine blk_drewN ?_ _ | refine blk_drew ?_ | refine blk_alloc ?_ _)); exact BK153.out) hb); have n1_ := Aside0.mk (blk_below (g := gb154) (o := .cells #[.int .i64 x155000_1] 23 (0, 0)) (by (with_reducible repeat (first | refine blk_drewN ?_ _ | refine blk_drew ?_ | refine blk_alloc ?_ _)); exact BK154.out) hb); have n2_ := Aside0.mk (below_step (by repeat (first | (with_reducible first | exact HB.out | apply below_alloc | apply pw_below_drewN | apply below_drew1 | refine below_set ?_ GE153.out | refine below_set ?_ GE154.out) | exact HB.out)) hb); have n3_ := Aside0.mk (hbox); have n4_ := Aside0.mk ((by rw [hg]; exact (below_size (by repeat (first | (with_reducible first | exact HB.out | apply below_alloc | apply pw_below_drewN | apply below_drew1 | refine below_set ?_ GE153.out | refine below_set ?_ GE154.out) | exact HB.out))) : w.heap.size ≤ gb157)); have n5_ := Aside0.mk ((by rw [hg]; exact (below_size (by repeat (first | (with_reducible first | exact HB.out | apply below_alloc | apply pw_below_drewN | apply below_drew1 | refine below_set ?_ GE153.out | refine below_set ?_ GE154.out) | exact HB.out))) : w.heap.size ≤ gb157)); have n6_ := Aside0.mk ((by rw [hg]; exact Nat.ne_of_lt (blk_lt (g := gb153) (o := .cells #[.int .i64 x154000_1] 23 (0, 0)) (by (with_reducible repeat (first | refine blk_drewN ?_ _ | refine blk_drew ?_ | refine blk_alloc ?_ _)); exact BK153.out)) : gb153 ≠ gb157)); have n7_ := Aside0.mk ((by rw [hg]; exact Nat.ne_of_gt (blk_lt (g := gb153) (o := .cells #[.int .i64 x154000_1] 23 (0, 0)) (by (with_reducible repeat (first | refine blk_drewN ?_ _ | refine blk_drew ?_ | refine blk_alloc ?_ _)); exact BK153.out)) : gb157 ≠ gb153)); have n8_ := Aside0.mk ((by rw [hg]; exact Nat.ne_of_lt (blk_lt (g := gb154) (o := .cells #[.int .i64 x155000_1] 23 (0, 0)) (by (with_reducible repeat (first | refine blk_drewN ?_ _ | refine blk_drew ?_ | refine blk_alloc ?_ _)); exact BK154.out)) : gb154 ≠ gb157)); have n9_ := Aside0.mk ((by rw [hg]; exact Nat.ne_of_gt (blk_lt (g := gb154) (o := .cells #[.int .i64 x155000_1] 23 (0, 0)) (by (with_reducible repeat (first | refine blk_drewN ?_ _ | refine blk_drew ?_ | refine blk_alloc ?_ _)); exact BK154.out)) : gb157 ≠ gb154)); clear BK153; clear BK154; clear HB; have BK153 := n0_; have BK154 := n1_; have HB := n2_; have BK157 := n3_; have GW157 := n4_; have GE157 := n5_; have NB153_157 := n6_; have NB157_153 := n7_; have NB154_157 := n8_; have NB157_154 := n9_; clear n0_ n1_ n2_ n3_ n4_ n5_ n6_ n7_ n8_ n9_; clear hb hbox hg; have hnb20 := NB157_153.out; have hnc20 := NB153_157.out; have hnb21 := NB157_154.out; have hnc21 := NB154_157.out; have hcz22_0 : w19.cell? ⟨gb157, 0, none⟩ = some (.int .i64 0) := (blk_cell BK157.out 0).trans rfl; have hfz22_0 := blk_frozen BK157.out 0; have hcz23_0 : w19.cell? ⟨gb154, 0, none⟩ = some (.int .i64 x155000_1) := (blk_cell BK154.out 0).trans rfl; have hfz23_0 := blk_frozen BK154.out 0) | ((with_reducible refine gate_callee (f := 10) rfl ?_); refine goesL_ (some 52) rfl rfl Try.func10 (by kernel_rfl) rfl #[.agg #[.int .i64 x155000_1], .int .i64 x15_1, .int .i64 (wrap64 ((wrap64 (1 + (Int.tmod (wrap64 (a1)) 60))) + (Int.tmod (wrap64 (a2)) 20))), .bool true] rfl (by (try simp only [List.map_toArray, List.map_cons, List.map_nil]); first | done | rfl | (simp only [List.length_drop, List.length_take]; rfl)) ?_; (with_reducible refine (ask_Step.calls x155000_1 x15_1 (wrap64 ((wrap64 (1 + (Int.tmod (wrap64 (a1)) 60))) + (Int.tmod (wrap64 (a2)) 20))) true t158 true _ A13.out).mono ?_); rintro e w24 ⟨rfl, hb⟩; refine ⟨_, rfl, ?_⟩; have n0_ := Aside0.mk (blk_below (g := gb153) (o := .cells #[.int .i64 x154000_1] 23 (0, 0)) (by (with_reducible repeat (first | refine blk_drewN ?_ _ | refine blk_drew ?_ | refine blk_alloc ?_ _)); refine blk_far ?_ NB153_157.out _; (with_reducible repeat (first | refine blk_drewN ?_ _ | refine blk_drew ?_ | refine blk_alloc ?_ _)); exact BK153.out) hb); have n1_ := Aside0.mk (blk_below (g := gb154) (o := .cells #[.int .i64 x155000_1] 23 (0, 0)) (by (with_reducible repeat (first | refine blk_drewN ?_ _ | refine blk_drew ?_ | refine blk_alloc ?_ _)); refine blk_far ?_ NB154_157.out _; (with_reducible repeat (first | refine blk_drewN ?_ _ | refine blk_drew ?_ | refine blk_alloc ?_ _)); exact BK154.out) hb); have n2_ := Aside0.mk (blk_below (g := gb157) (o := .cells #[.int .i64 t155] 23 (0, 0)) (by (with_reducible repeat (first | refine blk_drewN ?_ _ | refine blk_drew ?_ | refine blk_alloc ?_ _)); refine blk_put (cs := #[.int .i64 0]) ?_ 0 _ rfl; (with_reducible repeat (first | refine blk_drewN ?_ _ | refine blk_drew ?_ | refine blk_alloc ?_ _)); exact BK157.out) hb); have n3_ := Aside0.mk (below_step (by repeat (first | (with_reducible first | exact HB.out | apply below_alloc | apply pw_below_drewN | apply below_drew1 | refine below_set ?_ GE153.out | refine below_set ?_ GE154.out | refine below_set ?_ GE157.out) | exact HB.out)) hb); clear BK153; clear BK154; clear BK157; clear HB; have BK153 := n0_; have BK154 := n1_; have BK157 := n2_; have HB := n3_; clear n0_ n1_ n2_ n3_; (try clear hb); (try clear hb2); (try clear hk); (try clear hi)) | ((with_reducible refine gate_dst (N := 18) rfl ?_); refine box_event ?hg (N := 18) ?hd (cs := #[.int .i64 0]) (t := 23) ?hr ?_; (case hd => rfl); (case hg => rfl); (case hr => first | (go_simp; done) | (go_simp; rfl)); intro gb160 hg w25 hbox hb; have n0_ := Aside0.mk (blk_below (g := gb153) (o := .cells #[.int .i64 x154000_1] 23 (0, 0)) (by (with_reducible repeat (first | refine blk_drewN ?_ _ | refine blk_drew ?_ | refine blk_alloc ?_ _)); exact BK153.out) hb); have n1_ := Aside0.mk (blk_below (g := gb154) (o := .cells #[.int .i64 x155000_1] 23 (0, 0)) (by (with_reducible repeat (first | refine blk_drewN ?_ _ | refine blk_drew ?_ | refine blk_alloc ?_ _)); exact BK154.out) hb); have n2_ := Aside0.mk (blk_below (g := gb157) (o := .cells #[.int .i64 t155] 23 (0, 0)) (by (with_reducible repeat (first | refine blk_drewN ?_ _ | refine blk_drew ?_ | refine blk_alloc ?_ _)); exact BK157.out) hb); have n3_ := Aside0.mk (below_step (by repeat (first | (with_reducible first | exact HB.out | apply below_alloc | apply pw_below_drewN | apply below_drew1 | refine below_set ?_ GE153.out | refine below_set ?_ GE154.out | refine below_set ?_ GE157.out) | exact HB.out)) hb); have n4_ := Aside0.mk (hbox); have n5_ := Aside0.mk ((by rw [hg]; exact (below_size (by repeat (first | (with_reducible first | exact HB.out | apply below_alloc | apply pw_below_drewN | apply below_drew1 | refine below_set ?_ GE153.out | refine below_set ?_ GE154.out | refine below_set ?_ GE157.out) | exact HB.out))) : w.heap.size ≤ gb160)); have n6_ := Aside0.mk ((by rw [hg]; exact (below_size (by repeat (first | (with_reducible first | exact HB.out | apply below_alloc | apply pw_below_drewN | apply below_drew1 | refine below_set ?_ GE153.out | refine below_set ?_ GE154.out | refine below_set ?_ GE157.out) | exact HB.out))) : w.heap.size ≤ gb160)); have n7_ := Aside0.mk ((by rw [hg]; exact Nat.ne_of_lt (blk_lt (g := gb153) (o := .cells #[.int .i64 x154000_1] 23 (0, 0)) (by (with_reducible repeat (first | refine blk_drewN ?_ _ | refine blk_drew ?_ | refine blk_alloc ?_ _)); exact BK153.out)) : gb153 ≠ gb160)); have n8_ := Aside0.mk ((by rw [hg]; exact Nat.ne_of_gt (blk_lt (g := gb153) (o := .cells #[.int .i64 x154000_1] 23 (0, 0)) (by (with_reducible repeat (first | refine blk_drewN ?_ _ | refine blk_drew ?_ | refine blk_alloc ?_ _)); exact BK153.out)) : gb160 ≠ gb153)); have n9_ := Aside0.mk ((by rw [hg]; exact Nat.ne_of_lt (blk_lt (g := gb154) (o := .cells #[.int .i64 x155000_1] 23 (0, 0)) (by (with_reducible repeat (first | refine blk_drewN ?_ _ | refine blk_drew ?_ | refine blk_alloc ?_ _)); exact BK154.out)) : gb154 ≠ gb160)); have n10_ := Aside0.mk ((by rw [hg]; exact Nat.ne_of_gt (blk_lt (g := gb154) (o := .cells #[.int .i64 x155000_1] 23 (0, 0)) (by (with_reducible repeat (first | refine blk_drewN ?_ _ | refine blk_drew ?_ | refine blk_alloc ?_ _)); exact BK154.out)) : gb160 ≠ gb154)); have n11_ := Aside0.mk ((by rw [hg]; exact Nat.ne_of_lt (blk_lt (g := gb157) (o := .cells #[.int .i64 t155] 23 (0, 0)) (by (with_reducible repeat (first | refine blk_drewN ?_ _ | refine blk_drew ?_ | refine blk_alloc ?_ _)); exact BK157.out)) : gb157 ≠ gb160)); have n12_ := Aside0.mk ((by rw [hg]; exact Nat.ne_of_gt (blk_lt (g := gb157) (o := .cells #[.int .i64 t155] 23 (0, 0)) (by (with_reducible repeat (first | refine blk_drewN ?_ _ | refine blk_drew ?_ | refine blk_alloc ?_ _)); exact BK157.out)) : gb160 ≠ gb157)); clear BK153; clear BK154; clear BK157; clear HB; have BK153 := n0_; have BK154 := n1_; have BK157 := n2_; have HB := n3_; have BK160 := n4_; have GW160 := n5_; have GE160 := n6_; have NB153_160 := n7_; have NB160_153 := n8_; have NB154_160 := n9_; have NB160_154 := n10_; have NB157_160 := n11_; have NB160_157 := n12_; clear n0_ n1_ n2_ n3_ n4_ n5_ n6_ n7_ n8_ n9_ n10_ n11_ n12_; clear hb hbox hg; have hnb26 := NB160_153.out; have hnc26 := NB153_160.out; have hnb27 := NB160_154.out; have hnc27 := NB154_160.out; have hnb28 := NB160_157.out; have hnc28 := NB157_160.out; have hcz29_0 : w25.cell? ⟨gb160, 0, none⟩ = some (.int .i64 0) := (blk_cell BK160.out 0).trans rfl; have hfz29_0 := blk_frozen BK160.out 0; have hcz30_0 : w25.cell? ⟨gb157, 0, none⟩ = some (.int .i64 t155) := (blk_cell BK157.out 0).trans rfl; have hfz30_0 := blk_frozen BK157.out 0; have hcz31_0 : w25.cell? ⟨gb153, 0, none⟩ = some (.int .i64 x154000_1) := (blk_cell BK153.out 0).trans rfl; have hfz31_0 := blk_frozen BK153.out 0; have hcz32_0 : w25.cell? ⟨gb154, 0, none⟩ = some (.int .i64 x155000_1) := (blk_cell BK154.out 0).trans rfl; have hfz32_0 := blk_frozen BK154.out 0))
            go_roundg k1
            case measure => have := HK1.out; omega
            case rel => exact ⟨(wrap64 (x13_1 + 1)), (wrap64 (x14_1 + 1)), (wrap64 (x15_1 + 1)), (t155), (t158), (by first | rfl | (simp; done) | (simp [*]; done)), (by first | rfl | (simp; done) | (simp [*]; done)), (by first | rfl | (simp; done) | (simp [*]; done)), H', ⟨by have := HK1.out; omega⟩, ⟨by (with_reducible repeat (first | refine blk_drewN ?_ _ | refine blk_drew ?_ | refine blk_alloc ?_ _)); refine blk_far ?_ NB153_154.out _; (with_reducible repeat (first | refine blk_drewN ?_ _ | refine blk_drew ?_ | refine blk_alloc ?_ _)); refine blk_put (cs := #[.int .i64 x154000_1]) ?_ 0 _ rfl; (with_reducible repeat (first | refine blk_drewN ?_ _ | refine blk_drew ?_ | refine blk_alloc ?_ _)); refine blk_far ?_ NB153_160.out _; (with_reducible repeat (first | refine blk_drewN ?_ _ | refine blk_drew ?_ | refine blk_alloc ?_ _)); exact BK153.out⟩, ⟨by (with_reducible repeat (first | refine blk_drewN ?_ _ | refine blk_drew ?_ | refine blk_alloc ?_ _)); refine blk_put (cs := #[.int .i64 x155000_1]) ?_ 0 _ rfl; (with_reducible repeat (first | refine blk_drewN ?_ _ | refine blk_drew ?_ | refine blk_alloc ?_ _)); refine blk_far ?_ NB154_153.out _; (with_reducible repeat (first | refine blk_drewN ?_ _ | refine blk_drew ?_ | refine blk_alloc ?_ _)); refine blk_far ?_ NB154_160.out _; (with_reducible repeat (first | refine blk_drewN ?_ _ | refine blk_drew ?_ | refine blk_alloc ?_ _)); exact BK154.out⟩, ⟨by repeat (first | (with_reducible first | exact HB.out | apply below_alloc | apply pw_below_drewN | apply below_drew1 | refine below_set ?_ GE153.out | refine below_set ?_ GE154.out | refine below_set ?_ GE157.out | refine below_set ?_ GE160.out) | exact HB.out)⟩⟩
          · replace c15 := Bool.eq_false_iff.mpr c15
            subst c15
            have H1 : (precentorlaw10_AskMany.l0 k1 t152 (Int.tmod (wrap64 (a0)) 300) (wrap64 (1 + (Int.tmod (wrap64 (a1)) 60))) (wrap64 ((wrap64 (1 + (Int.tmod (wrap64 (a1)) 60))) + (Int.tmod (wrap64 (a2)) 20))) (wrap64 (x13_1 + 1)) x14_1 (wrap64 (x15_1 + 1)) t155 t158) = some r := by rw [if_neg (show ¬ (false = true) by decide)] at H; exact H
            clear H
            have H := H1
            clear H1
            have H' := Aside0.mk H
            clear H
            have hnb33 := NB153_154.out
            have hnc33 := NB154_153.out
            have hcz34_0 : wr.cell? ⟨gb153, 0, none⟩ = some (.int .i64 x154000_1) := (blk_cell BK153.out 0).trans rfl
            have hfz34_0 := blk_frozen BK153.out 0
            go_wp2_with (first | ((with_reducible refine gate_callee (f := 10) rfl ?_); refine goesL_ (some 45) rfl rfl Try.func10 (by kernel_rfl) rfl #[.agg #[.int .i64 x154000_1], .int .i64 x15_1, .int .i64 (wrap64 (1 + (Int.tmod (wrap64 (a1)) 60))), .bool true] rfl (by (try simp only [List.map_toArray, List.map_cons, List.map_nil]); first | done | rfl | (simp only [List.length_drop, List.length_take]; rfl)) ?_; (with_reducible refine (ask_Step.calls x154000_1 x15_1 (wrap64 (1 + (Int.tmod (wrap64 (a1)) 60))) true t155 true _ A12.out).mono ?_); rintro e w35 ⟨rfl, hb⟩; refine ⟨_, rfl, ?_⟩; have n0_ := Aside0.mk (blk_below (g := gb153) (o := .cells #[.int .i64 x154000_1] 23 (0, 0)) (by (with_reducible repeat (first | refine blk_drewN ?_ _ | refine blk_drew ?_ | refine blk_alloc ?_ _)); exact BK153.out) hb); have n1_ := Aside0.mk (blk_below (g := gb154) (o := .cells #[.int .i64 x155000_1] 23 (0, 0)) (by (with_reducible repeat (first | refine blk_drewN ?_ _ | refine blk_drew ?_ | refine blk_alloc ?_ _)); exact BK154.out) hb); have n2_ := Aside0.mk (below_step (by repeat (first | (with_reducible first | exact HB.out | apply below_alloc | apply pw_below_drewN | apply below_drew1 | refine below_set ?_ GE153.out | refine below_set ?_ GE154.out) | exact HB.out)) hb); clear BK153; clear BK154; clear HB; have BK153 := n0_; have BK154 := n1_; have HB := n2_; clear n0_ n1_ n2_; (try clear hb); (try clear hb2); (try clear hk); (try clear hi)) | ((with_reducible refine gate_dst (N := 16) rfl ?_); refine box_event ?hg (N := 16) ?hd (cs := #[.int .i64 0]) (t := 23) ?hr ?_; (case hd => rfl); (case hg => rfl); (case hr => first | (go_simp; done) | (go_simp; rfl)); intro gb157 hg w36 hbox hb; have n0_ := Aside0.mk (blk_below (g := gb153) (o := .cells #[.int .i64 x154000_1] 23 (0, 0)) (by (with_reducible repeat (first | refine blk_drewN ?_ _ | refine blk_drew ?_ | refine blk_alloc ?_ _)); exact BK153.out) hb); have n1_ := Aside0.mk (blk_below (g := gb154) (o := .cells #[.int .i64 x155000_1] 23 (0, 0)) (by (with_reducible repeat (first | refine blk_drewN ?_ _ | refine blk_drew ?_ | refine blk_alloc ?_ _)); exact BK154.out) hb); have n2_ := Aside0.mk (below_step (by repeat (first | (with_reducible first | exact HB.out | apply below_alloc | apply pw_below_drewN | apply below_drew1 | refine below_set ?_ GE153.out | refine below_set ?_ GE154.out) | exact HB.out)) hb); have n3_ := Aside0.mk (hbox); have n4_ := Aside0.mk ((by rw [hg]; exact (below_size (by repeat (first | (with_reducible first | exact HB.out | apply below_alloc | apply pw_below_drewN | apply below_drew1 | refine below_set ?_ GE153.out | refine below_set ?_ GE154.out) | exact HB.out))) : w.heap.size ≤ gb157)); have n5_ := Aside0.mk ((by rw [hg]; exact (below_size (by repeat (first | (with_reducible first | exact HB.out | apply below_alloc | apply pw_below_drewN | apply below_drew1 | refine below_set ?_ GE153.out | refine below_set ?_ GE154.out) | exact HB.out))) : w.heap.size ≤ gb157)); have n6_ := Aside0.mk ((by rw [hg]; exact Nat.ne_of_lt (blk_lt (g := gb153) (o := .cells #[.int .i64 x154000_1] 23 (0, 0)) (by (with_reducible repeat (first | refine blk_drewN ?_ _ | refine blk_drew ?_ | refine blk_alloc ?_ _)); exact BK153.out)) : gb153 ≠ gb157)); have n7_ := Aside0.mk ((by rw [hg]; exact Nat.ne_of_gt (blk_lt (g := gb153) (o := .cells #[.int .i64 x154000_1] 23 (0, 0)) (by (with_reducible repeat (first | refine blk_drewN ?_ _ | refine blk_drew ?_ | refine blk_alloc ?_ _)); exact BK153.out)) : gb157 ≠ gb153)); have n8_ := Aside0.mk ((by rw [hg]; exact Nat.ne_of_lt (blk_lt (g := gb154) (o := .cells #[.int .i64 x155000_1] 23 (0, 0)) (by (with_reducible repeat (first | refine blk_drewN ?_ _ | refine blk_drew ?_ | refine blk_alloc ?_ _)); exact BK154.out)) : gb154 ≠ gb157)); have n9_ := Aside0.mk ((by rw [hg]; exact Nat.ne_of_gt (blk_lt (g := gb154) (o := .cells #[.int .i64 x155000_1] 23 (0, 0)) (by (with_reducible repeat (first | refine blk_drewN ?_ _ | refine blk_drew ?_ | refine blk_alloc ?_ _)); exact BK154.out)) : gb157 ≠ gb154)); clear BK153; clear BK154; clear HB; have BK153 := n0_; have BK154 := n1_; have HB := n2_; have BK157 := n3_; have GW157 := n4_; have GE157 := n5_; have NB153_157 := n6_; have NB157_153 := n7_; have NB154_157 := n8_; have NB157_154 := n9_; clear n0_ n1_ n2_ n3_ n4_ n5_ n6_ n7_ n8_ n9_; clear hb hbox hg; have hnb37 := NB157_153.out; have hnc37 := NB153_157.out; have hnb38 := NB157_154.out; have hnc38 := NB154_157.out; have hcz39_0 : w36.cell? ⟨gb157, 0, none⟩ = some (.int .i64 0) := (blk_cell BK157.out 0).trans rfl; have hfz39_0 := blk_frozen BK157.out 0; have hcz40_0 : w36.cell? ⟨gb154, 0, none⟩ = some (.int .i64 x155000_1) := (blk_cell BK154.out 0).trans rfl; have hfz40_0 := blk_frozen BK154.out 0) | ((with_reducible refine gate_callee (f := 10) rfl ?_); refine goesL_ (some 52) rfl rfl Try.func10 (by kernel_rfl) rfl #[.agg #[.int .i64 x155000_1], .int .i64 x15_1, .int .i64 (wrap64 ((wrap64 (1 + (Int.tmod (wrap64 (a1)) 60))) + (Int.tmod (wrap64 (a2)) 20))), .bool true] rfl (by (try simp only [List.map_toArray, List.map_cons, List.map_nil]); first | done | rfl | (simp only [List.length_drop, List.length_take]; rfl)) ?_; (with_reducible refine (ask_Step.calls x155000_1 x15_1 (wrap64 ((wrap64 (1 + (Int.tmod (wrap64 (a1)) 60))) + (Int.tmod (wrap64 (a2)) 20))) true t158 false _ A13.out).mono ?_); rintro e w41 ⟨rfl, hb⟩; refine ⟨_, rfl, ?_⟩; have n0_ := Aside0.mk (blk_below (g := gb153) (o := .cells #[.int .i64 x154000_1] 23 (0, 0)) (by (with_reducible repeat (first | refine blk_drewN ?_ _ | refine blk_drew ?_ | refine blk_alloc ?_ _)); refine blk_far ?_ NB153_157.out _; (with_reducible repeat (first | refine blk_drewN ?_ _ | refine blk_drew ?_ | refine blk_alloc ?_ _)); exact BK153.out) hb); have n1_ := Aside0.mk (blk_below (g := gb154) (o := .cells #[.int .i64 x155000_1] 23 (0, 0)) (by (with_reducible repeat (first | refine blk_drewN ?_ _ | refine blk_drew ?_ | refine blk_alloc ?_ _)); refine blk_far ?_ NB154_157.out _; (with_reducible repeat (first | refine blk_drewN ?_ _ | refine blk_drew ?_ | refine blk_alloc ?_ _)); exact BK154.out) hb); have n2_ := Aside0.mk (blk_below (g := gb157) (o := .cells #[.int .i64 t155] 23 (0, 0)) (by (with_reducible repeat (first | refine blk_drewN ?_ _ | refine blk_drew ?_ | refine blk_alloc ?_ _)); refine blk_put (cs := #[.int .i64 0]) ?_ 0 _ rfl; (with_reducible repeat (first | refine blk_drewN ?_ _ | refine blk_drew ?_ | refine blk_alloc ?_ _)); exact BK157.out) hb); have n3_ := Aside0.mk (below_step (by repeat (first | (with_reducible first | exact HB.out | apply below_alloc | apply pw_below_drewN | apply below_drew1 | refine below_set ?_ GE153.out | refine below_set ?_ GE154.out | refine below_set ?_ GE157.out) | exact HB.out)) hb); clear BK153; clear BK154; clear BK157; clear HB; have BK153 := n0_; have BK154 := n1_; have BK157 := n2_; have HB := n3_; clear n0_ n1_ n2_ n3_; (try clear hb); (try clear hb2); (try clear hk); (try clear hi)) | ((with_reducible refine gate_dst (N := 18) rfl ?_); refine box_event ?hg (N := 18) ?hd (cs := #[.int .i64 0]) (t := 23) ?hr ?_; (case hd => rfl); (case hg => rfl); (case hr => first | (go_simp; done) | (go_simp; rfl)); intro gb160 hg w42 hbox hb; have n0_ := Aside0.mk (blk_below (g := gb153) (o := .cells #[.int .i64 x154000_1] 23 (0, 0)) (by (with_reducible repeat (first | refine blk_drewN ?_ _ | refine blk_drew ?_ | refine blk_alloc ?_ _)); exact BK153.out) hb); have n1_ := Aside0.mk (blk_below (g := gb154) (o := .cells #[.int .i64 x155000_1] 23 (0, 0)) (by (with_reducible repeat (first | refine blk_drewN ?_ _ | refine blk_drew ?_ | refine blk_alloc ?_ _)); exact BK154.out) hb); have n2_ := Aside0.mk (blk_below (g := gb157) (o := .cells #[.int .i64 t155] 23 (0, 0)) (by (with_reducible repeat (first | refine blk_drewN ?_ _ | refine blk_drew ?_ | refine blk_alloc ?_ _)); exact BK157.out) hb); have n3_ := Aside0.mk (below_step (by repeat (first | (with_reducible first | exact HB.out | apply below_alloc | apply pw_below_drewN | apply below_drew1 | refine below_set ?_ GE153.out | refine below_set ?_ GE154.out | refine below_set ?_ GE157.out) | exact HB.out)) hb); have n4_ := Aside0.mk (hbox); have n5_ := Aside0.mk ((by rw [hg]; exact (below_size (by repeat (first | (with_reducible first | exact HB.out | apply below_alloc | apply pw_below_drewN | apply below_drew1 | refine below_set ?_ GE153.out | refine below_set ?_ GE154.out | refine below_set ?_ GE157.out) | exact HB.out))) : w.heap.size ≤ gb160)); have n6_ := Aside0.mk ((by rw [hg]; exact (below_size (by repeat (first | (with_reducible first | exact HB.out | apply below_alloc | apply pw_below_drewN | apply below_drew1 | refine below_set ?_ GE153.out | refine below_set ?_ GE154.out | refine below_set ?_ GE157.out) | exact HB.out))) : w.heap.size ≤ gb160)); have n7_ := Aside0.mk ((by rw [hg]; exact Nat.ne_of_lt (blk_lt (g := gb153) (o := .cells #[.int .i64 x154000_1] 23 (0, 0)) (by (with_reducible repeat (first | refine blk_drewN ?_ _ | refine blk_drew ?_ | refine blk_alloc ?_ _)); exact BK153.out)) : gb153 ≠ gb160)); have n8_ := Aside0.mk ((by rw [hg]; exact Nat.ne_of_gt (blk_lt (g := gb153) (o := .cells #[.int .i64 x154000_1] 23 (0, 0)) (by (with_reducible repeat (first | refine blk_drewN ?_ _ | refine blk_drew ?_ | refine blk_alloc ?_ _)); exact BK153.out)) : gb160 ≠ gb153)); have n9_ := Aside0.mk ((by rw [hg]; exact Nat.ne_of_lt (blk_lt (g := gb154) (o := .cells #[.int .i64 x155000_1] 23 (0, 0)) (by (with_reducible repeat (first | refine blk_drewN ?_ _ | refine blk_drew ?_ | refine blk_alloc ?_ _)); exact BK154.out)) : gb154 ≠ gb160)); have n10_ := Aside0.mk ((by rw [hg]; exact Nat.ne_of_gt (blk_lt (g := gb154) (o := .cells #[.int .i64 x155000_1] 23 (0, 0)) (by (with_reducible repeat (first | refine blk_drewN ?_ _ | refine blk_drew ?_ | refine blk_alloc ?_ _)); exact BK154.out)) : gb160 ≠ gb154)); have n11_ := Aside0.mk ((by rw [hg]; exact Nat.ne_of_lt (blk_lt (g := gb157) (o := .cells #[.int .i64 t155] 23 (0, 0)) (by (with_reducible repeat (first | refine blk_drewN ?_ _ | refine blk_drew ?_ | refine blk_alloc ?_ _)); exact BK157.out)) : gb157 ≠ gb160)); have n12_ := Aside0.mk ((by rw [hg]; exact Nat.ne_of_gt (blk_lt (g := gb157) (o := .cells #[.int .i64 t155] 23 (0, 0)) (by (with_reducible repeat (first | refine blk_drewN ?_ _ | refine blk_drew ?_ | refine blk_alloc ?_ _)); exact BK157.out)) : gb160 ≠ gb157)); clear BK153; clear BK154; clear BK157; clear HB; have BK153 := n0_; have BK154 := n1_; have BK157 := n2_; have HB := n3_; have BK160 := n4_; have GW160 := n5_; have GE160 := n6_; have NB153_160 := n7_; have NB160_153 := n8_; have NB154_160 := n9_; have NB160_154 := n10_; have NB157_160 := n11_; have NB160_157 := n12_; clear n0_ n1_ n2_ n3_ n4_ n5_ n6_ n7_ n8_ n9_ n10_ n11_ n12_; clear hb hbox hg; have hnb43 := NB160_153.out; have hnc43 := NB153_160.out; have hnb44 := NB160_154.out; have hnc44 := NB154_160.out; have hnb45 := NB160_157.out; have hnc45 := NB157_160.out; have hcz46_0 : w42.cell? ⟨gb160, 0, none⟩ = some (.int .i64 0) := (blk_cell BK160.out 0).trans rfl; have hfz46_0 := blk_frozen BK160.out 0; have hcz47_0 : w42.cell? ⟨gb157, 0, none⟩ = some (.int .i64 t155) := (blk_cell BK157.out 0).trans rfl; have hfz47_0 := blk_frozen BK157.out 0; have hcz48_0 : w42.cell? ⟨gb153, 0, none⟩ = some (.int .i64 x154000_1) := (blk_cell BK153.out 0).trans rfl; have hfz48_0 := blk_frozen BK153.out 0; have hcz49_0 : w42.cell? ⟨gb154, 0, none⟩ = some (.int .i64 x155000_1) := (blk_cell BK154.out 0).trans rfl; have hfz49_0 := blk_frozen BK154.out 0))
            go_roundg k1
            case measure => have := HK1.out; omega
            case rel => exact ⟨(wrap64 (x13_1 + 1)), (x14_1), (wrap64 (x15_1 + 1)), (t155), (t158), (by first | rfl | (simp; done) | (simp [*]; done)), (by first | rfl | (simp; done) | (simp [*]; done)), (by first | rfl | (simp; done) | (simp [*]; done)), H', ⟨by have := HK1.out; omega⟩, ⟨by (with_reducible repeat (first | refine blk_drewN ?_ _ | refine blk_drew ?_ | refine blk_alloc ?_ _)); refine blk_far ?_ NB153_154.out _; (with_reducible repeat (first | refine blk_drewN ?_ _ | refine blk_drew ?_ | refine blk_alloc ?_ _)); refine blk_put (cs := #[.int .i64 x154000_1]) ?_ 0 _ rfl; (with_reducible repeat (first | refine blk_drewN ?_ _ | refine blk_drew ?_ | refine blk_alloc ?_ _)); refine blk_far ?_ NB153_160.out _; (with_reducible repeat (first | refine blk_drewN ?_ _ | refine blk_drew ?_ | refine blk_alloc ?_ _)); exact BK153.out⟩, ⟨by (with_reducible repeat (first | refine blk_drewN ?_ _ | refine blk_drew ?_ | refine blk_alloc ?_ _)); refine blk_put (cs := #[.int .i64 x155000_1]) ?_ 0 _ rfl; (with_reducible repeat (first | refine blk_drewN ?_ _ | refine blk_drew ?_ | refine blk_alloc ?_ _)); refine blk_far ?_ NB154_153.out _; (with_reducible repeat (first | refine blk_drewN ?_ _ | refine blk_drew ?_ | refine blk_alloc ?_ _)); refine blk_far ?_ NB154_160.out _; (with_reducible repeat (first | refine blk_drewN ?_ _ | refine blk_drew ?_ | refine blk_alloc ?_ _)); exact BK154.out⟩, ⟨by repeat (first | (with_reducible first | exact HB.out | apply below_alloc | apply pw_below_drewN | apply below_drew1 | refine below_set ?_ GE153.out | refine below_set ?_ GE154.out | refine below_set ?_ GE157.out | refine below_set ?_ GE160.out) | exact HB.out)⟩⟩
        · replace c14 := Bool.eq_false_iff.mpr c14
          subst c14
          have H1 : (if t159 = true then (precentorlaw10_AskMany.l0 k1 t152 (Int.tmod (wrap64 (a0)) 300) (wrap64 (1 + (Int.tmod (wrap64 (a1)) 60))) (wrap64 ((wrap64 (1 + (Int.tmod (wrap64 (a1)) 60))) + (Int.tmod (wrap64 (a2)) 20))) x13_1 (wrap64 (x14_1 + 1)) (wrap64 (x15_1 + 1)) t155 t158) else (precentorlaw10_AskMany.l0 k1 t152 (Int.tmod (wrap64 (a0)) 300) (wrap64 (1 + (Int.tmod (wrap64 (a1)) 60))) (wrap64 ((wrap64 (1 + (Int.tmod (wrap64 (a1)) 60))) + (Int.tmod (wrap64 (a2)) 20))) x13_1 x14_1 (wrap64 (x15_1 + 1)) t155 t158)) = some r := by rw [if_neg (show ¬ (false = true) by decide)] at H; exact H
          clear H
          have H := H1
          clear H1
          by_cases c50 : t159 = true
          · subst c50
            have H1 : (precentorlaw10_AskMany.l0 k1 t152 (Int.tmod (wrap64 (a0)) 300) (wrap64 (1 + (Int.tmod (wrap64 (a1)) 60))) (wrap64 ((wrap64 (1 + (Int.tmod (wrap64 (a1)) 60))) + (Int.tmod (wrap64 (a2)) 20))) x13_1 (wrap64 (x14_1 + 1)) (wrap64 (x15_1 + 1)) t155 t158) = some r := by rw [if_pos rfl] at H; exact H
            clear H
            have H := H1
            clear H1
            have H' := Aside0.mk H
            clear H
            have hnb51 := NB153_154.out
            have hnc51 := NB154_153.out
            have hcz52_0 : wr.cell? ⟨gb153, 0, none⟩ = some (.int .i64 x154000_1) := (blk_cell BK153.out 0).trans rfl
            have hfz52_0 := blk_frozen BK153.out 0
            go_wp2_with (first | ((with_reducible refine gate_callee (f := 10) rfl ?_); refine goesL_ (some 45) rfl rfl Try.func10 (by kernel_rfl) rfl #[.agg #[.int .i64 x154000_1], .int .i64 x15_1, .int .i64 (wrap64 (1 + (Int.tmod (wrap64 (a1)) 60))), .bool true] rfl (by (try simp only [List.map_toArray, List.map_cons, List.map_nil]); first | done | rfl | (simp only [List.length_drop, List.length_take]; rfl)) ?_; (with_reducible refine (ask_Step.calls x154000_1 x15_1 (wrap64 (1 + (Int.tmod (wrap64 (a1)) 60))) true t155 false _ A12.out).mono ?_); rintro e w53 ⟨rfl, hb⟩; refine ⟨_, rfl, ?_⟩; have n0_ := Aside0.mk (blk_below (g := gb153) (o := .cells #[.int .i64 x154000_1] 23 (0, 0)) (by (with_reducible repeat (first | refine blk_drewN ?_ _ | refine blk_drew ?_ | refine blk_alloc ?_ _)); exact BK153.out) hb); have n1_ := Aside0.mk (blk_below (g := gb154) (o := .cells #[.int .i64 x155000_1] 23 (0, 0)) (by (with_reducible repeat (first | refine blk_drewN ?_ _ | refine blk_drew ?_ | refine blk_alloc ?_ _)); exact BK154.out) hb); have n2_ := Aside0.mk (below_step (by repeat (first | (with_reducible first | exact HB.out | apply below_alloc | apply pw_below_drewN | apply below_drew1 | refine below_set ?_ GE153.out | refine below_set ?_ GE154.out) | exact HB.out)) hb); clear BK153; clear BK154; clear HB; have BK153 := n0_; have BK154 := n1_; have HB := n2_; clear n0_ n1_ n2_; (try clear hb); (try clear hb2); (try clear hk); (try clear hi)) | ((with_reducible refine gate_dst (N := 16) rfl ?_); refine box_event ?hg (N := 16) ?hd (cs := #[.int .i64 0]) (t := 23) ?hr ?_; (case hd => rfl); (case hg => rfl); (case hr => first | (go_simp; done) | (go_simp; rfl)); intro gb157 hg w54 hbox hb; have n0_ := Aside0.mk (blk_below (g := gb153) (o := .cells #[.int .i64 x154000_1] 23 (0, 0)) (by (with_reducible repeat (first | refine blk_drewN ?_ _ | refine blk_drew ?_ | refine blk_alloc ?_ _)); exact BK153.out) hb); have n1_ := Aside0.mk (blk_below (g := gb154) (o := .cells #[.int .i64 x155000_1] 23 (0, 0)) (by (with_reducible repeat (first | refine blk_drewN ?_ _ | refine blk_drew ?_ | refine blk_alloc ?_ _)); exact BK154.out) hb); have n2_ := Aside0.mk (below_step (by repeat (first | (with_reducible first | exact HB.out | apply below_alloc | apply pw_below_drewN | apply below_drew1 | refine below_set ?_ GE153.out | refine below_set ?_ GE154.out) | exact HB.out)) hb); have n3_ := Aside0.mk (hbox); have n4_ := Aside0.mk ((by rw [hg]; exact (below_size (by repeat (first | (with_reducible first | exact HB.out | apply below_alloc | apply pw_below_drewN | apply below_drew1 | refine below_set ?_ GE153.out | refine below_set ?_ GE154.out) | exact HB.out))) : w.heap.size ≤ gb157)); have n5_ := Aside0.mk ((by rw [hg]; exact (below_size (by repeat (first | (with_reducible first | exact HB.out | apply below_alloc | apply pw_below_drewN | apply below_drew1 | refine below_set ?_ GE153.out | refine below_set ?_ GE154.out) | exact HB.out))) : w.heap.size ≤ gb157)); have n6_ := Aside0.mk ((by rw [hg]; exact Nat.ne_of_lt (blk_lt (g := gb153) (o := .cells #[.int .i64 x154000_1] 23 (0, 0)) (by (with_reducible repeat (first | refine blk_drewN ?_ _ | refine blk_drew ?_ | refine blk_alloc ?_ _)); exact BK153.out)) : gb153 ≠ gb157)); have n7_ := Aside0.mk ((by rw [hg]; exact Nat.ne_of_gt (blk_lt (g := gb153) (o := .cells #[.int .i64 x154000_1] 23 (0, 0)) (by (with_reducible repeat (first | refine blk_drewN ?_ _ | refine blk_drew ?_ | refine blk_alloc ?_ _)); exact BK153.out)) : gb157 ≠ gb153)); have n8_ := Aside0.mk ((by rw [hg]; exact Nat.ne_of_lt (blk_lt (g := gb154) (o := .cells #[.int .i64 x155000_1] 23 (0, 0)) (by (with_reducible repeat (first | refine blk_drewN ?_ _ | refine blk_drew ?_ | refine blk_alloc ?_ _)); exact BK154.out)) : gb154 ≠ gb157)); have n9_ := Aside0.mk ((by rw [hg]; exact Nat.ne_of_gt (blk_lt (g := gb154) (o := .cells #[.int .i64 x155000_1] 23 (0, 0)) (by (with_reducible repeat (first | refine blk_drewN ?_ _ | refine blk_drew ?_ | refine blk_alloc ?_ _)); exact BK154.out)) : gb157 ≠ gb154)); clear BK153; clear BK154; clear HB; have BK153 := n0_; have BK154 := n1_; have HB := n2_; have BK157 := n3_; have GW157 := n4_; have GE157 := n5_; have NB153_157 := n6_; have NB157_153 := n7_; have NB154_157 := n8_; have NB157_154 := n9_; clear n0_ n1_ n2_ n3_ n4_ n5_ n6_ n7_ n8_ n9_; clear hb hbox hg; have hnb55 := NB157_153.out; have hnc55 := NB153_157.out; have hnb56 := NB157_154.out; have hnc56 := NB154_157.out; have hcz57_0 : w54.cell? ⟨gb157, 0, none⟩ = some (.int .i64 0) := (blk_cell BK157.out 0).trans rfl; have hfz57_0 := blk_frozen BK157.out 0; have hcz58_0 : w54.cell? ⟨gb154, 0, none⟩ = some (.int .i64 x155000_1) := (blk_cell BK154.out 0).trans rfl; have hfz58_0 := blk_frozen BK154.out 0) | ((with_reducible refine gate_callee (f := 10) rfl ?_); refine goesL_ (some 52) rfl rfl Try.func10 (by kernel_rfl) rfl #[.agg #[.int .i64 x155000_1], .int .i64 x15_1, .int .i64 (wrap64 ((wrap64 (1 + (Int.tmod (wrap64 (a1)) 60))) + (Int.tmod (wrap64 (a2)) 20))), .bool true] rfl (by (try simp only [List.map_toArray, List.map_cons, List.map_nil]); first | done | rfl | (simp only [List.length_drop, List.length_take]; rfl)) ?_; (with_reducible refine (ask_Step.calls x155000_1 x15_1 (wrap64 ((wrap64 (1 + (Int.tmod (wrap64 (a1)) 60))) + (Int.tmod (wrap64 (a2)) 20))) true t158 true _ A13.out).mono ?_); rintro e w59 ⟨rfl, hb⟩; refine ⟨_, rfl, ?_⟩; have n0_ := Aside0.mk (blk_below (g := gb153) (o := .cells #[.int .i64 x154000_1] 23 (0, 0)) (by (with_reducible repeat (first | refine blk_drewN ?_ _ | refine blk_drew ?_ | refine blk_alloc ?_ _)); refine blk_far ?_ NB153_157.out _; (with_reducible repeat (first | refine blk_drewN ?_ _ | refine blk_drew ?_ | refine blk_alloc ?_ _)); exact BK153.out) hb); have n1_ := Aside0.mk (blk_below (g := gb154) (o := .cells #[.int .i64 x155000_1] 23 (0, 0)) (by (with_reducible repeat (first | refine blk_drewN ?_ _ | refine blk_drew ?_ | refine blk_alloc ?_ _)); refine blk_far ?_ NB154_157.out _; (with_reducible repeat (first | refine blk_drewN ?_ _ | refine blk_drew ?_ | refine blk_alloc ?_ _)); exact BK154.out) hb); have n2_ := Aside0.mk (blk_below (g := gb157) (o := .cells #[.int .i64 t155] 23 (0, 0)) (by (with_reducible repeat (first | refine blk_drewN ?_ _ | refine blk_drew ?_ | refine blk_alloc ?_ _)); refine blk_put (cs := #[.int .i64 0]) ?_ 0 _ rfl; (with_reducible repeat (first | refine blk_drewN ?_ _ | refine blk_drew ?_ | refine blk_alloc ?_ _)); exact BK157.out) hb); have n3_ := Aside0.mk (below_step (by repeat (first | (with_reducible first | exact HB.out | apply below_alloc | apply pw_below_drewN | apply below_drew1 | refine below_set ?_ GE153.out | refine below_set ?_ GE154.out | refine below_set ?_ GE157.out) | exact HB.out)) hb); clear BK153; clear BK154; clear BK157; clear HB; have BK153 := n0_; have BK154 := n1_; have BK157 := n2_; have HB := n3_; clear n0_ n1_ n2_ n3_; (try clear hb); (try clear hb2); (try clear hk); (try clear hi)) | ((with_reducible refine gate_dst (N := 18) rfl ?_); refine box_event ?hg (N := 18) ?hd (cs := #[.int .i64 0]) (t := 23) ?hr ?_; (case hd => rfl); (case hg => rfl); (case hr => first | (go_simp; done) | (go_simp; rfl)); intro gb160 hg w60 hbox hb; have n0_ := Aside0.mk (blk_below (g := gb153) (o := .cells #[.int .i64 x154000_1] 23 (0, 0)) (by (with_reducible repeat (first | refine blk_drewN ?_ _ | refine blk_drew ?_ | refine blk_alloc ?_ _)); exact BK153.out) hb); have n1_ := Aside0.mk (blk_below (g := gb154) (o := .cells #[.int .i64 x155000_1] 23 (0, 0)) (by (with_reducible repeat (first | refine blk_drewN ?_ _ | refine blk_drew ?_ | refine blk_alloc ?_ _)); exact BK154.out) hb); have n2_ := Aside0.mk (blk_below (g := gb157) (o := .cells #[.int .i64 t155] 23 (0, 0)) (by (with_reducible repeat (first | refine blk_drewN ?_ _ | refine blk_drew ?_ | refine blk_alloc ?_ _)); exact BK157.out) hb); have n3_ := Aside0.mk (below_step (by repeat (first | (with_reducible first | exact HB.out | apply below_alloc | apply pw_below_drewN | apply below_drew1 | refine below_set ?_ GE153.out | refine below_set ?_ GE154.out | refine below_set ?_ GE157.out) | exact HB.out)) hb); have n4_ := Aside0.mk (hbox); have n5_ := Aside0.mk ((by rw [hg]; exact (below_size (by repeat (first | (with_reducible first | exact HB.out | apply below_alloc | apply pw_below_drewN | apply below_drew1 | refine below_set ?_ GE153.out | refine below_set ?_ GE154.out | refine below_set ?_ GE157.out) | exact HB.out))) : w.heap.size ≤ gb160)); have n6_ := Aside0.mk ((by rw [hg]; exact (below_size (by repeat (first | (with_reducible first | exact HB.out | apply below_alloc | apply pw_below_drewN | apply below_drew1 | refine below_set ?_ GE153.out | refine below_set ?_ GE154.out | refine below_set ?_ GE157.out) | exact HB.out))) : w.heap.size ≤ gb160)); have n7_ := Aside0.mk ((by rw [hg]; exact Nat.ne_of_lt (blk_lt (g := gb153) (o := .cells #[.int .i64 x154000_1] 23 (0, 0)) (by (with_reducible repeat (first | refine blk_drewN ?_ _ | refine blk_drew ?_ | refine blk_alloc ?_ _)); exact BK153.out)) : gb153 ≠ gb160)); have n8_ := Aside0.mk ((by rw [hg]; exact Nat.ne_of_gt (blk_lt (g := gb153) (o := .cells #[.int .i64 x154000_1] 23 (0, 0)) (by (with_reducible repeat (first | refine blk_drewN ?_ _ | refine blk_drew ?_ | refine blk_alloc ?_ _)); exact BK153.out)) : gb160 ≠ gb153)); have n9_ := Aside0.mk ((by rw [hg]; exact Nat.ne_of_lt (blk_lt (g := gb154) (o := .cells #[.int .i64 x155000_1] 23 (0, 0)) (by (with_reducible repeat (first | refine blk_drewN ?_ _ | refine blk_drew ?_ | refine blk_alloc ?_ _)); exact BK154.out)) : gb154 ≠ gb160)); have n10_ := Aside0.mk ((by rw [hg]; exact Nat.ne_of_gt (blk_lt (g := gb154) (o := .cells #[.int .i64 x155000_1] 23 (0, 0)) (by (with_reducible repeat (first | refine blk_drewN ?_ _ | refine blk_drew ?_ | refine blk_alloc ?_ _)); exact BK154.out)) : gb160 ≠ gb154)); have n11_ := Aside0.mk ((by rw [hg]; exact Nat.ne_of_lt (blk_lt (g := gb157) (o := .cells #[.int .i64 t155] 23 (0, 0)) (by (with_reducible repeat (first | refine blk_drewN ?_ _ | refine blk_drew ?_ | refine blk_alloc ?_ _)); exact BK157.out)) : gb157 ≠ gb160)); have n12_ := Aside0.mk ((by rw [hg]; exact Nat.ne_of_gt (blk_lt (g := gb157) (o := .cells #[.int .i64 t155] 23 (0, 0)) (by (with_reducible repeat (first | refine blk_drewN ?_ _ | refine blk_drew ?_ | refine blk_alloc ?_ _)); exact BK157.out)) : gb160 ≠ gb157)); clear BK153; clear BK154; clear BK157; clear HB; have BK153 := n0_; have BK154 := n1_; have BK157 := n2_; have HB := n3_; have BK160 := n4_; have GW160 := n5_; have GE160 := n6_; have NB153_160 := n7_; have NB160_153 := n8_; have NB154_160 := n9_; have NB160_154 := n10_; have NB157_160 := n11_; have NB160_157 := n12_; clear n0_ n1_ n2_ n3_ n4_ n5_ n6_ n7_ n8_ n9_ n10_ n11_ n12_; clear hb hbox hg; have hnb61 := NB160_153.out; have hnc61 := NB153_160.out; have hnb62 := NB160_154.out; have hnc62 := NB154_160.out; have hnb63 := NB160_157.out; have hnc63 := NB157_160.out; have hcz64_0 : w60.cell? ⟨gb160, 0, none⟩ = some (.int .i64 0) := (blk_cell BK160.out 0).trans rfl; have hfz64_0 := blk_frozen BK160.out 0; have hcz65_0 : w60.cell? ⟨gb157, 0, none⟩ = some (.int .i64 t155) := (blk_cell BK157.out 0).trans rfl; have hfz65_0 := blk_frozen BK157.out 0; have hcz66_0 : w60.cell? ⟨gb153, 0, none⟩ = some (.int .i64 x154000_1) := (blk_cell BK153.out 0).trans rfl; have hfz66_0 := blk_frozen BK153.out 0; have hcz67_0 : w60.cell? ⟨gb154, 0, none⟩ = some (.int .i64 x155000_1) := (blk_cell BK154.out 0).trans rfl; have hfz67_0 := blk_frozen BK154.out 0))
            go_roundg k1
            case measure => have := HK1.out; omega
            case rel => exact ⟨(x13_1), (wrap64 (x14_1 + 1)), (wrap64 (x15_1 + 1)), (t155), (t158), (by first | rfl | (simp; done) | (simp [*]; done)), (by first | rfl | (simp; done) | (simp [*]; done)), (by first | rfl | (simp; done) | (simp [*]; done)), H', ⟨by have := HK1.out; omega⟩, ⟨by (with_reducible repeat (first | refine blk_drewN ?_ _ | refine blk_drew ?_ | refine blk_alloc ?_ _)); refine blk_far ?_ NB153_154.out _; (with_reducible repeat (first | refine blk_drewN ?_ _ | refine blk_drew ?_ | refine blk_alloc ?_ _)); refine blk_put (cs := #[.int .i64 x154000_1]) ?_ 0 _ rfl; (with_reducible repeat (first | refine blk_drewN ?_ _ | refine blk_drew ?_ | refine blk_alloc ?_ _)); refine blk_far ?_ NB153_160.out _; (with_reducible repeat (first | refine blk_drewN ?_ _ | refine blk_drew ?_ | refine blk_alloc ?_ _)); exact BK153.out⟩, ⟨by (with_reducible repeat (first | refine blk_drewN ?_ _ | refine blk_drew ?_ | refine blk_alloc ?_ _)); refine blk_put (cs := #[.int .i64 x155000_1]) ?_ 0 _ rfl; (with_reducible repeat (first | refine blk_drewN ?_ _ | refine blk_drew ?_ | refine blk_alloc ?_ _)); refine blk_far ?_ NB154_153.out _; (with_reducible repeat (first | refine blk_drewN ?_ _ | refine blk_drew ?_ | refine blk_alloc ?_ _)); refine blk_far ?_ NB154_160.out _; (with_reducible repeat (first | refine blk_drewN ?_ _ | refine blk_drew ?_ | refine blk_alloc ?_ _)); exact BK154.out⟩, ⟨by repeat (first | (with_reducible first | exact HB.out | apply below_alloc | apply pw_below_drewN | apply below_drew1 | refine below_set ?_ GE153.out | refine below_set ?_ GE154.out | refine below_set ?_ GE157.out | refine below_set ?_ GE160.out) | exact HB.out)⟩⟩
          · replace c50 := Bool.eq_false_iff.mpr c50
            subst c50
            have H1 : (precentorlaw10_AskMany.l0 k1 t152 (Int.tmod (wrap64 (a0)) 300) (wrap64 (1 + (Int.tmod (wrap64 (a1)) 60))) (wrap64 ((wrap64 (1 + (Int.tmod (wrap64 (a1)) 60))) + (Int.tmod (wrap64 (a2)) 20))) x13_1 x14_1 (wrap64 (x15_1 + 1)) t155 t158) = some r := by rw [if_neg (show ¬ (false = true) by decide)] at H; exact H
            clear H
            have H := H1
            clear H1
            have H' := Aside0.mk H
            clear H
            have hnb68 := NB153_154.out
            have hnc68 := NB154_153.out
            have hcz69_0 : wr.cell? ⟨gb153, 0, none⟩ = some (.int .i64 x154000_1) := (blk_cell BK153.out 0).trans rfl
            have hfz69_0 := blk_frozen BK153.out 0
            go_wp2_with (first | ((with_reducible refine gate_callee (f := 10) rfl ?_); refine goesL_ (some 45) rfl rfl Try.func10 (by kernel_rfl) rfl #[.agg #[.int .i64 x154000_1], .int .i64 x15_1, .int .i64 (wrap64 (1 + (Int.tmod (wrap64 (a1)) 60))), .bool true] rfl (by (try simp only [List.map_toArray, List.map_cons, List.map_nil]); first | done | rfl | (simp only [List.length_drop, List.length_take]; rfl)) ?_; (with_reducible refine (ask_Step.calls x154000_1 x15_1 (wrap64 (1 + (Int.tmod (wrap64 (a1)) 60))) true t155 false _ A12.out).mono ?_); rintro e w70 ⟨rfl, hb⟩; refine ⟨_, rfl, ?_⟩; have n0_ := Aside0.mk (blk_below (g := gb153) (o := .cells #[.int .i64 x154000_1] 23 (0, 0)) (by (with_reducible repeat (first | refine blk_drewN ?_ _ | refine blk_drew ?_ | refine blk_alloc ?_ _)); exact BK153.out) hb); have n1_ := Aside0.mk (blk_below (g := gb154) (o := .cells #[.int .i64 x155000_1] 23 (0, 0)) (by (with_reducible repeat (first | refine blk_drewN ?_ _ | refine blk_drew ?_ | refine blk_alloc ?_ _)); exact BK154.out) hb); have n2_ := Aside0.mk (below_step (by repeat (first | (with_reducible first | exact HB.out | apply below_alloc | apply pw_below_drewN | apply below_drew1 | refine below_set ?_ GE153.out | refine below_set ?_ GE154.out) | exact HB.out)) hb); clear BK153; clear BK154; clear HB; have BK153 := n0_; have BK154 := n1_; have HB := n2_; clear n0_ n1_ n2_; (try clear hb); (try clear hb2); (try clear hk); (try clear hi)) | ((with_reducible refine gate_dst (N := 16) rfl ?_); refine box_event ?hg (N := 16) ?hd (cs := #[.int .i64 0]) (t := 23) ?hr ?_; (case hd => rfl); (case hg => rfl); (case hr => first | (go_simp; done) | (go_simp; rfl)); intro gb157 hg w71 hbox hb; have n0_ := Aside0.mk (blk_below (g := gb153) (o := .cells #[.int .i64 x154000_1] 23 (0, 0)) (by (with_reducible repeat (first | refine blk_drewN ?_ _ | refine blk_drew ?_ | refine blk_alloc ?_ _)); exact BK153.out) hb); have n1_ := Aside0.mk (blk_below (g := gb154) (o := .cells #[.int .i64 x155000_1] 23 (0, 0)) (by (with_reducible repeat (first | refine blk_drewN ?_ _ | refine blk_drew ?_ | refine blk_alloc ?_ _)); exact BK154.out) hb); have n2_ := Aside0.mk (below_step (by repeat (first | (with_reducible first | exact HB.out | apply below_alloc | apply pw_below_drewN | apply below_drew1 | refine below_set ?_ GE153.out | refine below_set ?_ GE154.out) | exact HB.out)) hb); have n3_ := Aside0.mk (hbox); have n4_ := Aside0.mk ((by rw [hg]; exact (below_size (by repeat (first | (with_reducible first | exact HB.out | apply below_alloc | apply pw_below_drewN | apply below_drew1 | refine below_set ?_ GE153.out | refine below_set ?_ GE154.out) | exact HB.out))) : w.heap.size ≤ gb157)); have n5_ := Aside0.mk ((by rw [hg]; exact (below_size (by repeat (first | (with_reducible first | exact HB.out | apply below_alloc | apply pw_below_drewN | apply below_drew1 | refine below_set ?_ GE153.out | refine below_set ?_ GE154.out) | exact HB.out))) : w.heap.size ≤ gb157)); have n6_ := Aside0.mk ((by rw [hg]; exact Nat.ne_of_lt (blk_lt (g := gb153) (o := .cells #[.int .i64 x154000_1] 23 (0, 0)) (by (with_reducible repeat (first | refine blk_drewN ?_ _ | refine blk_drew ?_ | refine blk_alloc ?_ _)); exact BK153.out)) : gb153 ≠ gb157)); have n7_ := Aside0.mk ((by rw [hg]; exact Nat.ne_of_gt (blk_lt (g := gb153) (o := .cells #[.int .i64 x154000_1] 23 (0, 0)) (by (with_reducible repeat (first | refine blk_drewN ?_ _ | refine blk_drew ?_ | refine blk_alloc ?_ _)); exact BK153.out)) : gb157 ≠ gb153)); have n8_ := Aside0.mk ((by rw [hg]; exact Nat.ne_of_lt (blk_lt (g := gb154) (o := .cells #[.int .i64 x155000_1] 23 (0, 0)) (by (with_reducible repeat (first | refine blk_drewN ?_ _ | refine blk_drew ?_ | refine blk_alloc ?_ _)); exact BK154.out)) : gb154 ≠ gb157)); have n9_ := Aside0.mk ((by rw [hg]; exact Nat.ne_of_gt (blk_lt (g := gb154) (o := .cells #[.int .i64 x155000_1] 23 (0, 0)) (by (with_reducible repeat (first | refine blk_drewN ?_ _ | refine blk_drew ?_ | refine blk_alloc ?_ _)); exact BK154.out)) : gb157 ≠ gb154)); clear BK153; clear BK154; clear HB; have BK153 := n0_; have BK154 := n1_; have HB := n2_; have BK157 := n3_; have GW157 := n4_; have GE157 := n5_; have NB153_157 := n6_; have NB157_153 := n7_; have NB154_157 := n8_; have NB157_154 := n9_; clear n0_ n1_ n2_ n3_ n4_ n5_ n6_ n7_ n8_ n9_; clear hb hbox hg; have hnb72 := NB157_153.out; have hnc72 := NB153_157.out; have hnb73 := NB157_154.out; have hnc73 := NB154_157.out; have hcz74_0 : w71.cell? ⟨gb157, 0, none⟩ = some (.int .i64 0) := (blk_cell BK157.out 0).trans rfl; have hfz74_0 := blk_frozen BK157.out 0; have hcz75_0 : w71.cell? ⟨gb154, 0, none⟩ = some (.int .i64 x155000_1) := (blk_cell BK154.out 0).trans rfl; have hfz75_0 := blk_frozen BK154.out 0) | ((with_reducible refine gate_callee (f := 10) rfl ?_); refine goesL_ (some 52) rfl rfl Try.func10 (by kernel_rfl) rfl #[.agg #[.int .i64 x155000_1], .int .i64 x15_1, .int .i64 (wrap64 ((wrap64 (1 + (Int.tmod (wrap64 (a1)) 60))) + (Int.tmod (wrap64 (a2)) 20))), .bool true] rfl (by (try simp only [List.map_toArray, List.map_cons, List.map_nil]); first | done | rfl | (simp only [List.length_drop, List.length_take]; rfl)) ?_; (with_reducible refine (ask_Step.calls x155000_1 x15_1 (wrap64 ((wrap64 (1 + (Int.tmod (wrap64 (a1)) 60))) + (Int.tmod (wrap64 (a2)) 20))) true t158 false _ A13.out).mono ?_); rintro e w76 ⟨rfl, hb⟩; refine ⟨_, rfl, ?_⟩; have n0_ := Aside0.mk (blk_below (g := gb153) (o := .cells #[.int .i64 x154000_1] 23 (0, 0)) (by (with_reducible repeat (first | refine blk_drewN ?_ _ | refine blk_drew ?_ | refine blk_alloc ?_ _)); refine blk_far ?_ NB153_157.out _; (with_reducible repeat (first | refine blk_drewN ?_ _ | refine blk_drew ?_ | refine blk_alloc ?_ _)); exact BK153.out) hb); have n1_ := Aside0.mk (blk_below (g := gb154) (o := .cells #[.int .i64 x155000_1] 23 (0, 0)) (by (with_reducible repeat (first | refine blk_drewN ?_ _ | refine blk_drew ?_ | refine blk_alloc ?_ _)); refine blk_far ?_ NB154_157.out _; (with_reducible repeat (first | refine blk_drewN ?_ _ | refine blk_drew ?_ | refine blk_alloc ?_ _)); exact BK154.out) hb); have n2_ := Aside0.mk (blk_below (g := gb157) (o := .cells #[.int .i64 t155] 23 (0, 0)) (by (with_reducible repeat (first | refine blk_drewN ?_ _ | refine blk_drew ?_ | refine blk_alloc ?_ _)); refine blk_put (cs := #[.int .i64 0]) ?_ 0 _ rfl; (with_reducible repeat (first | refine blk_drewN ?_ _ | refine blk_drew ?_ | refine blk_alloc ?_ _)); exact BK157.out) hb); have n3_ := Aside0.mk (below_step (by repeat (first | (with_reducible first | exact HB.out | apply below_alloc | apply pw_below_drewN | apply below_drew1 | refine below_set ?_ GE153.out | refine below_set ?_ GE154.out | refine below_set ?_ GE157.out) | exact HB.out)) hb); clear BK153; clear BK154; clear BK157; clear HB; have BK153 := n0_; have BK154 := n1_; have BK157 := n2_; have HB := n3_; clear n0_ n1_ n2_ n3_; (try clear hb); (try clear hb2); (try clear hk); (try clear hi)) | ((with_reducible refine gate_dst (N := 18) rfl ?_); refine box_event ?hg (N := 18) ?hd (cs := #[.int .i64 0]) (t := 23) ?hr ?_; (case hd => rfl); (case hg => rfl); (case hr => first | (go_simp; done) | (go_simp; rfl)); intro gb160 hg w77 hbox hb; have n0_ := Aside0.mk (blk_below (g := gb153) (o := .cells #[.int .i64 x154000_1] 23 (0, 0)) (by (with_reducible repeat (first | refine blk_drewN ?_ _ | refine blk_drew ?_ | refine blk_alloc ?_ _)); exact BK153.out) hb); have n1_ := Aside0.mk (blk_below (g := gb154) (o := .cells #[.int .i64 x155000_1] 23 (0, 0)) (by (with_reducible repeat (first | refine blk_drewN ?_ _ | refine blk_drew ?_ | refine blk_alloc ?_ _)); exact BK154.out) hb); have n2_ := Aside0.mk (blk_below (g := gb157) (o := .cells #[.int .i64 t155] 23 (0, 0)) (by (with_reducible repeat (first | refine blk_drewN ?_ _ | refine blk_drew ?_ | refine blk_alloc ?_ _)); exact BK157.out) hb); have n3_ := Aside0.mk (below_step (by repeat (first | (with_reducible first | exact HB.out | apply below_alloc | apply pw_below_drewN | apply below_drew1 | refine below_set ?_ GE153.out | refine below_set ?_ GE154.out | refine below_set ?_ GE157.out) | exact HB.out)) hb); have n4_ := Aside0.mk (hbox); have n5_ := Aside0.mk ((by rw [hg]; exact (below_size (by repeat (first | (with_reducible first | exact HB.out | apply below_alloc | apply pw_below_drewN | apply below_drew1 | refine below_set ?_ GE153.out | refine below_set ?_ GE154.out | refine below_set ?_ GE157.out) | exact HB.out))) : w.heap.size ≤ gb160)); have n6_ := Aside0.mk ((by rw [hg]; exact (below_size (by repeat (first | (with_reducible first | exact HB.out | apply below_alloc | apply pw_below_drewN | apply below_drew1 | refine below_set ?_ GE153.out | refine below_set ?_ GE154.out | refine below_set ?_ GE157.out) | exact HB.out))) : w.heap.size ≤ gb160)); have n7_ := Aside0.mk ((by rw [hg]; exact Nat.ne_of_lt (blk_lt (g := gb153) (o := .cells #[.int .i64 x154000_1] 23 (0, 0)) (by (with_reducible repeat (first | refine blk_drewN ?_ _ | refine blk_drew ?_ | refine blk_alloc ?_ _)); exact BK153.out)) : gb153 ≠ gb160)); have n8_ := Aside0.mk ((by rw [hg]; exact Nat.ne_of_gt (blk_lt (g := gb153) (o := .cells #[.int .i64 x154000_1] 23 (0, 0)) (by (with_reducible repeat (first | refine blk_drewN ?_ _ | refine blk_drew ?_ | refine blk_alloc ?_ _)); exact BK153.out)) : gb160 ≠ gb153)); have n9_ := Aside0.mk ((by rw [hg]; exact Nat.ne_of_lt (blk_lt (g := gb154) (o := .cells #[.int .i64 x155000_1] 23 (0, 0)) (by (with_reducible repeat (first | refine blk_drewN ?_ _ | refine blk_drew ?_ | refine blk_alloc ?_ _)); exact BK154.out)) : gb154 ≠ gb160)); have n10_ := Aside0.mk ((by rw [hg]; exact Nat.ne_of_gt (blk_lt (g := gb154) (o := .cells #[.int .i64 x155000_1] 23 (0, 0)) (by (with_reducible repeat (first | refine blk_drewN ?_ _ | refine blk_drew ?_ | refine blk_alloc ?_ _)); exact BK154.out)) : gb160 ≠ gb154)); have n11_ := Aside0.mk ((by rw [hg]; exact Nat.ne_of_lt (blk_lt (g := gb157) (o := .cells #[.int .i64 t155] 23 (0, 0)) (by (with_reducible repeat (first | refine blk_drewN ?_ _ | refine blk_drew ?_ | refine blk_alloc ?_ _)); exact BK157.out)) : gb157 ≠ gb160)); have n12_ := Aside0.mk ((by rw [hg]; exact Nat.ne_of_gt (blk_lt (g := gb157) (o := .cells #[.int .i64 t155] 23 (0, 0)) (by (with_reducible repeat (first | refine blk_drewN ?_ _ | refine blk_drew ?_ | refine blk_alloc ?_ _)); exact BK157.out)) : gb160 ≠ gb157)); clear BK153; clear BK154; clear BK157; clear HB; have BK153 := n0_; have BK154 := n1_; have BK157 := n2_; have HB := n3_; have BK160 := n4_; have GW160 := n5_; have GE160 := n6_; have NB153_160 := n7_; have NB160_153 := n8_; have NB154_160 := n9_; have NB160_154 := n10_; have NB157_160 := n11_; have NB160_157 := n12_; clear n0_ n1_ n2_ n3_ n4_ n5_ n6_ n7_ n8_ n9_ n10_ n11_ n12_; clear hb hbox hg; have hnb78 := NB160_153.out; have hnc78 := NB153_160.out; have hnb79 := NB160_154.out; have hnc79 := NB154_160.out; have hnb80 := NB160_157.out; have hnc80 := NB157_160.out; have hcz81_0 : w77.cell? ⟨gb160, 0, none⟩ = some (.int .i64 0) := (blk_cell BK160.out 0).trans rfl; have hfz81_0 := blk_frozen BK160.out 0; have hcz82_0 : w77.cell? ⟨gb157, 0, none⟩ = some (.int .i64 t155) := (blk_cell BK157.out 0).trans rfl; have hfz82_0 := blk_frozen BK157.out 0; have hcz83_0 : w77.cell? ⟨gb153, 0, none⟩ = some (.int .i64 x154000_1) := (blk_cell BK153.out 0).trans rfl; have hfz83_0 := blk_frozen BK153.out 0; have hcz84_0 : w77.cell? ⟨gb154, 0, none⟩ = some (.int .i64 x155000_1) := (blk_cell BK154.out 0).trans rfl; have hfz84_0 := blk_frozen BK154.out 0))
            go_roundg k1
            case measure => have := HK1.out; omega
            case rel => exact ⟨(x13_1), (x14_1), (wrap64 (x15_1 + 1)), (t155), (t158), (by first | rfl | (simp; done) | (simp [*]; done)), (by first | rfl | (simp; done) | (simp [*]; done)), (by first | rfl | (simp; done) | (simp [*]; done)), H', ⟨by have := HK1.out; omega⟩, ⟨by (with_reducible repeat (first | refine blk_drewN ?_ _ | refine blk_drew ?_ | refine blk_alloc ?_ _)); refine blk_far ?_ NB153_154.out _; (with_reducible repeat (first | refine blk_drewN ?_ _ | refine blk_drew ?_ | refine blk_alloc ?_ _)); refine blk_put (cs := #[.int .i64 x154000_1]) ?_ 0 _ rfl; (with_reducible repeat (first | refine blk_drewN ?_ _ | refine blk_drew ?_ | refine blk_alloc ?_ _)); refine blk_far ?_ NB153_160.out _; (with_reducible repeat (first | refine blk_drewN ?_ _ | refine blk_drew ?_ | refine blk_alloc ?_ _)); exact BK153.out⟩, ⟨by (with_reducible repeat (first | refine blk_drewN ?_ _ | refine blk_drew ?_ | refine blk_alloc ?_ _)); refine blk_put (cs := #[.int .i64 x155000_1]) ?_ 0 _ rfl; (with_reducible repeat (first | refine blk_drewN ?_ _ | refine blk_drew ?_ | refine blk_alloc ?_ _)); refine blk_far ?_ NB154_153.out _; (with_reducible repeat (first | refine blk_drewN ?_ _ | refine blk_drew ?_ | refine blk_alloc ?_ _)); refine blk_far ?_ NB154_160.out _; (with_reducible repeat (first | refine blk_drewN ?_ _ | refine blk_drew ?_ | refine blk_alloc ?_ _)); exact BK154.out⟩, ⟨by repeat (first | (with_reducible first | exact HB.out | apply below_alloc | apply pw_below_drewN | apply below_drew1 | refine below_set ?_ GE153.out | refine below_set ?_ GE154.out | refine below_set ?_ GE157.out | refine below_set ?_ GE160.out) | exact HB.out)⟩⟩
      · rw [if_neg c11] at H
        have c11b0 : decide (x15_1 < (Int.tmod (wrap64 (a0)) 300)) = false := decide_eq_false c11
        clear c11
        by_cases c85 : (Int.tmod (wrap64 (a0)) 300) ≥ 2
        · rw [if_pos c85] at H
          have c85b0 : decide (2 ≤ (Int.tmod (wrap64 (a0)) 300)) = true := decide_eq_true c85
          clear c85
          by_cases c86 : (wrap64 (1 + (Int.tmod (wrap64 (a1)) 60))) = 0
          · rw [if_pos c86] at H
            exact absurd H (by simp)
          · rw [if_neg c86] at H
            have c86b0 : ((wrap64 (1 + (Int.tmod (wrap64 (a1)) 60))) == 0) = false := beq_eq_false_iff_ne.mpr c86
            have c86b1 : ((wrap64 (1 + (Int.tmod (wrap64 (a1)) 60))) != 0) = true := bne_iff_ne.mpr c86
            by_cases c87 : t152 = true
            · subst c87
              have H1 : (if x13_1 = (wrap64 ((wrap64 (Int.tdiv (wrap64 ((Int.tmod (wrap64 (a0)) 300) - 2)) (wrap64 (1 + (Int.tmod (wrap64 (a1)) 60))))) + 1)) then (some (decide (x14_1 ≤ x13_1))) else (none)) = some r := by rw [if_pos rfl] at H; exact H
              clear H
              have H := H1
              clear H1
              by_cases c88 : x13_1 = (wrap64 ((wrap64 (Int.tdiv (wrap64 ((Int.tmod (wrap64 (a0)) 300) - 2)) (wrap64 (1 + (Int.tmod (wrap64 (a1)) 60))))) + 1))
              · rw [if_pos c88] at H
                have c88b0 : (x13_1 == (wrap64 ((wrap64 (Int.tdiv (wrap64 ((Int.tmod (wrap64 (a0)) 300) - 2)) (wrap64 (1 + (Int.tmod (wrap64 (a1)) 60))))) + 1))) = true := beq_iff_eq.mpr c88
                have c88b1 : (x13_1 != (wrap64 ((wrap64 (Int.tdiv (wrap64 ((Int.tmod (wrap64 (a0)) 300) - 2)) (wrap64 (1 + (Int.tmod (wrap64 (a1)) 60))))) + 1))) = false := bne_eq_false_iff_eq.mpr c88
                clear c88
                obtain rfl := Option.some.inj H
                go_wp2
                go_ret
                exact ⟨by first | rfl | (simp [errW_none, errW_some] <;> rfl) | (simp [*, errW_none, errW_some] <;> rfl), by repeat (first | (with_reducible first | exact HB.out | apply below_alloc | apply pw_below_drewN | apply below_drew1 | refine below_set ?_ GE153.out | refine below_set ?_ GE154.out) | exact HB.out)⟩
              · rw [if_neg c88] at H
                exact absurd H (by simp)
            · replace c87 := Bool.eq_false_iff.mpr c87
              subst c87
              have H1 : (none) = some r := by rw [if_neg (show ¬ (false = true) by decide)] at H; exact H
              clear H
              have H := H1
              clear H1
              exact absurd H (by simp)
        · rw [if_neg c85] at H
          have c85b0 : decide (2 ≤ (Int.tmod (wrap64 (a0)) 300)) = false := decide_eq_false c85
          clear c85
          by_cases c89 : t152 = true
          · subst c89
            have H1 : (if x13_1 = 0 then (some (decide (x14_1 ≤ x13_1))) else (none)) = some r := by rw [if_pos rfl] at H; exact H
            clear H
            have H := H1
            clear H1
            by_cases c90 : x13_1 = 0
            · rw [if_pos c90] at H
              have c90b0 : (x13_1 == 0) = true := beq_iff_eq.mpr c90
              have c90b1 : (x13_1 != 0) = false := bne_eq_false_iff_eq.mpr c90
              clear c90
              obtain rfl := Option.some.inj H
              go_wp2
              go_ret
              exact ⟨by first | rfl | (simp [errW_none, errW_some] <;> rfl) | (simp [*, errW_none, errW_some] <;> rfl), by repeat (first | (with_reducible first | exact HB.out | apply below_alloc | apply pw_below_drewN | apply below_drew1 | refine below_set ?_ GE153.out | refine below_set ?_ GE154.out) | exact HB.out)⟩
            · rw [if_neg c90] at H
              exact absurd H (by simp)
          · replace c89 := Bool.eq_false_iff.mpr c89
            subst c89
            have H1 : (none) = some r := by rw [if_neg (show ¬ (false = true) by decide)] at H; exact H
            clear H
            have H := H1
            clear H1
            exact absurd H (by simp)

/-! ### precentorlaw10_AskNone: function 7 -/
def precentorlaw10_AskNone.f (a0 : Int) (a1 : Int) (a2 : Int) : Option (Bool) := (precentorlaw10_shown.f).bind fun t161 => ((ask_Step.f a0 (wrap64 (a1)) (wrap64 (1 + (Int.tmod (wrap64 (a2)) 1000))) false).bind fun bt162 => ((ask_Step.f bt162.1 (wrap64 ((wrap64 (a1)) + 1)) (wrap64 (1 + (Int.tmod (wrap64 (a2)) 1000))) true).bind fun bt165 => ((ask_Step.f bt165.1 (wrap64 ((wrap64 (a1)) + 2)) (wrap64 (1 + (Int.tmod (wrap64 (a2)) 1000))) true).bind fun bt168 => (if t161 = true then (if bt162.2 = true then (none) else (if bt162.1 = 0 then (if bt165.2 = true then (none) else (if bt165.1 = (wrap64 ((wrap64 (a1)) + 2)) then (if bt168.2 = true then (some (bt168.1 == (wrap64 ((wrap64 ((wrap64 (a1)) + 2)) + (wrap64 (1 + (Int.tmod (wrap64 (a2)) 1000))))))) else (none)) else (none))) else (none))) else (none)))))
set_option maxHeartbeats 8000000 in
set_option maxRecDepth 100000 in
theorem precentorlaw10_AskNone.calls (a0 : Int) (a1 : Int) (a2 : Int) (r : Bool) (w : World) (h : precentorlaw10_AskNone.f a0 a1 a2 = some r) :
    Calls Try.prog 7 #[.int .i64 a0, .int .u32 a1, .int .u16 a2] w fun e w' => e = .returned (.bool r) ∧ Below w.heap.size w w' := by
  have hu23 := Try.underlying23
  have HB := Aside0.mk (Below.refl w.heap.size w)
  have H : ((precentorlaw10_shown.f).bind fun t161 => ((ask_Step.f a0 (wrap64 (a1)) (wrap64 (1 + (Int.tmod (wrap64 (a2)) 1000))) false).bind fun bt162 => ((ask_Step.f bt162.1 (wrap64 ((wrap64 (a1)) + 1)) (wrap64 (1 + (Int.tmod (wrap64 (a2)) 1000))) true).bind fun bt165 => ((ask_Step.f bt165.1 (wrap64 ((wrap64 (a1)) + 2)) (wrap64 (1 + (Int.tmod (wrap64 (a2)) 1000))) true).bind fun bt168 => (if t161 = true then (if bt162.2 = true then (none) else (if bt162.1 = 0 then (if bt165.2 = true then (none) else (if bt165.1 = (wrap64 ((wrap64 (a1)) + 2)) then (if bt168.2 = true then (some (bt168.1 == (wrap64 ((wrap64 ((wrap64 (a1)) + 2)) + (wrap64 (1 + (Int.tmod (wrap64 (a2)) 1000))))))) else (none)) else (none))) else (none))) else (none)))))) = some r := h
  clear h
  replace H := Option.bind_eq_some_iff.mp H
  obtain ⟨t161, A40, H⟩ := H
  replace H : ((ask_Step.f a0 (wrap64 (a1)) (wrap64 (1 + (Int.tmod (wrap64 (a2)) 1000))) false).bind fun bt162 => ((ask_Step.f bt162.1 (wrap64 ((wrap64 (a1)) + 1)) (wrap64 (1 + (Int.tmod (wrap64 (a2)) 1000))) true).bind fun bt165 => ((ask_Step.f bt165.1 (wrap64 ((wrap64 (a1)) + 2)) (wrap64 (1 + (Int.tmod (wrap64 (a2)) 1000))) true).bind fun bt168 => (if t161 = true then (if bt162.2 = true then (none) else (if bt162.1 = 0 then (if bt165.2 = true then (none) else (if bt165.1 = (wrap64 ((wrap64 (a1)) + 2)) then (if bt168.2 = true then (some (bt168.1 == (wrap64 ((wrap64 ((wrap64 (a1)) + 2)) + (wrap64 (1 + (Int.tmod (wrap64 (a2)) 1000))))))) else (none)) else (none))) else (none))) else (none))))) = some r := H
  have A4 := Aside0.mk A40
  clear A40
  replace H := Option.bind_eq_some_iff.mp H
  obtain ⟨⟨t162, t163⟩, A50, H⟩ := H
  replace H : ((ask_Step.f t162 (wrap64 ((wrap64 (a1)) + 1)) (wrap64 (1 + (Int.tmod (wrap64 (a2)) 1000))) true).bind fun bt165 => ((ask_Step.f bt165.1 (wrap64 ((wrap64 (a1)) + 2)) (wrap64 (1 + (Int.tmod (wrap64 (a2)) 1000))) true).bind fun bt168 => (if t161 = true then (if t163 = true then (none) else (if t162 = 0 then (if bt165.2 = true then (none) else (if bt165.1 = (wrap64 ((wrap64 (a1)) + 2)) then (if bt168.2 = true then (some (bt168.1 == (wrap64 ((wrap64 ((wrap64 (a1)) + 2)) + (wrap64 (1 + (Int.tmod (wrap64 (a2)) 1000))))))) else (none)) else (none))) else (none))) else (none)))) = some r := H
  have A5 := Aside0.mk A50
  clear A50
  replace H := Option.bind_eq_some_iff.mp H
  obtain ⟨⟨t165, t166⟩, A60, H⟩ := H
  replace H : ((ask_Step.f t165 (wrap64 ((wrap64 (a1)) + 2)) (wrap64 (1 + (Int.tmod (wrap64 (a2)) 1000))) true).bind fun bt168 => (if t161 = true then (if t163 = true then (none) else (if t162 = 0 then (if t166 = true then (none) else (if t165 = (wrap64 ((wrap64 (a1)) + 2)) then (if bt168.2 = true then (some (bt168.1 == (wrap64 ((wrap64 ((wrap64 (a1)) + 2)) + (wrap64 (1 + (Int.tmod (wrap64 (a2)) 1000))))))) else (none)) else (none))) else (none))) else (none))) = some r := H
  have A6 := Aside0.mk A60
  clear A60
  replace H := Option.bind_eq_some_iff.mp H
  obtain ⟨⟨t168, t169⟩, A70, H⟩ := H
  replace H : (if t161 = true then (if t163 = true then (none) else (if t162 = 0 then (if t166 = true then (none) else (if t165 = (wrap64 ((wrap64 (a1)) + 2)) then (if t169 = true then (some (t168 == (wrap64 ((wrap64 ((wrap64 (a1)) + 2)) + (wrap64 (1 + (Int.tmod (wrap64 (a2)) 1000))))))) else (none)) else (none))) else (none))) else (none)) = some r := H
  have A7 := Aside0.mk A70
  clear A70
  by_cases c8 : t161 = true
  · subst c8
    have H1 : (if t163 = true then (none) else (if t162 = 0 then (if t166 = true then (none) else (if t165 = (wrap64 ((wrap64 (a1)) + 2)) then (if t169 = true then (some (t168 == (wrap64 ((wrap64 ((wrap64 (a1)) + 2)) + (wrap64 (1 + (Int.tmod (wrap64 (a2)) 1000))))))) else (none)) else (none))) else (none))) = some r := by rw [if_pos rfl] at H; exact H
    clear H
    have H := H1
    clear H1
    by_cases c9 : t163 = true
    · subst c9
      have H1 : (none) = some r := by rw [if_pos rfl] at H; exact H
      clear H
      have H := H1
      clear H1
      exact absurd H (by simp)
    · replace c9 := Bool.eq_false_iff.mpr c9
      subst c9
      have H1 : (if t162 = 0 then (if t166 = true then (none) else (if t165 = (wrap64 ((wrap64 (a1)) + 2)) then (if t169 = true then (some (t168 == (wrap64 ((wrap64 ((wrap64 (a1)) + 2)) + (wrap64 (1 + (Int.tmod (wrap64 (a2)) 1000))))))) else (none)) else (none))) else (none)) = some r := by rw [if_neg (show ¬ (false = true) by decide)] at H; exact H
      clear H
      have H := H1
      clear H1
      by_cases c10 : t162 = 0
      · rw [if_pos c10] at H
        have c10b0 : (t162 == 0) = true := beq_iff_eq.mpr c10
        have c10b1 : (t162 != 0) = false := bne_eq_false_iff_eq.mpr c10
        clear c10
        by_cases c11 : t166 = true
        · subst c11
          have H1 : (none) = some r := by rw [if_pos rfl] at H; exact H
          clear H
          have H := H1
          clear H1
          exact absurd H (by simp)
        · replace c11 := Bool.eq_false_iff.mpr c11
          subst c11
          have H1 : (if t165 = (wrap64 ((wrap64 (a1)) + 2)) then (if t169 = true then (some (t168 == (wrap64 ((wrap64 ((wrap64 (a1)) + 2)) + (wrap64 (1 + (Int.tmod (wrap64 (a2)) 1000))))))) else (none)) else (none)) = some r := by rw [if_neg (show ¬ (false = true) by decide)] at H; exact H
          clear H
          have H := H1
          clear H1
          by_cases c12 : t165 = (wrap64 ((wrap64 (a1)) + 2))
          · rw [if_pos c12] at H
            have c12b0 : (t165 == (wrap64 ((wrap64 (a1)) + 2))) = true := beq_iff_eq.mpr c12
            have c12b1 : (t165 != (wrap64 ((wrap64 (a1)) + 2))) = false := bne_eq_false_iff_eq.mpr c12
            clear c12
            by_cases c13 : t169 = true
            · subst c13
              have H1 : (some (t168 == (wrap64 ((wrap64 ((wrap64 (a1)) + 2)) + (wrap64 (1 + (Int.tmod (wrap64 (a2)) 1000))))))) = some r := by rw [if_pos rfl] at H; exact H
              clear H
              have H := H1
              clear H1
              obtain rfl := Option.some.inj H
              go_enter Try.func7, Try.ntmps7
              go_wp2_with (first | ((with_reducible refine gate_callee (f := 8) rfl ?_); refine goesL_ (some 15) rfl rfl Try.func8 (by kernel_rfl) rfl #[] rfl (by (try simp only [List.map_toArray, List.map_cons, List.map_nil]); first | done | rfl | (simp only [List.length_drop, List.length_take]; rfl)) ?_; (with_reducible refine (precentorlaw10_shown.calls  true _ A4.out).mono ?_); rintro e w14 ⟨rfl, hb⟩; refine ⟨_, rfl, ?_⟩; have n0_ := Aside0.mk (below_step (by repeat (first | (with_reducible first | exact HB.out | apply below_alloc | apply pw_below_drewN | apply below_drew1) | exact HB.out)) hb); clear HB; have HB := n0_; clear n0_; (try clear hb); (try clear hb2); (try clear hk); (try clear hi)) | ((with_reducible refine gate_callee (f := 10) rfl ?_); refine goesL_ (some 26) rfl rfl Try.func10 (by kernel_rfl) rfl #[.agg #[.int .i64 a0], .int .i64 (wrap64 (a1)), .int .i64 (wrap64 (1 + (Int.tmod (wrap64 (a2)) 1000))), .bool false] rfl (by (try simp only [List.map_toArray, List.map_cons, List.map_nil]); first | done | rfl | (simp only [List.length_drop, List.length_take]; rfl)) ?_; (with_reducible refine (ask_Step.calls a0 (wrap64 (a1)) (wrap64 (1 + (Int.tmod (wrap64 (a2)) 1000))) false t162 false _ A5.out).mono ?_); rintro e w15 ⟨rfl, hb⟩; refine ⟨_, rfl, ?_⟩; have n0_ := Aside0.mk (below_step (by repeat (first | (with_reducible first | exact HB.out | apply below_alloc | apply pw_below_drewN | apply below_drew1) | exact HB.out)) hb); clear HB; have HB := n0_; clear n0_; (try clear hb); (try clear hb2); (try clear hk); (try clear hi)) | ((with_reducible refine gate_dst (N := 9) rfl ?_); refine box_event ?hg (N := 9) ?hd (cs := #[.int .i64 0]) (t := 23) ?hr ?_; (case hd => rfl); (case hg => rfl); (case hr => first | (go_simp; done) | (go_simp; rfl)); intro gb164 hg w16 hbox hb; have n0_ := Aside0.mk (below_step (by repeat (first | (with_reducible first | exact HB.out | apply below_alloc | apply pw_below_drewN | apply below_drew1) | exact HB.out)) hb); have n1_ := Aside0.mk (hbox); have n2_ := Aside0.mk ((by rw [hg]; exact (below_size (by repeat (first | (with_reducible first | exact HB.out | apply below_alloc | apply pw_below_drewN | apply below_drew1) | exact HB.out))) : w.heap.size ≤ gb164)); have n3_ := Aside0.mk ((by rw [hg]; exact (below_size (by repeat (first | (with_reducible first | exact HB.out | apply below_alloc | apply pw_below_drewN | apply below_drew1) | exact HB.out))) : w.heap.size ≤ gb164)); clear HB; have HB := n0_; have BK164 := n1_; have GW164 := n2_; have GE164 := n3_; clear n0_ n1_ n2_ n3_; clear hb hbox hg; have hcz17_0 : w16.cell? ⟨gb164, 0, none⟩ = some (.int .i64 0) := (blk_cell BK164.out 0).trans rfl; have hfz17_0 := blk_frozen BK164.out 0) | ((with_reducible refine gate_callee (f := 10) rfl ?_); refine goesL_ (some 35) rfl rfl Try.func10 (by kernel_rfl) rfl #[.agg #[.int .i64 t162], .int .i64 (wrap64 ((wrap64 (a1)) + 1)), .int .i64 (wrap64 (1 + (Int.tmod (wrap64 (a2)) 1000))), .bool true] rfl (by (try simp only [List.map_toArray, List.map_cons, List.map_nil]); first | done | rfl | (simp only [List.length_drop, List.length_take]; rfl)) ?_; (with_reducible refine (ask_Step.calls t162 (wrap64 ((wrap64 (a1)) + 1)) (wrap64 (1 + (Int.tmod (wrap64 (a2)) 1000))) true t165 false _ A6.out).mono ?_); rintro e w18 ⟨rfl, hb⟩; refine ⟨_, rfl, ?_⟩; have n0_ := Aside0.mk (blk_below (g := gb164) (o := .cells #[.int .i64 t162] 23 (0, 0)) (by (with_reducible repeat (first | refine blk_drewN ?_ _ | refine blk_drew ?_ | refine blk_alloc ?_ _)); refine blk_put (cs := #[.int .i64 0]) ?_ 0 _ rfl; (with_reducible repeat (first | refine blk_drewN ?_ _ | refine blk_drew ?_ | refine blk_alloc ?_ _)); exact BK164.out) hb); have n1_ := Aside0.mk (below_step (by repeat (first | (with_reducible first | exact HB.out | apply below_alloc | apply pw_below_drewN | apply below_drew1 | refine below_set ?_ GE164.out) | exact HB.out)) hb); clear BK164; clear HB; have BK164 := n0_; have HB := n1_; clear n0_ n1_; (try clear hb); (try clear hb2); (try clear hk); (try clear hi)) | ((with_reducible refine gate_dst (N := 11) rfl ?_); refine box_event ?hg (N := 11) ?hd (cs := #[.int .i64 0]) (t := 23) ?hr ?_; (case hd => rfl); (case hg => rfl); (case hr => first | (go_simp; done) | (go_simp; rfl)); intro gb167 hg w19 hbox hb; have n0_ := Aside0.mk (blk_below (g := gb164) (o := .cells #[.int .i64 t162] 23 (0, 0)) (by (with_reducible repeat (first | refine blk_drewN ?_ _ | refine blk_drew ?_ | refine blk_alloc ?_ _)); exact BK164.out) hb); have n1_ := Aside0.mk (below_step (by repeat (first | (with_reducible first | exact HB.out | apply below_alloc | apply pw_below_drewN | apply below_drew1 | refine below_set ?_ GE164.out) | exact HB.out)) hb); have n2_ := Aside0.mk (hbox); have n3_ := Aside0.mk ((by rw [hg]; exact (below_size (by repeat (first | (with_reducible first | exact HB.out | apply below_alloc | apply pw_below_drewN | apply below_drew1 | refine below_set ?_ GE164.out) | exact HB.out))) : w.heap.size ≤ gb167)); have n4_ := Aside0.mk ((by rw [hg]; exact (below_size (by repeat (first | (with_reducible first | exact HB.out | apply below_alloc | apply pw_below_drewN | apply below_drew1 | refine below_set ?_ GE164.out) | exact HB.out))) : w.heap.size ≤ gb167)); have n5_ := Aside0.mk ((by rw [hg]; exact Nat.ne_of_lt (blk_lt (g := gb164) (o := .cells #[.int .i64 t162] 23 (0, 0)) (by (with_reducible repeat (first | refine blk_drewN ?_ _ | refine blk_drew ?_ | refine blk_alloc ?_ _)); exact BK164.out)) : gb164 ≠ gb167)); have n6_ := Aside0.mk ((by rw [hg]; exact Nat.ne_of_gt (blk_lt (g := gb164) (o := .cells #[.int .i64 t162] 23 (0, 0)) (by (with_reducible repeat (first | refine blk_drewN ?_ _ | refine blk_drew ?_ | refine blk_alloc ?_ _)); exact BK164.out)) : gb167 ≠ gb164)); clear BK164; clear HB; have BK164 := n0_; have HB := n1_; have BK167 := n2_; have GW167 := n3_; have GE167 := n4_; have NB164_167 := n5_; have NB167_164 := n6_; clear n0_ n1_ n2_ n3_ n4_ n5_ n6_; clear hb hbox hg; have hnb20 := NB167_164.out; have hnc20 := NB164_167.out; have hcz21_0 : w19.cell? ⟨gb167, 0, none⟩ = some (.int .i64 0) := (blk_cell BK167.out 0).trans rfl; have hfz21_0 := blk_frozen BK167.out 0) | ((with_reducible refine gate_callee (f := 10) rfl ?_); refine goesL_ (some 44) rfl rfl Try.func10 (by kernel_rfl) rfl #[.agg #[.int .i64 t165], .int .i64 (wrap64 ((wrap64 (a1)) + 2)), .int .i64 (wrap64 (1 + (Int.tmod (wrap64 (a2)) 1000))), .bool true] rfl (by (try simp only [List.map_toArray, List.map_cons, List.map_nil]); first | done | rfl | (simp only [List.length_drop, List.length_take]; rfl)) ?_; (with_reducible refine (ask_Step.calls t165 (wrap64 ((wrap64 (a1)) + 2)) (wrap64 (1 + (Int.tmod (wrap64 (a2)) 1000))) true t168 true _ A7.out).mono ?_); rintro e w22 ⟨rfl, hb⟩; refine ⟨_, rfl, ?_⟩; have n0_ := Aside0.mk (blk_below (g := gb164) (o := .cells #[.int .i64 t162] 23 (0, 0)) (by (with_reducible repeat (first | refine blk_drewN ?_ _ | refine blk_drew ?_ | refine blk_alloc ?_ _)); refine blk_far ?_ NB164_167.out _; (with_reducible repeat (first | refine blk_drewN ?_ _ | refine blk_drew ?_ | refine blk_alloc ?_ _)); exact BK164.out) hb); have n1_ := Aside0.mk (blk_below (g := gb167) (o := .cells #[.int .i64 t165] 23 (0, 0)) (by (with_reducible repeat (first | refine blk_drewN ?_ _ | refine blk_drew ?_ | refine blk_alloc ?_ _)); refine blk_put (cs := #[.int .i64 0]) ?_ 0 _ rfl; (with_reducible repeat (first | refine blk_drewN ?_ _ | refine blk_drew ?_ | refine blk_alloc ?_ _)); exact BK167.out) hb); have n2_ := Aside0.mk (below_step (by repeat (first | (with_reducible first | exact HB.out | apply below_alloc | apply pw_below_drewN | apply below_drew1 | refine below_set ?_ GE164.out | refine below_set ?_ GE167.out) | exact HB.out)) hb); clear BK164; clear BK167; clear HB; have BK164 := n0_; have BK167 := n1_; have HB := n2_; clear n0_ n1_ n2_; (try clear hb); (try clear hb2); (try clear hk); (try clear hi)) | ((with_reducible refine gate_dst (N := 13) rfl ?_); refine box_event ?hg (N := 13) ?hd (cs := #[.int .i64 0]) (t := 23) ?hr ?_; (case hd => rfl); (case hg => rfl); (case hr => first | (go_simp; done) | (go_simp; rfl)); intro gb170 hg w23 hbox hb; have n0_ := Aside0.mk (blk_below (g := gb164) (o := .cells #[.int .i64 t162] 23 (0, 0)) (by (with_reducible repeat (first | refine blk_drewN ?_ _ | refine blk_drew ?_ | refine blk_alloc ?_ _)); exact BK164.out) hb); have n1_ := Aside0.mk (blk_below (g := gb167) (o := .cells #[.int .i64 t165] 23 (0, 0)) (by (with_reducible repeat (first | refine blk_drewN ?_ _ | refine blk_drew ?_ | refine blk_alloc ?_ _)); exact BK167.out) hb); have n2_ := Aside0.mk (below_step (by repeat (first | (with_reducible first | exact HB.out | apply below_alloc | apply pw_below_drewN | apply below_drew1 | refine below_set ?_ GE164.out | refine below_set ?_ GE167.out) | exact HB.out)) hb); have n3_ := Aside0.mk (hbox); have n4_ := Aside0.mk ((by rw [hg]; exact (below_size (by repeat (first | (with_reducible first | exact HB.out | apply below_alloc | apply pw_below_drewN | apply below_drew1 | refine below_set ?_ GE164.out | refine below_set ?_ GE167.out) | exact HB.out))) : w.heap.size ≤ gb170)); have n5_ := Aside0.mk ((by rw [hg]; exact (below_size (by repeat (first | (with_reducible first | exact HB.out | apply below_alloc | apply pw_below_drewN | apply below_drew1 | refine below_set ?_ GE164.out | refine below_set ?_ GE167.out) | exact HB.out))) : w.heap.size ≤ gb170)); have n6_ := Aside0.mk ((by rw [hg]; exact Nat.ne_of_lt (blk_lt (g := gb164) (o := .cells #[.int .i64 t162] 23 (0, 0)) (by (with_reducible repeat (first | refine blk_drewN ?_ _ | refine blk_drew ?_ | refine blk_alloc ?_ _)); exact BK164.out)) : gb164 ≠ gb170)); have n7_ := Aside0.mk ((by rw [hg]; exact Nat.ne_of_gt (blk_lt (g := gb164) (o := .cells #[.int .i64 t162] 23 (0, 0)) (by (with_reducible repeat (first | refine blk_drewN ?_ _ | refine blk_drew ?_ | refine blk_alloc ?_ _)); exact BK164.out)) : gb170 ≠ gb164)); have n8_ := Aside0.mk ((by rw [hg]; exact Nat.ne_of_lt (blk_lt (g := gb167) (o := .cells #[.int .i64 t165] 23 (0, 0)) (by (with_reducible repeat (first | refine blk_drewN ?_ _ | refine blk_drew ?_ | refine blk_alloc ?_ _)); exact BK167.out)) : gb167 ≠ gb170)); have n9_ := Aside0.mk ((by rw [hg]; exact Nat.ne_of_gt (blk_lt (g := gb167) (o := .cells #[.int .i64 t165] 23 (0, 0)) (by (with_reducible repeat (first | refine blk_drewN ?_ _ | refine blk_drew ?_ | refine blk_alloc ?_ _)); exact BK167.out)) : gb170 ≠ gb167)); clear BK164; clear BK167; clear HB; have BK164 := n0_; have BK167 := n1_; have HB := n2_; have BK170 := n3_; have GW170 := n4_; have GE170 := n5_; have NB164_170 := n6_; have NB170_164 := n7_; have NB167_170 := n8_; have NB170_167 := n9_; clear n0_ n1_ n2_ n3_ n4_ n5_ n6_ n7_ n8_ n9_; clear hb hbox hg; have hnb24 := NB170_164.out; have hnc24 := NB164_170.out; have hnb25 := NB170_167.out; have hnc25 := NB167_170.out; have hcz26_0 : w23.cell? ⟨gb170, 0, none⟩ = some (.int .i64 0) := (blk_cell BK170.out 0).trans rfl; have hfz26_0 := blk_frozen BK170.out 0; have hcz27_0 : w23.cell? ⟨gb164, 0, none⟩ = some (.int .i64 t162) := (blk_cell BK164.out 0).trans rfl; have hfz27_0 := blk_frozen BK164.out 0; have hcz28_0 : w23.cell? ⟨gb167, 0, none⟩ = some (.int .i64 t165) := (blk_cell BK167.out 0).trans rfl; have hfz28_0 := blk_frozen BK167.out 0))
              go_ret
              exact ⟨by first | rfl | (simp [errW_none, errW_some] <;> rfl) | (simp [*, errW_none, errW_some] <;> rfl), by repeat (first | (with_reducible first | exact HB.out | apply below_alloc | apply pw_below_drewN | apply below_drew1 | refine below_set ?_ GE164.out | refine below_set ?_ GE167.out | refine below_set ?_ GE170.out) | exact HB.out)⟩
            · replace c13 := Bool.eq_false_iff.mpr c13
              subst c13
              have H1 : (none) = some r := by rw [if_neg (show ¬ (false = true) by decide)] at H; exact H
              clear H
              have H := H1
              clear H1
              exact absurd H (by simp)
          · rw [if_neg c12] at H
            exact absurd H (by simp)
      · rw [if_neg c10] at H
        exact absurd H (by simp)
  · replace c8 := Bool.eq_false_iff.mpr c8
    subst c8
    have H1 : (none) = some r := by rw [if_neg (show ¬ (false = true) by decide)] at H; exact H
    clear H
    have H := H1
    clear H1
    exact absurd H (by simp)

end Go.Proofs.Ytddlbfapcodbmaa.Print
