/- The Go functions of this seat as Lean functions, and of each that its call does just what its Lean function says, where that says something. Condition: the arguments read as they are told. -/
import Derived.Test.YtahkcncgcidghaaPrint0
import Derived.Test.YtahkcncgcidghaaPrint2
import Derived.Test.YtahkcncgcidghaaHand
namespace Go.Proofs.Ytahkcncgcidghaa.Print
open Go.RowKit Go.Proofs.YtahkcncgcidghaaW.PrintWords Go.Proofs.YtahkcncgcidghaaW.PrintLast Go.Proofs.YtahkcncgcidghaaW.PrintMore
attribute [local go_sem] max2_int min2_int max_two min_two max_three min_three max_four min_four   -- for this text's walks alone
set_option linter.unusedVariables false
set_option linter.unusedSimpArgs false

/-! ### precentorlaw11_RateBounds: function 5 -/
mutual
def precentorlaw11_RateBounds.j0 : Nat → List Int → List Bool → Bool → Int → Int → Int → Bool → Option (Bool)
  | 0, _, _, _, _, _, _, _ => none
  | k + 1, x1, x2, x7, x8, x9, x10, x44 => if x44 = true then (some x7) else ((rate_Start.f x9 x10).bind fun bt172 => (precentorlaw11_RateBounds.l0 k x1 x2 x7 x8 x9 x10 0 0 bt172.1 bt172.2))
def precentorlaw11_RateBounds.l0 : Nat → List Int → List Bool → Bool → Int → Int → Int → Int → Int → Int → Int → Option (Bool)
  | 0, _, _, _, _, _, _, _, _, _, _ => none
  | k + 1, x1, x2, x7, x8, x9, x10, x12, x13, x175000, x175001 => if x13 < (x1.length : Int) then (if 0 ≤ x13 then ((rate_Spend.f x175000 x175001 (Int.tmod (wrap64 (rd x1 x13)) 30)).bind fun bt176 => (if bt176.2.2 = true then (precentorlaw11_RateBounds.j2 k x1 x2 x7 x8 x9 x10 (wrap64 (x12 + (Int.tmod (wrap64 (rd x1 x13)) 30))) x13 bt176.1 bt176.2.1) else (precentorlaw11_RateBounds.j2 k x1 x2 x7 x8 x9 x10 x12 x13 bt176.1 bt176.2.1))) else (none)) else (some x7)
def precentorlaw11_RateBounds.j2 : Nat → List Int → List Bool → Bool → Int → Int → Int → Int → Int → Int → Int → Option (Bool)
  | 0, _, _, _, _, _, _, _, _, _, _ => none
  | k + 1, x1, x2, x7, x8, x9, x10, x12, x13, x180000, x180001 => if x12 > (wrap64 (x10 + (wrap64 (x13 * x9)))) then (none) else (if 0 ≤ x13 then (if x13 < (x2.length : Int) then (if rdOf false x2 x13 = true then ((rate_Tick.f x180000 x180001 x8 x9 x10 2).bind fun bt182 => (if bt182.2 < (wrap64 (x180001 + x8)) then (if bt182.2 = x10 then (precentorlaw11_RateBounds.l0 k x1 x2 x7 x8 x9 x10 x12 (wrap64 (x13 + 1)) bt182.1 bt182.2) else (none)) else (precentorlaw11_RateBounds.l0 k x1 x2 x7 x8 x9 x10 x12 (wrap64 (x13 + 1)) bt182.1 bt182.2))) else ((rate_Tick.f x180000 x180001 x8 x9 x10 0).bind fun bt185 => (if bt185.2 < (wrap64 (x180001 + x8)) then (if bt185.2 = x10 then (precentorlaw11_RateBounds.l0 k x1 x2 x7 x8 x9 x10 x12 (wrap64 (x13 + 1)) bt185.1 bt185.2) else (none)) else (precentorlaw11_RateBounds.l0 k x1 x2 x7 x8 x9 x10 x12 (wrap64 (x13 + 1)) bt185.1 bt185.2)))) else (none)) else (none))
end
def precentorlaw11_RateBounds.f (k : Nat) (a0_0 : Int) (a0_1 : Int) (a0_2 : Int) (l1 : List Int) (l2 : List Bool) : Option (Bool) := (precentorlaw11_shown.f).bind fun t171 => (if (l1.length : Int) > 100 then (precentorlaw11_RateBounds.j0 k l1 l2 t171 (wrap64 (1 + (Int.tmod (wrap64 (a0_0)) 20))) (wrap64 ((wrap64 (1 + (Int.tmod (wrap64 (a0_0)) 20))) + (Int.tmod (wrap64 (a0_1)) 50))) (wrap64 (1 + (Int.tmod (wrap64 (a0_2)) 100))) true) else (precentorlaw11_RateBounds.j0 k l1 l2 t171 (wrap64 (1 + (Int.tmod (wrap64 (a0_0)) 20))) (wrap64 ((wrap64 (1 + (Int.tmod (wrap64 (a0_0)) 20))) + (Int.tmod (wrap64 (a0_1)) 50))) (wrap64 (1 + (Int.tmod (wrap64 (a0_2)) 100))) ((l2.length : Int) != (l1.length : Int))))
theorem precentorlaw11_RateBounds.mono_l : ∀ k, (∀ y0 y1 y2 y3 y4 y5 y6, LeO (precentorlaw11_RateBounds.j0 k y0 y1 y2 y3 y4 y5 y6) (precentorlaw11_RateBounds.j0 (k + 1) y0 y1 y2 y3 y4 y5 y6)) ∧ (∀ y0 y1 y2 y3 y4 y5 y6 y7 y8 y9, LeO (precentorlaw11_RateBounds.l0 k y0 y1 y2 y3 y4 y5 y6 y7 y8 y9) (precentorlaw11_RateBounds.l0 (k + 1) y0 y1 y2 y3 y4 y5 y6 y7 y8 y9)) ∧ (∀ y0 y1 y2 y3 y4 y5 y6 y7 y8 y9, LeO (precentorlaw11_RateBounds.j2 k y0 y1 y2 y3 y4 y5 y6 y7 y8 y9) (precentorlaw11_RateBounds.j2 (k + 1) y0 y1 y2 y3 y4 y5 y6 y7 y8 y9))
  | 0 => ⟨fun _ _ _ _ _ _ _ r h => by simp [precentorlaw11_RateBounds.j0] at h, fun _ _ _ _ _ _ _ _ _ _ r h => by simp [precentorlaw11_RateBounds.l0] at h, fun _ _ _ _ _ _ _ _ _ _ r h => by simp [precentorlaw11_RateBounds.j2] at h⟩
  | k + 1 => by
    obtain ⟨ih0, ih1, ih2⟩ := precentorlaw11_RateBounds.mono_l k
    refine ⟨?_, ?_, ?_⟩
    · intro y0 y1 y2 y3 y4 y5 y6
      unfold precentorlaw11_RateBounds.j0
      repeat' first
      | (with_reducible exact ih0 _ _ _ _ _ _ _)
      | (with_reducible exact ih1 _ _ _ _ _ _ _ _ _ _)
      | (with_reducible exact ih2 _ _ _ _ _ _ _ _ _ _)
      | (with_reducible exact LeO.refl _)
      | (with_reducible exact LeO.none _)
      | (with_reducible refine LeO.ite ?_ ?_)
      | (with_reducible refine LeO.bind ?_ (fun _ => ?_))
      | exact ih0 _ _ _ _ _ _ _
      | exact ih1 _ _ _ _ _ _ _ _ _ _
      | exact ih2 _ _ _ _ _ _ _ _ _ _
      | exact LeO.none _
      | refine LeO.ite ?_ ?_
      | refine LeO.bind ?_ (fun _ => ?_)
    · intro y0 y1 y2 y3 y4 y5 y6 y7 y8 y9
      unfold precentorlaw11_RateBounds.l0
      repeat' first
      | (with_reducible exact ih0 _ _ _ _ _ _ _)
      | (with_reducible exact ih1 _ _ _ _ _ _ _ _ _ _)
      | (with_reducible exact ih2 _ _ _ _ _ _ _ _ _ _)
      | (with_reducible exact LeO.refl _)
      | (with_reducible exact LeO.none _)
      | (with_reducible refine LeO.ite ?_ ?_)
      | (with_reducible refine LeO.bind ?_ (fun _ => ?_))
      | exact ih0 _ _ _ _ _ _ _
      | exact ih1 _ _ _ _ _ _ _ _ _ _
      | exact ih2 _ _ _ _ _ _ _ _ _ _
      | exact LeO.none _
      | refine LeO.ite ?_ ?_
      | refine LeO.bind ?_ (fun _ => ?_)
    · intro y0 y1 y2 y3 y4 y5 y6 y7 y8 y9
      unfold precentorlaw11_RateBounds.j2
      repeat' first
      | (with_reducible exact ih0 _ _ _ _ _ _ _)
      | (with_reducible exact ih1 _ _ _ _ _ _ _ _ _ _)
      | (with_reducible exact ih2 _ _ _ _ _ _ _ _ _ _)
      | (with_reducible exact LeO.refl _)
      | (with_reducible exact LeO.none _)
      | (with_reducible refine LeO.ite ?_ ?_)
      | (with_reducible refine LeO.bind ?_ (fun _ => ?_))
      | exact ih0 _ _ _ _ _ _ _
      | exact ih1 _ _ _ _ _ _ _ _ _ _
      | exact ih2 _ _ _ _ _ _ _ _ _ _
      | exact LeO.none _
      | refine LeO.ite ?_ ?_
      | refine LeO.bind ?_ (fun _ => ?_)
theorem precentorlaw11_RateBounds.mono : ∀ a0 a1 a2 a3 a4 k, LeO (precentorlaw11_RateBounds.f k a0 a1 a2 a3 a4) (precentorlaw11_RateBounds.f (k + 1) a0 a1 a2 a3 a4) := by
  intro a0 a1 a2 a3 a4 k
  obtain ⟨ih0, ih1, ih2⟩ := precentorlaw11_RateBounds.mono_l k
  unfold precentorlaw11_RateBounds.f
  repeat' first
      | (with_reducible exact ih0 _ _ _ _ _ _ _)
      | (with_reducible exact ih1 _ _ _ _ _ _ _ _ _ _)
      | (with_reducible exact ih2 _ _ _ _ _ _ _ _ _ _)
      | (with_reducible exact LeO.refl _)
      | (with_reducible exact LeO.none _)
      | (with_reducible refine LeO.ite ?_ ?_)
      | (with_reducible refine LeO.bind ?_ (fun _ => ?_))
      | exact ih0 _ _ _ _ _ _ _
      | exact ih1 _ _ _ _ _ _ _ _ _ _
      | exact ih2 _ _ _ _ _ _ _ _ _ _
      | exact LeO.none _
      | refine LeO.ite ?_ ?_
      | refine LeO.bind ?_ (fun _ => ?_)
def precentorlaw11_RateBounds.T12 : Bool × List (List Nat × List Nat) := (true, [([], []), ([], []), ([], []), ([1, 2], [1, 2]), ([3], [3]), ([4], [4]), ([5], [5]), ([0, 6], [0, 6]), ([7], [7]), ([8], [8]), ([8], [8]), ([], []), ([11, 9, 7, 0, 1, 2, 3, 4, 5, 6, 7, 8, 9, 11], [9, 11]), ([10, 12, 0, 1, 2, 3, 4, 5, 6, 7, 8, 9, 10, 11, 12], [10])])
def precentorlaw11_RateBounds.B12 : List Nat := [0, 0, 0, 6, 14, 30, 62, 127, 255, 511, 511, 0, 3071, 8191]
theorem precentorlaw11_RateBounds.tab12 : rtab .any (opsOf Try.f5 12) = precentorlaw11_RateBounds.T12 := by kernel_rfl
theorem precentorlaw11_RateBounds.bits12 : waitsOk precentorlaw11_RateBounds.T12.2 precentorlaw11_RateBounds.B12 = true := by kernel_rfl
set_option maxHeartbeats 8000000 in
set_option maxRecDepth 100000 in
theorem precentorlaw11_RateBounds.calls (k : Nat) (a0_0 : Int) (a0_1 : Int) (a0_2 : Int) (A1 : Option Addr) (c1 : Nat) (l1 : List Int) (A2 : Option Addr) (c2 : Nat) (l2 : List Bool) (r : Bool) (w : World) (hr1 : Kd.C (Kd.int .u8) w A1 l1.length l1) (hc1 : l1.length ≤ c1) (hr2 : Kd.C Kd.bool w A2 l2.length l2) (hc2 : l2.length ≤ c2) (h : precentorlaw11_RateBounds.f k a0_0 a0_1 a0_2 l1 l2 = some r) :
    Calls Try.prog 5 #[.agg #[.int .u8 a0_0, .int .u8 a0_1, .int .u8 a0_2], .slice A1 l1.length c1, .slice A2 l2.length c2] w fun e w' => e = .returned (.bool r) ∧ Below w.heap.size w w' := by
  have hu36 := Try.underlying36
  have hu23 := Try.underlying23
  have HR1 := Aside0.mk hr1
  have HC1 := Aside0.mk hc1
  clear hr1 hc1
  have HR2 := Aside0.mk hr2
  have HC2 := Aside0.mk hc2
  clear hr2 hc2
  have HB := Aside0.mk (Below.refl w.heap.size w)
  have H : ((precentorlaw11_shown.f).bind fun t171 => (if (l1.length : Int) > 100 then (precentorlaw11_RateBounds.j0 k l1 l2 t171 (wrap64 (1 + (Int.tmod (wrap64 (a0_0)) 20))) (wrap64 ((wrap64 (1 + (Int.tmod (wrap64 (a0_0)) 20))) + (Int.tmod (wrap64 (a0_1)) 50))) (wrap64 (1 + (Int.tmod (wrap64 (a0_2)) 100))) true) else (precentorlaw11_RateBounds.j0 k l1 l2 t171 (wrap64 (1 + (Int.tmod (wrap64 (a0_0)) 20))) (wrap64 ((wrap64 (1 + (Int.tmod (wrap64 (a0_0)) 20))) + (Int.tmod (wrap64 (a0_1)) 50))) (wrap64 (1 + (Int.tmod (wrap64 (a0_2)) 100))) ((l2.length : Int) != (l1.length : Int))))) = some r := h
  clear h
  replace H := Option.bind_eq_some_iff.mp H
  obtain ⟨t171, A40, H⟩ := H
  replace H : (if (l1.length : Int) > 100 then (precentorlaw11_RateBounds.j0 k l1 l2 t171 (wrap64 (1 + (Int.tmod (wrap64 (a0_0)) 20))) (wrap64 ((wrap64 (1 + (Int.tmod (wrap64 (a0_0)) 20))) + (Int.tmod (wrap64 (a0_1)) 50))) (wrap64 (1 + (Int.tmod (wrap64 (a0_2)) 100))) true) else (precentorlaw11_RateBounds.j0 k l1 l2 t171 (wrap64 (1 + (Int.tmod (wrap64 (a0_0)) 20))) (wrap64 ((wrap64 (1 + (Int.tmod (wrap64 (a0_0)) 20))) + (Int.tmod (wrap64 (a0_1)) 50))) (wrap64 (1 + (Int.tmod (wrap64 (a0_2)) 100))) ((l2.length : Int) != (l1.length : Int)))) = some r := H
  have A4 := Aside0.mk A40
  clear A40
  have HC5 := Aside0.mk H
  clear H
  go_enter Try.func5, Try.ntmps5
  go_upto_region 5 with (first | ((with_reducible refine gate_dst (N := 3) rfl ?_); (try (refine gate_guard (by rfl) ?_; dsimp only)); refine box_event ?hg (N := 3) ?hd (cs := #[.int .u8 a0_0, .int .u8 a0_1, .int .u8 a0_2]) (t := 36) ?hr ?_; (case hd => rfl); (case hg => rfl); (case hr => first | (go_simp; done) | (go_simp; rfl)); intro gb170 hg w6 hbox hb; have n0_ := Aside0.mk (below_step (by repeat (first | (with_reducible first | exact HB.out | apply below_alloc | apply pw_below_drewN | apply below_drew1) | exact HB.out)) hb); have n1_ := Aside0.mk (hbox); have n2_ := Aside0.mk ((by rw [hg]; exact (below_size (by repeat (first | (with_reducible first | exact HB.out | apply below_alloc | apply pw_below_drewN | apply below_drew1) | exact HB.out))) : w.heap.size ≤ gb170)); have n3_ := Aside0.mk ((by rw [hg]; exact (below_size (by repeat (first | (with_reducible first | exact HB.out | apply below_alloc | apply pw_below_drewN | apply below_drew1) | exact HB.out))) : w.heap.size ≤ gb170)); clear HB; have HB := n0_; have BK170 := n1_; have GW170 := n2_; have GE170 := n3_; clear n0_ n1_ n2_ n3_; clear hb hbox hg) | ((with_reducible refine gate_callee (f := 7) rfl ?_); refine goesL_ (some 18) rfl rfl Try.func7 (by kernel_rfl) rfl #[] rfl (by (try simp only [List.map_toArray, List.map_cons, List.map_nil]); first | done | rfl | (simp only [List.length_drop, List.length_take]; rfl)) ?_; (with_reducible refine (precentorlaw11_shown.calls  t171 _ A4.out).mono ?_); rintro e w7 ⟨rfl, hb⟩; refine ⟨_, rfl, ?_⟩; have n0_ := Aside0.mk (blk_below (g := gb170) (o := .cells #[.int .u8 a0_0, .int .u8 a0_1, .int .u8 a0_2] 36 (0, 0)) (by (with_reducible repeat (first | refine blk_drewN ?_ _ | refine blk_drew ?_ | refine blk_alloc ?_ _)); exact BK170.out) hb); have n1_ := Aside0.mk (below_step (by repeat (first | (with_reducible first | exact HB.out | apply below_alloc | apply pw_below_drewN | apply below_drew1 | refine below_set ?_ GE170.out) | exact HB.out)) hb); clear BK170; clear HB; have BK170 := n0_; have HB := n1_; clear n0_ n1_; (try clear hb); (try clear hb2); (try clear hk); (try clear hi); have hcz8_0 : w7.cell? ⟨gb170, 0, none⟩ = some (.int .u8 a0_0) := (blk_cell BK170.out 0).trans rfl; have hcz8_1 : w7.cell? ⟨gb170, 1, none⟩ = some (.int .u8 a0_1) := (blk_cell BK170.out 1).trans rfl; have hcz8_2 : w7.cell? ⟨gb170, 2, none⟩ = some (.int .u8 a0_2) := (blk_cell BK170.out 2).trans rfl; have hfz8_0 := blk_frozen BK170.out 0; have hfz8_1 := blk_frozen BK170.out 1; have hfz8_2 := blk_frozen BK170.out 2))
  (try simp only [Act.put, List.setIfInBounds_toArray, List.set_cons_zero, List.set_cons_succ])
  go_cut [44] (fun v44 wc => ∃ (kq : Nat) (x44_4 : Bool), v44 = .bool x44_4 ∧ Aside0 (precentorlaw11_RateBounds.j0 kq l1 l2 t171 (wrap64 (1 + (Int.tmod (wrap64 (a0_0)) 20))) (wrap64 ((wrap64 (1 + (Int.tmod (wrap64 (a0_0)) 20))) + (Int.tmod (wrap64 (a0_1)) 50))) (wrap64 (1 + (Int.tmod (wrap64 (a0_2)) 100))) x44_4 = some r) ∧ Aside0 (kq ≤ k) ∧ Aside0 (wc.heap[gb170]? = some (.cells #[.int .u8 a0_0, .int .u8 a0_1, .int .u8 a0_2] 36 (0, 0))) ∧ Aside0 (Below w.heap.size w wc))
  case first =>
    have H := HC5.out
    clear HC5
    by_cases c9 : (l1.length : Int) > 100
    · rw [if_pos c9] at H
      have c9b0 : decide (100 < (l1.length : Int)) = true := decide_eq_true c9
      have c9b1 : decide (100 < l1.length) = true := decide_eq_true (by omega)
      clear c9
      (first | rw [c9b0] | (simp only [i64_w, i32_w]; rw [c9b0]) | skip)
      have H' := Aside0.mk H
      clear H
      go_wp2
      go_meet
      case rel => exact ⟨_, (true), (by first | rfl | (simp; done) | (simp [*]; done)), H', ⟨by first | omega | exact Nat.le_refl _⟩, ⟨by (with_reducible repeat (first | refine blk_drewN ?_ _ | refine blk_drew ?_ | refine blk_alloc ?_ _)); exact BK170.out⟩, ⟨by repeat (first | (with_reducible first | exact HB.out | apply below_alloc | apply pw_below_drewN | apply below_drew1 | refine below_set ?_ GE170.out) | exact HB.out)⟩⟩
    · rw [if_neg c9] at H
      have c9b0 : decide (100 < (l1.length : Int)) = false := decide_eq_false c9
      have c9b1 : decide (100 < l1.length) = false := decide_eq_false (by omega)
      clear c9
      (first | rw [c9b0] | (simp only [i64_w, i32_w]; rw [c9b0]) | skip)
      have H' := Aside0.mk H
      clear H
      go_wp2
      go_meet
      case rel => exact ⟨_, (((l2.length : Int) != (l1.length : Int))), (by first | rfl | (simp; done) | (simp [*]; done)), H', ⟨by first | omega | exact Nat.le_refl _⟩, ⟨by (with_reducible repeat (first | refine blk_drewN ?_ _ | refine blk_drew ?_ | refine blk_alloc ?_ _)); exact BK170.out⟩, ⟨by repeat (first | (with_reducible first | exact HB.out | apply below_alloc | apply pw_below_drewN | apply below_drew1 | refine below_set ?_ GE170.out) | exact HB.out)⟩⟩
  case rest =>
    clear HC5
    try clear c1
    try clear c2
    try clear p2
    try clear c5
    try clear p6
    try clear c7
    try clear c9
    try clear c9b0
    try clear c9b1
    try clear hcz8_0
    try clear hcz8_1
    try clear hcz8_2
    try clear hfz8_0
    try clear hfz8_1
    try clear hfz8_2
    obtain ⟨kq, x44_4, rfl, HA, HJ4, BK170, HB⟩ := hcut
    cases kq with
    | zero => exact absurd HA.out (by simp [precentorlaw11_RateBounds.j0])
    | succ kj4 =>
      have H := HA.out
      clear HA
      simp only [precentorlaw11_RateBounds.j0] at H
      by_cases c10 : x44_4 = true
      · subst c10
        have H1 : (some t171) = some r := by rw [if_pos rfl] at H; exact H
        clear H
        have H := H1
        clear H1
        obtain rfl := Option.some.inj H
        go_wp2
        go_ret
        exact ⟨by first | rfl | (simp [errW_none, errW_some] <;> rfl) | (simp [*, errW_none, errW_some] <;> rfl), by repeat (first | (with_reducible first | exact HB.out | apply below_alloc | apply pw_below_drewN | apply below_drew1 | refine below_set ?_ GE170.out) | exact HB.out)⟩
      · replace c10 := Bool.eq_false_iff.mpr c10
        subst c10
        have H1 : ((rate_Start.f (wrap64 ((wrap64 (1 + (Int.tmod (wrap64 (a0_0)) 20))) + (Int.tmod (wrap64 (a0_1)) 50))) (wrap64 (1 + (Int.tmod (wrap64 (a0_2)) 100)))).bind fun bt172 => (precentorlaw11_RateBounds.l0 kj4 l1 l2 t171 (wrap64 (1 + (Int.tmod (wrap64 (a0_0)) 20))) (wrap64 ((wrap64 (1 + (Int.tmod (wrap64 (a0_0)) 20))) + (Int.tmod (wrap64 (a0_1)) 50))) (wrap64 (1 + (Int.tmod (wrap64 (a0_2)) 100))) 0 0 bt172.1 bt172.2)) = some r := by rw [if_neg (show ¬ (false = true) by decide)] at H; exact H
        clear H
        have H := H1
        clear H1
        replace H := Option.bind_eq_some_iff.mp H
        obtain ⟨⟨t172, t173⟩, A110, H⟩ := H
        replace H : (precentorlaw11_RateBounds.l0 kj4 l1 l2 t171 (wrap64 (1 + (Int.tmod (wrap64 (a0_0)) 20))) (wrap64 ((wrap64 (1 + (Int.tmod (wrap64 (a0_0)) 20))) + (Int.tmod (wrap64 (a0_1)) 50))) (wrap64 (1 + (Int.tmod (wrap64 (a0_2)) 100))) 0 0 t172 t173) = some r := H
        have A11 := Aside0.mk A110
        clear A110
        have H' := Aside0.mk H
        clear H
        go_wp2_with (first | ((with_reducible refine gate_callee (f := 12) rfl ?_); refine goesL_ (some 48) rfl rfl Try.func12 (by kernel_rfl) rfl #[.int .i64 (wrap64 ((wrap64 (1 + (Int.tmod (wrap64 (a0_0)) 20))) + (Int.tmod (wrap64 (a0_1)) 50))), .int .i64 (wrap64 (1 + (Int.tmod (wrap64 (a0_2)) 100)))] rfl (by (try simp only [List.map_toArray, List.map_cons, List.map_nil]); first | done | rfl | (simp only [List.length_drop, List.length_take]; rfl)) ?_; (with_reducible refine (rate_Start.calls (wrap64 ((wrap64 (1 + (Int.tmod (wrap64 (a0_0)) 20))) + (Int.tmod (wrap64 (a0_1)) 50))) (wrap64 (1 + (Int.tmod (wrap64 (a0_2)) 100))) t172 t173 _ A11.out).mono ?_); rintro e w12 ⟨rfl, hb⟩; refine ⟨_, rfl, ?_⟩; have n0_ := Aside0.mk (blk_below (g := gb170) (o := .cells #[.int .u8 a0_0, .int .u8 a0_1, .int .u8 a0_2] 36 (0, 0)) (by (with_reducible repeat (first | refine blk_drewN ?_ _ | refine blk_drew ?_ | refine blk_alloc ?_ _)); exact BK170.out) hb); have n1_ := Aside0.mk (below_step (by repeat (first | (with_reducible first | exact HB.out | apply below_alloc | apply pw_below_drewN | apply below_drew1 | refine below_set ?_ GE170.out) | exact HB.out)) hb); clear BK170; clear HB; have BK170 := n0_; have HB := n1_; clear n0_ n1_; (try clear hb); (try clear hb2); (try clear hk); (try clear hi)) | ((with_reducible refine gate_dst (N := 11) rfl ?_); (try (refine gate_guard (by rfl) ?_; dsimp only)); refine box_event ?hg (N := 11) ?hd (cs := #[.int .i64 0, .int .i64 0]) (t := 23) ?hr ?_; (case hd => rfl); (case hg => rfl); (case hr => first | (go_simp; done) | (go_simp; rfl)); intro gb174 hg w13 hbox hb; have n0_ := Aside0.mk (blk_below (g := gb170) (o := .cells #[.int .u8 a0_0, .int .u8 a0_1, .int .u8 a0_2] 36 (0, 0)) (by (with_reducible repeat (first | refine blk_drewN ?_ _ | refine blk_drew ?_ | refine blk_alloc ?_ _)); exact BK170.out) hb); have n1_ := Aside0.mk (below_step (by repeat (first | (with_reducible first | exact HB.out | apply below_alloc | apply pw_below_drewN | apply below_drew1 | refine below_set ?_ GE170.out) | exact HB.out)) hb); have n2_ := Aside0.mk (hbox); have n3_ := Aside0.mk ((by rw [hg]; exact (below_size (by repeat (first | (with_reducible first | exact HB.out | apply below_alloc | apply pw_below_drewN | apply below_drew1 | refine below_set ?_ GE170.out) | exact HB.out))) : w.heap.size ≤ gb174)); have n4_ := Aside0.mk ((by rw [hg]; exact (below_size (by repeat (first | (with_reducible first | exact HB.out | apply below_alloc | apply pw_below_drewN | apply below_drew1 | refine below_set ?_ GE170.out) | exact HB.out))) : w.heap.size ≤ gb174)); have n5_ := Aside0.mk ((by rw [hg]; exact Nat.ne_of_lt (blk_lt (g := gb170) (o := .cells #[.int .u8 a0_0, .int .u8 a0_1, .int .u8 a0_2] 36 (0, 0)) (by (with_reducible repeat (first | refine blk_drewN ?_ _ | refine blk_drew ?_ | refine blk_alloc ?_ _)); exact BK170.out)) : gb170 ≠ gb174)); have n6_ := Aside0.mk ((by rw [hg]; exact Nat.ne_of_gt (blk_lt (g := gb170) (o := .cells #[.int .u8 a0_0, .int .u8 a0_1, .int .u8 a0_2] 36 (0, 0)) (by (with_reducible repeat (first | refine blk_drewN ?_ _ | refine blk_drew ?_ | refine blk_alloc ?_ _)); exact BK170.out)) : gb174 ≠ gb170)); clear BK170; clear HB; have BK170 := n0_; have HB := n1_; have BK174 := n2_; have GW174 := n3_; have GE174 := n4_; have NB170_174 := n5_; have NB174_170 := n6_; clear n0_ n1_ n2_ n3_ n4_ n5_ n6_; clear hb hbox hg; have hnb14 := NB174_170.out; have hnc14 := NB170_174.out; have hcz15_0 : w13.cell? ⟨gb174, 0, none⟩ = some (.int .i64 0) := (blk_cell BK174.out 0).trans rfl; have hcz15_1 : w13.cell? ⟨gb174, 1, none⟩ = some (.int .i64 0) := (blk_cell BK174.out 1).trans rfl; have hfz15_0 := blk_frozen BK174.out 0; have hfz15_1 := blk_frozen BK174.out 1))
        go_loopg [12, 13] kj4 (fun kq v12 v13 w' => ∃ (x12_2 : Int) (x13_2 : Int) (x175000_2 : Int) (x175001_2 : Int), v12 = .int .i64 x12_2 ∧ v13 = .int .i64 x13_2 ∧ Aside0 (precentorlaw11_RateBounds.l0 kq l1 l2 t171 (wrap64 (1 + (Int.tmod (wrap64 (a0_0)) 20))) (wrap64 ((wrap64 (1 + (Int.tmod (wrap64 (a0_0)) 20))) + (Int.tmod (wrap64 (a0_1)) 50))) (wrap64 (1 + (Int.tmod (wrap64 (a0_2)) 100))) x12_2 x13_2 x175000_2 x175001_2 = some r) ∧ Aside0 (kq ≤ kj4) ∧ Aside0 (w'.heap[gb170]? = some (.cells #[.int .u8 a0_0, .int .u8 a0_1, .int .u8 a0_2] 36 (0, 0))) ∧ Aside0 (w'.heap[gb174]? = some (.cells #[.int .i64 x175000_2, .int .i64 x175001_2] 23 (0, 0))) ∧ Aside0 (Below w.heap.size w w'))
        case atStart => exact ⟨(0), (0), (t172), (t173), (by first | rfl | (simp; done) | (simp [*]; done)), (by first | rfl | (simp; done) | (simp [*]; done)), H', ⟨Nat.le_refl _⟩, ⟨by (with_reducible repeat (first | refine blk_drewN ?_ _ | refine blk_drew ?_ | refine blk_alloc ?_ _)); refine blk_far ?_ NB170_174.out _; (with_reducible repeat (first | refine blk_drewN ?_ _ | refine blk_drew ?_ | refine blk_alloc ?_ _)); refine blk_far ?_ NB170_174.out _; (with_reducible repeat (first | refine blk_drewN ?_ _ | refine blk_drew ?_ | refine blk_alloc ?_ _)); exact BK170.out⟩, ⟨by (with_reducible repeat (first | refine blk_drewN ?_ _ | refine blk_drew ?_ | refine blk_alloc ?_ _)); refine blk_put (cs := #[.int .i64 t172, .int .i64 0]) ?_ 1 _ rfl; (with_reducible repeat (first | refine blk_drewN ?_ _ | refine blk_drew ?_ | refine blk_alloc ?_ _)); refine blk_put (cs := #[.int .i64 0, .int .i64 0]) ?_ 0 _ rfl; (with_reducible repeat (first | refine blk_drewN ?_ _ | refine blk_drew ?_ | refine blk_alloc ?_ _)); exact BK174.out⟩, ⟨by repeat (first | (with_reducible first | exact HB.out | apply below_alloc | apply pw_below_drewN | apply below_drew1 | refine below_set ?_ GE170.out | refine below_set ?_ GE174.out) | exact HB.out)⟩⟩
        case round =>
          clear H'
          try clear c1
          try clear c2
          try clear p2
          try clear c5
          try clear p6
          try clear c7
          try clear c9
          try clear c9b0
          try clear c9b1
          try clear c10
          try clear c12
          try clear c14
          try clear hcz15_0
          try clear hcz15_1
          try clear hcz8_0
          try clear hcz8_1
          try clear hcz8_2
          try clear hfz15_0
          try clear hfz15_1
          try clear hfz8_0
          try clear hfz8_1
          try clear hfz8_2
          try clear p2
          try clear p6
          obtain ⟨x12_2, x13_2, x175000_2, x175001_2, rfl, rfl, HA, HK2, BK170, BK174, HB⟩ := hrel
          cases gk with
          | zero => exact absurd HA.out (by simp [precentorlaw11_RateBounds.l0])
          | succ k2 =>
            have H := HA.out
            clear HA
            simp only [precentorlaw11_RateBounds.l0] at H
            by_cases c16 : x13_2 < (l1.length : Int)
            · rw [if_pos c16] at H
              have c16b0 : decide (x13_2 < (l1.length : Int)) = true := decide_eq_true c16
              clear c16
              by_cases c17 : 0 ≤ x13_2
              · rw [if_pos c17] at H
                have c17b0 : decide (0 ≤ x13_2) = true := decide_eq_true c17
                clear c17
                replace H := Option.bind_eq_some_iff.mp H
                obtain ⟨⟨t176, t177, t178⟩, A180, H⟩ := H
                replace H : (if t178 = true then (precentorlaw11_RateBounds.j2 k2 l1 l2 t171 (wrap64 (1 + (Int.tmod (wrap64 (a0_0)) 20))) (wrap64 ((wrap64 (1 + (Int.tmod (wrap64 (a0_0)) 20))) + (Int.tmod (wrap64 (a0_1)) 50))) (wrap64 (1 + (Int.tmod (wrap64 (a0_2)) 100))) (wrap64 (x12_2 + (Int.tmod (wrap64 (rd l1 x13_2)) 30))) x13_2 t176 t177) else (precentorlaw11_RateBounds.j2 k2 l1 l2 t171 (wrap64 (1 + (Int.tmod (wrap64 (a0_0)) 20))) (wrap64 ((wrap64 (1 + (Int.tmod (wrap64 (a0_0)) 20))) + (Int.tmod (wrap64 (a0_1)) 50))) (wrap64 (1 + (Int.tmod (wrap64 (a0_2)) 100))) x12_2 x13_2 t176 t177)) = some r := H
                have A18 := Aside0.mk A180
                clear A180
                have HC19 := Aside0.mk H
                clear H
                try go_wp2
                have n0_ := Aside0.mk (blk_drew BK170.out)
                have n1_ := Aside0.mk (blk_drew BK174.out)
                have n2_ := Aside0.mk (below_drew1 HB.out)
                clear BK170
                clear BK174
                clear HB
                have BK170 := n0_
                have BK174 := n1_
                have HB := n2_
                clear n0_ n1_ n2_
                have p175 : 0 ≤ (x13_2 : Int) := of_decide_eq_true (by first | (with_reducible assumption) | assumption)
                have q175 : x13_2 < (l1.length : Int) := of_decide_eq_true (by first | (with_reducible assumption) | assumption)
                obtain ⟨ad175, e175, hx175_0⟩ := Kd.at_int HR1.out x13_2 p175 q175
                have hw175_0 := hx175_0
                cases e175
                replace hx175_0 := (HB.out.cell (World.block_lt_of_cell? w _ hx175_0)).trans hx175_0
                replace p175 := eq_true p175
                replace q175 := eq_true q175
                refine start_ (n := 14) (S := fun w' => w'.cell? ⟨gb174, 0, none⟩ = some (.int .i64 x175000_2) ∧ w'.cell? ⟨gb174, 1, none⟩ = some (.int .i64 x175001_2) ∧ w'.cell? (ad175.add (x13_2).toNat) = some (.int .u8 (rd l1 x13_2))) (ds := []) #[false, false, false, false, false, false, false, false, false, false, false, false, false, false] (by kernel_rfl) rfl rfl ⟨(blk_cell BK174.out 0).trans rfl, (blk_cell BK174.out 1).trans rfl, ((HB.out.cell (World.block_lt_of_cell? w _ hw175_0)).trans hw175_0)⟩ (fun hHeld => ?_); refine with_tabW precentorlaw11_RateBounds.tab12 precentorlaw11_RateBounds.bits12 (fun HT_ HW_ => ?_)
                generalize wr.drew = w20 at BK170 BK174 HB hx175_0 hHeld ⊢
                refine pure_ (i := 1) (N := some 57) (v := ?_) (a' := ?_) #[false, true, false, false, false, false, false, false, false, false, false, false, false, false] rfl rfl (any_of HT_.out (by kernel_rfl)) (fun _ _ _ h => h) (Or.inl ⟨by rfl, ?_⟩) ?_ ?_
                rotate_left
                · intro w'
                  go_simp
                  with_reducible rfl
                rotate_left
                · simp only [Act.put, List.setIfInBounds_toArray, List.set_cons_zero, List.set_cons_succ, i64_w, i32_w]
                  rfl
                refine pure_ (i := 2) (N := some 58) (v := ?_) (a' := ?_) #[false, true, true, false, false, false, false, false, false, false, false, false, false, false] rfl rfl (any_of HT_.out (by kernel_rfl)) (fun _ _ _ h => h) (Or.inl ⟨by rfl, ?_⟩) ?_ ?_
                rotate_left
                · intro w'
                  go_simp
                  with_reducible rfl
                rotate_left
                · simp only [Act.put, List.setIfInBounds_toArray, List.set_cons_zero, List.set_cons_succ, i64_w, i32_w]
                  rfl
                refine pure_ (i := 3) (N := some 59) (v := ?_) (a' := ?_) #[false, true, true, true, false, false, false, false, false, false, false, false, false, false] rfl rfl (any_of HT_.out (by kernel_rfl)) (fun _ _ _ h => h) (Or.inl ⟨by rfl, ?_⟩) ?_ ?_
                rotate_left
                · intro w'
                  go_simp
                  with_reducible rfl
                rotate_left
                · simp only [Act.put, List.setIfInBounds_toArray, List.set_cons_zero, List.set_cons_succ, i64_w, i32_w]
                  rfl
                refine take_ (i := 0) (N := some 56) (v := ?_) (a' := ?_) #[true, true, true, true, false, false, false, false, false, false, false, false, false, false] rfl rfl (take_ofW HT_.out HW_.out (by kernel_rfl)) (fun _ _ _ h => h) (Or.inl ⟨by rfl, ?_⟩) hHeld ?_ ?_
                rotate_left
                · rintro w' ⟨s0, s1, s2⟩
                  go_simp
                  with_reducible rfl
                rotate_left
                · simp only [Act.put, List.setIfInBounds_toArray, List.set_cons_zero, List.set_cons_succ, i64_w, i32_w]
                  rfl
                refine take_ (i := 4) (N := some 60) (v := ?_) (a' := ?_) #[true, true, true, true, true, false, false, false, false, false, false, false, false, false] rfl rfl (take_ofW HT_.out HW_.out (by kernel_rfl)) (fun _ _ _ h => h) (Or.inl ⟨by rfl, ?_⟩) hHeld ?_ ?_
                rotate_left
                · rintro w' ⟨s0, s1, s2⟩
                  go_simp
                  with_reducible rfl
                rotate_left
                · simp only [Act.put, List.setIfInBounds_toArray, List.set_cons_zero, List.set_cons_succ, i64_w, i32_w]
                  rfl
                refine pure_ (i := 5) (N := some 61) (v := ?_) (a' := ?_) #[true, true, true, true, true, true, false, false, false, false, false, false, false, false] rfl rfl (any_of HT_.out (by kernel_rfl)) (fun _ _ _ h => h) (Or.inl ⟨by rfl, ?_⟩) ?_ ?_
                rotate_left
                · intro w'
                  go_simp
                  with_reducible rfl
                rotate_left
                · simp only [Act.put, List.setIfInBounds_toArray, List.set_cons_zero, List.set_cons_succ, i64_w, i32_w]
                  rfl
                refine pure_ (i := 6) (N := some 62) (v := ?_) (a' := ?_) #[true, true, true, true, true, true, true, false, false, false, false, false, false, false] rfl rfl (any_of HT_.out (by kernel_rfl)) (fun _ _ _ h => h) (Or.inl ⟨by rfl, ?_⟩) ?_ ?_
                rotate_left
                · intro w'
                  go_simp
                  with_reducible rfl
                rotate_left
                · simp only [Act.put, List.setIfInBounds_toArray, List.set_cons_zero, List.set_cons_succ, i64_w, i32_w]
                  rfl
                refine join_ (σ := Nat) 2 #[true, true, true, true, true, true, true, true, true, true, true, true, false, false] (fun s_ => [(63, .tuple #[.agg #[.int .i64 t176, .int .i64 t177], .bool t178]), (14, .pointer (some ⟨s_, 0, none⟩)), (55, .tuple #[.agg #[.int .i64 t176, .int .i64 t177], .bool t178]), (64, .agg #[.int .i64 t176, .int .i64 t177]), (65, .bool t178)]) (fun s_ w' => (w'.cell? ⟨gb174, 0, none⟩ = some (.int .i64 x175000_2) ∧ w'.cell? ⟨gb174, 1, none⟩ = some (.int .i64 x175001_2) ∧ w'.cell? (ad175.add (x13_2).toNat) = some (.int .u8 (rd l1 x13_2))) ∧ (w'.heap[gb170]? = some (.cells #[.int .u8 a0_0, .int .u8 a0_1, .int .u8 a0_2] 36 (0, 0))) ∧ (w'.heap[gb174]? = some (.cells #[.int .i64 x175000_2, .int .i64 x175001_2] 23 (0, 0))) ∧ (w'.heap[s_]? = some (.cells #[.int .i64 0, .int .i64 0] 23 (0, 0))) ∧ (w.heap.size ≤ s_) ∧ (w.heap.size ≤ s_) ∧ (gb170 ≠ s_) ∧ (s_ ≠ gb170) ∧ (gb174 ≠ s_) ∧ (s_ ≠ gb174) ∧ (Below w.heap.size w w')) ?_ ?_
                rotate_left
                · intro hCont
                  refine two_ (i := 7) (j := 11) (Ni := some 63) (Nj := some 14) #[true, true, true, true, true, true, true, true, false, false, false, false, false, false] #[true, true, true, true, true, true, true, false, false, false, false, true, false, false] rfl rfl rfl rfl (two_of HT_.out (by kernel_rfl)) (by decide) (by decide) (fun K hK => ?_) (fun K hK => ?_)
                  · skip
                    refine goes_ Try.func10 (by kernel_rfl) rfl #[.agg #[.int .i64 x175000_2, .int .i64 x175001_2], .int .i64 (Int.tmod (wrap64 (rd l1 x13_2)) 30)] (by rfl) rfl rfl (by (try simp only [List.map_toArray, List.map_cons, List.map_nil]); first | done | rfl | (simp only [List.length_drop, List.length_take]; rfl)) ?_
                    with_reducible refine (rate_Spend.calls x175000_2 x175001_2 (Int.tmod (wrap64 (rd l1 x13_2)) 30) t176 t177 t178 _ A18.out).mono ?_
                    rintro e w21 ⟨rfl, hb⟩
                    refine ⟨_, rfl, ?_⟩
                    have n0_ := Aside0.mk (blk_below (g := gb170) (o := .cells #[.int .u8 a0_0, .int .u8 a0_1, .int .u8 a0_2] 36 (0, 0)) (by (with_reducible repeat (first | refine blk_drewN ?_ _ | refine blk_drew ?_ | refine blk_alloc ?_ _)); exact BK170.out) hb)
                    have n1_ := Aside0.mk (blk_below (g := gb174) (o := .cells #[.int .i64 x175000_2, .int .i64 x175001_2] 23 (0, 0)) (by (with_reducible repeat (first | refine blk_drewN ?_ _ | refine blk_drew ?_ | refine blk_alloc ?_ _)); exact BK174.out) hb)
                    have n2_ := Aside0.mk (below_step (by repeat (first | (with_reducible first | exact HB.out | apply below_alloc | apply pw_below_drewN | apply below_drew1 | refine below_set ?_ GE170.out | refine below_set ?_ GE174.out) | exact HB.out)) hb)
                    clear BK170
                    clear BK174
                    clear HB
                    have BK170 := n0_
                    have BK174 := n1_
                    have HB := n2_
                    clear n0_ n1_ n2_
                    (try clear hb)
                    (try clear hb2)
                    (try clear hk)
                    (try clear hi)
                    refine hK.out _ _ ⟨(blk_cell BK174.out 0).trans rfl, (blk_cell BK174.out 1).trans rfl, ((HB.out.cell (World.block_lt_of_cell? w _ hw175_0)).trans hw175_0)⟩ (fun hHeld => ?_)
                    clear hK K
                    refine norm_ (a' := ?_) ?_ ?_
                    rotate_left
                    · show Act.put _ (some 63) _ = _
                      simp only [Act.put, List.setIfInBounds_toArray, List.set_cons_zero, List.set_cons_succ, i64_w, i32_w]
                      rfl
                    refine pure_ (i := 8) (N := some 55) (v := ?_) (a' := ?_) #[true, true, true, true, true, true, true, true, true, false, false, false, false, false] rfl rfl (any_of HT_.out (by kernel_rfl)) (fun _ _ _ h => h) (Or.inl ⟨by rfl, ?_⟩) ?_ ?_
                    rotate_left
                    · intro w'
                      go_simp
                      with_reducible rfl
                    rotate_left
                    · simp only [Act.put, List.setIfInBounds_toArray, List.set_cons_zero, List.set_cons_succ, i64_w, i32_w]
                      rfl
                    refine pure_ (i := 9) (N := some 64) (v := ?_) (a' := ?_) #[true, true, true, true, true, true, true, true, true, true, false, false, false, false] rfl rfl (any_of HT_.out (by kernel_rfl)) (fun _ _ _ h => h) (Or.inl ⟨by rfl, ?_⟩) ?_ ?_
                    rotate_left
                    · intro w'
                      go_simp
                      with_reducible rfl
                    rotate_left
                    · simp only [Act.put, List.setIfInBounds_toArray, List.set_cons_zero, List.set_cons_succ, i64_w, i32_w]
                      rfl
                    refine pure_ (i := 10) (N := some 65) (v := ?_) (a' := ?_) #[true, true, true, true, true, true, true, true, true, true, true, false, false, false] rfl rfl (any_of HT_.out (by kernel_rfl)) (fun _ _ _ h => h) (Or.inl ⟨by rfl, ?_⟩) ?_ ?_
                    rotate_left
                    · intro w'
                      go_simp
                      with_reducible rfl
                    rotate_left
                    · simp only [Act.put, List.setIfInBounds_toArray, List.set_cons_zero, List.set_cons_succ, i64_w, i32_w]
                      rfl
                    refine one_ (i := 11) (N := some 14) #[true, true, true, true, true, true, true, true, true, true, true, true, false, false] rfl rfl (one_of HT_.out (by kernel_rfl)) (by decide) (fun K hK => ?_)
                    refine box_step ?hg (N := 14) ?hd (cs := #[.int .i64 0, .int .i64 0]) (t := 23) ?hr ?_; (case hd => rfl); (case hg => rfl); (case hr => first | (go_simp; done) | (go_simp; rfl))
                    intro gb179 hg w22 hbox hb
                    have n0_ := Aside0.mk (blk_below (g := gb170) (o := .cells #[.int .u8 a0_0, .int .u8 a0_1, .int .u8 a0_2] 36 (0, 0)) (by (with_reducible repeat (first | refine blk_drewN ?_ _ | refine blk_drew ?_ | refine blk_alloc ?_ _)); exact BK170.out) hb)
                    have n1_ := Aside0.mk (blk_below (g := gb174) (o := .cells #[.int .i64 x175000_2, .int .i64 x175001_2] 23 (0, 0)) (by (with_reducible repeat (first | refine blk_drewN ?_ _ | refine blk_drew ?_ | refine blk_alloc ?_ _)); exact BK174.out) hb)
                    have n2_ := Aside0.mk (below_step (by repeat (first | (with_reducible first | exact HB.out | apply below_alloc | apply pw_below_drewN | apply below_drew1 | refine below_set ?_ GE170.out | refine below_set ?_ GE174.out) | exact HB.out)) hb)
                    have n3_ := Aside0.mk (hbox)
                    have n4_ := Aside0.mk ((by rw [hg]; exact (below_size (by repeat (first | (with_reducible first | exact HB.out | apply below_alloc | apply pw_below_drewN | apply below_drew1 | refine below_set ?_ GE170.out | refine below_set ?_ GE174.out) | exact HB.out))) : w.heap.size ≤ gb179))
                    have n5_ := Aside0.mk ((by rw [hg]; exact (below_size (by repeat (first | (with_reducible first | exact HB.out | apply below_alloc | apply pw_below_drewN | apply below_drew1 | refine below_set ?_ GE170.out | refine below_set ?_ GE174.out) | exact HB.out))) : w.heap.size ≤ gb179))
                    have n6_ := Aside0.mk ((by rw [hg]; exact Nat.ne_of_lt (blk_lt (g := gb170) (o := .cells #[.int .u8 a0_0, .int .u8 a0_1, .int .u8 a0_2] 36 (0, 0)) (by (with_reducible repeat (first | refine blk_drewN ?_ _ | refine blk_drew ?_ | refine blk_alloc ?_ _)); exact BK170.out)) : gb170 ≠ gb179))
                    have n7_ := Aside0.mk ((by rw [hg]; exact Nat.ne_of_gt (blk_lt (g := gb170) (o := .cells #[.int .u8 a0_0, .int .u8 a0_1, .int .u8 a0_2] 36 (0, 0)) (by (with_reducible repeat (first | refine blk_drewN ?_ _ | refine blk_drew ?_ | refine blk_alloc ?_ _)); exact BK170.out)) : gb179 ≠ gb170))
                    have n8_ := Aside0.mk ((by rw [hg]; exact Nat.ne_of_lt (blk_lt (g := gb174) (o := .cells #[.int .i64 x175000_2, .int .i64 x175001_2] 23 (0, 0)) (by (with_reducible repeat (first | refine blk_drewN ?_ _ | refine blk_drew ?_ | refine blk_alloc ?_ _)); exact BK174.out)) : gb174 ≠ gb179))
                    have n9_ := Aside0.mk ((by rw [hg]; exact Nat.ne_of_gt (blk_lt (g := gb174) (o := .cells #[.int .i64 x175000_2, .int .i64 x175001_2] 23 (0, 0)) (by (with_reducible repeat (first | refine blk_drewN ?_ _ | refine blk_drew ?_ | refine blk_alloc ?_ _)); exact BK174.out)) : gb179 ≠ gb174))
                    clear BK170
                    clear BK174
                    clear HB
                    have BK170 := n0_
                    have BK174 := n1_
                    have HB := n2_
                    have BK179 := n3_
                    have GW179 := n4_
                    have GE179 := n5_
                    have NB170_179 := n6_
                    have NB179_170 := n7_
                    have NB174_179 := n8_
                    have NB179_174 := n9_
                    clear n0_ n1_ n2_ n3_ n4_ n5_ n6_ n7_ n8_ n9_
                    clear hb hbox hg
                    refine hK.out _ _ ⟨(blk_cell BK174.out 0).trans rfl, (blk_cell BK174.out 1).trans rfl, ((HB.out.cell (World.block_lt_of_cell? w _ hw175_0)).trans hw175_0)⟩ (fun hHeld => ?_)
                    clear hK K
                    refine norm_ (a' := ?_) ?_ ?_
                    rotate_left
                    · show Act.put _ (some 14) _ = _
                      simp only [Act.put, List.setIfInBounds_toArray, List.set_cons_zero, List.set_cons_succ, i64_w, i32_w]
                      rfl
                    exact norm_ (by simp only [putAll, Act.put, List.setIfInBounds_toArray, List.set_cons_zero, List.set_cons_succ]) (hCont (gb179) _ ⟨hHeld, (by (with_reducible repeat (first | refine blk_drewN ?_ _ | refine blk_drew ?_ | refine blk_alloc ?_ _)); exact BK170.out), (by (with_reducible repeat (first | refine blk_drewN ?_ _ | refine blk_drew ?_ | refine blk_alloc ?_ _)); exact BK174.out), (by (with_reducible repeat (first | refine blk_drewN ?_ _ | refine blk_drew ?_ | refine blk_alloc ?_ _)); exact BK179.out), GW179.out, GE179.out, NB170_179.out, NB179_170.out, NB174_179.out, NB179_174.out, (by repeat (first | (with_reducible first | exact HB.out | apply below_alloc | apply pw_below_drewN | apply below_drew1 | refine below_set ?_ GE170.out | refine below_set ?_ GE174.out | refine below_set ?_ GE179.out) | exact HB.out))⟩)
                  · skip
                    refine box_step ?hg (N := 14) ?hd (cs := #[.int .i64 0, .int .i64 0]) (t := 23) ?hr ?_; (case hd => rfl); (case hg => rfl); (case hr => first | (go_simp; done) | (go_simp; rfl))
                    intro gb179 hg w21 hbox hb
                    have n0_ := Aside0.mk (blk_below (g := gb170) (o := .cells #[.int .u8 a0_0, .int .u8 a0_1, .int .u8 a0_2] 36 (0, 0)) (by (with_reducible repeat (first | refine blk_drewN ?_ _ | refine blk_drew ?_ | refine blk_alloc ?_ _)); exact BK170.out) hb)
                    have n1_ := Aside0.mk (blk_below (g := gb174) (o := .cells #[.int .i64 x175000_2, .int .i64 x175001_2] 23 (0, 0)) (by (with_reducible repeat (first | refine blk_drewN ?_ _ | refine blk_drew ?_ | refine blk_alloc ?_ _)); exact BK174.out) hb)
                    have n2_ := Aside0.mk (below_step (by repeat (first | (with_reducible first | exact HB.out | apply below_alloc | apply pw_below_drewN | apply below_drew1 | refine below_set ?_ GE170.out | refine below_set ?_ GE174.out) | exact HB.out)) hb)
                    have n3_ := Aside0.mk (hbox)
                    have n4_ := Aside0.mk ((by rw [hg]; exact (below_size (by repeat (first | (with_reducible first | exact HB.out | apply below_alloc | apply pw_below_drewN | apply below_drew1 | refine below_set ?_ GE170.out | refine below_set ?_ GE174.out) | exact HB.out))) : w.heap.size ≤ gb179))
                    have n5_ := Aside0.mk ((by rw [hg]; exact (below_size (by repeat (first | (with_reducible first | exact HB.out | apply below_alloc | apply pw_below_drewN | apply below_drew1 | refine below_set ?_ GE170.out | refine below_set ?_ GE174.out) | exact HB.out))) : w.heap.size ≤ gb179))
                    have n6_ := Aside0.mk ((by rw [hg]; exact Nat.ne_of_lt (blk_lt (g := gb170) (o := .cells #[.int .u8 a0_0, .int .u8 a0_1, .int .u8 a0_2] 36 (0, 0)) (by (with_reducible repeat (first | refine blk_drewN ?_ _ | refine blk_drew ?_ | refine blk_alloc ?_ _)); exact BK170.out)) : gb170 ≠ gb179))
                    have n7_ := Aside0.mk ((by rw [hg]; exact Nat.ne_of_gt (blk_lt (g := gb170) (o := .cells #[.int .u8 a0_0, .int .u8 a0_1, .int .u8 a0_2] 36 (0, 0)) (by (with_reducible repeat (first | refine blk_drewN ?_ _ | refine blk_drew ?_ | refine blk_alloc ?_ _)); exact BK170.out)) : gb179 ≠ gb170))
                    have n8_ := Aside0.mk ((by rw [hg]; exact Nat.ne_of_lt (blk_lt (g := gb174) (o := .cells #[.int .i64 x175000_2, .int .i64 x175001_2] 23 (0, 0)) (by (with_reducible repeat (first | refine blk_drewN ?_ _ | refine blk_drew ?_ | refine blk_alloc ?_ _)); exact BK174.out)) : gb174 ≠ gb179))
                    have n9_ := Aside0.mk ((by rw [hg]; exact Nat.ne_of_gt (blk_lt (g := gb174) (o := .cells #[.int .i64 x175000_2, .int .i64 x175001_2] 23 (0, 0)) (by (with_reducible repeat (first | refine blk_drewN ?_ _ | refine blk_drew ?_ | refine blk_alloc ?_ _)); exact BK174.out)) : gb179 ≠ gb174))
                    clear BK170
                    clear BK174
                    clear HB
                    have BK170 := n0_
                    have BK174 := n1_
                    have HB := n2_
                    have BK179 := n3_
                    have GW179 := n4_
                    have GE179 := n5_
                    have NB170_179 := n6_
                    have NB179_170 := n7_
                    have NB174_179 := n8_
                    have NB179_174 := n9_
                    clear n0_ n1_ n2_ n3_ n4_ n5_ n6_ n7_ n8_ n9_
                    clear hb hbox hg
                    refine hK.out _ _ ⟨(blk_cell BK174.out 0).trans rfl, (blk_cell BK174.out 1).trans rfl, ((HB.out.cell (World.block_lt_of_cell? w _ hw175_0)).trans hw175_0)⟩ (fun hHeld => ?_)
                    clear hK K
                    refine norm_ (a' := ?_) ?_ ?_
                    rotate_left
                    · show Act.put _ (some 14) _ = _
                      simp only [Act.put, List.setIfInBounds_toArray, List.set_cons_zero, List.set_cons_succ, i64_w, i32_w]
                      rfl
                    refine one_ (i := 7) (N := some 63) #[true, true, true, true, true, true, true, true, false, false, false, true, false, false] rfl rfl (one_of HT_.out (by kernel_rfl)) (by decide) (fun K hK => ?_)
                    refine goes_ Try.func10 (by kernel_rfl) rfl #[.agg #[.int .i64 x175000_2, .int .i64 x175001_2], .int .i64 (Int.tmod (wrap64 (rd l1 x13_2)) 30)] (by rfl) rfl rfl (by (try simp only [List.map_toArray, List.map_cons, List.map_nil]); first | done | rfl | (simp only [List.length_drop, List.length_take]; rfl)) ?_
                    with_reducible refine (rate_Spend.calls x175000_2 x175001_2 (Int.tmod (wrap64 (rd l1 x13_2)) 30) t176 t177 t178 _ A18.out).mono ?_
                    rintro e w22 ⟨rfl, hb⟩
                    refine ⟨_, rfl, ?_⟩
                    have n0_ := Aside0.mk (blk_below (g := gb170) (o := .cells #[.int .u8 a0_0, .int .u8 a0_1, .int .u8 a0_2] 36 (0, 0)) (by (with_reducible repeat (first | refine blk_drewN ?_ _ | refine blk_drew ?_ | refine blk_alloc ?_ _)); exact BK170.out) hb)
                    have n1_ := Aside0.mk (blk_below (g := gb174) (o := .cells #[.int .i64 x175000_2, .int .i64 x175001_2] 23 (0, 0)) (by (with_reducible repeat (first | refine blk_drewN ?_ _ | refine blk_drew ?_ | refine blk_alloc ?_ _)); exact BK174.out) hb)
                    have n2_ := Aside0.mk (blk_below (g := gb179) (o := .cells #[.int .i64 0, .int .i64 0] 23 (0, 0)) (by (with_reducible repeat (first | refine blk_drewN ?_ _ | refine blk_drew ?_ | refine blk_alloc ?_ _)); exact BK179.out) hb)
                    have n3_ := Aside0.mk (below_step (by repeat (first | (with_reducible first | exact HB.out | apply below_alloc | apply pw_below_drewN | apply below_drew1 | refine below_set ?_ GE170.out | refine below_set ?_ GE174.out | refine below_set ?_ GE179.out) | exact HB.out)) hb)
                    clear BK170
                    clear BK174
                    clear BK179
                    clear HB
                    have BK170 := n0_
                    have BK174 := n1_
                    have BK179 := n2_
                    have HB := n3_
                    clear n0_ n1_ n2_ n3_
                    (try clear hb)
                    (try clear hb2)
                    (try clear hk)
                    (try clear hi)
                    refine hK.out _ _ ⟨(blk_cell BK174.out 0).trans rfl, (blk_cell BK174.out 1).trans rfl, ((HB.out.cell (World.block_lt_of_cell? w _ hw175_0)).trans hw175_0)⟩ (fun hHeld => ?_)
                    clear hK K
                    refine norm_ (a' := ?_) ?_ ?_
                    rotate_left
                    · show Act.put _ (some 63) _ = _
                      simp only [Act.put, List.setIfInBounds_toArray, List.set_cons_zero, List.set_cons_succ, i64_w, i32_w]
                      rfl
                    refine pure_ (i := 8) (N := some 55) (v := ?_) (a' := ?_) #[true, true, true, true, true, true, true, true, true, false, false, true, false, false] rfl rfl (any_of HT_.out (by kernel_rfl)) (fun _ _ _ h => h) (Or.inl ⟨by rfl, ?_⟩) ?_ ?_
                    rotate_left
                    · intro w'
                      go_simp
                      with_reducible rfl
                    rotate_left
                    · simp only [Act.put, List.setIfInBounds_toArray, List.set_cons_zero, List.set_cons_succ, i64_w, i32_w]
                      rfl
                    refine pure_ (i := 9) (N := some 64) (v := ?_) (a' := ?_) #[true, true, true, true, true, true, true, true, true, true, false, true, false, false] rfl rfl (any_of HT_.out (by kernel_rfl)) (fun _ _ _ h => h) (Or.inl ⟨by rfl, ?_⟩) ?_ ?_
                    rotate_left
                    · intro w'
                      go_simp
                      with_reducible rfl
                    rotate_left
                    · simp only [Act.put, List.setIfInBounds_toArray, List.set_cons_zero, List.set_cons_succ, i64_w, i32_w]
                      rfl
                    refine pure_ (i := 10) (N := some 65) (v := ?_) (a' := ?_) #[true, true, true, true, true, true, true, true, true, true, true, true, false, false] rfl rfl (any_of HT_.out (by kernel_rfl)) (fun _ _ _ h => h) (Or.inl ⟨by rfl, ?_⟩) ?_ ?_
                    rotate_left
                    · intro w'
                      go_simp
                      with_reducible rfl
                    rotate_left
                    · simp only [Act.put, List.setIfInBounds_toArray, List.set_cons_zero, List.set_cons_succ, i64_w, i32_w]
                      rfl
                    exact norm_ (by simp only [putAll, Act.put, List.setIfInBounds_toArray, List.set_cons_zero, List.set_cons_succ]) (hCont (gb179) _ ⟨hHeld, (by (with_reducible repeat (first | refine blk_drewN ?_ _ | refine blk_drew ?_ | refine blk_alloc ?_ _)); exact BK170.out), (by (with_reducible repeat (first | refine blk_drewN ?_ _ | refine blk_drew ?_ | refine blk_alloc ?_ _)); exact BK174.out), (by (with_reducible repeat (first | refine blk_drewN ?_ _ | refine blk_drew ?_ | refine blk_alloc ?_ _)); exact BK179.out), GW179.out, GE179.out, NB170_179.out, NB179_170.out, NB174_179.out, NB179_174.out, (by repeat (first | (with_reducible first | exact HB.out | apply below_alloc | apply pw_below_drewN | apply below_drew1 | refine below_set ?_ GE170.out | refine below_set ?_ GE174.out | refine below_set ?_ GE179.out) | exact HB.out))⟩)
                rintro gb179 w23 ⟨hS_, h0_, h1_, h2_, h3_, h4_, h5_, h6_, h7_, h8_, h9_⟩
                have n0_ : Aside0 (w23.heap[gb170]? = some (.cells #[.int .u8 a0_0, .int .u8 a0_1, .int .u8 a0_2] 36 (0, 0))) := ⟨h0_⟩
                have n1_ : Aside0 (w23.heap[gb174]? = some (.cells #[.int .i64 x175000_2, .int .i64 x175001_2] 23 (0, 0))) := ⟨h1_⟩
                have n2_ : Aside0 (w23.heap[gb179]? = some (.cells #[.int .i64 0, .int .i64 0] 23 (0, 0))) := ⟨h2_⟩
                have n3_ : Aside0 (w.heap.size ≤ gb179) := ⟨h3_⟩
                have n4_ : Aside0 (w.heap.size ≤ gb179) := ⟨h4_⟩
                have n5_ : Aside0 (gb170 ≠ gb179) := ⟨h5_⟩
                have n6_ : Aside0 (gb179 ≠ gb170) := ⟨h6_⟩
                have n7_ : Aside0 (gb174 ≠ gb179) := ⟨h7_⟩
                have n8_ : Aside0 (gb179 ≠ gb174) := ⟨h8_⟩
                have n9_ : Aside0 (Below w.heap.size w w23) := ⟨h9_⟩
                clear BK170
                clear BK174
                clear HB
                clear h0_ h1_ h2_ h3_ h4_ h5_ h6_ h7_ h8_ h9_
                have BK170 := n0_
                have BK174 := n1_
                have BK179 := n2_
                have GW179 := n3_
                have GE179 := n4_
                have NB170_179 := n5_
                have NB179_170 := n6_
                have NB174_179 := n7_
                have NB179_174 := n8_
                have HB := n9_
                clear n0_ n1_ n2_ n3_ n4_ n5_ n6_ n7_ n8_ n9_
                have hHeld : w23.cell? ⟨gb174, 0, none⟩ = some (.int .i64 x175000_2) ∧ w23.cell? ⟨gb174, 1, none⟩ = some (.int .i64 x175001_2) ∧ w23.cell? (ad175.add (x13_2).toNat) = some (.int .u8 (rd l1 x13_2)) := hS_
                refine norm_ (a' := ?_) ?_ ?_
                rotate_left
                · simp only [putAll, Act.put, List.setIfInBounds_toArray, List.set_cons_zero, List.set_cons_succ]
                  rfl
                refine one_ (i := 12) (N := none) #[true, true, true, true, true, true, true, true, true, true, true, true, true, false] rfl rfl (one_of HT_.out (by kernel_rfl)) (by decide) (fun K hK => ?_)
                have hs24 : w23.cell? ⟨gb179, 0, none⟩ = some (.int .i64 0) := (blk_cell BK179.out 0).trans rfl
                have hfs24 := blk_frozen BK179.out 0
                have hns24_0 := NB170_179.out
                have hns24_1 := NB174_179.out
                have hms24_0 := NB179_170.out
                have hms24_1 := NB179_174.out
                have hs25 : w23.cell? ⟨gb179, 1, none⟩ = some (.int .i64 0) := (blk_cell BK179.out 1).trans rfl
                have hfs25 := blk_frozen BK179.out 1
                have hns25_0 := NB170_179.out
                have hns25_1 := NB174_179.out
                have hms25_0 := NB179_170.out
                have hms25_1 := NB179_174.out
                refine skip_ (w1 := ?_) (by rfl) rfl ?_ ?_
                rotate_left
                · go_simp
                  rfl
                refine hK.out _ _ ⟨((cell_far (p := ⟨gb179, _, none⟩) NB174_179.out _).trans (((cell_far (p := ⟨gb179, _, none⟩) NB174_179.out _).trans (hHeld.1)))), ((cell_far (p := ⟨gb179, _, none⟩) NB174_179.out _).trans (((cell_far (p := ⟨gb179, _, none⟩) NB174_179.out _).trans (hHeld.2.1)))), ((cell_far (p := ⟨gb179, _, none⟩) (by first | exact Nat.ne_of_lt (Nat.lt_of_lt_of_le (by have := World.block_lt_of_cell? _ _ hw175_0; first | rwa [add_block] at this | exact this) GW179.out) | (rw [add_block]; exact Nat.ne_of_lt (Nat.lt_of_lt_of_le (by have := World.block_lt_of_cell? _ _ hw175_0; first | rwa [add_block] at this | exact this) GW179.out)) | (show (Addr.add _ _).block ≠ _; rw [add_block]; exact Nat.ne_of_lt (Nat.lt_of_lt_of_le (by have := World.block_lt_of_cell? _ _ hw175_0; first | rwa [add_block] at this | exact this) GW179.out)) | (dsimp only; exact Nat.ne_of_lt (Nat.lt_of_lt_of_le (by have := World.block_lt_of_cell? _ _ hw175_0; first | rwa [add_block] at this | exact this) GW179.out))) _).trans (((cell_far (p := ⟨gb179, _, none⟩) (by first | exact Nat.ne_of_lt (Nat.lt_of_lt_of_le (by have := World.block_lt_of_cell? _ _ hw175_0; first | rwa [add_block] at this | exact this) GW179.out) | (rw [add_block]; exact Nat.ne_of_lt (Nat.lt_of_lt_of_le (by have := World.block_lt_of_cell? _ _ hw175_0; first | rwa [add_block] at this | exact this) GW179.out)) | (show (Addr.add _ _).block ≠ _; rw [add_block]; exact Nat.ne_of_lt (Nat.lt_of_lt_of_le (by have := World.block_lt_of_cell? _ _ hw175_0; first | rwa [add_block] at this | exact this) GW179.out)) | (dsimp only; exact Nat.ne_of_lt (Nat.lt_of_lt_of_le (by have := World.block_lt_of_cell? _ _ hw175_0; first | rwa [add_block] at this | exact this) GW179.out))) _).trans (hHeld.2.2))))⟩ (fun hHeld => ?_)
                clear hK K
                refine pure_ (i := 13) (N := some 15) (v := ?_) (a' := ?_) #[true, true, true, true, true, true, true, true, true, true, true, true, true, true] rfl rfl (any_of HT_.out (by kernel_rfl)) (fun _ _ _ h => h) (Or.inl ⟨by rfl, ?_⟩) ?_ ?_
                rotate_left
                · intro w'
                  go_simp
                  with_reducible rfl
                rotate_left
                · simp only [Act.put, List.setIfInBounds_toArray, List.set_cons_zero, List.set_cons_succ, i64_w, i32_w]
                  rfl
                refine done_ (done_of HT_.out (by kernel_rfl)) ?_
                go_upto_if 66 with (fail)
                go_cut [12] (fun v12 wc => ∃ (kq : Nat) (x12_18 : Int), v12 = .int .i64 x12_18 ∧ Aside0 (precentorlaw11_RateBounds.j2 kq l1 l2 t171 (wrap64 (1 + (Int.tmod (wrap64 (a0_0)) 20))) (wrap64 ((wrap64 (1 + (Int.tmod (wrap64 (a0_0)) 20))) + (Int.tmod (wrap64 (a0_1)) 50))) (wrap64 (1 + (Int.tmod (wrap64 (a0_2)) 100))) x12_18 x13_2 t176 t177 = some r) ∧ Aside0 (kq ≤ k2) ∧ Aside0 (wc.heap[gb170]? = some (.cells #[.int .u8 a0_0, .int .u8 a0_1, .int .u8 a0_2] 36 (0, 0))) ∧ Aside0 (wc.heap[gb174]? = some (.cells #[.int .i64 x175000_2, .int .i64 x175001_2] 23 (0, 0))) ∧ Aside0 (wc.heap[gb179]? = some (.cells #[.int .i64 t176, .int .i64 t177] 23 (0, 0))) ∧ Aside0 (Below w.heap.size w wc))
                case first =>
                  have H := HC19.out
                  clear HC19
                  by_cases c26 : t178 = true
                  · subst c26
                    have H1 : (precentorlaw11_RateBounds.j2 k2 l1 l2 t171 (wrap64 (1 + (Int.tmod (wrap64 (a0_0)) 20))) (wrap64 ((wrap64 (1 + (Int.tmod (wrap64 (a0_0)) 20))) + (Int.tmod (wrap64 (a0_1)) 50))) (wrap64 (1 + (Int.tmod (wrap64 (a0_2)) 100))) (wrap64 (x12_2 + (Int.tmod (wrap64 (rd l1 x13_2)) 30))) x13_2 t176 t177) = some r := by rw [if_pos rfl] at H; exact H
                    clear H
                    have H := H1
                    clear H1
                    have H' := Aside0.mk H
                    clear H
                    have p180 : 0 ≤ (x13_2 : Int) := of_decide_eq_true (by first | (with_reducible assumption) | assumption)
                    have q180 : x13_2 < (l1.length : Int) := of_decide_eq_true (by first | (with_reducible assumption) | assumption)
                    obtain ⟨ad180, e180, hx180_0⟩ := Kd.at_int HR1.out x13_2 p180 q180
                    obtain rfl : ad175 = ad180 := (by injection e180)
                    have hn180_0 : ad175.block ≠ gb179 := Nat.ne_of_lt (Nat.lt_of_lt_of_le (by have := World.block_lt_of_cell? _ _ hx180_0; first | rwa [add_block] at this | exact this) GW179.out)
                    have hn180_1 : ad175.block ≠ gb179 := Nat.ne_of_lt (Nat.lt_of_lt_of_le (by have := World.block_lt_of_cell? _ _ hx180_0; first | rwa [add_block] at this | exact this) GW179.out)
                    replace hx180_0 := (HB.out.cell (World.block_lt_of_cell? w _ hx180_0)).trans hx180_0
                    replace hx180_0 := (cell_far (p := ⟨gb179, 0, none⟩) (by first | (rw [add_block]; exact hn180_0) | (show (Addr.add _ _).block ≠ _; rw [add_block]; exact hn180_0) | exact hn180_0) (.int .i64 t176)).trans hx180_0
                    replace hx180_0 := (cell_far (p := ⟨gb179, 1, none⟩) (by first | (rw [add_block]; exact hn180_1) | (show (Addr.add _ _).block ≠ _; rw [add_block]; exact hn180_1) | exact hn180_1) (.int .i64 t177)).trans hx180_0
                    clear hn180_0
                    clear hn180_1
                    replace p180 := eq_true p180
                    replace q180 := eq_true q180
                    go_wp2
                    go_meet
                    case rel => exact ⟨_, (wrap64 (x12_2 + (Int.tmod (wrap64 (rd l1 x13_2)) 30))), (by first | rfl | (simp; done) | (simp [*]; done)), H', ⟨by have := HJ4.out; have := HK2.out; first | omega | exact Nat.le_refl _⟩, ⟨by (with_reducible repeat (first | refine blk_drewN ?_ _ | refine blk_drew ?_ | refine blk_alloc ?_ _)); refine blk_far ?_ NB170_179.out _; (with_reducible repeat (first | refine blk_drewN ?_ _ | refine blk_drew ?_ | refine blk_alloc ?_ _)); refine blk_far ?_ NB170_179.out _; (with_reducible repeat (first | refine blk_drewN ?_ _ | refine blk_drew ?_ | refine blk_alloc ?_ _)); exact BK170.out⟩, ⟨by (with_reducible repeat (first | refine blk_drewN ?_ _ | refine blk_drew ?_ | refine blk_alloc ?_ _)); refine blk_far ?_ NB174_179.out _; (with_reducible repeat (first | refine blk_drewN ?_ _ | refine blk_drew ?_ | refine blk_alloc ?_ _)); refine blk_far ?_ NB174_179.out _; (with_reducible repeat (first | refine blk_drewN ?_ _ | refine blk_drew ?_ | refine blk_alloc ?_ _)); exact BK174.out⟩, ⟨by (with_reducible repeat (first | refine blk_drewN ?_ _ | refine blk_drew ?_ | refine blk_alloc ?_ _)); refine blk_put (cs := #[.int .i64 t176, .int .i64 0]) ?_ 1 _ rfl; (with_reducible repeat (first | refine blk_drewN ?_ _ | refine blk_drew ?_ | refine blk_alloc ?_ _)); refine blk_put (cs := #[.int .i64 0, .int .i64 0]) ?_ 0 _ rfl; (with_reducible repeat (first | refine blk_drewN ?_ _ | refine blk_drew ?_ | refine blk_alloc ?_ _)); exact BK179.out⟩, ⟨by repeat (first | (with_reducible first | exact HB.out | apply below_alloc | apply pw_below_drewN | apply below_drew1 | refine below_set ?_ GE170.out | refine below_set ?_ GE174.out | refine below_set ?_ GE179.out) | exact HB.out)⟩⟩
                  · replace c26 := Bool.eq_false_iff.mpr c26
                    subst c26
                    have H1 : (precentorlaw11_RateBounds.j2 k2 l1 l2 t171 (wrap64 (1 + (Int.tmod (wrap64 (a0_0)) 20))) (wrap64 ((wrap64 (1 + (Int.tmod (wrap64 (a0_0)) 20))) + (Int.tmod (wrap64 (a0_1)) 50))) (wrap64 (1 + (Int.tmod (wrap64 (a0_2)) 100))) x12_2 x13_2 t176 t177) = some r := by rw [if_neg (show ¬ (false = true) by decide)] at H; exact H
                    clear H
                    have H := H1
                    clear H1
                    have H' := Aside0.mk H
                    clear H
                    go_wp2
                    go_meet
                    case rel => exact ⟨_, (x12_2), (by first | rfl | (simp; done) | (simp [*]; done)), H', ⟨by have := HJ4.out; have := HK2.out; first | omega | exact Nat.le_refl _⟩, ⟨by (with_reducible repeat (first | refine blk_drewN ?_ _ | refine blk_drew ?_ | refine blk_alloc ?_ _)); refine blk_far ?_ NB170_179.out _; (with_reducible repeat (first | refine blk_drewN ?_ _ | refine blk_drew ?_ | refine blk_alloc ?_ _)); refine blk_far ?_ NB170_179.out _; (with_reducible repeat (first | refine blk_drewN ?_ _ | refine blk_drew ?_ | refine blk_alloc ?_ _)); exact BK170.out⟩, ⟨by (with_reducible repeat (first | refine blk_drewN ?_ _ | refine blk_drew ?_ | refine blk_alloc ?_ _)); refine blk_far ?_ NB174_179.out _; (with_reducible repeat (first | refine blk_drewN ?_ _ | refine blk_drew ?_ | refine blk_alloc ?_ _)); refine blk_far ?_ NB174_179.out _; (with_reducible repeat (first | refine blk_drewN ?_ _ | refine blk_drew ?_ | refine blk_alloc ?_ _)); exact BK174.out⟩, ⟨by (with_reducible repeat (first | refine blk_drewN ?_ _ | refine blk_drew ?_ | refine blk_alloc ?_ _)); refine blk_put (cs := #[.int .i64 t176, .int .i64 0]) ?_ 1 _ rfl; (with_reducible repeat (first | refine blk_drewN ?_ _ | refine blk_drew ?_ | refine blk_alloc ?_ _)); refine blk_put (cs := #[.int .i64 0, .int .i64 0]) ?_ 0 _ rfl; (with_reducible repeat (first | refine blk_drewN ?_ _ | refine blk_drew ?_ | refine blk_alloc ?_ _)); exact BK179.out⟩, ⟨by repeat (first | (with_reducible first | exact HB.out | apply below_alloc | apply pw_below_drewN | apply below_drew1 | refine below_set ?_ GE170.out | refine below_set ?_ GE174.out | refine below_set ?_ GE179.out) | exact HB.out)⟩⟩
                case rest =>
                  clear HC19
                  try clear c1
                  try clear p1
                  try clear q1
                  try clear hx1
                  try clear c2
                  try clear p2
                  try clear c5
                  try clear p6
                  try clear c7
                  try clear c9
                  try clear c9b0
                  try clear c9b1
                  try clear c10
                  try clear c12
                  try clear c14
                  try clear c16
                  try clear c16b0
                  try clear c17
                  try clear c17b0
                  try clear p17
                  try clear q17
                  try clear hx17
                  try clear p18
                  try clear q18
                  try clear hx18
                  try clear c26
                  try clear hcz15_0
                  try clear hcz15_1
                  try clear hcz8_0
                  try clear hcz8_1
                  try clear hcz8_2
                  try clear hfz15_0
                  try clear hfz15_1
                  try clear hfz8_0
                  try clear hfz8_1
                  try clear hfz8_2
                  try clear hx175_0
                  try clear hx180_0
                  try clear p175
                  try clear p180
                  try clear p2
                  try clear p6
                  try clear q175
                  try clear q180
                  obtain ⟨kq, x12_18, rfl, HA, HJ18, BK170, BK174, BK179, HB⟩ := hcut
                  cases kq with
                  | zero => exact absurd HA.out (by simp [precentorlaw11_RateBounds.j2])
                  | succ kj18 =>
                    have H := HA.out
                    clear HA
                    simp only [precentorlaw11_RateBounds.j2] at H
                    by_cases c27 : x12_18 > (wrap64 ((wrap64 (1 + (Int.tmod (wrap64 (a0_2)) 100))) + (wrap64 (x13_2 * (wrap64 ((wrap64 (1 + (Int.tmod (wrap64 (a0_0)) 20))) + (Int.tmod (wrap64 (a0_1)) 50)))))))
                    · rw [if_pos c27] at H
                      exact absurd H (by simp)
                    · rw [if_neg c27] at H
                      have c27b0 : decide ((wrap64 ((wrap64 (1 + (Int.tmod (wrap64 (a0_2)) 100))) + (wrap64 (x13_2 * (wrap64 ((wrap64 (1 + (Int.tmod (wrap64 (a0_0)) 20))) + (Int.tmod (wrap64 (a0_1)) 50))))))) < x12_18) = false := decide_eq_false c27
                      clear c27
                      by_cases c28 : 0 ≤ x13_2
                      · rw [if_pos c28] at H
                        have c28b0 : decide (0 ≤ x13_2) = true := decide_eq_true c28
                        clear c28
                        by_cases c29 : x13_2 < (l2.length : Int)
                        · rw [if_pos c29] at H
                          have c29b0 : decide (x13_2 < (l2.length : Int)) = true := decide_eq_true c29
                          clear c29
                          obtain ⟨bq30, hbq30⟩ : ∃ b_ : Bool, b_ = (rdOf false l2 x13_2) := ⟨_, rfl⟩
                          replace H : (if bq30 = true then ((rate_Tick.f t176 t177 (wrap64 (1 + (Int.tmod (wrap64 (a0_0)) 20))) (wrap64 ((wrap64 (1 + (Int.tmod (wrap64 (a0_0)) 20))) + (Int.tmod (wrap64 (a0_1)) 50))) (wrap64 (1 + (Int.tmod (wrap64 (a0_2)) 100))) 2).bind fun bt182 => (if bt182.2 < (wrap64 (t177 + (wrap64 (1 + (Int.tmod (wrap64 (a0_0)) 20))))) then (if bt182.2 = (wrap64 (1 + (Int.tmod (wrap64 (a0_2)) 100))) then (precentorlaw11_RateBounds.l0 kj18 l1 l2 t171 (wrap64 (1 + (Int.tmod (wrap64 (a0_0)) 20))) (wrap64 ((wrap64 (1 + (Int.tmod (wrap64 (a0_0)) 20))) + (Int.tmod (wrap64 (a0_1)) 50))) (wrap64 (1 + (Int.tmod (wrap64 (a0_2)) 100))) x12_18 (wrap64 (x13_2 + 1)) bt182.1 bt182.2) else (none)) else (precentorlaw11_RateBounds.l0 kj18 l1 l2 t171 (wrap64 (1 + (Int.tmod (wrap64 (a0_0)) 20))) (wrap64 ((wrap64 (1 + (Int.tmod (wrap64 (a0_0)) 20))) + (Int.tmod (wrap64 (a0_1)) 50))) (wrap64 (1 + (Int.tmod (wrap64 (a0_2)) 100))) x12_18 (wrap64 (x13_2 + 1)) bt182.1 bt182.2))) else ((rate_Tick.f t176 t177 (wrap64 (1 + (Int.tmod (wrap64 (a0_0)) 20))) (wrap64 ((wrap64 (1 + (Int.tmod (wrap64 (a0_0)) 20))) + (Int.tmod (wrap64 (a0_1)) 50))) (wrap64 (1 + (Int.tmod (wrap64 (a0_2)) 100))) 0).bind fun bt185 => (if bt185.2 < (wrap64 (t177 + (wrap64 (1 + (Int.tmod (wrap64 (a0_0)) 20))))) then (if bt185.2 = (wrap64 (1 + (Int.tmod (wrap64 (a0_2)) 100))) then (precentorlaw11_RateBounds.l0 kj18 l1 l2 t171 (wrap64 (1 + (Int.tmod (wrap64 (a0_0)) 20))) (wrap64 ((wrap64 (1 + (Int.tmod (wrap64 (a0_0)) 20))) + (Int.tmod (wrap64 (a0_1)) 50))) (wrap64 (1 + (Int.tmod (wrap64 (a0_2)) 100))) x12_18 (wrap64 (x13_2 + 1)) bt185.1 bt185.2) else (none)) else (precentorlaw11_RateBounds.l0 kj18 l1 l2 t171 (wrap64 (1 + (Int.tmod (wrap64 (a0_0)) 20))) (wrap64 ((wrap64 (1 + (Int.tmod (wrap64 (a0_0)) 20))) + (Int.tmod (wrap64 (a0_1)) 50))) (wrap64 (1 + (Int.tmod (wrap64 (a0_2)) 100))) x12_18 (wrap64 (x13_2 + 1)) bt185.1 bt185.2)))) = some r := by rw [← hbq30] at H; exact H
                          have Nbq30 := Aside0.mk hbq30
                          clear hbq30
                          by_cases c31 : bq30 = true
                          · subst c31
                            have H1 : ((rate_Tick.f t176 t177 (wrap64 (1 + (Int.tmod (wrap64 (a0_0)) 20))) (wrap64 ((wrap64 (1 + (Int.tmod (wrap64 (a0_0)) 20))) + (Int.tmod (wrap64 (a0_1)) 50))) (wrap64 (1 + (Int.tmod (wrap64 (a0_2)) 100))) 2).bind fun bt182 => (if bt182.2 < (wrap64 (t177 + (wrap64 (1 + (Int.tmod (wrap64 (a0_0)) 20))))) then (if bt182.2 = (wrap64 (1 + (Int.tmod (wrap64 (a0_2)) 100))) then (precentorlaw11_RateBounds.l0 kj18 l1 l2 t171 (wrap64 (1 + (Int.tmod (wrap64 (a0_0)) 20))) (wrap64 ((wrap64 (1 + (Int.tmod (wrap64 (a0_0)) 20))) + (Int.tmod (wrap64 (a0_1)) 50))) (wrap64 (1 + (Int.tmod (wrap64 (a0_2)) 100))) x12_18 (wrap64 (x13_2 + 1)) bt182.1 bt182.2) else (none)) else (precentorlaw11_RateBounds.l0 kj18 l1 l2 t171 (wrap64 (1 + (Int.tmod (wrap64 (a0_0)) 20))) (wrap64 ((wrap64 (1 + (Int.tmod (wrap64 (a0_0)) 20))) + (Int.tmod (wrap64 (a0_1)) 50))) (wrap64 (1 + (Int.tmod (wrap64 (a0_2)) 100))) x12_18 (wrap64 (x13_2 + 1)) bt182.1 bt182.2))) = some r := by rw [if_pos rfl] at H; exact H
                            clear H
                            have H := H1
                            clear H1
                            replace H := Option.bind_eq_some_iff.mp H
                            obtain ⟨⟨t182, t183⟩, A320, H⟩ := H
                            replace H : (if t183 < (wrap64 (t177 + (wrap64 (1 + (Int.tmod (wrap64 (a0_0)) 20))))) then (if t183 = (wrap64 (1 + (Int.tmod (wrap64 (a0_2)) 100))) then (precentorlaw11_RateBounds.l0 kj18 l1 l2 t171 (wrap64 (1 + (Int.tmod (wrap64 (a0_0)) 20))) (wrap64 ((wrap64 (1 + (Int.tmod (wrap64 (a0_0)) 20))) + (Int.tmod (wrap64 (a0_1)) 50))) (wrap64 (1 + (Int.tmod (wrap64 (a0_2)) 100))) x12_18 (wrap64 (x13_2 + 1)) t182 t183) else (none)) else (precentorlaw11_RateBounds.l0 kj18 l1 l2 t171 (wrap64 (1 + (Int.tmod (wrap64 (a0_0)) 20))) (wrap64 ((wrap64 (1 + (Int.tmod (wrap64 (a0_0)) 20))) + (Int.tmod (wrap64 (a0_1)) 50))) (wrap64 (1 + (Int.tmod (wrap64 (a0_2)) 100))) x12_18 (wrap64 (x13_2 + 1)) t182 t183)) = some r := H
                            have A32 := Aside0.mk A320
                            clear A320
                            by_cases c33 : t183 < (wrap64 (t177 + (wrap64 (1 + (Int.tmod (wrap64 (a0_0)) 20)))))
                            · rw [if_pos c33] at H
                              have c33b0 : decide (t183 < (wrap64 (t177 + (wrap64 (1 + (Int.tmod (wrap64 (a0_0)) 20)))))) = true := decide_eq_true c33
                              clear c33
                              by_cases c34 : t183 = (wrap64 (1 + (Int.tmod (wrap64 (a0_2)) 100)))
                              · rw [if_pos c34] at H
                                have c34b0 : (t183 == (wrap64 (1 + (Int.tmod (wrap64 (a0_2)) 100)))) = true := beq_iff_eq.mpr c34
                                have c34b1 : (t183 != (wrap64 (1 + (Int.tmod (wrap64 (a0_2)) 100)))) = false := bne_eq_false_iff_eq.mpr c34
                                clear c34
                                have H' := Aside0.mk H
                                clear H
                                have p181 : 0 ≤ (x13_2 : Int) := of_decide_eq_true (by first | (with_reducible assumption) | assumption)
                                have q181 : x13_2 < (l2.length : Int) := of_decide_eq_true (by first | (with_reducible assumption) | assumption)
                                obtain ⟨ad181, e181, hx181_0⟩ := Kd.at_bool HR2.out x13_2 p181 q181
                                (try rw [← Nbq30.out] at hx181_0)
                                cases e181
                                replace hx181_0 := (HB.out.cell (World.block_lt_of_cell? w _ hx181_0)).trans hx181_0
                                replace p181 := eq_true p181
                                replace q181 := eq_true q181
                                have hnb35 := NB179_170.out
                                have hnc35 := NB170_179.out
                                have hnb36 := NB179_174.out
                                have hnc36 := NB174_179.out
                                have hcz37_0 : wc.cell? ⟨gb179, 0, none⟩ = some (.int .i64 t176) := (blk_cell BK179.out 0).trans rfl
                                have hcz37_1 : wc.cell? ⟨gb179, 1, none⟩ = some (.int .i64 t177) := (blk_cell BK179.out 1).trans rfl
                                have hfz37_0 := blk_frozen BK179.out 0
                                have hfz37_1 := blk_frozen BK179.out 1
                                go_wp2_with (first | ((with_reducible refine gate_callee (f := 14) rfl ?_); refine goesL_ (some 91) rfl rfl Try.func14 (by kernel_rfl) rfl #[.agg #[.int .i64 t176, .int .i64 t177], .int .i64 (wrap64 (1 + (Int.tmod (wrap64 (a0_0)) 20))), .int .i64 (wrap64 ((wrap64 (1 + (Int.tmod (wrap64 (a0_0)) 20))) + (Int.tmod (wrap64 (a0_1)) 50))), .int .i64 (wrap64 (1 + (Int.tmod (wrap64 (a0_2)) 100))), .int .i64 2] rfl (by (try simp only [List.map_toArray, List.map_cons, List.map_nil]); first | done | rfl | (simp only [List.length_drop, List.length_take]; rfl)) ?_; (with_reducible refine (rate_Tick.calls t176 t177 (wrap64 (1 + (Int.tmod (wrap64 (a0_0)) 20))) (wrap64 ((wrap64 (1 + (Int.tmod (wrap64 (a0_0)) 20))) + (Int.tmod (wrap64 (a0_1)) 50))) (wrap64 (1 + (Int.tmod (wrap64 (a0_2)) 100))) 2 t182 t183 _ A32.out).mono ?_); rintro e w38 ⟨rfl, hb⟩; refine ⟨_, rfl, ?_⟩; have n0_ := Aside0.mk (blk_below (g := gb170) (o := .cells #[.int .u8 a0_0, .int .u8 a0_1, .int .u8 a0_2] 36 (0, 0)) (by (with_reducible repeat (first | refine blk_drewN ?_ _ | refine blk_drew ?_ | refine blk_alloc ?_ _)); exact BK170.out) hb); have n1_ := Aside0.mk (blk_below (g := gb174) (o := .cells #[.int .i64 x175000_2, .int .i64 x175001_2] 23 (0, 0)) (by (with_reducible repeat (first | refine blk_drewN ?_ _ | refine blk_drew ?_ | refine blk_alloc ?_ _)); exact BK174.out) hb); have n2_ := Aside0.mk (blk_below (g := gb179) (o := .cells #[.int .i64 t176, .int .i64 t177] 23 (0, 0)) (by (with_reducible repeat (first | refine blk_drewN ?_ _ | refine blk_drew ?_ | refine blk_alloc ?_ _)); exact BK179.out) hb); have n3_ := Aside0.mk (below_step (by repeat (first | (with_reducible first | exact HB.out | apply below_alloc | apply pw_below_drewN | apply below_drew1 | refine below_set ?_ GE170.out | refine below_set ?_ GE174.out | refine below_set ?_ GE179.out) | exact HB.out)) hb); clear BK170; clear BK174; clear BK179; clear HB; have BK170 := n0_; have BK174 := n1_; have BK179 := n2_; have HB := n3_; clear n0_ n1_ n2_ n3_; (try clear hb); (try clear hb2); (try clear hk); (try clear hi)) | ((with_reducible refine gate_dst (N := 17) rfl ?_); (try (refine gate_guard (by rfl) ?_; dsimp only)); refine box_event ?hg (N := 17) ?hd (cs := #[.int .i64 0, .int .i64 0]) (t := 23) ?hr ?_; (case hd => rfl); (case hg => rfl); (case hr => first | (go_simp; done) | (go_simp; rfl)); intro gb184 hg w39 hbox hb; have n0_ := Aside0.mk (blk_below (g := gb170) (o := .cells #[.int .u8 a0_0, .int .u8 a0_1, .int .u8 a0_2] 36 (0, 0)) (by (with_reducible repeat (first | refine blk_drewN ?_ _ | refine blk_drew ?_ | refine blk_alloc ?_ _)); exact BK170.out) hb); have n1_ := Aside0.mk (blk_below (g := gb174) (o := .cells #[.int .i64 x175000_2, .int .i64 x175001_2] 23 (0, 0)) (by (with_reducible repeat (first | refine blk_drewN ?_ _ | refine blk_drew ?_ | refine blk_alloc ?_ _)); exact BK174.out) hb); have n2_ := Aside0.mk (blk_below (g := gb179) (o := .cells #[.int .i64 t176, .int .i64 t177] 23 (0, 0)) (by (with_reducible repeat (first | refine blk_drewN ?_ _ | refine blk_drew ?_ | refine blk_alloc ?_ _)); exact BK179.out) hb); have n3_ := Aside0.mk (below_step (by repeat (first | (with_reducible first | exact HB.out | apply below_alloc | apply pw_below_drewN | apply below_drew1 | refine below_set ?_ GE170.out | refine below_set ?_ GE174.out | refine below_set ?_ GE179.out) | exact HB.out)) hb); have n4_ := Aside0.mk (hbox); have n5_ := Aside0.mk ((by rw [hg]; exact (below_size (by repeat (first | (with_reducible first | exact HB.out | apply below_alloc | apply pw_below_drewN | apply below_drew1 | refine below_set ?_ GE170.out | refine below_set ?_ GE174.out | refine below_set ?_ GE179.out) | exact HB.out))) : w.heap.size ≤ gb184)); have n6_ := Aside0.mk ((by rw [hg]; exact (below_size (by repeat (first | (with_reducible first | exact HB.out | apply below_alloc | apply pw_below_drewN | apply below_drew1 | refine below_set ?_ GE170.out | refine below_set ?_ GE174.out | refine below_set ?_ GE179.out) | exact HB.out))) : w.heap.size ≤ gb184)); have n7_ := Aside0.mk ((by rw [hg]; exact Nat.ne_of_lt (blk_lt (g := gb170) (o := .cells #[.int .u8 a0_0, .int .u8 a0_1, .int .u8 a0_2] 36 (0, 0)) (by (with_reducible repeat (first | refine blk_drewN ?_ _ | refine blk_drew ?_ | refine blk_alloc ?_ _)); exact BK170.out)) : gb170 ≠ gb184)); have n8_ := Aside0.mk ((by rw [hg]; exact Nat.ne_of_gt (blk_lt (g := gb170) (o := .cells #[.int .u8 a0_0, .int .u8 a0_1, .int .u8 a0_2] 36 (0, 0)) (by (with_reducible repeat (first | refine blk_drewN ?_ _ | refine blk_drew ?_ | refine blk_alloc ?_ _)); exact BK170.out)) : gb184 ≠ gb170)); have n9_ := Aside0.mk ((by rw [hg]; exact Nat.ne_of_lt (blk_lt (g := gb174) (o := .cells #[.int .i64 x175000_2, .int .i64 x175001_2] 23 (0, 0)) (by (with_reducible repeat (first | refine blk_drewN ?_ _ | refine blk_drew ?_ | refine blk_alloc ?_ _)); exact BK174.out)) : gb174 ≠ gb184)); have n10_ := Aside0.mk ((by rw [hg]; exact Nat.ne_of_gt (blk_lt (g := gb174) (o := .cells #[.int .i64 x175000_2, .int .i64 x175001_2] 23 (0, 0)) (by (with_reducible repeat (first | refine blk_drewN ?_ _ | refine blk_drew ?_ | refine blk_alloc ?_ _)); exact BK174.out)) : gb184 ≠ gb174)); have n11_ := Aside0.mk ((by rw [hg]; exact Nat.ne_of_lt (blk_lt (g := gb179) (o := .cells #[.int .i64 t176, .int .i64 t177] 23 (0, 0)) (by (with_reducible repeat (first | refine blk_drewN ?_ _ | refine blk_drew ?_ | refine blk_alloc ?_ _)); exact BK179.out)) : gb179 ≠ gb184)); have n12_ := Aside0.mk ((by rw [hg]; exact Nat.ne_of_gt (blk_lt (g := gb179) (o := .cells #[.int .i64 t176, .int .i64 t177] 23 (0, 0)) (by (with_reducible repeat (first | refine blk_drewN ?_ _ | refine blk_drew ?_ | refine blk_alloc ?_ _)); exact BK179.out)) : gb184 ≠ gb179)); clear BK170; clear BK174; clear BK179; clear HB; have BK170 := n0_; have BK174 := n1_; have BK179 := n2_; have HB := n3_; have BK184 := n4_; have GW184 := n5_; have GE184 := n6_; have NB170_184 := n7_; have NB184_170 := n8_; have NB174_184 := n9_; have NB184_174 := n10_; have NB179_184 := n11_; have NB184_179 := n12_; clear n0_ n1_ n2_ n3_ n4_ n5_ n6_ n7_ n8_ n9_ n10_ n11_ n12_; clear hb hbox hg; have hnb40 := NB184_170.out; have hnc40 := NB170_184.out; have hnb41 := NB184_174.out; have hnc41 := NB174_184.out; have hnb42 := NB184_179.out; have hnc42 := NB179_184.out; have hcz43_0 : w39.cell? ⟨gb184, 0, none⟩ = some (.int .i64 0) := (blk_cell BK184.out 0).trans rfl; have hcz43_1 : w39.cell? ⟨gb184, 1, none⟩ = some (.int .i64 0) := (blk_cell BK184.out 1).trans rfl; have hfz43_0 := blk_frozen BK184.out 0; have hfz43_1 := blk_frozen BK184.out 1; have hcz44_0 : w39.cell? ⟨gb179, 0, none⟩ = some (.int .i64 t176) := (blk_cell BK179.out 0).trans rfl; have hcz44_1 : w39.cell? ⟨gb179, 1, none⟩ = some (.int .i64 t177) := (blk_cell BK179.out 1).trans rfl; have hfz44_0 := blk_frozen BK179.out 0; have hfz44_1 := blk_frozen BK179.out 1; have hnb45 := NB174_170.out; have hnc45 := NB170_174.out; have hcz46_0 : w39.cell? ⟨gb174, 0, none⟩ = some (.int .i64 x175000_2) := (blk_cell BK174.out 0).trans rfl; have hcz46_1 : w39.cell? ⟨gb174, 1, none⟩ = some (.int .i64 x175001_2) := (blk_cell BK174.out 1).trans rfl; have hfz46_0 := blk_frozen BK174.out 0; have hfz46_1 := blk_frozen BK174.out 1))
                                go_roundg kj18
                                case measure => have := HJ4.out; have := HK2.out; have := HJ18.out; omega
                                case rel => exact ⟨(x12_18), (wrap64 (x13_2 + 1)), (t182), (t183), (by first | rfl | (simp; done) | (simp [*]; done)), (by first | rfl | (simp; done) | (simp [*]; done)), H', ⟨by have := HJ4.out; have := HK2.out; have := HJ18.out; omega⟩, ⟨by (with_reducible repeat (first | refine blk_drewN ?_ _ | refine blk_drew ?_ | refine blk_alloc ?_ _)); refine blk_far ?_ NB170_174.out _; (with_reducible repeat (first | refine blk_drewN ?_ _ | refine blk_drew ?_ | refine blk_alloc ?_ _)); refine blk_far ?_ NB170_174.out _; (with_reducible repeat (first | refine blk_drewN ?_ _ | refine blk_drew ?_ | refine blk_alloc ?_ _)); refine blk_far ?_ NB170_184.out _; (with_reducible repeat (first | refine blk_drewN ?_ _ | refine blk_drew ?_ | refine blk_alloc ?_ _)); refine blk_far ?_ NB170_184.out _; (with_reducible repeat (first | refine blk_drewN ?_ _ | refine blk_drew ?_ | refine blk_alloc ?_ _)); exact BK170.out⟩, ⟨by (with_reducible repeat (first | refine blk_drewN ?_ _ | refine blk_drew ?_ | refine blk_alloc ?_ _)); refine blk_put (cs := #[.int .i64 t182, .int .i64 x175001_2]) ?_ 1 _ rfl; (with_reducible repeat (first | refine blk_drewN ?_ _ | refine blk_drew ?_ | refine blk_alloc ?_ _)); refine blk_put (cs := #[.int .i64 x175000_2, .int .i64 x175001_2]) ?_ 0 _ rfl; (with_reducible repeat (first | refine blk_drewN ?_ _ | refine blk_drew ?_ | refine blk_alloc ?_ _)); refine blk_far ?_ NB174_184.out _; (with_reducible repeat (first | refine blk_drewN ?_ _ | refine blk_drew ?_ | refine blk_alloc ?_ _)); refine blk_far ?_ NB174_184.out _; (with_reducible repeat (first | refine blk_drewN ?_ _ | refine blk_drew ?_ | refine blk_alloc ?_ _)); exact BK174.out⟩, ⟨by repeat (first | (with_reducible first | exact HB.out | apply below_alloc | apply pw_below_drewN | apply below_drew1 | refine below_set ?_ GE170.out | refine below_set ?_ GE174.out | refine below_set ?_ GE179.out | refine below_set ?_ GE184.out) | exact HB.out)⟩⟩
                              · rw [if_neg c34] at H
                                exact absurd H (by simp)
                            · rw [if_neg c33] at H
                              have c33b0 : decide (t183 < (wrap64 (t177 + (wrap64 (1 + (Int.tmod (wrap64 (a0_0)) 20)))))) = false := decide_eq_false c33
                              clear c33
                              have H' := Aside0.mk H
                              clear H
                              have p181 : 0 ≤ (x13_2 : Int) := of_decide_eq_true (by first | (with_reducible assumption) | assumption)
                              have q181 : x13_2 < (l2.length : Int) := of_decide_eq_true (by first | (with_reducible assumption) | assumption)
                              obtain ⟨ad181, e181, hx181_0⟩ := Kd.at_bool HR2.out x13_2 p181 q181
                              (try rw [← Nbq30.out] at hx181_0)
                              cases e181
                              replace hx181_0 := (HB.out.cell (World.block_lt_of_cell? w _ hx181_0)).trans hx181_0
                              replace p181 := eq_true p181
                              replace q181 := eq_true q181
                              have hnb47 := NB179_170.out
                              have hnc47 := NB170_179.out
                              have hnb48 := NB179_174.out
                              have hnc48 := NB174_179.out
                              have hcz49_0 : wc.cell? ⟨gb179, 0, none⟩ = some (.int .i64 t176) := (blk_cell BK179.out 0).trans rfl
                              have hcz49_1 : wc.cell? ⟨gb179, 1, none⟩ = some (.int .i64 t177) := (blk_cell BK179.out 1).trans rfl
                              have hfz49_0 := blk_frozen BK179.out 0
                              have hfz49_1 := blk_frozen BK179.out 1
                              go_wp2_with (first | ((with_reducible refine gate_callee (f := 14) rfl ?_); refine goesL_ (some 91) rfl rfl Try.func14 (by kernel_rfl) rfl #[.agg #[.int .i64 t176, .int .i64 t177], .int .i64 (wrap64 (1 + (Int.tmod (wrap64 (a0_0)) 20))), .int .i64 (wrap64 ((wrap64 (1 + (Int.tmod (wrap64 (a0_0)) 20))) + (Int.tmod (wrap64 (a0_1)) 50))), .int .i64 (wrap64 (1 + (Int.tmod (wrap64 (a0_2)) 100))), .int .i64 2] rfl (by (try simp only [List.map_toArray, List.map_cons, List.map_nil]); first | done | rfl | (simp only [List.length_drop, List.length_take]; rfl)) ?_; (with_reducible refine (rate_Tick.calls t176 t177 (wrap64 (1 + (Int.tmod (wrap64 (a0_0)) 20))) (wrap64 ((wrap64 (1 + (Int.tmod (wrap64 (a0_0)) 20))) + (Int.tmod (wrap64 (a0_1)) 50))) (wrap64 (1 + (Int.tmod (wrap64 (a0_2)) 100))) 2 t182 t183 _ A32.out).mono ?_); rintro e w50 ⟨rfl, hb⟩; refine ⟨_, rfl, ?_⟩; have n0_ := Aside0.mk (blk_below (g := gb170) (o := .cells #[.int .u8 a0_0, .int .u8 a0_1, .int .u8 a0_2] 36 (0, 0)) (by (with_reducible repeat (first | refine blk_drewN ?_ _ | refine blk_drew ?_ | refine blk_alloc ?_ _)); exact BK170.out) hb); have n1_ := Aside0.mk (blk_below (g := gb174) (o := .cells #[.int .i64 x175000_2, .int .i64 x175001_2] 23 (0, 0)) (by (with_reducible repeat (first | refine blk_drewN ?_ _ | refine blk_drew ?_ | refine blk_alloc ?_ _)); exact BK174.out) hb); have n2_ := Aside0.mk (blk_below (g := gb179) (o := .cells #[.int .i64 t176, .int .i64 t177] 23 (0, 0)) (by (with_reducible repeat (first | refine blk_drewN ?_ _ | refine blk_drew ?_ | refine blk_alloc ?_ _)); exact BK179.out) hb); have n3_ := Aside0.mk (below_step (by repeat (first | (with_reducible first | exact HB.out | apply below_alloc | apply pw_below_drewN | apply below_drew1 | refine below_set ?_ GE170.out | refine below_set ?_ GE174.out | refine below_set ?_ GE179.out) | exact HB.out)) hb); clear BK170; clear BK174; clear BK179; clear HB; have BK170 := n0_; have BK174 := n1_; have BK179 := n2_; have HB := n3_; clear n0_ n1_ n2_ n3_; (try clear hb); (try clear hb2); (try clear hk); (try clear hi)) | ((with_reducible refine gate_dst (N := 17) rfl ?_); (try (refine gate_guard (by rfl) ?_; dsimp only)); refine box_event ?hg (N := 17) ?hd (cs := #[.int .i64 0, .int .i64 0]) (t := 23) ?hr ?_; (case hd => rfl); (case hg => rfl); (case hr => first | (go_simp; done) | (go_simp; rfl)); intro gb184 hg w51 hbox hb; have n0_ := Aside0.mk (blk_below (g := gb170) (o := .cells #[.int .u8 a0_0, .int .u8 a0_1, .int .u8 a0_2] 36 (0, 0)) (by (with_reducible repeat (first | refine blk_drewN ?_ _ | refine blk_drew ?_ | refine blk_alloc ?_ _)); exact BK170.out) hb); have n1_ := Aside0.mk (blk_below (g := gb174) (o := .cells #[.int .i64 x175000_2, .int .i64 x175001_2] 23 (0, 0)) (by (with_reducible repeat (first | refine blk_drewN ?_ _ | refine blk_drew ?_ | refine blk_alloc ?_ _)); exact BK174.out) hb); have n2_ := Aside0.mk (blk_below (g := gb179) (o := .cells #[.int .i64 t176, .int .i64 t177] 23 (0, 0)) (by (with_reducible repeat (first | refine blk_drewN ?_ _ | refine blk_drew ?_ | refine blk_alloc ?_ _)); exact BK179.out) hb); have n3_ := Aside0.mk (below_step (by repeat (first | (with_reducible first | exact HB.out | apply below_alloc | apply pw_below_drewN | apply below_drew1 | refine below_set ?_ GE170.out | refine below_set ?_ GE174.out | refine below_set ?_ GE179.out) | exact HB.out)) hb); have n4_ := Aside0.mk (hbox); have n5_ := Aside0.mk ((by rw [hg]; exact (below_size (by repeat (first | (with_reducible first | exact HB.out | apply below_alloc | apply pw_below_drewN | apply below_drew1 | refine below_set ?_ GE170.out | refine below_set ?_ GE174.out | refine below_set ?_ GE179.out) | exact HB.out))) : w.heap.size ≤ gb184)); have n6_ := Aside0.mk ((by rw [hg]; exact (below_size (by repeat (first | (with_reducible first | exact HB.out | apply below_alloc | apply pw_below_drewN | apply below_drew1 | refine below_set ?_ GE170.out | refine below_set ?_ GE174.out | refine below_set ?_ GE179.out) | exact HB.out))) : w.heap.size ≤ gb184)); have n7_ := Aside0.mk ((by rw [hg]; exact Nat.ne_of_lt (blk_lt (g := gb170) (o := .cells #[.int .u8 a0_0, .int .u8 a0_1, .int .u8 a0_2] 36 (0, 0)) (by (with_reducible repeat (first | refine blk_drewN ?_ _ | refine blk_drew ?_ | refine blk_alloc ?_ _)); exact BK170.out)) : gb170 ≠ gb184)); have n8_ := Aside0.mk ((by rw [hg]; exact Nat.ne_of_gt (blk_lt (g := gb170) (o := .cells #[.int .u8 a0_0, .int .u8 a0_1, .int .u8 a0_2] 36 (0, 0)) (by (with_reducible repeat (first | refine blk_drewN ?_ _ | refine blk_drew ?_ | refine blk_alloc ?_ _)); exact BK170.out)) : gb184 ≠ gb170)); have n9_ := Aside0.mk ((by rw [hg]; exact Nat.ne_of_lt (blk_lt (g := gb174) (o := .cells #[.int .i64 x175000_2, .int .i64 x175001_2] 23 (0, 0)) (by (with_reducible repeat (first | refine blk_drewN ?_ _ | refine blk_drew ?_ | refine blk_alloc ?_ _)); exact BK174.out)) : gb174 ≠ gb184)); have n10_ := Aside0.mk ((by rw [hg]; exact Nat.ne_of_gt (blk_lt (g := gb174) (o := .cells #[.int .i64 x175000_2, .int .i64 x175001_2] 23 (0, 0)) (by (with_reducible repeat (first | refine blk_drewN ?_ _ | refine blk_drew ?_ | refine blk_alloc ?_ _)); exact BK174.out)) : gb184 ≠ gb174)); have n11_ := Aside0.mk ((by rw [hg]; exact Nat.ne_of_lt (blk_lt (g := gb179) (o := .cells #[.int .i64 t176, .int .i64 t177] 23 (0, 0)) (by (with_reducible repeat (first | refine blk_drewN ?_ _ | refine blk_drew ?_ | refine blk_alloc ?_ _)); exact BK179.out)) : gb179 ≠ gb184)); have n12_ := Aside0.mk ((by rw [hg]; exact Nat.ne_of_gt (blk_lt (g := gb179) (o := .cells #[.int .i64 t176, .int .i64 t177] 23 (0, 0)) (by (with_reducible repeat (first | refine blk_drewN ?_ _ | refine blk_drew ?_ | refine blk_alloc ?_ _)); exact BK179.out)) : gb184 ≠ gb179)); clear BK170; clear BK174; clear BK179; clear HB; have BK170 := n0_; have BK174 := n1_; have BK179 := n2_; have HB := n3_; have BK184 := n4_; have GW184 := n5_; have GE184 := n6_; have NB170_184 := n7_; have NB184_170 := n8_; have NB174_184 := n9_; have NB184_174 := n10_; have NB179_184 := n11_; have NB184_179 := n12_; clear n0_ n1_ n2_ n3_ n4_ n5_ n6_ n7_ n8_ n9_ n10_ n11_ n12_; clear hb hbox hg; have hnb52 := NB184_170.out; have hnc52 := NB170_184.out; have hnb53 := NB184_174.out; have hnc53 := NB174_184.out; have hnb54 := NB184_179.out; have hnc54 := NB179_184.out; have hcz55_0 : w51.cell? ⟨gb184, 0, none⟩ = some (.int .i64 0) := (blk_cell BK184.out 0).trans rfl; have hcz55_1 : w51.cell? ⟨gb184, 1, none⟩ = some (.int .i64 0) := (blk_cell BK184.out 1).trans rfl; have hfz55_0 := blk_frozen BK184.out 0; have hfz55_1 := blk_frozen BK184.out 1; have hcz56_0 : w51.cell? ⟨gb179, 0, none⟩ = some (.int .i64 t176) := (blk_cell BK179.out 0).trans rfl; have hcz56_1 : w51.cell? ⟨gb179, 1, none⟩ = some (.int .i64 t177) := (blk_cell BK179.out 1).trans rfl; have hfz56_0 := blk_frozen BK179.out 0; have hfz56_1 := blk_frozen BK179.out 1; have hnb57 := NB174_170.out; have hnc57 := NB170_174.out; have hcz58_0 : w51.cell? ⟨gb174, 0, none⟩ = some (.int .i64 x175000_2) := (blk_cell BK174.out 0).trans rfl; have hcz58_1 : w51.cell? ⟨gb174, 1, none⟩ = some (.int .i64 x175001_2) := (blk_cell BK174.out 1).trans rfl; have hfz58_0 := blk_frozen BK174.out 0; have hfz58_1 := blk_frozen BK174.out 1))
                              go_roundg kj18
                              case measure => have := HJ4.out; have := HK2.out; have := HJ18.out; omega
                              case rel => exact ⟨(x12_18), (wrap64 (x13_2 + 1)), (t182), (t183), (by first | rfl | (simp; done) | (simp [*]; done)), (by first | rfl | (simp; done) | (simp [*]; done)), H', ⟨by have := HJ4.out; have := HK2.out; have := HJ18.out; omega⟩, ⟨by (with_reducible repeat (first | refine blk_drewN ?_ _ | refine blk_drew ?_ | refine blk_alloc ?_ _)); refine blk_far ?_ NB170_174.out _; (with_reducible repeat (first | refine blk_drewN ?_ _ | refine blk_drew ?_ | refine blk_alloc ?_ _)); refine blk_far ?_ NB170_174.out _; (with_reducible repeat (first | refine blk_drewN ?_ _ | refine blk_drew ?_ | refine blk_alloc ?_ _)); refine blk_far ?_ NB170_184.out _; (with_reducible repeat (first | refine blk_drewN ?_ _ | refine blk_drew ?_ | refine blk_alloc ?_ _)); refine blk_far ?_ NB170_184.out _; (with_reducible repeat (first | refine blk_drewN ?_ _ | refine blk_drew ?_ | refine blk_alloc ?_ _)); exact BK170.out⟩, ⟨by (with_reducible repeat (first | refine blk_drewN ?_ _ | refine blk_drew ?_ | refine blk_alloc ?_ _)); refine blk_put (cs := #[.int .i64 t182, .int .i64 x175001_2]) ?_ 1 _ rfl; (with_reducible repeat (first | refine blk_drewN ?_ _ | refine blk_drew ?_ | refine blk_alloc ?_ _)); refine blk_put (cs := #[.int .i64 x175000_2, .int .i64 x175001_2]) ?_ 0 _ rfl; (with_reducible repeat (first | refine blk_drewN ?_ _ | refine blk_drew ?_ | refine blk_alloc ?_ _)); refine blk_far ?_ NB174_184.out _; (with_reducible repeat (first | refine blk_drewN ?_ _ | refine blk_drew ?_ | refine blk_alloc ?_ _)); refine blk_far ?_ NB174_184.out _; (with_reducible repeat (first | refine blk_drewN ?_ _ | refine blk_drew ?_ | refine blk_alloc ?_ _)); exact BK174.out⟩, ⟨by repeat (first | (with_reducible first | exact HB.out | apply below_alloc | apply pw_below_drewN | apply below_drew1 | refine below_set ?_ GE170.out | refine below_set ?_ GE174.out | refine below_set ?_ GE179.out | refine below_set ?_ GE184.out) | exact HB.out)⟩⟩
                          · replace c31 := Bool.eq_false_iff.mpr c31
                            subst c31
                            have H1 : ((rate_Tick.f t176 t177 (wrap64 (1 + (Int.tmod (wrap64 (a0_0)) 20))) (wrap64 ((wrap64 (1 + (Int.tmod (wrap64 (a0_0)) 20))) + (Int.tmod (wrap64 (a0_1)) 50))) (wrap64 (1 + (Int.tmod (wrap64 (a0_2)) 100))) 0).bind fun bt185 => (if bt185.2 < (wrap64 (t177 + (wrap64 (1 + (Int.tmod (wrap64 (a0_0)) 20))))) then (if bt185.2 = (wrap64 (1 + (Int.tmod (wrap64 (a0_2)) 100))) then (precentorlaw11_RateBounds.l0 kj18 l1 l2 t171 (wrap64 (1 + (Int.tmod (wrap64 (a0_0)) 20))) (wrap64 ((wrap64 (1 + (Int.tmod (wrap64 (a0_0)) 20))) + (Int.tmod (wrap64 (a0_1)) 50))) (wrap64 (1 + (Int.tmod (wrap64 (a0_2)) 100))) x12_18 (wrap64 (x13_2 + 1)) bt185.1 bt185.2) else (none)) else (precentorlaw11_RateBounds.l0 kj18 l1 l2 t171 (wrap64 (1 + (Int.tmod (wrap64 (a0_0)) 20))) (wrap64 ((wrap64 (1 + (Int.tmod (wrap64 (a0_0)) 20))) + (Int.tmod (wrap64 (a0_1)) 50))) (wrap64 (1 + (Int.tmod (wrap64 (a0_2)) 100))) x12_18 (wrap64 (x13_2 + 1)) bt185.1 bt185.2))) = some r := by rw [if_neg (show ¬ (false = true) by decide)] at H; exact H
                            clear H
                            have H := H1
                            clear H1
                            replace H := Option.bind_eq_some_iff.mp H
                            obtain ⟨⟨t185, t186⟩, A590, H⟩ := H
                            replace H : (if t186 < (wrap64 (t177 + (wrap64 (1 + (Int.tmod (wrap64 (a0_0)) 20))))) then (if t186 = (wrap64 (1 + (Int.tmod (wrap64 (a0_2)) 100))) then (precentorlaw11_RateBounds.l0 kj18 l1 l2 t171 (wrap64 (1 + (Int.tmod (wrap64 (a0_0)) 20))) (wrap64 ((wrap64 (1 + (Int.tmod (wrap64 (a0_0)) 20))) + (Int.tmod (wrap64 (a0_1)) 50))) (wrap64 (1 + (Int.tmod (wrap64 (a0_2)) 100))) x12_18 (wrap64 (x13_2 + 1)) t185 t186) else (none)) else (precentorlaw11_RateBounds.l0 kj18 l1 l2 t171 (wrap64 (1 + (Int.tmod (wrap64 (a0_0)) 20))) (wrap64 ((wrap64 (1 + (Int.tmod (wrap64 (a0_0)) 20))) + (Int.tmod (wrap64 (a0_1)) 50))) (wrap64 (1 + (Int.tmod (wrap64 (a0_2)) 100))) x12_18 (wrap64 (x13_2 + 1)) t185 t186)) = some r := H
                            have A59 := Aside0.mk A590
                            clear A590
                            by_cases c60 : t186 < (wrap64 (t177 + (wrap64 (1 + (Int.tmod (wrap64 (a0_0)) 20)))))
                            · rw [if_pos c60] at H
                              have c60b0 : decide (t186 < (wrap64 (t177 + (wrap64 (1 + (Int.tmod (wrap64 (a0_0)) 20)))))) = true := decide_eq_true c60
                              clear c60
                              by_cases c61 : t186 = (wrap64 (1 + (Int.tmod (wrap64 (a0_2)) 100)))
                              · rw [if_pos c61] at H
                                have c61b0 : (t186 == (wrap64 (1 + (Int.tmod (wrap64 (a0_2)) 100)))) = true := beq_iff_eq.mpr c61
                                have c61b1 : (t186 != (wrap64 (1 + (Int.tmod (wrap64 (a0_2)) 100)))) = false := bne_eq_false_iff_eq.mpr c61
                                clear c61
                                have H' := Aside0.mk H
                                clear H
                                have p181 : 0 ≤ (x13_2 : Int) := of_decide_eq_true (by first | (with_reducible assumption) | assumption)
                                have q181 : x13_2 < (l2.length : Int) := of_decide_eq_true (by first | (with_reducible assumption) | assumption)
                                obtain ⟨ad181, e181, hx181_0⟩ := Kd.at_bool HR2.out x13_2 p181 q181
                                (try rw [← Nbq30.out] at hx181_0)
                                cases e181
                                replace hx181_0 := (HB.out.cell (World.block_lt_of_cell? w _ hx181_0)).trans hx181_0
                                replace p181 := eq_true p181
                                replace q181 := eq_true q181
                                have hnb62 := NB179_170.out
                                have hnc62 := NB170_179.out
                                have hnb63 := NB179_174.out
                                have hnc63 := NB174_179.out
                                have hcz64_0 : wc.cell? ⟨gb179, 0, none⟩ = some (.int .i64 t176) := (blk_cell BK179.out 0).trans rfl
                                have hcz64_1 : wc.cell? ⟨gb179, 1, none⟩ = some (.int .i64 t177) := (blk_cell BK179.out 1).trans rfl
                                have hfz64_0 := blk_frozen BK179.out 0
                                have hfz64_1 := blk_frozen BK179.out 1
                                go_wp2_with (first | ((with_reducible refine gate_callee (f := 14) rfl ?_); refine goesL_ (some 91) rfl rfl Try.func14 (by kernel_rfl) rfl #[.agg #[.int .i64 t176, .int .i64 t177], .int .i64 (wrap64 (1 + (Int.tmod (wrap64 (a0_0)) 20))), .int .i64 (wrap64 ((wrap64 (1 + (Int.tmod (wrap64 (a0_0)) 20))) + (Int.tmod (wrap64 (a0_1)) 50))), .int .i64 (wrap64 (1 + (Int.tmod (wrap64 (a0_2)) 100))), .int .i64 0] rfl (by (try simp only [List.map_toArray, List.map_cons, List.map_nil]); first | done | rfl | (simp only [List.length_drop, List.length_take]; rfl)) ?_; (with_reducible refine (rate_Tick.calls t176 t177 (wrap64 (1 + (Int.tmod (wrap64 (a0_0)) 20))) (wrap64 ((wrap64 (1 + (Int.tmod (wrap64 (a0_0)) 20))) + (Int.tmod (wrap64 (a0_1)) 50))) (wrap64 (1 + (Int.tmod (wrap64 (a0_2)) 100))) 0 t185 t186 _ A59.out).mono ?_); rintro e w65 ⟨rfl, hb⟩; refine ⟨_, rfl, ?_⟩; have n0_ := Aside0.mk (blk_below (g := gb170) (o := .cells #[.int .u8 a0_0, .int .u8 a0_1, .int .u8 a0_2] 36 (0, 0)) (by (with_reducible repeat (first | refine blk_drewN ?_ _ | refine blk_drew ?_ | refine blk_alloc ?_ _)); exact BK170.out) hb); have n1_ := Aside0.mk (blk_below (g := gb174) (o := .cells #[.int .i64 x175000_2, .int .i64 x175001_2] 23 (0, 0)) (by (with_reducible repeat (first | refine blk_drewN ?_ _ | refine blk_drew ?_ | refine blk_alloc ?_ _)); exact BK174.out) hb); have n2_ := Aside0.mk (blk_below (g := gb179) (o := .cells #[.int .i64 t176, .int .i64 t177] 23 (0, 0)) (by (with_reducible repeat (first | refine blk_drewN ?_ _ | refine blk_drew ?_ | refine blk_alloc ?_ _)); exact BK179.out) hb); have n3_ := Aside0.mk (below_step (by repeat (first | (with_reducible first | exact HB.out | apply below_alloc | apply pw_below_drewN | apply below_drew1 | refine below_set ?_ GE170.out | refine below_set ?_ GE174.out | refine below_set ?_ GE179.out) | exact HB.out)) hb); clear BK170; clear BK174; clear BK179; clear HB; have BK170 := n0_; have BK174 := n1_; have BK179 := n2_; have HB := n3_; clear n0_ n1_ n2_ n3_; (try clear hb); (try clear hb2); (try clear hk); (try clear hi)) | ((with_reducible refine gate_dst (N := 17) rfl ?_); (try (refine gate_guard (by rfl) ?_; dsimp only)); refine box_event ?hg (N := 17) ?hd (cs := #[.int .i64 0, .int .i64 0]) (t := 23) ?hr ?_; (case hd => rfl); (case hg => rfl); (case hr => first | (go_simp; done) | (go_simp; rfl)); intro gb187 hg w66 hbox hb; have n0_ := Aside0.mk (blk_below (g := gb170) (o := .cells #[.int .u8 a0_0, .int .u8 a0_1, .int .u8 a0_2] 36 (0, 0)) (by (with_reducible repeat (first | refine blk_drewN ?_ _ | refine blk_drew ?_ | refine blk_alloc ?_ _)); exact BK170.out) hb); have n1_ := Aside0.mk (blk_below (g := gb174) (o := .cells #[.int .i64 x175000_2, .int .i64 x175001_2] 23 (0, 0)) (by (with_reducible repeat (first | refine blk_drewN ?_ _ | refine blk_drew ?_ | refine blk_alloc ?_ _)); exact BK174.out) hb); have n2_ := Aside0.mk (blk_below (g := gb179) (o := .cells #[.int .i64 t176, .int .i64 t177] 23 (0, 0)) (by (with_reducible repeat (first | refine blk_drewN ?_ _ | refine blk_drew ?_ | refine blk_alloc ?_ _)); exact BK179.out) hb); have n3_ := Aside0.mk (below_step (by repeat (first | (with_reducible first | exact HB.out | apply below_alloc | apply pw_below_drewN | apply below_drew1 | refine below_set ?_ GE170.out | refine below_set ?_ GE174.out | refine below_set ?_ GE179.out) | exact HB.out)) hb); have n4_ := Aside0.mk (hbox); have n5_ := Aside0.mk ((by rw [hg]; exact (below_size (by repeat (first | (with_reducible first | exact HB.out | apply below_alloc | apply pw_below_drewN | apply below_drew1 | refine below_set ?_ GE170.out | refine below_set ?_ GE174.out | refine below_set ?_ GE179.out) | exact HB.out))) : w.heap.size ≤ gb187)); have n6_ := Aside0.mk ((by rw [hg]; exact (below_size (by repeat (first | (with_reducible first | exact HB.out | apply below_alloc | apply pw_below_drewN | apply below_drew1 | refine below_set ?_ GE170.out | refine below_set ?_ GE174.out | refine below_set ?_ GE179.out) | exact HB.out))) : w.heap.size ≤ gb187)); have n7_ := Aside0.mk ((by rw [hg]; exact Nat.ne_of_lt (blk_lt (g := gb170) (o := .cells #[.int .u8 a0_0, .int .u8 a0_1, .int .u8 a0_2] 36 (0, 0)) (by (with_reducible repeat (first | refine blk_drewN ?_ _ | refine blk_drew ?_ | refine blk_alloc ?_ _)); exact BK170.out)) : gb170 ≠ gb187)); have n8_ := Aside0.mk ((by rw [hg]; exact Nat.ne_of_gt (blk_lt (g := gb170) (o := .cells #[.int .u8 a0_0, .int .u8 a0_1, .int .u8 a0_2] 36 (0, 0)) (by (with_reducible repeat (first | refine blk_drewN ?_ _ | refine blk_drew ?_ | refine blk_alloc ?_ _)); exact BK170.out)) : gb187 ≠ gb170)); have n9_ := Aside0.mk ((by rw [hg]; exact Nat.ne_of_lt (blk_lt (g := gb174) (o := .cells #[.int .i64 x175000_2, .int .i64 x175001_2] 23 (0, 0)) (by (with_reducible repeat (first | refine blk_drewN ?_ _ | refine blk_drew ?_ | refine blk_alloc ?_ _)); exact BK174.out)) : gb174 ≠ gb187)); have n10_ := Aside0.mk ((by rw [hg]; exact Nat.ne_of_gt (blk_lt (g := gb174) (o := .cells #[.int .i64 x175000_2, .int .i64 x175001_2] 23 (0, 0)) (by (with_reducible repeat (first | refine blk_drewN ?_ _ | refine blk_drew ?_ | refine blk_alloc ?_ _)); exact BK174.out)) : gb187 ≠ gb174)); have n11_ := Aside0.mk ((by rw [hg]; exact Nat.ne_of_lt (blk_lt (g := gb179) (o := .cells #[.int .i64 t176, .int .i64 t177] 23 (0, 0)) (by (with_reducible repeat (first | refine blk_drewN ?_ _ | refine blk_drew ?_ | refine blk_alloc ?_ _)); exact BK179.out)) : gb179 ≠ gb187)); have n12_ := Aside0.mk ((by rw [hg]; exact Nat.ne_of_gt (blk_lt (g := gb179) (o := .cells #[.int .i64 t176, .int .i64 t177] 23 (0, 0)) (by (with_reducible repeat (first | refine blk_drewN ?_ _ | refine blk_drew ?_ | refine blk_alloc ?_ _)); exact BK179.out)) : gb187 ≠ gb179)); clear BK170; clear BK174; clear BK179; clear HB; have BK170 := n0_; have BK174 := n1_; have BK179 := n2_; have HB := n3_; have BK187 := n4_; have GW187 := n5_; have GE187 := n6_; have NB170_187 := n7_; have NB187_170 := n8_; have NB174_187 := n9_; have NB187_174 := n10_; have NB179_187 := n11_; have NB187_179 := n12_; clear n0_ n1_ n2_ n3_ n4_ n5_ n6_ n7_ n8_ n9_ n10_ n11_ n12_; clear hb hbox hg; have hnb67 := NB187_170.out; have hnc67 := NB170_187.out; have hnb68 := NB187_174.out; have hnc68 := NB174_187.out; have hnb69 := NB187_179.out; have hnc69 := NB179_187.out; have hcz70_0 : w66.cell? ⟨gb187, 0, none⟩ = some (.int .i64 0) := (blk_cell BK187.out 0).trans rfl; have hcz70_1 : w66.cell? ⟨gb187, 1, none⟩ = some (.int .i64 0) := (blk_cell BK187.out 1).trans rfl; have hfz70_0 := blk_frozen BK187.out 0; have hfz70_1 := blk_frozen BK187.out 1; have hcz71_0 : w66.cell? ⟨gb179, 0, none⟩ = some (.int .i64 t176) := (blk_cell BK179.out 0).trans rfl; have hcz71_1 : w66.cell? ⟨gb179, 1, none⟩ = some (.int .i64 t177) := (blk_cell BK179.out 1).trans rfl; have hfz71_0 := blk_frozen BK179.out 0; have hfz71_1 := blk_frozen BK179.out 1; have hnb72 := NB174_170.out; have hnc72 := NB170_174.out; have hcz73_0 : w66.cell? ⟨gb174, 0, none⟩ = some (.int .i64 x175000_2) := (blk_cell BK174.out 0).trans rfl; have hcz73_1 : w66.cell? ⟨gb174, 1, none⟩ = some (.int .i64 x175001_2) := (blk_cell BK174.out 1).trans rfl; have hfz73_0 := blk_frozen BK174.out 0; have hfz73_1 := blk_frozen BK174.out 1))
                                go_roundg kj18
                                case measure => have := HJ4.out; have := HK2.out; have := HJ18.out; omega
                                case rel => exact ⟨(x12_18), (wrap64 (x13_2 + 1)), (t185), (t186), (by first | rfl | (simp; done) | (simp [*]; done)), (by first | rfl | (simp; done) | (simp [*]; done)), H', ⟨by have := HJ4.out; have := HK2.out; have := HJ18.out; omega⟩, ⟨by (with_reducible repeat (first | refine blk_drewN ?_ _ | refine blk_drew ?_ | refine blk_alloc ?_ _)); refine blk_far ?_ NB170_174.out _; (with_reducible repeat (first | refine blk_drewN ?_ _ | refine blk_drew ?_ | refine blk_alloc ?_ _)); refine blk_far ?_ NB170_174.out _; (with_reducible repeat (first | refine blk_drewN ?_ _ | refine blk_drew ?_ | refine blk_alloc ?_ _)); refine blk_far ?_ NB170_187.out _; (with_reducible repeat (first | refine blk_drewN ?_ _ | refine blk_drew ?_ | refine blk_alloc ?_ _)); refine blk_far ?_ NB170_187.out _; (with_reducible repeat (first | refine blk_drewN ?_ _ | refine blk_drew ?_ | refine blk_alloc ?_ _)); exact BK170.out⟩, ⟨by (with_reducible repeat (first | refine blk_drewN ?_ _ | refine blk_drew ?_ | refine blk_alloc ?_ _)); refine blk_put (cs := #[.int .i64 t185, .int .i64 x175001_2]) ?_ 1 _ rfl; (with_reducible repeat (first | refine blk_drewN ?_ _ | refine blk_drew ?_ | refine blk_alloc ?_ _)); refine blk_put (cs := #[.int .i64 x175000_2, .int .i64 x175001_2]) ?_ 0 _ rfl; (with_reducible repeat (first | refine blk_drewN ?_ _ | refine blk_drew ?_ | refine blk_alloc ?_ _)); refine blk_far ?_ NB174_187.out _; (with_reducible repeat (first | refine blk_drewN ?_ _ | refine blk_drew ?_ | refine blk_alloc ?_ _)); refine blk_far ?_ NB174_187.out _; (with_reducible repeat (first | refine blk_drewN ?_ _ | refine blk_drew ?_ | refine blk_alloc ?_ _)); exact BK174.out⟩, ⟨by repeat (first | (with_reducible first | exact HB.out | apply below_alloc | apply pw_below_drewN | apply below_drew1 | refine below_set ?_ GE170.out | refine below_set ?_ GE174.out | refine below_set ?_ GE179.out | refine below_set ?_ GE187.out) | exact HB.out)⟩⟩
                              · rw [if_neg c61] at H
                                exact absurd H (by simp)
                            · rw [if_neg c60] at H
                              have c60b0 : decide (t186 < (wrap64 (t177 + (wrap64 (1 + (Int.tmod (wrap64 (a0_0)) 20)))))) = false := decide_eq_false c60
                              clear c60
                              have H' := Aside0.mk H
                              clear H
                              have p181 : 0 ≤ (x13_2 : Int) := of_decide_eq_true (by first | (with_reducible assumption) | assumption)
                              have q181 : x13_2 < (l2.length : Int) := of_decide_eq_true (by first | (with_reducible assumption) | assumption)
                              obtain ⟨ad181, e181, hx181_0⟩ := Kd.at_bool HR2.out x13_2 p181 q181
                              (try rw [← Nbq30.out] at hx181_0)
                              cases e181
                              replace hx181_0 := (HB.out.cell (World.block_lt_of_cell? w _ hx181_0)).trans hx181_0
                              replace p181 := eq_true p181
                              replace q181 := eq_true q181
                              have hnb74 := NB179_170.out
                              have hnc74 := NB170_179.out
                              have hnb75 := NB179_174.out
                              have hnc75 := NB174_179.out
                              have hcz76_0 : wc.cell? ⟨gb179, 0, none⟩ = some (.int .i64 t176) := (blk_cell BK179.out 0).trans rfl
                              have hcz76_1 : wc.cell? ⟨gb179, 1, none⟩ = some (.int .i64 t177) := (blk_cell BK179.out 1).trans rfl
                              have hfz76_0 := blk_frozen BK179.out 0
                              have hfz76_1 := blk_frozen BK179.out 1
                              go_wp2_with (first | ((with_reducible refine gate_callee (f := 14) rfl ?_); refine goesL_ (some 91) rfl rfl Try.func14 (by kernel_rfl) rfl #[.agg #[.int .i64 t176, .int .i64 t177], .int .i64 (wrap64 (1 + (Int.tmod (wrap64 (a0_0)) 20))), .int .i64 (wrap64 ((wrap64 (1 + (Int.tmod (wrap64 (a0_0)) 20))) + (Int.tmod (wrap64 (a0_1)) 50))), .int .i64 (wrap64 (1 + (Int.tmod (wrap64 (a0_2)) 100))), .int .i64 0] rfl (by (try simp only [List.map_toArray, List.map_cons, List.map_nil]); first | done | rfl | (simp only [List.length_drop, List.length_take]; rfl)) ?_; (with_reducible refine (rate_Tick.calls t176 t177 (wrap64 (1 + (Int.tmod (wrap64 (a0_0)) 20))) (wrap64 ((wrap64 (1 + (Int.tmod (wrap64 (a0_0)) 20))) + (Int.tmod (wrap64 (a0_1)) 50))) (wrap64 (1 + (Int.tmod (wrap64 (a0_2)) 100))) 0 t185 t186 _ A59.out).mono ?_); rintro e w77 ⟨rfl, hb⟩; refine ⟨_, rfl, ?_⟩; have n0_ := Aside0.mk (blk_below (g := gb170) (o := .cells #[.int .u8 a0_0, .int .u8 a0_1, .int .u8 a0_2] 36 (0, 0)) (by (with_reducible repeat (first | refine blk_drewN ?_ _ | refine blk_drew ?_ | refine blk_alloc ?_ _)); exact BK170.out) hb); have n1_ := Aside0.mk (blk_below (g := gb174) (o := .cells #[.int .i64 x175000_2, .int .i64 x175001_2] 23 (0, 0)) (by (with_reducible repeat (first | refine blk_drewN ?_ _ | refine blk_drew ?_ | refine blk_alloc ?_ _)); exact BK174.out) hb); have n2_ := Aside0.mk (blk_below (g := gb179) (o := .cells #[.int .i64 t176, .int .i64 t177] 23 (0, 0)) (by (with_reducible repeat (first | refine blk_drewN ?_ _ | refine blk_drew ?_ | refine blk_alloc ?_ _)); exact BK179.out) hb); have n3_ := Aside0.mk (below_step (by repeat (first | (with_reducible first | exact HB.out | apply below_alloc | apply pw_below_drewN | apply below_drew1 | refine below_set ?_ GE170.out | refine below_set ?_ GE174.out | refine below_set ?_ GE179.out) | exact HB.out)) hb); clear BK170; clear BK174; clear BK179; clear HB; have BK170 := n0_; have BK174 := n1_; have BK179 := n2_; have HB := n3_; clear n0_ n1_ n2_ n3_; (try clear hb); (try clear hb2); (try clear hk); (try clear hi)) | ((with_reducible refine gate_dst (N := 17) rfl ?_); (try (refine gate_guard (by rfl) ?_; dsimp only)); refine box_event ?hg (N := 17) ?hd (cs := #[.int .i64 0, .int .i64 0]) (t := 23) ?hr ?_; (case hd => rfl); (case hg => rfl); (case hr => first | (go_simp; done) | (go_simp; rfl)); intro gb187 hg w78 hbox hb; have n0_ := Aside0.mk (blk_below (g := gb170) (o := .cells #[.int .u8 a0_0, .int .u8 a0_1, .int .u8 a0_2] 36 (0, 0)) (by (with_reducible repeat (first | refine blk_drewN ?_ _ | refine blk_drew ?_ | refine blk_alloc ?_ _)); exact BK170.out) hb); have n1_ := Aside0.mk (blk_below (g := gb174) (o := .cells #[.int .i64 x175000_2, .int .i64 x175001_2] 23 (0, 0)) (by (with_reducible repeat (first | refine blk_drewN ?_ _ | refine blk_drew ?_ | refine blk_alloc ?_ _)); exact BK174.out) hb); have n2_ := Aside0.mk (blk_below (g := gb179) (o := .cells #[.int .i64 t176, .int .i64 t177] 23 (0, 0)) (by (with_reducible repeat (first | refine blk_drewN ?_ _ | refine blk_drew ?_ | refine blk_alloc ?_ _)); exact BK179.out) hb); have n3_ := Aside0.mk (below_step (by repeat (first | (with_reducible first | exact HB.out | apply below_alloc | apply pw_below_drewN | apply below_drew1 | refine below_set ?_ GE170.out | refine below_set ?_ GE174.out | refine below_set ?_ GE179.out) | exact HB.out)) hb); have n4_ := Aside0.mk (hbox); have n5_ := Aside0.mk ((by rw [hg]; exact (below_size (by repeat (first | (with_reducible first | exact HB.out | apply below_alloc | apply pw_below_drewN | apply below_drew1 | refine below_set ?_ GE170.out | refine below_set ?_ GE174.out | refine below_set ?_ GE179.out) | exact HB.out))) : w.heap.size ≤ gb187)); have n6_ := Aside0.mk ((by rw [hg]; exact (below_size (by repeat (first | (with_reducible first | exact HB.out | apply below_alloc | apply pw_below_drewN | apply below_drew1 | refine below_set ?_ GE170.out | refine below_set ?_ GE174.out | refine below_set ?_ GE179.out) | exact HB.out))) : w.heap.size ≤ gb187)); have n7_ := Aside0.mk ((by rw [hg]; exact Nat.ne_of_lt (blk_lt (g := gb170) (o := .cells #[.int .u8 a0_0, .int .u8 a0_1, .int .u8 a0_2] 36 (0, 0)) (by (with_reducible repeat (first | refine blk_drewN ?_ _ | refine blk_drew ?_ | refine blk_alloc ?_ _)); exact BK170.out)) : gb170 ≠ gb187)); have n8_ := Aside0.mk ((by rw [hg]; exact Nat.ne_of_gt (blk_lt (g := gb170) (o := .cells #[.int .u8 a0_0, .int .u8 a0_1, .int .u8 a0_2] 36 (0, 0)) (by (with_reducible repeat (first | refine blk_drewN ?_ _ | refine blk_drew ?_ | refine blk_alloc ?_ _)); exact BK170.out)) : gb187 ≠ gb170)); have n9_ := Aside0.mk ((by rw [hg]; exact Nat.ne_of_lt (blk_lt (g := gb174) (o := .cells #[.int .i64 x175000_2, .int .i64 x175001_2] 23 (0, 0)) (by (with_reducible repeat (first | refine blk_drewN ?_ _ | refine blk_drew ?_ | refine blk_alloc ?_ _)); exact BK174.out)) : gb174 ≠ gb187)); have n10_ := Aside0.mk ((by rw [hg]; exact Nat.ne_of_gt (blk_lt (g := gb174) (o := .cells #[.int .i64 x175000_2, .int .i64 x175001_2] 23 (0, 0)) (by (with_reducible repeat (first | refine blk_drewN ?_ _ | refine blk_drew ?_ | refine blk_alloc ?_ _)); exact BK174.out)) : gb187 ≠ gb174)); have n11_ := Aside0.mk ((by rw [hg]; exact Nat.ne_of_lt (blk_lt (g := gb179) (o := .cells #[.int .i64 t176, .int .i64 t177] 23 (0, 0)) (by (with_reducible repeat (first | refine blk_drewN ?_ _ | refine blk_drew ?_ | refine blk_alloc ?_ _)); exact BK179.out)) : gb179 ≠ gb187)); have n12_ := Aside0.mk ((by rw [hg]; exact Nat.ne_of_gt (blk_lt (g := gb179) (o := .cells #[.int .i64 t176, .int .i64 t177] 23 (0, 0)) (by (with_reducible repeat (first | refine blk_drewN ?_ _ | refine blk_drew ?_ | refine blk_alloc ?_ _)); exact BK179.out)) : gb187 ≠ gb179)); clear BK170; clear BK174; clear BK179; clear HB; have BK170 := n0_; have BK174 := n1_; have BK179 := n2_; have HB := n3_; have BK187 := n4_; have GW187 := n5_; have GE187 := n6_; have NB170_187 := n7_; have NB187_170 := n8_; have NB174_187 := n9_; have NB187_174 := n10_; have NB179_187 := n11_; have NB187_179 := n12_; clear n0_ n1_ n2_ n3_ n4_ n5_ n6_ n7_ n8_ n9_ n10_ n11_ n12_; clear hb hbox hg; have hnb79 := NB187_170.out; have hnc79 := NB170_187.out; have hnb80 := NB187_174.out; have hnc80 := NB174_187.out; have hnb81 := NB187_179.out; have hnc81 := NB179_187.out; have hcz82_0 : w78.cell? ⟨gb187, 0, none⟩ = some (.int .i64 0) := (blk_cell BK187.out 0).trans rfl; have hcz82_1 : w78.cell? ⟨gb187, 1, none⟩ = some (.int .i64 0) := (blk_cell BK187.out 1).trans rfl; have hfz82_0 := blk_frozen BK187.out 0; have hfz82_1 := blk_frozen BK187.out 1; have hcz83_0 : w78.cell? ⟨gb179, 0, none⟩ = some (.int .i64 t176) := (blk_cell BK179.out 0).trans rfl; have hcz83_1 : w78.cell? ⟨gb179, 1, none⟩ = some (.int .i64 t177) := (blk_cell BK179.out 1).trans rfl; have hfz83_0 := blk_frozen BK179.out 0; have hfz83_1 := blk_frozen BK179.out 1; have hnb84 := NB174_170.out; have hnc84 := NB170_174.out; have hcz85_0 : w78.cell? ⟨gb174, 0, none⟩ = some (.int .i64 x175000_2) := (blk_cell BK174.out 0).trans rfl; have hcz85_1 : w78.cell? ⟨gb174, 1, none⟩ = some (.int .i64 x175001_2) := (blk_cell BK174.out 1).trans rfl; have hfz85_0 := blk_frozen BK174.out 0; have hfz85_1 := blk_frozen BK174.out 1))
                              go_roundg kj18
                              case measure => have := HJ4.out; have := HK2.out; have := HJ18.out; omega
                              case rel => exact ⟨(x12_18), (wrap64 (x13_2 + 1)), (t185), (t186), (by first | rfl | (simp; done) | (simp [*]; done)), (by first | rfl | (simp; done) | (simp [*]; done)), H', ⟨by have := HJ4.out; have := HK2.out; have := HJ18.out; omega⟩, ⟨by (with_reducible repeat (first | refine blk_drewN ?_ _ | refine blk_drew ?_ | refine blk_alloc ?_ _)); refine blk_far ?_ NB170_174.out _; (with_reducible repeat (first | refine blk_drewN ?_ _ | refine blk_drew ?_ | refine blk_alloc ?_ _)); refine blk_far ?_ NB170_174.out _; (with_reducible repeat (first | refine blk_drewN ?_ _ | refine blk_drew ?_ | refine blk_alloc ?_ _)); refine blk_far ?_ NB170_187.out _; (with_reducible repeat (first | refine blk_drewN ?_ _ | refine blk_drew ?_ | refine blk_alloc ?_ _)); refine blk_far ?_ NB170_187.out _; (with_reducible repeat (first | refine blk_drewN ?_ _ | refine blk_drew ?_ | refine blk_alloc ?_ _)); exact BK170.out⟩, ⟨by (with_reducible repeat (first | refine blk_drewN ?_ _ | refine blk_drew ?_ | refine blk_alloc ?_ _)); refine blk_put (cs := #[.int .i64 t185, .int .i64 x175001_2]) ?_ 1 _ rfl; (with_reducible repeat (first | refine blk_drewN ?_ _ | refine blk_drew ?_ | refine blk_alloc ?_ _)); refine blk_put (cs := #[.int .i64 x175000_2, .int .i64 x175001_2]) ?_ 0 _ rfl; (with_reducible repeat (first | refine blk_drewN ?_ _ | refine blk_drew ?_ | refine blk_alloc ?_ _)); refine blk_far ?_ NB174_187.out _; (with_reducible repeat (first | refine blk_drewN ?_ _ | refine blk_drew ?_ | refine blk_alloc ?_ _)); refine blk_far ?_ NB174_187.out _; (with_reducible repeat (first | refine blk_drewN ?_ _ | refine blk_drew ?_ | refine blk_alloc ?_ _)); exact BK174.out⟩, ⟨by repeat (first | (with_reducible first | exact HB.out | apply below_alloc | apply pw_below_drewN | apply below_drew1 | refine below_set ?_ GE170.out | refine below_set ?_ GE174.out | refine below_set ?_ GE179.out | refine below_set ?_ GE187.out) | exact HB.out)⟩⟩
                        · rw [if_neg c29] at H
                          exact absurd H (by simp)
                      · rw [if_neg c28] at H
                        exact absurd H (by simp)
              · rw [if_neg c17] at H
                exact absurd H (by simp)
            · rw [if_neg c16] at H
              have c16b0 : decide (x13_2 < (l1.length : Int)) = false := decide_eq_false c16
              clear c16
              obtain rfl := Option.some.inj H
              go_wp2
              go_ret
              exact ⟨by first | rfl | (simp [errW_none, errW_some] <;> rfl) | (simp [*, errW_none, errW_some] <;> rfl), by repeat (first | (with_reducible first | exact HB.out | apply below_alloc | apply pw_below_drewN | apply below_drew1 | refine below_set ?_ GE170.out | refine below_set ?_ GE174.out) | exact HB.out)⟩

end Go.Proofs.Ytahkcncgcidghaa.Print
