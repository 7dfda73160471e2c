/- The Go functions of this seat as Lean functions, and of each that its call does just what its Lean function says, where that says something. Condition: the arguments read as they are told. -/
import Derived.Test.YtejponabffffkaaDoorPrint0
import Derived.Test.YtejponabffffkaaDoorPrint1
import Derived.Test.YtejponabffffkaaDoorHand
namespace Go.Proofs.YtejponabffffkaaDoor.Print
open Go.RowKit Go.Proofs.YtejponabffffkaaDoorW.PrintWords Go.Proofs.YtejponabffffkaaDoorW.PrintLast Go.Proofs.YtejponabffffkaaDoorW.PrintMore
attribute [local go_sem] max2_int min2_int max_two min_two max_three min_three max_four min_four   -- for this text's walks alone
set_option linter.unusedVariables false
set_option linter.unusedSimpArgs false

/-! ### precentorlaw02_NumShort: function 8 -/
mutual
def precentorlaw02_NumShort.l0 : Nat → List Int → Bool → List Int → Int → Option (Bool)
  | 0, _, _, _, _ => none
  | k + 1, x0, x3, x4, x5 => if x5 < 3 then (if 0 ≤ x5 then (if x5 < (x4.length : Int) then ((num_Take.f x0 (rd x4 x5)).bind fun bt387 => (if (x0.length : Int) < (rd x4 x5) then (if bt387.2.2 = 2 then (if bt387.1 = 0 then (precentorlaw02_NumShort.j1 k x0 x3 x4 x5 bt387.1 bt387.2.1 bt387.2.2 ((bt387.2.1.length : Int) != 0)) else (precentorlaw02_NumShort.j1 k x0 x3 x4 x5 bt387.1 bt387.2.1 bt387.2.2 true)) else (precentorlaw02_NumShort.j1 k x0 x3 x4 x5 bt387.1 bt387.2.1 bt387.2.2 true)) else (precentorlaw02_NumShort.j1 k x0 x3 x4 x5 bt387.1 bt387.2.1 bt387.2.2 false))) else (none)) else (none)) else (some x3)
def precentorlaw02_NumShort.j1 : Nat → List Int → Bool → List Int → Int → Int → List Int → Int → Bool → Option (Bool)
  | 0, _, _, _, _, _, _, _, _ => none
  | k + 1, x0, x3, x4, x5, x6, x7, x8, x48 => if x48 = true then (none) else (if 0 ≤ x5 then (if x5 < (x4.length : Int) then (if (x0.length : Int) ≥ (rd x4 x5) then (if x5 < 2 then (if x8 = 0 then (if (x7.length : Int) = (wrap64 ((x0.length : Int) - (rd x4 x5))) then ((num_Fits.f x6 (rd x4 x5)).bind fun t396 => (if t396 = true then (precentorlaw02_NumShort.l0 k x0 x3 x4 (wrap64 (x5 + 1))) else (none))) else (none)) else (none)) else (if x8 = 0 then (if (x7.length : Int) = (wrap64 ((x0.length : Int) - (rd x4 x5))) then ((num_Fits.f x6 (rd x4 x5)).bind fun t399 => (if t399 = true then (precentorlaw02_NumShort.l0 k x0 x3 x4 (wrap64 (x5 + 1))) else (none))) else (none)) else (precentorlaw02_NumShort.l0 k x0 x3 x4 (wrap64 (x5 + 1))))) else (if x8 = 0 then (if (x7.length : Int) = (wrap64 ((x0.length : Int) - (rd x4 x5))) then ((num_Fits.f x6 (rd x4 x5)).bind fun t402 => (if t402 = true then (precentorlaw02_NumShort.l0 k x0 x3 x4 (wrap64 (x5 + 1))) else (none))) else (none)) else (precentorlaw02_NumShort.l0 k x0 x3 x4 (wrap64 (x5 + 1))))) else (none)) else (none))
end
def precentorlaw02_NumShort.f (k : Nat) (l0 : List Int) : Option (Bool) := (precentorlaw02_shown.f k).bind fun t382 => (if (l0.length : Int) > 300 then (some t382) else (precentorlaw02_NumShort.l0 k l0 t382 (([1, 2, 8] : List Int)) 0))
theorem precentorlaw02_NumShort.mono_l : ∀ k, (∀ y0 y1 y2 y3, LeO (precentorlaw02_NumShort.l0 k y0 y1 y2 y3) (precentorlaw02_NumShort.l0 (k + 1) y0 y1 y2 y3)) ∧ (∀ y0 y1 y2 y3 y4 y5 y6 y7, LeO (precentorlaw02_NumShort.j1 k y0 y1 y2 y3 y4 y5 y6 y7) (precentorlaw02_NumShort.j1 (k + 1) y0 y1 y2 y3 y4 y5 y6 y7))
  | 0 => ⟨fun _ _ _ _ r h => by simp [precentorlaw02_NumShort.l0] at h, fun _ _ _ _ _ _ _ _ r h => by simp [precentorlaw02_NumShort.j1] at h⟩
  | k + 1 => by
    obtain ⟨ih0, ih1⟩ := precentorlaw02_NumShort.mono_l k
    refine ⟨?_, ?_⟩
    · intro y0 y1 y2 y3
      unfold precentorlaw02_NumShort.l0
      repeat' first
      | (with_reducible exact ih0 _ _ _ _)
      | (with_reducible exact ih1 _ _ _ _ _ _ _ _)
      | (with_reducible exact precentorlaw02_shown.mono _)
      | (with_reducible exact LeO.refl _)
      | (with_reducible exact LeO.none _)
      | (with_reducible refine LeO.ite ?_ ?_)
      | (with_reducible refine LeO.bind ?_ (fun _ => ?_))
      | exact ih0 _ _ _ _
      | exact ih1 _ _ _ _ _ _ _ _
      | exact precentorlaw02_shown.mono _
      | exact LeO.none _
      | refine LeO.ite ?_ ?_
      | refine LeO.bind ?_ (fun _ => ?_)
    · intro y0 y1 y2 y3 y4 y5 y6 y7
      unfold precentorlaw02_NumShort.j1
      repeat' first
      | (with_reducible exact ih0 _ _ _ _)
      | (with_reducible exact ih1 _ _ _ _ _ _ _ _)
      | (with_reducible exact precentorlaw02_shown.mono _)
      | (with_reducible exact LeO.refl _)
      | (with_reducible exact LeO.none _)
      | (with_reducible refine LeO.ite ?_ ?_)
      | (with_reducible refine LeO.bind ?_ (fun _ => ?_))
      | exact ih0 _ _ _ _
      | exact ih1 _ _ _ _ _ _ _ _
      | exact precentorlaw02_shown.mono _
      | exact LeO.none _
      | refine LeO.ite ?_ ?_
      | refine LeO.bind ?_ (fun _ => ?_)
theorem precentorlaw02_NumShort.mono : ∀ a0 k, LeO (precentorlaw02_NumShort.f k a0) (precentorlaw02_NumShort.f (k + 1) a0) := by
  intro a0 k
  obtain ⟨ih0, ih1⟩ := precentorlaw02_NumShort.mono_l k
  unfold precentorlaw02_NumShort.f
  repeat' first
      | (with_reducible exact ih0 _ _ _ _)
      | (with_reducible exact ih1 _ _ _ _ _ _ _ _)
      | (with_reducible exact precentorlaw02_shown.mono _)
      | (with_reducible exact LeO.refl _)
      | (with_reducible exact LeO.none _)
      | (with_reducible refine LeO.ite ?_ ?_)
      | (with_reducible refine LeO.bind ?_ (fun _ => ?_))
      | exact ih0 _ _ _ _
      | exact ih1 _ _ _ _ _ _ _ _
      | exact precentorlaw02_shown.mono _
      | exact LeO.none _
      | refine LeO.ite ?_ ?_
      | refine LeO.bind ?_ (fun _ => ?_)
set_option maxHeartbeats 8000000 in
set_option maxRecDepth 100000 in
theorem precentorlaw02_NumShort.calls (k : Nat) (A0 : Option Addr) (c0 : Nat) (l0 : List Int) (r : Bool) (w : World) (hr0 : Kd.C (Kd.int .u8) w A0 l0.length l0) (hc0 : l0.length ≤ c0) (hG : GB w) (h : precentorlaw02_NumShort.f k l0 = some r) :
    Calls Tryd.prog 8 #[.slice A0 l0.length c0] w fun e w' => e = .returned (.bool r) ∧ Below w.heap.size w w' := by
  have HR0 := Aside0.mk hr0
  have HC0 := Aside0.mk hc0
  clear hr0 hc0
  have HB := Aside0.mk (Below.refl w.heap.size w)
  have H : ((precentorlaw02_shown.f k).bind fun t382 => (if (l0.length : Int) > 300 then (some t382) else (precentorlaw02_NumShort.l0 k l0 t382 (([1, 2, 8] : List Int)) 0))) = some r := h
  clear h
  replace H := Option.bind_eq_some_iff.mp H
  obtain ⟨t382, A20, H⟩ := H
  replace H : (if (l0.length : Int) > 300 then (some t382) else (precentorlaw02_NumShort.l0 k l0 t382 (([1, 2, 8] : List Int)) 0)) = some r := H
  have A2 := Aside0.mk A20
  clear A20
  by_cases c3 : (l0.length : Int) > 300
  · rw [if_pos c3] at H
    have c3b0 : decide (300 < (l0.length : Int)) = true := decide_eq_true c3
    have c3b1 : decide (300 < l0.length) = true := decide_eq_true (by omega)
    clear c3
    obtain rfl := Option.some.inj H
    go_enter Tryd.func8, Tryd.ntmps8
    go_wp2_with (first | ((with_reducible refine gate_callee (f := 9) rfl ?_); refine goesL_ (some 9) rfl rfl Tryd.func9 (by kernel_rfl) rfl #[] rfl (by (try simp only [List.map_toArray, List.map_cons, List.map_nil]); first | done | rfl | (simp only [List.length_drop, List.length_take]; rfl)) ?_; (with_reducible refine (precentorlaw02_shown.calls k  t382 _ ?side1 A2.out).mono ?_); (case side1 => exact GB.below hG (by repeat (first | (with_reducible first | exact HB.out | apply below_alloc | apply pw_below_drewN | apply below_drew1) | exact HB.out))); rintro e w4 ⟨rfl, hb⟩; refine ⟨_, rfl, ?_⟩; have n0_ := Aside0.mk (below_step (by repeat (first | (with_reducible first | exact HB.out | apply below_alloc | apply pw_below_drewN | apply below_drew1) | exact HB.out)) hb); clear HB; have HB := n0_; clear n0_; (try clear hb); (try clear hb2); (try clear hk); (try clear hi)))
    go_ret
    exact ⟨by first | rfl | (simp [errW_none, errW_some] <;> rfl) | (simp [*, errW_none, errW_some] <;> rfl), by repeat (first | (with_reducible first | exact HB.out | apply below_alloc | apply pw_below_drewN | apply below_drew1) | exact HB.out)⟩
  · rw [if_neg c3] at H
    have c3b0 : decide (300 < (l0.length : Int)) = false := decide_eq_false c3
    have c3b1 : decide (300 < l0.length) = false := decide_eq_false (by omega)
    clear c3
    obtain ⟨y383, hy383⟩ : ∃ y_ : List Int, y_ = (([1, 2, 8] : List Int)) := ⟨_, rfl⟩
    replace H : (precentorlaw02_NumShort.l0 k l0 t382 y383 0) = some r := by first | (rw [hy383]; with_reducible exact H) | (have H2_ := (Option.bind_some _ _).symm.trans H; rw [hy383]; with_reducible exact H2_) | (have H2_ := (Option.bind_some _ _).symm.trans H; with_reducible exact H2_) | with_reducible exact H | (rw [hy383]; exact H) | exact H
    have Ny383 := Aside0.mk hy383
    clear hy383
    have H' := Aside0.mk H
    clear H
    go_enter Tryd.func8, Tryd.ntmps8
    go_wp2_with (first | ((with_reducible refine gate_callee (f := 9) rfl ?_); refine goesL_ (some 9) rfl rfl Tryd.func9 (by kernel_rfl) rfl #[] rfl (by (try simp only [List.map_toArray, List.map_cons, List.map_nil]); first | done | rfl | (simp only [List.length_drop, List.length_take]; rfl)) ?_; (with_reducible refine (precentorlaw02_shown.calls k  t382 _ ?side1 A2.out).mono ?_); (case side1 => exact GB.below hG (by repeat (first | (with_reducible first | exact HB.out | apply below_alloc | apply pw_below_drewN | apply below_drew1) | exact HB.out))); rintro e w5 ⟨rfl, hb⟩; refine ⟨_, rfl, ?_⟩; have n0_ := Aside0.mk (below_step (by repeat (first | (with_reducible first | exact HB.out | apply below_alloc | apply pw_below_drewN | apply below_drew1) | exact HB.out)) hb); clear HB; have HB := n0_; clear n0_; (try clear hb); (try clear hb2); (try clear hk); (try clear hi)) | ((with_reducible refine gate_dst (N := 14) rfl ?_); (try (refine gate_guard (by rfl) ?_; dsimp only)); refine Kd.R_lit (Kd.int .i64) _ 3 ?hg (N := 14) ?hd (xs := ([1, 2, 8] : List Int)) (inner := [.int .i64 1, .int .i64 2, .int .i64 8]) (ok := fun _ => True) (okp := fun _ => True) ?hr ?hp (fun _ hk => hk) trivial (Below.refl _ _) (Nat.le_refl _) (by simp) ?_; (case hd => rfl); (case hg => rfl); (case hr => first | (go_simp; done) | (go_simp; rfl)); (case hp => exact (Reps.one (show Kd.M (Kd.int .i64) _ _ _ 1 [.int .i64 1] from rfl) (Reps.one (show Kd.M (Kd.int .i64) _ _ _ 2 [.int .i64 2] from rfl) (Reps.one (show Kd.M (Kd.int .i64) _ _ _ 8 [.int .i64 8] from rfl) (Reps.none _ _))))); intro v384 w6 ho7 hb hg_ hnew_; clear hg_ hnew_; (first | rw [← Ny383.out] at ho7 | (simp only [Int.reduceToNat] at ho7; rw [← Ny383.out] at ho7)); have n0_ := Aside0.mk (Kd.R_lower ho7 (below_size (by repeat (first | (with_reducible first | exact HB.out | apply below_alloc | apply pw_below_drewN | apply below_drew1) | exact HB.out)))); have n1_ := Aside0.mk (below_step (by repeat (first | (with_reducible first | exact HB.out | apply below_alloc | apply pw_below_drewN | apply below_drew1) | exact HB.out)) hb); clear HB; have HO385 := n0_; have HB := n1_; clear n0_ n1_; clear hb ho7))
    go_loopg [5] k (fun kq v5 w' => ∃ (x5_1 : Int), v5 = .int .i64 x5_1 ∧ Aside0 (precentorlaw02_NumShort.l0 kq l0 t382 y383 x5_1 = some r) ∧ Aside0 (kq ≤ k) ∧ Aside0 (Kd.R (Kd.int .i64) 3 w' w.heap.size (fun _ => True) v384 y383) ∧ Aside0 (Below w.heap.size w w'))
    case atStart => exact ⟨(0), (by first | rfl | (simp; done) | (simp [*]; done)), H', ⟨Nat.le_refl _⟩, ⟨by (with_reducible repeat (first | apply Kd.R_alloc | apply Kd.R_drewN | apply Kd.R_drew)); exact HO385.out⟩, ⟨by repeat (first | (with_reducible first | exact HB.out | apply below_alloc | apply pw_below_drewN | apply below_drew1) | exact HB.out)⟩⟩
    case round =>
      clear H'
      try clear p2
      try clear c3
      try clear c3b0
      try clear c3b1
      obtain ⟨x5_1, rfl, HA, HK1, HO_4, HB⟩ := hrel
      cases gk with
      | zero => exact absurd HA.out (by simp [precentorlaw02_NumShort.l0])
      | succ k1 =>
        have H := HA.out
        clear HA
        simp only [precentorlaw02_NumShort.l0] at H
        by_cases c8 : x5_1 < 3
        · rw [if_pos c8] at H
          have c8b0 : decide (x5_1 < 3) = true := decide_eq_true c8
          clear c8
          by_cases c9 : 0 ≤ x5_1
          · rw [if_pos c9] at H
            have c9b0 : decide (0 ≤ x5_1) = true := decide_eq_true c9
            clear c9
            by_cases c10 : x5_1 < (y383.length : Int)
            · rw [if_pos c10] at H
              have c10b0 : decide (x5_1 < (y383.length : Int)) = true := decide_eq_true c10
              clear c10
              replace H := Option.bind_eq_some_iff.mp H
              obtain ⟨⟨t387, t388, t391⟩, A110, H⟩ := H
              replace H : (if (l0.length : Int) < (rd y383 x5_1) then (if t391 = 2 then (if t387 = 0 then (precentorlaw02_NumShort.j1 k1 l0 t382 y383 x5_1 t387 t388 t391 ((t388.length : Int) != 0)) else (precentorlaw02_NumShort.j1 k1 l0 t382 y383 x5_1 t387 t388 t391 true)) else (precentorlaw02_NumShort.j1 k1 l0 t382 y383 x5_1 t387 t388 t391 true)) else (precentorlaw02_NumShort.j1 k1 l0 t382 y383 x5_1 t387 t388 t391 false)) = some r := H
              have A11 := Aside0.mk A110
              clear A110
              have HC12 := Aside0.mk H
              clear H
              obtain ⟨Ao13, co13, eo13⟩ := Kd.R_slice HO_4.out
              subst eo13
              have p386 : 0 ≤ (x5_1 : Int) := of_decide_eq_true (by first | (with_reducible assumption) | assumption)
              have q386 : x5_1 < (y383.length : Int) := of_decide_eq_true (by first | (with_reducible assumption) | assumption)
              obtain ⟨ad386, e386, hx386_0⟩ := Kd.at_int (Kd.R_reads' HO_4.out).2.2 x5_1 p386 q386
              cases e386
              replace p386 := eq_true p386
              replace q386 := eq_true q386
              go_upto_region 9 with (first | ((with_reducible refine gate_callee (f := 10) rfl ?_); refine goesL_ (some 25) rfl rfl Tryd.func10 (by kernel_rfl) rfl #[.slice A0 l0.length c0, .int .i64 (rd y383 x5_1)] rfl (by (try simp only [List.map_toArray, List.map_cons, List.map_nil]); first | done | rfl | (simp only [List.length_drop, List.length_take]; rfl)) ?_; (with_reducible refine (num_Take.calls (fun k_ => k_ < w.heap.size) _ _ l0 (rd y383 x5_1) t387 t388 t391 _ ?side1 ?side2 A11.out).mono ?_); (case side1 => exact Kd.V_mk HC0.out (Kd.F_below (Kd.C_F (Kd.heap_int .u8) HR0.out) (by repeat (first | (with_reducible first | exact HB.out | apply below_alloc | apply pw_below_drewN | apply below_drew1) | exact HB.out)))); (case side2 => exact GB.below hG (by repeat (first | (with_reducible first | exact HB.out | apply below_alloc | apply pw_below_drewN | apply below_drew1) | exact HB.out))); rintro e w14 ⟨v389, rfl, ho0, hb⟩; refine ⟨_, rfl, ?_⟩; have n0_ := Aside0.mk (Kd.R_below (by (with_reducible repeat (first | apply Kd.R_alloc | apply Kd.R_drewN | apply Kd.R_drew)); exact HO_4.out) hb); have n1_ := Aside0.mk (Kd.V_lower (Kd.V_mono (ok' := fun k_ => some k_ ≠ (.slice (some ad386) y383.length co13 : Value).ownBlock) ho0 (fun k_ hk_ => Or.elim hk_ (fun hs_ => fun e_ => Nat.not_le.2 hs_ (Kd.R_base HO_4.out k_ e_.symm)) (fun hn_ => (Kd.fresh' (Kd.R_lt (by (with_reducible repeat (first | apply Kd.R_alloc | apply Kd.R_drewN | apply Kd.R_drew)); exact HO_4.out)) k_ hn_)))) (below_size (by repeat (first | (with_reducible first | exact HB.out | apply below_alloc | apply pw_below_drewN | apply below_drew1) | exact HB.out)))); have n2_ := Aside0.mk (below_step (by repeat (first | (with_reducible first | exact HB.out | apply below_alloc | apply pw_below_drewN | apply below_drew1) | exact HB.out)) hb); clear HO_4; clear HB; have HO_4 := n0_; have HO390 := n1_; have HB := n2_; clear n0_ n1_ n2_; (try clear hb); (try clear hb2); (try clear hk); (try clear hi); (try clear ho0)))
              (try simp only [Act.put, List.setIfInBounds_toArray, List.set_cons_zero, List.set_cons_succ])
              go_cut [48] (fun v48 wc => ∃ (kq : Nat) (x48_11 : Bool), v48 = .bool x48_11 ∧ Aside0 (precentorlaw02_NumShort.j1 kq l0 t382 y383 x5_1 t387 t388 t391 x48_11 = some r) ∧ Aside0 (kq ≤ k1) ∧ Aside0 (Kd.R (Kd.int .i64) 3 wc w.heap.size (fun _ => True) (.slice (some ad386) y383.length co13) y383) ∧ Aside0 (Kd.V (Kd.int .u8) 5 wc w.heap.size (fun k_ => some k_ ≠ ((.slice (some ad386) y383.length co13) : Value).ownBlock) v389 t388) ∧ Aside0 (Below w.heap.size w wc))
              case first =>
                have H := HC12.out
                clear HC12
                by_cases c15 : (l0.length : Int) < (rd y383 x5_1)
                · rw [if_pos c15] at H
                  have c15b0 : decide ((l0.length : Int) < (rd y383 x5_1)) = true := decide_eq_true c15
                  clear c15
                  (first | rw [c15b0] | (simp only [i64_w, i32_w]; rw [c15b0]) | skip)
                  by_cases c16 : t391 = 2
                  · rw [if_pos c16] at H
                    have c16b0 : (t391 == 2) = true := beq_iff_eq.mpr c16
                    have c16b1 : (t391 != 2) = false := bne_eq_false_iff_eq.mpr c16
                    clear c16
                    by_cases c17 : t387 = 0
                    · rw [if_pos c17] at H
                      have c17b0 : (t387 == 0) = true := beq_iff_eq.mpr c17
                      have c17b1 : (t387 != 0) = false := bne_eq_false_iff_eq.mpr c17
                      clear c17
                      have H' := Aside0.mk H
                      clear H
                      have p392 : 0 ≤ (x5_1 : Int) := of_decide_eq_true (by first | (with_reducible assumption) | assumption)
                      have q392 : x5_1 < (y383.length : Int) := of_decide_eq_true (by first | (with_reducible assumption) | assumption)
                      obtain ⟨ad392, e392, hx392_0⟩ := Kd.at_int (Kd.R_reads' HO_4.out).2.2 x5_1 p392 q392
                      obtain rfl : ad386 = ad392 := (by injection e392)
                      replace p392 := eq_true p392
                      replace q392 := eq_true q392
                      obtain ⟨Ao18, co18, eo18⟩ := Kd.V_slice HO390.out
                      subst eo18
                      go_wp2
                      go_meet
                      case rel => exact ⟨_, (((t388.length : Int) != 0)), (by first | rfl | (simp; done) | (simp [*]; done)), H', ⟨by have := HK1.out; first | omega | exact Nat.le_refl _⟩, ⟨by (with_reducible repeat (first | apply Kd.R_alloc | apply Kd.R_drewN | apply Kd.R_drew)); exact HO_4.out⟩, ⟨by (with_reducible repeat (first | apply Kd.V_alloc | apply Kd.V_drewN | apply Kd.V_drew)); exact HO390.out⟩, ⟨by repeat (first | (with_reducible first | exact HB.out | apply below_alloc | apply pw_below_drewN | apply below_drew1) | exact HB.out)⟩⟩
                    · rw [if_neg c17] at H
                      have c17b0 : (t387 == 0) = false := beq_eq_false_iff_ne.mpr c17
                      have c17b1 : (t387 != 0) = true := bne_iff_ne.mpr c17
                      have H' := Aside0.mk H
                      clear H
                      have p392 : 0 ≤ (x5_1 : Int) := of_decide_eq_true (by first | (with_reducible assumption) | assumption)
                      have q392 : x5_1 < (y383.length : Int) := of_decide_eq_true (by first | (with_reducible assumption) | assumption)
                      obtain ⟨ad392, e392, hx392_0⟩ := Kd.at_int (Kd.R_reads' HO_4.out).2.2 x5_1 p392 q392
                      obtain rfl : ad386 = ad392 := (by injection e392)
                      replace p392 := eq_true p392
                      replace q392 := eq_true q392
                      go_wp2
                      go_meet
                      case rel => exact ⟨_, (true), (by first | rfl | (simp; done) | (simp [*]; done)), H', ⟨by have := HK1.out; first | omega | exact Nat.le_refl _⟩, ⟨by (with_reducible repeat (first | apply Kd.R_alloc | apply Kd.R_drewN | apply Kd.R_drew)); exact HO_4.out⟩, ⟨by (with_reducible repeat (first | apply Kd.V_alloc | apply Kd.V_drewN | apply Kd.V_drew)); exact HO390.out⟩, ⟨by repeat (first | (with_reducible first | exact HB.out | apply below_alloc | apply pw_below_drewN | apply below_drew1) | exact HB.out)⟩⟩
                  · rw [if_neg c16] at H
                    have c16b0 : (t391 == 2) = false := beq_eq_false_iff_ne.mpr c16
                    have c16b1 : (t391 != 2) = true := bne_iff_ne.mpr c16
                    have H' := Aside0.mk H
                    clear H
                    have p392 : 0 ≤ (x5_1 : Int) := of_decide_eq_true (by first | (with_reducible assumption) | assumption)
                    have q392 : x5_1 < (y383.length : Int) := of_decide_eq_true (by first | (with_reducible assumption) | assumption)
                    obtain ⟨ad392, e392, hx392_0⟩ := Kd.at_int (Kd.R_reads' HO_4.out).2.2 x5_1 p392 q392
                    obtain rfl : ad386 = ad392 := (by injection e392)
                    replace p392 := eq_true p392
                    replace q392 := eq_true q392
                    go_wp2
                    go_meet
                    case rel => exact ⟨_, (true), (by first | rfl | (simp; done) | (simp [*]; done)), H', ⟨by have := HK1.out; first | omega | exact Nat.le_refl _⟩, ⟨by (with_reducible repeat (first | apply Kd.R_alloc | apply Kd.R_drewN | apply Kd.R_drew)); exact HO_4.out⟩, ⟨by (with_reducible repeat (first | apply Kd.V_alloc | apply Kd.V_drewN | apply Kd.V_drew)); exact HO390.out⟩, ⟨by repeat (first | (with_reducible first | exact HB.out | apply below_alloc | apply pw_below_drewN | apply below_drew1) | exact HB.out)⟩⟩
                · rw [if_neg c15] at H
                  have c15b0 : decide ((l0.length : Int) < (rd y383 x5_1)) = false := decide_eq_false c15
                  clear c15
                  (first | rw [c15b0] | (simp only [i64_w, i32_w]; rw [c15b0]) | skip)
                  have H' := Aside0.mk H
                  clear H
                  have p392 : 0 ≤ (x5_1 : Int) := of_decide_eq_true (by first | (with_reducible assumption) | assumption)
                  have q392 : x5_1 < (y383.length : Int) := of_decide_eq_true (by first | (with_reducible assumption) | assumption)
                  obtain ⟨ad392, e392, hx392_0⟩ := Kd.at_int (Kd.R_reads' HO_4.out).2.2 x5_1 p392 q392
                  obtain rfl : ad386 = ad392 := (by injection e392)
                  replace p392 := eq_true p392
                  replace q392 := eq_true q392
                  go_wp2
                  go_meet
                  case rel => exact ⟨_, (false), (by first | rfl | (simp; done) | (simp [*]; done)), H', ⟨by have := HK1.out; first | omega | exact Nat.le_refl _⟩, ⟨by (with_reducible repeat (first | apply Kd.R_alloc | apply Kd.R_drewN | apply Kd.R_drew)); exact HO_4.out⟩, ⟨by (with_reducible repeat (first | apply Kd.V_alloc | apply Kd.V_drewN | apply Kd.V_drew)); exact HO390.out⟩, ⟨by repeat (first | (with_reducible first | exact HB.out | apply below_alloc | apply pw_below_drewN | apply below_drew1) | exact HB.out)⟩⟩
              case rest =>
                clear HC12
                try clear c1
                try clear p2
                try clear c3
                try clear c3b0
                try clear c3b1
                try clear p3
                try clear q3
                try clear hx3
                try clear c8
                try clear c8b0
                try clear c9
                try clear c9b0
                try clear c10
                try clear c10b0
                try clear c15
                try clear c15b0
                try clear c16
                try clear c16b0
                try clear c16b1
                try clear c17
                try clear c17b0
                try clear c17b1
                try clear hx386_0
                try clear hx392_0
                try clear p2
                try clear p386
                try clear p392
                try clear q386
                try clear q392
                obtain ⟨kq, x48_11, rfl, HA, HJ11, HO_4, HO_7, HB⟩ := hcut
                cases kq with
                | zero => exact absurd HA.out (by simp [precentorlaw02_NumShort.j1])
                | succ kj11 =>
                  have H := HA.out
                  clear HA
                  simp only [precentorlaw02_NumShort.j1] at H
                  by_cases c19 : x48_11 = true
                  · subst c19
                    have H1 : (none) = some r := by rw [if_pos rfl] at H; exact H
                    clear H
                    have H := H1
                    clear H1
                    exact absurd H (by simp)
                  · replace c19 := Bool.eq_false_iff.mpr c19
                    subst c19
                    have H1 : (if 0 ≤ x5_1 then (if x5_1 < (y383.length : Int) then (if (l0.length : Int) ≥ (rd y383 x5_1) then (if x5_1 < 2 then (if t391 = 0 then (if (t388.length : Int) = (wrap64 ((l0.length : Int) - (rd y383 x5_1))) then ((num_Fits.f t387 (rd y383 x5_1)).bind fun t396 => (if t396 = true then (precentorlaw02_NumShort.l0 kj11 l0 t382 y383 (wrap64 (x5_1 + 1))) else (none))) else (none)) else (none)) else (if t391 = 0 then (if (t388.length : Int) = (wrap64 ((l0.length : Int) - (rd y383 x5_1))) then ((num_Fits.f t387 (rd y383 x5_1)).bind fun t399 => (if t399 = true then (precentorlaw02_NumShort.l0 kj11 l0 t382 y383 (wrap64 (x5_1 + 1))) else (none))) else (none)) else (precentorlaw02_NumShort.l0 kj11 l0 t382 y383 (wrap64 (x5_1 + 1))))) else (if t391 = 0 then (if (t388.length : Int) = (wrap64 ((l0.length : Int) - (rd y383 x5_1))) then ((num_Fits.f t387 (rd y383 x5_1)).bind fun t402 => (if t402 = true then (precentorlaw02_NumShort.l0 kj11 l0 t382 y383 (wrap64 (x5_1 + 1))) else (none))) else (none)) else (precentorlaw02_NumShort.l0 kj11 l0 t382 y383 (wrap64 (x5_1 + 1))))) else (none)) else (none)) = some r := by rw [if_neg (show ¬ (false = true) by decide)] at H; exact H
                    clear H
                    have H := H1
                    clear H1
                    by_cases c20 : 0 ≤ x5_1
                    · rw [if_pos c20] at H
                      have c20b0 : decide (0 ≤ x5_1) = true := decide_eq_true c20
                      clear c20
                      by_cases c21 : x5_1 < (y383.length : Int)
                      · rw [if_pos c21] at H
                        have c21b0 : decide (x5_1 < (y383.length : Int)) = true := decide_eq_true c21
                        clear c21
                        by_cases c22 : (l0.length : Int) ≥ (rd y383 x5_1)
                        · rw [if_pos c22] at H
                          have c22b0 : decide ((rd y383 x5_1) ≤ (l0.length : Int)) = true := decide_eq_true c22
                          clear c22
                          by_cases c23 : x5_1 < 2
                          · rw [if_pos c23] at H
                            have c23b0 : decide (x5_1 < 2) = true := decide_eq_true c23
                            clear c23
                            by_cases c24 : t391 = 0
                            · rw [if_pos c24] at H
                              have c24b0 : (t391 == 0) = true := beq_iff_eq.mpr c24
                              have c24b1 : (t391 != 0) = false := bne_eq_false_iff_eq.mpr c24
                              clear c24
                              by_cases c25 : (t388.length : Int) = (wrap64 ((l0.length : Int) - (rd y383 x5_1)))
                              · rw [if_pos c25] at H
                                have c25b0 : ((t388.length : Int) == (wrap64 ((l0.length : Int) - (rd y383 x5_1)))) = true := beq_iff_eq.mpr c25
                                have c25b1 : ((t388.length : Int) != (wrap64 ((l0.length : Int) - (rd y383 x5_1)))) = false := bne_eq_false_iff_eq.mpr c25
                                clear c25
                                replace H := Option.bind_eq_some_iff.mp H
                                obtain ⟨t396, A260, H⟩ := H
                                replace H : (if t396 = true then (precentorlaw02_NumShort.l0 kj11 l0 t382 y383 (wrap64 (x5_1 + 1))) else (none)) = some r := H
                                have A26 := Aside0.mk A260
                                clear A260
                                by_cases c27 : t396 = true
                                · subst c27
                                  have H1 : (precentorlaw02_NumShort.l0 kj11 l0 t382 y383 (wrap64 (x5_1 + 1))) = some r := by rw [if_pos rfl] at H; exact H
                                  clear H
                                  have H := H1
                                  clear H1
                                  have H' := Aside0.mk H
                                  clear H
                                  have p393 : 0 ≤ (x5_1 : Int) := of_decide_eq_true (by first | (with_reducible assumption) | assumption)
                                  have q393 : x5_1 < (y383.length : Int) := of_decide_eq_true (by first | (with_reducible assumption) | assumption)
                                  obtain ⟨ad393, e393, hx393_0⟩ := Kd.at_int (Kd.R_reads' HO_4.out).2.2 x5_1 p393 q393
                                  obtain rfl : ad386 = ad393 := (by injection e393)
                                  replace p393 := eq_true p393
                                  replace q393 := eq_true q393
                                  obtain ⟨Ao28, co28, eo28⟩ := Kd.V_slice HO_7.out
                                  subst eo28
                                  have p394 : 0 ≤ (x5_1 : Int) := of_decide_eq_true (by first | (with_reducible assumption) | assumption)
                                  have q394 : x5_1 < (y383.length : Int) := of_decide_eq_true (by first | (with_reducible assumption) | assumption)
                                  obtain ⟨ad394, e394, hx394_0⟩ := Kd.at_int (Kd.R_reads' HO_4.out).2.2 x5_1 p394 q394
                                  obtain rfl : ad386 = ad394 := (by injection e394)
                                  replace p394 := eq_true p394
                                  replace q394 := eq_true q394
                                  have p395 : 0 ≤ (x5_1 : Int) := of_decide_eq_true (by first | (with_reducible assumption) | assumption)
                                  have q395 : x5_1 < (y383.length : Int) := of_decide_eq_true (by first | (with_reducible assumption) | assumption)
                                  obtain ⟨ad395, e395, hx395_0⟩ := Kd.at_int (Kd.R_reads' HO_4.out).2.2 x5_1 p395 q395
                                  obtain rfl : ad386 = ad395 := (by injection e395)
                                  replace p395 := eq_true p395
                                  replace q395 := eq_true q395
                                  go_wp2_with (first | (go_at_call 15; (with_reducible refine (num_Fits.calls t387 (rd y383 x5_1) true _ ?side1 A26.out).mono ?_); (case side1 => exact GB.below hG (by repeat (first | (with_reducible first | exact HB.out | apply below_alloc | apply pw_below_drewN | apply below_drew1) | exact HB.out))); rintro e w' ⟨rfl, ⟨nd, rfl⟩⟩))
                                  go_roundg kj11
                                  case measure => have := HK1.out; have := HJ11.out; omega
                                  case rel => exact ⟨(wrap64 (x5_1 + 1)), (by first | rfl | (simp; done) | (simp [*]; done)), H', ⟨by have := HK1.out; have := HJ11.out; omega⟩, ⟨by (with_reducible repeat (first | apply Kd.R_alloc | apply Kd.R_drewN | apply Kd.R_drew)); exact HO_4.out⟩, ⟨by repeat (first | (with_reducible first | exact HB.out | apply below_alloc | apply pw_below_drewN | apply below_drew1) | exact HB.out)⟩⟩
                                · replace c27 := Bool.eq_false_iff.mpr c27
                                  subst c27
                                  have H1 : (none) = some r := by rw [if_neg (show ¬ (false = true) by decide)] at H; exact H
                                  clear H
                                  have H := H1
                                  clear H1
                                  exact absurd H (by simp)
                              · rw [if_neg c25] at H
                                exact absurd H (by simp)
                            · rw [if_neg c24] at H
                              exact absurd H (by simp)
                          · rw [if_neg c23] at H
                            have c23b0 : decide (x5_1 < 2) = false := decide_eq_false c23
                            clear c23
                            by_cases c29 : t391 = 0
                            · rw [if_pos c29] at H
                              have c29b0 : (t391 == 0) = true := beq_iff_eq.mpr c29
                              have c29b1 : (t391 != 0) = false := bne_eq_false_iff_eq.mpr c29
                              clear c29
                              by_cases c30 : (t388.length : Int) = (wrap64 ((l0.length : Int) - (rd y383 x5_1)))
                              · rw [if_pos c30] at H
                                have c30b0 : ((t388.length : Int) == (wrap64 ((l0.length : Int) - (rd y383 x5_1)))) = true := beq_iff_eq.mpr c30
                                have c30b1 : ((t388.length : Int) != (wrap64 ((l0.length : Int) - (rd y383 x5_1)))) = false := bne_eq_false_iff_eq.mpr c30
                                clear c30
                                replace H := Option.bind_eq_some_iff.mp H
                                obtain ⟨t399, A310, H⟩ := H
                                replace H : (if t399 = true then (precentorlaw02_NumShort.l0 kj11 l0 t382 y383 (wrap64 (x5_1 + 1))) else (none)) = some r := H
                                have A31 := Aside0.mk A310
                                clear A310
                                by_cases c32 : t399 = true
                                · subst c32
                                  have H1 : (precentorlaw02_NumShort.l0 kj11 l0 t382 y383 (wrap64 (x5_1 + 1))) = some r := by rw [if_pos rfl] at H; exact H
                                  clear H
                                  have H := H1
                                  clear H1
                                  have H' := Aside0.mk H
                                  clear H
                                  have p393 : 0 ≤ (x5_1 : Int) := of_decide_eq_true (by first | (with_reducible assumption) | assumption)
                                  have q393 : x5_1 < (y383.length : Int) := of_decide_eq_true (by first | (with_reducible assumption) | assumption)
                                  obtain ⟨ad393, e393, hx393_0⟩ := Kd.at_int (Kd.R_reads' HO_4.out).2.2 x5_1 p393 q393
                                  obtain rfl : ad386 = ad393 := (by injection e393)
                                  replace p393 := eq_true p393
                                  replace q393 := eq_true q393
                                  obtain ⟨Ao33, co33, eo33⟩ := Kd.V_slice HO_7.out
                                  subst eo33
                                  have p397 : 0 ≤ (x5_1 : Int) := of_decide_eq_true (by first | (with_reducible assumption) | assumption)
                                  have q397 : x5_1 < (y383.length : Int) := of_decide_eq_true (by first | (with_reducible assumption) | assumption)
                                  obtain ⟨ad397, e397, hx397_0⟩ := Kd.at_int (Kd.R_reads' HO_4.out).2.2 x5_1 p397 q397
                                  obtain rfl : ad386 = ad397 := (by injection e397)
                                  replace p397 := eq_true p397
                                  replace q397 := eq_true q397
                                  have p398 : 0 ≤ (x5_1 : Int) := of_decide_eq_true (by first | (with_reducible assumption) | assumption)
                                  have q398 : x5_1 < (y383.length : Int) := of_decide_eq_true (by first | (with_reducible assumption) | assumption)
                                  obtain ⟨ad398, e398, hx398_0⟩ := Kd.at_int (Kd.R_reads' HO_4.out).2.2 x5_1 p398 q398
                                  obtain rfl : ad386 = ad398 := (by injection e398)
                                  replace p398 := eq_true p398
                                  replace q398 := eq_true q398
                                  go_wp2_with (first | (go_at_call 15; (with_reducible refine (num_Fits.calls t387 (rd y383 x5_1) true _ ?side1 A31.out).mono ?_); (case side1 => exact GB.below hG (by repeat (first | (with_reducible first | exact HB.out | apply below_alloc | apply pw_below_drewN | apply below_drew1) | exact HB.out))); rintro e w' ⟨rfl, ⟨nd, rfl⟩⟩))
                                  go_roundg kj11
                                  case measure => have := HK1.out; have := HJ11.out; omega
                                  case rel => exact ⟨(wrap64 (x5_1 + 1)), (by first | rfl | (simp; done) | (simp [*]; done)), H', ⟨by have := HK1.out; have := HJ11.out; omega⟩, ⟨by (with_reducible repeat (first | apply Kd.R_alloc | apply Kd.R_drewN | apply Kd.R_drew)); exact HO_4.out⟩, ⟨by repeat (first | (with_reducible first | exact HB.out | apply below_alloc | apply pw_below_drewN | apply below_drew1) | exact HB.out)⟩⟩
                                · replace c32 := Bool.eq_false_iff.mpr c32
                                  subst c32
                                  have H1 : (none) = some r := by rw [if_neg (show ¬ (false = true) by decide)] at H; exact H
                                  clear H
                                  have H := H1
                                  clear H1
                                  exact absurd H (by simp)
                              · rw [if_neg c30] at H
                                exact absurd H (by simp)
                            · rw [if_neg c29] at H
                              have c29b0 : (t391 == 0) = false := beq_eq_false_iff_ne.mpr c29
                              have c29b1 : (t391 != 0) = true := bne_iff_ne.mpr c29
                              have H' := Aside0.mk H
                              clear H
                              have p393 : 0 ≤ (x5_1 : Int) := of_decide_eq_true (by first | (with_reducible assumption) | assumption)
                              have q393 : x5_1 < (y383.length : Int) := of_decide_eq_true (by first | (with_reducible assumption) | assumption)
                              obtain ⟨ad393, e393, hx393_0⟩ := Kd.at_int (Kd.R_reads' HO_4.out).2.2 x5_1 p393 q393
                              obtain rfl : ad386 = ad393 := (by injection e393)
                              replace p393 := eq_true p393
                              replace q393 := eq_true q393
                              go_wp2
                              go_roundg kj11
                              case measure => have := HK1.out; have := HJ11.out; omega
                              case rel => exact ⟨(wrap64 (x5_1 + 1)), (by first | rfl | (simp; done) | (simp [*]; done)), H', ⟨by have := HK1.out; have := HJ11.out; omega⟩, ⟨by (with_reducible repeat (first | apply Kd.R_alloc | apply Kd.R_drewN | apply Kd.R_drew)); exact HO_4.out⟩, ⟨by repeat (first | (with_reducible first | exact HB.out | apply below_alloc | apply pw_below_drewN | apply below_drew1) | exact HB.out)⟩⟩
                        · rw [if_neg c22] at H
                          have c22b0 : decide ((rd y383 x5_1) ≤ (l0.length : Int)) = false := decide_eq_false c22
                          clear c22
                          by_cases c34 : t391 = 0
                          · rw [if_pos c34] at H
                            have c34b0 : (t391 == 0) = true := beq_iff_eq.mpr c34
                            have c34b1 : (t391 != 0) = false := bne_eq_false_iff_eq.mpr c34
                            clear c34
                            by_cases c35 : (t388.length : Int) = (wrap64 ((l0.length : Int) - (rd y383 x5_1)))
                            · rw [if_pos c35] at H
                              have c35b0 : ((t388.length : Int) == (wrap64 ((l0.length : Int) - (rd y383 x5_1)))) = true := beq_iff_eq.mpr c35
                              have c35b1 : ((t388.length : Int) != (wrap64 ((l0.length : Int) - (rd y383 x5_1)))) = false := bne_eq_false_iff_eq.mpr c35
                              clear c35
                              replace H := Option.bind_eq_some_iff.mp H
                              obtain ⟨t402, A360, H⟩ := H
                              replace H : (if t402 = true then (precentorlaw02_NumShort.l0 kj11 l0 t382 y383 (wrap64 (x5_1 + 1))) else (none)) = some r := H
                              have A36 := Aside0.mk A360
                              clear A360
                              by_cases c37 : t402 = true
                              · subst c37
                                have H1 : (precentorlaw02_NumShort.l0 kj11 l0 t382 y383 (wrap64 (x5_1 + 1))) = some r := by rw [if_pos rfl] at H; exact H
                                clear H
                                have H := H1
                                clear H1
                                have H' := Aside0.mk H
                                clear H
                                have p393 : 0 ≤ (x5_1 : Int) := of_decide_eq_true (by first | (with_reducible assumption) | assumption)
                                have q393 : x5_1 < (y383.length : Int) := of_decide_eq_true (by first | (with_reducible assumption) | assumption)
                                obtain ⟨ad393, e393, hx393_0⟩ := Kd.at_int (Kd.R_reads' HO_4.out).2.2 x5_1 p393 q393
                                obtain rfl : ad386 = ad393 := (by injection e393)
                                replace p393 := eq_true p393
                                replace q393 := eq_true q393
                                obtain ⟨Ao38, co38, eo38⟩ := Kd.V_slice HO_7.out
                                subst eo38
                                have p400 : 0 ≤ (x5_1 : Int) := of_decide_eq_true (by first | (with_reducible assumption) | assumption)
                                have q400 : x5_1 < (y383.length : Int) := of_decide_eq_true (by first | (with_reducible assumption) | assumption)
                                obtain ⟨ad400, e400, hx400_0⟩ := Kd.at_int (Kd.R_reads' HO_4.out).2.2 x5_1 p400 q400
                                obtain rfl : ad386 = ad400 := (by injection e400)
                                replace p400 := eq_true p400
                                replace q400 := eq_true q400
                                have p401 : 0 ≤ (x5_1 : Int) := of_decide_eq_true (by first | (with_reducible assumption) | assumption)
                                have q401 : x5_1 < (y383.length : Int) := of_decide_eq_true (by first | (with_reducible assumption) | assumption)
                                obtain ⟨ad401, e401, hx401_0⟩ := Kd.at_int (Kd.R_reads' HO_4.out).2.2 x5_1 p401 q401
                                obtain rfl : ad386 = ad401 := (by injection e401)
                                replace p401 := eq_true p401
                                replace q401 := eq_true q401
                                go_wp2_with (first | (go_at_call 15; (with_reducible refine (num_Fits.calls t387 (rd y383 x5_1) true _ ?side1 A36.out).mono ?_); (case side1 => exact GB.below hG (by repeat (first | (with_reducible first | exact HB.out | apply below_alloc | apply pw_below_drewN | apply below_drew1) | exact HB.out))); rintro e w' ⟨rfl, ⟨nd, rfl⟩⟩))
                                go_roundg kj11
                                case measure => have := HK1.out; have := HJ11.out; omega
                                case rel => exact ⟨(wrap64 (x5_1 + 1)), (by first | rfl | (simp; done) | (simp [*]; done)), H', ⟨by have := HK1.out; have := HJ11.out; omega⟩, ⟨by (with_reducible repeat (first | apply Kd.R_alloc | apply Kd.R_drewN | apply Kd.R_drew)); exact HO_4.out⟩, ⟨by repeat (first | (with_reducible first | exact HB.out | apply below_alloc | apply pw_below_drewN | apply below_drew1) | exact HB.out)⟩⟩
                              · replace c37 := Bool.eq_false_iff.mpr c37
                                subst c37
                                have H1 : (none) = some r := by rw [if_neg (show ¬ (false = true) by decide)] at H; exact H
                                clear H
                                have H := H1
                                clear H1
                                exact absurd H (by simp)
                            · rw [if_neg c35] at H
                              exact absurd H (by simp)
                          · rw [if_neg c34] at H
                            have c34b0 : (t391 == 0) = false := beq_eq_false_iff_ne.mpr c34
                            have c34b1 : (t391 != 0) = true := bne_iff_ne.mpr c34
                            have H' := Aside0.mk H
                            clear H
                            have p393 : 0 ≤ (x5_1 : Int) := of_decide_eq_true (by first | (with_reducible assumption) | assumption)
                            have q393 : x5_1 < (y383.length : Int) := of_decide_eq_true (by first | (with_reducible assumption) | assumption)
                            obtain ⟨ad393, e393, hx393_0⟩ := Kd.at_int (Kd.R_reads' HO_4.out).2.2 x5_1 p393 q393
                            obtain rfl : ad386 = ad393 := (by injection e393)
                            replace p393 := eq_true p393
                            replace q393 := eq_true q393
                            go_wp2
                            go_roundg kj11
                            case measure => have := HK1.out; have := HJ11.out; omega
                            case rel => exact ⟨(wrap64 (x5_1 + 1)), (by first | rfl | (simp; done) | (simp [*]; done)), H', ⟨by have := HK1.out; have := HJ11.out; omega⟩, ⟨by (with_reducible repeat (first | apply Kd.R_alloc | apply Kd.R_drewN | apply Kd.R_drew)); exact HO_4.out⟩, ⟨by repeat (first | (with_reducible first | exact HB.out | apply below_alloc | apply pw_below_drewN | apply below_drew1) | exact HB.out)⟩⟩
                      · rw [if_neg c21] at H
                        exact absurd H (by simp)
                    · rw [if_neg c20] at H
                      exact absurd H (by simp)
            · rw [if_neg c10] at H
              exact absurd H (by simp)
          · rw [if_neg c9] at H
            exact absurd H (by simp)
        · rw [if_neg c8] at H
          have c8b0 : decide (x5_1 < 3) = false := decide_eq_false c8
          clear c8
          obtain rfl := Option.some.inj H
          go_wp2
          go_ret
          exact ⟨by first | rfl | (simp [errW_none, errW_some] <;> rfl) | (simp [*, errW_none, errW_some] <;> rfl), by repeat (first | (with_reducible first | exact HB.out | apply below_alloc | apply pw_below_drewN | apply below_drew1) | exact HB.out)⟩

end Go.Proofs.YtejponabffffkaaDoor.Print
