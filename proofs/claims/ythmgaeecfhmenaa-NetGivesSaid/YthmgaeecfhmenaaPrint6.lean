/- The Go functions of this seat as Lean functions, and of each that its call does just what its Lean function says, where that says something. Condition: the arguments read as they are told. -/
import Derived.Test.YthmgaeecfhmenaaPrint0
import Derived.Test.YthmgaeecfhmenaaStrs
import Derived.Test.YthmgaeecfhmenaaHand
import Derived.Test.YthmgaeecfhmenaaHand2
import Derived.Test.YthmgaeecfhmenaaHand3
namespace Go.Proofs.Ythmgaeecfhmenaa.Print
open Go.RowKit Go.Proofs.YthmgaeecfhmenaaW.PrintWords Go.Proofs.YthmgaeecfhmenaaW.PrintLast Go.Proofs.YthmgaeecfhmenaaW.PrintMore
attribute [local go_sem] max2_int min2_int max_two min_two max_three min_three max_four min_four   -- for this text's walks alone
set_option linter.unusedVariables false
set_option linter.unusedSimpArgs false

/-! ### precentorlaw05_NetGives: function 7 -/
mutual
def precentorlaw05_NetGives.l0 : Nat → List (List Int) → Bool → Bool → List (S29) → Int → Option (Bool)
  | 0, _, _, _, _, _ => none
  | k + 1, x0, x1, x5, x6, x7 => if x7 < (x0.length : Int) then (if 0 ≤ x7 then (if ((rd_L2 x0 x7).length : Int) > 100 then (some x5) else ((net_Put.f x6 (Int.tmod x7 3) (rd_L2 x0 x7)).bind fun t407 => (precentorlaw05_NetGives.l0 k x0 x1 x5 t407 (wrap64 (x7 + 1))))) else (none)) else (precentorlaw05_NetGives.l1 k x0 x1 x5 x6 0)
def precentorlaw05_NetGives.l1 : Nat → List (List Int) → Bool → Bool → List (S29) → Int → Option (Bool)
  | 0, _, _, _, _, _ => none
  | k + 1, x0, x1, x5, x6, x8 => if x8 < (x0.length : Int) then (if x1 = true then ((net_Give.f x6 (wrap64 ((x6.length : Int) - 1))).bind fun bt410 => (if bt410.2.2.2.2 = 0 then (if bt410.1 = (Int.tmod (wrap64 ((wrap64 ((x0.length : Int) - 1)) - x8)) 3) then (if 0 ≤ (wrap64 ((wrap64 ((x0.length : Int) - 1)) - x8)) then (if (wrap64 ((wrap64 ((x0.length : Int) - 1)) - x8)) < (x0.length : Int) then (if (strOfNums bt410.2.1).toList = (strOfNums (rd_L2 x0 (wrap64 ((wrap64 ((x0.length : Int) - 1)) - x8)))).toList then (if (bt410.2.2.2.1.length : Int) = (wrap64 ((x6.length : Int) - 1)) then (precentorlaw05_NetGives.l1 k x0 x1 x5 bt410.2.2.2.1 (wrap64 (x8 + 1))) else (none)) else (none)) else (none)) else (none)) else (none)) else (none))) else ((net_Give.f x6 0).bind fun bt421 => (if bt421.2.2.2.2 = 0 then (if bt421.1 = (Int.tmod x8 3) then (if 0 ≤ x8 then (if (strOfNums bt421.2.1).toList = (strOfNums (rd_L2 x0 x8)).toList then (if (bt421.2.2.2.1.length : Int) = (wrap64 ((x6.length : Int) - 1)) then (precentorlaw05_NetGives.l1 k x0 x1 x5 bt421.2.2.2.1 (wrap64 (x8 + 1))) else (none)) else (none)) else (none)) else (none)) else (none)))) else (if x5 = true then (some ((x6.length : Int) == 0)) else (none))
end
def precentorlaw05_NetGives.f (k : Nat) (l0 : List (List Int)) (a1 : Bool) : Option (Bool) := (precentorlaw05_shown.f).bind fun t404 => (if (l0.length : Int) > 40 then (some t404) else (precentorlaw05_NetGives.l0 k l0 a1 t404 ([] : List (S29)) 0))
theorem precentorlaw05_NetGives.mono_l : ∀ k, (∀ y0 y1 y2 y3 y4, LeO (precentorlaw05_NetGives.l0 k y0 y1 y2 y3 y4) (precentorlaw05_NetGives.l0 (k + 1) y0 y1 y2 y3 y4)) ∧ (∀ y0 y1 y2 y3 y4, LeO (precentorlaw05_NetGives.l1 k y0 y1 y2 y3 y4) (precentorlaw05_NetGives.l1 (k + 1) y0 y1 y2 y3 y4))
  | 0 => ⟨fun _ _ _ _ _ r h => by simp [precentorlaw05_NetGives.l0] at h, fun _ _ _ _ _ r h => by simp [precentorlaw05_NetGives.l1] at h⟩
  | k + 1 => by
    obtain ⟨ih0, ih1⟩ := precentorlaw05_NetGives.mono_l k
    refine ⟨?_, ?_⟩
    · intro y0 y1 y2 y3 y4
      unfold precentorlaw05_NetGives.l0
      repeat' first
      | (with_reducible exact ih0 _ _ _ _ _)
      | (with_reducible exact ih1 _ _ _ _ _)
      | (with_reducible exact LeO.refl _)
      | (with_reducible exact LeO.none _)
      | (with_reducible refine LeO.ite ?_ ?_)
      | (with_reducible refine LeO.bind ?_ (fun _ => ?_))
      | exact ih0 _ _ _ _ _
      | exact ih1 _ _ _ _ _
      | exact LeO.none _
      | refine LeO.ite ?_ ?_
      | refine LeO.bind ?_ (fun _ => ?_)
    · intro y0 y1 y2 y3 y4
      unfold precentorlaw05_NetGives.l1
      repeat' first
      | (with_reducible exact ih0 _ _ _ _ _)
      | (with_reducible exact ih1 _ _ _ _ _)
      | (with_reducible exact LeO.refl _)
      | (with_reducible exact LeO.none _)
      | (with_reducible refine LeO.ite ?_ ?_)
      | (with_reducible refine LeO.bind ?_ (fun _ => ?_))
      | exact ih0 _ _ _ _ _
      | exact ih1 _ _ _ _ _
      | exact LeO.none _
      | refine LeO.ite ?_ ?_
      | refine LeO.bind ?_ (fun _ => ?_)
theorem precentorlaw05_NetGives.mono : ∀ a0 a1 k, LeO (precentorlaw05_NetGives.f k a0 a1) (precentorlaw05_NetGives.f (k + 1) a0 a1) := by
  intro a0 a1 k
  obtain ⟨ih0, ih1⟩ := precentorlaw05_NetGives.mono_l k
  unfold precentorlaw05_NetGives.f
  repeat' first
      | (with_reducible exact ih0 _ _ _ _ _)
      | (with_reducible exact ih1 _ _ _ _ _)
      | (with_reducible exact LeO.refl _)
      | (with_reducible exact LeO.none _)
      | (with_reducible refine LeO.ite ?_ ?_)
      | (with_reducible refine LeO.bind ?_ (fun _ => ?_))
      | exact ih0 _ _ _ _ _
      | exact ih1 _ _ _ _ _
      | exact LeO.none _
      | refine LeO.ite ?_ ?_
      | refine LeO.bind ?_ (fun _ => ?_)
set_option maxHeartbeats 8000000 in
set_option maxRecDepth 100000 in
theorem precentorlaw05_NetGives.calls (k : Nat) (A0 : Option Addr) (c0 : Nat) (l0 : List (List Int)) (a1 : Bool) (r : Bool) (w : World) (hr0 : Kd.C (Kd.slice 5 (Kd.int .u8)) w A0 l0.length l0) (hc0 : l0.length ≤ c0) (h : precentorlaw05_NetGives.f k l0 a1 = some r) :
    Calls Try.prog 7 #[.slice A0 l0.length c0, .bool a1] w fun e w' => e = .returned (.bool r) ∧ Below w.heap.size w w' := by
  have hu29 := Try.underlying29
  have HR0 := Aside0.mk hr0
  have HC0 := Aside0.mk hc0
  clear hr0 hc0
  have HB := Aside0.mk (Below.refl w.heap.size w)
  have H : ((precentorlaw05_shown.f).bind fun t404 => (if (l0.length : Int) > 40 then (some t404) else (precentorlaw05_NetGives.l0 k l0 a1 t404 ([] : List (S29)) 0))) = some r := h
  clear h
  replace H := Option.bind_eq_some_iff.mp H
  obtain ⟨t404, A30, H⟩ := H
  replace H : (if (l0.length : Int) > 40 then (some t404) else (precentorlaw05_NetGives.l0 k l0 a1 t404 ([] : List (S29)) 0)) = some r := H
  have A3 := Aside0.mk A30
  clear A30
  by_cases c4 : (l0.length : Int) > 40
  · rw [if_pos c4] at H
    have c4b0 : decide (40 < (l0.length : Int)) = true := decide_eq_true c4
    have c4b1 : decide (40 < l0.length) = true := decide_eq_true (by omega)
    clear c4
    obtain rfl := Option.some.inj H
    go_enter Try.func7, Try.ntmps7
    go_wp2_with (first | (go_at_call 9; (with_reducible refine (precentorlaw05_shown.calls  t404 _ A3.out).mono ?_); rintro e w5 ⟨rfl, hb⟩; have n0_ := Aside0.mk (below_step (by repeat (first | (with_reducible first | exact HB.out | apply below_alloc | apply pw_below_drewN | apply below_drew1) | exact HB.out)) hb); clear HB; have HB := n0_; clear n0_; (try clear hb); (try clear hb2); (try clear hk); (try clear hi)))
    repeat (go_quiet (first | (go_at_call 9; (with_reducible refine (precentorlaw05_shown.calls  t404 _ A3.out).mono ?_); rintro e w5 ⟨rfl, hb⟩; have n0_ := Aside0.mk (below_step (by repeat (first | (with_reducible first | exact HB.out | apply below_alloc | apply pw_below_drewN | apply below_drew1) | exact HB.out)) hb); clear HB; have HB := n0_; clear n0_; (try clear hb); (try clear hb2); (try clear hk); (try clear hi))); try go_wp2_with (first | (go_at_call 9; (with_reducible refine (precentorlaw05_shown.calls  t404 _ A3.out).mono ?_); rintro e w5 ⟨rfl, hb⟩; have n0_ := Aside0.mk (below_step (by repeat (first | (with_reducible first | exact HB.out | apply below_alloc | apply pw_below_drewN | apply below_drew1) | exact HB.out)) hb); clear HB; have HB := n0_; clear n0_; (try clear hb); (try clear hb2); (try clear hk); (try clear hi))))
    go_ret
    exact ⟨by first | rfl | (simp [errW_none, errW_some] <;> rfl) | (simp [*, errW_none, errW_some] <;> rfl), by repeat (first | (with_reducible first | exact HB.out | apply below_alloc | apply pw_below_drewN | apply below_drew1) | exact HB.out)⟩
  · rw [if_neg c4] at H
    have c4b0 : decide (40 < (l0.length : Int)) = false := decide_eq_false c4
    have c4b1 : decide (40 < l0.length) = false := decide_eq_false (by omega)
    clear c4
    have H' := Aside0.mk H
    clear H
    go_enter Try.func7, Try.ntmps7
    go_wp2_with (first | (go_at_call 9; (with_reducible refine (precentorlaw05_shown.calls  t404 _ A3.out).mono ?_); rintro e w6 ⟨rfl, hb⟩; have n0_ := Aside0.mk (below_step (by repeat (first | (with_reducible first | exact HB.out | apply below_alloc | apply pw_below_drewN | apply below_drew1) | exact HB.out)) hb); clear HB; have HB := n0_; clear n0_; (try clear hb); (try clear hb2); (try clear hk); (try clear hi)))
    repeat (go_quiet (first | (go_at_call 9; (with_reducible refine (precentorlaw05_shown.calls  t404 _ A3.out).mono ?_); rintro e w6 ⟨rfl, hb⟩; have n0_ := Aside0.mk (below_step (by repeat (first | (with_reducible first | exact HB.out | apply below_alloc | apply pw_below_drewN | apply below_drew1) | exact HB.out)) hb); clear HB; have HB := n0_; clear n0_; (try clear hb); (try clear hb2); (try clear hk); (try clear hi))); try go_wp2_with (first | (go_at_call 9; (with_reducible refine (precentorlaw05_shown.calls  t404 _ A3.out).mono ?_); rintro e w6 ⟨rfl, hb⟩; have n0_ := Aside0.mk (below_step (by repeat (first | (with_reducible first | exact HB.out | apply below_alloc | apply pw_below_drewN | apply below_drew1) | exact HB.out)) hb); clear HB; have HB := n0_; clear n0_; (try clear hb); (try clear hb2); (try clear hk); (try clear hi))))
    go_loopg [6, 7] k (fun kq v6 v7 w' => ∃ (x6_1 : List (S29)) (x7_1 : Int), v7 = .int .i64 x7_1 ∧ Aside0 (precentorlaw05_NetGives.l0 kq l0 a1 t404 x6_1 x7_1 = some r) ∧ Aside0 (kq ≤ k) ∧ Aside0 (Kd.V k29 29 w' w.heap.size (fun _ => True) v6 x6_1) ∧ Aside0 (Below w.heap.size w w'))
    case atStart => exact ⟨(([] : List (S29))), (0), (by first | rfl | (simp; done) | (simp [*]; done)), H', ⟨Nat.le_refl _⟩, ⟨Kd.V_nil _ _ _ _ _⟩, ⟨by repeat (first | (with_reducible first | exact HB.out | apply below_alloc | apply pw_below_drewN | apply below_drew1) | exact HB.out)⟩⟩
    case round =>
      clear H'
      try clear p2
      try clear c4
      try clear c4b0
      try clear c4b1
      obtain ⟨x6_1, x7_1, rfl, HA, HK1, HO_6, HB⟩ := hrel
      cases gk with
      | zero => exact absurd HA.out (by simp [precentorlaw05_NetGives.l0])
      | succ k1 =>
        have H := HA.out
        clear HA
        simp only [precentorlaw05_NetGives.l0] at H
        by_cases c7 : x7_1 < (l0.length : Int)
        · rw [if_pos c7] at H
          have c7b0 : decide (x7_1 < (l0.length : Int)) = true := decide_eq_true c7
          clear c7
          by_cases c8 : 0 ≤ x7_1
          · rw [if_pos c8] at H
            have c8b0 : decide (0 ≤ x7_1) = true := decide_eq_true c8
            clear c8
            by_cases c9 : ((rd_L2 l0 x7_1).length : Int) > 100
            · rw [if_pos c9] at H
              have c9b0 : decide (100 < ((rd_L2 l0 x7_1).length : Int)) = true := decide_eq_true c9
              have c9b1 : decide (100 < (rd_L2 l0 x7_1).length) = true := decide_eq_true (by omega)
              clear c9
              obtain rfl := Option.some.inj H
              have p405 : 0 ≤ (x7_1 : Int) := of_decide_eq_true (by first | (with_reducible assumption) | assumption)
              have q405 : x7_1 < (l0.length : Int) := of_decide_eq_true (by first | (with_reducible assumption) | assumption)
              obtain ⟨ad405, A405_0, c405_0, e405, hx405_0, hl405_0, hi405_0⟩ := at_L2 HR0.out x7_1 p405 q405
              cases e405
              replace hx405_0 := (HB.out.cell (World.block_lt_of_cell? w _ hx405_0)).trans hx405_0
              have HR405_0 := Aside0.mk hi405_0
              have HC405_0 := Aside0.mk hl405_0
              clear hi405_0 hl405_0
              replace p405 := eq_true p405
              replace q405 := eq_true q405
              go_wp2
              repeat (go_quiet (fail); try go_wp2)
              go_ret
              exact ⟨by first | rfl | (simp [errW_none, errW_some] <;> rfl) | (simp [*, errW_none, errW_some] <;> rfl), by repeat (first | (with_reducible first | exact HB.out | apply below_alloc | apply pw_below_drewN | apply below_drew1) | exact HB.out)⟩
            · rw [if_neg c9] at H
              have c9b0 : decide (100 < ((rd_L2 l0 x7_1).length : Int)) = false := decide_eq_false c9
              have c9b1 : decide (100 < (rd_L2 l0 x7_1).length) = false := decide_eq_false (by omega)
              clear c9
              replace H := Option.bind_eq_some_iff.mp H
              obtain ⟨t407, A100, H⟩ := H
              replace H : (precentorlaw05_NetGives.l0 k1 l0 a1 t404 t407 (wrap64 (x7_1 + 1))) = some r := H
              have A10 := Aside0.mk A100
              clear A100
              have H' := Aside0.mk H
              clear H
              have p405 : 0 ≤ (x7_1 : Int) := of_decide_eq_true (by first | (with_reducible assumption) | assumption)
              have q405 : x7_1 < (l0.length : Int) := of_decide_eq_true (by first | (with_reducible assumption) | assumption)
              obtain ⟨ad405, A405_0, c405_0, e405, hx405_0, hl405_0, hi405_0⟩ := at_L2 HR0.out x7_1 p405 q405
              cases e405
              replace hx405_0 := (HB.out.cell (World.block_lt_of_cell? w _ hx405_0)).trans hx405_0
              have HR405_0 := Aside0.mk hi405_0
              have HC405_0 := Aside0.mk hl405_0
              clear hi405_0 hl405_0
              replace p405 := eq_true p405
              replace q405 := eq_true q405
              have p406 : 0 ≤ (x7_1 : Int) := of_decide_eq_true (by first | (with_reducible assumption) | assumption)
              have q406 : x7_1 < (l0.length : Int) := of_decide_eq_true (by first | (with_reducible assumption) | assumption)
              obtain ⟨ad406, A406_0, c406_0, e406, hx406_0, hl406_0, hi406_0⟩ := at_L2 HR0.out x7_1 p406 q406
              obtain rfl : ad405 = ad406 := (by injection e406)
              replace hx406_0 := (HB.out.cell (World.block_lt_of_cell? w _ hx406_0)).trans hx406_0
              have HR406_0 := Aside0.mk hi406_0
              have HC406_0 := Aside0.mk hl406_0
              clear hi406_0 hl406_0
              replace p406 := eq_true p406
              replace q406 := eq_true q406
              have ea_ := Option.some.inj (hx405_0.symm.trans hx406_0)
              injection ea_ with ea_ en_ ec_
              subst ea_
              subst ec_
              clear en_
              obtain ⟨Ao11, co11, eo11⟩ := Kd.V_slice HO_6.out
              subst eo11
              go_wp2_with (first | (go_at_call 21; (with_reducible refine (net_Put.calls (fun k_ => True) _ _ x6_1 (Int.tmod x7_1 3) _ _ (rd_L2 l0 x7_1) t407 _ ?side1 ?side2 ?side3 A10.out).mono ?_); (case side1 => exact HO_6.out); (case side2 => repeat (first | exact (Kd.C_below HR406_0.out HB.out) | (with_reducible refine Kd.C_alloc ?_ _) | (with_reducible refine Kd.C_drewN ?_ _) | (with_reducible refine Kd.C_drew ?_))); (case side3 => exact HC406_0.out); rintro e w12 ⟨v408, rfl, ho0, hb⟩; have n0_ := Aside0.mk (Kd.V_below (by (with_reducible repeat (first | apply Kd.V_alloc | apply Kd.V_drewN | apply Kd.V_drew)); exact HO_6.out) hb); have n1_ := Aside0.mk (Kd.V_lower (Kd.V_mono (ok' := fun k_ => True) ho0 (fun k_ hk_ => trivial)) (below_size (by repeat (first | (with_reducible first | exact HB.out | apply below_alloc | apply pw_below_drewN | apply below_drew1) | exact HB.out)))); have n2_ := Aside0.mk (below_step (by repeat (first | (with_reducible first | exact HB.out | apply below_alloc | apply pw_below_drewN | apply below_drew1) | exact HB.out)) hb); clear HO_6; clear HB; have HO_6 := n0_; have HO409 := n1_; have HB := n2_; clear n0_ n1_ n2_; (try clear hb); (try clear hb2); (try clear hk); (try clear hi); (try clear ho0)))
              repeat (go_quiet (first | (go_at_call 21; (with_reducible refine (net_Put.calls (fun k_ => True) _ _ x6_1 (Int.tmod x7_1 3) _ _ (rd_L2 l0 x7_1) t407 _ ?side1 ?side2 ?side3 A10.out).mono ?_); (case side1 => exact HO_6.out); (case side2 => repeat (first | exact (Kd.C_below HR406_0.out HB.out) | (with_reducible refine Kd.C_alloc ?_ _) | (with_reducible refine Kd.C_drewN ?_ _) | (with_reducible refine Kd.C_drew ?_))); (case side3 => exact HC406_0.out); rintro e w12 ⟨v408, rfl, ho0, hb⟩; have n0_ := Aside0.mk (Kd.V_below (by (with_reducible repeat (first | apply Kd.V_alloc | apply Kd.V_drewN | apply Kd.V_drew)); exact HO_6.out) hb); have n1_ := Aside0.mk (Kd.V_lower (Kd.V_mono (ok' := fun k_ => True) ho0 (fun k_ hk_ => trivial)) (below_size (by repeat (first | (with_reducible first | exact HB.out | apply below_alloc | apply pw_below_drewN | apply below_drew1) | exact HB.out)))); have n2_ := Aside0.mk (below_step (by repeat (first | (with_reducible first | exact HB.out | apply below_alloc | apply pw_below_drewN | apply below_drew1) | exact HB.out)) hb); clear HO_6; clear HB; have HO_6 := n0_; have HO409 := n1_; have HB := n2_; clear n0_ n1_ n2_; (try clear hb); (try clear hb2); (try clear hk); (try clear hi); (try clear ho0))); try go_wp2_with (first | (go_at_call 21; (with_reducible refine (net_Put.calls (fun k_ => True) _ _ x6_1 (Int.tmod x7_1 3) _ _ (rd_L2 l0 x7_1) t407 _ ?side1 ?side2 ?side3 A10.out).mono ?_); (case side1 => exact HO_6.out); (case side2 => repeat (first | exact (Kd.C_below HR406_0.out HB.out) | (with_reducible refine Kd.C_alloc ?_ _) | (with_reducible refine Kd.C_drewN ?_ _) | (with_reducible refine Kd.C_drew ?_))); (case side3 => exact HC406_0.out); rintro e w12 ⟨v408, rfl, ho0, hb⟩; have n0_ := Aside0.mk (Kd.V_below (by (with_reducible repeat (first | apply Kd.V_alloc | apply Kd.V_drewN | apply Kd.V_drew)); exact HO_6.out) hb); have n1_ := Aside0.mk (Kd.V_lower (Kd.V_mono (ok' := fun k_ => True) ho0 (fun k_ hk_ => trivial)) (below_size (by repeat (first | (with_reducible first | exact HB.out | apply below_alloc | apply pw_below_drewN | apply below_drew1) | exact HB.out)))); have n2_ := Aside0.mk (below_step (by repeat (first | (with_reducible first | exact HB.out | apply below_alloc | apply pw_below_drewN | apply below_drew1) | exact HB.out)) hb); clear HO_6; clear HB; have HO_6 := n0_; have HO409 := n1_; have HB := n2_; clear n0_ n1_ n2_; (try clear hb); (try clear hb2); (try clear hk); (try clear hi); (try clear ho0))))
              go_roundg k1
              case measure => have := HK1.out; omega
              case rel => exact ⟨(t407), (wrap64 (x7_1 + 1)), (by first | rfl | (simp; done) | (simp [*]; done)), H', ⟨by have := HK1.out; omega⟩, ⟨by (with_reducible repeat (first | apply Kd.V_alloc | apply Kd.V_drewN | apply Kd.V_drew)); exact HO409.out⟩, ⟨by repeat (first | (with_reducible first | exact HB.out | apply below_alloc | apply pw_below_drewN | apply below_drew1) | exact HB.out)⟩⟩
          · rw [if_neg c8] at H
            exact absurd H (by simp)
        · rw [if_neg c7] at H
          have c7b0 : decide (x7_1 < (l0.length : Int)) = false := decide_eq_false c7
          clear c7
          have H' := Aside0.mk H
          clear H
          go_wp2
          repeat (go_quiet (fail); try go_wp2)
          go_loopg [6, 8] k1 (fun kq v6 v8 w' => ∃ (x6_2 : List (S29)) (x8_2 : Int), v8 = .int .i64 x8_2 ∧ Aside0 (precentorlaw05_NetGives.l1 kq l0 a1 t404 x6_2 x8_2 = some r) ∧ Aside0 (kq ≤ k1) ∧ Aside0 (Kd.V k29 29 w' w.heap.size (fun _ => True) v6 x6_2) ∧ Aside0 (Below w.heap.size w w'))
          case atStart => exact ⟨(x6_1), (0), (by first | rfl | (simp; done) | (simp [*]; done)), H', ⟨Nat.le_refl _⟩, ⟨by (with_reducible repeat (first | apply Kd.V_alloc | apply Kd.V_drewN | apply Kd.V_drew)); exact HO_6.out⟩, ⟨by repeat (first | (with_reducible first | exact HB.out | apply below_alloc | apply pw_below_drewN | apply below_drew1) | exact HB.out)⟩⟩
          case round =>
            clear H'
            try clear p2
            try clear c4
            try clear c4b0
            try clear c4b1
            try clear p4
            try clear q4
            try clear hx4
            try clear p6
            try clear c7
            try clear c7b0
            try clear c8
            try clear c8b0
            try clear c9
            try clear c9b0
            try clear c9b1
            try clear hx405_0
            try clear hx406_0
            try clear p2
            try clear p405
            try clear p406
            try clear q405
            try clear q406
            obtain ⟨x6_2, x8_2, rfl, HA, HK2, HO_6, HB⟩ := hrel
            cases gk with
            | zero => exact absurd HA.out (by simp [precentorlaw05_NetGives.l1])
            | succ k2 =>
              have H := HA.out
              clear HA
              simp only [precentorlaw05_NetGives.l1] at H
              by_cases c13 : x8_2 < (l0.length : Int)
              · rw [if_pos c13] at H
                have c13b0 : decide (x8_2 < (l0.length : Int)) = true := decide_eq_true c13
                clear c13
                by_cases c14 : a1 = true
                · subst c14
                  have H1 : ((net_Give.f x6_2 (wrap64 ((x6_2.length : Int) - 1))).bind fun bt410 => (if bt410.2.2.2.2 = 0 then (if bt410.1 = (Int.tmod (wrap64 ((wrap64 ((l0.length : Int) - 1)) - x8_2)) 3) then (if 0 ≤ (wrap64 ((wrap64 ((l0.length : Int) - 1)) - x8_2)) then (if (wrap64 ((wrap64 ((l0.length : Int) - 1)) - x8_2)) < (l0.length : Int) then (if (strOfNums bt410.2.1).toList = (strOfNums (rd_L2 l0 (wrap64 ((wrap64 ((l0.length : Int) - 1)) - x8_2)))).toList then (if (bt410.2.2.2.1.length : Int) = (wrap64 ((x6_2.length : Int) - 1)) then (precentorlaw05_NetGives.l1 k2 l0 true t404 bt410.2.2.2.1 (wrap64 (x8_2 + 1))) else (none)) else (none)) else (none)) else (none)) else (none)) else (none))) = some r := by rw [if_pos rfl] at H; exact H
                  clear H
                  have H := H1
                  clear H1
                  replace H := Option.bind_eq_some_iff.mp H
                  obtain ⟨⟨t410, t411, t414, t415, t418⟩, A150, H⟩ := H
                  replace H : (if t418 = 0 then (if t410 = (Int.tmod (wrap64 ((wrap64 ((l0.length : Int) - 1)) - x8_2)) 3) then (if 0 ≤ (wrap64 ((wrap64 ((l0.length : Int) - 1)) - x8_2)) then (if (wrap64 ((wrap64 ((l0.length : Int) - 1)) - x8_2)) < (l0.length : Int) then (if (strOfNums t411).toList = (strOfNums (rd_L2 l0 (wrap64 ((wrap64 ((l0.length : Int) - 1)) - x8_2)))).toList then (if (t415.length : Int) = (wrap64 ((x6_2.length : Int) - 1)) then (precentorlaw05_NetGives.l1 k2 l0 true t404 t415 (wrap64 (x8_2 + 1))) else (none)) else (none)) else (none)) else (none)) else (none)) else (none)) = some r := H
                  have A15 := Aside0.mk A150
                  clear A150
                  by_cases c16 : t418 = 0
                  · rw [if_pos c16] at H
                    have c16b0 : (t418 == 0) = true := beq_iff_eq.mpr c16
                    have c16b1 : (t418 != 0) = false := bne_eq_false_iff_eq.mpr c16
                    clear c16
                    by_cases c17 : t410 = (Int.tmod (wrap64 ((wrap64 ((l0.length : Int) - 1)) - x8_2)) 3)
                    · rw [if_pos c17] at H
                      have c17b0 : (t410 == (Int.tmod (wrap64 ((wrap64 ((l0.length : Int) - 1)) - x8_2)) 3)) = true := beq_iff_eq.mpr c17
                      have c17b1 : (t410 != (Int.tmod (wrap64 ((wrap64 ((l0.length : Int) - 1)) - x8_2)) 3)) = false := bne_eq_false_iff_eq.mpr c17
                      clear c17
                      obtain ⟨ji18, hji18⟩ : ∃ j_ : Int, (wrap64 ((wrap64 ((l0.length : Int) - 1)) - x8_2)) = j_ := ⟨_, rfl⟩
                      replace H : (if 0 ≤ (ji18) then (if (ji18) < (l0.length : Int) then (if (strOfNums t411).toList = (strOfNums (rd_L2 l0 (ji18))).toList then (if (t415.length : Int) = (wrap64 ((x6_2.length : Int) - 1)) then (precentorlaw05_NetGives.l1 k2 l0 true t404 t415 (wrap64 (x8_2 + 1))) else (none)) else (none)) else (none)) else (none)) = some r := by first | (rw [hji18] at H; exact H) | (simp only [hji18] at H ⊢; exact H)
                      (try rw [hji18] at c17b0)
                      (try rw [hji18] at c17b1)
                      (try rw [hji18] at A15)
                      have hji18w : (IntKind.i64.wrap ((wrap64 ((l0.length : Int) - 1)) - x8_2)) = ji18 := (i64_w _).trans hji18
                      by_cases c19 : 0 ≤ (ji18)
                      · rw [if_pos c19] at H
                        have c19b0 : decide (0 ≤ (ji18)) = true := decide_eq_true c19
                        clear c19
                        by_cases c20 : (ji18) < (l0.length : Int)
                        · rw [if_pos c20] at H
                          have c20b0 : decide ((ji18) < (l0.length : Int)) = true := decide_eq_true c20
                          clear c20
                          by_cases c21 : (strOfNums t411).toList = (strOfNums (rd_L2 l0 (ji18))).toList
                          · rw [if_pos c21] at H
                            have c21b0 : ((strOfNums t411).toList == (strOfNums (rd_L2 l0 (ji18))).toList) = true := beq_iff_eq.mpr c21
                            have c21b1 : ((strOfNums t411).toList != (strOfNums (rd_L2 l0 (ji18))).toList) = false := bne_eq_false_iff_eq.mpr c21
                            clear c21
                            by_cases c22 : (t415.length : Int) = (wrap64 ((x6_2.length : Int) - 1))
                            · rw [if_pos c22] at H
                              have c22b0 : ((t415.length : Int) == (wrap64 ((x6_2.length : Int) - 1))) = true := beq_iff_eq.mpr c22
                              have c22b1 : ((t415.length : Int) != (wrap64 ((x6_2.length : Int) - 1))) = false := bne_eq_false_iff_eq.mpr c22
                              clear c22
                              have H' := Aside0.mk H
                              clear H
                              obtain ⟨Ao23, co23, eo23⟩ := Kd.V_slice HO_6.out
                              subst eo23
                              go_wp2_with (first | (go_at_call 11; (with_reducible refine (net_Give.calls (fun k_ => True) _ _ x6_2 (wrap64 ((x6_2.length : Int) - 1)) t410 t411 t414 t415 t418 _ ?side1 A15.out).mono ?_); (case side1 => exact HO_6.out); rintro e w24 ⟨v412, v416, rfl, ho0, ho1, hb⟩; have n0_ := Aside0.mk (Kd.V_below (by (with_reducible repeat (first | apply Kd.V_alloc | apply Kd.V_drewN | apply Kd.V_drew)); exact HO_6.out) hb); have n1_ := Aside0.mk (Kd.V_lower (Kd.V_mono (ok' := fun k_ => True) ho0 (fun k_ hk_ => trivial)) (below_size (by repeat (first | (with_reducible first | exact HB.out | apply below_alloc | apply pw_below_drewN | apply below_drew1) | exact HB.out)))); have n2_ := Aside0.mk (Kd.V_lower (Kd.V_mono (ok' := fun k_ => True) ho1 (fun k_ hk_ => trivial)) (below_size (by repeat (first | (with_reducible first | exact HB.out | apply below_alloc | apply pw_below_drewN | apply below_drew1) | exact HB.out)))); have n3_ := Aside0.mk (below_step (by repeat (first | (with_reducible first | exact HB.out | apply below_alloc | apply pw_below_drewN | apply below_drew1) | exact HB.out)) hb); clear HO_6; clear HB; have HO_6 := n0_; have HO413 := n1_; have HO417 := n2_; have HB := n3_; clear n0_ n1_ n2_ n3_; (try clear hb); (try clear hb2); (try clear hk); (try clear hi); (try clear ho0); (try clear ho1)) | ((with_reducible refine gate_dst (N := 11) rfl ?_); (try (refine gate_guard (by rfl) ?_; dsimp only)); refine box_event ?hg (N := 11) ?hd (cs := #[.int .i64 0, .slice none 0 0, .bool false]) (t := 29) ?hr ?_; (case hd => rfl); (case hg => rfl); (case hr => first | (go_simp; done) | (go_simp; rfl)); intro gb419 hg w25 hbox hb; have n0_ := Aside0.mk (Kd.V_below (Kd.V_elderB (by (with_reducible repeat (first | apply Kd.V_alloc | apply Kd.V_drewN | apply Kd.V_drew)); exact HO_6.out) gb419 (Nat.le_of_eq hg.symm)) hb); have n1_ := Aside0.mk (Kd.V_below (Kd.V_elderB (by (with_reducible repeat (first | apply Kd.V_alloc | apply Kd.V_drewN | apply Kd.V_drew)); exact HO413.out) gb419 (Nat.le_of_eq hg.symm)) hb); have n2_ := Aside0.mk (Kd.V_below (Kd.V_elderB (by (with_reducible repeat (first | apply Kd.V_alloc | apply Kd.V_drewN | apply Kd.V_drew)); exact HO417.out) gb419 (Nat.le_of_eq hg.symm)) hb); have n3_ := Aside0.mk (below_step (by repeat (first | (with_reducible first | exact HB.out | apply below_alloc | apply pw_below_drewN | apply below_drew1) | exact HB.out)) hb); have n4_ := Aside0.mk (hbox); have n5_ := Aside0.mk ((by rw [hg]; exact (below_size (by repeat (first | (with_reducible first | exact HB.out | apply below_alloc | apply pw_below_drewN | apply below_drew1) | exact HB.out))) : w.heap.size ≤ gb419)); have n6_ := Aside0.mk ((by rw [hg]; exact (below_size (by repeat (first | (with_reducible first | exact HB.out | apply below_alloc | apply pw_below_drewN | apply below_drew1) | exact HB.out))) : w.heap.size ≤ gb419)); clear HO_6; clear HO413; clear HO417; clear HB; have HO_6 := n0_; have HO413 := n1_; have HO417 := n2_; have HB := n3_; have BK419 := n4_; have GW419 := n5_; have GE419 := n6_; clear n0_ n1_ n2_ n3_ n4_ n5_ n6_; clear hb hbox hg; have hcz26_0 : w25.cell? ⟨gb419, 0, none⟩ = some (.int .i64 0) := (blk_cell BK419.out 0).trans rfl; have hcz26_1 : w25.cell? ⟨gb419, 1, none⟩ = some (.slice none 0 0) := (blk_cell BK419.out 1).trans rfl; have hcz26_2 : w25.cell? ⟨gb419, 2, none⟩ = some (.bool false) := (blk_cell BK419.out 2).trans rfl; have hfz26_0 := blk_frozen BK419.out 0; have hfz26_1 := blk_frozen BK419.out 1; have hfz26_2 := blk_frozen BK419.out 2; obtain ⟨Ao27, co27, eo27⟩ := Kd.V_slice HO413.out; subst eo27; have hcv28 := (by first | exact own_string (P := Try.prog) Try.underlying23 Try.underlying5 Try.underlying9 (Kd.own_of_R HO413.out) | exact V_string (P := Try.prog) Try.underlying23 Try.underlying5 Try.underlying9 HO413.out); (try have hcv28s := V_string_s (P := Try.prog) Try.underlying23 Try.underlying5 Try.underlying9 HO413.out); (try have hcv28t := V_string_t (P := Try.prog) Try.underlying23 Try.underlying5 Try.underlying9 HO413.out); have hcv28d := (by first | exact own_string_d (P := Try.prog) Try.underlying23 Try.underlying5 Try.underlying9 HO413.out | exact V_string_d (P := Try.prog) Try.underlying23 Try.underlying5 Try.underlying9 HO413.out); have p420 : 0 ≤ ((ji18) : Int) := of_decide_eq_true (by first | (with_reducible assumption) | assumption); have q420 : (ji18) < (l0.length : Int) := of_decide_eq_true (by first | (with_reducible assumption) | assumption); obtain ⟨ad420, A420_0, c420_0, e420, hx420_0, hl420_0, hi420_0⟩ := at_L2 HR0.out (ji18) p420 q420; cases e420; have hn420_0 : ad420.block ≠ gb419 := Nat.ne_of_lt (Nat.lt_of_lt_of_le (by have := World.block_lt_of_cell? _ _ hx420_0; first | rwa [add_block] at this | exact this) GW419.out); have hn420_1 : ad420.block ≠ gb419 := Nat.ne_of_lt (Nat.lt_of_lt_of_le (by have := World.block_lt_of_cell? _ _ hx420_0; first | rwa [add_block] at this | exact this) GW419.out); have hn420_2 : ad420.block ≠ gb419 := Nat.ne_of_lt (Nat.lt_of_lt_of_le (by have := World.block_lt_of_cell? _ _ hx420_0; first | rwa [add_block] at this | exact this) GW419.out); replace hx420_0 := (HB.out.cell (World.block_lt_of_cell? w _ hx420_0)).trans hx420_0; have HR420_0 := Aside0.mk hi420_0; have HC420_0 := Aside0.mk hl420_0; clear hi420_0 hl420_0; replace hx420_0 := (cell_far (p := ⟨gb419, 0, none⟩) (by first | (rw [add_block]; exact hn420_0) | (show (Addr.add _ _).block ≠ _; rw [add_block]; exact hn420_0) | exact hn420_0) (.int .i64 t410)).trans hx420_0; replace hx420_0 := (cell_far (p := ⟨gb419, 1, none⟩) (by first | (rw [add_block]; exact hn420_1) | (show (Addr.add _ _).block ≠ _; rw [add_block]; exact hn420_1) | exact hn420_1) (.slice Ao27 t411.length co27)).trans hx420_0; replace hx420_0 := (cell_far (p := ⟨gb419, 2, none⟩) (by first | (rw [add_block]; exact hn420_2) | (show (Addr.add _ _).block ≠ _; rw [add_block]; exact hn420_2) | exact hn420_2) (.bool t414)).trans hx420_0; (try have hy420_0 := fun (n_ : Nat) => (show (((((w25.drewN n_).setCell ⟨gb419, 0, none⟩ (.int .i64 t410)).setCell ⟨gb419, 1, none⟩ (.slice Ao27 t411.length co27)).setCell ⟨gb419, 2, none⟩ (.bool t414))).cell? _ = some _ from hx420_0)); clear hn420_0; clear hn420_1; clear hn420_2; replace p420 := eq_true p420; replace q420 := eq_true q420; have hcv29 := Kd.C_string (P := Try.prog) (A := A420_0) (c := c420_0) Try.underlying23 Try.underlying5 Try.underlying9 (Kd.C_below HR420_0.out HB.out); (try have hcv29s := C_string_s (P := Try.prog) (A := A420_0) (c := c420_0) Try.underlying23 Try.underlying5 Try.underlying9 HR420_0.out HB.out GW419.out); (try have hcv29t := C_string_t (P := Try.prog) (A := A420_0) (c := c420_0) Try.underlying23 Try.underlying5 Try.underlying9 HR420_0.out HB.out GW419.out); obtain ⟨Ao30, co30, eo30⟩ := Kd.V_slice HO417.out; subst eo30))
                              repeat (go_quiet (first | (go_at_call 11; (with_reducible refine (net_Give.calls (fun k_ => True) _ _ x6_2 (wrap64 ((x6_2.length : Int) - 1)) t410 t411 t414 t415 t418 _ ?side1 A15.out).mono ?_); (case side1 => exact HO_6.out); rintro e w24 ⟨v412, v416, rfl, ho0, ho1, hb⟩; have n0_ := Aside0.mk (Kd.V_below (by (with_reducible repeat (first | apply Kd.V_alloc | apply Kd.V_drewN | apply Kd.V_drew)); exact HO_6.out) hb); have n1_ := Aside0.mk (Kd.V_lower (Kd.V_mono (ok' := fun k_ => True) ho0 (fun k_ hk_ => trivial)) (below_size (by repeat (first | (with_reducible first | exact HB.out | apply below_alloc | apply pw_below_drewN | apply below_drew1) | exact HB.out)))); have n2_ := Aside0.mk (Kd.V_lower (Kd.V_mono (ok' := fun k_ => True) ho1 (fun k_ hk_ => trivial)) (below_size (by repeat (first | (with_reducible first | exact HB.out | apply below_alloc | apply pw_below_drewN | apply below_drew1) | exact HB.out)))); have n3_ := Aside0.mk (below_step (by repeat (first | (with_reducible first | exact HB.out | apply below_alloc | apply pw_below_drewN | apply below_drew1) | exact HB.out)) hb); clear HO_6; clear HB; have HO_6 := n0_; have HO413 := n1_; have HO417 := n2_; have HB := n3_; clear n0_ n1_ n2_ n3_; (try clear hb); (try clear hb2); (try clear hk); (try clear hi); (try clear ho0); (try clear ho1)) | ((with_reducible refine gate_dst (N := 11) rfl ?_); (try (refine gate_guard (by rfl) ?_; dsimp only)); refine box_event ?hg (N := 11) ?hd (cs := #[.int .i64 0, .slice none 0 0, .bool false]) (t := 29) ?hr ?_; (case hd => rfl); (case hg => rfl); (case hr => first | (go_simp; done) | (go_simp; rfl)); intro gb419 hg w25 hbox hb; have n0_ := Aside0.mk (Kd.V_below (Kd.V_elderB (by (with_reducible repeat (first | apply Kd.V_alloc | apply Kd.V_drewN | apply Kd.V_drew)); exact HO_6.out) gb419 (Nat.le_of_eq hg.symm)) hb); have n1_ := Aside0.mk (Kd.V_below (Kd.V_elderB (by (with_reducible repeat (first | apply Kd.V_alloc | apply Kd.V_drewN | apply Kd.V_drew)); exact HO413.out) gb419 (Nat.le_of_eq hg.symm)) hb); have n2_ := Aside0.mk (Kd.V_below (Kd.V_elderB (by (with_reducible repeat (first | apply Kd.V_alloc | apply Kd.V_drewN | apply Kd.V_drew)); exact HO417.out) gb419 (Nat.le_of_eq hg.symm)) hb); have n3_ := Aside0.mk (below_step (by repeat (first | (with_reducible first | exact HB.out | apply below_alloc | apply pw_below_drewN | apply below_drew1) | exact HB.out)) hb); have n4_ := Aside0.mk (hbox); have n5_ := Aside0.mk ((by rw [hg]; exact (below_size (by repeat (first | (with_reducible first | exact HB.out | apply below_alloc | apply pw_below_drewN | apply below_drew1) | exact HB.out))) : w.heap.size ≤ gb419)); have n6_ := Aside0.mk ((by rw [hg]; exact (below_size (by repeat (first | (with_reducible first | exact HB.out | apply below_alloc | apply pw_below_drewN | apply below_drew1) | exact HB.out))) : w.heap.size ≤ gb419)); clear HO_6; clear HO413; clear HO417; clear HB; have HO_6 := n0_; have HO413 := n1_; have HO417 := n2_; have HB := n3_; have BK419 := n4_; have GW419 := n5_; have GE419 := n6_; clear n0_ n1_ n2_ n3_ n4_ n5_ n6_; clear hb hbox hg; have hcz26_0 : w25.cell? ⟨gb419, 0, none⟩ = some (.int .i64 0) := (blk_cell BK419.out 0).trans rfl; have hcz26_1 : w25.cell? ⟨gb419, 1, none⟩ = some (.slice none 0 0) := (blk_cell BK419.out 1).trans rfl; have hcz26_2 : w25.cell? ⟨gb419, 2, none⟩ = some (.bool false) := (blk_cell BK419.out 2).trans rfl; have hfz26_0 := blk_frozen BK419.out 0; have hfz26_1 := blk_frozen BK419.out 1; have hfz26_2 := blk_frozen BK419.out 2; obtain ⟨Ao27, co27, eo27⟩ := Kd.V_slice HO413.out; subst eo27; have hcv28 := (by first | exact own_string (P := Try.prog) Try.underlying23 Try.underlying5 Try.underlying9 (Kd.own_of_R HO413.out) | exact V_string (P := Try.prog) Try.underlying23 Try.underlying5 Try.underlying9 HO413.out); (try have hcv28s := V_string_s (P := Try.prog) Try.underlying23 Try.underlying5 Try.underlying9 HO413.out); (try have hcv28t := V_string_t (P := Try.prog) Try.underlying23 Try.underlying5 Try.underlying9 HO413.out); have hcv28d := (by first | exact own_string_d (P := Try.prog) Try.underlying23 Try.underlying5 Try.underlying9 HO413.out | exact V_string_d (P := Try.prog) Try.underlying23 Try.underlying5 Try.underlying9 HO413.out); have p420 : 0 ≤ ((ji18) : Int) := of_decide_eq_true (by first | (with_reducible assumption) | assumption); have q420 : (ji18) < (l0.length : Int) := of_decide_eq_true (by first | (with_reducible assumption) | assumption); obtain ⟨ad420, A420_0, c420_0, e420, hx420_0, hl420_0, hi420_0⟩ := at_L2 HR0.out (ji18) p420 q420; cases e420; have hn420_0 : ad420.block ≠ gb419 := Nat.ne_of_lt (Nat.lt_of_lt_of_le (by have := World.block_lt_of_cell? _ _ hx420_0; first | rwa [add_block] at this | exact this) GW419.out); have hn420_1 : ad420.block ≠ gb419 := Nat.ne_of_lt (Nat.lt_of_lt_of_le (by have := World.block_lt_of_cell? _ _ hx420_0; first | rwa [add_block] at this | exact this) GW419.out); have hn420_2 : ad420.block ≠ gb419 := Nat.ne_of_lt (Nat.lt_of_lt_of_le (by have := World.block_lt_of_cell? _ _ hx420_0; first | rwa [add_block] at this | exact this) GW419.out); replace hx420_0 := (HB.out.cell (World.block_lt_of_cell? w _ hx420_0)).trans hx420_0; have HR420_0 := Aside0.mk hi420_0; have HC420_0 := Aside0.mk hl420_0; clear hi420_0 hl420_0; replace hx420_0 := (cell_far (p := ⟨gb419, 0, none⟩) (by first | (rw [add_block]; exact hn420_0) | (show (Addr.add _ _).block ≠ _; rw [add_block]; exact hn420_0) | exact hn420_0) (.int .i64 t410)).trans hx420_0; replace hx420_0 := (cell_far (p := ⟨gb419, 1, none⟩) (by first | (rw [add_block]; exact hn420_1) | (show (Addr.add _ _).block ≠ _; rw [add_block]; exact hn420_1) | exact hn420_1) (.slice Ao27 t411.length co27)).trans hx420_0; replace hx420_0 := (cell_far (p := ⟨gb419, 2, none⟩) (by first | (rw [add_block]; exact hn420_2) | (show (Addr.add _ _).block ≠ _; rw [add_block]; exact hn420_2) | exact hn420_2) (.bool t414)).trans hx420_0; (try have hy420_0 := fun (n_ : Nat) => (show (((((w25.drewN n_).setCell ⟨gb419, 0, none⟩ (.int .i64 t410)).setCell ⟨gb419, 1, none⟩ (.slice Ao27 t411.length co27)).setCell ⟨gb419, 2, none⟩ (.bool t414))).cell? _ = some _ from hx420_0)); clear hn420_0; clear hn420_1; clear hn420_2; replace p420 := eq_true p420; replace q420 := eq_true q420; have hcv29 := Kd.C_string (P := Try.prog) (A := A420_0) (c := c420_0) Try.underlying23 Try.underlying5 Try.underlying9 (Kd.C_below HR420_0.out HB.out); (try have hcv29s := C_string_s (P := Try.prog) (A := A420_0) (c := c420_0) Try.underlying23 Try.underlying5 Try.underlying9 HR420_0.out HB.out GW419.out); (try have hcv29t := C_string_t (P := Try.prog) (A := A420_0) (c := c420_0) Try.underlying23 Try.underlying5 Try.underlying9 HR420_0.out HB.out GW419.out); obtain ⟨Ao30, co30, eo30⟩ := Kd.V_slice HO417.out; subst eo30)); try go_wp2_with (first | (go_at_call 11; (with_reducible refine (net_Give.calls (fun k_ => True) _ _ x6_2 (wrap64 ((x6_2.length : Int) - 1)) t410 t411 t414 t415 t418 _ ?side1 A15.out).mono ?_); (case side1 => exact HO_6.out); rintro e w24 ⟨v412, v416, rfl, ho0, ho1, hb⟩; have n0_ := Aside0.mk (Kd.V_below (by (with_reducible repeat (first | apply Kd.V_alloc | apply Kd.V_drewN | apply Kd.V_drew)); exact HO_6.out) hb); have n1_ := Aside0.mk (Kd.V_lower (Kd.V_mono (ok' := fun k_ => True) ho0 (fun k_ hk_ => trivial)) (below_size (by repeat (first | (with_reducible first | exact HB.out | apply below_alloc | apply pw_below_drewN | apply below_drew1) | exact HB.out)))); have n2_ := Aside0.mk (Kd.V_lower (Kd.V_mono (ok' := fun k_ => True) ho1 (fun k_ hk_ => trivial)) (below_size (by repeat (first | (with_reducible first | exact HB.out | apply below_alloc | apply pw_below_drewN | apply below_drew1) | exact HB.out)))); have n3_ := Aside0.mk (below_step (by repeat (first | (with_reducible first | exact HB.out | apply below_alloc | apply pw_below_drewN | apply below_drew1) | exact HB.out)) hb); clear HO_6; clear HB; have HO_6 := n0_; have HO413 := n1_; have HO417 := n2_; have HB := n3_; clear n0_ n1_ n2_ n3_; (try clear hb); (try clear hb2); (try clear hk); (try clear hi); (try clear ho0); (try clear ho1)) | ((with_reducible refine gate_dst (N := 11) rfl ?_); (try (refine gate_guard (by rfl) ?_; dsimp only)); refine box_event ?hg (N := 11) ?hd (cs := #[.int .i64 0, .slice none 0 0, .bool false]) (t := 29) ?hr ?_; (case hd => rfl); (case hg => rfl); (case hr => first | (go_simp; done) | (go_simp; rfl)); intro gb419 hg w25 hbox hb; have n0_ := Aside0.mk (Kd.V_below (Kd.V_elderB (by (with_reducible repeat (first | apply Kd.V_alloc | apply Kd.V_drewN | apply Kd.V_drew)); exact HO_6.out) gb419 (Nat.le_of_eq hg.symm)) hb); have n1_ := Aside0.mk (Kd.V_below (Kd.V_elderB (by (with_reducible repeat (first | apply Kd.V_alloc | apply Kd.V_drewN | apply Kd.V_drew)); exact HO413.out) gb419 (Nat.le_of_eq hg.symm)) hb); have n2_ := Aside0.mk (Kd.V_below (Kd.V_elderB (by (with_reducible repeat (first | apply Kd.V_alloc | apply Kd.V_drewN | apply Kd.V_drew)); exact HO417.out) gb419 (Nat.le_of_eq hg.symm)) hb); have n3_ := Aside0.mk (below_step (by repeat (first | (with_reducible first | exact HB.out | apply below_alloc | apply pw_below_drewN | apply below_drew1) | exact HB.out)) hb); have n4_ := Aside0.mk (hbox); have n5_ := Aside0.mk ((by rw [hg]; exact (below_size (by repeat (first | (with_reducible first | exact HB.out | apply below_alloc | apply pw_below_drewN | apply below_drew1) | exact HB.out))) : w.heap.size ≤ gb419)); have n6_ := Aside0.mk ((by rw [hg]; exact (below_size (by repeat (first | (with_reducible first | exact HB.out | apply below_alloc | apply pw_below_drewN | apply below_drew1) | exact HB.out))) : w.heap.size ≤ gb419)); clear HO_6; clear HO413; clear HO417; clear HB; have HO_6 := n0_; have HO413 := n1_; have HO417 := n2_; have HB := n3_; have BK419 := n4_; have GW419 := n5_; have GE419 := n6_; clear n0_ n1_ n2_ n3_ n4_ n5_ n6_; clear hb hbox hg; have hcz26_0 : w25.cell? ⟨gb419, 0, none⟩ = some (.int .i64 0) := (blk_cell BK419.out 0).trans rfl; have hcz26_1 : w25.cell? ⟨gb419, 1, none⟩ = some (.slice none 0 0) := (blk_cell BK419.out 1).trans rfl; have hcz26_2 : w25.cell? ⟨gb419, 2, none⟩ = some (.bool false) := (blk_cell BK419.out 2).trans rfl; have hfz26_0 := blk_frozen BK419.out 0; have hfz26_1 := blk_frozen BK419.out 1; have hfz26_2 := blk_frozen BK419.out 2; obtain ⟨Ao27, co27, eo27⟩ := Kd.V_slice HO413.out; subst eo27; have hcv28 := (by first | exact own_string (P := Try.prog) Try.underlying23 Try.underlying5 Try.underlying9 (Kd.own_of_R HO413.out) | exact V_string (P := Try.prog) Try.underlying23 Try.underlying5 Try.underlying9 HO413.out); (try have hcv28s := V_string_s (P := Try.prog) Try.underlying23 Try.underlying5 Try.underlying9 HO413.out); (try have hcv28t := V_string_t (P := Try.prog) Try.underlying23 Try.underlying5 Try.underlying9 HO413.out); have hcv28d := (by first | exact own_string_d (P := Try.prog) Try.underlying23 Try.underlying5 Try.underlying9 HO413.out | exact V_string_d (P := Try.prog) Try.underlying23 Try.underlying5 Try.underlying9 HO413.out); have p420 : 0 ≤ ((ji18) : Int) := of_decide_eq_true (by first | (with_reducible assumption) | assumption); have q420 : (ji18) < (l0.length : Int) := of_decide_eq_true (by first | (with_reducible assumption) | assumption); obtain ⟨ad420, A420_0, c420_0, e420, hx420_0, hl420_0, hi420_0⟩ := at_L2 HR0.out (ji18) p420 q420; cases e420; have hn420_0 : ad420.block ≠ gb419 := Nat.ne_of_lt (Nat.lt_of_lt_of_le (by have := World.block_lt_of_cell? _ _ hx420_0; first | rwa [add_block] at this | exact this) GW419.out); have hn420_1 : ad420.block ≠ gb419 := Nat.ne_of_lt (Nat.lt_of_lt_of_le (by have := World.block_lt_of_cell? _ _ hx420_0; first | rwa [add_block] at this | exact this) GW419.out); have hn420_2 : ad420.block ≠ gb419 := Nat.ne_of_lt (Nat.lt_of_lt_of_le (by have := World.block_lt_of_cell? _ _ hx420_0; first | rwa [add_block] at this | exact this) GW419.out); replace hx420_0 := (HB.out.cell (World.block_lt_of_cell? w _ hx420_0)).trans hx420_0; have HR420_0 := Aside0.mk hi420_0; have HC420_0 := Aside0.mk hl420_0; clear hi420_0 hl420_0; replace hx420_0 := (cell_far (p := ⟨gb419, 0, none⟩) (by first | (rw [add_block]; exact hn420_0) | (show (Addr.add _ _).block ≠ _; rw [add_block]; exact hn420_0) | exact hn420_0) (.int .i64 t410)).trans hx420_0; replace hx420_0 := (cell_far (p := ⟨gb419, 1, none⟩) (by first | (rw [add_block]; exact hn420_1) | (show (Addr.add _ _).block ≠ _; rw [add_block]; exact hn420_1) | exact hn420_1) (.slice Ao27 t411.length co27)).trans hx420_0; replace hx420_0 := (cell_far (p := ⟨gb419, 2, none⟩) (by first | (rw [add_block]; exact hn420_2) | (show (Addr.add _ _).block ≠ _; rw [add_block]; exact hn420_2) | exact hn420_2) (.bool t414)).trans hx420_0; (try have hy420_0 := fun (n_ : Nat) => (show (((((w25.drewN n_).setCell ⟨gb419, 0, none⟩ (.int .i64 t410)).setCell ⟨gb419, 1, none⟩ (.slice Ao27 t411.length co27)).setCell ⟨gb419, 2, none⟩ (.bool t414))).cell? _ = some _ from hx420_0)); clear hn420_0; clear hn420_1; clear hn420_2; replace p420 := eq_true p420; replace q420 := eq_true q420; have hcv29 := Kd.C_string (P := Try.prog) (A := A420_0) (c := c420_0) Try.underlying23 Try.underlying5 Try.underlying9 (Kd.C_below HR420_0.out HB.out); (try have hcv29s := C_string_s (P := Try.prog) (A := A420_0) (c := c420_0) Try.underlying23 Try.underlying5 Try.underlying9 HR420_0.out HB.out GW419.out); (try have hcv29t := C_string_t (P := Try.prog) (A := A420_0) (c := c420_0) Try.underlying23 Try.underlying5 Try.underlying9 HR420_0.out HB.out GW419.out); obtain ⟨Ao30, co30, eo30⟩ := Kd.V_slice HO417.out; subst eo30)))
                              (try subst hji18)
                              go_roundg k2
                              case measure => have := HK1.out; have := HK2.out; omega
                              case rel => exact ⟨(t415), (wrap64 (x8_2 + 1)), (by first | rfl | (simp; done) | (simp [*]; done)), H', ⟨by have := HK1.out; have := HK2.out; omega⟩, ⟨by (with_reducible repeat (first | apply Kd.V_alloc | apply Kd.V_drewN | apply Kd.V_drew)); exact Kd.V_mono (Kd.V_far (p := ⟨gb419, 2, none⟩) (Kd.V_far (p := ⟨gb419, 1, none⟩) (Kd.V_far (p := ⟨gb419, 0, none⟩) (Kd.V_mono HO417.out (fun k_ hk => (⟨hk, hk.2⟩ : _ ∧ k_ ≠ gb419))) (fun _ hk => hk.2) (.int .i64 t410)) (fun _ hk => hk.2) (.slice Ao27 t411.length co27)) (fun _ hk => hk.2) (.bool t414)) (fun _ hk => trivial)⟩, ⟨by repeat (first | (with_reducible first | exact HB.out | apply below_alloc | apply pw_below_drewN | apply below_drew1 | refine below_set ?_ GE419.out) | exact HB.out)⟩⟩
                            · rw [if_neg c22] at H
                              exact absurd H (by simp)
                          · rw [if_neg c21] at H
                            exact absurd H (by simp)
                        · rw [if_neg c20] at H
                          exact absurd H (by simp)
                      · rw [if_neg c19] at H
                        exact absurd H (by simp)
                    · rw [if_neg c17] at H
                      exact absurd H (by simp)
                  · rw [if_neg c16] at H
                    exact absurd H (by simp)
                · replace c14 := Bool.eq_false_iff.mpr c14
                  subst c14
                  have H1 : ((net_Give.f x6_2 0).bind fun bt421 => (if bt421.2.2.2.2 = 0 then (if bt421.1 = (Int.tmod x8_2 3) then (if 0 ≤ x8_2 then (if (strOfNums bt421.2.1).toList = (strOfNums (rd_L2 l0 x8_2)).toList then (if (bt421.2.2.2.1.length : Int) = (wrap64 ((x6_2.length : Int) - 1)) then (precentorlaw05_NetGives.l1 k2 l0 false t404 bt421.2.2.2.1 (wrap64 (x8_2 + 1))) else (none)) else (none)) else (none)) else (none)) else (none))) = some r := by rw [if_neg (show ¬ (false = true) by decide)] at H; exact H
                  clear H
                  have H := H1
                  clear H1
                  replace H := Option.bind_eq_some_iff.mp H
                  obtain ⟨⟨t421, t422, t425, t426, t429⟩, A310, H⟩ := H
                  replace H : (if t429 = 0 then (if t421 = (Int.tmod x8_2 3) then (if 0 ≤ x8_2 then (if (strOfNums t422).toList = (strOfNums (rd_L2 l0 x8_2)).toList then (if (t426.length : Int) = (wrap64 ((x6_2.length : Int) - 1)) then (precentorlaw05_NetGives.l1 k2 l0 false t404 t426 (wrap64 (x8_2 + 1))) else (none)) else (none)) else (none)) else (none)) else (none)) = some r := H
                  have A31 := Aside0.mk A310
                  clear A310
                  by_cases c32 : t429 = 0
                  · rw [if_pos c32] at H
                    have c32b0 : (t429 == 0) = true := beq_iff_eq.mpr c32
                    have c32b1 : (t429 != 0) = false := bne_eq_false_iff_eq.mpr c32
                    clear c32
                    by_cases c33 : t421 = (Int.tmod x8_2 3)
                    · rw [if_pos c33] at H
                      have c33b0 : (t421 == (Int.tmod x8_2 3)) = true := beq_iff_eq.mpr c33
                      have c33b1 : (t421 != (Int.tmod x8_2 3)) = false := bne_eq_false_iff_eq.mpr c33
                      clear c33
                      by_cases c34 : 0 ≤ x8_2
                      · rw [if_pos c34] at H
                        have c34b0 : decide (0 ≤ x8_2) = true := decide_eq_true c34
                        clear c34
                        by_cases c35 : (strOfNums t422).toList = (strOfNums (rd_L2 l0 x8_2)).toList
                        · rw [if_pos c35] at H
                          have c35b0 : ((strOfNums t422).toList == (strOfNums (rd_L2 l0 x8_2)).toList) = true := beq_iff_eq.mpr c35
                          have c35b1 : ((strOfNums t422).toList != (strOfNums (rd_L2 l0 x8_2)).toList) = false := bne_eq_false_iff_eq.mpr c35
                          clear c35
                          by_cases c36 : (t426.length : Int) = (wrap64 ((x6_2.length : Int) - 1))
                          · rw [if_pos c36] at H
                            have c36b0 : ((t426.length : Int) == (wrap64 ((x6_2.length : Int) - 1))) = true := beq_iff_eq.mpr c36
                            have c36b1 : ((t426.length : Int) != (wrap64 ((x6_2.length : Int) - 1))) = false := bne_eq_false_iff_eq.mpr c36
                            clear c36
                            have H' := Aside0.mk H
                            clear H
                            obtain ⟨Ao37, co37, eo37⟩ := Kd.V_slice HO_6.out
                            subst eo37
                            go_wp2_with (first | (go_at_call 11; (with_reducible refine (net_Give.calls (fun k_ => True) _ _ x6_2 0 t421 t422 t425 t426 t429 _ ?side1 A31.out).mono ?_); (case side1 => exact HO_6.out); rintro e w38 ⟨v423, v427, rfl, ho0, ho1, hb⟩; have n0_ := Aside0.mk (Kd.V_below (by (with_reducible repeat (first | apply Kd.V_alloc | apply Kd.V_drewN | apply Kd.V_drew)); exact HO_6.out) hb); have n1_ := Aside0.mk (Kd.V_lower (Kd.V_mono (ok' := fun k_ => True) ho0 (fun k_ hk_ => trivial)) (below_size (by repeat (first | (with_reducible first | exact HB.out | apply below_alloc | apply pw_below_drewN | apply below_drew1) | exact HB.out)))); have n2_ := Aside0.mk (Kd.V_lower (Kd.V_mono (ok' := fun k_ => True) ho1 (fun k_ hk_ => trivial)) (below_size (by repeat (first | (with_reducible first | exact HB.out | apply below_alloc | apply pw_below_drewN | apply below_drew1) | exact HB.out)))); have n3_ := Aside0.mk (below_step (by repeat (first | (with_reducible first | exact HB.out | apply below_alloc | apply pw_below_drewN | apply below_drew1) | exact HB.out)) hb); clear HO_6; clear HB; have HO_6 := n0_; have HO424 := n1_; have HO428 := n2_; have HB := n3_; clear n0_ n1_ n2_ n3_; (try clear hb); (try clear hb2); (try clear hk); (try clear hi); (try clear ho0); (try clear ho1)) | ((with_reducible refine gate_dst (N := 11) rfl ?_); (try (refine gate_guard (by rfl) ?_; dsimp only)); refine box_event ?hg (N := 11) ?hd (cs := #[.int .i64 0, .slice none 0 0, .bool false]) (t := 29) ?hr ?_; (case hd => rfl); (case hg => rfl); (case hr => first | (go_simp; done) | (go_simp; rfl)); intro gb430 hg w39 hbox hb; have n0_ := Aside0.mk (Kd.V_below (Kd.V_elderB (by (with_reducible repeat (first | apply Kd.V_alloc | apply Kd.V_drewN | apply Kd.V_drew)); exact HO_6.out) gb430 (Nat.le_of_eq hg.symm)) hb); have n1_ := Aside0.mk (Kd.V_below (Kd.V_elderB (by (with_reducible repeat (first | apply Kd.V_alloc | apply Kd.V_drewN | apply Kd.V_drew)); exact HO424.out) gb430 (Nat.le_of_eq hg.symm)) hb); have n2_ := Aside0.mk (Kd.V_below (Kd.V_elderB (by (with_reducible repeat (first | apply Kd.V_alloc | apply Kd.V_drewN | apply Kd.V_drew)); exact HO428.out) gb430 (Nat.le_of_eq hg.symm)) hb); have n3_ := Aside0.mk (below_step (by repeat (first | (with_reducible first | exact HB.out | apply below_alloc | apply pw_below_drewN | apply below_drew1) | exact HB.out)) hb); have n4_ := Aside0.mk (hbox); have n5_ := Aside0.mk ((by rw [hg]; exact (below_size (by repeat (first | (with_reducible first | exact HB.out | apply below_alloc | apply pw_below_drewN | apply below_drew1) | exact HB.out))) : w.heap.size ≤ gb430)); have n6_ := Aside0.mk ((by rw [hg]; exact (below_size (by repeat (first | (with_reducible first | exact HB.out | apply below_alloc | apply pw_below_drewN | apply below_drew1) | exact HB.out))) : w.heap.size ≤ gb430)); clear HO_6; clear HO424; clear HO428; clear HB; have HO_6 := n0_; have HO424 := n1_; have HO428 := n2_; have HB := n3_; have BK430 := n4_; have GW430 := n5_; have GE430 := n6_; clear n0_ n1_ n2_ n3_ n4_ n5_ n6_; clear hb hbox hg; have hcz40_0 : w39.cell? ⟨gb430, 0, none⟩ = some (.int .i64 0) := (blk_cell BK430.out 0).trans rfl; have hcz40_1 : w39.cell? ⟨gb430, 1, none⟩ = some (.slice none 0 0) := (blk_cell BK430.out 1).trans rfl; have hcz40_2 : w39.cell? ⟨gb430, 2, none⟩ = some (.bool false) := (blk_cell BK430.out 2).trans rfl; have hfz40_0 := blk_frozen BK430.out 0; have hfz40_1 := blk_frozen BK430.out 1; have hfz40_2 := blk_frozen BK430.out 2; obtain ⟨Ao41, co41, eo41⟩ := Kd.V_slice HO424.out; subst eo41; have hcv42 := (by first | exact own_string (P := Try.prog) Try.underlying23 Try.underlying5 Try.underlying9 (Kd.own_of_R HO424.out) | exact V_string (P := Try.prog) Try.underlying23 Try.underlying5 Try.underlying9 HO424.out); (try have hcv42s := V_string_s (P := Try.prog) Try.underlying23 Try.underlying5 Try.underlying9 HO424.out); (try have hcv42t := V_string_t (P := Try.prog) Try.underlying23 Try.underlying5 Try.underlying9 HO424.out); have hcv42d := (by first | exact own_string_d (P := Try.prog) Try.underlying23 Try.underlying5 Try.underlying9 HO424.out | exact V_string_d (P := Try.prog) Try.underlying23 Try.underlying5 Try.underlying9 HO424.out); have p431 : 0 ≤ (x8_2 : Int) := of_decide_eq_true (by first | (with_reducible assumption) | assumption); have q431 : x8_2 < (l0.length : Int) := of_decide_eq_true (by first | (with_reducible assumption) | assumption); obtain ⟨ad431, A431_0, c431_0, e431, hx431_0, hl431_0, hi431_0⟩ := at_L2 HR0.out x8_2 p431 q431; cases e431; have hn431_0 : ad431.block ≠ gb430 := Nat.ne_of_lt (Nat.lt_of_lt_of_le (by have := World.block_lt_of_cell? _ _ hx431_0; first | rwa [add_block] at this | exact this) GW430.out); have hn431_1 : ad431.block ≠ gb430 := Nat.ne_of_lt (Nat.lt_of_lt_of_le (by have := World.block_lt_of_cell? _ _ hx431_0; first | rwa [add_block] at this | exact this) GW430.out); have hn431_2 : ad431.block ≠ gb430 := Nat.ne_of_lt (Nat.lt_of_lt_of_le (by have := World.block_lt_of_cell? _ _ hx431_0; first | rwa [add_block] at this | exact this) GW430.out); replace hx431_0 := (HB.out.cell (World.block_lt_of_cell? w _ hx431_0)).trans hx431_0; have HR431_0 := Aside0.mk hi431_0; have HC431_0 := Aside0.mk hl431_0; clear hi431_0 hl431_0; replace hx431_0 := (cell_far (p := ⟨gb430, 0, none⟩) (by first | (rw [add_block]; exact hn431_0) | (show (Addr.add _ _).block ≠ _; rw [add_block]; exact hn431_0) | exact hn431_0) (.int .i64 t421)).trans hx431_0; replace hx431_0 := (cell_far (p := ⟨gb430, 1, none⟩) (by first | (rw [add_block]; exact hn431_1) | (show (Addr.add _ _).block ≠ _; rw [add_block]; exact hn431_1) | exact hn431_1) (.slice Ao41 t422.length co41)).trans hx431_0; replace hx431_0 := (cell_far (p := ⟨gb430, 2, none⟩) (by first | (rw [add_block]; exact hn431_2) | (show (Addr.add _ _).block ≠ _; rw [add_block]; exact hn431_2) | exact hn431_2) (.bool t425)).trans hx431_0; (try have hy431_0 := fun (n_ : Nat) => (show (((((w39.drewN n_).setCell ⟨gb430, 0, none⟩ (.int .i64 t421)).setCell ⟨gb430, 1, none⟩ (.slice Ao41 t422.length co41)).setCell ⟨gb430, 2, none⟩ (.bool t425))).cell? _ = some _ from hx431_0)); clear hn431_0; clear hn431_1; clear hn431_2; replace p431 := eq_true p431; replace q431 := eq_true q431; have hcv43 := Kd.C_string (P := Try.prog) (A := A431_0) (c := c431_0) Try.underlying23 Try.underlying5 Try.underlying9 (Kd.C_below HR431_0.out HB.out); (try have hcv43s := C_string_s (P := Try.prog) (A := A431_0) (c := c431_0) Try.underlying23 Try.underlying5 Try.underlying9 HR431_0.out HB.out GW430.out); (try have hcv43t := C_string_t (P := Try.prog) (A := A431_0) (c := c431_0) Try.underlying23 Try.underlying5 Try.underlying9 HR431_0.out HB.out GW430.out); obtain ⟨Ao44, co44, eo44⟩ := Kd.V_slice HO428.out; subst eo44))
                            repeat (go_quiet (first | (go_at_call 11; (with_reducible refine (net_Give.calls (fun k_ => True) _ _ x6_2 0 t421 t422 t425 t426 t429 _ ?side1 A31.out).mono ?_); (case side1 => exact HO_6.out); rintro e w38 ⟨v423, v427, rfl, ho0, ho1, hb⟩; have n0_ := Aside0.mk (Kd.V_below (by (with_reducible repeat (first | apply Kd.V_alloc | apply Kd.V_drewN | apply Kd.V_drew)); exact HO_6.out) hb); have n1_ := Aside0.mk (Kd.V_lower (Kd.V_mono (ok' := fun k_ => True) ho0 (fun k_ hk_ => trivial)) (below_size (by repeat (first | (with_reducible first | exact HB.out | apply below_alloc | apply pw_below_drewN | apply below_drew1) | exact HB.out)))); have n2_ := Aside0.mk (Kd.V_lower (Kd.V_mono (ok' := fun k_ => True) ho1 (fun k_ hk_ => trivial)) (below_size (by repeat (first | (with_reducible first | exact HB.out | apply below_alloc | apply pw_below_drewN | apply below_drew1) | exact HB.out)))); have n3_ := Aside0.mk (below_step (by repeat (first | (with_reducible first | exact HB.out | apply below_alloc | apply pw_below_drewN | apply below_drew1) | exact HB.out)) hb); clear HO_6; clear HB; have HO_6 := n0_; have HO424 := n1_; have HO428 := n2_; have HB := n3_; clear n0_ n1_ n2_ n3_; (try clear hb); (try clear hb2); (try clear hk); (try clear hi); (try clear ho0); (try clear ho1)) | ((with_reducible refine gate_dst (N := 11) rfl ?_); (try (refine gate_guard (by rfl) ?_; dsimp only)); refine box_event ?hg (N := 11) ?hd (cs := #[.int .i64 0, .slice none 0 0, .bool false]) (t := 29) ?hr ?_; (case hd => rfl); (case hg => rfl); (case hr => first | (go_simp; done) | (go_simp; rfl)); intro gb430 hg w39 hbox hb; have n0_ := Aside0.mk (Kd.V_below (Kd.V_elderB (by (with_reducible repeat (first | apply Kd.V_alloc | apply Kd.V_drewN | apply Kd.V_drew)); exact HO_6.out) gb430 (Nat.le_of_eq hg.symm)) hb); have n1_ := Aside0.mk (Kd.V_below (Kd.V_elderB (by (with_reducible repeat (first | apply Kd.V_alloc | apply Kd.V_drewN | apply Kd.V_drew)); exact HO424.out) gb430 (Nat.le_of_eq hg.symm)) hb); have n2_ := Aside0.mk (Kd.V_below (Kd.V_elderB (by (with_reducible repeat (first | apply Kd.V_alloc | apply Kd.V_drewN | apply Kd.V_drew)); exact HO428.out) gb430 (Nat.le_of_eq hg.symm)) hb); have n3_ := Aside0.mk (below_step (by repeat (first | (with_reducible first | exact HB.out | apply below_alloc | apply pw_below_drewN | apply below_drew1) | exact HB.out)) hb); have n4_ := Aside0.mk (hbox); have n5_ := Aside0.mk ((by rw [hg]; exact (below_size (by repeat (first | (with_reducible first | exact HB.out | apply below_alloc | apply pw_below_drewN | apply below_drew1) | exact HB.out))) : w.heap.size ≤ gb430)); have n6_ := Aside0.mk ((by rw [hg]; exact (below_size (by repeat (first | (with_reducible first | exact HB.out | apply below_alloc | apply pw_below_drewN | apply below_drew1) | exact HB.out))) : w.heap.size ≤ gb430)); clear HO_6; clear HO424; clear HO428; clear HB; have HO_6 := n0_; have HO424 := n1_; have HO428 := n2_; have HB := n3_; have BK430 := n4_; have GW430 := n5_; have GE430 := n6_; clear n0_ n1_ n2_ n3_ n4_ n5_ n6_; clear hb hbox hg; have hcz40_0 : w39.cell? ⟨gb430, 0, none⟩ = some (.int .i64 0) := (blk_cell BK430.out 0).trans rfl; have hcz40_1 : w39.cell? ⟨gb430, 1, none⟩ = some (.slice none 0 0) := (blk_cell BK430.out 1).trans rfl; have hcz40_2 : w39.cell? ⟨gb430, 2, none⟩ = some (.bool false) := (blk_cell BK430.out 2).trans rfl; have hfz40_0 := blk_frozen BK430.out 0; have hfz40_1 := blk_frozen BK430.out 1; have hfz40_2 := blk_frozen BK430.out 2; obtain ⟨Ao41, co41, eo41⟩ := Kd.V_slice HO424.out; subst eo41; have hcv42 := (by first | exact own_string (P := Try.prog) Try.underlying23 Try.underlying5 Try.underlying9 (Kd.own_of_R HO424.out) | exact V_string (P := Try.prog) Try.underlying23 Try.underlying5 Try.underlying9 HO424.out); (try have hcv42s := V_string_s (P := Try.prog) Try.underlying23 Try.underlying5 Try.underlying9 HO424.out); (try have hcv42t := V_string_t (P := Try.prog) Try.underlying23 Try.underlying5 Try.underlying9 HO424.out); have hcv42d := (by first | exact own_string_d (P := Try.prog) Try.underlying23 Try.underlying5 Try.underlying9 HO424.out | exact V_string_d (P := Try.prog) Try.underlying23 Try.underlying5 Try.underlying9 HO424.out); have p431 : 0 ≤ (x8_2 : Int) := of_decide_eq_true (by first | (with_reducible assumption) | assumption); have q431 : x8_2 < (l0.length : Int) := of_decide_eq_true (by first | (with_reducible assumption) | assumption); obtain ⟨ad431, A431_0, c431_0, e431, hx431_0, hl431_0, hi431_0⟩ := at_L2 HR0.out x8_2 p431 q431; cases e431; have hn431_0 : ad431.block ≠ gb430 := Nat.ne_of_lt (Nat.lt_of_lt_of_le (by have := World.block_lt_of_cell? _ _ hx431_0; first | rwa [add_block] at this | exact this) GW430.out); have hn431_1 : ad431.block ≠ gb430 := Nat.ne_of_lt (Nat.lt_of_lt_of_le (by have := World.block_lt_of_cell? _ _ hx431_0; first | rwa [add_block] at this | exact this) GW430.out); have hn431_2 : ad431.block ≠ gb430 := Nat.ne_of_lt (Nat.lt_of_lt_of_le (by have := World.block_lt_of_cell? _ _ hx431_0; first | rwa [add_block] at this | exact this) GW430.out); replace hx431_0 := (HB.out.cell (World.block_lt_of_cell? w _ hx431_0)).trans hx431_0; have HR431_0 := Aside0.mk hi431_0; have HC431_0 := Aside0.mk hl431_0; clear hi431_0 hl431_0; replace hx431_0 := (cell_far (p := ⟨gb430, 0, none⟩) (by first | (rw [add_block]; exact hn431_0) | (show (Addr.add _ _).block ≠ _; rw [add_block]; exact hn431_0) | exact hn431_0) (.int .i64 t421)).trans hx431_0; replace hx431_0 := (cell_far (p := ⟨gb430, 1, none⟩) (by first | (rw [add_block]; exact hn431_1) | (show (Addr.add _ _).block ≠ _; rw [add_block]; exact hn431_1) | exact hn431_1) (.slice Ao41 t422.length co41)).trans hx431_0; replace hx431_0 := (cell_far (p := ⟨gb430, 2, none⟩) (by first | (rw [add_block]; exact hn431_2) | (show (Addr.add _ _).block ≠ _; rw [add_block]; exact hn431_2) | exact hn431_2) (.bool t425)).trans hx431_0; (try have hy431_0 := fun (n_ : Nat) => (show (((((w39.drewN n_).setCell ⟨gb430, 0, none⟩ (.int .i64 t421)).setCell ⟨gb430, 1, none⟩ (.slice Ao41 t422.length co41)).setCell ⟨gb430, 2, none⟩ (.bool t425))).cell? _ = some _ from hx431_0)); clear hn431_0; clear hn431_1; clear hn431_2; replace p431 := eq_true p431; replace q431 := eq_true q431; have hcv43 := Kd.C_string (P := Try.prog) (A := A431_0) (c := c431_0) Try.underlying23 Try.underlying5 Try.underlying9 (Kd.C_below HR431_0.out HB.out); (try have hcv43s := C_string_s (P := Try.prog) (A := A431_0) (c := c431_0) Try.underlying23 Try.underlying5 Try.underlying9 HR431_0.out HB.out GW430.out); (try have hcv43t := C_string_t (P := Try.prog) (A := A431_0) (c := c431_0) Try.underlying23 Try.underlying5 Try.underlying9 HR431_0.out HB.out GW430.out); obtain ⟨Ao44, co44, eo44⟩ := Kd.V_slice HO428.out; subst eo44)); try go_wp2_with (first | (go_at_call 11; (with_reducible refine (net_Give.calls (fun k_ => True) _ _ x6_2 0 t421 t422 t425 t426 t429 _ ?side1 A31.out).mono ?_); (case side1 => exact HO_6.out); rintro e w38 ⟨v423, v427, rfl, ho0, ho1, hb⟩; have n0_ := Aside0.mk (Kd.V_below (by (with_reducible repeat (first | apply Kd.V_alloc | apply Kd.V_drewN | apply Kd.V_drew)); exact HO_6.out) hb); have n1_ := Aside0.mk (Kd.V_lower (Kd.V_mono (ok' := fun k_ => True) ho0 (fun k_ hk_ => trivial)) (below_size (by repeat (first | (with_reducible first | exact HB.out | apply below_alloc | apply pw_below_drewN | apply below_drew1) | exact HB.out)))); have n2_ := Aside0.mk (Kd.V_lower (Kd.V_mono (ok' := fun k_ => True) ho1 (fun k_ hk_ => trivial)) (below_size (by repeat (first | (with_reducible first | exact HB.out | apply below_alloc | apply pw_below_drewN | apply below_drew1) | exact HB.out)))); have n3_ := Aside0.mk (below_step (by repeat (first | (with_reducible first | exact HB.out | apply below_alloc | apply pw_below_drewN | apply below_drew1) | exact HB.out)) hb); clear HO_6; clear HB; have HO_6 := n0_; have HO424 := n1_; have HO428 := n2_; have HB := n3_; clear n0_ n1_ n2_ n3_; (try clear hb); (try clear hb2); (try clear hk); (try clear hi); (try clear ho0); (try clear ho1)) | ((with_reducible refine gate_dst (N := 11) rfl ?_); (try (refine gate_guard (by rfl) ?_; dsimp only)); refine box_event ?hg (N := 11) ?hd (cs := #[.int .i64 0, .slice none 0 0, .bool false]) (t := 29) ?hr ?_; (case hd => rfl); (case hg => rfl); (case hr => first | (go_simp; done) | (go_simp; rfl)); intro gb430 hg w39 hbox hb; have n0_ := Aside0.mk (Kd.V_below (Kd.V_elderB (by (with_reducible repeat (first | apply Kd.V_alloc | apply Kd.V_drewN | apply Kd.V_drew)); exact HO_6.out) gb430 (Nat.le_of_eq hg.symm)) hb); have n1_ := Aside0.mk (Kd.V_below (Kd.V_elderB (by (with_reducible repeat (first | apply Kd.V_alloc | apply Kd.V_drewN | apply Kd.V_drew)); exact HO424.out) gb430 (Nat.le_of_eq hg.symm)) hb); have n2_ := Aside0.mk (Kd.V_below (Kd.V_elderB (by (with_reducible repeat (first | apply Kd.V_alloc | apply Kd.V_drewN | apply Kd.V_drew)); exact HO428.out) gb430 (Nat.le_of_eq hg.symm)) hb); have n3_ := Aside0.mk (below_step (by repeat (first | (with_reducible first | exact HB.out | apply below_alloc | apply pw_below_drewN | apply below_drew1) | exact HB.out)) hb); have n4_ := Aside0.mk (hbox); have n5_ := Aside0.mk ((by rw [hg]; exact (below_size (by repeat (first | (with_reducible first | exact HB.out | apply below_alloc | apply pw_below_drewN | apply below_drew1) | exact HB.out))) : w.heap.size ≤ gb430)); have n6_ := Aside0.mk ((by rw [hg]; exact (below_size (by repeat (first | (with_reducible first | exact HB.out | apply below_alloc | apply pw_below_drewN | apply below_drew1) | exact HB.out))) : w.heap.size ≤ gb430)); clear HO_6; clear HO424; clear HO428; clear HB; have HO_6 := n0_; have HO424 := n1_; have HO428 := n2_; have HB := n3_; have BK430 := n4_; have GW430 := n5_; have GE430 := n6_; clear n0_ n1_ n2_ n3_ n4_ n5_ n6_; clear hb hbox hg; have hcz40_0 : w39.cell? ⟨gb430, 0, none⟩ = some (.int .i64 0) := (blk_cell BK430.out 0).trans rfl; have hcz40_1 : w39.cell? ⟨gb430, 1, none⟩ = some (.slice none 0 0) := (blk_cell BK430.out 1).trans rfl; have hcz40_2 : w39.cell? ⟨gb430, 2, none⟩ = some (.bool false) := (blk_cell BK430.out 2).trans rfl; have hfz40_0 := blk_frozen BK430.out 0; have hfz40_1 := blk_frozen BK430.out 1; have hfz40_2 := blk_frozen BK430.out 2; obtain ⟨Ao41, co41, eo41⟩ := Kd.V_slice HO424.out; subst eo41; have hcv42 := (by first | exact own_string (P := Try.prog) Try.underlying23 Try.underlying5 Try.underlying9 (Kd.own_of_R HO424.out) | exact V_string (P := Try.prog) Try.underlying23 Try.underlying5 Try.underlying9 HO424.out); (try have hcv42s := V_string_s (P := Try.prog) Try.underlying23 Try.underlying5 Try.underlying9 HO424.out); (try have hcv42t := V_string_t (P := Try.prog) Try.underlying23 Try.underlying5 Try.underlying9 HO424.out); have hcv42d := (by first | exact own_string_d (P := Try.prog) Try.underlying23 Try.underlying5 Try.underlying9 HO424.out | exact V_string_d (P := Try.prog) Try.underlying23 Try.underlying5 Try.underlying9 HO424.out); have p431 : 0 ≤ (x8_2 : Int) := of_decide_eq_true (by first | (with_reducible assumption) | assumption); have q431 : x8_2 < (l0.length : Int) := of_decide_eq_true (by first | (with_reducible assumption) | assumption); obtain ⟨ad431, A431_0, c431_0, e431, hx431_0, hl431_0, hi431_0⟩ := at_L2 HR0.out x8_2 p431 q431; cases e431; have hn431_0 : ad431.block ≠ gb430 := Nat.ne_of_lt (Nat.lt_of_lt_of_le (by have := World.block_lt_of_cell? _ _ hx431_0; first | rwa [add_block] at this | exact this) GW430.out); have hn431_1 : ad431.block ≠ gb430 := Nat.ne_of_lt (Nat.lt_of_lt_of_le (by have := World.block_lt_of_cell? _ _ hx431_0; first | rwa [add_block] at this | exact this) GW430.out); have hn431_2 : ad431.block ≠ gb430 := Nat.ne_of_lt (Nat.lt_of_lt_of_le (by have := World.block_lt_of_cell? _ _ hx431_0; first | rwa [add_block] at this | exact this) GW430.out); replace hx431_0 := (HB.out.cell (World.block_lt_of_cell? w _ hx431_0)).trans hx431_0; have HR431_0 := Aside0.mk hi431_0; have HC431_0 := Aside0.mk hl431_0; clear hi431_0 hl431_0; replace hx431_0 := (cell_far (p := ⟨gb430, 0, none⟩) (by first | (rw [add_block]; exact hn431_0) | (show (Addr.add _ _).block ≠ _; rw [add_block]; exact hn431_0) | exact hn431_0) (.int .i64 t421)).trans hx431_0; replace hx431_0 := (cell_far (p := ⟨gb430, 1, none⟩) (by first | (rw [add_block]; exact hn431_1) | (show (Addr.add _ _).block ≠ _; rw [add_block]; exact hn431_1) | exact hn431_1) (.slice Ao41 t422.length co41)).trans hx431_0; replace hx431_0 := (cell_far (p := ⟨gb430, 2, none⟩) (by first | (rw [add_block]; exact hn431_2) | (show (Addr.add _ _).block ≠ _; rw [add_block]; exact hn431_2) | exact hn431_2) (.bool t425)).trans hx431_0; (try have hy431_0 := fun (n_ : Nat) => (show (((((w39.drewN n_).setCell ⟨gb430, 0, none⟩ (.int .i64 t421)).setCell ⟨gb430, 1, none⟩ (.slice Ao41 t422.length co41)).setCell ⟨gb430, 2, none⟩ (.bool t425))).cell? _ = some _ from hx431_0)); clear hn431_0; clear hn431_1; clear hn431_2; replace p431 := eq_true p431; replace q431 := eq_true q431; have hcv43 := Kd.C_string (P := Try.prog) (A := A431_0) (c := c431_0) Try.underlying23 Try.underlying5 Try.underlying9 (Kd.C_below HR431_0.out HB.out); (try have hcv43s := C_string_s (P := Try.prog) (A := A431_0) (c := c431_0) Try.underlying23 Try.underlying5 Try.underlying9 HR431_0.out HB.out GW430.out); (try have hcv43t := C_string_t (P := Try.prog) (A := A431_0) (c := c431_0) Try.underlying23 Try.underlying5 Try.underlying9 HR431_0.out HB.out GW430.out); obtain ⟨Ao44, co44, eo44⟩ := Kd.V_slice HO428.out; subst eo44)))
                            go_roundg k2
                            case measure => have := HK1.out; have := HK2.out; omega
                            case rel => exact ⟨(t426), (wrap64 (x8_2 + 1)), (by first | rfl | (simp; done) | (simp [*]; done)), H', ⟨by have := HK1.out; have := HK2.out; omega⟩, ⟨by (with_reducible repeat (first | apply Kd.V_alloc | apply Kd.V_drewN | apply Kd.V_drew)); exact Kd.V_mono (Kd.V_far (p := ⟨gb430, 2, none⟩) (Kd.V_far (p := ⟨gb430, 1, none⟩) (Kd.V_far (p := ⟨gb430, 0, none⟩) (Kd.V_mono HO428.out (fun k_ hk => (⟨hk, hk.2⟩ : _ ∧ k_ ≠ gb430))) (fun _ hk => hk.2) (.int .i64 t421)) (fun _ hk => hk.2) (.slice Ao41 t422.length co41)) (fun _ hk => hk.2) (.bool t425)) (fun _ hk => trivial)⟩, ⟨by repeat (first | (with_reducible first | exact HB.out | apply below_alloc | apply pw_below_drewN | apply below_drew1 | refine below_set ?_ GE430.out) | exact HB.out)⟩⟩
                          · rw [if_neg c36] at H
                            exact absurd H (by simp)
                        · rw [if_neg c35] at H
                          exact absurd H (by simp)
                      · rw [if_neg c34] at H
                        exact absurd H (by simp)
                    · rw [if_neg c33] at H
                      exact absurd H (by simp)
                  · rw [if_neg c32] at H
                    exact absurd H (by simp)
              · rw [if_neg c13] at H
                have c13b0 : decide (x8_2 < (l0.length : Int)) = false := decide_eq_false c13
                clear c13
                by_cases c45 : t404 = true
                · subst c45
                  have H1 : (some ((x6_2.length : Int) == 0)) = some r := by rw [if_pos rfl] at H; exact H
                  clear H
                  have H := H1
                  clear H1
                  obtain rfl := Option.some.inj H
                  obtain ⟨Ao46, co46, eo46⟩ := Kd.V_slice HO_6.out
                  subst eo46
                  go_wp2
                  repeat (go_quiet (fail); try go_wp2)
                  go_ret
                  exact ⟨by first | rfl | (simp [errW_none, errW_some] <;> rfl) | (simp [*, errW_none, errW_some] <;> rfl), by repeat (first | (with_reducible first | exact HB.out | apply below_alloc | apply pw_below_drewN | apply below_drew1) | exact HB.out)⟩
                · replace c45 := Bool.eq_false_iff.mpr c45
                  subst c45
                  have H1 : (none) = some r := by rw [if_neg (show ¬ (false = true) by decide)] at H; exact H
                  clear H
                  have H := H1
                  clear H1
                  exact absurd H (by simp)

end Go.Proofs.Ythmgaeecfhmenaa.Print
