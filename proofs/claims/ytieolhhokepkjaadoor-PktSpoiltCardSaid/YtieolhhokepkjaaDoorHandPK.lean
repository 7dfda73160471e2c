/- PktSpoilt: that its call returns true, for every packet, place and bytes. Conditions stand in each theorem. -/
import Derived.Test.YtieolhhokepkjaaDoorPrint0
import Derived.Test.YtieolhhokepkjaaDoorPrint3
import Derived.Test.YtieolhhokepkjaaDoorHand
import Derived.Test.YtieolhhokepkjaaDoorHandK
import Derived.Test.YtieolhhokepkjaaDoorCrc
import Derived.Lib.Bytes
import Derived.Test.YtieolhhokepkjaaDoorPP
import Derived.Test.YtieolhhokepkjaaDoorHandPB
import Derived.Test.YtieolhhokepkjaaDoorHandPS
namespace Go.Proofs.YtieolhhokepkjaaDoor.Print
open Go.RowKit Go.Proofs.YtieolhhokepkjaaDoorW.PrintWords Go.Proofs.YtieolhhokepkjaaDoorW.PrintLast Go.Proofs.YtieolhhokepkjaaDoorW.PrintMore
attribute [local go_sem] max2_int min2_int max_two min_two max_three min_three max_four min_four   -- for this text's walks alone
set_option linter.unusedVariables false
set_option linter.unusedSimpArgs false

/-! ### precentorref01_Spoil: function 20 -/
mutual
def precentorref01_Spoil.l0 : Nat → Int → List Int → List Int → Int → Option (List Int)
  | 0, _, _, _, _ => none
  | k + 1, x1, x2, x7, x8 => if x8 < 4 then (precentorref01_Spoil.j1 k x1 x2 x7 x8 (decide (x8 < (x2.length : Int)))) else (precentorref01_Spoil.j1 k x1 x2 x7 x8 false)
def precentorref01_Spoil.j1 : Nat → Int → List Int → List Int → Int → Bool → Option (List Int)
  | 0, _, _, _, _, _ => none
  | k + 1, x1, x2, x7, x8, x22 => if x22 = true then (if x1 < (wrap64 ((x7.length : Int) - x8)) then (if 0 ≤ (wrap64 (x1 + x8)) then (if (wrap64 (x1 + x8)) < (x7.length : Int) then (if 0 ≤ x8 then (if x8 < (x2.length : Int) then (precentorref01_Spoil.l0 k x1 x2 (x7.set ((wrap64 (x1 + x8)) : Int).toNat (Go.bits .xor .u8 (rd x7 (wrap64 (x1 + x8))) (rd x2 x8))) (wrap64 (x8 + 1))) else (none)) else (none)) else (none)) else (none)) else (precentorref01_Spoil.l0 k x1 x2 x7 (wrap64 (x8 + 1)))) else (some x7)
end
def precentorref01_Spoil.f (k : Nat) (l0 : List Int) (a1 : Int) (l2 : List Int) : Option (List Int) := (some (([] : List Int) : List Int)).bind fun y430 => (if y430.length + l0.length < 140737488355328 then ((some (y430 ++ l0 : List Int)).bind fun y433 => (if a1 < 0 then (some y433) else (precentorref01_Spoil.l0 k a1 l2 y433 0))) else (none))
theorem precentorref01_Spoil.mono_l : ∀ k, (∀ y0 y1 y2 y3, LeO (precentorref01_Spoil.l0 k y0 y1 y2 y3) (precentorref01_Spoil.l0 (k + 1) y0 y1 y2 y3)) ∧ (∀ y0 y1 y2 y3 y4, LeO (precentorref01_Spoil.j1 k y0 y1 y2 y3 y4) (precentorref01_Spoil.j1 (k + 1) y0 y1 y2 y3 y4))
  | 0 => ⟨fun _ _ _ _ r h => by simp [precentorref01_Spoil.l0] at h, fun _ _ _ _ _ r h => by simp [precentorref01_Spoil.j1] at h⟩
  | k + 1 => by
    obtain ⟨ih0, ih1⟩ := precentorref01_Spoil.mono_l k
    refine ⟨?_, ?_⟩
    · intro y0 y1 y2 y3
      unfold precentorref01_Spoil.l0
      repeat' first
      | (with_reducible exact ih0 _ _ _ _)
      | (with_reducible exact ih1 _ _ _ _ _)
      | (with_reducible exact LeO.refl _)
      | (with_reducible exact LeO.none _)
      | (with_reducible refine LeO.ite ?_ ?_)
      | (with_reducible refine LeO.bind ?_ (fun _ => ?_))
      | exact ih0 _ _ _ _
      | exact ih1 _ _ _ _ _
      | exact LeO.none _
      | refine LeO.ite ?_ ?_
      | refine LeO.bind ?_ (fun _ => ?_)
    · intro y0 y1 y2 y3 y4
      unfold precentorref01_Spoil.j1
      repeat' first
      | (with_reducible exact ih0 _ _ _ _)
      | (with_reducible exact ih1 _ _ _ _ _)
      | (with_reducible exact LeO.refl _)
      | (with_reducible exact LeO.none _)
      | (with_reducible refine LeO.ite ?_ ?_)
      | (with_reducible refine LeO.bind ?_ (fun _ => ?_))
      | exact ih0 _ _ _ _
      | exact ih1 _ _ _ _ _
      | exact LeO.none _
      | refine LeO.ite ?_ ?_
      | refine LeO.bind ?_ (fun _ => ?_)
theorem precentorref01_Spoil.mono : ∀ a0 a1 a2 k, LeO (precentorref01_Spoil.f k a0 a1 a2) (precentorref01_Spoil.f (k + 1) a0 a1 a2) := by
  intro a0 a1 a2 k
  obtain ⟨ih0, ih1⟩ := precentorref01_Spoil.mono_l k
  unfold precentorref01_Spoil.f
  repeat' first
      | (with_reducible exact ih0 _ _ _ _)
      | (with_reducible exact ih1 _ _ _ _ _)
      | (with_reducible exact LeO.refl _)
      | (with_reducible exact LeO.none _)
      | (with_reducible refine LeO.ite ?_ ?_)
      | (with_reducible refine LeO.bind ?_ (fun _ => ?_))
      | exact ih0 _ _ _ _
      | exact ih1 _ _ _ _ _
      | exact LeO.none _
      | refine LeO.ite ?_ ?_
      | refine LeO.bind ?_ (fun _ => ?_)
def precentorref01_Spoil.T8 : Bool × List (List Nat × List Nat) := (true, [([], []), ([], []), ([], []), ([1, 2], [1, 2]), ([], []), ([], []), ([], []), ([5, 6], [5, 6]), ([4, 7], [4, 7]), ([8], [8]), ([], []), ([], []), ([10, 11], [10, 11]), ([12], [12]), ([9, 13], [9, 13]), ([0, 3, 0, 1, 2, 3, 4, 5, 6, 7, 8, 9, 10, 11, 12, 13, 14], [0, 3]), ([15, 14, 0, 1, 2, 3, 4, 5, 6, 7, 8, 9, 10, 11, 12, 13, 14], [14, 15])])
def precentorref01_Spoil.B8 : List Nat := [0, 0, 0, 6, 0, 0, 0, 96, 240, 496, 0, 0, 3072, 7168, 16368, 32767, 65535]
theorem precentorref01_Spoil.tab8 : rtab .any (opsOf Tryd.f20 8) = precentorref01_Spoil.T8 := by kernel_rfl
theorem precentorref01_Spoil.bits8 : waitsOk precentorref01_Spoil.T8.2 precentorref01_Spoil.B8 = true := by kernel_rfl
set_option maxHeartbeats 8000000 in
set_option maxRecDepth 100000 in
theorem precentorref01_Spoil.calls (k : Nat) (A0 : Option Addr) (c0 : Nat) (l0 : List Int) (a1 : Int) (A2 : Option Addr) (c2 : Nat) (l2 : List Int) (r : List Int) (w : World) (hr0 : Kd.C (Kd.int .u8) w A0 l0.length l0) (hc0 : l0.length ≤ c0) (hr2 : Kd.C (Kd.int .u8) w A2 l2.length l2) (hc2 : l2.length ≤ c2) (h : precentorref01_Spoil.f k l0 a1 l2 = some r) :
    Calls Tryd.prog 20 #[.slice A0 l0.length c0, .int .i64 a1, .slice A2 l2.length c2] w fun e w' => ∃ v0_ : Value, e = .returned (v0_) ∧ Kd.R (Kd.int .u8) 5 w' w.heap.size (fun _ => True) v0_ r ∧ Below w.heap.size w w' := by
  have HR0 := Aside0.mk hr0
  have HC0 := Aside0.mk hc0
  clear hr0 hc0
  have HR2 := Aside0.mk hr2
  have HC2 := Aside0.mk hc2
  clear hr2 hc2
  have HB := Aside0.mk (Below.refl w.heap.size w)
  have H : ((some (([] : List Int) : List Int)).bind fun y430 => (if y430.length + l0.length < 140737488355328 then ((some (y430 ++ l0 : List Int)).bind fun y433 => (if a1 < 0 then (some y433) else (precentorref01_Spoil.l0 k a1 l2 y433 0))) else (none))) = some r := h
  clear h
  obtain ⟨y430, hy430⟩ : ∃ y_ : List Int, y_ = (([] : List Int)) := ⟨_, rfl⟩
  replace H : (if y430.length + l0.length < 140737488355328 then ((some (y430 ++ l0 : List Int)).bind fun y433 => (if a1 < 0 then (some y433) else (precentorref01_Spoil.l0 k a1 l2 y433 0))) else (none)) = some r := by first | (rw [hy430]; with_reducible exact H) | (have H2_ := (Option.bind_some _ _).symm.trans H; rw [hy430]; with_reducible exact H2_) | (have H2_ := (Option.bind_some _ _).symm.trans H; with_reducible exact H2_) | with_reducible exact H | (rw [hy430]; exact H) | exact H
  have Ny430 := Aside0.mk hy430
  clear hy430
  by_cases c4 : y430.length + l0.length < 140737488355328
  · rw [if_pos c4] at H
    have LMc4 := Aside0.mk c4
    clear c4
    obtain ⟨y433, hy433⟩ : ∃ y_ : List Int, y_ = (y430 ++ l0) := ⟨_, rfl⟩
    replace H : (if a1 < 0 then (some y433) else (precentorref01_Spoil.l0 k a1 l2 y433 0)) = some r := by first | (rw [hy433]; with_reducible exact H) | (have H2_ := (Option.bind_some _ _).symm.trans H; rw [hy433]; with_reducible exact H2_) | (have H2_ := (Option.bind_some _ _).symm.trans H; with_reducible exact H2_) | with_reducible exact H | (rw [hy433]; exact H) | exact H
    have Ny433 := Aside0.mk hy433
    clear hy433
    by_cases c5 : a1 < 0
    · rw [if_pos c5] at H
      have c5b0 : decide (a1 < 0) = true := decide_eq_true c5
      clear c5
      obtain rfl := Option.some.inj H
      go_enter Tryd.func20, Tryd.ntmps20
      go_wp2_with (first | ((with_reducible refine gate_dst (N := 9) rfl ?_); (try (refine gate_guard (by rfl) ?_; dsimp only)); refine Kd.R_lit (Kd.int .u8) _ 5 ?hg (N := 9) ?hd (xs := ([] : List Int)) (inner := []) (ok := fun _ => True) (okp := fun _ => True) ?hr ?hp (fun _ hk => hk) trivial (Below.refl _ _) (Nat.le_refl _) (by simp) ?_; (case hd => rfl); (case hg => rfl); (case hr => first | (go_simp; done) | (go_simp; rfl)); (case hp => exact (Reps.none _ _)); intro v431 w6 ho7 hb hg_ hnew_; clear hg_ hnew_; (first | rw [← Ny430.out] at ho7 | (simp only [Int.reduceToNat] at ho7; rw [← Ny430.out] at ho7)); have n0_ := Aside0.mk (Kd.R_lower ho7 (below_size (by repeat (first | (with_reducible first | exact HB.out | apply below_alloc | apply pw_below_drewN | apply below_drew1) | exact HB.out)))); have n1_ := Aside0.mk (below_step (by repeat (first | (with_reducible first | exact HB.out | apply below_alloc | apply pw_below_drewN | apply below_drew1) | exact HB.out)) hb); clear HB; have HO432 := n0_; have HB := n1_; clear n0_ n1_; clear hb ho7) | ((with_reducible refine gate_builtin (b := .append) (xs := #[.tmp 9, .tmp 10]) rfl ?_); (try (refine gate_guard (by rfl) ?_; dsimp only)); at_builtin; refine Kd.R_append_rows (Kd.int .u8) (w0 := w) w.heap.size rfl (.tmp 9) (.tmp 10) 23 5 (.int .u8 0) 1 rfl Tryd.underlying23 info5 rfl (by decide) (by omega) v431 y430 l0 _ _ _ (fun _ => True) (fun _ => False) rfl rfl ?aO ?aR (fun _ _ h => h) (fun _ h => h.elim) ?aF ?aB ?aS ?aL ?_; (case aR => repeat (first | exact (Kd.C_below HR0.out HB.out) | (with_reducible refine Kd.C_alloc ?_ _) | (with_reducible refine Kd.C_drewN ?_ _) | (with_reducible refine Kd.C_drew ?_))); (case aB => exact (by repeat (first | (with_reducible first | exact HB.out | apply below_alloc | apply pw_below_drewN | apply below_drew1) | exact HB.out))); (case aF => exact (fun _ _ => trivial)); (case aO => exact (by (with_reducible repeat (first | apply Kd.R_alloc | apply Kd.R_drewN | apply Kd.R_drew)); exact HO432.out)); (case aS => exact (below_size (by repeat (first | (with_reducible first | exact HB.out | apply below_alloc | apply pw_below_drewN | apply below_drew1) | exact HB.out)))); (case aL => have := LMc4.out; omega); intro v434 w8 ho hb hg hat; rw [← Ny433.out] at ho; have n0_ := Aside0.mk (hb); have n1_ := Aside0.mk (ho); clear HB; clear HO432; have HB := n0_; have HO435 := n1_; clear n0_ n1_; clear ho hb hg hat))
      go_ret
      exact ⟨_, by first | rfl | (simp [errW_none, errW_some] <;> rfl) | (simp [*, errW_none, errW_some] <;> rfl), by (with_reducible repeat (first | apply Kd.R_alloc | apply Kd.R_drewN | apply Kd.R_drew)); exact HO435.out, by repeat (first | (with_reducible first | exact HB.out | apply below_alloc | apply pw_below_drewN | apply below_drew1) | exact HB.out)⟩
    · rw [if_neg c5] at H
      have c5b0 : decide (a1 < 0) = false := decide_eq_false c5
      clear c5
      have H' := Aside0.mk H
      clear H
      go_enter Tryd.func20, Tryd.ntmps20
      go_wp2_with (first | ((with_reducible refine gate_dst (N := 9) rfl ?_); (try (refine gate_guard (by rfl) ?_; dsimp only)); refine Kd.R_lit (Kd.int .u8) _ 5 ?hg (N := 9) ?hd (xs := ([] : List Int)) (inner := []) (ok := fun _ => True) (okp := fun _ => True) ?hr ?hp (fun _ hk => hk) trivial (Below.refl _ _) (Nat.le_refl _) (by simp) ?_; (case hd => rfl); (case hg => rfl); (case hr => first | (go_simp; done) | (go_simp; rfl)); (case hp => exact (Reps.none _ _)); intro v431 w9 ho10 hb hg_ hnew_; clear hg_ hnew_; (first | rw [← Ny430.out] at ho10 | (simp only [Int.reduceToNat] at ho10; rw [← Ny430.out] at ho10)); have n0_ := Aside0.mk (Kd.R_lower ho10 (below_size (by repeat (first | (with_reducible first | exact HB.out | apply below_alloc | apply pw_below_drewN | apply below_drew1) | exact HB.out)))); have n1_ := Aside0.mk (below_step (by repeat (first | (with_reducible first | exact HB.out | apply below_alloc | apply pw_below_drewN | apply below_drew1) | exact HB.out)) hb); clear HB; have HO432 := n0_; have HB := n1_; clear n0_ n1_; clear hb ho10) | ((with_reducible refine gate_builtin (b := .append) (xs := #[.tmp 9, .tmp 10]) rfl ?_); (try (refine gate_guard (by rfl) ?_; dsimp only)); at_builtin; refine Kd.R_append_rows (Kd.int .u8) (w0 := w) w.heap.size rfl (.tmp 9) (.tmp 10) 23 5 (.int .u8 0) 1 rfl Tryd.underlying23 info5 rfl (by decide) (by omega) v431 y430 l0 _ _ _ (fun _ => True) (fun _ => False) rfl rfl ?aO ?aR (fun _ _ h => h) (fun _ h => h.elim) ?aF ?aB ?aS ?aL ?_; (case aR => repeat (first | exact (Kd.C_below HR0.out HB.out) | (with_reducible refine Kd.C_alloc ?_ _) | (with_reducible refine Kd.C_drewN ?_ _) | (with_reducible refine Kd.C_drew ?_))); (case aB => exact (by repeat (first | (with_reducible first | exact HB.out | apply below_alloc | apply pw_below_drewN | apply below_drew1) | exact HB.out))); (case aF => exact (fun _ _ => trivial)); (case aO => exact (by (with_reducible repeat (first | apply Kd.R_alloc | apply Kd.R_drewN | apply Kd.R_drew)); exact HO432.out)); (case aS => exact (below_size (by repeat (first | (with_reducible first | exact HB.out | apply below_alloc | apply pw_below_drewN | apply below_drew1) | exact HB.out)))); (case aL => have := LMc4.out; omega); intro v434 w11 ho hb hg hat; rw [← Ny433.out] at ho; have n0_ := Aside0.mk (hb); have n1_ := Aside0.mk (ho); clear HB; clear HO432; have HB := n0_; have HO435 := n1_; clear n0_ n1_; clear ho hb hg hat))
      go_loopg [8] k (fun kq v8 w' => ∃ (x7_1 : List Int) (x8_1 : Int), v8 = .int .i64 x8_1 ∧ Aside0 (precentorref01_Spoil.l0 kq a1 l2 x7_1 x8_1 = some r) ∧ Aside0 (kq ≤ k) ∧ Aside0 (Kd.R (Kd.int .u8) 5 w' w.heap.size (fun _ => True) v434 x7_1) ∧ Aside0 (Below w.heap.size w w'))
      case atStart => exact ⟨(y433), (0), (by first | rfl | (simp; done) | (simp [*]; done)), H', ⟨Nat.le_refl _⟩, ⟨by (with_reducible repeat (first | apply Kd.R_alloc | apply Kd.R_drewN | apply Kd.R_drew)); exact HO435.out⟩, ⟨by repeat (first | (with_reducible first | exact HB.out | apply below_alloc | apply pw_below_drewN | apply below_drew1) | exact HB.out)⟩⟩
      case round =>
        clear H'
        try clear c2
        try clear p2
        try clear c4
        try clear c5
        try clear c5b0
        obtain ⟨x7_1, x8_1, rfl, HA, HK1, HO_7, HB⟩ := hrel
        cases gk with
        | zero => exact absurd HA.out (by simp [precentorref01_Spoil.l0])
        | succ k1 =>
          have H := HA.out
          clear HA
          simp only [precentorref01_Spoil.l0] at H
          have HC12 := Aside0.mk H
          clear H
          go_upto_region 5 with (fail)
          go_cut [22] (fun v22 wc => ∃ (kq : Nat) (x22_11 : Bool), v22 = .bool x22_11 ∧ Aside0 (precentorref01_Spoil.j1 kq a1 l2 x7_1 x8_1 x22_11 = some r) ∧ Aside0 (kq ≤ k1) ∧ Aside0 (Kd.R (Kd.int .u8) 5 wc w.heap.size (fun _ => True) v434 x7_1) ∧ Aside0 (Below w.heap.size w wc))
          case first =>
            have H := HC12.out
            clear HC12
            by_cases c13 : x8_1 < 4
            · rw [if_pos c13] at H
              have c13b0 : decide (x8_1 < 4) = true := decide_eq_true c13
              clear c13
              (first | rw [c13b0] | (simp only [i64_w, i32_w]; rw [c13b0]) | skip)
              have H' := Aside0.mk H
              clear H
              go_wp2
              go_meet
              case rel => exact ⟨_, (decide (x8_1 < (l2.length : Int))), (by first | rfl | (simp; done) | (simp [*]; done)), H', ⟨by have := HK1.out; first | omega | exact Nat.le_refl _⟩, ⟨by (with_reducible repeat (first | apply Kd.R_alloc | apply Kd.R_drewN | apply Kd.R_drew)); exact HO_7.out⟩, ⟨by repeat (first | (with_reducible first | exact HB.out | apply below_alloc | apply pw_below_drewN | apply below_drew1) | exact HB.out)⟩⟩
            · rw [if_neg c13] at H
              have c13b0 : decide (x8_1 < 4) = false := decide_eq_false c13
              clear c13
              (first | rw [c13b0] | (simp only [i64_w, i32_w]; rw [c13b0]) | skip)
              have H' := Aside0.mk H
              clear H
              go_wp2
              go_meet
              case rel => exact ⟨_, (false), (by first | rfl | (simp; done) | (simp [*]; done)), H', ⟨by have := HK1.out; first | omega | exact Nat.le_refl _⟩, ⟨by (with_reducible repeat (first | apply Kd.R_alloc | apply Kd.R_drewN | apply Kd.R_drew)); exact HO_7.out⟩, ⟨by repeat (first | (with_reducible first | exact HB.out | apply below_alloc | apply pw_below_drewN | apply below_drew1) | exact HB.out)⟩⟩
          case rest =>
            clear HC12
            try clear c1
            try clear c2
            try clear p2
            try clear c4
            try clear c5
            try clear c5b0
            try clear c13
            try clear c13b0
            try clear p2
            obtain ⟨kq, x22_11, rfl, HA, HJ11, HO_7, HB⟩ := hcut
            cases kq with
            | zero => exact absurd HA.out (by simp [precentorref01_Spoil.j1])
            | succ kj11 =>
              have H := HA.out
              clear HA
              simp only [precentorref01_Spoil.j1] at H
              by_cases c14 : x22_11 = true
              · subst c14
                have H1 : (if a1 < (wrap64 ((x7_1.length : Int) - x8_1)) then (if 0 ≤ (wrap64 (a1 + x8_1)) then (if (wrap64 (a1 + x8_1)) < (x7_1.length : Int) then (if 0 ≤ x8_1 then (if x8_1 < (l2.length : Int) then (precentorref01_Spoil.l0 kj11 a1 l2 (x7_1.set ((wrap64 (a1 + x8_1)) : Int).toNat (Go.bits .xor .u8 (rd x7_1 (wrap64 (a1 + x8_1))) (rd l2 x8_1))) (wrap64 (x8_1 + 1))) else (none)) else (none)) else (none)) else (none)) else (precentorref01_Spoil.l0 kj11 a1 l2 x7_1 (wrap64 (x8_1 + 1)))) = some r := by rw [if_pos rfl] at H; exact H
                clear H
                have H := H1
                clear H1
                by_cases c15 : a1 < (wrap64 ((x7_1.length : Int) - x8_1))
                · rw [if_pos c15] at H
                  have c15b0 : decide (a1 < (wrap64 ((x7_1.length : Int) - x8_1))) = true := decide_eq_true c15
                  clear c15
                  obtain ⟨ji16, hji16⟩ : ∃ j_ : Int, (wrap64 (a1 + x8_1)) = j_ := ⟨_, rfl⟩
                  replace H : (if 0 ≤ (ji16) then (if (ji16) < (x7_1.length : Int) then (if 0 ≤ x8_1 then (if x8_1 < (l2.length : Int) then (precentorref01_Spoil.l0 kj11 a1 l2 (x7_1.set ((ji16) : Int).toNat (Go.bits .xor .u8 (rd x7_1 (ji16)) (rd l2 x8_1))) (wrap64 (x8_1 + 1))) else (none)) else (none)) else (none)) else (none)) = some r := by first | (rw [hji16] at H; exact H) | (simp only [hji16] at H ⊢; exact H)
                  have hji16w : (IntKind.i64.wrap (a1 + x8_1)) = ji16 := (i64_w _).trans hji16
                  by_cases c17 : 0 ≤ (ji16)
                  · rw [if_pos c17] at H
                    have c17b0 : decide (0 ≤ (ji16)) = true := decide_eq_true c17
                    clear c17
                    by_cases c18 : (ji16) < (x7_1.length : Int)
                    · rw [if_pos c18] at H
                      have c18b0 : decide ((ji16) < (x7_1.length : Int)) = true := decide_eq_true c18
                      clear c18
                      by_cases c19 : 0 ≤ x8_1
                      · rw [if_pos c19] at H
                        have c19b0 : decide (0 ≤ x8_1) = true := decide_eq_true c19
                        clear c19
                        by_cases c20 : x8_1 < (l2.length : Int)
                        · rw [if_pos c20] at H
                          have c20b0 : decide (x8_1 < (l2.length : Int)) = true := decide_eq_true c20
                          clear c20
                          obtain ⟨y438, hy438⟩ : ∃ y_ : List Int, y_ = (x7_1.set ((ji16) : Int).toNat (Go.bits .xor .u8 (rd x7_1 (ji16)) (rd l2 x8_1))) := ⟨_, rfl⟩
                          replace H : (precentorref01_Spoil.l0 kj11 a1 l2 y438 (wrap64 (x8_1 + 1))) = some r := by first | (rw [hy438]; with_reducible exact H) | (have H2_ := (Option.bind_some _ _).symm.trans H; rw [hy438]; with_reducible exact H2_) | (have H2_ := (Option.bind_some _ _).symm.trans H; with_reducible exact H2_) | with_reducible exact H | (rw [hy438]; exact H) | exact H
                          have Ny438 := Aside0.mk hy438
                          clear hy438
                          have H' := Aside0.mk H
                          clear H
                          obtain ⟨Ao22, co22, eo22⟩ := Kd.R_slice HO_7.out
                          subst eo22
                          try go_wp2
                          have n0_ := Aside0.mk (Kd.R_drew HO_7.out)
                          have n1_ := Aside0.mk (below_drew1 HB.out)
                          clear HO_7
                          clear HB
                          have HO_7 := n0_
                          have HB := n1_
                          clear n0_ n1_
                          have p436 : 0 ≤ ((ji16) : Int) := of_decide_eq_true (by first | (with_reducible assumption) | assumption)
                          have q436 : (ji16) < (x7_1.length : Int) := of_decide_eq_true (by first | (with_reducible assumption) | assumption)
                          obtain ⟨ad436, e436, hx436_0⟩ := Kd.at_int (Kd.R_reads' HO_7.out).2.2 (ji16) p436 q436
                          cases e436
                          replace p436 := eq_true p436
                          replace q436 := eq_true q436
                          have p437 : 0 ≤ (x8_1 : Int) := of_decide_eq_true (by first | (with_reducible assumption) | assumption)
                          have q437 : x8_1 < (l2.length : Int) := of_decide_eq_true (by first | (with_reducible assumption) | assumption)
                          obtain ⟨ad437, e437, hx437_0⟩ := Kd.at_int HR2.out x8_1 p437 q437
                          have hw437_0 := hx437_0
                          cases e437
                          replace hx437_0 := (HB.out.cell (World.block_lt_of_cell? w _ hx437_0)).trans hx437_0
                          replace p437 := eq_true p437
                          replace q437 := eq_true q437
                          have p21 : 0 ≤ ((ji16) : Int) := of_decide_eq_true (by first | (with_reducible assumption) | assumption)
                          have q21 : ((ji16) : Int) < ((x7_1.length : Int) : Int) := of_decide_eq_true (by first | (with_reducible assumption) | assumption)
                          obtain ⟨go21, co21, eo21, gb21, gl21, cl21, HG21⟩ := Kd.R_form HO_7.out (by omega)
                          (first | cases eo21 | (injection eo21 with ea_ en_ ec_; (first | subst ea_ | (injection ea_ with ea_; subst ea_)); subst ec_; clear en_))
                          have GB21 := Aside0.mk gb21
                          have GG21 := Aside0.mk HG21
                          clear gb21 gl21 HG21
                          (first | simp only [add_plain] at hx436_0 | skip)
                          obtain ⟨hx21_0, hf21_0⟩ := Kd.R_celln 0 HO_7.out ((ji16) : Int) p21 q21
                          replace p21 := eq_true p21
                          replace q21 := eq_true q21
                          have HP24 := Kd.R_putn HO_7.out ((ji16) : Int) (Go.bits .xor .u8 (rd x7_1 (ji16)) (rd l2 x8_1))
                          rw [← Ny438.out] at HP24
                          have HQ24 := Aside0.mk HP24
                          clear HP24
                          refine start_ (n := 17) (S := fun w' => w'.cell? ⟨go21, ((ji16)).toNat, none⟩ = some (.int .u8 (rd x7_1 (ji16))) ∧ w'.cell? (ad437.add (x8_1).toNat) = some (.int .u8 (rd l2 x8_1))) (ds := [16]) #[false, false, false, false, false, false, false, false, false, false, false, false, false, false, false, false, false] (by kernel_rfl) rfl rfl ⟨hx436_0, ((HB.out.cell (World.block_lt_of_cell? w _ hw437_0)).trans hw437_0)⟩ (fun hHeld => ?_); refine with_tabW precentorref01_Spoil.tab8 precentorref01_Spoil.bits8 (fun HT_ HW_ => ?_)
                          generalize wc.drew = w23 at HO_7 HB GG21 HQ24 hf21_0 hx21_0 hx436_0 hx437_0 hHeld ⊢
                          refine pure_ (i := 0) (N := some 31) (v := ?_) (a' := ?_) #[true, false, false, false, false, false, false, false, false, false, false, false, false, false, false, false, false] rfl rfl (any_of HT_.out (by kernel_rfl)) (fun _ _ _ h => h) (Or.inl ⟨by rfl, ?_⟩) ?_ ?_
                          rotate_left
                          · intro w'
                            go_simp
                            with_reducible rfl
                          rotate_left
                          · simp only [Act.put, List.setIfInBounds_toArray, List.set_cons_zero, List.set_cons_succ, i64_w, i32_w]
                            rfl
                          refine pure_ (i := 1) (N := some 32) (v := ?_) (a' := ?_) #[true, true, false, false, false, false, false, false, false, false, false, false, false, false, false, false, false] rfl rfl (any_of HT_.out (by kernel_rfl)) (fun _ _ _ h => h) (Or.inl ⟨by rfl, ?_⟩) ?_ ?_
                          rotate_left
                          · intro w'
                            go_simp
                            with_reducible rfl
                          rotate_left
                          · simp only [Act.put, List.setIfInBounds_toArray, List.set_cons_zero, List.set_cons_succ, i64_w, i32_w]
                            rfl
                          refine pure_ (i := 2) (N := some 33) (v := ?_) (a' := ?_) #[true, true, true, false, false, false, false, false, false, false, false, false, false, false, false, false, false] rfl rfl (any_of HT_.out (by kernel_rfl)) (fun _ _ _ h => h) (Or.inl ⟨by rfl, ?_⟩) ?_ ?_
                          rotate_left
                          · intro w'
                            go_simp
                            with_reducible rfl
                          rotate_left
                          · simp only [Act.put, List.setIfInBounds_toArray, List.set_cons_zero, List.set_cons_succ, i64_w, i32_w]
                            rfl
                          refine pure_ (i := 3) (N := some 34) (v := ?_) (a' := ?_) #[true, true, true, true, false, false, false, false, false, false, false, false, false, false, false, false, false] rfl rfl (any_of HT_.out (by kernel_rfl)) (fun _ _ _ h => h) (Or.inl ⟨by rfl, ?_⟩) ?_ ?_
                          rotate_left
                          · intro w'
                            go_simp
                            with_reducible rfl
                          rotate_left
                          · simp only [Act.put, List.setIfInBounds_toArray, List.set_cons_zero, List.set_cons_succ, i64_w, i32_w]
                            rfl
                          refine pure_ (i := 4) (N := some 35) (v := ?_) (a' := ?_) #[true, true, true, true, true, false, false, false, false, false, false, false, false, false, false, false, false] rfl rfl (any_of HT_.out (by kernel_rfl)) (fun _ _ _ h => h) (Or.inl ⟨by rfl, ?_⟩) ?_ ?_
                          rotate_left
                          · intro w'
                            go_simp
                            with_reducible rfl
                          rotate_left
                          · simp only [Act.put, List.setIfInBounds_toArray, List.set_cons_zero, List.set_cons_succ, i64_w, i32_w]
                            rfl
                          refine pure_ (i := 5) (N := some 36) (v := ?_) (a' := ?_) #[true, true, true, true, true, true, false, false, false, false, false, false, false, false, false, false, false] rfl rfl (any_of HT_.out (by kernel_rfl)) (fun _ _ _ h => h) (Or.inl ⟨by rfl, ?_⟩) ?_ ?_
                          rotate_left
                          · intro w'
                            go_simp
                            with_reducible rfl
                          rotate_left
                          · simp only [Act.put, List.setIfInBounds_toArray, List.set_cons_zero, List.set_cons_succ, i64_w, i32_w]
                            rfl
                          refine pure_ (i := 6) (N := some 37) (v := ?_) (a' := ?_) #[true, true, true, true, true, true, true, false, false, false, false, false, false, false, false, false, false] rfl rfl (any_of HT_.out (by kernel_rfl)) (fun _ _ _ h => h) (Or.inl ⟨by rfl, ?_⟩) ?_ ?_
                          rotate_left
                          · intro w'
                            go_simp
                            with_reducible rfl
                          rotate_left
                          · simp only [Act.put, List.setIfInBounds_toArray, List.set_cons_zero, List.set_cons_succ, i64_w, i32_w]
                            rfl
                          refine pure_ (i := 7) (N := some 38) (v := ?_) (a' := ?_) #[true, true, true, true, true, true, true, true, false, false, false, false, false, false, false, false, false] rfl rfl (any_of HT_.out (by kernel_rfl)) (fun _ _ _ h => h) (Or.inl ⟨by rfl, ?_⟩) ?_ ?_
                          rotate_left
                          · intro w'
                            go_simp
                            with_reducible rfl
                          rotate_left
                          · simp only [Act.put, List.setIfInBounds_toArray, List.set_cons_zero, List.set_cons_succ, i64_w, i32_w]
                            rfl
                          refine pure_ (i := 8) (N := some 39) (v := ?_) (a' := ?_) #[true, true, true, true, true, true, true, true, true, false, false, false, false, false, false, false, false] rfl rfl (any_of HT_.out (by kernel_rfl)) (fun _ _ _ h => h) (Or.inl ⟨by rfl, ?_⟩) ?_ ?_
                          rotate_left
                          · intro w'
                            go_simp
                            with_reducible rfl
                          rotate_left
                          · simp only [Act.put, List.setIfInBounds_toArray, List.set_cons_zero, List.set_cons_succ, i64_w, i32_w]
                            rfl
                          refine pure_ (i := 10) (N := some 41) (v := ?_) (a' := ?_) #[true, true, true, true, true, true, true, true, true, false, true, false, false, false, false, false, false] rfl rfl (any_of HT_.out (by kernel_rfl)) (fun _ _ _ h => h) (Or.inl ⟨by rfl, ?_⟩) ?_ ?_
                          rotate_left
                          · intro w'
                            go_simp
                            with_reducible rfl
                          rotate_left
                          · simp only [Act.put, List.setIfInBounds_toArray, List.set_cons_zero, List.set_cons_succ, i64_w, i32_w]
                            rfl
                          refine pure_ (i := 11) (N := some 42) (v := ?_) (a' := ?_) #[true, true, true, true, true, true, true, true, true, false, true, true, false, false, false, false, false] rfl rfl (any_of HT_.out (by kernel_rfl)) (fun _ _ _ h => h) (Or.inl ⟨by rfl, ?_⟩) ?_ ?_
                          rotate_left
                          · intro w'
                            go_simp
                            with_reducible rfl
                          rotate_left
                          · simp only [Act.put, List.setIfInBounds_toArray, List.set_cons_zero, List.set_cons_succ, i64_w, i32_w]
                            rfl
                          refine pure_ (i := 12) (N := some 43) (v := ?_) (a' := ?_) #[true, true, true, true, true, true, true, true, true, false, true, true, true, false, false, false, false] rfl rfl (any_of HT_.out (by kernel_rfl)) (fun _ _ _ h => h) (Or.inl ⟨by rfl, ?_⟩) ?_ ?_
                          rotate_left
                          · intro w'
                            go_simp
                            with_reducible rfl
                          rotate_left
                          · simp only [Act.put, List.setIfInBounds_toArray, List.set_cons_zero, List.set_cons_succ, i64_w, i32_w]
                            rfl
                          refine take_ (i := 9) (N := some 40) (v := ?_) (a' := ?_) #[true, true, true, true, true, true, true, true, true, true, true, true, true, false, false, false, false] rfl rfl (take_ofW HT_.out HW_.out (by kernel_rfl)) (fun _ _ _ h => h) (Or.inl ⟨by rfl, ?_⟩) hHeld ?_ ?_
                          rotate_left
                          · rintro w' ⟨s0, s1⟩
                            try rw [List.length_drop] at s0
                            try rw [List.length_drop] at s1
                            go_simp
                            with_reducible rfl
                          rotate_left
                          · simp only [Act.put, List.setIfInBounds_toArray, List.set_cons_zero, List.set_cons_succ, i64_w, i32_w]
                            rfl
                          refine take_ (i := 13) (N := some 44) (v := ?_) (a' := ?_) #[true, true, true, true, true, true, true, true, true, true, true, true, true, true, false, false, false] rfl rfl (take_ofW HT_.out HW_.out (by kernel_rfl)) (fun _ _ _ h => h) (Or.inl ⟨by rfl, ?_⟩) hHeld ?_ ?_
                          rotate_left
                          · rintro w' ⟨s0, s1⟩
                            try rw [List.length_drop] at s0
                            try rw [List.length_drop] at s1
                            go_simp
                            with_reducible rfl
                          rotate_left
                          · simp only [Act.put, List.setIfInBounds_toArray, List.set_cons_zero, List.set_cons_succ, i64_w, i32_w]
                            rfl
                          refine pure_ (i := 14) (N := some 45) (v := ?_) (a' := ?_) #[true, true, true, true, true, true, true, true, true, true, true, true, true, true, true, false, false] rfl rfl (any_of HT_.out (by kernel_rfl)) (fun _ _ _ h => h) (Or.inl ⟨by rfl, ?_⟩) ?_ ?_
                          rotate_left
                          · intro w'
                            go_simp
                            with_reducible rfl
                          rotate_left
                          · simp only [Act.put, List.setIfInBounds_toArray, List.set_cons_zero, List.set_cons_succ, i64_w, i32_w]
                            rfl
                          refine pure_ (i := 15) (N := some 46) (v := ?_) (a' := ?_) #[true, true, true, true, true, true, true, true, true, true, true, true, true, true, true, true, false] rfl rfl (any_of HT_.out (by kernel_rfl)) (fun _ _ _ h => h) (Or.inl ⟨by rfl, ?_⟩) ?_ ?_
                          rotate_left
                          · intro w'
                            go_simp
                            with_reducible rfl
                          rotate_left
                          · simp only [Act.put, List.setIfInBounds_toArray, List.set_cons_zero, List.set_cons_succ, i64_w, i32_w]
                            rfl
                          refine last_ (i := 16) (N := none) #[true, true, true, true, true, true, true, true, true, true, true, true, true, true, true, true, true] rfl rfl (one_of HT_.out (by kernel_rfl)) (by decide) (fun K hK => ?_)
                          refine skip_ (w1 := ?_) (by rfl) rfl ?_ ?_
                          rotate_left
                          · go_simp
                            rfl
                          refine hK.out _ _ ?_
                          clear hK K
                          refine done_ (done_of HT_.out (by kernel_rfl)) ?_
                          try go_wp2
                          (try subst hji16)
                          go_roundg kj11
                          case measure => have := HK1.out; have := HJ11.out; omega
                          case rel => exact ⟨(y438), (wrap64 (x8_1 + 1)), (by first | rfl | (simp; done) | (simp [*]; done)), H', ⟨by have := HK1.out; have := HJ11.out; omega⟩, ⟨by (with_reducible repeat (first | apply Kd.R_alloc | apply Kd.R_drewN | apply Kd.R_drew)); exact HQ24.out⟩, ⟨by repeat (first | (with_reducible first | exact HB.out | apply below_alloc | apply pw_below_drewN | apply below_drew1 | refine below_set ?_ GB21.out) | exact HB.out)⟩⟩
                        · rw [if_neg c20] at H
                          exact absurd H (by simp)
                      · rw [if_neg c19] at H
                        exact absurd H (by simp)
                    · rw [if_neg c18] at H
                      exact absurd H (by simp)
                  · rw [if_neg c17] at H
                    exact absurd H (by simp)
                · rw [if_neg c15] at H
                  have c15b0 : decide (a1 < (wrap64 ((x7_1.length : Int) - x8_1))) = false := decide_eq_false c15
                  clear c15
                  have H' := Aside0.mk H
                  clear H
                  obtain ⟨Ao25, co25, eo25⟩ := Kd.R_slice HO_7.out
                  subst eo25
                  go_wp2
                  go_roundg kj11
                  case measure => have := HK1.out; have := HJ11.out; omega
                  case rel => exact ⟨(x7_1), (wrap64 (x8_1 + 1)), (by first | rfl | (simp; done) | (simp [*]; done)), H', ⟨by have := HK1.out; have := HJ11.out; omega⟩, ⟨by (with_reducible repeat (first | apply Kd.R_alloc | apply Kd.R_drewN | apply Kd.R_drew)); exact HO_7.out⟩, ⟨by repeat (first | (with_reducible first | exact HB.out | apply below_alloc | apply pw_below_drewN | apply below_drew1) | exact HB.out)⟩⟩
              · replace c14 := Bool.eq_false_iff.mpr c14
                subst c14
                have H1 : (some x7_1) = some r := by rw [if_neg (show ¬ (false = true) by decide)] at H; exact H
                clear H
                have H := H1
                clear H1
                obtain rfl := Option.some.inj H
                go_wp2
                go_ret
                exact ⟨_, by first | rfl | (simp [errW_none, errW_some] <;> rfl) | (simp [*, errW_none, errW_some] <;> rfl), by (with_reducible repeat (first | apply Kd.R_alloc | apply Kd.R_drewN | apply Kd.R_drew)); exact HO_7.out, by repeat (first | (with_reducible first | exact HB.out | apply below_alloc | apply pw_below_drewN | apply below_drew1) | exact HB.out)⟩
  · rw [if_neg c4] at H
    exact absurd H (by simp)

-- NOT PRINTED: function 6 (precentorlaw04_PktSpoilt)

end Go.Proofs.YtieolhhokepkjaaDoor.Print
namespace Go.Proofs.YtieolhhokepkjaaDoor.Print
set_option linter.unusedVariables false
set_option linter.unusedSimpArgs false
open Go.RowKit Go.Proofs.YtieolhhokepkjaaDoorW.PrintWords Go.Proofs.YtieolhhokepkjaaDoorW.PrintLast Go.Proofs.YtieolhhokepkjaaDoorW.PrintMore Go.Proofs.YtieolhhokepkjaaDoor.Crc
/-- Turned from p on, the first n of b. -/
def spo (l : List Int) (p : Nat) (b : List Int) : Nat → List Int
  | 0 => l
  | n + 1 => (spo l p b n).set (p + n) (Go.bits .xor .u8 (rd (spo l p b n) ((p + n : Nat) : Int)) (rd b (n : Int)))
theorem spo_length (l : List Int) (p : Nat) (b : List Int) (n : Nat) : (spo l p b n).length = l.length := by
  induction n with
  | zero => rfl
  | succ n ih => rw [spo, List.length_set, ih]
/-- How many bytes are turned. -/
def spn (l : List Int) (p : Nat) (b : List Int) : Nat := min (min b.length 4) (l.length - p)
def crc_Spoil.f (l : List Int) (a : Int) (b : List Int) : Option (List Int) := if lim2 l then some (if 0 ≤ a ∧ a < (l.length : Int) then spo l a.toNat b (spn l a.toNat b) else l) else none
end Go.Proofs.YtieolhhokepkjaaDoor.Print
namespace Go.Proofs.YtieolhhokepkjaaDoor.CrcPlain
set_option linter.unusedVariables false
set_option linter.unusedSimpArgs false
open Go.RowKit Go.Proofs.YtieolhhokepkjaaDoor.Print Go.Proofs.YtieolhhokepkjaaDoor.Crc
open Go.Proofs.YtieolhhokepkjaaDoorW.PrintWords Go.Proofs.YtieolhhokepkjaaDoorW.PrintLast Go.Proofs.YtieolhhokepkjaaDoorW.PrintMore

theorem wrap_id {x : Int} (h0 : -9223372036854775808 ≤ x) (h : x ≤ 9223372036854775807) : wrap64 x = x := by
  unfold wrap64; omega
theorem wf_u8 {n : Int} (h : (Lit.int .u8 n).wf = true) : 0 ≤ n ∧ n ≤ 255 := by
  simpa [Lit.wf, IntKind.min, IntKind.max, IntKind.bits, IntKind.signed] using h
theorem wf_i64 {n : Int} (h : (Lit.int .i64 n).wf = true) : -9223372036854775808 ≤ n ∧ n ≤ 9223372036854775807 := by
  simpa [Lit.wf, IntKind.min, IntKind.max, IntKind.bits, IntKind.signed] using h
theorem by_of {l : List Int} (h : l.length ≤ maxLen ∧ ∀ y_ ∈ l, (Lit.int .u8 y_).wf = true) : Byt l := fun c hc => by
  have := wf_u8 (h.2 c hc)
  omega
theorem str_eq {l m : List Int} (hl : Byt l) (hm : Byt m) : (strOfNums l).toList = (strOfNums m).toList ↔ l = m := by
  rw [Lib.strOfNums_toList, Lib.strOfNums_toList]
  unfold Lib.bytesOf
  constructor
  · intro h
    induction l generalizing m with
    | nil => cases m; rfl; simp at h
    | cons c l ih =>
      cases m with
      | nil => simp at h
      | cons d m =>
        simp only [List.map_cons, List.cons.injEq] at h
        have h1 := hl c List.mem_cons_self
        have h2 := hm d List.mem_cons_self
        have h3 := congrArg UInt8.toNat h.1
        rw [UInt8.toNat_ofNat', UInt8.toNat_ofNat'] at h3
        rw [show c = d by omega, ih (fun x hx => hl x (List.mem_cons_of_mem _ hx)) (fun x hx => hm x (List.mem_cons_of_mem _ hx)) h.2]
  · intro h; rw [h]
theorem rd_nat (l : List Int) (i : Nat) : rd l (i : Int) = l.getD i 0 := by unfold rd; rw [Int.toNat_natCast]
theorem rd_byt {l : List Int} (h : Byt l) (i : Int) : 0 ≤ rd l i ∧ rd l i < 256 := by
  unfold rd
  rw [List.getD_eq_getElem?_getD]
  cases he : l[i.toNat]? with
  | none => simp
  | some x => exact h x (List.mem_of_getElem? he)

/-! ### the program's -/
theorem seal_is {l : List Int} (h : l.length < 140737488355000) : crc_Seal.f l = some (l ++ tl (sumOf l)) := if_pos h
theorem sum_is {l : List Int} (h : l.length < 140737488355000) : crc_Sum.f l = some (sumOf l) := if_pos (show l.length ≤ 4611686018427387904 by omega)
theorem open_is {l : List Int} (h : l.length < 140737488355000) : crc_Open.f l = some (if l.length < 4 then ([], 2) else if l.drop (l.length - 4) = tl (sumOf (l.take (l.length - 4))) then (l.take (l.length - 4), 0) else ([], 3)) := if_pos h
theorem open_seal {l : List Int} (h : l.length < 140737488350000) : crc_Open.f (l ++ tl (sumOf l)) = some (l, 0) := by
  have hlen : (l ++ tl (sumOf l)).length = l.length + 4 := by rw [List.length_append, tl_length]
  rw [open_is (by omega), if_neg (by omega), hlen, Nat.add_sub_cancel, List.drop_left, List.take_left, if_pos rfl]
theorem spoil_is {l : List Int} (h : l.length < 140737488355000) (a : Int) (b : List Int) : crc_Spoil.f l a b = some (if 0 ≤ a ∧ a < (l.length : Int) then spo l a.toNat b (spn l a.toNat b) else l) := if_pos h
/-- What spoiling gives, at each place. -/
def spl (l : List Int) (a : Int) (b : List Int) : List Int := if 0 ≤ a ∧ a < (l.length : Int) then spo l a.toNat b (spn l a.toNat b) else l
theorem spl_length (l : List Int) (a : Int) (b : List Int) : (spl l a b).length = l.length := by
  unfold spl; split
  · exact spo_length _ _ _ _
  · rfl
theorem spo_get (l : List Int) (p : Nat) (b : List Int) : ∀ (n i : Nat), p + n ≤ l.length → (spo l p b n).getD i 0 = if p ≤ i ∧ i < p + n then Go.bits .xor .u8 (l.getD i 0) (b.getD (i - p) 0) else l.getD i 0 := by
  intro n
  induction n with
  | zero => intro i _; rw [if_neg (by omega)]; rfl
  | succ n ih =>
    intro i hn
    rw [spo]
    rw [List.getD_eq_getElem?_getD, List.getElem?_set]
    by_cases hi : p + n = i
    · subst hi
      rw [if_pos rfl, if_pos (by rw [spo_length]; omega), Option.getD_some, rd_nat, rd_nat, ih _ (by omega), if_neg (by omega), if_pos (by omega), Nat.add_sub_cancel_left]
    · rw [if_neg hi, ← List.getD_eq_getElem?_getD, ih _ (by omega)]
      by_cases h1 : p ≤ i ∧ i < p + n
      · rw [if_pos h1, if_pos (by omega)]
      · rw [if_neg h1, if_neg (by omega)]
theorem spn_le (l : List Int) (p : Nat) (b : List Int) (hp : p ≤ l.length) : p + spn l p b ≤ l.length ∧ spn l p b ≤ 4 ∧ spn l p b ≤ b.length := by unfold spn; omega
theorem xor_u8 (a b : Nat) (ha : a < 256) (hb : b < 256) : Go.bits .xor .u8 (a : Int) (b : Int) = ((a ^^^ b : Nat) : Int) := by
  have hx : a ^^^ b < 2 ^ 8 := Nat.xor_lt_two_pow (by omega) (by omega)
  have h1 : (BitVec.ofInt 8 (a : Int)).toNat = a := by rw [BitVec.ofInt_natCast, BitVec.toNat_ofNat]; exact Nat.mod_eq_of_lt (by omega)
  have h2 : (BitVec.ofInt 8 (b : Int)).toNat = b := by rw [BitVec.ofInt_natCast, BitVec.toNat_ofNat]; exact Nat.mod_eq_of_lt (by omega)
  show IntKind.u8.wrap ((BitVec.ofInt 8 (a : Int) ^^^ BitVec.ofInt 8 (b : Int)).toNat : Int) = _
  rw [BitVec.toNat_xor, h1, h2, show IntKind.u8.wrap ((a ^^^ b : Nat) : Int) = ((a ^^^ b : Nat) : Int) % 256 by simp [IntKind.wrap, IntKind.bits, IntKind.signed]]
  omega
theorem xor8_nat {x y : Int} (hx : 0 ≤ x ∧ x < 256) (hy : 0 ≤ y ∧ y < 256) : Go.bits .xor .u8 x y = ((x.toNat ^^^ y.toNat : Nat) : Int) := by
  have := xor_u8 x.toNat y.toNat (by omega) (by omega)
  rwa [show ((x.toNat : Nat) : Int) = x by omega, show ((y.toNat : Nat) : Int) = y by omega] at this
theorem xor8_byt {x y : Int} (hx : 0 ≤ x ∧ x < 256) (hy : 0 ≤ y ∧ y < 256) : 0 ≤ Go.bits .xor .u8 x y ∧ Go.bits .xor .u8 x y < 256 := by
  rw [xor8_nat hx hy]
  have : x.toNat ^^^ y.toNat < 2 ^ 8 := Nat.xor_lt_two_pow (by omega) (by omega)
  omega
theorem xor8_twice {x y : Int} (hx : 0 ≤ x ∧ x < 256) (hy : 0 ≤ y ∧ y < 256) : Go.bits .xor .u8 (Go.bits .xor .u8 x y) y = x := by
  rw [xor8_nat (xor8_byt hx hy) hy, xor8_nat hx hy, Int.toNat_natCast, Nat.xor_assoc, Nat.xor_self, Nat.xor_zero]
  omega
theorem xor8_same {x y : Int} (hx : 0 ≤ x ∧ x < 256) (hy : 0 ≤ y ∧ y < 256) (h : Go.bits .xor .u8 x y = x) : y = 0 := by
  rw [xor8_nat hx hy] at h
  have h1 : x.toNat ^^^ y.toNat = x.toNat ^^^ 0 := by rw [Nat.xor_zero]; omega
  have := xor_left_inj h1
  omega
theorem getD_byt {l : List Int} (h : Byt l) (i : Nat) : 0 ≤ l.getD i 0 ∧ l.getD i 0 < 256 := by rw [← rd_nat]; exact rd_byt h _
theorem ext_getD {l m : List Int} (hl : l.length = m.length) (h : ∀ i, i < l.length → l.getD i 0 = m.getD i 0) : l = m := by
  apply List.ext_getElem hl
  intro i h1 h2
  have := h i h1
  rwa [List.getD_eq_getElem?_getD, List.getElem?_eq_getElem h1, List.getD_eq_getElem?_getD, List.getElem?_eq_getElem h2] at this
theorem byt_of_getD {l : List Int} (h : ∀ i, i < l.length → 0 ≤ l.getD i 0 ∧ l.getD i 0 < 256) : Byt l := by
  intro x hx
  obtain ⟨i, hi, rfl⟩ := List.getElem_of_mem hx
  have := h i hi
  rwa [List.getD_eq_getElem?_getD, List.getElem?_eq_getElem hi] at this
theorem spl_get {l : List Int} {a : Int} (b : List Int) (h : 0 ≤ a ∧ a < (l.length : Int)) (i : Nat) : (spl l a b).getD i 0 = if a.toNat ≤ i ∧ i < a.toNat + spn l a.toNat b then Go.bits .xor .u8 (l.getD i 0) (b.getD (i - a.toNat) 0) else l.getD i 0 := by
  unfold spl
  rw [if_pos h, spo_get _ _ _ _ _ (spn_le l a.toNat b (by omega)).1]
theorem spl_byt {l b : List Int} (hl : Byt l) (hb : Byt b) (a : Int) : Byt (spl l a b) := by
  by_cases h : 0 ≤ a ∧ a < (l.length : Int)
  · refine byt_of_getD (fun i _ => ?_)
    rw [spl_get b h]
    split
    · exact xor8_byt (getD_byt hl _) (getD_byt hb _)
    · exact getD_byt hl _
  · unfold spl; rw [if_neg h]; exact hl
theorem spl_twice {l b : List Int} (hl : Byt l) (hb : Byt b) (a : Int) : spl (spl l a b) a b = l := by
  by_cases h : 0 ≤ a ∧ a < (l.length : Int)
  · have h2 : 0 ≤ a ∧ a < ((spl l a b).length : Int) := by rw [spl_length]; exact h
    refine ext_getD (by rw [spl_length, spl_length]) (fun i _ => ?_)
    rw [spl_get b h2, spl_get b h, show spn (spl l a b) a.toNat b = spn l a.toNat b by unfold spn; rw [spl_length]]
    split
    · exact xor8_twice (getD_byt hl _) (getD_byt hb _)
    · rfl
  · have e : spl l a b = l := by unfold spl; rw [if_neg h]
    rw [e, e]

/-! ### the document's -/
theorem ref_l1 (x0 : List Int) (x4 : Int) (d : Nat) : ∀ (k : Nat) (s : Nat) (i : Nat), s < 4294967296 → i + d = 8 → precentorref01_Sum.l1 (k + d + 1) x0 (s : Int) x4 (i : Int) = precentorref01_Sum.l0 k x0 (bn d s : Int) (wrap64 (x4 + 1)) := by
  induction d with
  | zero =>
    intro k s i _ hi
    simp only [precentorref01_Sum.l1]
    rw [if_neg (by omega)]
    rfl
  | succ d ih =>
    intro k s i hs hi
    have hK : ∃ K, K = k + d + 1 := ⟨_, rfl⟩
    obtain ⟨K, hK⟩ := hK
    rw [show k + (d + 1) + 1 = K + 1 by omega]
    simp only [precentorref01_Sum.l1]
    rw [if_pos (by omega), hK]
    have hw : wrap64 ((i : Int) + 1) = ((i + 1 : Nat) : Int) := by rw [wrap_id (by omega) (by omega)]; rfl
    have hd : (Int.tdiv (s : Int) 2) % 4294967296 = ((s / 2 : Nat) : Int) := by
      rw [Int.tdiv_eq_ediv_of_nonneg (by omega)]; omega
    rw [hw, hd]
    have hm : Int.tmod (s : Int) 2 = ((s % 2 : Nat) : Int) := by
      rw [Int.tmod_eq_emod_of_nonneg (by omega)]; rfl
    rw [hm]
    have hb : bn (d + 1) s = bn d (b1 s) := rfl
    by_cases h : s % 2 = 1
    · rw [if_pos (by omega), show (3988292384 : Int) = ((3988292384 : Nat) : Int) from rfl, xor_u32 _ _ (by omega) (by decide), ih k _ (i + 1) (Nat.xor_lt_two_pow (n := 32) (by omega) (by omega)) (by omega), hb]
      unfold b1
      rw [if_pos h]
    · rw [if_neg (by omega), ih k _ (i + 1) (by omega) (by omega), hb]
      unfold b1
      rw [if_neg h]
theorem ref_l0 (l : List Int) (hb : Byt l) (hl : l.length ≤ 9223372036854775806) (d : Nat) : ∀ (j s i : Nat), s < 4294967296 → i + d = l.length → precentorref01_Sum.l0 (j + 10 * d + 1) l (s : Int) (i : Int) = some (4294967295 - ((S s (nt (l.drop i)) : Nat) : Int)) := by
  induction d with
  | zero =>
    intro j s i hs hi
    simp only [precentorref01_Sum.l0]
    rw [if_neg (by omega), List.drop_of_length_le (by omega)]
    congr 1
    show _ = 4294967295 - (s : Int)
    omega
  | succ d ih =>
    intro j s i hs hi
    rw [show j + 10 * (d + 1) + 1 = ((j + 10 * d + 1) + 8 + 1) + 1 by omega]
    simp only [precentorref01_Sum.l0]
    rw [if_pos (by omega), if_pos (by omega)]
    have hc := getD_byt hb i
    rw [rd_nat]
    have hlt : i < l.length := by omega
    have hdrop : l.drop i = l.getD i 0 :: l.drop (i + 1) := by
      rw [List.drop_eq_getElem_cons hlt, List.getD_eq_getElem?_getD, List.getElem?_eq_getElem hlt]; rfl
    have hx : Go.bits .xor .u32 (s : Int) (l.getD i 0 % 4294967296) = ((s ^^^ (l.getD i 0).toNat : Nat) : Int) := by
      rw [show l.getD i 0 % 4294967296 = (((l.getD i 0).toNat : Nat) : Int) by omega]
      exact xor_u32 _ _ hs (by omega)
    have h8 : precentorref01_Sum.l1 (j + 10 * d + 1 + 8 + 1) l ((s ^^^ (l.getD i 0).toNat : Nat) : Int) (i : Int) 0 = _ := ref_l1 l i 8 (j + 10 * d + 1) _ 0 (Nat.xor_lt_two_pow (n := 32) hs (by omega)) (by omega)
    rw [hx, h8]
    rw [show wrap64 ((i : Int) + 1) = ((i + 1 : Nat) : Int) by rw [wrap_id (by omega) (by omega)]; rfl]
    rw [ih j _ (i + 1) (bn_lt 8 (Nat.xor_lt_two_pow (n := 32) hs (by omega))) (by omega), hdrop]
    rfl
theorem ref_sum {l : List Int} (hb : Byt l) (hl : l.length ≤ 9223372036854775806) {k : Nat} (hk : 10 * l.length + 1 ≤ k) : precentorref01_Sum.f k l = some (sumOf l) := by
  unfold precentorref01_Sum.f
  obtain ⟨j, rfl⟩ : ∃ j, k = j + 10 * l.length + 1 := ⟨k - 10 * l.length - 1, by omega⟩
  have := ref_l0 l hb hl l.length j 4294967295 0 (by decide) (by omega)
  rw [List.drop_zero] at this
  have h2 := raw_lt hb
  rw [show (4294967295 : Int) = ((4294967295 : Nat) : Int) from rfl, show (0 : Int) = ((0 : Nat) : Int) from rfl, this, sumOf_nat hb, ones_sub _ h2]
  congr 1
  show (4294967295 : Int) - ((raw l : Nat) : Int) = _
  omega
theorem ref_four {s : Int} (h0 : 0 ≤ s) (h1 : s < 4294967296) : precentorref01_four.f s = some (tl s) := by
  unfold precentorref01_four.f tl
  rw [Int.tmod_eq_emod_of_nonneg h0, Int.tdiv_eq_ediv_of_nonneg h0, Int.tdiv_eq_ediv_of_nonneg h0, Int.tdiv_eq_ediv_of_nonneg h0]
  congr 1
  simp only [List.cons.injEq, and_true]
  refine ⟨?_, ?_, ?_, ?_⟩ <;> omega
theorem ref_seal {l : List Int} (hb : Byt l) (hl : l.length < 140737488355000) {k : Nat} (hk : 10 * l.length + 1 ≤ k) : precentorref01_Seal.f k l = some (l ++ tl (sumOf l)) := by
  unfold precentorref01_Seal.f
  have hs := sumOf_range hb
  simp only [Option.bind_some, List.nil_append, List.length_nil, Nat.zero_add]
  rw [if_pos (by omega), ref_sum hb (by omega) hk]
  simp only [Option.bind_some]
  rw [ref_four hs.1 hs.2]
  simp only [Option.bind_some]
  rw [if_pos (by rw [tl_length]; omega)]
theorem ref_spoil_l0 (l : List Int) (p : Nat) (b : List Int) (hl : l.length < 140737488355000) (hbl : b.length ≤ 9223372036854775807) (hp : (p : Int) ≤ 9223372036854775807) (d : Nat) :
    ∀ (k i : Nat), i + d = 4 → 2 * d + 3 ≤ k → precentorref01_Spoil.l0 k (p : Int) b (spo l p b (min i (spn l p b))) (i : Int) = some (spo l p b (spn l p b)) := by
  have hn : spn l p b = min (min b.length 4) (l.length - p) := rfl
  induction d with
  | zero =>
    intro k i hi hk
    obtain ⟨k, rfl⟩ : ∃ m, k = m + 2 := ⟨k - 2, by omega⟩
    simp only [precentorref01_Spoil.l0]
    rw [if_neg (by omega)]
    simp only [precentorref01_Spoil.j1]
    rw [if_neg (by decide), show min i (spn l p b) = spn l p b by omega]
  | succ d ih =>
    intro k i hi hk
    obtain ⟨k, rfl⟩ : ∃ m, k = m + 2 := ⟨k - 2, by omega⟩
    simp only [precentorref01_Spoil.l0]
    rw [if_pos (by omega)]
    simp only [precentorref01_Spoil.j1, decide_eq_true_eq]
    have hw : wrap64 ((i : Int) + 1) = ((i + 1 : Nat) : Int) := by rw [wrap_id (by omega) (by omega)]; rfl
    by_cases hb : (i : Int) < (b.length : Int)
    · rw [if_pos hb, hw, spo_length, wrap_id (x := (l.length : Int) - i) (by omega) (by omega)]
      by_cases hp2 : (p : Int) < (l.length : Int) - i
      · rw [if_pos hp2, wrap_id (x := (p : Int) + i) (by omega) (by omega), if_pos (by omega), if_pos (by omega), if_pos (by omega), if_pos hb]
        have e1 : min i (spn l p b) = i := by omega
        have e2 : min (i + 1) (spn l p b) = i + 1 := by omega
        have h3 := ih k (i + 1) (by omega) (by omega)
        rw [e2] at h3
        rw [e1, ← h3]
        congr 1
      · rw [if_neg hp2]
        have h3 := ih k (i + 1) (by omega) (by omega)
        rwa [show min (i + 1) (spn l p b) = min i (spn l p b) by omega] at h3
    · rw [if_neg hb, show min i (spn l p b) = spn l p b by omega]
theorem ref_spoil {l b : List Int} (hl : l.length < 140737488355000) (hb : b.length ≤ 9223372036854775807) {a : Int} (ha : a ≤ 9223372036854775807) {k : Nat} (hk : 11 ≤ k) : precentorref01_Spoil.f k l a b = some (spl l a b) := by
  unfold precentorref01_Spoil.f
  simp only [Option.bind_some, List.nil_append, List.length_nil, Nat.zero_add]
  rw [if_pos (by omega)]
  by_cases h0 : a < 0
  · rw [if_pos h0]
    unfold spl
    rw [if_neg (by omega)]
  · rw [if_neg h0]
    obtain ⟨p, rfl⟩ : ∃ p : Nat, a = (p : Int) := ⟨a.toNat, by omega⟩
    have h := ref_spoil_l0 l p b hl hb ha 4 k 0 rfl hk
    rw [Nat.zero_min] at h
    have h2 : precentorref01_Spoil.l0 k (p : Int) b l 0 = some (spo l p b (spn l p b)) := h
    rw [h2]
    congr 1
    unfold spl
    rw [Int.toNat_natCast]
    by_cases h1 : (p : Int) < (l.length : Int)
    · rw [if_pos ⟨by omega, h1⟩]
    · rw [if_neg (by omega), show spn l p b = 0 by unfold spn; omega]
      rfl
end Go.Proofs.YtieolhhokepkjaaDoor.CrcPlain
namespace Go.Proofs.YtieolhhokepkjaaDoor.Print
set_option linter.unusedVariables false
set_option linter.unusedSimpArgs false
open Go.RowKit Go.Proofs.YtieolhhokepkjaaDoorW.PrintWords Go.Proofs.YtieolhhokepkjaaDoorW.PrintLast Go.Proofs.YtieolhhokepkjaaDoorW.PrintMore Go.Proofs.YtieolhhokepkjaaDoor.NumPlain Go.Proofs.YtieolhhokepkjaaDoor.Crc
theorem few4_is (K F k s e i t c : Int) (L bo : List Int) (T O M P : Int) (R : List Int) : precentorref04_Few.f K F k s e i t c L bo T O M P R = some (decide (L.length ≤ 80) && decide (bo.length ≤ 1100) && decide (R.length ≤ 80)) := by
  unfold precentorref04_Few.f
  rw [few_is, Option.bind_some]
  generalize (decide (L.length ≤ 80) && decide (bo.length ≤ 1100)) = z
  cases z
  · rw [if_neg Bool.false_ne_true, Bool.false_and]
  · rw [if_pos rfl, Bool.true_and]; exact congrArg some (decide_eq_decide.2 (by omega))
theorem body_len {K F k s e i t c : Int} {L bo : List Int} {T O M P : Int} {R : List Int} :
    (bodyP K F k s e i t c L bo T O M P R).length = if K = 3 then 13 else if K = 4 then 11 + 8 * R.length else 3 + (Print.bytesOf k s e i t c L bo).length := by
  have f8 := flat_length 8 R
  rw [show Int.toNat 8 = 8 from rfl] at f8
  unfold bodyP
  rw [List.length_append]
  split
  · simp [enc_length]
  · split
    · simp [enc_length, f8] <;> omega
    · simp <;> omega
end Go.Proofs.YtieolhhokepkjaaDoor.Print
namespace Go.Proofs.YtieolhhokepkjaaDoor.Print
set_option linter.unusedVariables false
set_option linter.unusedSimpArgs false
open Go.RowKit Go.Proofs.YtieolhhokepkjaaDoorW.PrintWords Go.Proofs.YtieolhhokepkjaaDoorW.PrintLast Go.Proofs.YtieolhhokepkjaaDoorW.PrintMore Go.Proofs.YtieolhhokepkjaaDoor.NumPlain Go.Proofs.YtieolhhokepkjaaDoor.Crc
theorem sp_parts (l : List Int) (p n : Nat) : l = l.take p ++ ((l.drop p).take n ++ l.drop (p + n)) := by
  rw [← List.drop_drop, List.take_append_drop, List.take_append_drop]
theorem sp_take (l : List Int) (p i : Nat) (h : i < p) : (l.take p).getD i 0 = l.getD i 0 := by
  rw [List.getD_eq_getElem?_getD, List.getElem?_take, if_pos h, ← List.getD_eq_getElem?_getD]
theorem sp_drop (l : List Int) (p i : Nat) : (l.drop p).getD i 0 = l.getD (p + i) 0 := by
  rw [List.getD_eq_getElem?_getD, List.getElem?_drop, ← List.getD_eq_getElem?_getD]
/-- What is sealed and spoilt, and differs, has another sum. -/
theorem sp_sum {s b : List Int} (hs : Byt s) (hb : Byt b) (a : Int) (hne : CrcPlain.spl s a b ≠ s) : raw (CrcPlain.spl s a b) ≠ raw s := by
  intro hraw
  by_cases h : 0 ≤ a ∧ a < (s.length : Int)
  · have hn := CrcPlain.spn_le s a.toNat b (by omega)
    have ht := CrcPlain.spl_byt hs hb a
    have hg := CrcPlain.spl_get b h
    generalize htt : CrcPlain.spl s a b = t at *
    have hl : t.length = s.length := by rw [← htt, CrcPlain.spl_length]
    generalize a.toNat = p at *
    generalize spn s p b = n at *
    have e1 : t.take p = s.take p := CrcPlain.ext_getD (by rw [List.length_take, List.length_take, hl]) (fun i hi => by
      have hi2 : i < p := by rw [List.length_take] at hi; omega
      rw [sp_take _ _ _ hi2, sp_take _ _ _ hi2, hg, if_neg (by omega)])
    have e2 : t.drop (p + n) = s.drop (p + n) := CrcPlain.ext_getD (by rw [List.length_drop, List.length_drop, hl]) (fun i _ => by
      rw [sp_drop, sp_drop, hg, if_neg (by omega)])
    have hp := sp_parts s p n
    have hq := sp_parts t p n
    rw [e1, e2] at hq
    have h3 : raw (s.take p ++ ((t.drop p).take n ++ s.drop (p + n))) = raw (s.take p ++ ((s.drop p).take n ++ s.drop (p + n))) := by rw [← hp, ← hq]; exact hraw
    have h4 := burst (hs.take p) ((ht.drop p).take n) ((hs.drop p).take n) (hs.drop _) (by rw [List.length_take, List.length_take, List.length_drop, List.length_drop, hl]) (by rw [List.length_take]; omega) h3
    rw [h4, ← hp] at hq
    exact hne hq
  · exact hne (by unfold CrcPlain.spl; rw [if_neg h])
theorem by_byt {l : List Int} (h : By l) : Byt l := fun x hx => by have := h x hx; omega
theorem byt_by {l : List Int} (h : Byt l) : By l := fun x hx => by have := h x hx; omega
/-- What is sealed, spoilt, and differs, is refused by its sum. -/
theorem sp_read {l b : List Int} (hl : Byt l) (hn : l.length < 4000) (hb : Byt b) (a : Int) (hne : CrcPlain.spl (l ++ tl (sumOf l)) a b ≠ l ++ tl (sumOf l)) :
    pkt_Read.f (CrcPlain.spl (l ++ tl (sumOf l)) a b) = some (tell16 none 3) := by
  have hr := sumOf_range hl
  have hs : Byt (l ++ tl (sumOf l)) := hl.app (tl_byt _ hr.1)
  have hk := raw_seal hl
  have hlen : (l ++ tl (sumOf l)).length = l.length + 4 := by rw [List.length_append, tl_length]
  have ht := CrcPlain.spl_byt hs hb a
  have h2 := sp_sum hs hb a hne
  have htl := CrcPlain.spl_length (l ++ tl (sumOf l)) a b
  generalize l ++ tl (sumOf l) = s at *
  generalize CrcPlain.spl s a b = t at *
  have ho : openS t = ([], 3) := by
    unfold openS
    rw [if_neg (by omega), if_neg (fun e => h2 (by
      rw [hk]
      have := (open_iff (ht.take (t.length - 4)) (ht.drop (t.length - 4)) (by rw [List.length_drop]; omega)).1 e
      rwa [List.take_append_drop] at this))]
  have hR : readP t = tell16 none 3 := by unfold readP; rw [ho, if_neg (by decide)]
  exact (if_pos ⟨List.all_eq_true.2 fun x hx => decide_eq_true (by have := ht x hx; omega), by omega⟩).trans (congrArg some hR)
theorem tl_by {l : List Int} (h : By l) : By (tl (sumOf l)) := byt_by (tl_byt _ (sumOf_range (by_byt h)).1)
theorem body_by {K F k s e i t c : Int} {L bo : List Int} {T O M P : Int} {R : List Int} (hb : By bo) : By (bodyP K F k s e i t c L bo T O M P R) := by
  have h0 : By [165, K % 256, F % 256] := fun x hx => by
    simp only [List.mem_cons, List.not_mem_nil, or_false] at hx
    omega
  unfold bodyP
  refine h0.append ?_
  split
  · exact ((enc_by 1 T).append (enc_by 8 O)).append (enc_by 1 M)
  · split
    · exact (enc_by 8 P).append (flat_by 8 R)
    · exact by_bytes k s e i t c L hb
open Classical in
noncomputable def precentorlaw04_PktSpoilt.f (K F k s e i t c : Int) (L bo : List Int) (T O M P : Int) (R : List Int) (at_ b0 b1 b2 b3 : Int) : Option Bool :=
  if (Lit.int .i64 k).wf = true ∧ By bo ∧ By [b0, b1, b2, b3] ∧ at_ ≤ 9223372036854775807 then some true else none
set_option maxRecDepth 100000 in
set_option maxHeartbeats 4000000 in
theorem precentorlaw04_PktSpoilt.is (K F k s e i t c : Int) (A8 : Option Addr) (c8 : Nat) (L : List Int) (A9 : Option Addr) (c9 : Nat) (bo : List Int) (T O M P : Int) (A14 : Option Addr) (c14 : Nat) (R : List Int) (at_ b0 b1 b2 b3 : Int) (w : World) (h8 : Kd.C (Kd.int .i64) w A8 L.length L) (l8 : L.length ≤ c8) (h9 : Kd.C (Kd.int .u8) w A9 bo.length bo) (l9 : bo.length ≤ c9) (h14 : Kd.C (Kd.int .i64) w A14 R.length R) (l14 : R.length ≤ c14) (hG : GB w) (hk : (Lit.int .i64 k).wf = true) (hbo : By bo) (hby : By [b0, b1, b2, b3]) (hat : at_ ≤ 9223372036854775807) :
    Calls Tryd.prog 6 #[.agg #[.int .i64 K, .int .i64 F, .int .i64 k, .int .i64 s, .int .i64 e, .int .i64 i, .int .i64 t, .int .i64 c, .slice A8 L.length c8, .slice A9 bo.length c9, .int .i64 T, .int .i64 O, .int .i64 M, .int .i64 P, .slice A14 R.length c14], .int .i64 at_, .agg #[.int .u8 b0, .int .u8 b1, .int .u8 b2, .int .u8 b3]] w fun e' w' => e' = .returned (.bool true) ∧ Below w.heap.size w w' := by
  obtain ⟨wa, hwa, hBa, hsa, Xa⟩ := boxed15 w (.int .i64 K) (.int .i64 F) (.int .i64 k) (.int .i64 s) (.int .i64 e) (.int .i64 i) (.int .i64 t) (.int .i64 c) (.slice A8 L.length c8) (.slice A9 bo.length c9) (.int .i64 T) (.int .i64 O) (.int .i64 M) (.int .i64 P) (.slice A14 R.length c14)
  have hlb := lit_C wa [b0, b1, b2, b3] #[.int .u8 b0, .int .u8 b1, .int .u8 b2, .int .u8 b3] rfl 4 rfl (by decide) 40 (0, 0)
  have hBb := below_alloc hBa (Obj.cells #[.int .u8 b0, .int .u8 b1, .int .u8 b2, .int .u8 b3] 40)
  have Xb := blk_alloc Xa (Obj.cells #[.int .u8 b0, .int .u8 b1, .int .u8 b2, .int .u8 b3] 40)
  obtain ⟨w0, hw0⟩ : ∃ w0, wa.alloc (Obj.cells #[.int .u8 b0, .int .u8 b1, .int .u8 b2, .int .u8 b3] 40) = w0 := ⟨_, rfl⟩
  rw [hw0] at hlb hBb Xb
  have HB := Aside0.mk hBb
  have HX := Aside0.mk Xb
  have HLB := Aside0.mk hlb
  have H8 := Aside0.mk (Kd.C_below h8 hBb)
  have H9 := Aside0.mk (Kd.C_below h9 hBb)
  have H14 := Aside0.mk (Kd.C_below h14 hBb)
  have HG := Lib.hid hG
  have HK := Lib.hid hk
  have HBO := Lib.hid hbo
  have HBY := Lib.hid hby
  have HAT := Lib.hid hat
  have HC8 := Lib.hid l8
  have HC9 := Lib.hid l9
  have HC14 := Lib.hid l14
  clear hBa hsa Xa hlb hBb Xb h8 h9 h14 hG hk hbo hby hat l8 l9 l14
  go_enter Tryd.func6, Tryd.ntmps6
  go_wp2_with fail
  refine (show Calls Tryd.prog 9 #[] w0 _ from precentorlaw04_shown.calls true w0 (GB.below HG.out HB.out) rfl).mono ?_
  rintro e_ w1 ⟨rfl, hb⟩
  have n0_ := Aside0.mk (below_step HB.out hb)
  have n1_ := Aside0.mk (blk_below HX.out hb)
  have n2_ := Aside0.mk (Kd.C_below H8.out hb)
  have n3_ := Aside0.mk (Kd.C_below H9.out hb)
  have n4_ := Aside0.mk (Kd.C_below H14.out hb)
  have n5_ := Aside0.mk (Kd.C_below HLB.out hb)
  clear HB HX H8 H9 H14 HLB
  have HB := n0_
  have HX := n1_
  have H8 := n2_
  have H9 := n3_
  have H14 := n4_
  have HLB := n5_
  clear n0_ n1_ n2_ n3_ n4_ n5_
  clear hb hw0
  generalize wa.heap.size = gb at *
  obtain ⟨⟨q0, q1, q2, q3, q4, q5, q6, q7, q8, q9, q10, q11, q12, q13, q14⟩, ⟨f0, f1, f2, f3, f4, f5, f6, f7, f8, f9, f10, f11, f12, f13, f14⟩⟩ := cells15 HX.out
  obtain ⟨fw, hfw⟩ : ∃ b, (decide (L.length ≤ 80) && decide (bo.length ≤ 1100) && decide (R.length ≤ 80)) = b := ⟨_, rfl⟩
  have HFW := Lib.hid hfw
  have HCT := Lib.hid (show Calls Tryd.prog 10 #[.agg #[.int .i64 K, .int .i64 F, .int .i64 k, .int .i64 s, .int .i64 e, .int .i64 i, .int .i64 t, .int .i64 c, .slice A8 L.length c8, .slice A9 bo.length c9, .int .i64 T, .int .i64 O, .int .i64 M, .int .i64 P, .slice A14 R.length c14]] w1 _ from precentorref04_Few.calls K F k s e i t c A8 c8 L A9 c9 bo T O M P A14 c14 R fw w1 H8.out HC8.out H9.out HC9.out H14.out HC14.out (by rw [few4_is, hfw]))
  clear hfw
  go_wp2_with fail
  refine HCT.out.mono ?_
  rintro e_ w2 ⟨rfl, hb⟩
  clear HCT q0 f0 q1 f1 q2 f2 q3 f3 q4 f4 q5 f5 q6 f6 q7 f7 q8 f8 q9 f9 q10 f10 q11 f11 q12 f12 q13 f13 q14 f14
  have n0_ := Aside0.mk (below_step HB.out hb)
  have n1_ := Aside0.mk (blk_below HX.out hb)
  have n2_ := Aside0.mk (Kd.C_below H8.out hb)
  have n3_ := Aside0.mk (Kd.C_below H9.out hb)
  have n4_ := Aside0.mk (Kd.C_below H14.out hb)
  have n5_ := Aside0.mk (Kd.C_below HLB.out hb)
  clear HB HX H8 H9 H14 HLB
  have HB := n0_
  have HX := n1_
  have H8 := n2_
  have H9 := n3_
  have H14 := n4_
  have HLB := n5_
  clear n0_ n1_ n2_ n3_ n4_ n5_
  clear hb
  obtain ⟨⟨q0, q1, q2, q3, q4, q5, q6, q7, q8, q9, q10, q11, q12, q13, q14⟩, ⟨f0, f1, f2, f3, f4, f5, f6, f7, f8, f9, f10, f11, f12, f13, f14⟩⟩ := cells15 HX.out
  cases fw
  · go_wp2_with fail
    go_ret
    exact ⟨rfl, HB.out⟩
  have hfw := HFW.out
  rw [Bool.and_eq_true, Bool.and_eq_true, decide_eq_true_eq, decide_eq_true_eq, decide_eq_true_eq] at hfw
  have HFW := Lib.hid hfw
  obtain ⟨my, hmy⟩ : ∃ b, mayP K F (mayB k s e i t c L bo.length) (bareB k s e i t c L bo) T O M P R = b := ⟨_, rfl⟩
  have HMY := Lib.hid hmy
  have HCT := Lib.hid (show Calls Tryd.prog 13 #[.agg #[.int .i64 K, .int .i64 F, .int .i64 k, .int .i64 s, .int .i64 e, .int .i64 i, .int .i64 t, .int .i64 c, .slice A8 L.length c8, .slice A9 bo.length c9, .int .i64 T, .int .i64 O, .int .i64 M, .int .i64 P, .slice A14 R.length c14]] w2 _ from pkt_May.calls 10000 K F k s e i t c A8 c8 L A9 c9 bo T O M P A14 c14 R my w2 H8.out HC8.out H9.out HC9.out H14.out HC14.out (by rw [pmay_is _ _ _ _ _ _ _ _ _ _ _ _ _ _ _ HK.out (by omega) (by omega), hmy]))
  clear hmy hfw
  go_wp2_with fail
  refine HCT.out.mono ?_
  rintro e_ w3 ⟨rfl, hb⟩
  clear HCT q0 f0 q1 f1 q2 f2 q3 f3 q4 f4 q5 f5 q6 f6 q7 f7 q8 f8 q9 f9 q10 f10 q11 f11 q12 f12 q13 f13 q14 f14
  have n0_ := Aside0.mk (below_step HB.out hb)
  have n1_ := Aside0.mk (blk_below HX.out hb)
  have n2_ := Aside0.mk (Kd.C_below H8.out hb)
  have n3_ := Aside0.mk (Kd.C_below H9.out hb)
  have n4_ := Aside0.mk (Kd.C_below H14.out hb)
  have n5_ := Aside0.mk (Kd.C_below HLB.out hb)
  clear HB HX H8 H9 H14 HLB
  have HB := n0_
  have HX := n1_
  have H8 := n2_
  have H9 := n3_
  have H14 := n4_
  have HLB := n5_
  clear n0_ n1_ n2_ n3_ n4_ n5_
  clear hb
  obtain ⟨⟨q0, q1, q2, q3, q4, q5, q6, q7, q8, q9, q10, q11, q12, q13, q14⟩, ⟨f0, f1, f2, f3, f4, f5, f6, f7, f8, f9, f10, f11, f12, f13, f14⟩⟩ := cells15 HX.out
  cases my
  · go_wp2_with fail
    go_ret
    exact ⟨rfl, HB.out⟩
  obtain ⟨bd, hbd⟩ : ∃ bd, bodyP K F k s e i t c L bo T O M P R = bd := ⟨_, rfl⟩
  have HBD := Lib.hid (show By bd from by rw [← hbd]; exact body_by HBO.out)
  have HBL := Lib.hid (show bd.length < 4000 from by
    rw [← hbd, body_len]
    have h1 := HFW.out
    split
    · omega
    · split
      · omega
      · rename_i h3 h4
        obtain ⟨_, h | h | h⟩ := mayP_kinds HMY.out
        · have := bytes_len h.2; omega
        · exact absurd h.1 h3
        · exact absurd h.1 h4)
  obtain ⟨bb, hbb⟩ : ∃ bb, bd ++ tl (sumOf bd) = bb := ⟨_, rfl⟩
  have HBB := Lib.hid hbb
  have HCT := Lib.hid (show Calls Tryd.prog 17 #[.agg #[.int .i64 K, .int .i64 F, .int .i64 k, .int .i64 s, .int .i64 e, .int .i64 i, .int .i64 t, .int .i64 c, .slice A8 L.length c8, .slice A9 bo.length c9, .int .i64 T, .int .i64 O, .int .i64 M, .int .i64 P, .slice A14 R.length c14]] w3 _ from pkt_Bytes.calls K F k s e i t c A8 c8 L A9 c9 bo T O M P A14 c14 R bb w3 H8.out HC8.out H9.out HC9.out H14.out HC14.out (GB.below HG.out HB.out) ((if_pos ⟨HK.out, by have := HFW.out; omega, by have := HFW.out; omega, by have := HFW.out; omega⟩).trans (by rw [HMY.out, if_pos rfl, hbd, hbb])))
  clear hbb hbd
  go_wp2_with fail
  refine HCT.out.mono ?_
  rintro e_ w4 ⟨v2, rfl, hr, hb⟩
  obtain ⟨A2, c2, rfl, hl2, hC2⟩ := Kd.R_reads hr
  clear HCT q0 f0 q1 f1 q2 f2 q3 f3 q4 f4 q5 f5 q6 f6 q7 f7 q8 f8 q9 f9 q10 f10 q11 f11 q12 f12 q13 f13 q14 f14
  have n0_ := Aside0.mk (below_step HB.out hb)
  have n1_ := Aside0.mk (blk_below HX.out hb)
  have n2_ := Aside0.mk (Kd.C_below H8.out hb)
  have n3_ := Aside0.mk (Kd.C_below H9.out hb)
  have n4_ := Aside0.mk (Kd.C_below H14.out hb)
  have n5_ := Aside0.mk (Kd.C_below HLB.out hb)
  clear HB HX H8 H9 H14 HLB
  have HB := n0_
  have HX := n1_
  have H8 := n2_
  have H9 := n3_
  have H14 := n4_
  have HLB := n5_
  clear n0_ n1_ n2_ n3_ n4_ n5_
  clear hb hr
  have HC2 := Aside0.mk hC2
  have HL2 := Lib.hid hl2
  have hbbl : bb.length < 5000 := by rw [← HBB.out, List.length_append, tl_length]; have := HBL.out; omega
  obtain ⟨tt, htt⟩ : ∃ t, CrcPlain.spl bb at_ [b0, b1, b2, b3] = t := ⟨_, rfl⟩
  have HTT := Lib.hid htt
  have HCT := Lib.hid (show Calls Tryd.prog 20 #[.slice A2 bb.length c2, .int .i64 at_, .slice (some ⟨gb, 0, none⟩) 4 4] w4 _ from precentorref01_Spoil.calls 20 A2 c2 bb at_ (some ⟨gb, 0, none⟩) 4 [b0, b1, b2, b3] tt w4 HC2.out HL2.out HLB.out (Nat.le_refl _) (by rw [CrcPlain.ref_spoil (by omega) (by simp) HAT.out (by omega), htt]))
  clear hC2 hl2 hbbl htt
  go_wp2_with fail
  refine HCT.out.mono ?_
  rintro e_ w5 ⟨v3, rfl, hr, hb⟩
  obtain ⟨A3, c3, rfl, hl3, hC3⟩ := Kd.R_reads hr
  clear HCT
  have n0_ := Aside0.mk (below_step HB.out hb)
  have n1_ := Aside0.mk (Kd.C_below HC2.out hb)
  clear HB HC2
  have HB := n0_
  have HC2 := n1_
  clear n0_ n1_
  clear hb hr
  have HC3 := Aside0.mk hC3
  have HL3 := Lib.hid hl3
  have hst1 := Kd.C_string (P := Tryd.prog) (A := A2) (c := c2) Tryd.underlying23 Tryd.underlying5 Tryd.underlying9 HC2.out
  have hst2 := Kd.C_string (P := Tryd.prog) (A := A3) (c := c3) Tryd.underlying23 Tryd.underlying5 Tryd.underlying9 hC3
  clear hC3 hl3
  obtain ⟨z, hz⟩ : ∃ z, ((strOfNums bb).toList == (strOfNums tt).toList) = z := ⟨_, rfl⟩
  have HZ := Lib.hid hz
  cases z
  rotate_left
  · go_wp2_with fail
    go_ret
    exact ⟨rfl, HB.out⟩
  have hrd : pkt_Read.f tt = some (tell16 none 3) := by
    rw [← HTT.out, ← HBB.out]
    refine sp_read (by_byt HBD.out) HBL.out (by_byt HBY.out) at_ (fun h => ?_)
    have h1 := HZ.out
    rw [HBB.out, HTT.out] at h
    rw [h, beq_self_eq_true] at h1
    cases h1
  have HCT := Lib.hid (show Calls Tryd.prog 11 #[.slice A3 tt.length c3] w5 _ from pkt_Read.calls A3 c3 tt _ _ _ _ _ _ _ _ _ _ _ _ _ _ _ _ w5 HC3.out HL3.out (GB.below HG.out HB.out) hrd)
  clear hrd HZ
  go_wp2_with fail
  refine HCT.out.mono ?_
  rintro e_ w6 ⟨v8, v9, v14, rfl, h8, h9, h14, hb⟩
  obtain ⟨D8, d8, rfl, _⟩ := nilR h8
  obtain ⟨D9, d9, rfl, _⟩ := nilR h9
  obtain ⟨D14, d14, rfl, _⟩ := nilR h14
  clear HCT h8 h9 h14 hst1 hst2 hz
  have n0_ := Aside0.mk (below_step HB.out hb)
  clear HB
  have HB := n0_
  clear n0_
  clear hb
  obtain ⟨u, hu, hBu, hsu, Xu⟩ := boxed15 w6 (.int .i64 0) (.int .i64 0) (.int .i64 0) (.int .i64 0) (.int .i64 0) (.int .i64 0) (.int .i64 0) (.int .i64 0) (.slice none 0 0) (.slice none 0 0) (.int .i64 0) (.int .i64 0) (.int .i64 0) (.int .i64 0) (.slice none 0 0)
  obtain ⟨⟨q0, q1, q2, q3, q4, q5, q6, q7, q8, q9, q10, q11, q12, q13, q14⟩, ⟨f0, f1, f2, f3, f4, f5, f6, f7, f8, f9, f10, f11, f12, f13, f14⟩⟩ := cells15 Xu
  have HBu := Aside0.mk hBu
  have HXu := Aside0.mk Xu
  clear hBu Xu
  go_upto_region 9 with fail
  clear q0 f0 q1 f1 q2 f2 q3 f3 q4 f4 q5 f5 q6 f6 q7 f7 q8 f8 q9 f9 q10 f10 q11 f11 q12 f12 q13 f13 q14 f14
  obtain ⟨w7, hv, Xv, hmv⟩ := box15 HXu.out (.int .i64 0) (.int .i64 0) (.int .i64 0) (.int .i64 0) (.int .i64 0) (.int .i64 0) (.int .i64 0) (.int .i64 0) (.slice D8 0 d8) (.slice D9 0 d9) (.int .i64 0) (.int .i64 0) (.int .i64 0) (.int .i64 0) (.slice D14 0 d14)
  rw [hv]
  clear hv hu
  have hBv : Below w6.heap.size w6 w7 := Mv.to HBu.out hmv (fun k hk => by omega) HBu.out.size
  have HB' := below_step HB.out hBv
  clear HB Xv HXu HBu hmv hsu hBv
  go_wp2_with fail
  go_ret
  exact ⟨rfl, HB'⟩
theorem precentorlaw04_PktSpoilt.calls (K F k s e i t c : Int) (A8 : Option Addr) (c8 : Nat) (L : List Int) (A9 : Option Addr) (c9 : Nat) (bo : List Int) (T O M P : Int) (A14 : Option Addr) (c14 : Nat) (R : List Int) (at_ b0 b1 b2 b3 : Int) (r : Bool) (w : World) (h8 : Kd.C (Kd.int .i64) w A8 L.length L) (l8 : L.length ≤ c8) (h9 : Kd.C (Kd.int .u8) w A9 bo.length bo) (l9 : bo.length ≤ c9) (h14 : Kd.C (Kd.int .i64) w A14 R.length R) (l14 : R.length ≤ c14) (hG : GB w) (h : precentorlaw04_PktSpoilt.f K F k s e i t c L bo T O M P R at_ b0 b1 b2 b3 = some r) :
    Calls Tryd.prog 6 #[.agg #[.int .i64 K, .int .i64 F, .int .i64 k, .int .i64 s, .int .i64 e, .int .i64 i, .int .i64 t, .int .i64 c, .slice A8 L.length c8, .slice A9 bo.length c9, .int .i64 T, .int .i64 O, .int .i64 M, .int .i64 P, .slice A14 R.length c14], .int .i64 at_, .agg #[.int .u8 b0, .int .u8 b1, .int .u8 b2, .int .u8 b3]] w fun e' w' => e' = .returned (.bool r) ∧ Below w.heap.size w w' := by
  unfold precentorlaw04_PktSpoilt.f at h
  split at h
  · rename_i hc
    obtain rfl := Option.some.inj h
    exact precentorlaw04_PktSpoilt.is K F k s e i t c A8 c8 L A9 c9 bo T O M P A14 c14 R at_ b0 b1 b2 b3 w h8 l8 h9 l9 h14 l14 hG hc.1 hc.2.1 hc.2.2.1 hc.2.2.2
  · cases h

end Go.Proofs.YtieolhhokepkjaaDoor.Print
