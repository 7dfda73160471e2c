/- The Go functions of this seat as Lean functions, and of each that its call does just what its Lean function says, where that says something. Condition: the arguments read as they are told. -/
import Derived.Test.YtocoikndkmdnkaaDoorPrint0
import Derived.Test.YtocoikndkmdnkaaDoorStrs
import Derived.Test.YtocoikndkmdnkaaDoorPrint1
import Derived.Test.YtocoikndkmdnkaaDoorHand
import Derived.Test.YtocoikndkmdnkaaDoorHand5
import Derived.Test.YtocoikndkmdnkaaDoorHand8
import Derived.Test.YtocoikndkmdnkaaDoorHand9
import Derived.Test.YtocoikndkmdnkaaDoorHandB
import Derived.Test.YtocoikndkmdnkaaDoorHandR
import Derived.Test.YtocoikndkmdnkaaDoorHandS
import Derived.Test.YtocoikndkmdnkaaDoorHandT
import Derived.Test.YtocoikndkmdnkaaDoorHandW
namespace Go.Proofs.YtocoikndkmdnkaaDoor.Print
open Go.RowKit Go.Proofs.YtocoikndkmdnkaaDoorW.PrintWords Go.Proofs.YtocoikndkmdnkaaDoorW.PrintLast Go.Proofs.YtocoikndkmdnkaaDoorW.PrintMore
attribute [local go_sem] max2_int min2_int max_two min_two max_three min_three max_four min_four   -- for this text's walks alone
set_option linter.unusedVariables false
set_option linter.unusedSimpArgs false

/-! ### precentorlaw03_ItemTells: function 3 -/
def precentorlaw03_ItemTells.j0 : Nat → List Int → Bool → Bool → Int → Int → Int → Int → Int → Int → List Int → List Int → Int → Int → Int → Int → Int → Int → List Int → List Int → Option (Bool)
  | 0, _, _, _, _, _, _, _, _, _, _, _, _, _, _, _, _, _, _, _ => none
  | k + 1, x2, x7, x25, x173000, x173001, x173002, x173003, x173004, x173005, x173006, x173007, x174000, x174001, x174002, x174003, x174004, x174005, x174006, x174007 => if x25 = true then (some x7) else ((item_Take.f x2).bind fun bt177 => ((precentorref03_Take.f x2).bind fun bt191 => (if x7 = true then ((item_May.f x173000 x173001 x173002 x173003 x173004 x173005 x173006 x173007).bind fun t205 => ((precentorref03_May.f x173000 x173001 x173002 x173003 x173004 x173005 x173006 x173007).bind fun t206 => (if (t205 == t206) = true then ((item_Same.f x173000 x173001 x173002 x173003 x173004 x173005 x173006 x173007 x174000 x174001 x174002 x174003 x174004 x174005 x174006 x174007).bind fun t207 => ((precentorref03_Same.f x173000 x173001 x173002 x173003 x173004 x173005 x173006 x173007 x174000 x174001 x174002 x174003 x174004 x174005 x174006 x174007).bind fun t208 => (if (t207 == t208) = true then ((item_Bytes.f x173000 x173001 x173002 x173003 x173004 x173005 x173006 x173007).bind fun t209 => ((precentorref03_Bytes.f x173000 x173001 x173002 x173003 x173004 x173005 x173006 x173007).bind fun t212 => (if (strOfNums t209).toList = (strOfNums t212).toList then ((precentorref03_Same.f bt177.1 bt177.2.1 bt177.2.2.1 bt177.2.2.2.1 bt177.2.2.2.2.1 bt177.2.2.2.2.2.1 bt177.2.2.2.2.2.2.1 bt177.2.2.2.2.2.2.2.1 bt191.1 bt191.2.1 bt191.2.2.1 bt191.2.2.2.1 bt191.2.2.2.2.1 bt191.2.2.2.2.2.1 bt191.2.2.2.2.2.2.1 bt191.2.2.2.2.2.2.2.1).bind fun t215 => (if t215 = true then (some (bt177.2.2.2.2.2.2.2.2 == bt191.2.2.2.2.2.2.2.2)) else (none))) else (none)))) else (none)))) else (none)))) else (none))))
def precentorlaw03_ItemTells.f (k : Nat) (a0_0 : Int) (a0_1 : Int) (a0_2 : Int) (a0_3 : Int) (a0_4 : Int) (a0_5 : Int) (l0_6 : List Int) (l0_7 : List Int) (a1_0 : Int) (a1_1 : Int) (a1_2 : Int) (a1_3 : Int) (a1_4 : Int) (a1_5 : Int) (l1_6 : List Int) (l1_7 : List Int) (l2 : List Int) : Option (Bool) := (precentorlaw03_shown.f).bind fun t174 => ((precentorref03_Few.f a0_0 a0_1 a0_2 a0_3 a0_4 a0_5 l0_6 l0_7).bind fun t175 => (if t175 = true then ((precentorref03_Few.f a1_0 a1_1 a1_2 a1_3 a1_4 a1_5 l1_6 l1_7).bind fun t176 => (if t176 = true then (precentorlaw03_ItemTells.j0 k l2 t174 (decide ((l2.length : Int) > 1200)) a0_0 a0_1 a0_2 a0_3 a0_4 a0_5 l0_6 l0_7 a1_0 a1_1 a1_2 a1_3 a1_4 a1_5 l1_6 l1_7) else (precentorlaw03_ItemTells.j0 k l2 t174 true a0_0 a0_1 a0_2 a0_3 a0_4 a0_5 l0_6 l0_7 a1_0 a1_1 a1_2 a1_3 a1_4 a1_5 l1_6 l1_7))) else (precentorlaw03_ItemTells.j0 k l2 t174 true a0_0 a0_1 a0_2 a0_3 a0_4 a0_5 l0_6 l0_7 a1_0 a1_1 a1_2 a1_3 a1_4 a1_5 l1_6 l1_7)))
theorem precentorlaw03_ItemTells.mono_l : ∀ k, (∀ y0 y1 y2 y3 y4 y5 y6 y7 y8 y9 y10 y11 y12 y13 y14 y15 y16 y17 y18, LeO (precentorlaw03_ItemTells.j0 k y0 y1 y2 y3 y4 y5 y6 y7 y8 y9 y10 y11 y12 y13 y14 y15 y16 y17 y18) (precentorlaw03_ItemTells.j0 (k + 1) y0 y1 y2 y3 y4 y5 y6 y7 y8 y9 y10 y11 y12 y13 y14 y15 y16 y17 y18))
  | 0 => fun _ _ _ _ _ _ _ _ _ _ _ _ _ _ _ _ _ _ _ r h => by simp [precentorlaw03_ItemTells.j0] at h
  | k + 1 => by
    have ih0 := precentorlaw03_ItemTells.mono_l k
    · intro y0 y1 y2 y3 y4 y5 y6 y7 y8 y9 y10 y11 y12 y13 y14 y15 y16 y17 y18
      unfold precentorlaw03_ItemTells.j0
      repeat' first
      | (with_reducible exact ih0 _ _ _ _ _ _ _ _ _ _ _ _ _ _ _ _ _ _ _)
      | (with_reducible exact LeO.refl _)
      | (with_reducible exact LeO.none _)
      | (with_reducible refine LeO.ite ?_ ?_)
      | (with_reducible refine LeO.bind ?_ (fun _ => ?_))
      | exact ih0 _ _ _ _ _ _ _ _ _ _ _ _ _ _ _ _ _ _ _
      | exact LeO.none _
      | refine LeO.ite ?_ ?_
      | refine LeO.bind ?_ (fun _ => ?_)
theorem precentorlaw03_ItemTells.mono : ∀ a0 a1 a2 a3 a4 a5 a6 a7 a8 a9 a10 a11 a12 a13 a14 a15 a16 k, LeO (precentorlaw03_ItemTells.f k a0 a1 a2 a3 a4 a5 a6 a7 a8 a9 a10 a11 a12 a13 a14 a15 a16) (precentorlaw03_ItemTells.f (k + 1) a0 a1 a2 a3 a4 a5 a6 a7 a8 a9 a10 a11 a12 a13 a14 a15 a16) := by
  intro a0 a1 a2 a3 a4 a5 a6 a7 a8 a9 a10 a11 a12 a13 a14 a15 a16 k
  have ih0 := precentorlaw03_ItemTells.mono_l k
  unfold precentorlaw03_ItemTells.f
  repeat' first
      | (with_reducible exact ih0 _ _ _ _ _ _ _ _ _ _ _ _ _ _ _ _ _ _ _)
      | (with_reducible exact LeO.refl _)
      | (with_reducible exact LeO.none _)
      | (with_reducible refine LeO.ite ?_ ?_)
      | (with_reducible refine LeO.bind ?_ (fun _ => ?_))
      | exact ih0 _ _ _ _ _ _ _ _ _ _ _ _ _ _ _ _ _ _ _
      | exact LeO.none _
      | refine LeO.ite ?_ ?_
      | refine LeO.bind ?_ (fun _ => ?_)
def precentorlaw03_ItemTells.T6 : Bool × List (List Nat × List Nat) := (true, [([], []), ([0], [0]), ([1], [1]), ([2, 1, 1], [1, 2]), ([1], [1]), ([4, 3, 1], [1, 4]), ([3, 5, 1], [1, 3, 5]), ([1, 6], [1, 6]), ([7, 5], [7]), ([8], [8]), ([8], [8]), ([9, 10, 8, 8], [8, 9, 10]), ([8], [8]), ([8], [8]), ([12, 13, 11, 8], [8, 12, 13]), ([11, 14, 8], [8, 11, 14]), ([8, 15], [8, 15]), ([16, 14], [16]), ([17], [17]), ([18, 17, 17], [17, 18]), ([19, 17], [17, 19]), ([17], [17]), ([21, 19, 17], [17, 21]), ([22, 17], [17, 22]), ([20, 23, 17], [17, 20, 23]), ([17, 24], [17, 24]), ([25, 22], [25]), ([26], [26]), ([26], [26]), ([27, 28, 26, 26], [26, 27, 28]), ([26, 29], [26, 29]), ([30, 29], [30]), ([31], [31]), ([31], [31]), ([32, 33, 31], [31, 32, 33]), ([31, 34], [31, 34]), ([35, 31, 0, 1, 2, 3, 4, 5, 6, 7, 8, 9, 10, 11, 12, 13, 14, 15, 16, 17, 18, 19, 20, 21, 22, 23, 24, 25, 26, 27, 28, 29, 30, 31, 32, 33, 34, 35], [35])])
def precentorlaw03_ItemTells.B6 : List Nat := [0, 1, 3, 7, 3, 31, 63, 127, 255, 511, 511, 2047, 511, 511, 16383, 32767, 65535, 131071, 262143, 524287, 1048575, 262143, 3145727, 7340031, 16777215, 33554431, 67108863, 134217727, 134217727, 536870911, 1073741823, 2147483647, 4294967295, 4294967295, 17179869183, 34359738367, 68719476735]
theorem precentorlaw03_ItemTells.tab6 : rtab .any (opsOf Tryd.f3 6) = precentorlaw03_ItemTells.T6 := by kernel_rfl
theorem precentorlaw03_ItemTells.bits6 : waitsOk precentorlaw03_ItemTells.T6.2 precentorlaw03_ItemTells.B6 = true := by kernel_rfl
set_option maxHeartbeats 8000000 in
set_option maxRecDepth 100000 in
theorem precentorlaw03_ItemTells.calls (k : Nat) (a0_0 : Int) (a0_1 : Int) (a0_2 : Int) (a0_3 : Int) (a0_4 : Int) (a0_5 : Int) (A0_6 : Option Addr) (c0_6 : Nat) (l0_6 : List Int) (A0_7 : Option Addr) (c0_7 : Nat) (l0_7 : List Int) (a1_0 : Int) (a1_1 : Int) (a1_2 : Int) (a1_3 : Int) (a1_4 : Int) (a1_5 : Int) (A1_6 : Option Addr) (c1_6 : Nat) (l1_6 : List Int) (A1_7 : Option Addr) (c1_7 : Nat) (l1_7 : List Int) (A2 : Option Addr) (c2 : Nat) (l2 : List Int) (r : Bool) (w : World) (hr0_6 : Kd.C (Kd.int .i64) w A0_6 l0_6.length l0_6) (hc0_6 : l0_6.length ≤ c0_6) (hr0_7 : Kd.C (Kd.int .u8) w A0_7 l0_7.length l0_7) (hc0_7 : l0_7.length ≤ c0_7) (hr1_6 : Kd.C (Kd.int .i64) w A1_6 l1_6.length l1_6) (hc1_6 : l1_6.length ≤ c1_6) (hr1_7 : Kd.C (Kd.int .u8) w A1_7 l1_7.length l1_7) (hc1_7 : l1_7.length ≤ c1_7) (hr2 : Kd.C (Kd.int .u8) w A2 l2.length l2) (hc2 : l2.length ≤ c2) (hG : GB w) (h : precentorlaw03_ItemTells.f k a0_0 a0_1 a0_2 a0_3 a0_4 a0_5 l0_6 l0_7 a1_0 a1_1 a1_2 a1_3 a1_4 a1_5 l1_6 l1_7 l2 = some r) :
    Calls Tryd.prog 3 #[.agg #[.int .i64 a0_0, .int .i64 a0_1, .int .i64 a0_2, .int .i64 a0_3, .int .i64 a0_4, .int .i64 a0_5, .slice A0_6 l0_6.length c0_6, .slice A0_7 l0_7.length c0_7], .agg #[.int .i64 a1_0, .int .i64 a1_1, .int .i64 a1_2, .int .i64 a1_3, .int .i64 a1_4, .int .i64 a1_5, .slice A1_6 l1_6.length c1_6, .slice A1_7 l1_7.length c1_7], .slice A2 l2.length c2] w fun e w' => e = .returned (.bool r) ∧ Below w.heap.size w w' := by
  have hu25 := Tryd.underlying25
  have HR0_6 := Aside0.mk hr0_6
  have HC0_6 := Aside0.mk hc0_6
  clear hr0_6 hc0_6
  have HR0_7 := Aside0.mk hr0_7
  have HC0_7 := Aside0.mk hc0_7
  clear hr0_7 hc0_7
  have HR1_6 := Aside0.mk hr1_6
  have HC1_6 := Aside0.mk hc1_6
  clear hr1_6 hc1_6
  have HR1_7 := Aside0.mk hr1_7
  have HC1_7 := Aside0.mk hc1_7
  clear hr1_7 hc1_7
  have HR2 := Aside0.mk hr2
  have HC2 := Aside0.mk hc2
  clear hr2 hc2
  have HB := Aside0.mk (Below.refl w.heap.size w)
  have H : ((precentorlaw03_shown.f).bind fun t174 => ((precentorref03_Few.f a0_0 a0_1 a0_2 a0_3 a0_4 a0_5 l0_6 l0_7).bind fun t175 => (if t175 = true then ((precentorref03_Few.f a1_0 a1_1 a1_2 a1_3 a1_4 a1_5 l1_6 l1_7).bind fun t176 => (if t176 = true then (precentorlaw03_ItemTells.j0 k l2 t174 (decide ((l2.length : Int) > 1200)) a0_0 a0_1 a0_2 a0_3 a0_4 a0_5 l0_6 l0_7 a1_0 a1_1 a1_2 a1_3 a1_4 a1_5 l1_6 l1_7) else (precentorlaw03_ItemTells.j0 k l2 t174 true a0_0 a0_1 a0_2 a0_3 a0_4 a0_5 l0_6 l0_7 a1_0 a1_1 a1_2 a1_3 a1_4 a1_5 l1_6 l1_7))) else (precentorlaw03_ItemTells.j0 k l2 t174 true a0_0 a0_1 a0_2 a0_3 a0_4 a0_5 l0_6 l0_7 a1_0 a1_1 a1_2 a1_3 a1_4 a1_5 l1_6 l1_7)))) = some r := h
  clear h
  replace H := Option.bind_eq_some_iff.mp H
  obtain ⟨t174, A40, H⟩ := H
  replace H : ((precentorref03_Few.f a0_0 a0_1 a0_2 a0_3 a0_4 a0_5 l0_6 l0_7).bind fun t175 => (if t175 = true then ((precentorref03_Few.f a1_0 a1_1 a1_2 a1_3 a1_4 a1_5 l1_6 l1_7).bind fun t176 => (if t176 = true then (precentorlaw03_ItemTells.j0 k l2 t174 (decide ((l2.length : Int) > 1200)) a0_0 a0_1 a0_2 a0_3 a0_4 a0_5 l0_6 l0_7 a1_0 a1_1 a1_2 a1_3 a1_4 a1_5 l1_6 l1_7) else (precentorlaw03_ItemTells.j0 k l2 t174 true a0_0 a0_1 a0_2 a0_3 a0_4 a0_5 l0_6 l0_7 a1_0 a1_1 a1_2 a1_3 a1_4 a1_5 l1_6 l1_7))) else (precentorlaw03_ItemTells.j0 k l2 t174 true a0_0 a0_1 a0_2 a0_3 a0_4 a0_5 l0_6 l0_7 a1_0 a1_1 a1_2 a1_3 a1_4 a1_5 l1_6 l1_7))) = some r := H
  have A4 := Aside0.mk A40
  clear A40
  have HC5 := Aside0.mk H
  clear H
  go_enter Tryd.func3, Tryd.ntmps3
  go_upto_region 2 with (first | ((with_reducible refine gate_dst (N := 3) rfl ?_); (try (refine gate_guard (by rfl) ?_; dsimp only)); refine box_event ?hg (N := 3) ?hd (cs := #[.int .i64 a0_0, .int .i64 a0_1, .int .i64 a0_2, .int .i64 a0_3, .int .i64 a0_4, .int .i64 a0_5, .slice A0_6 l0_6.length c0_6, .slice A0_7 l0_7.length c0_7]) (t := 25) ?hr ?_; (case hd => rfl); (case hg => rfl); (case hr => first | (go_simp; done) | (go_simp; rfl)); intro gb172 hg w6 hbox hb; have n0_ := Aside0.mk (below_step (by repeat (first | (with_reducible first | exact HB.out | apply below_alloc | apply pw_below_drewN | apply below_drew1) | exact HB.out)) hb); have n1_ := Aside0.mk (hbox); have n2_ := Aside0.mk ((by rw [hg]; exact (below_size (by repeat (first | (with_reducible first | exact HB.out | apply below_alloc | apply pw_below_drewN | apply below_drew1) | exact HB.out))) : w.heap.size ≤ gb172)); have n3_ := Aside0.mk ((by rw [hg]; exact (below_size (by repeat (first | (with_reducible first | exact HB.out | apply below_alloc | apply pw_below_drewN | apply below_drew1) | exact HB.out))) : w.heap.size ≤ gb172)); clear HB; have HB := n0_; have BK172 := n1_; have GW172 := n2_; have GE172 := n3_; clear n0_ n1_ n2_ n3_; clear hb hbox hg) | ((with_reducible refine gate_dst (N := 4) rfl ?_); (try (refine gate_guard (by rfl) ?_; dsimp only)); refine box_event ?hg (N := 4) ?hd (cs := #[.int .i64 a1_0, .int .i64 a1_1, .int .i64 a1_2, .int .i64 a1_3, .int .i64 a1_4, .int .i64 a1_5, .slice A1_6 l1_6.length c1_6, .slice A1_7 l1_7.length c1_7]) (t := 25) ?hr ?_; (case hd => rfl); (case hg => rfl); (case hr => first | (go_simp; done) | (go_simp; rfl)); intro gb173 hg w7 hbox hb; have n0_ := Aside0.mk (blk_below (g := gb172) (o := .cells #[.int .i64 a0_0, .int .i64 a0_1, .int .i64 a0_2, .int .i64 a0_3, .int .i64 a0_4, .int .i64 a0_5, .slice A0_6 l0_6.length c0_6, .slice A0_7 l0_7.length c0_7] 25 (0, 0)) (by (with_reducible repeat (first | refine blk_drewN ?_ _ | refine blk_drew ?_ | refine blk_alloc ?_ _)); exact BK172.out) hb); have n1_ := Aside0.mk (below_step (by repeat (first | (with_reducible first | exact HB.out | apply below_alloc | apply pw_below_drewN | apply below_drew1 | refine below_set ?_ GE172.out) | exact HB.out)) hb); have n2_ := Aside0.mk (hbox); have n3_ := Aside0.mk ((by rw [hg]; exact (below_size (by repeat (first | (with_reducible first | exact HB.out | apply below_alloc | apply pw_below_drewN | apply below_drew1 | refine below_set ?_ GE172.out) | exact HB.out))) : w.heap.size ≤ gb173)); have n4_ := Aside0.mk ((by rw [hg]; exact (below_size (by repeat (first | (with_reducible first | exact HB.out | apply below_alloc | apply pw_below_drewN | apply below_drew1 | refine below_set ?_ GE172.out) | exact HB.out))) : w.heap.size ≤ gb173)); have n5_ := Aside0.mk ((by rw [hg]; exact Nat.ne_of_lt (blk_lt (g := gb172) (o := .cells #[.int .i64 a0_0, .int .i64 a0_1, .int .i64 a0_2, .int .i64 a0_3, .int .i64 a0_4, .int .i64 a0_5, .slice A0_6 l0_6.length c0_6, .slice A0_7 l0_7.length c0_7] 25 (0, 0)) (by (with_reducible repeat (first | refine blk_drewN ?_ _ | refine blk_drew ?_ | refine blk_alloc ?_ _)); exact BK172.out)) : gb172 ≠ gb173)); have n6_ := Aside0.mk ((by rw [hg]; exact Nat.ne_of_gt (blk_lt (g := gb172) (o := .cells #[.int .i64 a0_0, .int .i64 a0_1, .int .i64 a0_2, .int .i64 a0_3, .int .i64 a0_4, .int .i64 a0_5, .slice A0_6 l0_6.length c0_6, .slice A0_7 l0_7.length c0_7] 25 (0, 0)) (by (with_reducible repeat (first | refine blk_drewN ?_ _ | refine blk_drew ?_ | refine blk_alloc ?_ _)); exact BK172.out)) : gb173 ≠ gb172)); clear BK172; clear HB; have BK172 := n0_; have HB := n1_; have BK173 := n2_; have GW173 := n3_; have GE173 := n4_; have NB172_173 := n5_; have NB173_172 := n6_; clear n0_ n1_ n2_ n3_ n4_ n5_ n6_; clear hb hbox hg) | ((with_reducible refine gate_callee (f := 9) rfl ?_); refine goesL_ (some 12) rfl rfl Tryd.func9 (by kernel_rfl) rfl #[] rfl (by (try simp only [List.map_toArray, List.map_cons, List.map_nil]); first | done | rfl | (simp only [List.length_drop, List.length_take]; rfl)) ?_; (with_reducible refine (precentorlaw03_shown.calls  t174 _ ?side1 A4.out).mono ?_); (case side1 => exact GB.below hG (by repeat (first | (with_reducible first | exact HB.out | apply below_alloc | apply pw_below_drewN | apply below_drew1 | refine below_set ?_ GE172.out | refine below_set ?_ GE173.out) | exact HB.out))); rintro e w8 ⟨rfl, hb⟩; refine ⟨_, rfl, ?_⟩; have n0_ := Aside0.mk (blk_below (g := gb172) (o := .cells #[.int .i64 a0_0, .int .i64 a0_1, .int .i64 a0_2, .int .i64 a0_3, .int .i64 a0_4, .int .i64 a0_5, .slice A0_6 l0_6.length c0_6, .slice A0_7 l0_7.length c0_7] 25 (0, 0)) (by (with_reducible repeat (first | refine blk_drewN ?_ _ | refine blk_drew ?_ | refine blk_alloc ?_ _)); exact BK172.out) hb); have n1_ := Aside0.mk (blk_below (g := gb173) (o := .cells #[.int .i64 a1_0, .int .i64 a1_1, .int .i64 a1_2, .int .i64 a1_3, .int .i64 a1_4, .int .i64 a1_5, .slice A1_6 l1_6.length c1_6, .slice A1_7 l1_7.length c1_7] 25 (0, 0)) (by (with_reducible repeat (first | refine blk_drewN ?_ _ | refine blk_drew ?_ | refine blk_alloc ?_ _)); exact BK173.out) hb); have n2_ := Aside0.mk (below_step (by repeat (first | (with_reducible first | exact HB.out | apply below_alloc | apply pw_below_drewN | apply below_drew1 | refine below_set ?_ GE172.out | refine below_set ?_ GE173.out) | exact HB.out)) hb); clear BK172; clear BK173; clear HB; have BK172 := n0_; have BK173 := n1_; have HB := n2_; clear n0_ n1_ n2_; (try clear hb); (try clear hb2); (try clear hk); (try clear hi)))
  (try simp only [Act.put, List.setIfInBounds_toArray, List.set_cons_zero, List.set_cons_succ])
  go_cut [25] (fun v25 wc => ∃ (kq : Nat) (x25_4 : Bool), v25 = .bool x25_4 ∧ Aside0 (precentorlaw03_ItemTells.j0 kq l2 t174 x25_4 a0_0 a0_1 a0_2 a0_3 a0_4 a0_5 l0_6 l0_7 a1_0 a1_1 a1_2 a1_3 a1_4 a1_5 l1_6 l1_7 = some r) ∧ Aside0 (kq ≤ k) ∧ Aside0 (wc.heap[gb172]? = some (.cells #[.int .i64 a0_0, .int .i64 a0_1, .int .i64 a0_2, .int .i64 a0_3, .int .i64 a0_4, .int .i64 a0_5, (.slice A0_6 l0_6.length c0_6), (.slice A0_7 l0_7.length c0_7)] 25 (0, 0))) ∧ Aside0 (wc.heap[gb173]? = some (.cells #[.int .i64 a1_0, .int .i64 a1_1, .int .i64 a1_2, .int .i64 a1_3, .int .i64 a1_4, .int .i64 a1_5, (.slice A1_6 l1_6.length c1_6), (.slice A1_7 l1_7.length c1_7)] 25 (0, 0))) ∧ Aside0 (Below w.heap.size w wc))
  case first =>
    have H := HC5.out
    clear HC5
    replace H := Option.bind_eq_some_iff.mp H
    obtain ⟨t175, A90, H⟩ := H
    replace H : (if t175 = true then ((precentorref03_Few.f a1_0 a1_1 a1_2 a1_3 a1_4 a1_5 l1_6 l1_7).bind fun t176 => (if t176 = true then (precentorlaw03_ItemTells.j0 k l2 t174 (decide ((l2.length : Int) > 1200)) a0_0 a0_1 a0_2 a0_3 a0_4 a0_5 l0_6 l0_7 a1_0 a1_1 a1_2 a1_3 a1_4 a1_5 l1_6 l1_7) else (precentorlaw03_ItemTells.j0 k l2 t174 true a0_0 a0_1 a0_2 a0_3 a0_4 a0_5 l0_6 l0_7 a1_0 a1_1 a1_2 a1_3 a1_4 a1_5 l1_6 l1_7))) else (precentorlaw03_ItemTells.j0 k l2 t174 true a0_0 a0_1 a0_2 a0_3 a0_4 a0_5 l0_6 l0_7 a1_0 a1_1 a1_2 a1_3 a1_4 a1_5 l1_6 l1_7)) = some r := H
    have A9 := Aside0.mk A90
    clear A90
    by_cases c10 : t175 = true
    · subst c10
      have H1 : ((precentorref03_Few.f a1_0 a1_1 a1_2 a1_3 a1_4 a1_5 l1_6 l1_7).bind fun t176 => (if t176 = true then (precentorlaw03_ItemTells.j0 k l2 t174 (decide ((l2.length : Int) > 1200)) a0_0 a0_1 a0_2 a0_3 a0_4 a0_5 l0_6 l0_7 a1_0 a1_1 a1_2 a1_3 a1_4 a1_5 l1_6 l1_7) else (precentorlaw03_ItemTells.j0 k l2 t174 true a0_0 a0_1 a0_2 a0_3 a0_4 a0_5 l0_6 l0_7 a1_0 a1_1 a1_2 a1_3 a1_4 a1_5 l1_6 l1_7))) = some r := by rw [if_pos rfl] at H; exact H
      clear H
      have H := H1
      clear H1
      replace H := Option.bind_eq_some_iff.mp H
      obtain ⟨t176, A110, H⟩ := H
      replace H : (if t176 = true then (precentorlaw03_ItemTells.j0 k l2 t174 (decide ((l2.length : Int) > 1200)) a0_0 a0_1 a0_2 a0_3 a0_4 a0_5 l0_6 l0_7 a1_0 a1_1 a1_2 a1_3 a1_4 a1_5 l1_6 l1_7) else (precentorlaw03_ItemTells.j0 k l2 t174 true a0_0 a0_1 a0_2 a0_3 a0_4 a0_5 l0_6 l0_7 a1_0 a1_1 a1_2 a1_3 a1_4 a1_5 l1_6 l1_7)) = some r := H
      have A11 := Aside0.mk A110
      clear A110
      by_cases c12 : t176 = true
      · subst c12
        have H1 : (precentorlaw03_ItemTells.j0 k l2 t174 (decide ((l2.length : Int) > 1200)) a0_0 a0_1 a0_2 a0_3 a0_4 a0_5 l0_6 l0_7 a1_0 a1_1 a1_2 a1_3 a1_4 a1_5 l1_6 l1_7) = some r := by rw [if_pos rfl] at H; exact H
        clear H
        have H := H1
        clear H1
        have H' := Aside0.mk H
        clear H
        have hnb13 := NB172_173.out
        have hnc13 := NB173_172.out
        have hcz14_0 : w8.cell? ⟨gb172, 0, none⟩ = some (.int .i64 a0_0) := (blk_cell BK172.out 0).trans rfl
        have hcz14_1 : w8.cell? ⟨gb172, 1, none⟩ = some (.int .i64 a0_1) := (blk_cell BK172.out 1).trans rfl
        have hcz14_2 : w8.cell? ⟨gb172, 2, none⟩ = some (.int .i64 a0_2) := (blk_cell BK172.out 2).trans rfl
        have hcz14_3 : w8.cell? ⟨gb172, 3, none⟩ = some (.int .i64 a0_3) := (blk_cell BK172.out 3).trans rfl
        have hcz14_4 : w8.cell? ⟨gb172, 4, none⟩ = some (.int .i64 a0_4) := (blk_cell BK172.out 4).trans rfl
        have hcz14_5 : w8.cell? ⟨gb172, 5, none⟩ = some (.int .i64 a0_5) := (blk_cell BK172.out 5).trans rfl
        have hcz14_6 : w8.cell? ⟨gb172, 6, none⟩ = some (.slice A0_6 l0_6.length c0_6) := (blk_cell BK172.out 6).trans rfl
        have hcz14_7 : w8.cell? ⟨gb172, 7, none⟩ = some (.slice A0_7 l0_7.length c0_7) := (blk_cell BK172.out 7).trans rfl
        have hfz14_0 := blk_frozen BK172.out 0
        have hfz14_1 := blk_frozen BK172.out 1
        have hfz14_2 := blk_frozen BK172.out 2
        have hfz14_3 := blk_frozen BK172.out 3
        have hfz14_4 := blk_frozen BK172.out 4
        have hfz14_5 := blk_frozen BK172.out 5
        have hfz14_6 := blk_frozen BK172.out 6
        have hfz14_7 := blk_frozen BK172.out 7
        go_wp2_with (first | ((with_reducible refine gate_callee (f := 10) rfl ?_); refine goesL_ (some 14) rfl rfl Tryd.func10 (by kernel_rfl) rfl #[.agg #[.int .i64 a0_0, .int .i64 a0_1, .int .i64 a0_2, .int .i64 a0_3, .int .i64 a0_4, .int .i64 a0_5, .slice A0_6 l0_6.length c0_6, .slice A0_7 l0_7.length c0_7]] rfl (by (try simp only [List.map_toArray, List.map_cons, List.map_nil]); first | done | rfl | (simp only [List.length_drop, List.length_take]; rfl)) ?_; (with_reducible refine (precentorref03_Few.calls a0_0 a0_1 a0_2 a0_3 a0_4 a0_5 _ _ l0_6 _ _ l0_7 true _ ?side1 ?side2 ?side3 ?side4 A9.out).mono ?_); (case side1 => repeat (first | exact (Kd.C_below HR0_6.out HB.out) | (with_reducible refine Kd.C_alloc ?_ _) | (with_reducible refine Kd.C_drewN ?_ _) | (with_reducible refine Kd.C_drew ?_))); (case side2 => exact HC0_6.out); (case side3 => repeat (first | exact (Kd.C_below HR0_7.out HB.out) | (with_reducible refine Kd.C_alloc ?_ _) | (with_reducible refine Kd.C_drewN ?_ _) | (with_reducible refine Kd.C_drew ?_))); (case side4 => exact HC0_7.out); rintro e w15 ⟨rfl, hb⟩; refine ⟨_, rfl, ?_⟩; have n0_ := Aside0.mk (blk_below (g := gb172) (o := .cells #[.int .i64 a0_0, .int .i64 a0_1, .int .i64 a0_2, .int .i64 a0_3, .int .i64 a0_4, .int .i64 a0_5, .slice A0_6 l0_6.length c0_6, .slice A0_7 l0_7.length c0_7] 25 (0, 0)) (by (with_reducible repeat (first | refine blk_drewN ?_ _ | refine blk_drew ?_ | refine blk_alloc ?_ _)); exact BK172.out) hb); have n1_ := Aside0.mk (blk_below (g := gb173) (o := .cells #[.int .i64 a1_0, .int .i64 a1_1, .int .i64 a1_2, .int .i64 a1_3, .int .i64 a1_4, .int .i64 a1_5, .slice A1_6 l1_6.length c1_6, .slice A1_7 l1_7.length c1_7] 25 (0, 0)) (by (with_reducible repeat (first | refine blk_drewN ?_ _ | refine blk_drew ?_ | refine blk_alloc ?_ _)); exact BK173.out) hb); have n2_ := Aside0.mk (below_step (by repeat (first | (with_reducible first | exact HB.out | apply below_alloc | apply pw_below_drewN | apply below_drew1 | refine below_set ?_ GE172.out | refine below_set ?_ GE173.out) | exact HB.out)) hb); clear BK172; clear BK173; clear HB; have BK172 := n0_; have BK173 := n1_; have HB := n2_; clear n0_ n1_ n2_; (try clear hb); (try clear hb2); (try clear hk); (try clear hi); have hcz16_0 : w15.cell? ⟨gb173, 0, none⟩ = some (.int .i64 a1_0) := (blk_cell BK173.out 0).trans rfl; have hcz16_1 : w15.cell? ⟨gb173, 1, none⟩ = some (.int .i64 a1_1) := (blk_cell BK173.out 1).trans rfl; have hcz16_2 : w15.cell? ⟨gb173, 2, none⟩ = some (.int .i64 a1_2) := (blk_cell BK173.out 2).trans rfl; have hcz16_3 : w15.cell? ⟨gb173, 3, none⟩ = some (.int .i64 a1_3) := (blk_cell BK173.out 3).trans rfl; have hcz16_4 : w15.cell? ⟨gb173, 4, none⟩ = some (.int .i64 a1_4) := (blk_cell BK173.out 4).trans rfl; have hcz16_5 : w15.cell? ⟨gb173, 5, none⟩ = some (.int .i64 a1_5) := (blk_cell BK173.out 5).trans rfl; have hcz16_6 : w15.cell? ⟨gb173, 6, none⟩ = some (.slice A1_6 l1_6.length c1_6) := (blk_cell BK173.out 6).trans rfl; have hcz16_7 : w15.cell? ⟨gb173, 7, none⟩ = some (.slice A1_7 l1_7.length c1_7) := (blk_cell BK173.out 7).trans rfl; have hfz16_0 := blk_frozen BK173.out 0; have hfz16_1 := blk_frozen BK173.out 1; have hfz16_2 := blk_frozen BK173.out 2; have hfz16_3 := blk_frozen BK173.out 3; have hfz16_4 := blk_frozen BK173.out 4; have hfz16_5 := blk_frozen BK173.out 5; have hfz16_6 := blk_frozen BK173.out 6; have hfz16_7 := blk_frozen BK173.out 7) | (go_at_call 10; (with_reducible refine (precentorref03_Few.calls a1_0 a1_1 a1_2 a1_3 a1_4 a1_5 _ _ l1_6 _ _ l1_7 true _ ?side1 ?side2 ?side3 ?side4 A11.out).mono ?_); (case side1 => repeat (first | exact (Kd.C_below HR1_6.out HB.out) | (with_reducible refine Kd.C_alloc ?_ _) | (with_reducible refine Kd.C_drewN ?_ _) | (with_reducible refine Kd.C_drew ?_))); (case side2 => exact HC1_6.out); (case side3 => repeat (first | exact (Kd.C_below HR1_7.out HB.out) | (with_reducible refine Kd.C_alloc ?_ _) | (with_reducible refine Kd.C_drewN ?_ _) | (with_reducible refine Kd.C_drew ?_))); (case side4 => exact HC1_7.out); rintro e w17 ⟨rfl, hb⟩; have n0_ := Aside0.mk (blk_below (g := gb172) (o := .cells #[.int .i64 a0_0, .int .i64 a0_1, .int .i64 a0_2, .int .i64 a0_3, .int .i64 a0_4, .int .i64 a0_5, .slice A0_6 l0_6.length c0_6, .slice A0_7 l0_7.length c0_7] 25 (0, 0)) (by (with_reducible repeat (first | refine blk_drewN ?_ _ | refine blk_drew ?_ | refine blk_alloc ?_ _)); exact BK172.out) hb); have n1_ := Aside0.mk (blk_below (g := gb173) (o := .cells #[.int .i64 a1_0, .int .i64 a1_1, .int .i64 a1_2, .int .i64 a1_3, .int .i64 a1_4, .int .i64 a1_5, .slice A1_6 l1_6.length c1_6, .slice A1_7 l1_7.length c1_7] 25 (0, 0)) (by (with_reducible repeat (first | refine blk_drewN ?_ _ | refine blk_drew ?_ | refine blk_alloc ?_ _)); exact BK173.out) hb); have n2_ := Aside0.mk (below_step (by repeat (first | (with_reducible first | exact HB.out | apply below_alloc | apply pw_below_drewN | apply below_drew1 | refine below_set ?_ GE172.out | refine below_set ?_ GE173.out) | exact HB.out)) hb); clear BK172; clear BK173; clear HB; have BK172 := n0_; have BK173 := n1_; have HB := n2_; clear n0_ n1_ n2_; (try clear hb); (try clear hb2); (try clear hk); (try clear hi)))
        go_meet
        case rel => exact ⟨_, (decide ((l2.length : Int) > 1200)), (by first | rfl | (simp; done) | (simp [*]; done)), H', ⟨by first | omega | exact Nat.le_refl _⟩, ⟨by (with_reducible repeat (first | refine blk_drewN ?_ _ | refine blk_drew ?_ | refine blk_alloc ?_ _)); exact BK172.out⟩, ⟨by (with_reducible repeat (first | refine blk_drewN ?_ _ | refine blk_drew ?_ | refine blk_alloc ?_ _)); exact BK173.out⟩, ⟨by repeat (first | (with_reducible first | exact HB.out | apply below_alloc | apply pw_below_drewN | apply below_drew1 | refine below_set ?_ GE172.out | refine below_set ?_ GE173.out) | exact HB.out)⟩⟩
      · replace c12 := Bool.eq_false_iff.mpr c12
        subst c12
        have H1 : (precentorlaw03_ItemTells.j0 k l2 t174 true a0_0 a0_1 a0_2 a0_3 a0_4 a0_5 l0_6 l0_7 a1_0 a1_1 a1_2 a1_3 a1_4 a1_5 l1_6 l1_7) = some r := by rw [if_neg (show ¬ (false = true) by decide)] at H; exact H
        clear H
        have H := H1
        clear H1
        have H' := Aside0.mk H
        clear H
        have hnb18 := NB172_173.out
        have hnc18 := NB173_172.out
        have hcz19_0 : w8.cell? ⟨gb172, 0, none⟩ = some (.int .i64 a0_0) := (blk_cell BK172.out 0).trans rfl
        have hcz19_1 : w8.cell? ⟨gb172, 1, none⟩ = some (.int .i64 a0_1) := (blk_cell BK172.out 1).trans rfl
        have hcz19_2 : w8.cell? ⟨gb172, 2, none⟩ = some (.int .i64 a0_2) := (blk_cell BK172.out 2).trans rfl
        have hcz19_3 : w8.cell? ⟨gb172, 3, none⟩ = some (.int .i64 a0_3) := (blk_cell BK172.out 3).trans rfl
        have hcz19_4 : w8.cell? ⟨gb172, 4, none⟩ = some (.int .i64 a0_4) := (blk_cell BK172.out 4).trans rfl
        have hcz19_5 : w8.cell? ⟨gb172, 5, none⟩ = some (.int .i64 a0_5) := (blk_cell BK172.out 5).trans rfl
        have hcz19_6 : w8.cell? ⟨gb172, 6, none⟩ = some (.slice A0_6 l0_6.length c0_6) := (blk_cell BK172.out 6).trans rfl
        have hcz19_7 : w8.cell? ⟨gb172, 7, none⟩ = some (.slice A0_7 l0_7.length c0_7) := (blk_cell BK172.out 7).trans rfl
        have hfz19_0 := blk_frozen BK172.out 0
        have hfz19_1 := blk_frozen BK172.out 1
        have hfz19_2 := blk_frozen BK172.out 2
        have hfz19_3 := blk_frozen BK172.out 3
        have hfz19_4 := blk_frozen BK172.out 4
        have hfz19_5 := blk_frozen BK172.out 5
        have hfz19_6 := blk_frozen BK172.out 6
        have hfz19_7 := blk_frozen BK172.out 7
        go_wp2_with (first | ((with_reducible refine gate_callee (f := 10) rfl ?_); refine goesL_ (some 14) rfl rfl Tryd.func10 (by kernel_rfl) rfl #[.agg #[.int .i64 a0_0, .int .i64 a0_1, .int .i64 a0_2, .int .i64 a0_3, .int .i64 a0_4, .int .i64 a0_5, .slice A0_6 l0_6.length c0_6, .slice A0_7 l0_7.length c0_7]] rfl (by (try simp only [List.map_toArray, List.map_cons, List.map_nil]); first | done | rfl | (simp only [List.length_drop, List.length_take]; rfl)) ?_; (with_reducible refine (precentorref03_Few.calls a0_0 a0_1 a0_2 a0_3 a0_4 a0_5 _ _ l0_6 _ _ l0_7 true _ ?side1 ?side2 ?side3 ?side4 A9.out).mono ?_); (case side1 => repeat (first | exact (Kd.C_below HR0_6.out HB.out) | (with_reducible refine Kd.C_alloc ?_ _) | (with_reducible refine Kd.C_drewN ?_ _) | (with_reducible refine Kd.C_drew ?_))); (case side2 => exact HC0_6.out); (case side3 => repeat (first | exact (Kd.C_below HR0_7.out HB.out) | (with_reducible refine Kd.C_alloc ?_ _) | (with_reducible refine Kd.C_drewN ?_ _) | (with_reducible refine Kd.C_drew ?_))); (case side4 => exact HC0_7.out); rintro e w20 ⟨rfl, hb⟩; refine ⟨_, rfl, ?_⟩; have n0_ := Aside0.mk (blk_below (g := gb172) (o := .cells #[.int .i64 a0_0, .int .i64 a0_1, .int .i64 a0_2, .int .i64 a0_3, .int .i64 a0_4, .int .i64 a0_5, .slice A0_6 l0_6.length c0_6, .slice A0_7 l0_7.length c0_7] 25 (0, 0)) (by (with_reducible repeat (first | refine blk_drewN ?_ _ | refine blk_drew ?_ | refine blk_alloc ?_ _)); exact BK172.out) hb); have n1_ := Aside0.mk (blk_below (g := gb173) (o := .cells #[.int .i64 a1_0, .int .i64 a1_1, .int .i64 a1_2, .int .i64 a1_3, .int .i64 a1_4, .int .i64 a1_5, .slice A1_6 l1_6.length c1_6, .slice A1_7 l1_7.length c1_7] 25 (0, 0)) (by (with_reducible repeat (first | refine blk_drewN ?_ _ | refine blk_drew ?_ | refine blk_alloc ?_ _)); exact BK173.out) hb); have n2_ := Aside0.mk (below_step (by repeat (first | (with_reducible first | exact HB.out | apply below_alloc | apply pw_below_drewN | apply below_drew1 | refine below_set ?_ GE172.out | refine below_set ?_ GE173.out) | exact HB.out)) hb); clear BK172; clear BK173; clear HB; have BK172 := n0_; have BK173 := n1_; have HB := n2_; clear n0_ n1_ n2_; (try clear hb); (try clear hb2); (try clear hk); (try clear hi); have hcz21_0 : w20.cell? ⟨gb173, 0, none⟩ = some (.int .i64 a1_0) := (blk_cell BK173.out 0).trans rfl; have hcz21_1 : w20.cell? ⟨gb173, 1, none⟩ = some (.int .i64 a1_1) := (blk_cell BK173.out 1).trans rfl; have hcz21_2 : w20.cell? ⟨gb173, 2, none⟩ = some (.int .i64 a1_2) := (blk_cell BK173.out 2).trans rfl; have hcz21_3 : w20.cell? ⟨gb173, 3, none⟩ = some (.int .i64 a1_3) := (blk_cell BK173.out 3).trans rfl; have hcz21_4 : w20.cell? ⟨gb173, 4, none⟩ = some (.int .i64 a1_4) := (blk_cell BK173.out 4).trans rfl; have hcz21_5 : w20.cell? ⟨gb173, 5, none⟩ = some (.int .i64 a1_5) := (blk_cell BK173.out 5).trans rfl; have hcz21_6 : w20.cell? ⟨gb173, 6, none⟩ = some (.slice A1_6 l1_6.length c1_6) := (blk_cell BK173.out 6).trans rfl; have hcz21_7 : w20.cell? ⟨gb173, 7, none⟩ = some (.slice A1_7 l1_7.length c1_7) := (blk_cell BK173.out 7).trans rfl; have hfz21_0 := blk_frozen BK173.out 0; have hfz21_1 := blk_frozen BK173.out 1; have hfz21_2 := blk_frozen BK173.out 2; have hfz21_3 := blk_frozen BK173.out 3; have hfz21_4 := blk_frozen BK173.out 4; have hfz21_5 := blk_frozen BK173.out 5; have hfz21_6 := blk_frozen BK173.out 6; have hfz21_7 := blk_frozen BK173.out 7) | (go_at_call 10; (with_reducible refine (precentorref03_Few.calls a1_0 a1_1 a1_2 a1_3 a1_4 a1_5 _ _ l1_6 _ _ l1_7 false _ ?side1 ?side2 ?side3 ?side4 A11.out).mono ?_); (case side1 => repeat (first | exact (Kd.C_below HR1_6.out HB.out) | (with_reducible refine Kd.C_alloc ?_ _) | (with_reducible refine Kd.C_drewN ?_ _) | (with_reducible refine Kd.C_drew ?_))); (case side2 => exact HC1_6.out); (case side3 => repeat (first | exact (Kd.C_below HR1_7.out HB.out) | (with_reducible refine Kd.C_alloc ?_ _) | (with_reducible refine Kd.C_drewN ?_ _) | (with_reducible refine Kd.C_drew ?_))); (case side4 => exact HC1_7.out); rintro e w22 ⟨rfl, hb⟩; have n0_ := Aside0.mk (blk_below (g := gb172) (o := .cells #[.int .i64 a0_0, .int .i64 a0_1, .int .i64 a0_2, .int .i64 a0_3, .int .i64 a0_4, .int .i64 a0_5, .slice A0_6 l0_6.length c0_6, .slice A0_7 l0_7.length c0_7] 25 (0, 0)) (by (with_reducible repeat (first | refine blk_drewN ?_ _ | refine blk_drew ?_ | refine blk_alloc ?_ _)); exact BK172.out) hb); have n1_ := Aside0.mk (blk_below (g := gb173) (o := .cells #[.int .i64 a1_0, .int .i64 a1_1, .int .i64 a1_2, .int .i64 a1_3, .int .i64 a1_4, .int .i64 a1_5, .slice A1_6 l1_6.length c1_6, .slice A1_7 l1_7.length c1_7] 25 (0, 0)) (by (with_reducible repeat (first | refine blk_drewN ?_ _ | refine blk_drew ?_ | refine blk_alloc ?_ _)); exact BK173.out) hb); have n2_ := Aside0.mk (below_step (by repeat (first | (with_reducible first | exact HB.out | apply below_alloc | apply pw_below_drewN | apply below_drew1 | refine below_set ?_ GE172.out | refine below_set ?_ GE173.out) | exact HB.out)) hb); clear BK172; clear BK173; clear HB; have BK172 := n0_; have BK173 := n1_; have HB := n2_; clear n0_ n1_ n2_; (try clear hb); (try clear hb2); (try clear hk); (try clear hi)))
        go_meet
        case rel => exact ⟨_, (true), (by first | rfl | (simp; done) | (simp [*]; done)), H', ⟨by first | omega | exact Nat.le_refl _⟩, ⟨by (with_reducible repeat (first | refine blk_drewN ?_ _ | refine blk_drew ?_ | refine blk_alloc ?_ _)); exact BK172.out⟩, ⟨by (with_reducible repeat (first | refine blk_drewN ?_ _ | refine blk_drew ?_ | refine blk_alloc ?_ _)); exact BK173.out⟩, ⟨by repeat (first | (with_reducible first | exact HB.out | apply below_alloc | apply pw_below_drewN | apply below_drew1 | refine below_set ?_ GE172.out | refine below_set ?_ GE173.out) | exact HB.out)⟩⟩
    · replace c10 := Bool.eq_false_iff.mpr c10
      subst c10
      have H1 : (precentorlaw03_ItemTells.j0 k l2 t174 true a0_0 a0_1 a0_2 a0_3 a0_4 a0_5 l0_6 l0_7 a1_0 a1_1 a1_2 a1_3 a1_4 a1_5 l1_6 l1_7) = some r := by rw [if_neg (show ¬ (false = true) by decide)] at H; exact H
      clear H
      have H := H1
      clear H1
      have H' := Aside0.mk H
      clear H
      have hnb23 := NB172_173.out
      have hnc23 := NB173_172.out
      have hcz24_0 : w8.cell? ⟨gb172, 0, none⟩ = some (.int .i64 a0_0) := (blk_cell BK172.out 0).trans rfl
      have hcz24_1 : w8.cell? ⟨gb172, 1, none⟩ = some (.int .i64 a0_1) := (blk_cell BK172.out 1).trans rfl
      have hcz24_2 : w8.cell? ⟨gb172, 2, none⟩ = some (.int .i64 a0_2) := (blk_cell BK172.out 2).trans rfl
      have hcz24_3 : w8.cell? ⟨gb172, 3, none⟩ = some (.int .i64 a0_3) := (blk_cell BK172.out 3).trans rfl
      have hcz24_4 : w8.cell? ⟨gb172, 4, none⟩ = some (.int .i64 a0_4) := (blk_cell BK172.out 4).trans rfl
      have hcz24_5 : w8.cell? ⟨gb172, 5, none⟩ = some (.int .i64 a0_5) := (blk_cell BK172.out 5).trans rfl
      have hcz24_6 : w8.cell? ⟨gb172, 6, none⟩ = some (.slice A0_6 l0_6.length c0_6) := (blk_cell BK172.out 6).trans rfl
      have hcz24_7 : w8.cell? ⟨gb172, 7, none⟩ = some (.slice A0_7 l0_7.length c0_7) := (blk_cell BK172.out 7).trans rfl
      have hfz24_0 := blk_frozen BK172.out 0
      have hfz24_1 := blk_frozen BK172.out 1
      have hfz24_2 := blk_frozen BK172.out 2
      have hfz24_3 := blk_frozen BK172.out 3
      have hfz24_4 := blk_frozen BK172.out 4
      have hfz24_5 := blk_frozen BK172.out 5
      have hfz24_6 := blk_frozen BK172.out 6
      have hfz24_7 := blk_frozen BK172.out 7
      go_wp2_with (first | ((with_reducible refine gate_callee (f := 10) rfl ?_); refine goesL_ (some 14) rfl rfl Tryd.func10 (by kernel_rfl) rfl #[.agg #[.int .i64 a0_0, .int .i64 a0_1, .int .i64 a0_2, .int .i64 a0_3, .int .i64 a0_4, .int .i64 a0_5, .slice A0_6 l0_6.length c0_6, .slice A0_7 l0_7.length c0_7]] rfl (by (try simp only [List.map_toArray, List.map_cons, List.map_nil]); first | done | rfl | (simp only [List.length_drop, List.length_take]; rfl)) ?_; (with_reducible refine (precentorref03_Few.calls a0_0 a0_1 a0_2 a0_3 a0_4 a0_5 _ _ l0_6 _ _ l0_7 false _ ?side1 ?side2 ?side3 ?side4 A9.out).mono ?_); (case side1 => repeat (first | exact (Kd.C_below HR0_6.out HB.out) | (with_reducible refine Kd.C_alloc ?_ _) | (with_reducible refine Kd.C_drewN ?_ _) | (with_reducible refine Kd.C_drew ?_))); (case side2 => exact HC0_6.out); (case side3 => repeat (first | exact (Kd.C_below HR0_7.out HB.out) | (with_reducible refine Kd.C_alloc ?_ _) | (with_reducible refine Kd.C_drewN ?_ _) | (with_reducible refine Kd.C_drew ?_))); (case side4 => exact HC0_7.out); rintro e w25 ⟨rfl, hb⟩; refine ⟨_, rfl, ?_⟩; have n0_ := Aside0.mk (blk_below (g := gb172) (o := .cells #[.int .i64 a0_0, .int .i64 a0_1, .int .i64 a0_2, .int .i64 a0_3, .int .i64 a0_4, .int .i64 a0_5, .slice A0_6 l0_6.length c0_6, .slice A0_7 l0_7.length c0_7] 25 (0, 0)) (by (with_reducible repeat (first | refine blk_drewN ?_ _ | refine blk_drew ?_ | refine blk_alloc ?_ _)); exact BK172.out) hb); have n1_ := Aside0.mk (blk_below (g := gb173) (o := .cells #[.int .i64 a1_0, .int .i64 a1_1, .int .i64 a1_2, .int .i64 a1_3, .int .i64 a1_4, .int .i64 a1_5, .slice A1_6 l1_6.length c1_6, .slice A1_7 l1_7.length c1_7] 25 (0, 0)) (by (with_reducible repeat (first | refine blk_drewN ?_ _ | refine blk_drew ?_ | refine blk_alloc ?_ _)); exact BK173.out) hb); have n2_ := Aside0.mk (below_step (by repeat (first | (with_reducible first | exact HB.out | apply below_alloc | apply pw_below_drewN | apply below_drew1 | refine below_set ?_ GE172.out | refine below_set ?_ GE173.out) | exact HB.out)) hb); clear BK172; clear BK173; clear HB; have BK172 := n0_; have BK173 := n1_; have HB := n2_; clear n0_ n1_ n2_; (try clear hb); (try clear hb2); (try clear hk); (try clear hi)))
      go_meet
      case rel => exact ⟨_, (true), (by first | rfl | (simp; done) | (simp [*]; done)), H', ⟨by first | omega | exact Nat.le_refl _⟩, ⟨by (with_reducible repeat (first | refine blk_drewN ?_ _ | refine blk_drew ?_ | refine blk_alloc ?_ _)); exact BK172.out⟩, ⟨by (with_reducible repeat (first | refine blk_drewN ?_ _ | refine blk_drew ?_ | refine blk_alloc ?_ _)); exact BK173.out⟩, ⟨by repeat (first | (with_reducible first | exact HB.out | apply below_alloc | apply pw_below_drewN | apply below_drew1 | refine below_set ?_ GE172.out | refine below_set ?_ GE173.out) | exact HB.out)⟩⟩
  case rest =>
    clear HC5
    try clear c1
    try clear c2
    try clear p2
    try clear c3
    try clear c9
    try clear c10
    try clear c12
    try clear c13
    try clear c18
    try clear c23
    try clear hcz14_0
    try clear hcz14_1
    try clear hcz14_2
    try clear hcz14_3
    try clear hcz14_4
    try clear hcz14_5
    try clear hcz14_6
    try clear hcz14_7
    try clear hcz16_0
    try clear hcz16_1
    try clear hcz16_2
    try clear hcz16_3
    try clear hcz16_4
    try clear hcz16_5
    try clear hcz16_6
    try clear hcz16_7
    try clear hcz19_0
    try clear hcz19_1
    try clear hcz19_2
    try clear hcz19_3
    try clear hcz19_4
    try clear hcz19_5
    try clear hcz19_6
    try clear hcz19_7
    try clear hcz21_0
    try clear hcz21_1
    try clear hcz21_2
    try clear hcz21_3
    try clear hcz21_4
    try clear hcz21_5
    try clear hcz21_6
    try clear hcz21_7
    try clear hcz24_0
    try clear hcz24_1
    try clear hcz24_2
    try clear hcz24_3
    try clear hcz24_4
    try clear hcz24_5
    try clear hcz24_6
    try clear hcz24_7
    try clear hfz14_0
    try clear hfz14_1
    try clear hfz14_2
    try clear hfz14_3
    try clear hfz14_4
    try clear hfz14_5
    try clear hfz14_6
    try clear hfz14_7
    try clear hfz16_0
    try clear hfz16_1
    try clear hfz16_2
    try clear hfz16_3
    try clear hfz16_4
    try clear hfz16_5
    try clear hfz16_6
    try clear hfz16_7
    try clear hfz19_0
    try clear hfz19_1
    try clear hfz19_2
    try clear hfz19_3
    try clear hfz19_4
    try clear hfz19_5
    try clear hfz19_6
    try clear hfz19_7
    try clear hfz21_0
    try clear hfz21_1
    try clear hfz21_2
    try clear hfz21_3
    try clear hfz21_4
    try clear hfz21_5
    try clear hfz21_6
    try clear hfz21_7
    try clear hfz24_0
    try clear hfz24_1
    try clear hfz24_2
    try clear hfz24_3
    try clear hfz24_4
    try clear hfz24_5
    try clear hfz24_6
    try clear hfz24_7
    obtain ⟨kq, x25_4, rfl, HA, HJ4, BK172, BK173, HB⟩ := hcut
    cases kq with
    | zero => exact absurd HA.out (by simp [precentorlaw03_ItemTells.j0])
    | succ kj4 =>
      have H := HA.out
      clear HA
      simp only [precentorlaw03_ItemTells.j0] at H
      by_cases c26 : x25_4 = true
      · subst c26
        have H1 : (some t174) = some r := by rw [if_pos rfl] at H; exact H
        clear H
        have H := H1
        clear H1
        obtain rfl := Option.some.inj H
        go_wp2
        go_ret
        exact ⟨by first | rfl | (simp [errW_none, errW_some] <;> rfl) | (simp [*, errW_none, errW_some] <;> rfl), by repeat (first | (with_reducible first | exact HB.out | apply below_alloc | apply pw_below_drewN | apply below_drew1 | refine below_set ?_ GE172.out | refine below_set ?_ GE173.out) | exact HB.out)⟩
      · replace c26 := Bool.eq_false_iff.mpr c26
        subst c26
        have H1 : ((item_Take.f l2).bind fun bt177 => ((precentorref03_Take.f l2).bind fun bt191 => (if t174 = true then ((item_May.f a0_0 a0_1 a0_2 a0_3 a0_4 a0_5 l0_6 l0_7).bind fun t205 => ((precentorref03_May.f a0_0 a0_1 a0_2 a0_3 a0_4 a0_5 l0_6 l0_7).bind fun t206 => (if (t205 == t206) = true then ((item_Same.f a0_0 a0_1 a0_2 a0_3 a0_4 a0_5 l0_6 l0_7 a1_0 a1_1 a1_2 a1_3 a1_4 a1_5 l1_6 l1_7).bind fun t207 => ((precentorref03_Same.f a0_0 a0_1 a0_2 a0_3 a0_4 a0_5 l0_6 l0_7 a1_0 a1_1 a1_2 a1_3 a1_4 a1_5 l1_6 l1_7).bind fun t208 => (if (t207 == t208) = true then ((item_Bytes.f a0_0 a0_1 a0_2 a0_3 a0_4 a0_5 l0_6 l0_7).bind fun t209 => ((precentorref03_Bytes.f a0_0 a0_1 a0_2 a0_3 a0_4 a0_5 l0_6 l0_7).bind fun t212 => (if (strOfNums t209).toList = (strOfNums t212).toList then ((precentorref03_Same.f bt177.1 bt177.2.1 bt177.2.2.1 bt177.2.2.2.1 bt177.2.2.2.2.1 bt177.2.2.2.2.2.1 bt177.2.2.2.2.2.2.1 bt177.2.2.2.2.2.2.2.1 bt191.1 bt191.2.1 bt191.2.2.1 bt191.2.2.2.1 bt191.2.2.2.2.1 bt191.2.2.2.2.2.1 bt191.2.2.2.2.2.2.1 bt191.2.2.2.2.2.2.2.1).bind fun t215 => (if t215 = true then (some (bt177.2.2.2.2.2.2.2.2 == bt191.2.2.2.2.2.2.2.2)) else (none))) else (none)))) else (none)))) else (none)))) else (none)))) = some r := by rw [if_neg (show ¬ (false = true) by decide)] at H; exact H
        clear H
        have H := H1
        clear H1
        replace H := Option.bind_eq_some_iff.mp H
        obtain ⟨⟨t177, t178, t179, t180, t181, t182, t183, t186, t189⟩, A270, H⟩ := H
        replace H : ((precentorref03_Take.f l2).bind fun bt191 => (if t174 = true then ((item_May.f a0_0 a0_1 a0_2 a0_3 a0_4 a0_5 l0_6 l0_7).bind fun t205 => ((precentorref03_May.f a0_0 a0_1 a0_2 a0_3 a0_4 a0_5 l0_6 l0_7).bind fun t206 => (if (t205 == t206) = true then ((item_Same.f a0_0 a0_1 a0_2 a0_3 a0_4 a0_5 l0_6 l0_7 a1_0 a1_1 a1_2 a1_3 a1_4 a1_5 l1_6 l1_7).bind fun t207 => ((precentorref03_Same.f a0_0 a0_1 a0_2 a0_3 a0_4 a0_5 l0_6 l0_7 a1_0 a1_1 a1_2 a1_3 a1_4 a1_5 l1_6 l1_7).bind fun t208 => (if (t207 == t208) = true then ((item_Bytes.f a0_0 a0_1 a0_2 a0_3 a0_4 a0_5 l0_6 l0_7).bind fun t209 => ((precentorref03_Bytes.f a0_0 a0_1 a0_2 a0_3 a0_4 a0_5 l0_6 l0_7).bind fun t212 => (if (strOfNums t209).toList = (strOfNums t212).toList then ((precentorref03_Same.f t177 t178 t179 t180 t181 t182 t183 t186 bt191.1 bt191.2.1 bt191.2.2.1 bt191.2.2.2.1 bt191.2.2.2.2.1 bt191.2.2.2.2.2.1 bt191.2.2.2.2.2.2.1 bt191.2.2.2.2.2.2.2.1).bind fun t215 => (if t215 = true then (some (t189 == bt191.2.2.2.2.2.2.2.2)) else (none))) else (none)))) else (none)))) else (none)))) else (none))) = some r := H
        have A27 := Aside0.mk A270
        clear A270
        replace H := Option.bind_eq_some_iff.mp H
        obtain ⟨⟨t191, t192, t193, t194, t195, t196, t197, t200, t203⟩, A280, H⟩ := H
        replace H : (if t174 = true then ((item_May.f a0_0 a0_1 a0_2 a0_3 a0_4 a0_5 l0_6 l0_7).bind fun t205 => ((precentorref03_May.f a0_0 a0_1 a0_2 a0_3 a0_4 a0_5 l0_6 l0_7).bind fun t206 => (if (t205 == t206) = true then ((item_Same.f a0_0 a0_1 a0_2 a0_3 a0_4 a0_5 l0_6 l0_7 a1_0 a1_1 a1_2 a1_3 a1_4 a1_5 l1_6 l1_7).bind fun t207 => ((precentorref03_Same.f a0_0 a0_1 a0_2 a0_3 a0_4 a0_5 l0_6 l0_7 a1_0 a1_1 a1_2 a1_3 a1_4 a1_5 l1_6 l1_7).bind fun t208 => (if (t207 == t208) = true then ((item_Bytes.f a0_0 a0_1 a0_2 a0_3 a0_4 a0_5 l0_6 l0_7).bind fun t209 => ((precentorref03_Bytes.f a0_0 a0_1 a0_2 a0_3 a0_4 a0_5 l0_6 l0_7).bind fun t212 => (if (strOfNums t209).toList = (strOfNums t212).toList then ((precentorref03_Same.f t177 t178 t179 t180 t181 t182 t183 t186 t191 t192 t193 t194 t195 t196 t197 t200).bind fun t215 => (if t215 = true then (some (t189 == t203)) else (none))) else (none)))) else (none)))) else (none)))) else (none)) = some r := H
        have A28 := Aside0.mk A280
        clear A280
        by_cases c29 : t174 = true
        · subst c29
          have H1 : ((item_May.f a0_0 a0_1 a0_2 a0_3 a0_4 a0_5 l0_6 l0_7).bind fun t205 => ((precentorref03_May.f a0_0 a0_1 a0_2 a0_3 a0_4 a0_5 l0_6 l0_7).bind fun t206 => (if (t205 == t206) = true then ((item_Same.f a0_0 a0_1 a0_2 a0_3 a0_4 a0_5 l0_6 l0_7 a1_0 a1_1 a1_2 a1_3 a1_4 a1_5 l1_6 l1_7).bind fun t207 => ((precentorref03_Same.f a0_0 a0_1 a0_2 a0_3 a0_4 a0_5 l0_6 l0_7 a1_0 a1_1 a1_2 a1_3 a1_4 a1_5 l1_6 l1_7).bind fun t208 => (if (t207 == t208) = true then ((item_Bytes.f a0_0 a0_1 a0_2 a0_3 a0_4 a0_5 l0_6 l0_7).bind fun t209 => ((precentorref03_Bytes.f a0_0 a0_1 a0_2 a0_3 a0_4 a0_5 l0_6 l0_7).bind fun t212 => (if (strOfNums t209).toList = (strOfNums t212).toList then ((precentorref03_Same.f t177 t178 t179 t180 t181 t182 t183 t186 t191 t192 t193 t194 t195 t196 t197 t200).bind fun t215 => (if t215 = true then (some (t189 == t203)) else (none))) else (none)))) else (none)))) else (none)))) = some r := by rw [if_pos rfl] at H; exact H
          clear H
          have H := H1
          clear H1
          replace H := Option.bind_eq_some_iff.mp H
          obtain ⟨t205, A300, H⟩ := H
          replace H : ((precentorref03_May.f a0_0 a0_1 a0_2 a0_3 a0_4 a0_5 l0_6 l0_7).bind fun t206 => (if (t205 == t206) = true then ((item_Same.f a0_0 a0_1 a0_2 a0_3 a0_4 a0_5 l0_6 l0_7 a1_0 a1_1 a1_2 a1_3 a1_4 a1_5 l1_6 l1_7).bind fun t207 => ((precentorref03_Same.f a0_0 a0_1 a0_2 a0_3 a0_4 a0_5 l0_6 l0_7 a1_0 a1_1 a1_2 a1_3 a1_4 a1_5 l1_6 l1_7).bind fun t208 => (if (t207 == t208) = true then ((item_Bytes.f a0_0 a0_1 a0_2 a0_3 a0_4 a0_5 l0_6 l0_7).bind fun t209 => ((precentorref03_Bytes.f a0_0 a0_1 a0_2 a0_3 a0_4 a0_5 l0_6 l0_7).bind fun t212 => (if (strOfNums t209).toList = (strOfNums t212).toList then ((precentorref03_Same.f t177 t178 t179 t180 t181 t182 t183 t186 t191 t192 t193 t194 t195 t196 t197 t200).bind fun t215 => (if t215 = true then (some (t189 == t203)) else (none))) else (none)))) else (none)))) else (none))) = some r := H
          have A30 := Aside0.mk A300
          clear A300
          replace H := Option.bind_eq_some_iff.mp H
          obtain ⟨t206, A310, H⟩ := H
          replace H : (if (t205 == t206) = true then ((item_Same.f a0_0 a0_1 a0_2 a0_3 a0_4 a0_5 l0_6 l0_7 a1_0 a1_1 a1_2 a1_3 a1_4 a1_5 l1_6 l1_7).bind fun t207 => ((precentorref03_Same.f a0_0 a0_1 a0_2 a0_3 a0_4 a0_5 l0_6 l0_7 a1_0 a1_1 a1_2 a1_3 a1_4 a1_5 l1_6 l1_7).bind fun t208 => (if (t207 == t208) = true then ((item_Bytes.f a0_0 a0_1 a0_2 a0_3 a0_4 a0_5 l0_6 l0_7).bind fun t209 => ((precentorref03_Bytes.f a0_0 a0_1 a0_2 a0_3 a0_4 a0_5 l0_6 l0_7).bind fun t212 => (if (strOfNums t209).toList = (strOfNums t212).toList then ((precentorref03_Same.f t177 t178 t179 t180 t181 t182 t183 t186 t191 t192 t193 t194 t195 t196 t197 t200).bind fun t215 => (if t215 = true then (some (t189 == t203)) else (none))) else (none)))) else (none)))) else (none)) = some r := H
          have A31 := Aside0.mk A310
          clear A310
          by_cases c32 : (t205 == t206) = true
          · rw [if_pos c32] at H
            have c32b0 : (t205 == t206) = true := c32
            (try (have c32b1 : decide (t205 = t206) = true := by simpa using c32))
            (try (have c32b2 : (t205 == t206) = true := by simpa using c32))
            clear c32
            replace H := Option.bind_eq_some_iff.mp H
            obtain ⟨t207, A330, H⟩ := H
            replace H : ((precentorref03_Same.f a0_0 a0_1 a0_2 a0_3 a0_4 a0_5 l0_6 l0_7 a1_0 a1_1 a1_2 a1_3 a1_4 a1_5 l1_6 l1_7).bind fun t208 => (if (t207 == t208) = true then ((item_Bytes.f a0_0 a0_1 a0_2 a0_3 a0_4 a0_5 l0_6 l0_7).bind fun t209 => ((precentorref03_Bytes.f a0_0 a0_1 a0_2 a0_3 a0_4 a0_5 l0_6 l0_7).bind fun t212 => (if (strOfNums t209).toList = (strOfNums t212).toList then ((precentorref03_Same.f t177 t178 t179 t180 t181 t182 t183 t186 t191 t192 t193 t194 t195 t196 t197 t200).bind fun t215 => (if t215 = true then (some (t189 == t203)) else (none))) else (none)))) else (none))) = some r := H
            have A33 := Aside0.mk A330
            clear A330
            replace H := Option.bind_eq_some_iff.mp H
            obtain ⟨t208, A340, H⟩ := H
            replace H : (if (t207 == t208) = true then ((item_Bytes.f a0_0 a0_1 a0_2 a0_3 a0_4 a0_5 l0_6 l0_7).bind fun t209 => ((precentorref03_Bytes.f a0_0 a0_1 a0_2 a0_3 a0_4 a0_5 l0_6 l0_7).bind fun t212 => (if (strOfNums t209).toList = (strOfNums t212).toList then ((precentorref03_Same.f t177 t178 t179 t180 t181 t182 t183 t186 t191 t192 t193 t194 t195 t196 t197 t200).bind fun t215 => (if t215 = true then (some (t189 == t203)) else (none))) else (none)))) else (none)) = some r := H
            have A34 := Aside0.mk A340
            clear A340
            by_cases c35 : (t207 == t208) = true
            · rw [if_pos c35] at H
              have c35b0 : (t207 == t208) = true := c35
              (try (have c35b1 : decide (t207 = t208) = true := by simpa using c35))
              (try (have c35b2 : (t207 == t208) = true := by simpa using c35))
              clear c35
              replace H := Option.bind_eq_some_iff.mp H
              obtain ⟨t209, A360, H⟩ := H
              replace H : ((precentorref03_Bytes.f a0_0 a0_1 a0_2 a0_3 a0_4 a0_5 l0_6 l0_7).bind fun t212 => (if (strOfNums t209).toList = (strOfNums t212).toList then ((precentorref03_Same.f t177 t178 t179 t180 t181 t182 t183 t186 t191 t192 t193 t194 t195 t196 t197 t200).bind fun t215 => (if t215 = true then (some (t189 == t203)) else (none))) else (none))) = some r := H
              have A36 := Aside0.mk A360
              clear A360
              replace H := Option.bind_eq_some_iff.mp H
              obtain ⟨t212, A370, H⟩ := H
              replace H : (if (strOfNums t209).toList = (strOfNums t212).toList then ((precentorref03_Same.f t177 t178 t179 t180 t181 t182 t183 t186 t191 t192 t193 t194 t195 t196 t197 t200).bind fun t215 => (if t215 = true then (some (t189 == t203)) else (none))) else (none)) = some r := H
              have A37 := Aside0.mk A370
              clear A370
              by_cases c38 : (strOfNums t209).toList = (strOfNums t212).toList
              · rw [if_pos c38] at H
                have c38b0 : ((strOfNums t209).toList == (strOfNums t212).toList) = true := beq_iff_eq.mpr c38
                have c38b1 : ((strOfNums t209).toList != (strOfNums t212).toList) = false := bne_eq_false_iff_eq.mpr c38
                clear c38
                replace H := Option.bind_eq_some_iff.mp H
                obtain ⟨t215, A390, H⟩ := H
                replace H : (if t215 = true then (some (t189 == t203)) else (none)) = some r := H
                have A39 := Aside0.mk A390
                clear A390
                by_cases c40 : t215 = true
                · subst c40
                  have H1 : (some (t189 == t203)) = some r := by rw [if_pos rfl] at H; exact H
                  clear H
                  have H := H1
                  clear H1
                  obtain rfl := Option.some.inj H
                  try go_wp2_with (first | ((with_reducible refine gate_callee (f := 11) rfl ?_); refine goesL_ (some 29) rfl rfl Tryd.func11 (by kernel_rfl) rfl #[.slice A2 l2.length c2] rfl (by (try simp only [List.map_toArray, List.map_cons, List.map_nil]); first | done | rfl | (simp only [List.length_drop, List.length_take]; rfl)) ?_; (with_reducible refine (item_Take.calls _ _ l2 t177 t178 t179 t180 t181 t182 t183 t186 t189 _ ?side1 ?side2 ?side3 A27.out).mono ?_); (case side1 => repeat (first | exact (Kd.C_below HR2.out HB.out) | (with_reducible refine Kd.C_alloc ?_ _) | (with_reducible refine Kd.C_drewN ?_ _) | (with_reducible refine Kd.C_drew ?_))); (case side2 => exact HC2.out); (case side3 => exact GB.below hG (by repeat (first | (with_reducible first | exact HB.out | apply below_alloc | apply pw_below_drewN | apply below_drew1 | refine below_set ?_ GE172.out | refine below_set ?_ GE173.out) | exact HB.out))); rintro e w41 ⟨v184, v187, rfl, ho0, ho1, hb⟩; refine ⟨_, rfl, ?_⟩; have n0_ := Aside0.mk (Kd.R_lower ho0 (below_size (by repeat (first | (with_reducible first | exact HB.out | apply below_alloc | apply pw_below_drewN | apply below_drew1 | refine below_set ?_ GE172.out | refine below_set ?_ GE173.out) | exact HB.out)))); have n1_ := Aside0.mk (Kd.R_lower ho1 (below_size (by repeat (first | (with_reducible first | exact HB.out | apply below_alloc | apply pw_below_drewN | apply below_drew1 | refine below_set ?_ GE172.out | refine below_set ?_ GE173.out) | exact HB.out)))); have n2_ := Aside0.mk (blk_below (g := gb172) (o := .cells #[.int .i64 a0_0, .int .i64 a0_1, .int .i64 a0_2, .int .i64 a0_3, .int .i64 a0_4, .int .i64 a0_5, .slice A0_6 l0_6.length c0_6, .slice A0_7 l0_7.length c0_7] 25 (0, 0)) (by (with_reducible repeat (first | refine blk_drewN ?_ _ | refine blk_drew ?_ | refine blk_alloc ?_ _)); exact BK172.out) hb); have n3_ := Aside0.mk (blk_below (g := gb173) (o := .cells #[.int .i64 a1_0, .int .i64 a1_1, .int .i64 a1_2, .int .i64 a1_3, .int .i64 a1_4, .int .i64 a1_5, .slice A1_6 l1_6.length c1_6, .slice A1_7 l1_7.length c1_7] 25 (0, 0)) (by (with_reducible repeat (first | refine blk_drewN ?_ _ | refine blk_drew ?_ | refine blk_alloc ?_ _)); exact BK173.out) hb); have n4_ := Aside0.mk (below_step (by repeat (first | (with_reducible first | exact HB.out | apply below_alloc | apply pw_below_drewN | apply below_drew1 | refine below_set ?_ GE172.out | refine below_set ?_ GE173.out) | exact HB.out)) hb); clear BK172; clear BK173; clear HB; have HO185 := n0_; have HO188 := n1_; have BK172 := n2_; have BK173 := n3_; have HB := n4_; clear n0_ n1_ n2_ n3_ n4_; (try clear hb); (try clear hb2); (try clear hk); (try clear hi); (try clear ho0); (try clear ho1)) | ((with_reducible refine gate_dst (N := 8) rfl ?_); (try (refine gate_guard (by rfl) ?_; dsimp only)); refine box_event ?hg (N := 8) ?hd (cs := #[.int .i64 0, .int .i64 0, .int .i64 0, .int .i64 0, .int .i64 0, .int .i64 0, .slice none 0 0, .slice none 0 0]) (t := 25) ?hr ?_; (case hd => rfl); (case hg => rfl); (case hr => first | (go_simp; done) | (go_simp; rfl)); intro gb190 hg w42 hbox hb; have n0_ := Aside0.mk (Kd.R_below (by (with_reducible repeat (first | apply Kd.R_alloc | apply Kd.R_drewN | apply Kd.R_drew)); exact HO185.out) hb); have n1_ := Aside0.mk (Kd.R_below (by (with_reducible repeat (first | apply Kd.R_alloc | apply Kd.R_drewN | apply Kd.R_drew)); exact HO188.out) hb); have n2_ := Aside0.mk (blk_below (g := gb172) (o := .cells #[.int .i64 a0_0, .int .i64 a0_1, .int .i64 a0_2, .int .i64 a0_3, .int .i64 a0_4, .int .i64 a0_5, .slice A0_6 l0_6.length c0_6, .slice A0_7 l0_7.length c0_7] 25 (0, 0)) (by (with_reducible repeat (first | refine blk_drewN ?_ _ | refine blk_drew ?_ | refine blk_alloc ?_ _)); exact BK172.out) hb); have n3_ := Aside0.mk (blk_below (g := gb173) (o := .cells #[.int .i64 a1_0, .int .i64 a1_1, .int .i64 a1_2, .int .i64 a1_3, .int .i64 a1_4, .int .i64 a1_5, .slice A1_6 l1_6.length c1_6, .slice A1_7 l1_7.length c1_7] 25 (0, 0)) (by (with_reducible repeat (first | refine blk_drewN ?_ _ | refine blk_drew ?_ | refine blk_alloc ?_ _)); exact BK173.out) hb); have n4_ := Aside0.mk (below_step (by repeat (first | (with_reducible first | exact HB.out | apply below_alloc | apply pw_below_drewN | apply below_drew1 | refine below_set ?_ GE172.out | refine below_set ?_ GE173.out) | exact HB.out)) hb); have n5_ := Aside0.mk (hbox); have n6_ := Aside0.mk ((by rw [hg]; exact (below_size (by repeat (first | (with_reducible first | exact HB.out | apply below_alloc | apply pw_below_drewN | apply below_drew1 | refine below_set ?_ GE172.out | refine below_set ?_ GE173.out) | exact HB.out))) : w.heap.size ≤ gb190)); have n7_ := Aside0.mk ((by rw [hg]; exact (below_size (by repeat (first | (with_reducible first | exact HB.out | apply below_alloc | apply pw_below_drewN | apply below_drew1 | refine below_set ?_ GE172.out | refine below_set ?_ GE173.out) | exact HB.out))) : w.heap.size ≤ gb190)); have n8_ := Aside0.mk ((by rw [hg]; exact Nat.ne_of_lt (blk_lt (g := gb172) (o := .cells #[.int .i64 a0_0, .int .i64 a0_1, .int .i64 a0_2, .int .i64 a0_3, .int .i64 a0_4, .int .i64 a0_5, .slice A0_6 l0_6.length c0_6, .slice A0_7 l0_7.length c0_7] 25 (0, 0)) (by (with_reducible repeat (first | refine blk_drewN ?_ _ | refine blk_drew ?_ | refine blk_alloc ?_ _)); exact BK172.out)) : gb172 ≠ gb190)); have n9_ := Aside0.mk ((by rw [hg]; exact Nat.ne_of_gt (blk_lt (g := gb172) (o := .cells #[.int .i64 a0_0, .int .i64 a0_1, .int .i64 a0_2, .int .i64 a0_3, .int .i64 a0_4, .int .i64 a0_5, .slice A0_6 l0_6.length c0_6, .slice A0_7 l0_7.length c0_7] 25 (0, 0)) (by (with_reducible repeat (first | refine blk_drewN ?_ _ | refine blk_drew ?_ | refine blk_alloc ?_ _)); exact BK172.out)) : gb190 ≠ gb172)); have n10_ := Aside0.mk ((by rw [hg]; exact Nat.ne_of_lt (blk_lt (g := gb173) (o := .cells #[.int .i64 a1_0, .int .i64 a1_1, .int .i64 a1_2, .int .i64 a1_3, .int .i64 a1_4, .int .i64 a1_5, .slice A1_6 l1_6.length c1_6, .slice A1_7 l1_7.length c1_7] 25 (0, 0)) (by (with_reducible repeat (first | refine blk_drewN ?_ _ | refine blk_drew ?_ | refine blk_alloc ?_ _)); exact BK173.out)) : gb173 ≠ gb190)); have n11_ := Aside0.mk ((by rw [hg]; exact Nat.ne_of_gt (blk_lt (g := gb173) (o := .cells #[.int .i64 a1_0, .int .i64 a1_1, .int .i64 a1_2, .int .i64 a1_3, .int .i64 a1_4, .int .i64 a1_5, .slice A1_6 l1_6.length c1_6, .slice A1_7 l1_7.length c1_7] 25 (0, 0)) (by (with_reducible repeat (first | refine blk_drewN ?_ _ | refine blk_drew ?_ | refine blk_alloc ?_ _)); exact BK173.out)) : gb190 ≠ gb173)); clear HO185; clear HO188; clear BK172; clear BK173; clear HB; have HO185 := n0_; have HO188 := n1_; have BK172 := n2_; have BK173 := n3_; have HB := n4_; have BK190 := n5_; have GW190 := n6_; have GE190 := n7_; have NB172_190 := n8_; have NB190_172 := n9_; have NB173_190 := n10_; have NB190_173 := n11_; clear n0_ n1_ n2_ n3_ n4_ n5_ n6_ n7_ n8_ n9_ n10_ n11_; clear hb hbox hg; have hnb43 := NB190_172.out; have hnc43 := NB172_190.out; have hnb44 := NB190_173.out; have hnc44 := NB173_190.out; have hcz45_0 : w42.cell? ⟨gb190, 0, none⟩ = some (.int .i64 0) := (blk_cell BK190.out 0).trans rfl; have hcz45_1 : w42.cell? ⟨gb190, 1, none⟩ = some (.int .i64 0) := (blk_cell BK190.out 1).trans rfl; have hcz45_2 : w42.cell? ⟨gb190, 2, none⟩ = some (.int .i64 0) := (blk_cell BK190.out 2).trans rfl; have hcz45_3 : w42.cell? ⟨gb190, 3, none⟩ = some (.int .i64 0) := (blk_cell BK190.out 3).trans rfl; have hcz45_4 : w42.cell? ⟨gb190, 4, none⟩ = some (.int .i64 0) := (blk_cell BK190.out 4).trans rfl; have hcz45_5 : w42.cell? ⟨gb190, 5, none⟩ = some (.int .i64 0) := (blk_cell BK190.out 5).trans rfl; have hcz45_6 : w42.cell? ⟨gb190, 6, none⟩ = some (.slice none 0 0) := (blk_cell BK190.out 6).trans rfl; have hcz45_7 : w42.cell? ⟨gb190, 7, none⟩ = some (.slice none 0 0) := (blk_cell BK190.out 7).trans rfl; have hfz45_0 := blk_frozen BK190.out 0; have hfz45_1 := blk_frozen BK190.out 1; have hfz45_2 := blk_frozen BK190.out 2; have hfz45_3 := blk_frozen BK190.out 3; have hfz45_4 := blk_frozen BK190.out 4; have hfz45_5 := blk_frozen BK190.out 5; have hfz45_6 := blk_frozen BK190.out 6; have hfz45_7 := blk_frozen BK190.out 7; obtain ⟨Ao46, co46, eo46⟩ := Kd.R_slice HO185.out; subst eo46; obtain ⟨Ao47, co47, eo47⟩ := Kd.R_slice HO188.out; subst eo47) | ((with_reducible refine gate_callee (f := 12) rfl ?_); refine goesL_ (some 34) rfl rfl Tryd.func12 (by kernel_rfl) rfl #[.slice A2 l2.length c2] rfl (by (try simp only [List.map_toArray, List.map_cons, List.map_nil]); first | done | rfl | (simp only [List.length_drop, List.length_take]; rfl)) ?_; (with_reducible refine (precentorref03_Take.calls _ _ l2 t191 t192 t193 t194 t195 t196 t197 t200 t203 _ ?side1 ?side2 A28.out).mono ?_); (case side1 => exact Kd.C_below HR2.out (by repeat (first | (with_reducible first | exact HB.out | apply below_alloc | apply pw_below_drewN | apply below_drew1 | refine below_set ?_ GE172.out | refine below_set ?_ GE173.out | refine below_set ?_ GE190.out) | exact HB.out))); (case side2 => exact HC2.out); rintro e w48 ⟨v198, v201, rfl, ho0, ho1, hb⟩; refine ⟨_, rfl, ?_⟩; have n0_ := Aside0.mk (Kd.R_elder' (by (with_reducible repeat (first | apply Kd.R_alloc | apply Kd.R_drewN | apply Kd.R_drew)); exact (Kd.R_mono (Kd.R_far (p := ⟨gb190, 7, none⟩) (Kd.R_far (p := ⟨gb190, 6, none⟩) (Kd.R_far (p := ⟨gb190, 5, none⟩) (Kd.R_far (p := ⟨gb190, 4, none⟩) (Kd.R_far (p := ⟨gb190, 3, none⟩) (Kd.R_far (p := ⟨gb190, 2, none⟩) (Kd.R_far (p := ⟨gb190, 1, none⟩) (Kd.R_far (p := ⟨gb190, 0, none⟩) (Kd.R_types HO185.out BK190.out (by decide)) (fun _ hk => hk.2) (.int .i64 t177)) (fun _ hk => hk.2) (.int .i64 t178)) (fun _ hk => hk.2) (.int .i64 t179)) (fun _ hk => hk.2) (.int .i64 t180)) (fun _ hk => hk.2) (.int .i64 t181)) (fun _ hk => hk.2) (.int .i64 t182)) (fun _ hk => hk.2) (.slice Ao46 t183.length co46)) (fun _ hk => hk.2) (.slice Ao47 t186.length co47)) (fun _ h_ => h_.1))) (Kd.R_base ho0) hb); have n1_ := Aside0.mk (Kd.R_elder' (by (with_reducible repeat (first | apply Kd.R_alloc | apply Kd.R_drewN | apply Kd.R_drew)); exact (Kd.R_mono (Kd.R_far (p := ⟨gb190, 7, none⟩) (Kd.R_far (p := ⟨gb190, 6, none⟩) (Kd.R_far (p := ⟨gb190, 5, none⟩) (Kd.R_far (p := ⟨gb190, 4, none⟩) (Kd.R_far (p := ⟨gb190, 3, none⟩) (Kd.R_far (p := ⟨gb190, 2, none⟩) (Kd.R_far (p := ⟨gb190, 1, none⟩) (Kd.R_far (p := ⟨gb190, 0, none⟩) (Kd.R_types HO188.out BK190.out (by decide)) (fun _ hk => hk.2) (.int .i64 t177)) (fun _ hk => hk.2) (.int .i64 t178)) (fun _ hk => hk.2) (.int .i64 t179)) (fun _ hk => hk.2) (.int .i64 t180)) (fun _ hk => hk.2) (.int .i64 t181)) (fun _ hk => hk.2) (.int .i64 t182)) (fun _ hk => hk.2) (.slice Ao46 t183.length co46)) (fun _ hk => hk.2) (.slice Ao47 t186.length co47)) (fun _ h_ => h_.1))) (Kd.R_base ho1) hb); have n2_ := Aside0.mk (Kd.R_lower (Kd.R_new' ho0 (Kd.R_lt (by (with_reducible repeat (first | apply Kd.R_alloc | apply Kd.R_drewN | apply Kd.R_drew)); exact (Kd.R_mono (Kd.R_far (p := ⟨gb190, 7, none⟩) (Kd.R_far (p := ⟨gb190, 6, none⟩) (Kd.R_far (p := ⟨gb190, 5, none⟩) (Kd.R_far (p := ⟨gb190, 4, none⟩) (Kd.R_far (p := ⟨gb190, 3, none⟩) (Kd.R_far (p := ⟨gb190, 2, none⟩) (Kd.R_far (p := ⟨gb190, 1, none⟩) (Kd.R_far (p := ⟨gb190, 0, none⟩) (Kd.R_types HO185.out BK190.out (by decide)) (fun _ hk => hk.2) (.int .i64 t177)) (fun _ hk => hk.2) (.int .i64 t178)) (fun _ hk => hk.2) (.int .i64 t179)) (fun _ hk => hk.2) (.int .i64 t180)) (fun _ hk => hk.2) (.int .i64 t181)) (fun _ hk => hk.2) (.int .i64 t182)) (fun _ hk => hk.2) (.slice Ao46 t183.length co46)) (fun _ hk => hk.2) (.slice Ao47 t186.length co47)) (fun _ h_ => h_.1))))) (below_size (by repeat (first | (with_reducible first | exact HB.out | apply below_alloc | apply pw_below_drewN | apply below_drew1 | refine below_set ?_ GE172.out | refine below_set ?_ GE173.out | refine below_set ?_ GE190.out) | exact HB.out)))); have n3_ := Aside0.mk (Kd.R_lower (Kd.R_new' ho1 (Kd.R_lt (by (with_reducible repeat (first | apply Kd.R_alloc | apply Kd.R_drewN | apply Kd.R_drew)); exact (Kd.R_mono (Kd.R_far (p := ⟨gb190, 7, none⟩) (Kd.R_far (p := ⟨gb190, 6, none⟩) (Kd.R_far (p := ⟨gb190, 5, none⟩) (Kd.R_far (p := ⟨gb190, 4, none⟩) (Kd.R_far (p := ⟨gb190, 3, none⟩) (Kd.R_far (p := ⟨gb190, 2, none⟩) (Kd.R_far (p := ⟨gb190, 1, none⟩) (Kd.R_far (p := ⟨gb190, 0, none⟩) (Kd.R_types HO188.out BK190.out (by decide)) (fun _ hk => hk.2) (.int .i64 t177)) (fun _ hk => hk.2) (.int .i64 t178)) (fun _ hk => hk.2) (.int .i64 t179)) (fun _ hk => hk.2) (.int .i64 t180)) (fun _ hk => hk.2) (.int .i64 t181)) (fun _ hk => hk.2) (.int .i64 t182)) (fun _ hk => hk.2) (.slice Ao46 t183.length co46)) (fun _ hk => hk.2) (.slice Ao47 t186.length co47)) (fun _ h_ => h_.1))))) (below_size (by repeat (first | (with_reducible first | exact HB.out | apply below_alloc | apply pw_below_drewN | apply below_drew1 | refine below_set ?_ GE172.out | refine below_set ?_ GE173.out | refine below_set ?_ GE190.out) | exact HB.out)))); have n4_ := Aside0.mk (blk_below (g := gb172) (o := .cells #[.int .i64 a0_0, .int .i64 a0_1, .int .i64 a0_2, .int .i64 a0_3, .int .i64 a0_4, .int .i64 a0_5, .slice A0_6 l0_6.length c0_6, .slice A0_7 l0_7.length c0_7] 25 (0, 0)) (by (with_reducible repeat (first | refine blk_drewN ?_ _ | refine blk_drew ?_ | refine blk_alloc ?_ _)); refine blk_far ?_ NB172_190.out _; (with_reducible repeat (first | refine blk_drewN ?_ _ | refine blk_drew ?_ | refine blk_alloc ?_ _)); refine blk_far ?_ NB172_190.out _; (with_reducible repeat (first | refine blk_drewN ?_ _ | refine blk_drew ?_ | refine blk_alloc ?_ _)); refine blk_far ?_ NB172_190.out _; (with_reducible repeat (first | refine blk_drewN ?_ _ | refine blk_drew ?_ | refine blk_alloc ?_ _)); refine blk_far ?_ NB172_190.out _; (with_reducible repeat (first | refine blk_drewN ?_ _ | refine blk_drew ?_ | refine blk_alloc ?_ _)); refine blk_far ?_ NB172_190.out _; (with_reducible repeat (first | refine blk_drewN ?_ _ | refine blk_drew ?_ | refine blk_alloc ?_ _)); refine blk_far ?_ NB172_190.out _; (with_reducible repeat (first | refine blk_drewN ?_ _ | refine blk_drew ?_ | refine blk_alloc ?_ _)); refine blk_far ?_ NB172_190.out _; (with_reducible repeat (first | refine blk_drewN ?_ _ | refine blk_drew ?_ | refine blk_alloc ?_ _)); refine blk_far ?_ NB172_190.out _; (with_reducible repeat (first | refine blk_drewN ?_ _ | refine blk_drew ?_ | refine blk_alloc ?_ _)); exact BK172.out) hb); have n5_ := Aside0.mk (blk_below (g := gb173) (o := .cells #[.int .i64 a1_0, .int .i64 a1_1, .int .i64 a1_2, .int .i64 a1_3, .int .i64 a1_4, .int .i64 a1_5, .slice A1_6 l1_6.length c1_6, .slice A1_7 l1_7.length c1_7] 25 (0, 0)) (by (with_reducible repeat (first | refine blk_drewN ?_ _ | refine blk_drew ?_ | refine blk_alloc ?_ _)); refine blk_far ?_ NB173_190.out _; (with_reducible repeat (first | refine blk_drewN ?_ _ | refine blk_drew ?_ | refine blk_alloc ?_ _)); refine blk_far ?_ NB173_190.out _; (with_reducible repeat (first | refine blk_drewN ?_ _ | refine blk_drew ?_ | refine blk_alloc ?_ _)); refine blk_far ?_ NB173_190.out _; (with_reducible repeat (first | refine blk_drewN ?_ _ | refine blk_drew ?_ | refine blk_alloc ?_ _)); refine blk_far ?_ NB173_190.out _; (with_reducible repeat (first | refine blk_drewN ?_ _ | refine blk_drew ?_ | refine blk_alloc ?_ _)); refine blk_far ?_ NB173_190.out _; (with_reducible repeat (first | refine blk_drewN ?_ _ | refine blk_drew ?_ | refine blk_alloc ?_ _)); refine blk_far ?_ NB173_190.out _; (with_reducible repeat (first | refine blk_drewN ?_ _ | refine blk_drew ?_ | refine blk_alloc ?_ _)); refine blk_far ?_ NB173_190.out _; (with_reducible repeat (first | refine blk_drewN ?_ _ | refine blk_drew ?_ | refine blk_alloc ?_ _)); refine blk_far ?_ NB173_190.out _; (with_reducible repeat (first | refine blk_drewN ?_ _ | refine blk_drew ?_ | refine blk_alloc ?_ _)); exact BK173.out) hb); have n6_ := Aside0.mk (blk_below (g := gb190) (o := .cells #[.int .i64 t177, .int .i64 t178, .int .i64 t179, .int .i64 t180, .int .i64 t181, .int .i64 t182, .slice Ao46 t183.length co46, .slice Ao47 t186.length co47] 25 (0, 0)) (by (with_reducible repeat (first | refine blk_drewN ?_ _ | refine blk_drew ?_ | refine blk_alloc ?_ _)); refine blk_put (cs := #[.int .i64 t177, .int .i64 t178, .int .i64 t179, .int .i64 t180, .int .i64 t181, .int .i64 t182, .slice Ao46 t183.length co46, .slice none 0 0]) ?_ 7 _ rfl; (with_reducible repeat (first | refine blk_drewN ?_ _ | refine blk_drew ?_ | refine blk_alloc ?_ _)); refine blk_put (cs := #[.int .i64 t177, .int .i64 t178, .int .i64 t179, .int .i64 t180, .int .i64 t181, .int .i64 t182, .slice none 0 0, .slice none 0 0]) ?_ 6 _ rfl; (with_reducible repeat (first | refine blk_drewN ?_ _ | refine blk_drew ?_ | refine blk_alloc ?_ _)); refine blk_put (cs := #[.int .i64 t177, .int .i64 t178, .int .i64 t179, .int .i64 t180, .int .i64 t181, .int .i64 0, .slice none 0 0, .slice none 0 0]) ?_ 5 _ rfl; (with_reducible repeat (first | refine blk_drewN ?_ _ | refine blk_drew ?_ | refine blk_alloc ?_ _)); refine blk_put (cs := #[.int .i64 t177, .int .i64 t178, .int .i64 t179, .int .i64 t180, .int .i64 0, .int .i64 0, .slice none 0 0, .slice none 0 0]) ?_ 4 _ rfl; (with_reducible repeat (first | refine blk_drewN ?_ _ | refine blk_drew ?_ | refine blk_alloc ?_ _)); refine blk_put (cs := #[.int .i64 t177, .int .i64 t178, .int .i64 t179, .int .i64 0, .int .i64 0, .int .i64 0, .slice none 0 0, .slice none 0 0]) ?_ 3 _ rfl; (with_reducible repeat (first | refine blk_drewN ?_ _ | refine blk_drew ?_ | refine blk_alloc ?_ _)); refine blk_put (cs := #[.int .i64 t177, .int .i64 t178, .int .i64 0, .int .i64 0, .int .i64 0, .int .i64 0, .slice none 0 0, .slice none 0 0]) ?_ 2 _ rfl; (with_reducible repeat (first | refine blk_drewN ?_ _ | refine blk_drew ?_ | refine blk_alloc ?_ _)); refine blk_put (cs := #[.int .i64 t177, .int .i64 0, .int .i64 0, .int .i64 0, .int .i64 0, .int .i64 0, .slice none 0 0, .slice none 0 0]) ?_ 1 _ rfl; (with_reducible repeat (first | refine blk_drewN ?_ _ | refine blk_drew ?_ | refine blk_alloc ?_ _)); refine blk_put (cs := #[.int .i64 0, .int .i64 0, .int .i64 0, .int .i64 0, .int .i64 0, .int .i64 0, .slice none 0 0, .slice none 0 0]) ?_ 0 _ rfl; (with_reducible repeat (first | refine blk_drewN ?_ _ | refine blk_drew ?_ | refine blk_alloc ?_ _)); exact BK190.out) hb); have n7_ := Aside0.mk (below_step (by repeat (first | (with_reducible first | exact HB.out | apply below_alloc | apply pw_below_drewN | apply below_drew1 | refine below_set ?_ GE172.out | refine below_set ?_ GE173.out | refine below_set ?_ GE190.out) | exact HB.out)) hb); clear HO185; clear HO188; clear BK172; clear BK173; clear BK190; clear HB; have HO185 := n0_; have HO188 := n1_; have HO199 := n2_; have HO202 := n3_; have BK172 := n4_; have BK173 := n5_; have BK190 := n6_; have HB := n7_; clear n0_ n1_ n2_ n3_ n4_ n5_ n6_ n7_; (try clear hb); (try clear hb2); (try clear hk); (try clear hi); (try clear ho0); (try clear ho1)) | ((with_reducible refine gate_dst (N := 10) rfl ?_); (try (refine gate_guard (by rfl) ?_; dsimp only)); refine box_event ?hg (N := 10) ?hd (cs := #[.int .i64 0, .int .i64 0, .int .i64 0, .int .i64 0, .int .i64 0, .int .i64 0, .slice none 0 0, .slice none 0 0]) (t := 25) ?hr ?_; (case hd => rfl); (case hg => rfl); (case hr => first | (go_simp; done) | (go_simp; rfl)); intro gb204 hg w49 hbox hb; have n0_ := Aside0.mk (Kd.R_below (by (with_reducible repeat (first | apply Kd.R_alloc | apply Kd.R_drewN | apply Kd.R_drew)); exact HO185.out) hb); have n1_ := Aside0.mk (Kd.R_below (by (with_reducible repeat (first | apply Kd.R_alloc | apply Kd.R_drewN | apply Kd.R_drew)); exact HO188.out) hb); have n2_ := Aside0.mk (Kd.R_below (by (with_reducible repeat (first | apply Kd.R_alloc | apply Kd.R_drewN | apply Kd.R_drew)); exact HO199.out) hb); have n3_ := Aside0.mk (Kd.R_below (by (with_reducible repeat (first | apply Kd.R_alloc | apply Kd.R_drewN | apply Kd.R_drew)); exact HO202.out) hb); have n4_ := Aside0.mk (blk_below (g := gb172) (o := .cells #[.int .i64 a0_0, .int .i64 a0_1, .int .i64 a0_2, .int .i64 a0_3, .int .i64 a0_4, .int .i64 a0_5, .slice A0_6 l0_6.length c0_6, .slice A0_7 l0_7.length c0_7] 25 (0, 0)) (by (with_reducible repeat (first | refine blk_drewN ?_ _ | refine blk_drew ?_ | refine blk_alloc ?_ _)); exact BK172.out) hb); have n5_ := Aside0.mk (blk_below (g := gb173) (o := .cells #[.int .i64 a1_0, .int .i64 a1_1, .int .i64 a1_2, .int .i64 a1_3, .int .i64 a1_4, .int .i64 a1_5, .slice A1_6 l1_6.length c1_6, .slice A1_7 l1_7.length c1_7] 25 (0, 0)) (by (with_reducible repeat (first | refine blk_drewN ?_ _ | refine blk_drew ?_ | refine blk_alloc ?_ _)); exact BK173.out) hb); have n6_ := Aside0.mk (blk_below (g := gb190) (o := .cells #[.int .i64 t177, .int .i64 t178, .int .i64 t179, .int .i64 t180, .int .i64 t181, .int .i64 t182, .slice Ao46 t183.length co46, .slice Ao47 t186.length co47] 25 (0, 0)) (by (with_reducible repeat (first | refine blk_drewN ?_ _ | refine blk_drew ?_ | refine blk_alloc ?_ _)); exact BK190.out) hb); have n7_ := Aside0.mk (below_step (by repeat (first | (with_reducible first | exact HB.out | apply below_alloc | apply pw_below_drewN | apply below_drew1 | refine below_set ?_ GE172.out | refine below_set ?_ GE173.out | refine below_set ?_ GE190.out) | exact HB.out)) hb); have n8_ := Aside0.mk (hbox); have n9_ := Aside0.mk ((by rw [hg]; exact (below_size (by repeat (first | (with_reducible first | exact HB.out | apply below_alloc | apply pw_below_drewN | apply below_drew1 | refine below_set ?_ GE172.out | refine below_set ?_ GE173.out | refine below_set ?_ GE190.out) | exact HB.out))) : w.heap.size ≤ gb204)); have n10_ := Aside0.mk ((by rw [hg]; exact (below_size (by repeat (first | (with_reducible first | exact HB.out | apply below_alloc | apply pw_below_drewN | apply below_drew1 | refine below_set ?_ GE172.out | refine below_set ?_ GE173.out | refine below_set ?_ GE190.out) | exact HB.out))) : w.heap.size ≤ gb204)); have n11_ := Aside0.mk ((by rw [hg]; exact Nat.ne_of_lt (blk_lt (g := gb172) (o := .cells #[.int .i64 a0_0, .int .i64 a0_1, .int .i64 a0_2, .int .i64 a0_3, .int .i64 a0_4, .int .i64 a0_5, .slice A0_6 l0_6.length c0_6, .slice A0_7 l0_7.length c0_7] 25 (0, 0)) (by (with_reducible repeat (first | refine blk_drewN ?_ _ | refine blk_drew ?_ | refine blk_alloc ?_ _)); exact BK172.out)) : gb172 ≠ gb204)); have n12_ := Aside0.mk ((by rw [hg]; exact Nat.ne_of_gt (blk_lt (g := gb172) (o := .cells #[.int .i64 a0_0, .int .i64 a0_1, .int .i64 a0_2, .int .i64 a0_3, .int .i64 a0_4, .int .i64 a0_5, .slice A0_6 l0_6.length c0_6, .slice A0_7 l0_7.length c0_7] 25 (0, 0)) (by (with_reducible repeat (first | refine blk_drewN ?_ _ | refine blk_drew ?_ | refine blk_alloc ?_ _)); exact BK172.out)) : gb204 ≠ gb172)); have n13_ := Aside0.mk ((by rw [hg]; exact Nat.ne_of_lt (blk_lt (g := gb173) (o := .cells #[.int .i64 a1_0, .int .i64 a1_1, .int .i64 a1_2, .int .i64 a1_3, .int .i64 a1_4, .int .i64 a1_5, .slice A1_6 l1_6.length c1_6, .slice A1_7 l1_7.length c1_7] 25 (0, 0)) (by (with_reducible repeat (first | refine blk_drewN ?_ _ | refine blk_drew ?_ | refine blk_alloc ?_ _)); exact BK173.out)) : gb173 ≠ gb204)); have n14_ := Aside0.mk ((by rw [hg]; exact Nat.ne_of_gt (blk_lt (g := gb173) (o := .cells #[.int .i64 a1_0, .int .i64 a1_1, .int .i64 a1_2, .int .i64 a1_3, .int .i64 a1_4, .int .i64 a1_5, .slice A1_6 l1_6.length c1_6, .slice A1_7 l1_7.length c1_7] 25 (0, 0)) (by (with_reducible repeat (first | refine blk_drewN ?_ _ | refine blk_drew ?_ | refine blk_alloc ?_ _)); exact BK173.out)) : gb204 ≠ gb173)); have n15_ := Aside0.mk ((by rw [hg]; exact Nat.ne_of_lt (blk_lt (g := gb190) (o := .cells #[.int .i64 t177, .int .i64 t178, .int .i64 t179, .int .i64 t180, .int .i64 t181, .int .i64 t182, .slice Ao46 t183.length co46, .slice Ao47 t186.length co47] 25 (0, 0)) (by (with_reducible repeat (first | refine blk_drewN ?_ _ | refine blk_drew ?_ | refine blk_alloc ?_ _)); exact BK190.out)) : gb190 ≠ gb204)); have n16_ := Aside0.mk ((by rw [hg]; exact Nat.ne_of_gt (blk_lt (g := gb190) (o := .cells #[.int .i64 t177, .int .i64 t178, .int .i64 t179, .int .i64 t180, .int .i64 t181, .int .i64 t182, .slice Ao46 t183.length co46, .slice Ao47 t186.length co47] 25 (0, 0)) (by (with_reducible repeat (first | refine blk_drewN ?_ _ | refine blk_drew ?_ | refine blk_alloc ?_ _)); exact BK190.out)) : gb204 ≠ gb190)); clear HO185; clear HO188; clear HO199; clear HO202; clear BK172; clear BK173; clear BK190; clear HB; have HO185 := n0_; have HO188 := n1_; have HO199 := n2_; have HO202 := n3_; have BK172 := n4_; have BK173 := n5_; have BK190 := n6_; have HB := n7_; have BK204 := n8_; have GW204 := n9_; have GE204 := n10_; have NB172_204 := n11_; have NB204_172 := n12_; have NB173_204 := n13_; have NB204_173 := n14_; have NB190_204 := n15_; have NB204_190 := n16_; clear n0_ n1_ n2_ n3_ n4_ n5_ n6_ n7_ n8_ n9_ n10_ n11_ n12_ n13_ n14_ n15_ n16_; clear hb hbox hg; have hnb50 := NB204_172.out; have hnc50 := NB172_204.out; have hnb51 := NB204_173.out; have hnc51 := NB173_204.out; have hnb52 := NB204_190.out; have hnc52 := NB190_204.out; have hcz53_0 : w49.cell? ⟨gb204, 0, none⟩ = some (.int .i64 0) := (blk_cell BK204.out 0).trans rfl; have hcz53_1 : w49.cell? ⟨gb204, 1, none⟩ = some (.int .i64 0) := (blk_cell BK204.out 1).trans rfl; have hcz53_2 : w49.cell? ⟨gb204, 2, none⟩ = some (.int .i64 0) := (blk_cell BK204.out 2).trans rfl; have hcz53_3 : w49.cell? ⟨gb204, 3, none⟩ = some (.int .i64 0) := (blk_cell BK204.out 3).trans rfl; have hcz53_4 : w49.cell? ⟨gb204, 4, none⟩ = some (.int .i64 0) := (blk_cell BK204.out 4).trans rfl; have hcz53_5 : w49.cell? ⟨gb204, 5, none⟩ = some (.int .i64 0) := (blk_cell BK204.out 5).trans rfl; have hcz53_6 : w49.cell? ⟨gb204, 6, none⟩ = some (.slice none 0 0) := (blk_cell BK204.out 6).trans rfl; have hcz53_7 : w49.cell? ⟨gb204, 7, none⟩ = some (.slice none 0 0) := (blk_cell BK204.out 7).trans rfl; have hfz53_0 := blk_frozen BK204.out 0; have hfz53_1 := blk_frozen BK204.out 1; have hfz53_2 := blk_frozen BK204.out 2; have hfz53_3 := blk_frozen BK204.out 3; have hfz53_4 := blk_frozen BK204.out 4; have hfz53_5 := blk_frozen BK204.out 5; have hfz53_6 := blk_frozen BK204.out 6; have hfz53_7 := blk_frozen BK204.out 7; obtain ⟨Ao54, co54, eo54⟩ := Kd.R_slice HO199.out; subst eo54; obtain ⟨Ao55, co55, eo55⟩ := Kd.R_slice HO202.out; subst eo55))
                  have n0_ : Aside0 (Kd.R (Kd.int .i64) 3 ((((((((w49.setCell ⟨gb204, 0, none⟩ (.int .i64 t191)).setCell ⟨gb204, 1, none⟩ (.int .i64 t192)).setCell ⟨gb204, 2, none⟩ (.int .i64 t193)).setCell ⟨gb204, 3, none⟩ (.int .i64 t194)).setCell ⟨gb204, 4, none⟩ (.int .i64 t195)).setCell ⟨gb204, 5, none⟩ (.int .i64 t196)).setCell ⟨gb204, 6, none⟩ (.slice Ao54 t197.length co54)).setCell ⟨gb204, 7, none⟩ (.slice Ao55 t200.length co55)) w.heap.size (fun k_ => some k_ ≠ (.slice Ao54 t197.length co54 : Value).ownBlock) (.slice Ao46 t183.length co46) t183) := ⟨by (with_reducible repeat (first | apply Kd.R_alloc | apply Kd.R_drewN | apply Kd.R_drew)); exact Kd.R_mono (Kd.R_far (p := ⟨gb204, 7, none⟩) (Kd.R_far (p := ⟨gb204, 6, none⟩) (Kd.R_far (p := ⟨gb204, 5, none⟩) (Kd.R_far (p := ⟨gb204, 4, none⟩) (Kd.R_far (p := ⟨gb204, 3, none⟩) (Kd.R_far (p := ⟨gb204, 2, none⟩) (Kd.R_far (p := ⟨gb204, 1, none⟩) (Kd.R_far (p := ⟨gb204, 0, none⟩) (Kd.R_types HO185.out BK204.out (by decide)) (fun _ hk => hk.2) (.int .i64 t191)) (fun _ hk => hk.2) (.int .i64 t192)) (fun _ hk => hk.2) (.int .i64 t193)) (fun _ hk => hk.2) (.int .i64 t194)) (fun _ hk => hk.2) (.int .i64 t195)) (fun _ hk => hk.2) (.int .i64 t196)) (fun _ hk => hk.2) (.slice Ao54 t197.length co54)) (fun _ hk => hk.2) (.slice Ao55 t200.length co55)) (fun _ hk => hk.1.2)⟩
                  have n1_ : Aside0 (Kd.R (Kd.int .u8) 5 ((((((((w49.setCell ⟨gb204, 0, none⟩ (.int .i64 t191)).setCell ⟨gb204, 1, none⟩ (.int .i64 t192)).setCell ⟨gb204, 2, none⟩ (.int .i64 t193)).setCell ⟨gb204, 3, none⟩ (.int .i64 t194)).setCell ⟨gb204, 4, none⟩ (.int .i64 t195)).setCell ⟨gb204, 5, none⟩ (.int .i64 t196)).setCell ⟨gb204, 6, none⟩ (.slice Ao54 t197.length co54)).setCell ⟨gb204, 7, none⟩ (.slice Ao55 t200.length co55)) w.heap.size (fun k_ => some k_ ≠ (.slice Ao55 t200.length co55 : Value).ownBlock) (.slice Ao47 t186.length co47) t186) := ⟨by (with_reducible repeat (first | apply Kd.R_alloc | apply Kd.R_drewN | apply Kd.R_drew)); exact Kd.R_mono (Kd.R_far (p := ⟨gb204, 7, none⟩) (Kd.R_far (p := ⟨gb204, 6, none⟩) (Kd.R_far (p := ⟨gb204, 5, none⟩) (Kd.R_far (p := ⟨gb204, 4, none⟩) (Kd.R_far (p := ⟨gb204, 3, none⟩) (Kd.R_far (p := ⟨gb204, 2, none⟩) (Kd.R_far (p := ⟨gb204, 1, none⟩) (Kd.R_far (p := ⟨gb204, 0, none⟩) (Kd.R_types HO188.out BK204.out (by decide)) (fun _ hk => hk.2) (.int .i64 t191)) (fun _ hk => hk.2) (.int .i64 t192)) (fun _ hk => hk.2) (.int .i64 t193)) (fun _ hk => hk.2) (.int .i64 t194)) (fun _ hk => hk.2) (.int .i64 t195)) (fun _ hk => hk.2) (.int .i64 t196)) (fun _ hk => hk.2) (.slice Ao54 t197.length co54)) (fun _ hk => hk.2) (.slice Ao55 t200.length co55)) (fun _ hk => hk.1.2)⟩
                  have n2_ : Aside0 (Kd.R (Kd.int .i64) 3 ((((((((w49.setCell ⟨gb204, 0, none⟩ (.int .i64 t191)).setCell ⟨gb204, 1, none⟩ (.int .i64 t192)).setCell ⟨gb204, 2, none⟩ (.int .i64 t193)).setCell ⟨gb204, 3, none⟩ (.int .i64 t194)).setCell ⟨gb204, 4, none⟩ (.int .i64 t195)).setCell ⟨gb204, 5, none⟩ (.int .i64 t196)).setCell ⟨gb204, 6, none⟩ (.slice Ao54 t197.length co54)).setCell ⟨gb204, 7, none⟩ (.slice Ao55 t200.length co55)) w.heap.size (fun k_ => some k_ ≠ (.slice Ao46 t183.length co46 : Value).ownBlock) (.slice Ao54 t197.length co54) t197) := ⟨by (with_reducible repeat (first | apply Kd.R_alloc | apply Kd.R_drewN | apply Kd.R_drew)); exact Kd.R_mono (Kd.R_far (p := ⟨gb204, 7, none⟩) (Kd.R_far (p := ⟨gb204, 6, none⟩) (Kd.R_far (p := ⟨gb204, 5, none⟩) (Kd.R_far (p := ⟨gb204, 4, none⟩) (Kd.R_far (p := ⟨gb204, 3, none⟩) (Kd.R_far (p := ⟨gb204, 2, none⟩) (Kd.R_far (p := ⟨gb204, 1, none⟩) (Kd.R_far (p := ⟨gb204, 0, none⟩) (Kd.R_types HO199.out BK204.out (by decide)) (fun _ hk => hk.2) (.int .i64 t191)) (fun _ hk => hk.2) (.int .i64 t192)) (fun _ hk => hk.2) (.int .i64 t193)) (fun _ hk => hk.2) (.int .i64 t194)) (fun _ hk => hk.2) (.int .i64 t195)) (fun _ hk => hk.2) (.int .i64 t196)) (fun _ hk => hk.2) (.slice Ao54 t197.length co54)) (fun _ hk => hk.2) (.slice Ao55 t200.length co55)) (fun _ hk => hk.1.2)⟩
                  have n3_ : Aside0 (Kd.R (Kd.int .u8) 5 ((((((((w49.setCell ⟨gb204, 0, none⟩ (.int .i64 t191)).setCell ⟨gb204, 1, none⟩ (.int .i64 t192)).setCell ⟨gb204, 2, none⟩ (.int .i64 t193)).setCell ⟨gb204, 3, none⟩ (.int .i64 t194)).setCell ⟨gb204, 4, none⟩ (.int .i64 t195)).setCell ⟨gb204, 5, none⟩ (.int .i64 t196)).setCell ⟨gb204, 6, none⟩ (.slice Ao54 t197.length co54)).setCell ⟨gb204, 7, none⟩ (.slice Ao55 t200.length co55)) w.heap.size (fun k_ => some k_ ≠ (.slice Ao47 t186.length co47 : Value).ownBlock) (.slice Ao55 t200.length co55) t200) := ⟨by (with_reducible repeat (first | apply Kd.R_alloc | apply Kd.R_drewN | apply Kd.R_drew)); exact Kd.R_mono (Kd.R_far (p := ⟨gb204, 7, none⟩) (Kd.R_far (p := ⟨gb204, 6, none⟩) (Kd.R_far (p := ⟨gb204, 5, none⟩) (Kd.R_far (p := ⟨gb204, 4, none⟩) (Kd.R_far (p := ⟨gb204, 3, none⟩) (Kd.R_far (p := ⟨gb204, 2, none⟩) (Kd.R_far (p := ⟨gb204, 1, none⟩) (Kd.R_far (p := ⟨gb204, 0, none⟩) (Kd.R_types HO202.out BK204.out (by decide)) (fun _ hk => hk.2) (.int .i64 t191)) (fun _ hk => hk.2) (.int .i64 t192)) (fun _ hk => hk.2) (.int .i64 t193)) (fun _ hk => hk.2) (.int .i64 t194)) (fun _ hk => hk.2) (.int .i64 t195)) (fun _ hk => hk.2) (.int .i64 t196)) (fun _ hk => hk.2) (.slice Ao54 t197.length co54)) (fun _ hk => hk.2) (.slice Ao55 t200.length co55)) (fun _ hk => hk.1.2)⟩
                  have n4_ : Aside0 (((((((((w49.setCell ⟨gb204, 0, none⟩ (.int .i64 t191)).setCell ⟨gb204, 1, none⟩ (.int .i64 t192)).setCell ⟨gb204, 2, none⟩ (.int .i64 t193)).setCell ⟨gb204, 3, none⟩ (.int .i64 t194)).setCell ⟨gb204, 4, none⟩ (.int .i64 t195)).setCell ⟨gb204, 5, none⟩ (.int .i64 t196)).setCell ⟨gb204, 6, none⟩ (.slice Ao54 t197.length co54)).setCell ⟨gb204, 7, none⟩ (.slice Ao55 t200.length co55)).heap[gb172]? = some (.cells #[.int .i64 a0_0, .int .i64 a0_1, .int .i64 a0_2, .int .i64 a0_3, .int .i64 a0_4, .int .i64 a0_5, .slice A0_6 l0_6.length c0_6, .slice A0_7 l0_7.length c0_7] 25 (0, 0))) := ⟨by (with_reducible repeat (first | refine blk_drewN ?_ _ | refine blk_drew ?_ | refine blk_alloc ?_ _)); refine blk_far ?_ NB172_204.out _; (with_reducible repeat (first | refine blk_drewN ?_ _ | refine blk_drew ?_ | refine blk_alloc ?_ _)); refine blk_far ?_ NB172_204.out _; (with_reducible repeat (first | refine blk_drewN ?_ _ | refine blk_drew ?_ | refine blk_alloc ?_ _)); refine blk_far ?_ NB172_204.out _; (with_reducible repeat (first | refine blk_drewN ?_ _ | refine blk_drew ?_ | refine blk_alloc ?_ _)); refine blk_far ?_ NB172_204.out _; (with_reducible repeat (first | refine blk_drewN ?_ _ | refine blk_drew ?_ | refine blk_alloc ?_ _)); refine blk_far ?_ NB172_204.out _; (with_reducible repeat (first | refine blk_drewN ?_ _ | refine blk_drew ?_ | refine blk_alloc ?_ _)); refine blk_far ?_ NB172_204.out _; (with_reducible repeat (first | refine blk_drewN ?_ _ | refine blk_drew ?_ | refine blk_alloc ?_ _)); refine blk_far ?_ NB172_204.out _; (with_reducible repeat (first | refine blk_drewN ?_ _ | refine blk_drew ?_ | refine blk_alloc ?_ _)); refine blk_far ?_ NB172_204.out _; (with_reducible repeat (first | refine blk_drewN ?_ _ | refine blk_drew ?_ | refine blk_alloc ?_ _)); exact BK172.out⟩
                  have n5_ : Aside0 (((((((((w49.setCell ⟨gb204, 0, none⟩ (.int .i64 t191)).setCell ⟨gb204, 1, none⟩ (.int .i64 t192)).setCell ⟨gb204, 2, none⟩ (.int .i64 t193)).setCell ⟨gb204, 3, none⟩ (.int .i64 t194)).setCell ⟨gb204, 4, none⟩ (.int .i64 t195)).setCell ⟨gb204, 5, none⟩ (.int .i64 t196)).setCell ⟨gb204, 6, none⟩ (.slice Ao54 t197.length co54)).setCell ⟨gb204, 7, none⟩ (.slice Ao55 t200.length co55)).heap[gb173]? = some (.cells #[.int .i64 a1_0, .int .i64 a1_1, .int .i64 a1_2, .int .i64 a1_3, .int .i64 a1_4, .int .i64 a1_5, .slice A1_6 l1_6.length c1_6, .slice A1_7 l1_7.length c1_7] 25 (0, 0))) := ⟨by (with_reducible repeat (first | refine blk_drewN ?_ _ | refine blk_drew ?_ | refine blk_alloc ?_ _)); refine blk_far ?_ NB173_204.out _; (with_reducible repeat (first | refine blk_drewN ?_ _ | refine blk_drew ?_ | refine blk_alloc ?_ _)); refine blk_far ?_ NB173_204.out _; (with_reducible repeat (first | refine blk_drewN ?_ _ | refine blk_drew ?_ | refine blk_alloc ?_ _)); refine blk_far ?_ NB173_204.out _; (with_reducible repeat (first | refine blk_drewN ?_ _ | refine blk_drew ?_ | refine blk_alloc ?_ _)); refine blk_far ?_ NB173_204.out _; (with_reducible repeat (first | refine blk_drewN ?_ _ | refine blk_drew ?_ | refine blk_alloc ?_ _)); refine blk_far ?_ NB173_204.out _; (with_reducible repeat (first | refine blk_drewN ?_ _ | refine blk_drew ?_ | refine blk_alloc ?_ _)); refine blk_far ?_ NB173_204.out _; (with_reducible repeat (first | refine blk_drewN ?_ _ | refine blk_drew ?_ | refine blk_alloc ?_ _)); refine blk_far ?_ NB173_204.out _; (with_reducible repeat (first | refine blk_drewN ?_ _ | refine blk_drew ?_ | refine blk_alloc ?_ _)); refine blk_far ?_ NB173_204.out _; (with_reducible repeat (first | refine blk_drewN ?_ _ | refine blk_drew ?_ | refine blk_alloc ?_ _)); exact BK173.out⟩
                  have n6_ : Aside0 (((((((((w49.setCell ⟨gb204, 0, none⟩ (.int .i64 t191)).setCell ⟨gb204, 1, none⟩ (.int .i64 t192)).setCell ⟨gb204, 2, none⟩ (.int .i64 t193)).setCell ⟨gb204, 3, none⟩ (.int .i64 t194)).setCell ⟨gb204, 4, none⟩ (.int .i64 t195)).setCell ⟨gb204, 5, none⟩ (.int .i64 t196)).setCell ⟨gb204, 6, none⟩ (.slice Ao54 t197.length co54)).setCell ⟨gb204, 7, none⟩ (.slice Ao55 t200.length co55)).heap[gb190]? = some (.cells #[.int .i64 t177, .int .i64 t178, .int .i64 t179, .int .i64 t180, .int .i64 t181, .int .i64 t182, .slice Ao46 t183.length co46, .slice Ao47 t186.length co47] 25 (0, 0))) := ⟨by (with_reducible repeat (first | refine blk_drewN ?_ _ | refine blk_drew ?_ | refine blk_alloc ?_ _)); refine blk_far ?_ NB190_204.out _; (with_reducible repeat (first | refine blk_drewN ?_ _ | refine blk_drew ?_ | refine blk_alloc ?_ _)); refine blk_far ?_ NB190_204.out _; (with_reducible repeat (first | refine blk_drewN ?_ _ | refine blk_drew ?_ | refine blk_alloc ?_ _)); refine blk_far ?_ NB190_204.out _; (with_reducible repeat (first | refine blk_drewN ?_ _ | refine blk_drew ?_ | refine blk_alloc ?_ _)); refine blk_far ?_ NB190_204.out _; (with_reducible repeat (first | refine blk_drewN ?_ _ | refine blk_drew ?_ | refine blk_alloc ?_ _)); refine blk_far ?_ NB190_204.out _; (with_reducible repeat (first | refine blk_drewN ?_ _ | refine blk_drew ?_ | refine blk_alloc ?_ _)); refine blk_far ?_ NB190_204.out _; (with_reducible repeat (first | refine blk_drewN ?_ _ | refine blk_drew ?_ | refine blk_alloc ?_ _)); refine blk_far ?_ NB190_204.out _; (with_reducible repeat (first | refine blk_drewN ?_ _ | refine blk_drew ?_ | refine blk_alloc ?_ _)); refine blk_far ?_ NB190_204.out _; (with_reducible repeat (first | refine blk_drewN ?_ _ | refine blk_drew ?_ | refine blk_alloc ?_ _)); exact BK190.out⟩
                  have n7_ : Aside0 (((((((((w49.setCell ⟨gb204, 0, none⟩ (.int .i64 t191)).setCell ⟨gb204, 1, none⟩ (.int .i64 t192)).setCell ⟨gb204, 2, none⟩ (.int .i64 t193)).setCell ⟨gb204, 3, none⟩ (.int .i64 t194)).setCell ⟨gb204, 4, none⟩ (.int .i64 t195)).setCell ⟨gb204, 5, none⟩ (.int .i64 t196)).setCell ⟨gb204, 6, none⟩ (.slice Ao54 t197.length co54)).setCell ⟨gb204, 7, none⟩ (.slice Ao55 t200.length co55)).heap[gb204]? = some (.cells #[.int .i64 t191, .int .i64 t192, .int .i64 t193, .int .i64 t194, .int .i64 t195, .int .i64 t196, .slice Ao54 t197.length co54, .slice Ao55 t200.length co55] 25 (0, 0))) := ⟨by (with_reducible repeat (first | refine blk_drewN ?_ _ | refine blk_drew ?_ | refine blk_alloc ?_ _)); refine blk_put (cs := #[.int .i64 t191, .int .i64 t192, .int .i64 t193, .int .i64 t194, .int .i64 t195, .int .i64 t196, .slice Ao54 t197.length co54, .slice none 0 0]) ?_ 7 _ rfl; (with_reducible repeat (first | refine blk_drewN ?_ _ | refine blk_drew ?_ | refine blk_alloc ?_ _)); refine blk_put (cs := #[.int .i64 t191, .int .i64 t192, .int .i64 t193, .int .i64 t194, .int .i64 t195, .int .i64 t196, .slice none 0 0, .slice none 0 0]) ?_ 6 _ rfl; (with_reducible repeat (first | refine blk_drewN ?_ _ | refine blk_drew ?_ | refine blk_alloc ?_ _)); refine blk_put (cs := #[.int .i64 t191, .int .i64 t192, .int .i64 t193, .int .i64 t194, .int .i64 t195, .int .i64 0, .slice none 0 0, .slice none 0 0]) ?_ 5 _ rfl; (with_reducible repeat (first | refine blk_drewN ?_ _ | refine blk_drew ?_ | refine blk_alloc ?_ _)); refine blk_put (cs := #[.int .i64 t191, .int .i64 t192, .int .i64 t193, .int .i64 t194, .int .i64 0, .int .i64 0, .slice none 0 0, .slice none 0 0]) ?_ 4 _ rfl; (with_reducible repeat (first | refine blk_drewN ?_ _ | refine blk_drew ?_ | refine blk_alloc ?_ _)); refine blk_put (cs := #[.int .i64 t191, .int .i64 t192, .int .i64 t193, .int .i64 0, .int .i64 0, .int .i64 0, .slice none 0 0, .slice none 0 0]) ?_ 3 _ rfl; (with_reducible repeat (first | refine blk_drewN ?_ _ | refine blk_drew ?_ | refine blk_alloc ?_ _)); refine blk_put (cs := #[.int .i64 t191, .int .i64 t192, .int .i64 0, .int .i64 0, .int .i64 0, .int .i64 0, .slice none 0 0, .slice none 0 0]) ?_ 2 _ rfl; (with_reducible repeat (first | refine blk_drewN ?_ _ | refine blk_drew ?_ | refine blk_alloc ?_ _)); refine blk_put (cs := #[.int .i64 t191, .int .i64 0, .int .i64 0, .int .i64 0, .int .i64 0, .int .i64 0, .slice none 0 0, .slice none 0 0]) ?_ 1 _ rfl; (with_reducible repeat (first | refine blk_drewN ?_ _ | refine blk_drew ?_ | refine blk_alloc ?_ _)); refine blk_put (cs := #[.int .i64 0, .int .i64 0, .int .i64 0, .int .i64 0, .int .i64 0, .int .i64 0, .slice none 0 0, .slice none 0 0]) ?_ 0 _ rfl; (with_reducible repeat (first | refine blk_drewN ?_ _ | refine blk_drew ?_ | refine blk_alloc ?_ _)); exact BK204.out⟩
                  have n8_ : Aside0 (Below w.heap.size w ((((((((w49.setCell ⟨gb204, 0, none⟩ (.int .i64 t191)).setCell ⟨gb204, 1, none⟩ (.int .i64 t192)).setCell ⟨gb204, 2, none⟩ (.int .i64 t193)).setCell ⟨gb204, 3, none⟩ (.int .i64 t194)).setCell ⟨gb204, 4, none⟩ (.int .i64 t195)).setCell ⟨gb204, 5, none⟩ (.int .i64 t196)).setCell ⟨gb204, 6, none⟩ (.slice Ao54 t197.length co54)).setCell ⟨gb204, 7, none⟩ (.slice Ao55 t200.length co55))) := ⟨by repeat (first | (with_reducible first | exact HB.out | apply below_alloc | apply pw_below_drewN | apply below_drew1 | refine below_set ?_ GE172.out | refine below_set ?_ GE173.out | refine below_set ?_ GE190.out | refine below_set ?_ GE204.out) | exact HB.out)⟩
                  (try clear HO185)
                  (try clear HO188)
                  (try clear HO199)
                  (try clear HO202)
                  (try clear BK172)
                  (try clear BK173)
                  (try clear BK190)
                  (try clear BK204)
                  (try clear HB)
                  generalize ((((((((w49.setCell ⟨gb204, 0, none⟩ (.int .i64 t191)).setCell ⟨gb204, 1, none⟩ (.int .i64 t192)).setCell ⟨gb204, 2, none⟩ (.int .i64 t193)).setCell ⟨gb204, 3, none⟩ (.int .i64 t194)).setCell ⟨gb204, 4, none⟩ (.int .i64 t195)).setCell ⟨gb204, 5, none⟩ (.int .i64 t196)).setCell ⟨gb204, 6, none⟩ (.slice Ao54 t197.length co54)).setCell ⟨gb204, 7, none⟩ (.slice Ao55 t200.length co55)) = w56 at n0_ n1_ n2_ n3_ n4_ n5_ n6_ n7_ n8_ ⊢
                  have HO185 := n0_
                  have HO188 := n1_
                  have HO199 := n2_
                  have HO202 := n3_
                  have BK172 := n4_
                  have BK173 := n5_
                  have BK190 := n6_
                  have BK204 := n7_
                  have HB := n8_
                  clear n0_ n1_ n2_ n3_ n4_ n5_ n6_ n7_ n8_
                  have n0_ := Aside0.mk (Kd.R_drew HO185.out)
                  have n1_ := Aside0.mk (Kd.R_drew HO188.out)
                  have n2_ := Aside0.mk (Kd.R_drew HO199.out)
                  have n3_ := Aside0.mk (Kd.R_drew HO202.out)
                  have n4_ := Aside0.mk (blk_drew BK172.out)
                  have n5_ := Aside0.mk (blk_drew BK173.out)
                  have n6_ := Aside0.mk (blk_drew BK190.out)
                  have n7_ := Aside0.mk (blk_drew BK204.out)
                  have n8_ := Aside0.mk (below_drew1 HB.out)
                  clear HO185
                  clear HO188
                  clear HO199
                  clear HO202
                  clear BK172
                  clear BK173
                  clear BK190
                  clear BK204
                  clear HB
                  have HO185 := n0_
                  have HO188 := n1_
                  have HO199 := n2_
                  have HO202 := n3_
                  have BK172 := n4_
                  have BK173 := n5_
                  have BK190 := n6_
                  have BK204 := n7_
                  have HB := n8_
                  clear n0_ n1_ n2_ n3_ n4_ n5_ n6_ n7_ n8_
                  refine start_ (n := 37) (S := fun w' => w'.cell? ⟨gb172, 0, none⟩ = some (.int .i64 a0_0) ∧ w'.cell? ⟨gb172, 1, none⟩ = some (.int .i64 a0_1) ∧ w'.cell? ⟨gb172, 2, none⟩ = some (.int .i64 a0_2) ∧ w'.cell? ⟨gb172, 3, none⟩ = some (.int .i64 a0_3) ∧ w'.cell? ⟨gb172, 4, none⟩ = some (.int .i64 a0_4) ∧ w'.cell? ⟨gb172, 5, none⟩ = some (.int .i64 a0_5) ∧ w'.cell? ⟨gb172, 6, none⟩ = some (.slice A0_6 l0_6.length c0_6) ∧ w'.cell? ⟨gb172, 7, none⟩ = some (.slice A0_7 l0_7.length c0_7) ∧ w'.cell? ⟨gb173, 0, none⟩ = some (.int .i64 a1_0) ∧ w'.cell? ⟨gb173, 1, none⟩ = some (.int .i64 a1_1) ∧ w'.cell? ⟨gb173, 2, none⟩ = some (.int .i64 a1_2) ∧ w'.cell? ⟨gb173, 3, none⟩ = some (.int .i64 a1_3) ∧ w'.cell? ⟨gb173, 4, none⟩ = some (.int .i64 a1_4) ∧ w'.cell? ⟨gb173, 5, none⟩ = some (.int .i64 a1_5) ∧ w'.cell? ⟨gb173, 6, none⟩ = some (.slice A1_6 l1_6.length c1_6) ∧ w'.cell? ⟨gb173, 7, none⟩ = some (.slice A1_7 l1_7.length c1_7) ∧ w'.cell? ⟨gb190, 0, none⟩ = some (.int .i64 t177) ∧ w'.cell? ⟨gb190, 1, none⟩ = some (.int .i64 t178) ∧ w'.cell? ⟨gb190, 2, none⟩ = some (.int .i64 t179) ∧ w'.cell? ⟨gb190, 3, none⟩ = some (.int .i64 t180) ∧ w'.cell? ⟨gb190, 4, none⟩ = some (.int .i64 t181) ∧ w'.cell? ⟨gb190, 5, none⟩ = some (.int .i64 t182) ∧ w'.cell? ⟨gb190, 6, none⟩ = some (.slice Ao46 t183.length co46) ∧ w'.cell? ⟨gb190, 7, none⟩ = some (.slice Ao47 t186.length co47) ∧ w'.cell? ⟨gb204, 0, none⟩ = some (.int .i64 t191) ∧ w'.cell? ⟨gb204, 1, none⟩ = some (.int .i64 t192) ∧ w'.cell? ⟨gb204, 2, none⟩ = some (.int .i64 t193) ∧ w'.cell? ⟨gb204, 3, none⟩ = some (.int .i64 t194) ∧ w'.cell? ⟨gb204, 4, none⟩ = some (.int .i64 t195) ∧ w'.cell? ⟨gb204, 5, none⟩ = some (.int .i64 t196) ∧ w'.cell? ⟨gb204, 6, none⟩ = some (.slice Ao54 t197.length co54) ∧ w'.cell? ⟨gb204, 7, none⟩ = some (.slice Ao55 t200.length co55)) (ds := []) #[false, false, false, false, false, false, false, false, false, false, false, false, false, false, false, false, false, false, false, false, false, false, false, false, false, false, false, false, false, false, false, false, false, false, false, false, false] (by kernel_rfl) rfl rfl ⟨(blk_cell BK172.out 0).trans rfl, (blk_cell BK172.out 1).trans rfl, (blk_cell BK172.out 2).trans rfl, (blk_cell BK172.out 3).trans rfl, (blk_cell BK172.out 4).trans rfl, (blk_cell BK172.out 5).trans rfl, (blk_cell BK172.out 6).trans rfl, (blk_cell BK172.out 7).trans rfl, (blk_cell BK173.out 0).trans rfl, (blk_cell BK173.out 1).trans rfl, (blk_cell BK173.out 2).trans rfl, (blk_cell BK173.out 3).trans rfl, (blk_cell BK173.out 4).trans rfl, (blk_cell BK173.out 5).trans rfl, (blk_cell BK173.out 6).trans rfl, (blk_cell BK173.out 7).trans rfl, (blk_cell BK190.out 0).trans rfl, (blk_cell BK190.out 1).trans rfl, (blk_cell BK190.out 2).trans rfl, (blk_cell BK190.out 3).trans rfl, (blk_cell BK190.out 4).trans rfl, (blk_cell BK190.out 5).trans rfl, (blk_cell BK190.out 6).trans rfl, (blk_cell BK190.out 7).trans rfl, (blk_cell BK204.out 0).trans rfl, (blk_cell BK204.out 1).trans rfl, (blk_cell BK204.out 2).trans rfl, (blk_cell BK204.out 3).trans rfl, (blk_cell BK204.out 4).trans rfl, (blk_cell BK204.out 5).trans rfl, (blk_cell BK204.out 6).trans rfl, (blk_cell BK204.out 7).trans rfl⟩ (fun hHeld => ?_); refine with_tabW precentorlaw03_ItemTells.tab6 precentorlaw03_ItemTells.bits6 (fun HT_ HW_ => ?_)
                  generalize w56.drew = w57 at HO185 HO188 HO199 HO202 BK172 BK173 BK190 BK204 HB hHeld ⊢
                  refine pure_ (i := 0) (N := some 37) (v := ?_) (a' := ?_) #[true, false, false, false, false, false, false, false, false, false, false, false, false, false, false, false, false, false, false, false, false, false, false, false, false, false, false, false, false, false, false, false, false, false, false, false, false] rfl rfl (any_of HT_.out (by kernel_rfl)) (fun _ _ _ h => h) (Or.inl ⟨by rfl, ?_⟩) ?_ ?_
                  rotate_left
                  · intro w'
                    go_simp
                    with_reducible rfl
                  rotate_left
                  · simp only [Act.put, List.setIfInBounds_toArray, List.set_cons_zero, List.set_cons_succ, i64_w, i32_w]
                    rfl
                  refine pure_ (i := 1) (N := some 38) (v := ?_) (a' := ?_) #[true, true, false, false, false, false, false, false, false, false, false, false, false, false, false, false, false, false, false, false, false, false, false, false, false, false, false, false, false, false, false, false, false, false, false, false, false] rfl rfl (any_of HT_.out (by kernel_rfl)) (fun _ _ _ h => h) (Or.inl ⟨by rfl, ?_⟩) ?_ ?_
                  rotate_left
                  · intro w'
                    go_simp
                    with_reducible rfl
                  rotate_left
                  · simp only [Act.put, List.setIfInBounds_toArray, List.set_cons_zero, List.set_cons_succ, i64_w, i32_w]
                    rfl
                  refine take_ (i := 2) (N := some 39) (v := ?_) (a' := ?_) #[true, true, true, false, false, false, false, false, false, false, false, false, false, false, false, false, false, false, false, false, false, false, false, false, false, false, false, false, false, false, false, false, false, false, false, false, false] rfl rfl (take_ofW HT_.out HW_.out (by kernel_rfl)) (fun _ _ _ h => h) (Or.inl ⟨by rfl, ?_⟩) hHeld ?_ ?_
                  rotate_left
                  · rintro w' ⟨s0, s1, s2, s3, s4, s5, s6, s7, s8, s9, s10, s11, s12, s13, s14, s15, s16, s17, s18, s19, s20, s21, s22, s23, s24, s25, s26, s27, s28, s29, s30, s31⟩
                    try rw [List.length_drop] at s0
                    try rw [List.length_drop] at s1
                    try rw [List.length_drop] at s2
                    try rw [List.length_drop] at s3
                    try rw [List.length_drop] at s4
                    try rw [List.length_drop] at s5
                    try rw [List.length_drop] at s6
                    try rw [List.length_drop] at s7
                    try rw [List.length_drop] at s8
                    try rw [List.length_drop] at s9
                    try rw [List.length_drop] at s10
                    try rw [List.length_drop] at s11
                    try rw [List.length_drop] at s12
                    try rw [List.length_drop] at s13
                    try rw [List.length_drop] at s14
                    try rw [List.length_drop] at s15
                    try rw [List.length_drop] at s16
                    try rw [List.length_drop] at s17
                    try rw [List.length_drop] at s18
                    try rw [List.length_drop] at s19
                    try rw [List.length_drop] at s20
                    try rw [List.length_drop] at s21
                    try rw [List.length_drop] at s22
                    try rw [List.length_drop] at s23
                    try rw [List.length_drop] at s24
                    try rw [List.length_drop] at s25
                    try rw [List.length_drop] at s26
                    try rw [List.length_drop] at s27
                    try rw [List.length_drop] at s28
                    try rw [List.length_drop] at s29
                    try rw [List.length_drop] at s30
                    try rw [List.length_drop] at s31
                    go_simp
                    with_reducible rfl
                  rotate_left
                  · simp only [Act.put, List.setIfInBounds_toArray, List.set_cons_zero, List.set_cons_succ, i64_w, i32_w]
                    rfl
                  refine take_ (i := 4) (N := some 41) (v := ?_) (a' := ?_) #[true, true, true, false, true, false, false, false, false, false, false, false, false, false, false, false, false, false, false, false, false, false, false, false, false, false, false, false, false, false, false, false, false, false, false, false, false] rfl rfl (take_ofW HT_.out HW_.out (by kernel_rfl)) (fun _ _ _ h => h) (Or.inl ⟨by rfl, ?_⟩) hHeld ?_ ?_
                  rotate_left
                  · rintro w' ⟨s0, s1, s2, s3, s4, s5, s6, s7, s8, s9, s10, s11, s12, s13, s14, s15, s16, s17, s18, s19, s20, s21, s22, s23, s24, s25, s26, s27, s28, s29, s30, s31⟩
                    try rw [List.length_drop] at s0
                    try rw [List.length_drop] at s1
                    try rw [List.length_drop] at s2
                    try rw [List.length_drop] at s3
                    try rw [List.length_drop] at s4
                    try rw [List.length_drop] at s5
                    try rw [List.length_drop] at s6
                    try rw [List.length_drop] at s7
                    try rw [List.length_drop] at s8
                    try rw [List.length_drop] at s9
                    try rw [List.length_drop] at s10
                    try rw [List.length_drop] at s11
                    try rw [List.length_drop] at s12
                    try rw [List.length_drop] at s13
                    try rw [List.length_drop] at s14
                    try rw [List.length_drop] at s15
                    try rw [List.length_drop] at s16
                    try rw [List.length_drop] at s17
                    try rw [List.length_drop] at s18
                    try rw [List.length_drop] at s19
                    try rw [List.length_drop] at s20
                    try rw [List.length_drop] at s21
                    try rw [List.length_drop] at s22
                    try rw [List.length_drop] at s23
                    try rw [List.length_drop] at s24
                    try rw [List.length_drop] at s25
                    try rw [List.length_drop] at s26
                    try rw [List.length_drop] at s27
                    try rw [List.length_drop] at s28
                    try rw [List.length_drop] at s29
                    try rw [List.length_drop] at s30
                    try rw [List.length_drop] at s31
                    go_simp
                    with_reducible rfl
                  rotate_left
                  · simp only [Act.put, List.setIfInBounds_toArray, List.set_cons_zero, List.set_cons_succ, i64_w, i32_w]
                    rfl
                  refine one_ (i := 3) (N := some 40) #[true, true, true, true, true, false, false, false, false, false, false, false, false, false, false, false, false, false, false, false, false, false, false, false, false, false, false, false, false, false, false, false, false, false, false, false, false] rfl rfl (one_of HT_.out (by kernel_rfl)) (by decide) (fun K hK => ?_)
                  refine goes_ Tryd.func13 (by kernel_rfl) rfl #[.agg #[.int .i64 a0_0, .int .i64 a0_1, .int .i64 a0_2, .int .i64 a0_3, .int .i64 a0_4, .int .i64 a0_5, .slice A0_6 l0_6.length c0_6, .slice A0_7 l0_7.length c0_7]] (by rfl) rfl rfl (by (try simp only [List.map_toArray, List.map_cons, List.map_nil]); first | done | rfl | (simp only [List.length_drop, List.length_take]; rfl)) ?_
                  with_reducible refine (item_May.calls a0_0 a0_1 a0_2 a0_3 a0_4 a0_5 _ _ l0_6 _ _ l0_7 t205 _ ?side1 ?side2 ?side3 ?side4 A30.out).mono ?_
                  (case side1 => repeat (first | exact (Kd.C_below HR0_6.out HB.out) | (with_reducible refine Kd.C_alloc ?_ _) | (with_reducible refine Kd.C_drewN ?_ _) | (with_reducible refine Kd.C_drew ?_)))
                  (case side2 => exact HC0_6.out)
                  (case side3 => repeat (first | exact (Kd.C_below HR0_7.out HB.out) | (with_reducible refine Kd.C_alloc ?_ _) | (with_reducible refine Kd.C_drewN ?_ _) | (with_reducible refine Kd.C_drew ?_)))
                  (case side4 => exact HC0_7.out)
                  rintro e w58 ⟨rfl, hb⟩
                  refine ⟨_, rfl, ?_⟩
                  have n0_ := Aside0.mk (Kd.R_below (by (with_reducible repeat (first | apply Kd.R_alloc | apply Kd.R_drewN | apply Kd.R_drew)); exact HO185.out) hb)
                  have n1_ := Aside0.mk (Kd.R_below (by (with_reducible repeat (first | apply Kd.R_alloc | apply Kd.R_drewN | apply Kd.R_drew)); exact HO188.out) hb)
                  have n2_ := Aside0.mk (Kd.R_below (by (with_reducible repeat (first | apply Kd.R_alloc | apply Kd.R_drewN | apply Kd.R_drew)); exact HO199.out) hb)
                  have n3_ := Aside0.mk (Kd.R_below (by (with_reducible repeat (first | apply Kd.R_alloc | apply Kd.R_drewN | apply Kd.R_drew)); exact HO202.out) hb)
                  have n4_ := Aside0.mk (blk_below (g := gb172) (o := .cells #[.int .i64 a0_0, .int .i64 a0_1, .int .i64 a0_2, .int .i64 a0_3, .int .i64 a0_4, .int .i64 a0_5, .slice A0_6 l0_6.length c0_6, .slice A0_7 l0_7.length c0_7] 25 (0, 0)) (by (with_reducible repeat (first | refine blk_drewN ?_ _ | refine blk_drew ?_ | refine blk_alloc ?_ _)); exact BK172.out) hb)
                  have n5_ := Aside0.mk (blk_below (g := gb173) (o := .cells #[.int .i64 a1_0, .int .i64 a1_1, .int .i64 a1_2, .int .i64 a1_3, .int .i64 a1_4, .int .i64 a1_5, .slice A1_6 l1_6.length c1_6, .slice A1_7 l1_7.length c1_7] 25 (0, 0)) (by (with_reducible repeat (first | refine blk_drewN ?_ _ | refine blk_drew ?_ | refine blk_alloc ?_ _)); exact BK173.out) hb)
                  have n6_ := Aside0.mk (blk_below (g := gb190) (o := .cells #[.int .i64 t177, .int .i64 t178, .int .i64 t179, .int .i64 t180, .int .i64 t181, .int .i64 t182, .slice Ao46 t183.length co46, .slice Ao47 t186.length co47] 25 (0, 0)) (by (with_reducible repeat (first | refine blk_drewN ?_ _ | refine blk_drew ?_ | refine blk_alloc ?_ _)); exact BK190.out) hb)
                  have n7_ := Aside0.mk (blk_below (g := gb204) (o := .cells #[.int .i64 t191, .int .i64 t192, .int .i64 t193, .int .i64 t194, .int .i64 t195, .int .i64 t196, .slice Ao54 t197.length co54, .slice Ao55 t200.length co55] 25 (0, 0)) (by (with_reducible repeat (first | refine blk_drewN ?_ _ | refine blk_drew ?_ | refine blk_alloc ?_ _)); exact BK204.out) hb)
                  have n8_ := Aside0.mk (below_step (by repeat (first | (with_reducible first | exact HB.out | apply below_alloc | apply pw_below_drewN | apply below_drew1 | refine below_set ?_ GE172.out | refine below_set ?_ GE173.out | refine below_set ?_ GE190.out | refine below_set ?_ GE204.out) | exact HB.out)) hb)
                  clear HO185
                  clear HO188
                  clear HO199
                  clear HO202
                  clear BK172
                  clear BK173
                  clear BK190
                  clear BK204
                  clear HB
                  have HO185 := n0_
                  have HO188 := n1_
                  have HO199 := n2_
                  have HO202 := n3_
                  have BK172 := n4_
                  have BK173 := n5_
                  have BK190 := n6_
                  have BK204 := n7_
                  have HB := n8_
                  clear n0_ n1_ n2_ n3_ n4_ n5_ n6_ n7_ n8_
                  (try clear hb)
                  (try clear hb2)
                  (try clear hk)
                  (try clear hi)
                  refine hK.out _ _ ⟨(blk_cell BK172.out 0).trans rfl, (blk_cell BK172.out 1).trans rfl, (blk_cell BK172.out 2).trans rfl, (blk_cell BK172.out 3).trans rfl, (blk_cell BK172.out 4).trans rfl, (blk_cell BK172.out 5).trans rfl, (blk_cell BK172.out 6).trans rfl, (blk_cell BK172.out 7).trans rfl, (blk_cell BK173.out 0).trans rfl, (blk_cell BK173.out 1).trans rfl, (blk_cell BK173.out 2).trans rfl, (blk_cell BK173.out 3).trans rfl, (blk_cell BK173.out 4).trans rfl, (blk_cell BK173.out 5).trans rfl, (blk_cell BK173.out 6).trans rfl, (blk_cell BK173.out 7).trans rfl, (blk_cell BK190.out 0).trans rfl, (blk_cell BK190.out 1).trans rfl, (blk_cell BK190.out 2).trans rfl, (blk_cell BK190.out 3).trans rfl, (blk_cell BK190.out 4).trans rfl, (blk_cell BK190.out 5).trans rfl, (blk_cell BK190.out 6).trans rfl, (blk_cell BK190.out 7).trans rfl, (blk_cell BK204.out 0).trans rfl, (blk_cell BK204.out 1).trans rfl, (blk_cell BK204.out 2).trans rfl, (blk_cell BK204.out 3).trans rfl, (blk_cell BK204.out 4).trans rfl, (blk_cell BK204.out 5).trans rfl, (blk_cell BK204.out 6).trans rfl, (blk_cell BK204.out 7).trans rfl⟩ (fun hHeld => ?_)
                  clear hK K
                  refine norm_ (a' := ?_) ?_ ?_
                  rotate_left
                  · show Act.put _ (some 40) _ = _
                    simp only [Act.put, List.setIfInBounds_toArray, List.set_cons_zero, List.set_cons_succ, i64_w, i32_w]
                    rfl
                  refine one_ (i := 5) (N := some 42) #[true, true, true, true, true, true, false, false, false, false, false, false, false, false, false, false, false, false, false, false, false, false, false, false, false, false, false, false, false, false, false, false, false, false, false, false, false] rfl rfl (one_of HT_.out (by kernel_rfl)) (by decide) (fun K hK => ?_)
                  refine goes_ Tryd.func14 (by kernel_rfl) rfl #[.agg #[.int .i64 a0_0, .int .i64 a0_1, .int .i64 a0_2, .int .i64 a0_3, .int .i64 a0_4, .int .i64 a0_5, .slice A0_6 l0_6.length c0_6, .slice A0_7 l0_7.length c0_7]] (by rfl) rfl rfl (by (try simp only [List.map_toArray, List.map_cons, List.map_nil]); first | done | rfl | (simp only [List.length_drop, List.length_take]; rfl)) ?_
                  with_reducible refine (precentorref03_May.calls a0_0 a0_1 a0_2 a0_3 a0_4 a0_5 _ _ l0_6 _ _ l0_7 t206 _ ?side1 ?side2 ?side3 ?side4 A31.out).mono ?_
                  (case side1 => repeat (first | exact (Kd.C_below HR0_6.out HB.out) | (with_reducible refine Kd.C_alloc ?_ _) | (with_reducible refine Kd.C_drewN ?_ _) | (with_reducible refine Kd.C_drew ?_)))
                  (case side2 => exact HC0_6.out)
                  (case side3 => repeat (first | exact (Kd.C_below HR0_7.out HB.out) | (with_reducible refine Kd.C_alloc ?_ _) | (with_reducible refine Kd.C_drewN ?_ _) | (with_reducible refine Kd.C_drew ?_)))
                  (case side4 => exact HC0_7.out)
                  rintro e w59 ⟨rfl, hb⟩
                  refine ⟨_, rfl, ?_⟩
                  have n0_ := Aside0.mk (Kd.R_below (by (with_reducible repeat (first | apply Kd.R_alloc | apply Kd.R_drewN | apply Kd.R_drew)); exact HO185.out) hb)
                  have n1_ := Aside0.mk (Kd.R_below (by (with_reducible repeat (first | apply Kd.R_alloc | apply Kd.R_drewN | apply Kd.R_drew)); exact HO188.out) hb)
                  have n2_ := Aside0.mk (Kd.R_below (by (with_reducible repeat (first | apply Kd.R_alloc | apply Kd.R_drewN | apply Kd.R_drew)); exact HO199.out) hb)
                  have n3_ := Aside0.mk (Kd.R_below (by (with_reducible repeat (first | apply Kd.R_alloc | apply Kd.R_drewN | apply Kd.R_drew)); exact HO202.out) hb)
                  have n4_ := Aside0.mk (blk_below (g := gb172) (o := .cells #[.int .i64 a0_0, .int .i64 a0_1, .int .i64 a0_2, .int .i64 a0_3, .int .i64 a0_4, .int .i64 a0_5, .slice A0_6 l0_6.length c0_6, .slice A0_7 l0_7.length c0_7] 25 (0, 0)) (by (with_reducible repeat (first | refine blk_drewN ?_ _ | refine blk_drew ?_ | refine blk_alloc ?_ _)); exact BK172.out) hb)
                  have n5_ := Aside0.mk (blk_below (g := gb173) (o := .cells #[.int .i64 a1_0, .int .i64 a1_1, .int .i64 a1_2, .int .i64 a1_3, .int .i64 a1_4, .int .i64 a1_5, .slice A1_6 l1_6.length c1_6, .slice A1_7 l1_7.length c1_7] 25 (0, 0)) (by (with_reducible repeat (first | refine blk_drewN ?_ _ | refine blk_drew ?_ | refine blk_alloc ?_ _)); exact BK173.out) hb)
                  have n6_ := Aside0.mk (blk_below (g := gb190) (o := .cells #[.int .i64 t177, .int .i64 t178, .int .i64 t179, .int .i64 t180, .int .i64 t181, .int .i64 t182, .slice Ao46 t183.length co46, .slice Ao47 t186.length co47] 25 (0, 0)) (by (with_reducible repeat (first | refine blk_drewN ?_ _ | refine blk_drew ?_ | refine blk_alloc ?_ _)); exact BK190.out) hb)
                  have n7_ := Aside0.mk (blk_below (g := gb204) (o := .cells #[.int .i64 t191, .int .i64 t192, .int .i64 t193, .int .i64 t194, .int .i64 t195, .int .i64 t196, .slice Ao54 t197.length co54, .slice Ao55 t200.length co55] 25 (0, 0)) (by (with_reducible repeat (first | refine blk_drewN ?_ _ | refine blk_drew ?_ | refine blk_alloc ?_ _)); exact BK204.out) hb)
                  have n8_ := Aside0.mk (below_step (by repeat (first | (with_reducible first | exact HB.out | apply below_alloc | apply pw_below_drewN | apply below_drew1 | refine below_set ?_ GE172.out | refine below_set ?_ GE173.out | refine below_set ?_ GE190.out | refine below_set ?_ GE204.out) | exact HB.out)) hb)
                  clear HO185
                  clear HO188
                  clear HO199
                  clear HO202
                  clear BK172
                  clear BK173
                  clear BK190
                  clear BK204
                  clear HB
                  have HO185 := n0_
                  have HO188 := n1_
                  have HO199 := n2_
                  have HO202 := n3_
                  have BK172 := n4_
                  have BK173 := n5_
                  have BK190 := n6_
                  have BK204 := n7_
                  have HB := n8_
                  clear n0_ n1_ n2_ n3_ n4_ n5_ n6_ n7_ n8_
                  (try clear hb)
                  (try clear hb2)
                  (try clear hk)
                  (try clear hi)
                  refine hK.out _ _ ⟨(blk_cell BK172.out 0).trans rfl, (blk_cell BK172.out 1).trans rfl, (blk_cell BK172.out 2).trans rfl, (blk_cell BK172.out 3).trans rfl, (blk_cell BK172.out 4).trans rfl, (blk_cell BK172.out 5).trans rfl, (blk_cell BK172.out 6).trans rfl, (blk_cell BK172.out 7).trans rfl, (blk_cell BK173.out 0).trans rfl, (blk_cell BK173.out 1).trans rfl, (blk_cell BK173.out 2).trans rfl, (blk_cell BK173.out 3).trans rfl, (blk_cell BK173.out 4).trans rfl, (blk_cell BK173.out 5).trans rfl, (blk_cell BK173.out 6).trans rfl, (blk_cell BK173.out 7).trans rfl, (blk_cell BK190.out 0).trans rfl, (blk_cell BK190.out 1).trans rfl, (blk_cell BK190.out 2).trans rfl, (blk_cell BK190.out 3).trans rfl, (blk_cell BK190.out 4).trans rfl, (blk_cell BK190.out 5).trans rfl, (blk_cell BK190.out 6).trans rfl, (blk_cell BK190.out 7).trans rfl, (blk_cell BK204.out 0).trans rfl, (blk_cell BK204.out 1).trans rfl, (blk_cell BK204.out 2).trans rfl, (blk_cell BK204.out 3).trans rfl, (blk_cell BK204.out 4).trans rfl, (blk_cell BK204.out 5).trans rfl, (blk_cell BK204.out 6).trans rfl, (blk_cell BK204.out 7).trans rfl⟩ (fun hHeld => ?_)
                  clear hK K
                  refine norm_ (a' := ?_) ?_ ?_
                  rotate_left
                  · show Act.put _ (some 42) _ = _
                    simp only [Act.put, List.setIfInBounds_toArray, List.set_cons_zero, List.set_cons_succ, i64_w, i32_w]
                    rfl
                  refine pure_ (i := 6) (N := some 43) (v := ?_) (a' := ?_) #[true, true, true, true, true, true, true, false, false, false, false, false, false, false, false, false, false, false, false, false, false, false, false, false, false, false, false, false, false, false, false, false, false, false, false, false, false] rfl rfl (any_of HT_.out (by kernel_rfl)) (fun _ _ _ h => h) (Or.inl ⟨by rfl, ?_⟩) ?_ ?_
                  rotate_left
                  · intro w'
                    go_simp
                    with_reducible rfl
                  rotate_left
                  · simp only [Act.put, List.setIfInBounds_toArray, List.set_cons_zero, List.set_cons_succ, i64_w, i32_w]
                    rfl
                  refine pure_ (i := 7) (N := some 44) (v := ?_) (a' := ?_) #[true, true, true, true, true, true, true, true, false, false, false, false, false, false, false, false, false, false, false, false, false, false, false, false, false, false, false, false, false, false, false, false, false, false, false, false, false] rfl rfl (any_of HT_.out (by kernel_rfl)) (fun _ _ _ h => h) (Or.inl ⟨by rfl, ?_⟩) ?_ ?_
                  rotate_left
                  · intro w'
                    go_simp
                    with_reducible rfl
                  rotate_left
                  · simp only [Act.put, List.setIfInBounds_toArray, List.set_cons_zero, List.set_cons_succ, i64_w, i32_w]
                    rfl
                  refine pure_ (i := 8) (N := some 45) (v := ?_) (a' := ?_) #[true, true, true, true, true, true, true, true, true, false, false, false, false, false, false, false, false, false, false, false, false, false, false, false, false, false, false, false, false, false, false, false, false, false, false, false, false] rfl rfl (any_of HT_.out (by kernel_rfl)) (fun _ _ _ h => h) (Or.inl ⟨by rfl, ?_⟩) ?_ ?_
                  rotate_left
                  · intro w'
                    go_simp
                    with_reducible rfl
                  rotate_left
                  · simp only [Act.put, List.setIfInBounds_toArray, List.set_cons_zero, List.set_cons_succ, i64_w, i32_w]
                    rfl
                  refine take_ (i := 9) (N := some 46) (v := ?_) (a' := ?_) #[true, true, true, true, true, true, true, true, true, true, false, false, false, false, false, false, false, false, false, false, false, false, false, false, false, false, false, false, false, false, false, false, false, false, false, false, false] rfl rfl (take_ofW HT_.out HW_.out (by kernel_rfl)) (fun _ _ _ h => h) (Or.inl ⟨by rfl, ?_⟩) hHeld ?_ ?_
                  rotate_left
                  · rintro w' ⟨s0, s1, s2, s3, s4, s5, s6, s7, s8, s9, s10, s11, s12, s13, s14, s15, s16, s17, s18, s19, s20, s21, s22, s23, s24, s25, s26, s27, s28, s29, s30, s31⟩
                    try rw [List.length_drop] at s0
                    try rw [List.length_drop] at s1
                    try rw [List.length_drop] at s2
                    try rw [List.length_drop] at s3
                    try rw [List.length_drop] at s4
                    try rw [List.length_drop] at s5
                    try rw [List.length_drop] at s6
                    try rw [List.length_drop] at s7
                    try rw [List.length_drop] at s8
                    try rw [List.length_drop] at s9
                    try rw [List.length_drop] at s10
                    try rw [List.length_drop] at s11
                    try rw [List.length_drop] at s12
                    try rw [List.length_drop] at s13
                    try rw [List.length_drop] at s14
                    try rw [List.length_drop] at s15
                    try rw [List.length_drop] at s16
                    try rw [List.length_drop] at s17
                    try rw [List.length_drop] at s18
                    try rw [List.length_drop] at s19
                    try rw [List.length_drop] at s20
                    try rw [List.length_drop] at s21
                    try rw [List.length_drop] at s22
                    try rw [List.length_drop] at s23
                    try rw [List.length_drop] at s24
                    try rw [List.length_drop] at s25
                    try rw [List.length_drop] at s26
                    try rw [List.length_drop] at s27
                    try rw [List.length_drop] at s28
                    try rw [List.length_drop] at s29
                    try rw [List.length_drop] at s30
                    try rw [List.length_drop] at s31
                    go_simp
                    with_reducible rfl
                  rotate_left
                  · simp only [Act.put, List.setIfInBounds_toArray, List.set_cons_zero, List.set_cons_succ, i64_w, i32_w]
                    rfl
                  refine take_ (i := 10) (N := some 47) (v := ?_) (a' := ?_) #[true, true, true, true, true, true, true, true, true, true, true, false, false, false, false, false, false, false, false, false, false, false, false, false, false, false, false, false, false, false, false, false, false, false, false, false, false] rfl rfl (take_ofW HT_.out HW_.out (by kernel_rfl)) (fun _ _ _ h => h) (Or.inl ⟨by rfl, ?_⟩) hHeld ?_ ?_
                  rotate_left
                  · rintro w' ⟨s0, s1, s2, s3, s4, s5, s6, s7, s8, s9, s10, s11, s12, s13, s14, s15, s16, s17, s18, s19, s20, s21, s22, s23, s24, s25, s26, s27, s28, s29, s30, s31⟩
                    try rw [List.length_drop] at s0
                    try rw [List.length_drop] at s1
                    try rw [List.length_drop] at s2
                    try rw [List.length_drop] at s3
                    try rw [List.length_drop] at s4
                    try rw [List.length_drop] at s5
                    try rw [List.length_drop] at s6
                    try rw [List.length_drop] at s7
                    try rw [List.length_drop] at s8
                    try rw [List.length_drop] at s9
                    try rw [List.length_drop] at s10
                    try rw [List.length_drop] at s11
                    try rw [List.length_drop] at s12
                    try rw [List.length_drop] at s13
                    try rw [List.length_drop] at s14
                    try rw [List.length_drop] at s15
                    try rw [List.length_drop] at s16
                    try rw [List.length_drop] at s17
                    try rw [List.length_drop] at s18
                    try rw [List.length_drop] at s19
                    try rw [List.length_drop] at s20
                    try rw [List.length_drop] at s21
                    try rw [List.length_drop] at s22
                    try rw [List.length_drop] at s23
                    try rw [List.length_drop] at s24
                    try rw [List.length_drop] at s25
                    try rw [List.length_drop] at s26
                    try rw [List.length_drop] at s27
                    try rw [List.length_drop] at s28
                    try rw [List.length_drop] at s29
                    try rw [List.length_drop] at s30
                    try rw [List.length_drop] at s31
                    go_simp
                    with_reducible rfl
                  rotate_left
                  · simp only [Act.put, List.setIfInBounds_toArray, List.set_cons_zero, List.set_cons_succ, i64_w, i32_w]
                    rfl
                  refine take_ (i := 12) (N := some 49) (v := ?_) (a' := ?_) #[true, true, true, true, true, true, true, true, true, true, true, false, true, false, false, false, false, false, false, false, false, false, false, false, false, false, false, false, false, false, false, false, false, false, false, false, false] rfl rfl (take_ofW HT_.out HW_.out (by kernel_rfl)) (fun _ _ _ h => h) (Or.inl ⟨by rfl, ?_⟩) hHeld ?_ ?_
                  rotate_left
                  · rintro w' ⟨s0, s1, s2, s3, s4, s5, s6, s7, s8, s9, s10, s11, s12, s13, s14, s15, s16, s17, s18, s19, s20, s21, s22, s23, s24, s25, s26, s27, s28, s29, s30, s31⟩
                    try rw [List.length_drop] at s0
                    try rw [List.length_drop] at s1
                    try rw [List.length_drop] at s2
                    try rw [List.length_drop] at s3
                    try rw [List.length_drop] at s4
                    try rw [List.length_drop] at s5
                    try rw [List.length_drop] at s6
                    try rw [List.length_drop] at s7
                    try rw [List.length_drop] at s8
                    try rw [List.length_drop] at s9
                    try rw [List.length_drop] at s10
                    try rw [List.length_drop] at s11
                    try rw [List.length_drop] at s12
                    try rw [List.length_drop] at s13
                    try rw [List.length_drop] at s14
                    try rw [List.length_drop] at s15
                    try rw [List.length_drop] at s16
                    try rw [List.length_drop] at s17
                    try rw [List.length_drop] at s18
                    try rw [List.length_drop] at s19
                    try rw [List.length_drop] at s20
                    try rw [List.length_drop] at s21
                    try rw [List.length_drop] at s22
                    try rw [List.length_drop] at s23
                    try rw [List.length_drop] at s24
                    try rw [List.length_drop] at s25
                    try rw [List.length_drop] at s26
                    try rw [List.length_drop] at s27
                    try rw [List.length_drop] at s28
                    try rw [List.length_drop] at s29
                    try rw [List.length_drop] at s30
                    try rw [List.length_drop] at s31
                    go_simp
                    with_reducible rfl
                  rotate_left
                  · simp only [Act.put, List.setIfInBounds_toArray, List.set_cons_zero, List.set_cons_succ, i64_w, i32_w]
                    rfl
                  refine take_ (i := 13) (N := some 50) (v := ?_) (a' := ?_) #[true, true, true, true, true, true, true, true, true, true, true, false, true, true, false, false, false, false, false, false, false, false, false, false, false, false, false, false, false, false, false, false, false, false, false, false, false] rfl rfl (take_ofW HT_.out HW_.out (by kernel_rfl)) (fun _ _ _ h => h) (Or.inl ⟨by rfl, ?_⟩) hHeld ?_ ?_
                  rotate_left
                  · rintro w' ⟨s0, s1, s2, s3, s4, s5, s6, s7, s8, s9, s10, s11, s12, s13, s14, s15, s16, s17, s18, s19, s20, s21, s22, s23, s24, s25, s26, s27, s28, s29, s30, s31⟩
                    try rw [List.length_drop] at s0
                    try rw [List.length_drop] at s1
                    try rw [List.length_drop] at s2
                    try rw [List.length_drop] at s3
                    try rw [List.length_drop] at s4
                    try rw [List.length_drop] at s5
                    try rw [List.length_drop] at s6
                    try rw [List.length_drop] at s7
                    try rw [List.length_drop] at s8
                    try rw [List.length_drop] at s9
                    try rw [List.length_drop] at s10
                    try rw [List.length_drop] at s11
                    try rw [List.length_drop] at s12
                    try rw [List.length_drop] at s13
                    try rw [List.length_drop] at s14
                    try rw [List.length_drop] at s15
                    try rw [List.length_drop] at s16
                    try rw [List.length_drop] at s17
                    try rw [List.length_drop] at s18
                    try rw [List.length_drop] at s19
                    try rw [List.length_drop] at s20
                    try rw [List.length_drop] at s21
                    try rw [List.length_drop] at s22
                    try rw [List.length_drop] at s23
                    try rw [List.length_drop] at s24
                    try rw [List.length_drop] at s25
                    try rw [List.length_drop] at s26
                    try rw [List.length_drop] at s27
                    try rw [List.length_drop] at s28
                    try rw [List.length_drop] at s29
                    try rw [List.length_drop] at s30
                    try rw [List.length_drop] at s31
                    go_simp
                    with_reducible rfl
                  rotate_left
                  · simp only [Act.put, List.setIfInBounds_toArray, List.set_cons_zero, List.set_cons_succ, i64_w, i32_w]
                    rfl
                  refine one_ (i := 11) (N := some 48) #[true, true, true, true, true, true, true, true, true, true, true, true, true, true, false, false, false, false, false, false, false, false, false, false, false, false, false, false, false, false, false, false, false, false, false, false, false] rfl rfl (one_of HT_.out (by kernel_rfl)) (by decide) (fun K hK => ?_)
                  refine goes_ Tryd.func15 (by kernel_rfl) rfl #[.agg #[.int .i64 a0_0, .int .i64 a0_1, .int .i64 a0_2, .int .i64 a0_3, .int .i64 a0_4, .int .i64 a0_5, .slice A0_6 l0_6.length c0_6, .slice A0_7 l0_7.length c0_7], .agg #[.int .i64 a1_0, .int .i64 a1_1, .int .i64 a1_2, .int .i64 a1_3, .int .i64 a1_4, .int .i64 a1_5, .slice A1_6 l1_6.length c1_6, .slice A1_7 l1_7.length c1_7]] (by rfl) rfl rfl (by (try simp only [List.map_toArray, List.map_cons, List.map_nil]); first | done | rfl | (simp only [List.length_drop, List.length_take]; rfl)) ?_
                  with_reducible refine (item_Same.calls a0_0 a0_1 a0_2 a0_3 a0_4 a0_5 _ _ l0_6 _ _ l0_7 a1_0 a1_1 a1_2 a1_3 a1_4 a1_5 _ _ l1_6 _ _ l1_7 t207 _ ?side1 ?side2 ?side3 ?side4 ?side5 ?side6 ?side7 ?side8 A33.out).mono ?_
                  (case side1 => repeat (first | exact (Kd.C_below HR0_6.out HB.out) | (with_reducible refine Kd.C_alloc ?_ _) | (with_reducible refine Kd.C_drewN ?_ _) | (with_reducible refine Kd.C_drew ?_)))
                  (case side2 => exact HC0_6.out)
                  (case side3 => repeat (first | exact (Kd.C_below HR0_7.out HB.out) | (with_reducible refine Kd.C_alloc ?_ _) | (with_reducible refine Kd.C_drewN ?_ _) | (with_reducible refine Kd.C_drew ?_)))
                  (case side4 => exact HC0_7.out)
                  (case side5 => repeat (first | exact (Kd.C_below HR1_6.out HB.out) | (with_reducible refine Kd.C_alloc ?_ _) | (with_reducible refine Kd.C_drewN ?_ _) | (with_reducible refine Kd.C_drew ?_)))
                  (case side6 => exact HC1_6.out)
                  (case side7 => repeat (first | exact (Kd.C_below HR1_7.out HB.out) | (with_reducible refine Kd.C_alloc ?_ _) | (with_reducible refine Kd.C_drewN ?_ _) | (with_reducible refine Kd.C_drew ?_)))
                  (case side8 => exact HC1_7.out)
                  rintro e w60 ⟨rfl, hb⟩
                  refine ⟨_, rfl, ?_⟩
                  have n0_ := Aside0.mk (Kd.R_below (by (with_reducible repeat (first | apply Kd.R_alloc | apply Kd.R_drewN | apply Kd.R_drew)); exact HO185.out) hb)
                  have n1_ := Aside0.mk (Kd.R_below (by (with_reducible repeat (first | apply Kd.R_alloc | apply Kd.R_drewN | apply Kd.R_drew)); exact HO188.out) hb)
                  have n2_ := Aside0.mk (Kd.R_below (by (with_reducible repeat (first | apply Kd.R_alloc | apply Kd.R_drewN | apply Kd.R_drew)); exact HO199.out) hb)
                  have n3_ := Aside0.mk (Kd.R_below (by (with_reducible repeat (first | apply Kd.R_alloc | apply Kd.R_drewN | apply Kd.R_drew)); exact HO202.out) hb)
                  have n4_ := Aside0.mk (blk_below (g := gb172) (o := .cells #[.int .i64 a0_0, .int .i64 a0_1, .int .i64 a0_2, .int .i64 a0_3, .int .i64 a0_4, .int .i64 a0_5, .slice A0_6 l0_6.length c0_6, .slice A0_7 l0_7.length c0_7] 25 (0, 0)) (by (with_reducible repeat (first | refine blk_drewN ?_ _ | refine blk_drew ?_ | refine blk_alloc ?_ _)); exact BK172.out) hb)
                  have n5_ := Aside0.mk (blk_below (g := gb173) (o := .cells #[.int .i64 a1_0, .int .i64 a1_1, .int .i64 a1_2, .int .i64 a1_3, .int .i64 a1_4, .int .i64 a1_5, .slice A1_6 l1_6.length c1_6, .slice A1_7 l1_7.length c1_7] 25 (0, 0)) (by (with_reducible repeat (first | refine blk_drewN ?_ _ | refine blk_drew ?_ | refine blk_alloc ?_ _)); exact BK173.out) hb)
                  have n6_ := Aside0.mk (blk_below (g := gb190) (o := .cells #[.int .i64 t177, .int .i64 t178, .int .i64 t179, .int .i64 t180, .int .i64 t181, .int .i64 t182, .slice Ao46 t183.length co46, .slice Ao47 t186.length co47] 25 (0, 0)) (by (with_reducible repeat (first | refine blk_drewN ?_ _ | refine blk_drew ?_ | refine blk_alloc ?_ _)); exact BK190.out) hb)
                  have n7_ := Aside0.mk (blk_below (g := gb204) (o := .cells #[.int .i64 t191, .int .i64 t192, .int .i64 t193, .int .i64 t194, .int .i64 t195, .int .i64 t196, .slice Ao54 t197.length co54, .slice Ao55 t200.length co55] 25 (0, 0)) (by (with_reducible repeat (first | refine blk_drewN ?_ _ | refine blk_drew ?_ | refine blk_alloc ?_ _)); exact BK204.out) hb)
                  have n8_ := Aside0.mk (below_step (by repeat (first | (with_reducible first | exact HB.out | apply below_alloc | apply pw_below_drewN | apply below_drew1 | refine below_set ?_ GE172.out | refine below_set ?_ GE173.out | refine below_set ?_ GE190.out | refine below_set ?_ GE204.out) | exact HB.out)) hb)
                  clear HO185
                  clear HO188
                  clear HO199
                  clear HO202
                  clear BK172
                  clear BK173
                  clear BK190
                  clear BK204
                  clear HB
                  have HO185 := n0_
                  have HO188 := n1_
                  have HO199 := n2_
                  have HO202 := n3_
                  have BK172 := n4_
                  have BK173 := n5_
                  have BK190 := n6_
                  have BK204 := n7_
                  have HB := n8_
                  clear n0_ n1_ n2_ n3_ n4_ n5_ n6_ n7_ n8_
                  (try clear hb)
                  (try clear hb2)
                  (try clear hk)
                  (try clear hi)
                  refine hK.out _ _ ⟨(blk_cell BK172.out 0).trans rfl, (blk_cell BK172.out 1).trans rfl, (blk_cell BK172.out 2).trans rfl, (blk_cell BK172.out 3).trans rfl, (blk_cell BK172.out 4).trans rfl, (blk_cell BK172.out 5).trans rfl, (blk_cell BK172.out 6).trans rfl, (blk_cell BK172.out 7).trans rfl, (blk_cell BK173.out 0).trans rfl, (blk_cell BK173.out 1).trans rfl, (blk_cell BK173.out 2).trans rfl, (blk_cell BK173.out 3).trans rfl, (blk_cell BK173.out 4).trans rfl, (blk_cell BK173.out 5).trans rfl, (blk_cell BK173.out 6).trans rfl, (blk_cell BK173.out 7).trans rfl, (blk_cell BK190.out 0).trans rfl, (blk_cell BK190.out 1).trans rfl, (blk_cell BK190.out 2).trans rfl, (blk_cell BK190.out 3).trans rfl, (blk_cell BK190.out 4).trans rfl, (blk_cell BK190.out 5).trans rfl, (blk_cell BK190.out 6).trans rfl, (blk_cell BK190.out 7).trans rfl, (blk_cell BK204.out 0).trans rfl, (blk_cell BK204.out 1).trans rfl, (blk_cell BK204.out 2).trans rfl, (blk_cell BK204.out 3).trans rfl, (blk_cell BK204.out 4).trans rfl, (blk_cell BK204.out 5).trans rfl, (blk_cell BK204.out 6).trans rfl, (blk_cell BK204.out 7).trans rfl⟩ (fun hHeld => ?_)
                  clear hK K
                  refine norm_ (a' := ?_) ?_ ?_
                  rotate_left
                  · show Act.put _ (some 48) _ = _
                    simp only [Act.put, List.setIfInBounds_toArray, List.set_cons_zero, List.set_cons_succ, i64_w, i32_w]
                    rfl
                  refine one_ (i := 14) (N := some 51) #[true, true, true, true, true, true, true, true, true, true, true, true, true, true, true, false, false, false, false, false, false, false, false, false, false, false, false, false, false, false, false, false, false, false, false, false, false] rfl rfl (one_of HT_.out (by kernel_rfl)) (by decide) (fun K hK => ?_)
                  refine goes_ Tryd.func16 (by kernel_rfl) rfl #[.agg #[.int .i64 a0_0, .int .i64 a0_1, .int .i64 a0_2, .int .i64 a0_3, .int .i64 a0_4, .int .i64 a0_5, .slice A0_6 l0_6.length c0_6, .slice A0_7 l0_7.length c0_7], .agg #[.int .i64 a1_0, .int .i64 a1_1, .int .i64 a1_2, .int .i64 a1_3, .int .i64 a1_4, .int .i64 a1_5, .slice A1_6 l1_6.length c1_6, .slice A1_7 l1_7.length c1_7]] (by rfl) rfl rfl (by (try simp only [List.map_toArray, List.map_cons, List.map_nil]); first | done | rfl | (simp only [List.length_drop, List.length_take]; rfl)) ?_
                  with_reducible refine (precentorref03_Same.calls a0_0 a0_1 a0_2 a0_3 a0_4 a0_5 _ _ l0_6 _ _ l0_7 a1_0 a1_1 a1_2 a1_3 a1_4 a1_5 _ _ l1_6 _ _ l1_7 t208 _ ?side1 ?side2 ?side3 ?side4 ?side5 ?side6 ?side7 ?side8 A34.out).mono ?_
                  (case side1 => repeat (first | exact (Kd.C_below HR0_6.out HB.out) | (with_reducible refine Kd.C_alloc ?_ _) | (with_reducible refine Kd.C_drewN ?_ _) | (with_reducible refine Kd.C_drew ?_)))
                  (case side2 => exact HC0_6.out)
                  (case side3 => repeat (first | exact (Kd.C_below HR0_7.out HB.out) | (with_reducible refine Kd.C_alloc ?_ _) | (with_reducible refine Kd.C_drewN ?_ _) | (with_reducible refine Kd.C_drew ?_)))
                  (case side4 => exact HC0_7.out)
                  (case side5 => repeat (first | exact (Kd.C_below HR1_6.out HB.out) | (with_reducible refine Kd.C_alloc ?_ _) | (with_reducible refine Kd.C_drewN ?_ _) | (with_reducible refine Kd.C_drew ?_)))
                  (case side6 => exact HC1_6.out)
                  (case side7 => repeat (first | exact (Kd.C_below HR1_7.out HB.out) | (with_reducible refine Kd.C_alloc ?_ _) | (with_reducible refine Kd.C_drewN ?_ _) | (with_reducible refine Kd.C_drew ?_)))
                  (case side8 => exact HC1_7.out)
                  rintro e w61 ⟨rfl, hb⟩
                  refine ⟨_, rfl, ?_⟩
                  have n0_ := Aside0.mk (Kd.R_below (by (with_reducible repeat (first | apply Kd.R_alloc | apply Kd.R_drewN | apply Kd.R_drew)); exact HO185.out) hb)
                  have n1_ := Aside0.mk (Kd.R_below (by (with_reducible repeat (first | apply Kd.R_alloc | apply Kd.R_drewN | apply Kd.R_drew)); exact HO188.out) hb)
                  have n2_ := Aside0.mk (Kd.R_below (by (with_reducible repeat (first | apply Kd.R_alloc | apply Kd.R_drewN | apply Kd.R_drew)); exact HO199.out) hb)
                  have n3_ := Aside0.mk (Kd.R_below (by (with_reducible repeat (first | apply Kd.R_alloc | apply Kd.R_drewN | apply Kd.R_drew)); exact HO202.out) hb)
                  have n4_ := Aside0.mk (blk_below (g := gb172) (o := .cells #[.int .i64 a0_0, .int .i64 a0_1, .int .i64 a0_2, .int .i64 a0_3, .int .i64 a0_4, .int .i64 a0_5, .slice A0_6 l0_6.length c0_6, .slice A0_7 l0_7.length c0_7] 25 (0, 0)) (by (with_reducible repeat (first | refine blk_drewN ?_ _ | refine blk_drew ?_ | refine blk_alloc ?_ _)); exact BK172.out) hb)
                  have n5_ := Aside0.mk (blk_below (g := gb173) (o := .cells #[.int .i64 a1_0, .int .i64 a1_1, .int .i64 a1_2, .int .i64 a1_3, .int .i64 a1_4, .int .i64 a1_5, .slice A1_6 l1_6.length c1_6, .slice A1_7 l1_7.length c1_7] 25 (0, 0)) (by (with_reducible repeat (first | refine blk_drewN ?_ _ | refine blk_drew ?_ | refine blk_alloc ?_ _)); exact BK173.out) hb)
                  have n6_ := Aside0.mk (blk_below (g := gb190) (o := .cells #[.int .i64 t177, .int .i64 t178, .int .i64 t179, .int .i64 t180, .int .i64 t181, .int .i64 t182, .slice Ao46 t183.length co46, .slice Ao47 t186.length co47] 25 (0, 0)) (by (with_reducible repeat (first | refine blk_drewN ?_ _ | refine blk_drew ?_ | refine blk_alloc ?_ _)); exact BK190.out) hb)
                  have n7_ := Aside0.mk (blk_below (g := gb204) (o := .cells #[.int .i64 t191, .int .i64 t192, .int .i64 t193, .int .i64 t194, .int .i64 t195, .int .i64 t196, .slice Ao54 t197.length co54, .slice Ao55 t200.length co55] 25 (0, 0)) (by (with_reducible repeat (first | refine blk_drewN ?_ _ | refine blk_drew ?_ | refine blk_alloc ?_ _)); exact BK204.out) hb)
                  have n8_ := Aside0.mk (below_step (by repeat (first | (with_reducible first | exact HB.out | apply below_alloc | apply pw_below_drewN | apply below_drew1 | refine below_set ?_ GE172.out | refine below_set ?_ GE173.out | refine below_set ?_ GE190.out | refine below_set ?_ GE204.out) | exact HB.out)) hb)
                  clear HO185
                  clear HO188
                  clear HO199
                  clear HO202
                  clear BK172
                  clear BK173
                  clear BK190
                  clear BK204
                  clear HB
                  have HO185 := n0_
                  have HO188 := n1_
                  have HO199 := n2_
                  have HO202 := n3_
                  have BK172 := n4_
                  have BK173 := n5_
                  have BK190 := n6_
                  have BK204 := n7_
                  have HB := n8_
                  clear n0_ n1_ n2_ n3_ n4_ n5_ n6_ n7_ n8_
                  (try clear hb)
                  (try clear hb2)
                  (try clear hk)
                  (try clear hi)
                  refine hK.out _ _ ⟨(blk_cell BK172.out 0).trans rfl, (blk_cell BK172.out 1).trans rfl, (blk_cell BK172.out 2).trans rfl, (blk_cell BK172.out 3).trans rfl, (blk_cell BK172.out 4).trans rfl, (blk_cell BK172.out 5).trans rfl, (blk_cell BK172.out 6).trans rfl, (blk_cell BK172.out 7).trans rfl, (blk_cell BK173.out 0).trans rfl, (blk_cell BK173.out 1).trans rfl, (blk_cell BK173.out 2).trans rfl, (blk_cell BK173.out 3).trans rfl, (blk_cell BK173.out 4).trans rfl, (blk_cell BK173.out 5).trans rfl, (blk_cell BK173.out 6).trans rfl, (blk_cell BK173.out 7).trans rfl, (blk_cell BK190.out 0).trans rfl, (blk_cell BK190.out 1).trans rfl, (blk_cell BK190.out 2).trans rfl, (blk_cell BK190.out 3).trans rfl, (blk_cell BK190.out 4).trans rfl, (blk_cell BK190.out 5).trans rfl, (blk_cell BK190.out 6).trans rfl, (blk_cell BK190.out 7).trans rfl, (blk_cell BK204.out 0).trans rfl, (blk_cell BK204.out 1).trans rfl, (blk_cell BK204.out 2).trans rfl, (blk_cell BK204.out 3).trans rfl, (blk_cell BK204.out 4).trans rfl, (blk_cell BK204.out 5).trans rfl, (blk_cell BK204.out 6).trans rfl, (blk_cell BK204.out 7).trans rfl⟩ (fun hHeld => ?_)
                  clear hK K
                  refine norm_ (a' := ?_) ?_ ?_
                  rotate_left
                  · show Act.put _ (some 51) _ = _
                    simp only [Act.put, List.setIfInBounds_toArray, List.set_cons_zero, List.set_cons_succ, i64_w, i32_w]
                    rfl
                  refine pure_ (i := 15) (N := some 52) (v := ?_) (a' := ?_) #[true, true, true, true, true, true, true, true, true, true, true, true, true, true, true, true, false, false, false, false, false, false, false, false, false, false, false, false, false, false, false, false, false, false, false, false, false] rfl rfl (any_of HT_.out (by kernel_rfl)) (fun _ _ _ h => h) (Or.inl ⟨by rfl, ?_⟩) ?_ ?_
                  rotate_left
                  · intro w'
                    go_simp
                    with_reducible rfl
                  rotate_left
                  · simp only [Act.put, List.setIfInBounds_toArray, List.set_cons_zero, List.set_cons_succ, i64_w, i32_w]
                    rfl
                  refine pure_ (i := 16) (N := some 53) (v := ?_) (a' := ?_) #[true, true, true, true, true, true, true, true, true, true, true, true, true, true, true, true, true, false, false, false, false, false, false, false, false, false, false, false, false, false, false, false, false, false, false, false, false] rfl rfl (any_of HT_.out (by kernel_rfl)) (fun _ _ _ h => h) (Or.inl ⟨by rfl, ?_⟩) ?_ ?_
                  rotate_left
                  · intro w'
                    go_simp
                    with_reducible rfl
                  rotate_left
                  · simp only [Act.put, List.setIfInBounds_toArray, List.set_cons_zero, List.set_cons_succ, i64_w, i32_w]
                    rfl
                  refine pure_ (i := 17) (N := some 54) (v := ?_) (a' := ?_) #[true, true, true, true, true, true, true, true, true, true, true, true, true, true, true, true, true, true, false, false, false, false, false, false, false, false, false, false, false, false, false, false, false, false, false, false, false] rfl rfl (any_of HT_.out (by kernel_rfl)) (fun _ _ _ h => h) (Or.inl ⟨by rfl, ?_⟩) ?_ ?_
                  rotate_left
                  · intro w'
                    go_simp
                    with_reducible rfl
                  rotate_left
                  · simp only [Act.put, List.setIfInBounds_toArray, List.set_cons_zero, List.set_cons_succ, i64_w, i32_w]
                    rfl
                  refine take_ (i := 18) (N := some 55) (v := ?_) (a' := ?_) #[true, true, true, true, true, true, true, true, true, true, true, true, true, true, true, true, true, true, true, false, false, false, false, false, false, false, false, false, false, false, false, false, false, false, false, false, false] rfl rfl (take_ofW HT_.out HW_.out (by kernel_rfl)) (fun _ _ _ h => h) (Or.inl ⟨by rfl, ?_⟩) hHeld ?_ ?_
                  rotate_left
                  · rintro w' ⟨s0, s1, s2, s3, s4, s5, s6, s7, s8, s9, s10, s11, s12, s13, s14, s15, s16, s17, s18, s19, s20, s21, s22, s23, s24, s25, s26, s27, s28, s29, s30, s31⟩
                    try rw [List.length_drop] at s0
                    try rw [List.length_drop] at s1
                    try rw [List.length_drop] at s2
                    try rw [List.length_drop] at s3
                    try rw [List.length_drop] at s4
                    try rw [List.length_drop] at s5
                    try rw [List.length_drop] at s6
                    try rw [List.length_drop] at s7
                    try rw [List.length_drop] at s8
                    try rw [List.length_drop] at s9
                    try rw [List.length_drop] at s10
                    try rw [List.length_drop] at s11
                    try rw [List.length_drop] at s12
                    try rw [List.length_drop] at s13
                    try rw [List.length_drop] at s14
                    try rw [List.length_drop] at s15
                    try rw [List.length_drop] at s16
                    try rw [List.length_drop] at s17
                    try rw [List.length_drop] at s18
                    try rw [List.length_drop] at s19
                    try rw [List.length_drop] at s20
                    try rw [List.length_drop] at s21
                    try rw [List.length_drop] at s22
                    try rw [List.length_drop] at s23
                    try rw [List.length_drop] at s24
                    try rw [List.length_drop] at s25
                    try rw [List.length_drop] at s26
                    try rw [List.length_drop] at s27
                    try rw [List.length_drop] at s28
                    try rw [List.length_drop] at s29
                    try rw [List.length_drop] at s30
                    try rw [List.length_drop] at s31
                    go_simp
                    with_reducible rfl
                  rotate_left
                  · simp only [Act.put, List.setIfInBounds_toArray, List.set_cons_zero, List.set_cons_succ, i64_w, i32_w]
                    rfl
                  refine take_ (i := 21) (N := some 58) (v := ?_) (a' := ?_) #[true, true, true, true, true, true, true, true, true, true, true, true, true, true, true, true, true, true, true, false, false, true, false, false, false, false, false, false, false, false, false, false, false, false, false, false, false] rfl rfl (take_ofW HT_.out HW_.out (by kernel_rfl)) (fun _ _ _ h => h) (Or.inl ⟨by rfl, ?_⟩) hHeld ?_ ?_
                  rotate_left
                  · rintro w' ⟨s0, s1, s2, s3, s4, s5, s6, s7, s8, s9, s10, s11, s12, s13, s14, s15, s16, s17, s18, s19, s20, s21, s22, s23, s24, s25, s26, s27, s28, s29, s30, s31⟩
                    try rw [List.length_drop] at s0
                    try rw [List.length_drop] at s1
                    try rw [List.length_drop] at s2
                    try rw [List.length_drop] at s3
                    try rw [List.length_drop] at s4
                    try rw [List.length_drop] at s5
                    try rw [List.length_drop] at s6
                    try rw [List.length_drop] at s7
                    try rw [List.length_drop] at s8
                    try rw [List.length_drop] at s9
                    try rw [List.length_drop] at s10
                    try rw [List.length_drop] at s11
                    try rw [List.length_drop] at s12
                    try rw [List.length_drop] at s13
                    try rw [List.length_drop] at s14
                    try rw [List.length_drop] at s15
                    try rw [List.length_drop] at s16
                    try rw [List.length_drop] at s17
                    try rw [List.length_drop] at s18
                    try rw [List.length_drop] at s19
                    try rw [List.length_drop] at s20
                    try rw [List.length_drop] at s21
                    try rw [List.length_drop] at s22
                    try rw [List.length_drop] at s23
                    try rw [List.length_drop] at s24
                    try rw [List.length_drop] at s25
                    try rw [List.length_drop] at s26
                    try rw [List.length_drop] at s27
                    try rw [List.length_drop] at s28
                    try rw [List.length_drop] at s29
                    try rw [List.length_drop] at s30
                    try rw [List.length_drop] at s31
                    go_simp
                    with_reducible rfl
                  rotate_left
                  · simp only [Act.put, List.setIfInBounds_toArray, List.set_cons_zero, List.set_cons_succ, i64_w, i32_w]
                    rfl
                  refine one_ (i := 19) (N := some 56) #[true, true, true, true, true, true, true, true, true, true, true, true, true, true, true, true, true, true, true, true, false, true, false, false, false, false, false, false, false, false, false, false, false, false, false, false, false] rfl rfl (one_of HT_.out (by kernel_rfl)) (by decide) (fun K hK => ?_)
                  refine goes_ Tryd.func17 (by kernel_rfl) rfl #[.agg #[.int .i64 a0_0, .int .i64 a0_1, .int .i64 a0_2, .int .i64 a0_3, .int .i64 a0_4, .int .i64 a0_5, .slice A0_6 l0_6.length c0_6, .slice A0_7 l0_7.length c0_7]] (by rfl) rfl rfl (by (try simp only [List.map_toArray, List.map_cons, List.map_nil]); first | done | rfl | (simp only [List.length_drop, List.length_take]; rfl)) ?_
                  with_reducible refine (item_Bytes.calls a0_0 a0_1 a0_2 a0_3 a0_4 a0_5 _ _ l0_6 _ _ l0_7 t209 _ ?side1 ?side2 ?side3 ?side4 ?side5 A36.out).mono ?_
                  (case side1 => repeat (first | exact (Kd.C_below HR0_6.out HB.out) | (with_reducible refine Kd.C_alloc ?_ _) | (with_reducible refine Kd.C_drewN ?_ _) | (with_reducible refine Kd.C_drew ?_)))
                  (case side2 => exact HC0_6.out)
                  (case side3 => repeat (first | exact (Kd.C_below HR0_7.out HB.out) | (with_reducible refine Kd.C_alloc ?_ _) | (with_reducible refine Kd.C_drewN ?_ _) | (with_reducible refine Kd.C_drew ?_)))
                  (case side4 => exact HC0_7.out)
                  (case side5 => exact GB.below hG (by repeat (first | (with_reducible first | exact HB.out | apply below_alloc | apply pw_below_drewN | apply below_drew1 | refine below_set ?_ GE172.out | refine below_set ?_ GE173.out | refine below_set ?_ GE190.out | refine below_set ?_ GE204.out) | exact HB.out)))
                  rintro e w62 ⟨v210, rfl, ho0, hb⟩
                  refine ⟨_, rfl, ?_⟩
                  have n0_ := Aside0.mk (Kd.R_below (by (with_reducible repeat (first | apply Kd.R_alloc | apply Kd.R_drewN | apply Kd.R_drew)); exact HO185.out) hb)
                  have n1_ := Aside0.mk (Kd.R_elder' (by (with_reducible repeat (first | apply Kd.R_alloc | apply Kd.R_drewN | apply Kd.R_drew)); exact HO188.out) (Kd.R_base ho0) hb)
                  have n2_ := Aside0.mk (Kd.R_below (by (with_reducible repeat (first | apply Kd.R_alloc | apply Kd.R_drewN | apply Kd.R_drew)); exact HO199.out) hb)
                  have n3_ := Aside0.mk (Kd.R_elder' (by (with_reducible repeat (first | apply Kd.R_alloc | apply Kd.R_drewN | apply Kd.R_drew)); exact HO202.out) (Kd.R_base ho0) hb)
                  have n4_ := Aside0.mk (Kd.R_lower (Kd.R_new' (Kd.R_new' ho0 (Kd.R_lt (by (with_reducible repeat (first | apply Kd.R_alloc | apply Kd.R_drewN | apply Kd.R_drew)); exact HO188.out))) (Kd.R_lt (by (with_reducible repeat (first | apply Kd.R_alloc | apply Kd.R_drewN | apply Kd.R_drew)); exact HO202.out))) (below_size (by repeat (first | (with_reducible first | exact HB.out | apply below_alloc | apply pw_below_drewN | apply below_drew1 | refine below_set ?_ GE172.out | refine below_set ?_ GE173.out | refine below_set ?_ GE190.out | refine below_set ?_ GE204.out) | exact HB.out))))
                  have n5_ := Aside0.mk (blk_below (g := gb172) (o := .cells #[.int .i64 a0_0, .int .i64 a0_1, .int .i64 a0_2, .int .i64 a0_3, .int .i64 a0_4, .int .i64 a0_5, .slice A0_6 l0_6.length c0_6, .slice A0_7 l0_7.length c0_7] 25 (0, 0)) (by (with_reducible repeat (first | refine blk_drewN ?_ _ | refine blk_drew ?_ | refine blk_alloc ?_ _)); exact BK172.out) hb)
                  have n6_ := Aside0.mk (blk_below (g := gb173) (o := .cells #[.int .i64 a1_0, .int .i64 a1_1, .int .i64 a1_2, .int .i64 a1_3, .int .i64 a1_4, .int .i64 a1_5, .slice A1_6 l1_6.length c1_6, .slice A1_7 l1_7.length c1_7] 25 (0, 0)) (by (with_reducible repeat (first | refine blk_drewN ?_ _ | refine blk_drew ?_ | refine blk_alloc ?_ _)); exact BK173.out) hb)
                  have n7_ := Aside0.mk (blk_below (g := gb190) (o := .cells #[.int .i64 t177, .int .i64 t178, .int .i64 t179, .int .i64 t180, .int .i64 t181, .int .i64 t182, .slice Ao46 t183.length co46, .slice Ao47 t186.length co47] 25 (0, 0)) (by (with_reducible repeat (first | refine blk_drewN ?_ _ | refine blk_drew ?_ | refine blk_alloc ?_ _)); exact BK190.out) hb)
                  have n8_ := Aside0.mk (blk_below (g := gb204) (o := .cells #[.int .i64 t191, .int .i64 t192, .int .i64 t193, .int .i64 t194, .int .i64 t195, .int .i64 t196, .slice Ao54 t197.length co54, .slice Ao55 t200.length co55] 25 (0, 0)) (by (with_reducible repeat (first | refine blk_drewN ?_ _ | refine blk_drew ?_ | refine blk_alloc ?_ _)); exact BK204.out) hb)
                  have n9_ := Aside0.mk (below_step (by repeat (first | (with_reducible first | exact HB.out | apply below_alloc | apply pw_below_drewN | apply below_drew1 | refine below_set ?_ GE172.out | refine below_set ?_ GE173.out | refine below_set ?_ GE190.out | refine below_set ?_ GE204.out) | exact HB.out)) hb)
                  clear HO185
                  clear HO188
                  clear HO199
                  clear HO202
                  clear BK172
                  clear BK173
                  clear BK190
                  clear BK204
                  clear HB
                  have HO185 := n0_
                  have HO188 := n1_
                  have HO199 := n2_
                  have HO202 := n3_
                  have HO211 := n4_
                  have BK172 := n5_
                  have BK173 := n6_
                  have BK190 := n7_
                  have BK204 := n8_
                  have HB := n9_
                  clear n0_ n1_ n2_ n3_ n4_ n5_ n6_ n7_ n8_ n9_
                  (try clear hb)
                  (try clear hb2)
                  (try clear hk)
                  (try clear hi)
                  (try clear ho0)
                  refine hK.out _ _ ⟨(blk_cell BK172.out 0).trans rfl, (blk_cell BK172.out 1).trans rfl, (blk_cell BK172.out 2).trans rfl, (blk_cell BK172.out 3).trans rfl, (blk_cell BK172.out 4).trans rfl, (blk_cell BK172.out 5).trans rfl, (blk_cell BK172.out 6).trans rfl, (blk_cell BK172.out 7).trans rfl, (blk_cell BK173.out 0).trans rfl, (blk_cell BK173.out 1).trans rfl, (blk_cell BK173.out 2).trans rfl, (blk_cell BK173.out 3).trans rfl, (blk_cell BK173.out 4).trans rfl, (blk_cell BK173.out 5).trans rfl, (blk_cell BK173.out 6).trans rfl, (blk_cell BK173.out 7).trans rfl, (blk_cell BK190.out 0).trans rfl, (blk_cell BK190.out 1).trans rfl, (blk_cell BK190.out 2).trans rfl, (blk_cell BK190.out 3).trans rfl, (blk_cell BK190.out 4).trans rfl, (blk_cell BK190.out 5).trans rfl, (blk_cell BK190.out 6).trans rfl, (blk_cell BK190.out 7).trans rfl, (blk_cell BK204.out 0).trans rfl, (blk_cell BK204.out 1).trans rfl, (blk_cell BK204.out 2).trans rfl, (blk_cell BK204.out 3).trans rfl, (blk_cell BK204.out 4).trans rfl, (blk_cell BK204.out 5).trans rfl, (blk_cell BK204.out 6).trans rfl, (blk_cell BK204.out 7).trans rfl⟩ (fun hHeld => ?_)
                  clear hK K
                  refine norm_ (a' := ?_) ?_ ?_
                  rotate_left
                  · show Act.put _ (some 56) _ = _
                    simp only [Act.put, List.setIfInBounds_toArray, List.set_cons_zero, List.set_cons_succ, i64_w, i32_w]
                    rfl
                  refine join_ (σ := Value) 13 #[true, true, true, true, true, true, true, true, true, true, true, true, true, true, true, true, true, true, true, true, true, true, true, true, false, false, false, false, false, false, false, false, false, false, false, false, false] (fun s_ => [(57, .string (strOfNums t209)), (59, s_), (60, .string (strOfNums t212))]) (fun s_ w' => (w'.cell? ⟨gb172, 0, none⟩ = some (.int .i64 a0_0) ∧ w'.cell? ⟨gb172, 1, none⟩ = some (.int .i64 a0_1) ∧ w'.cell? ⟨gb172, 2, none⟩ = some (.int .i64 a0_2) ∧ w'.cell? ⟨gb172, 3, none⟩ = some (.int .i64 a0_3) ∧ w'.cell? ⟨gb172, 4, none⟩ = some (.int .i64 a0_4) ∧ w'.cell? ⟨gb172, 5, none⟩ = some (.int .i64 a0_5) ∧ w'.cell? ⟨gb172, 6, none⟩ = some (.slice A0_6 l0_6.length c0_6) ∧ w'.cell? ⟨gb172, 7, none⟩ = some (.slice A0_7 l0_7.length c0_7) ∧ w'.cell? ⟨gb173, 0, none⟩ = some (.int .i64 a1_0) ∧ w'.cell? ⟨gb173, 1, none⟩ = some (.int .i64 a1_1) ∧ w'.cell? ⟨gb173, 2, none⟩ = some (.int .i64 a1_2) ∧ w'.cell? ⟨gb173, 3, none⟩ = some (.int .i64 a1_3) ∧ w'.cell? ⟨gb173, 4, none⟩ = some (.int .i64 a1_4) ∧ w'.cell? ⟨gb173, 5, none⟩ = some (.int .i64 a1_5) ∧ w'.cell? ⟨gb173, 6, none⟩ = some (.slice A1_6 l1_6.length c1_6) ∧ w'.cell? ⟨gb173, 7, none⟩ = some (.slice A1_7 l1_7.length c1_7) ∧ w'.cell? ⟨gb190, 0, none⟩ = some (.int .i64 t177) ∧ w'.cell? ⟨gb190, 1, none⟩ = some (.int .i64 t178) ∧ w'.cell? ⟨gb190, 2, none⟩ = some (.int .i64 t179) ∧ w'.cell? ⟨gb190, 3, none⟩ = some (.int .i64 t180) ∧ w'.cell? ⟨gb190, 4, none⟩ = some (.int .i64 t181) ∧ w'.cell? ⟨gb190, 5, none⟩ = some (.int .i64 t182) ∧ w'.cell? ⟨gb190, 6, none⟩ = some (.slice Ao46 t183.length co46) ∧ w'.cell? ⟨gb190, 7, none⟩ = some (.slice Ao47 t186.length co47) ∧ w'.cell? ⟨gb204, 0, none⟩ = some (.int .i64 t191) ∧ w'.cell? ⟨gb204, 1, none⟩ = some (.int .i64 t192) ∧ w'.cell? ⟨gb204, 2, none⟩ = some (.int .i64 t193) ∧ w'.cell? ⟨gb204, 3, none⟩ = some (.int .i64 t194) ∧ w'.cell? ⟨gb204, 4, none⟩ = some (.int .i64 t195) ∧ w'.cell? ⟨gb204, 5, none⟩ = some (.int .i64 t196) ∧ w'.cell? ⟨gb204, 6, none⟩ = some (.slice Ao54 t197.length co54) ∧ w'.cell? ⟨gb204, 7, none⟩ = some (.slice Ao55 t200.length co55)) ∧ (Kd.R (Kd.int .i64) 3 w' w.heap.size (fun k_ => some k_ ≠ (.slice Ao54 t197.length co54 : Value).ownBlock) (.slice Ao46 t183.length co46) t183) ∧ (Kd.R (Kd.int .u8) 5 w' w.heap.size (fun k_ => some k_ ≠ (.slice Ao55 t200.length co55 : Value).ownBlock ∧ some k_ ≠ (v210 : Value).ownBlock ∧ some k_ ≠ (s_ : Value).ownBlock) (.slice Ao47 t186.length co47) t186) ∧ (Kd.R (Kd.int .i64) 3 w' w.heap.size (fun k_ => some k_ ≠ (.slice Ao46 t183.length co46 : Value).ownBlock) (.slice Ao54 t197.length co54) t197) ∧ (Kd.R (Kd.int .u8) 5 w' w.heap.size (fun k_ => some k_ ≠ (.slice Ao47 t186.length co47 : Value).ownBlock ∧ some k_ ≠ (v210 : Value).ownBlock ∧ some k_ ≠ (s_ : Value).ownBlock) (.slice Ao55 t200.length co55) t200) ∧ (Kd.R (Kd.int .u8) 5 w' w.heap.size (fun k_ => some k_ ≠ (.slice Ao47 t186.length co47 : Value).ownBlock ∧ some k_ ≠ (.slice Ao55 t200.length co55 : Value).ownBlock ∧ some k_ ≠ (s_ : Value).ownBlock) v210 t209) ∧ (Kd.R (Kd.int .u8) 5 w' w.heap.size (fun k_ => some k_ ≠ (.slice Ao47 t186.length co47 : Value).ownBlock ∧ some k_ ≠ (.slice Ao55 t200.length co55 : Value).ownBlock ∧ some k_ ≠ (v210 : Value).ownBlock) s_ t212) ∧ (w'.heap[gb172]? = some (.cells #[.int .i64 a0_0, .int .i64 a0_1, .int .i64 a0_2, .int .i64 a0_3, .int .i64 a0_4, .int .i64 a0_5, .slice A0_6 l0_6.length c0_6, .slice A0_7 l0_7.length c0_7] 25 (0, 0))) ∧ (w'.heap[gb173]? = some (.cells #[.int .i64 a1_0, .int .i64 a1_1, .int .i64 a1_2, .int .i64 a1_3, .int .i64 a1_4, .int .i64 a1_5, .slice A1_6 l1_6.length c1_6, .slice A1_7 l1_7.length c1_7] 25 (0, 0))) ∧ (w'.heap[gb190]? = some (.cells #[.int .i64 t177, .int .i64 t178, .int .i64 t179, .int .i64 t180, .int .i64 t181, .int .i64 t182, .slice Ao46 t183.length co46, .slice Ao47 t186.length co47] 25 (0, 0))) ∧ (w'.heap[gb204]? = some (.cells #[.int .i64 t191, .int .i64 t192, .int .i64 t193, .int .i64 t194, .int .i64 t195, .int .i64 t196, .slice Ao54 t197.length co54, .slice Ao55 t200.length co55] 25 (0, 0))) ∧ (Below w.heap.size w w')) ?_ ?_
                  rotate_left
                  · intro hCont
                    refine two_ (i := 20) (j := 22) (Ni := some 57) (Nj := some 59) #[true, true, true, true, true, true, true, true, true, true, true, true, true, true, true, true, true, true, true, true, true, true, false, false, false, false, false, false, false, false, false, false, false, false, false, false, false] #[true, true, true, true, true, true, true, true, true, true, true, true, true, true, true, true, true, true, true, true, false, true, true, false, false, false, false, false, false, false, false, false, false, false, false, false, false] rfl rfl rfl rfl (two_of HT_.out (by kernel_rfl)) (by decide) (by decide) (fun K hK => ?_) (fun K hK => ?_)
                    · skip
                      have hcv63 := (by first | exact own_string (P := Tryd.prog) Tryd.underlying23 Tryd.underlying5 Tryd.underlying9 (Kd.own_of_R HO211.out) | exact V_string (P := Tryd.prog) Tryd.underlying23 Tryd.underlying5 Tryd.underlying9 HO211.out); (try have hcv63s := V_string_s (P := Tryd.prog) Tryd.underlying23 Tryd.underlying5 Tryd.underlying9 HO211.out); (try have hcv63t := V_string_t (P := Tryd.prog) Tryd.underlying23 Tryd.underlying5 Tryd.underlying9 HO211.out); have hcv63d := (by first | exact own_string_d (P := Tryd.prog) Tryd.underlying23 Tryd.underlying5 Tryd.underlying9 HO211.out | exact V_string_d (P := Tryd.prog) Tryd.underlying23 Tryd.underlying5 Tryd.underlying9 HO211.out)
                      refine value_ (w1 := ?_) (v := ?_) (by rfl) rfl ?_ ?_
                      rotate_left 2
                      · go_simp
                        constructor
                        · rfl
                        · rfl
                      clear hcv63
                      refine hK.out _ _ ⟨(blk_cell BK172.out 0).trans rfl, (blk_cell BK172.out 1).trans rfl, (blk_cell BK172.out 2).trans rfl, (blk_cell BK172.out 3).trans rfl, (blk_cell BK172.out 4).trans rfl, (blk_cell BK172.out 5).trans rfl, (blk_cell BK172.out 6).trans rfl, (blk_cell BK172.out 7).trans rfl, (blk_cell BK173.out 0).trans rfl, (blk_cell BK173.out 1).trans rfl, (blk_cell BK173.out 2).trans rfl, (blk_cell BK173.out 3).trans rfl, (blk_cell BK173.out 4).trans rfl, (blk_cell BK173.out 5).trans rfl, (blk_cell BK173.out 6).trans rfl, (blk_cell BK173.out 7).trans rfl, (blk_cell BK190.out 0).trans rfl, (blk_cell BK190.out 1).trans rfl, (blk_cell BK190.out 2).trans rfl, (blk_cell BK190.out 3).trans rfl, (blk_cell BK190.out 4).trans rfl, (blk_cell BK190.out 5).trans rfl, (blk_cell BK190.out 6).trans rfl, (blk_cell BK190.out 7).trans rfl, (blk_cell BK204.out 0).trans rfl, (blk_cell BK204.out 1).trans rfl, (blk_cell BK204.out 2).trans rfl, (blk_cell BK204.out 3).trans rfl, (blk_cell BK204.out 4).trans rfl, (blk_cell BK204.out 5).trans rfl, (blk_cell BK204.out 6).trans rfl, (blk_cell BK204.out 7).trans rfl⟩ (fun hHeld => ?_)
                      clear hK K
                      refine norm_ (a' := ?_) ?_ ?_
                      rotate_left
                      · show Act.put _ (some 57) _ = _
                        simp only [Act.put, List.setIfInBounds_toArray, List.set_cons_zero, List.set_cons_succ, i64_w, i32_w]
                        rfl
                      refine one_ (i := 22) (N := some 59) #[true, true, true, true, true, true, true, true, true, true, true, true, true, true, true, true, true, true, true, true, true, true, true, false, false, false, false, false, false, false, false, false, false, false, false, false, false] rfl rfl (one_of HT_.out (by kernel_rfl)) (by decide) (fun K hK => ?_)
                      refine goes_ Tryd.func18 (by kernel_rfl) rfl #[.agg #[.int .i64 a0_0, .int .i64 a0_1, .int .i64 a0_2, .int .i64 a0_3, .int .i64 a0_4, .int .i64 a0_5, .slice A0_6 l0_6.length c0_6, .slice A0_7 l0_7.length c0_7]] (by rfl) rfl rfl (by (try simp only [List.map_toArray, List.map_cons, List.map_nil]); first | done | rfl | (simp only [List.length_drop, List.length_take]; rfl)) ?_
                      with_reducible refine (precentorref03_Bytes.calls a0_0 a0_1 a0_2 a0_3 a0_4 a0_5 _ _ l0_6 _ _ l0_7 t212 _ ?side1 ?side2 ?side3 ?side4 A37.out).mono ?_
                      (case side1 => repeat (first | exact (Kd.C_below HR0_6.out HB.out) | (with_reducible refine Kd.C_alloc ?_ _) | (with_reducible refine Kd.C_drewN ?_ _) | (with_reducible refine Kd.C_drew ?_)))
                      (case side2 => exact HC0_6.out)
                      (case side3 => repeat (first | exact (Kd.C_below HR0_7.out HB.out) | (with_reducible refine Kd.C_alloc ?_ _) | (with_reducible refine Kd.C_drewN ?_ _) | (with_reducible refine Kd.C_drew ?_)))
                      (case side4 => exact HC0_7.out)
                      rintro e w64 ⟨v213, rfl, ho0, hb⟩
                      refine ⟨_, rfl, ?_⟩
                      have n0_ := Aside0.mk (Kd.R_below (by (with_reducible repeat (first | apply Kd.R_alloc | apply Kd.R_drewN | apply Kd.R_drew)); exact HO185.out) hb)
                      have n1_ := Aside0.mk (Kd.R_elder' (by (with_reducible repeat (first | apply Kd.R_alloc | apply Kd.R_drewN | apply Kd.R_drew)); exact HO188.out) (Kd.R_base ho0) hb)
                      have n2_ := Aside0.mk (Kd.R_below (by (with_reducible repeat (first | apply Kd.R_alloc | apply Kd.R_drewN | apply Kd.R_drew)); exact HO199.out) hb)
                      have n3_ := Aside0.mk (Kd.R_elder' (by (with_reducible repeat (first | apply Kd.R_alloc | apply Kd.R_drewN | apply Kd.R_drew)); exact HO202.out) (Kd.R_base ho0) hb)
                      have n4_ := Aside0.mk (Kd.R_elder' (by (with_reducible repeat (first | apply Kd.R_alloc | apply Kd.R_drewN | apply Kd.R_drew)); exact HO211.out) (Kd.R_base ho0) hb)
                      have n5_ := Aside0.mk (Kd.R_lower (Kd.R_new' (Kd.R_new' (Kd.R_new' ho0 (Kd.R_lt (by (with_reducible repeat (first | apply Kd.R_alloc | apply Kd.R_drewN | apply Kd.R_drew)); exact HO188.out))) (Kd.R_lt (by (with_reducible repeat (first | apply Kd.R_alloc | apply Kd.R_drewN | apply Kd.R_drew)); exact HO202.out))) (Kd.R_lt (by (with_reducible repeat (first | apply Kd.R_alloc | apply Kd.R_drewN | apply Kd.R_drew)); exact HO211.out))) (below_size (by repeat (first | (with_reducible first | exact HB.out | apply below_alloc | apply pw_below_drewN | apply below_drew1 | refine below_set ?_ GE172.out | refine below_set ?_ GE173.out | refine below_set ?_ GE190.out | refine below_set ?_ GE204.out) | exact HB.out))))
                      have n6_ := Aside0.mk (blk_below (g := gb172) (o := .cells #[.int .i64 a0_0, .int .i64 a0_1, .int .i64 a0_2, .int .i64 a0_3, .int .i64 a0_4, .int .i64 a0_5, .slice A0_6 l0_6.length c0_6, .slice A0_7 l0_7.length c0_7] 25 (0, 0)) (by (with_reducible repeat (first | refine blk_drewN ?_ _ | refine blk_drew ?_ | refine blk_alloc ?_ _)); exact BK172.out) hb)
                      have n7_ := Aside0.mk (blk_below (g := gb173) (o := .cells #[.int .i64 a1_0, .int .i64 a1_1, .int .i64 a1_2, .int .i64 a1_3, .int .i64 a1_4, .int .i64 a1_5, .slice A1_6 l1_6.length c1_6, .slice A1_7 l1_7.length c1_7] 25 (0, 0)) (by (with_reducible repeat (first | refine blk_drewN ?_ _ | refine blk_drew ?_ | refine blk_alloc ?_ _)); exact BK173.out) hb)
                      have n8_ := Aside0.mk (blk_below (g := gb190) (o := .cells #[.int .i64 t177, .int .i64 t178, .int .i64 t179, .int .i64 t180, .int .i64 t181, .int .i64 t182, .slice Ao46 t183.length co46, .slice Ao47 t186.length co47] 25 (0, 0)) (by (with_reducible repeat (first | refine blk_drewN ?_ _ | refine blk_drew ?_ | refine blk_alloc ?_ _)); exact BK190.out) hb)
                      have n9_ := Aside0.mk (blk_below (g := gb204) (o := .cells #[.int .i64 t191, .int .i64 t192, .int .i64 t193, .int .i64 t194, .int .i64 t195, .int .i64 t196, .slice Ao54 t197.length co54, .slice Ao55 t200.length co55] 25 (0, 0)) (by (with_reducible repeat (first | refine blk_drewN ?_ _ | refine blk_drew ?_ | refine blk_alloc ?_ _)); exact BK204.out) hb)
                      have n10_ := Aside0.mk (below_step (by repeat (first | (with_reducible first | exact HB.out | apply below_alloc | apply pw_below_drewN | apply below_drew1 | refine below_set ?_ GE172.out | refine below_set ?_ GE173.out | refine below_set ?_ GE190.out | refine below_set ?_ GE204.out) | exact HB.out)) hb)
                      clear HO185
                      clear HO188
                      clear HO199
                      clear HO202
                      clear HO211
                      clear BK172
                      clear BK173
                      clear BK190
                      clear BK204
                      clear HB
                      have HO185 := n0_
                      have HO188 := n1_
                      have HO199 := n2_
                      have HO202 := n3_
                      have HO211 := n4_
                      have HO214 := n5_
                      have BK172 := n6_
                      have BK173 := n7_
                      have BK190 := n8_
                      have BK204 := n9_
                      have HB := n10_
                      clear n0_ n1_ n2_ n3_ n4_ n5_ n6_ n7_ n8_ n9_ n10_
                      (try clear hb)
                      (try clear hb2)
                      (try clear hk)
                      (try clear hi)
                      (try clear ho0)
                      refine hK.out _ _ ⟨(blk_cell BK172.out 0).trans rfl, (blk_cell BK172.out 1).trans rfl, (blk_cell BK172.out 2).trans rfl, (blk_cell BK172.out 3).trans rfl, (blk_cell BK172.out 4).trans rfl, (blk_cell BK172.out 5).trans rfl, (blk_cell BK172.out 6).trans rfl, (blk_cell BK172.out 7).trans rfl, (blk_cell BK173.out 0).trans rfl, (blk_cell BK173.out 1).trans rfl, (blk_cell BK173.out 2).trans rfl, (blk_cell BK173.out 3).trans rfl, (blk_cell BK173.out 4).trans rfl, (blk_cell BK173.out 5).trans rfl, (blk_cell BK173.out 6).trans rfl, (blk_cell BK173.out 7).trans rfl, (blk_cell BK190.out 0).trans rfl, (blk_cell BK190.out 1).trans rfl, (blk_cell BK190.out 2).trans rfl, (blk_cell BK190.out 3).trans rfl, (blk_cell BK190.out 4).trans rfl, (blk_cell BK190.out 5).trans rfl, (blk_cell BK190.out 6).trans rfl, (blk_cell BK190.out 7).trans rfl, (blk_cell BK204.out 0).trans rfl, (blk_cell BK204.out 1).trans rfl, (blk_cell BK204.out 2).trans rfl, (blk_cell BK204.out 3).trans rfl, (blk_cell BK204.out 4).trans rfl, (blk_cell BK204.out 5).trans rfl, (blk_cell BK204.out 6).trans rfl, (blk_cell BK204.out 7).trans rfl⟩ (fun hHeld => ?_)
                      clear hK K
                      refine norm_ (a' := ?_) ?_ ?_
                      rotate_left
                      · show Act.put _ (some 59) _ = _
                        simp only [Act.put, List.setIfInBounds_toArray, List.set_cons_zero, List.set_cons_succ, i64_w, i32_w]
                        rfl
                      refine one_ (i := 23) (N := some 60) #[true, true, true, true, true, true, true, true, true, true, true, true, true, true, true, true, true, true, true, true, true, true, true, true, false, false, false, false, false, false, false, false, false, false, false, false, false] rfl rfl (one_of HT_.out (by kernel_rfl)) (by decide) (fun K hK => ?_)
                      have hcv65 := (by first | exact own_string (P := Tryd.prog) Tryd.underlying23 Tryd.underlying5 Tryd.underlying9 (Kd.own_of_R HO214.out) | exact V_string (P := Tryd.prog) Tryd.underlying23 Tryd.underlying5 Tryd.underlying9 HO214.out); (try have hcv65s := V_string_s (P := Tryd.prog) Tryd.underlying23 Tryd.underlying5 Tryd.underlying9 HO214.out); (try have hcv65t := V_string_t (P := Tryd.prog) Tryd.underlying23 Tryd.underlying5 Tryd.underlying9 HO214.out); have hcv65d := (by first | exact own_string_d (P := Tryd.prog) Tryd.underlying23 Tryd.underlying5 Tryd.underlying9 HO214.out | exact V_string_d (P := Tryd.prog) Tryd.underlying23 Tryd.underlying5 Tryd.underlying9 HO214.out)
                      refine value_ (w1 := ?_) (v := ?_) (by rfl) rfl ?_ ?_
                      rotate_left 2
                      · go_simp
                        constructor
                        · rfl
                        · rfl
                      clear hcv65
                      refine hK.out _ _ ⟨(blk_cell BK172.out 0).trans rfl, (blk_cell BK172.out 1).trans rfl, (blk_cell BK172.out 2).trans rfl, (blk_cell BK172.out 3).trans rfl, (blk_cell BK172.out 4).trans rfl, (blk_cell BK172.out 5).trans rfl, (blk_cell BK172.out 6).trans rfl, (blk_cell BK172.out 7).trans rfl, (blk_cell BK173.out 0).trans rfl, (blk_cell BK173.out 1).trans rfl, (blk_cell BK173.out 2).trans rfl, (blk_cell BK173.out 3).trans rfl, (blk_cell BK173.out 4).trans rfl, (blk_cell BK173.out 5).trans rfl, (blk_cell BK173.out 6).trans rfl, (blk_cell BK173.out 7).trans rfl, (blk_cell BK190.out 0).trans rfl, (blk_cell BK190.out 1).trans rfl, (blk_cell BK190.out 2).trans rfl, (blk_cell BK190.out 3).trans rfl, (blk_cell BK190.out 4).trans rfl, (blk_cell BK190.out 5).trans rfl, (blk_cell BK190.out 6).trans rfl, (blk_cell BK190.out 7).trans rfl, (blk_cell BK204.out 0).trans rfl, (blk_cell BK204.out 1).trans rfl, (blk_cell BK204.out 2).trans rfl, (blk_cell BK204.out 3).trans rfl, (blk_cell BK204.out 4).trans rfl, (blk_cell BK204.out 5).trans rfl, (blk_cell BK204.out 6).trans rfl, (blk_cell BK204.out 7).trans rfl⟩ (fun hHeld => ?_)
                      clear hK K
                      refine norm_ (a' := ?_) ?_ ?_
                      rotate_left
                      · show Act.put _ (some 60) _ = _
                        simp only [Act.put, List.setIfInBounds_toArray, List.set_cons_zero, List.set_cons_succ, i64_w, i32_w]
                        rfl
                      exact norm_ (by simp only [putAll, Act.put, List.setIfInBounds_toArray, List.set_cons_zero, List.set_cons_succ]) (hCont (v213) _ ⟨hHeld, (by (with_reducible repeat (first | apply Kd.R_alloc | apply Kd.R_drewN | apply Kd.R_drew)); exact HO185.out), (by (with_reducible repeat (first | apply Kd.R_alloc | apply Kd.R_drewN | apply Kd.R_drew)); exact Kd.R_mono HO188.out (fun _ hk => ⟨hk.1.1, ⟨hk.1.2, hk.2⟩⟩)), (by (with_reducible repeat (first | apply Kd.R_alloc | apply Kd.R_drewN | apply Kd.R_drew)); exact HO199.out), (by (with_reducible repeat (first | apply Kd.R_alloc | apply Kd.R_drewN | apply Kd.R_drew)); exact Kd.R_mono HO202.out (fun _ hk => ⟨hk.1.1, ⟨hk.1.2, hk.2⟩⟩)), (by (with_reducible repeat (first | apply Kd.R_alloc | apply Kd.R_drewN | apply Kd.R_drew)); exact Kd.R_mono HO211.out (fun _ hk => ⟨hk.1.1.2, ⟨hk.1.2, hk.2⟩⟩)), (by (with_reducible repeat (first | apply Kd.R_alloc | apply Kd.R_drewN | apply Kd.R_drew)); exact Kd.R_mono HO214.out (fun _ hk => ⟨hk.1.1.2, ⟨hk.1.2, hk.2⟩⟩)), (by (with_reducible repeat (first | refine blk_drewN ?_ _ | refine blk_drew ?_ | refine blk_alloc ?_ _)); exact BK172.out), (by (with_reducible repeat (first | refine blk_drewN ?_ _ | refine blk_drew ?_ | refine blk_alloc ?_ _)); exact BK173.out), (by (with_reducible repeat (first | refine blk_drewN ?_ _ | refine blk_drew ?_ | refine blk_alloc ?_ _)); exact BK190.out), (by (with_reducible repeat (first | refine blk_drewN ?_ _ | refine blk_drew ?_ | refine blk_alloc ?_ _)); exact BK204.out), (by repeat (first | (with_reducible first | exact HB.out | apply below_alloc | apply pw_below_drewN | apply below_drew1 | refine below_set ?_ GE172.out | refine below_set ?_ GE173.out | refine below_set ?_ GE190.out | refine below_set ?_ GE204.out) | exact HB.out))⟩)
                    · skip
                      refine goes_ Tryd.func18 (by kernel_rfl) rfl #[.agg #[.int .i64 a0_0, .int .i64 a0_1, .int .i64 a0_2, .int .i64 a0_3, .int .i64 a0_4, .int .i64 a0_5, .slice A0_6 l0_6.length c0_6, .slice A0_7 l0_7.length c0_7]] (by rfl) rfl rfl (by (try simp only [List.map_toArray, List.map_cons, List.map_nil]); first | done | rfl | (simp only [List.length_drop, List.length_take]; rfl)) ?_
                      with_reducible refine (precentorref03_Bytes.calls a0_0 a0_1 a0_2 a0_3 a0_4 a0_5 _ _ l0_6 _ _ l0_7 t212 _ ?side1 ?side2 ?side3 ?side4 A37.out).mono ?_
                      (case side1 => repeat (first | exact (Kd.C_below HR0_6.out HB.out) | (with_reducible refine Kd.C_alloc ?_ _) | (with_reducible refine Kd.C_drewN ?_ _) | (with_reducible refine Kd.C_drew ?_)))
                      (case side2 => exact HC0_6.out)
                      (case side3 => repeat (first | exact (Kd.C_below HR0_7.out HB.out) | (with_reducible refine Kd.C_alloc ?_ _) | (with_reducible refine Kd.C_drewN ?_ _) | (with_reducible refine Kd.C_drew ?_)))
                      (case side4 => exact HC0_7.out)
                      rintro e w63 ⟨v213, rfl, ho0, hb⟩
                      refine ⟨_, rfl, ?_⟩
                      have n0_ := Aside0.mk (Kd.R_below (by (with_reducible repeat (first | apply Kd.R_alloc | apply Kd.R_drewN | apply Kd.R_drew)); exact HO185.out) hb)
                      have n1_ := Aside0.mk (Kd.R_elder' (by (with_reducible repeat (first | apply Kd.R_alloc | apply Kd.R_drewN | apply Kd.R_drew)); exact HO188.out) (Kd.R_base ho0) hb)
                      have n2_ := Aside0.mk (Kd.R_below (by (with_reducible repeat (first | apply Kd.R_alloc | apply Kd.R_drewN | apply Kd.R_drew)); exact HO199.out) hb)
                      have n3_ := Aside0.mk (Kd.R_elder' (by (with_reducible repeat (first | apply Kd.R_alloc | apply Kd.R_drewN | apply Kd.R_drew)); exact HO202.out) (Kd.R_base ho0) hb)
                      have n4_ := Aside0.mk (Kd.R_elder' (by (with_reducible repeat (first | apply Kd.R_alloc | apply Kd.R_drewN | apply Kd.R_drew)); exact HO211.out) (Kd.R_base ho0) hb)
                      have n5_ := Aside0.mk (Kd.R_lower (Kd.R_new' (Kd.R_new' (Kd.R_new' ho0 (Kd.R_lt (by (with_reducible repeat (first | apply Kd.R_alloc | apply Kd.R_drewN | apply Kd.R_drew)); exact HO188.out))) (Kd.R_lt (by (with_reducible repeat (first | apply Kd.R_alloc | apply Kd.R_drewN | apply Kd.R_drew)); exact HO202.out))) (Kd.R_lt (by (with_reducible repeat (first | apply Kd.R_alloc | apply Kd.R_drewN | apply Kd.R_drew)); exact HO211.out))) (below_size (by repeat (first | (with_reducible first | exact HB.out | apply below_alloc | apply pw_below_drewN | apply below_drew1 | refine below_set ?_ GE172.out | refine below_set ?_ GE173.out | refine below_set ?_ GE190.out | refine below_set ?_ GE204.out) | exact HB.out))))
                      have n6_ := Aside0.mk (blk_below (g := gb172) (o := .cells #[.int .i64 a0_0, .int .i64 a0_1, .int .i64 a0_2, .int .i64 a0_3, .int .i64 a0_4, .int .i64 a0_5, .slice A0_6 l0_6.length c0_6, .slice A0_7 l0_7.length c0_7] 25 (0, 0)) (by (with_reducible repeat (first | refine blk_drewN ?_ _ | refine blk_drew ?_ | refine blk_alloc ?_ _)); exact BK172.out) hb)
                      have n7_ := Aside0.mk (blk_below (g := gb173) (o := .cells #[.int .i64 a1_0, .int .i64 a1_1, .int .i64 a1_2, .int .i64 a1_3, .int .i64 a1_4, .int .i64 a1_5, .slice A1_6 l1_6.length c1_6, .slice A1_7 l1_7.length c1_7] 25 (0, 0)) (by (with_reducible repeat (first | refine blk_drewN ?_ _ | refine blk_drew ?_ | refine blk_alloc ?_ _)); exact BK173.out) hb)
                      have n8_ := Aside0.mk (blk_below (g := gb190) (o := .cells #[.int .i64 t177, .int .i64 t178, .int .i64 t179, .int .i64 t180, .int .i64 t181, .int .i64 t182, .slice Ao46 t183.length co46, .slice Ao47 t186.length co47] 25 (0, 0)) (by (with_reducible repeat (first | refine blk_drewN ?_ _ | refine blk_drew ?_ | refine blk_alloc ?_ _)); exact BK190.out) hb)
                      have n9_ := Aside0.mk (blk_below (g := gb204) (o := .cells #[.int .i64 t191, .int .i64 t192, .int .i64 t193, .int .i64 t194, .int .i64 t195, .int .i64 t196, .slice Ao54 t197.length co54, .slice Ao55 t200.length co55] 25 (0, 0)) (by (with_reducible repeat (first | refine blk_drewN ?_ _ | refine blk_drew ?_ | refine blk_alloc ?_ _)); exact BK204.out) hb)
                      have n10_ := Aside0.mk (below_step (by repeat (first | (with_reducible first | exact HB.out | apply below_alloc | apply pw_below_drewN | apply below_drew1 | refine below_set ?_ GE172.out | refine below_set ?_ GE173.out | refine below_set ?_ GE190.out | refine below_set ?_ GE204.out) | exact HB.out)) hb)
                      clear HO185
                      clear HO188
                      clear HO199
                      clear HO202
                      clear HO211
                      clear BK172
                      clear BK173
                      clear BK190
                      clear BK204
                      clear HB
                      have HO185 := n0_
                      have HO188 := n1_
                      have HO199 := n2_
                      have HO202 := n3_
                      have HO211 := n4_
                      have HO214 := n5_
                      have BK172 := n6_
                      have BK173 := n7_
                      have BK190 := n8_
                      have BK204 := n9_
                      have HB := n10_
                      clear n0_ n1_ n2_ n3_ n4_ n5_ n6_ n7_ n8_ n9_ n10_
                      (try clear hb)
                      (try clear hb2)
                      (try clear hk)
                      (try clear hi)
                      (try clear ho0)
                      refine hK.out _ _ ⟨(blk_cell BK172.out 0).trans rfl, (blk_cell BK172.out 1).trans rfl, (blk_cell BK172.out 2).trans rfl, (blk_cell BK172.out 3).trans rfl, (blk_cell BK172.out 4).trans rfl, (blk_cell BK172.out 5).trans rfl, (blk_cell BK172.out 6).trans rfl, (blk_cell BK172.out 7).trans rfl, (blk_cell BK173.out 0).trans rfl, (blk_cell BK173.out 1).trans rfl, (blk_cell BK173.out 2).trans rfl, (blk_cell BK173.out 3).trans rfl, (blk_cell BK173.out 4).trans rfl, (blk_cell BK173.out 5).trans rfl, (blk_cell BK173.out 6).trans rfl, (blk_cell BK173.out 7).trans rfl, (blk_cell BK190.out 0).trans rfl, (blk_cell BK190.out 1).trans rfl, (blk_cell BK190.out 2).trans rfl, (blk_cell BK190.out 3).trans rfl, (blk_cell BK190.out 4).trans rfl, (blk_cell BK190.out 5).trans rfl, (blk_cell BK190.out 6).trans rfl, (blk_cell BK190.out 7).trans rfl, (blk_cell BK204.out 0).trans rfl, (blk_cell BK204.out 1).trans rfl, (blk_cell BK204.out 2).trans rfl, (blk_cell BK204.out 3).trans rfl, (blk_cell BK204.out 4).trans rfl, (blk_cell BK204.out 5).trans rfl, (blk_cell BK204.out 6).trans rfl, (blk_cell BK204.out 7).trans rfl⟩ (fun hHeld => ?_)
                      clear hK K
                      refine norm_ (a' := ?_) ?_ ?_
                      rotate_left
                      · show Act.put _ (some 59) _ = _
                        simp only [Act.put, List.setIfInBounds_toArray, List.set_cons_zero, List.set_cons_succ, i64_w, i32_w]
                        rfl
                      refine two_ (i := 20) (j := 23) (Ni := some 57) (Nj := some 60) #[true, true, true, true, true, true, true, true, true, true, true, true, true, true, true, true, true, true, true, true, true, true, true, false, false, false, false, false, false, false, false, false, false, false, false, false, false] #[true, true, true, true, true, true, true, true, true, true, true, true, true, true, true, true, true, true, true, true, false, true, true, true, false, false, false, false, false, false, false, false, false, false, false, false, false] rfl rfl rfl rfl (two_of HT_.out (by kernel_rfl)) (by decide) (by decide) (fun K hK => ?_) (fun K hK => ?_)
                      · skip
                        have hcv64 := (by first | exact own_string (P := Tryd.prog) Tryd.underlying23 Tryd.underlying5 Tryd.underlying9 (Kd.own_of_R HO211.out) | exact V_string (P := Tryd.prog) Tryd.underlying23 Tryd.underlying5 Tryd.underlying9 HO211.out); (try have hcv64s := V_string_s (P := Tryd.prog) Tryd.underlying23 Tryd.underlying5 Tryd.underlying9 HO211.out); (try have hcv64t := V_string_t (P := Tryd.prog) Tryd.underlying23 Tryd.underlying5 Tryd.underlying9 HO211.out); have hcv64d := (by first | exact own_string_d (P := Tryd.prog) Tryd.underlying23 Tryd.underlying5 Tryd.underlying9 HO211.out | exact V_string_d (P := Tryd.prog) Tryd.underlying23 Tryd.underlying5 Tryd.underlying9 HO211.out)
                        refine value_ (w1 := ?_) (v := ?_) (by rfl) rfl ?_ ?_
                        rotate_left 2
                        · go_simp
                          constructor
                          · rfl
                          · rfl
                        clear hcv64
                        refine hK.out _ _ ⟨(blk_cell BK172.out 0).trans rfl, (blk_cell BK172.out 1).trans rfl, (blk_cell BK172.out 2).trans rfl, (blk_cell BK172.out 3).trans rfl, (blk_cell BK172.out 4).trans rfl, (blk_cell BK172.out 5).trans rfl, (blk_cell BK172.out 6).trans rfl, (blk_cell BK172.out 7).trans rfl, (blk_cell BK173.out 0).trans rfl, (blk_cell BK173.out 1).trans rfl, (blk_cell BK173.out 2).trans rfl, (blk_cell BK173.out 3).trans rfl, (blk_cell BK173.out 4).trans rfl, (blk_cell BK173.out 5).trans rfl, (blk_cell BK173.out 6).trans rfl, (blk_cell BK173.out 7).trans rfl, (blk_cell BK190.out 0).trans rfl, (blk_cell BK190.out 1).trans rfl, (blk_cell BK190.out 2).trans rfl, (blk_cell BK190.out 3).trans rfl, (blk_cell BK190.out 4).trans rfl, (blk_cell BK190.out 5).trans rfl, (blk_cell BK190.out 6).trans rfl, (blk_cell BK190.out 7).trans rfl, (blk_cell BK204.out 0).trans rfl, (blk_cell BK204.out 1).trans rfl, (blk_cell BK204.out 2).trans rfl, (blk_cell BK204.out 3).trans rfl, (blk_cell BK204.out 4).trans rfl, (blk_cell BK204.out 5).trans rfl, (blk_cell BK204.out 6).trans rfl, (blk_cell BK204.out 7).trans rfl⟩ (fun hHeld => ?_)
                        clear hK K
                        refine norm_ (a' := ?_) ?_ ?_
                        rotate_left
                        · show Act.put _ (some 57) _ = _
                          simp only [Act.put, List.setIfInBounds_toArray, List.set_cons_zero, List.set_cons_succ, i64_w, i32_w]
                          rfl
                        refine one_ (i := 23) (N := some 60) #[true, true, true, true, true, true, true, true, true, true, true, true, true, true, true, true, true, true, true, true, true, true, true, true, false, false, false, false, false, false, false, false, false, false, false, false, false] rfl rfl (one_of HT_.out (by kernel_rfl)) (by decide) (fun K hK => ?_)
                        have hcv65 := (by first | exact own_string (P := Tryd.prog) Tryd.underlying23 Tryd.underlying5 Tryd.underlying9 (Kd.own_of_R HO214.out) | exact V_string (P := Tryd.prog) Tryd.underlying23 Tryd.underlying5 Tryd.underlying9 HO214.out); (try have hcv65s := V_string_s (P := Tryd.prog) Tryd.underlying23 Tryd.underlying5 Tryd.underlying9 HO214.out); (try have hcv65t := V_string_t (P := Tryd.prog) Tryd.underlying23 Tryd.underlying5 Tryd.underlying9 HO214.out); have hcv65d := (by first | exact own_string_d (P := Tryd.prog) Tryd.underlying23 Tryd.underlying5 Tryd.underlying9 HO214.out | exact V_string_d (P := Tryd.prog) Tryd.underlying23 Tryd.underlying5 Tryd.underlying9 HO214.out)
                        refine value_ (w1 := ?_) (v := ?_) (by rfl) rfl ?_ ?_
                        rotate_left 2
                        · go_simp
                          constructor
                          · rfl
                          · rfl
                        clear hcv65
                        refine hK.out _ _ ⟨(blk_cell BK172.out 0).trans rfl, (blk_cell BK172.out 1).trans rfl, (blk_cell BK172.out 2).trans rfl, (blk_cell BK172.out 3).trans rfl, (blk_cell BK172.out 4).trans rfl, (blk_cell BK172.out 5).trans rfl, (blk_cell BK172.out 6).trans rfl, (blk_cell BK172.out 7).trans rfl, (blk_cell BK173.out 0).trans rfl, (blk_cell BK173.out 1).trans rfl, (blk_cell BK173.out 2).trans rfl, (blk_cell BK173.out 3).trans rfl, (blk_cell BK173.out 4).trans rfl, (blk_cell BK173.out 5).trans rfl, (blk_cell BK173.out 6).trans rfl, (blk_cell BK173.out 7).trans rfl, (blk_cell BK190.out 0).trans rfl, (blk_cell BK190.out 1).trans rfl, (blk_cell BK190.out 2).trans rfl, (blk_cell BK190.out 3).trans rfl, (blk_cell BK190.out 4).trans rfl, (blk_cell BK190.out 5).trans rfl, (blk_cell BK190.out 6).trans rfl, (blk_cell BK190.out 7).trans rfl, (blk_cell BK204.out 0).trans rfl, (blk_cell BK204.out 1).trans rfl, (blk_cell BK204.out 2).trans rfl, (blk_cell BK204.out 3).trans rfl, (blk_cell BK204.out 4).trans rfl, (blk_cell BK204.out 5).trans rfl, (blk_cell BK204.out 6).trans rfl, (blk_cell BK204.out 7).trans rfl⟩ (fun hHeld => ?_)
                        clear hK K
                        refine norm_ (a' := ?_) ?_ ?_
                        rotate_left
                        · show Act.put _ (some 60) _ = _
                          simp only [Act.put, List.setIfInBounds_toArray, List.set_cons_zero, List.set_cons_succ, i64_w, i32_w]
                          rfl
                        exact norm_ (by simp only [putAll, Act.put, List.setIfInBounds_toArray, List.set_cons_zero, List.set_cons_succ]) (hCont (v213) _ ⟨hHeld, (by (with_reducible repeat (first | apply Kd.R_alloc | apply Kd.R_drewN | apply Kd.R_drew)); exact HO185.out), (by (with_reducible repeat (first | apply Kd.R_alloc | apply Kd.R_drewN | apply Kd.R_drew)); exact Kd.R_mono HO188.out (fun _ hk => ⟨hk.1.1, ⟨hk.1.2, hk.2⟩⟩)), (by (with_reducible repeat (first | apply Kd.R_alloc | apply Kd.R_drewN | apply Kd.R_drew)); exact HO199.out), (by (with_reducible repeat (first | apply Kd.R_alloc | apply Kd.R_drewN | apply Kd.R_drew)); exact Kd.R_mono HO202.out (fun _ hk => ⟨hk.1.1, ⟨hk.1.2, hk.2⟩⟩)), (by (with_reducible repeat (first | apply Kd.R_alloc | apply Kd.R_drewN | apply Kd.R_drew)); exact Kd.R_mono HO211.out (fun _ hk => ⟨hk.1.1.2, ⟨hk.1.2, hk.2⟩⟩)), (by (with_reducible repeat (first | apply Kd.R_alloc | apply Kd.R_drewN | apply Kd.R_drew)); exact Kd.R_mono HO214.out (fun _ hk => ⟨hk.1.1.2, ⟨hk.1.2, hk.2⟩⟩)), (by (with_reducible repeat (first | refine blk_drewN ?_ _ | refine blk_drew ?_ | refine blk_alloc ?_ _)); exact BK172.out), (by (with_reducible repeat (first | refine blk_drewN ?_ _ | refine blk_drew ?_ | refine blk_alloc ?_ _)); exact BK173.out), (by (with_reducible repeat (first | refine blk_drewN ?_ _ | refine blk_drew ?_ | refine blk_alloc ?_ _)); exact BK190.out), (by (with_reducible repeat (first | refine blk_drewN ?_ _ | refine blk_drew ?_ | refine blk_alloc ?_ _)); exact BK204.out), (by repeat (first | (with_reducible first | exact HB.out | apply below_alloc | apply pw_below_drewN | apply below_drew1 | refine below_set ?_ GE172.out | refine below_set ?_ GE173.out | refine below_set ?_ GE190.out | refine below_set ?_ GE204.out) | exact HB.out))⟩)
                      · skip
                        have hcv64 := (by first | exact own_string (P := Tryd.prog) Tryd.underlying23 Tryd.underlying5 Tryd.underlying9 (Kd.own_of_R HO214.out) | exact V_string (P := Tryd.prog) Tryd.underlying23 Tryd.underlying5 Tryd.underlying9 HO214.out); (try have hcv64s := V_string_s (P := Tryd.prog) Tryd.underlying23 Tryd.underlying5 Tryd.underlying9 HO214.out); (try have hcv64t := V_string_t (P := Tryd.prog) Tryd.underlying23 Tryd.underlying5 Tryd.underlying9 HO214.out); have hcv64d := (by first | exact own_string_d (P := Tryd.prog) Tryd.underlying23 Tryd.underlying5 Tryd.underlying9 HO214.out | exact V_string_d (P := Tryd.prog) Tryd.underlying23 Tryd.underlying5 Tryd.underlying9 HO214.out)
                        refine value_ (w1 := ?_) (v := ?_) (by rfl) rfl ?_ ?_
                        rotate_left 2
                        · go_simp
                          constructor
                          · rfl
                          · rfl
                        clear hcv64
                        refine hK.out _ _ ⟨(blk_cell BK172.out 0).trans rfl, (blk_cell BK172.out 1).trans rfl, (blk_cell BK172.out 2).trans rfl, (blk_cell BK172.out 3).trans rfl, (blk_cell BK172.out 4).trans rfl, (blk_cell BK172.out 5).trans rfl, (blk_cell BK172.out 6).trans rfl, (blk_cell BK172.out 7).trans rfl, (blk_cell BK173.out 0).trans rfl, (blk_cell BK173.out 1).trans rfl, (blk_cell BK173.out 2).trans rfl, (blk_cell BK173.out 3).trans rfl, (blk_cell BK173.out 4).trans rfl, (blk_cell BK173.out 5).trans rfl, (blk_cell BK173.out 6).trans rfl, (blk_cell BK173.out 7).trans rfl, (blk_cell BK190.out 0).trans rfl, (blk_cell BK190.out 1).trans rfl, (blk_cell BK190.out 2).trans rfl, (blk_cell BK190.out 3).trans rfl, (blk_cell BK190.out 4).trans rfl, (blk_cell BK190.out 5).trans rfl, (blk_cell BK190.out 6).trans rfl, (blk_cell BK190.out 7).trans rfl, (blk_cell BK204.out 0).trans rfl, (blk_cell BK204.out 1).trans rfl, (blk_cell BK204.out 2).trans rfl, (blk_cell BK204.out 3).trans rfl, (blk_cell BK204.out 4).trans rfl, (blk_cell BK204.out 5).trans rfl, (blk_cell BK204.out 6).trans rfl, (blk_cell BK204.out 7).trans rfl⟩ (fun hHeld => ?_)
                        clear hK K
                        refine norm_ (a' := ?_) ?_ ?_
                        rotate_left
                        · show Act.put _ (some 60) _ = _
                          simp only [Act.put, List.setIfInBounds_toArray, List.set_cons_zero, List.set_cons_succ, i64_w, i32_w]
                          rfl
                        refine one_ (i := 20) (N := some 57) #[true, true, true, true, true, true, true, true, true, true, true, true, true, true, true, true, true, true, true, true, true, true, true, true, false, false, false, false, false, false, false, false, false, false, false, false, false] rfl rfl (one_of HT_.out (by kernel_rfl)) (by decide) (fun K hK => ?_)
                        have hcv65 := (by first | exact own_string (P := Tryd.prog) Tryd.underlying23 Tryd.underlying5 Tryd.underlying9 (Kd.own_of_R HO211.out) | exact V_string (P := Tryd.prog) Tryd.underlying23 Tryd.underlying5 Tryd.underlying9 HO211.out); (try have hcv65s := V_string_s (P := Tryd.prog) Tryd.underlying23 Tryd.underlying5 Tryd.underlying9 HO211.out); (try have hcv65t := V_string_t (P := Tryd.prog) Tryd.underlying23 Tryd.underlying5 Tryd.underlying9 HO211.out); have hcv65d := (by first | exact own_string_d (P := Tryd.prog) Tryd.underlying23 Tryd.underlying5 Tryd.underlying9 HO211.out | exact V_string_d (P := Tryd.prog) Tryd.underlying23 Tryd.underlying5 Tryd.underlying9 HO211.out)
                        refine value_ (w1 := ?_) (v := ?_) (by rfl) rfl ?_ ?_
                        rotate_left 2
                        · go_simp
                          constructor
                          · rfl
                          · rfl
                        clear hcv65
                        refine hK.out _ _ ⟨(blk_cell BK172.out 0).trans rfl, (blk_cell BK172.out 1).trans rfl, (blk_cell BK172.out 2).trans rfl, (blk_cell BK172.out 3).trans rfl, (blk_cell BK172.out 4).trans rfl, (blk_cell BK172.out 5).trans rfl, (blk_cell BK172.out 6).trans rfl, (blk_cell BK172.out 7).trans rfl, (blk_cell BK173.out 0).trans rfl, (blk_cell BK173.out 1).trans rfl, (blk_cell BK173.out 2).trans rfl, (blk_cell BK173.out 3).trans rfl, (blk_cell BK173.out 4).trans rfl, (blk_cell BK173.out 5).trans rfl, (blk_cell BK173.out 6).trans rfl, (blk_cell BK173.out 7).trans rfl, (blk_cell BK190.out 0).trans rfl, (blk_cell BK190.out 1).trans rfl, (blk_cell BK190.out 2).trans rfl, (blk_cell BK190.out 3).trans rfl, (blk_cell BK190.out 4).trans rfl, (blk_cell BK190.out 5).trans rfl, (blk_cell BK190.out 6).trans rfl, (blk_cell BK190.out 7).trans rfl, (blk_cell BK204.out 0).trans rfl, (blk_cell BK204.out 1).trans rfl, (blk_cell BK204.out 2).trans rfl, (blk_cell BK204.out 3).trans rfl, (blk_cell BK204.out 4).trans rfl, (blk_cell BK204.out 5).trans rfl, (blk_cell BK204.out 6).trans rfl, (blk_cell BK204.out 7).trans rfl⟩ (fun hHeld => ?_)
                        clear hK K
                        refine norm_ (a' := ?_) ?_ ?_
                        rotate_left
                        · show Act.put _ (some 57) _ = _
                          simp only [Act.put, List.setIfInBounds_toArray, List.set_cons_zero, List.set_cons_succ, i64_w, i32_w]
                          rfl
                        exact norm_ (by simp only [putAll, Act.put, List.setIfInBounds_toArray, List.set_cons_zero, List.set_cons_succ]) (hCont (v213) _ ⟨hHeld, (by (with_reducible repeat (first | apply Kd.R_alloc | apply Kd.R_drewN | apply Kd.R_drew)); exact HO185.out), (by (with_reducible repeat (first | apply Kd.R_alloc | apply Kd.R_drewN | apply Kd.R_drew)); exact Kd.R_mono HO188.out (fun _ hk => ⟨hk.1.1, ⟨hk.1.2, hk.2⟩⟩)), (by (with_reducible repeat (first | apply Kd.R_alloc | apply Kd.R_drewN | apply Kd.R_drew)); exact HO199.out), (by (with_reducible repeat (first | apply Kd.R_alloc | apply Kd.R_drewN | apply Kd.R_drew)); exact Kd.R_mono HO202.out (fun _ hk => ⟨hk.1.1, ⟨hk.1.2, hk.2⟩⟩)), (by (with_reducible repeat (first | apply Kd.R_alloc | apply Kd.R_drewN | apply Kd.R_drew)); exact Kd.R_mono HO211.out (fun _ hk => ⟨hk.1.1.2, ⟨hk.1.2, hk.2⟩⟩)), (by (with_reducible repeat (first | apply Kd.R_alloc | apply Kd.R_drewN | apply Kd.R_drew)); exact Kd.R_mono HO214.out (fun _ hk => ⟨hk.1.1.2, ⟨hk.1.2, hk.2⟩⟩)), (by (with_reducible repeat (first | refine blk_drewN ?_ _ | refine blk_drew ?_ | refine blk_alloc ?_ _)); exact BK172.out), (by (with_reducible repeat (first | refine blk_drewN ?_ _ | refine blk_drew ?_ | refine blk_alloc ?_ _)); exact BK173.out), (by (with_reducible repeat (first | refine blk_drewN ?_ _ | refine blk_drew ?_ | refine blk_alloc ?_ _)); exact BK190.out), (by (with_reducible repeat (first | refine blk_drewN ?_ _ | refine blk_drew ?_ | refine blk_alloc ?_ _)); exact BK204.out), (by repeat (first | (with_reducible first | exact HB.out | apply below_alloc | apply pw_below_drewN | apply below_drew1 | refine below_set ?_ GE172.out | refine below_set ?_ GE173.out | refine below_set ?_ GE190.out | refine below_set ?_ GE204.out) | exact HB.out))⟩)
                  rintro v213 w66 ⟨hS_, h0_, h1_, h2_, h3_, h4_, h5_, h6_, h7_, h8_, h9_, h10_⟩
                  have n0_ : Aside0 (Kd.R (Kd.int .i64) 3 w66 w.heap.size (fun k_ => some k_ ≠ (.slice Ao54 t197.length co54 : Value).ownBlock) (.slice Ao46 t183.length co46) t183) := ⟨h0_⟩
                  have n1_ : Aside0 (Kd.R (Kd.int .u8) 5 w66 w.heap.size (fun k_ => some k_ ≠ (.slice Ao55 t200.length co55 : Value).ownBlock ∧ some k_ ≠ (v210 : Value).ownBlock ∧ some k_ ≠ (v213 : Value).ownBlock) (.slice Ao47 t186.length co47) t186) := ⟨h1_⟩
                  have n2_ : Aside0 (Kd.R (Kd.int .i64) 3 w66 w.heap.size (fun k_ => some k_ ≠ (.slice Ao46 t183.length co46 : Value).ownBlock) (.slice Ao54 t197.length co54) t197) := ⟨h2_⟩
                  have n3_ : Aside0 (Kd.R (Kd.int .u8) 5 w66 w.heap.size (fun k_ => some k_ ≠ (.slice Ao47 t186.length co47 : Value).ownBlock ∧ some k_ ≠ (v210 : Value).ownBlock ∧ some k_ ≠ (v213 : Value).ownBlock) (.slice Ao55 t200.length co55) t200) := ⟨h3_⟩
                  have n4_ : Aside0 (Kd.R (Kd.int .u8) 5 w66 w.heap.size (fun k_ => some k_ ≠ (.slice Ao47 t186.length co47 : Value).ownBlock ∧ some k_ ≠ (.slice Ao55 t200.length co55 : Value).ownBlock ∧ some k_ ≠ (v213 : Value).ownBlock) v210 t209) := ⟨h4_⟩
                  have n5_ : Aside0 (Kd.R (Kd.int .u8) 5 w66 w.heap.size (fun k_ => some k_ ≠ (.slice Ao47 t186.length co47 : Value).ownBlock ∧ some k_ ≠ (.slice Ao55 t200.length co55 : Value).ownBlock ∧ some k_ ≠ (v210 : Value).ownBlock) v213 t212) := ⟨h5_⟩
                  have n6_ : Aside0 (w66.heap[gb172]? = some (.cells #[.int .i64 a0_0, .int .i64 a0_1, .int .i64 a0_2, .int .i64 a0_3, .int .i64 a0_4, .int .i64 a0_5, .slice A0_6 l0_6.length c0_6, .slice A0_7 l0_7.length c0_7] 25 (0, 0))) := ⟨h6_⟩
                  have n7_ : Aside0 (w66.heap[gb173]? = some (.cells #[.int .i64 a1_0, .int .i64 a1_1, .int .i64 a1_2, .int .i64 a1_3, .int .i64 a1_4, .int .i64 a1_5, .slice A1_6 l1_6.length c1_6, .slice A1_7 l1_7.length c1_7] 25 (0, 0))) := ⟨h7_⟩
                  have n8_ : Aside0 (w66.heap[gb190]? = some (.cells #[.int .i64 t177, .int .i64 t178, .int .i64 t179, .int .i64 t180, .int .i64 t181, .int .i64 t182, .slice Ao46 t183.length co46, .slice Ao47 t186.length co47] 25 (0, 0))) := ⟨h8_⟩
                  have n9_ : Aside0 (w66.heap[gb204]? = some (.cells #[.int .i64 t191, .int .i64 t192, .int .i64 t193, .int .i64 t194, .int .i64 t195, .int .i64 t196, .slice Ao54 t197.length co54, .slice Ao55 t200.length co55] 25 (0, 0))) := ⟨h9_⟩
                  have n10_ : Aside0 (Below w.heap.size w w66) := ⟨h10_⟩
                  clear HO185
                  clear HO188
                  clear HO199
                  clear HO202
                  clear BK172
                  clear BK173
                  clear BK190
                  clear BK204
                  clear HB
                  clear h0_ h1_ h2_ h3_ h4_ h5_ h6_ h7_ h8_ h9_ h10_
                  have HO185 := n0_
                  have HO188 := n1_
                  have HO199 := n2_
                  have HO202 := n3_
                  have HO211 := n4_
                  have HO214 := n5_
                  have BK172 := n6_
                  have BK173 := n7_
                  have BK190 := n8_
                  have BK204 := n9_
                  have HB := n10_
                  clear n0_ n1_ n2_ n3_ n4_ n5_ n6_ n7_ n8_ n9_ n10_
                  have hHeld : w66.cell? ⟨gb172, 0, none⟩ = some (.int .i64 a0_0) ∧ w66.cell? ⟨gb172, 1, none⟩ = some (.int .i64 a0_1) ∧ w66.cell? ⟨gb172, 2, none⟩ = some (.int .i64 a0_2) ∧ w66.cell? ⟨gb172, 3, none⟩ = some (.int .i64 a0_3) ∧ w66.cell? ⟨gb172, 4, none⟩ = some (.int .i64 a0_4) ∧ w66.cell? ⟨gb172, 5, none⟩ = some (.int .i64 a0_5) ∧ w66.cell? ⟨gb172, 6, none⟩ = some (.slice A0_6 l0_6.length c0_6) ∧ w66.cell? ⟨gb172, 7, none⟩ = some (.slice A0_7 l0_7.length c0_7) ∧ w66.cell? ⟨gb173, 0, none⟩ = some (.int .i64 a1_0) ∧ w66.cell? ⟨gb173, 1, none⟩ = some (.int .i64 a1_1) ∧ w66.cell? ⟨gb173, 2, none⟩ = some (.int .i64 a1_2) ∧ w66.cell? ⟨gb173, 3, none⟩ = some (.int .i64 a1_3) ∧ w66.cell? ⟨gb173, 4, none⟩ = some (.int .i64 a1_4) ∧ w66.cell? ⟨gb173, 5, none⟩ = some (.int .i64 a1_5) ∧ w66.cell? ⟨gb173, 6, none⟩ = some (.slice A1_6 l1_6.length c1_6) ∧ w66.cell? ⟨gb173, 7, none⟩ = some (.slice A1_7 l1_7.length c1_7) ∧ w66.cell? ⟨gb190, 0, none⟩ = some (.int .i64 t177) ∧ w66.cell? ⟨gb190, 1, none⟩ = some (.int .i64 t178) ∧ w66.cell? ⟨gb190, 2, none⟩ = some (.int .i64 t179) ∧ w66.cell? ⟨gb190, 3, none⟩ = some (.int .i64 t180) ∧ w66.cell? ⟨gb190, 4, none⟩ = some (.int .i64 t181) ∧ w66.cell? ⟨gb190, 5, none⟩ = some (.int .i64 t182) ∧ w66.cell? ⟨gb190, 6, none⟩ = some (.slice Ao46 t183.length co46) ∧ w66.cell? ⟨gb190, 7, none⟩ = some (.slice Ao47 t186.length co47) ∧ w66.cell? ⟨gb204, 0, none⟩ = some (.int .i64 t191) ∧ w66.cell? ⟨gb204, 1, none⟩ = some (.int .i64 t192) ∧ w66.cell? ⟨gb204, 2, none⟩ = some (.int .i64 t193) ∧ w66.cell? ⟨gb204, 3, none⟩ = some (.int .i64 t194) ∧ w66.cell? ⟨gb204, 4, none⟩ = some (.int .i64 t195) ∧ w66.cell? ⟨gb204, 5, none⟩ = some (.int .i64 t196) ∧ w66.cell? ⟨gb204, 6, none⟩ = some (.slice Ao54 t197.length co54) ∧ w66.cell? ⟨gb204, 7, none⟩ = some (.slice Ao55 t200.length co55) := hS_
                  refine norm_ (a' := ?_) ?_ ?_
                  rotate_left
                  · simp only [putAll, Act.put, List.setIfInBounds_toArray, List.set_cons_zero, List.set_cons_succ, c32b0, c35b0, c38b0, c38b1]
                    rfl
                  refine pure_ (i := 24) (N := some 61) (v := ?_) (a' := ?_) #[true, true, true, true, true, true, true, true, true, true, true, true, true, true, true, true, true, true, true, true, true, true, true, true, true, false, false, false, false, false, false, false, false, false, false, false, false] rfl rfl (any_of HT_.out (by kernel_rfl)) (fun _ _ _ h => h) (Or.inl ⟨by rfl, ?_⟩) ?_ ?_
                  rotate_left
                  · intro w'
                    go_simp
                    with_reducible rfl
                  rotate_left
                  · simp only [Act.put, List.setIfInBounds_toArray, List.set_cons_zero, List.set_cons_succ, i64_w, i32_w]
                    rfl
                  refine pure_ (i := 25) (N := some 62) (v := ?_) (a' := ?_) #[true, true, true, true, true, true, true, true, true, true, true, true, true, true, true, true, true, true, true, true, true, true, true, true, true, true, false, false, false, false, false, false, false, false, false, false, false] rfl rfl (any_of HT_.out (by kernel_rfl)) (fun _ _ _ h => h) (Or.inl ⟨by rfl, ?_⟩) ?_ ?_
                  rotate_left
                  · intro w'
                    go_simp
                    with_reducible rfl
                  rotate_left
                  · simp only [Act.put, List.setIfInBounds_toArray, List.set_cons_zero, List.set_cons_succ, i64_w, i32_w]
                    rfl
                  refine pure_ (i := 26) (N := some 63) (v := ?_) (a' := ?_) #[true, true, true, true, true, true, true, true, true, true, true, true, true, true, true, true, true, true, true, true, true, true, true, true, true, true, true, false, false, false, false, false, false, false, false, false, false] rfl rfl (any_of HT_.out (by kernel_rfl)) (fun _ _ _ h => h) (Or.inl ⟨by rfl, ?_⟩) ?_ ?_
                  rotate_left
                  · intro w'
                    go_simp
                    with_reducible rfl
                  rotate_left
                  · simp only [Act.put, List.setIfInBounds_toArray, List.set_cons_zero, List.set_cons_succ, i64_w, i32_w]
                    rfl
                  refine take_ (i := 27) (N := some 64) (v := ?_) (a' := ?_) #[true, true, true, true, true, true, true, true, true, true, true, true, true, true, true, true, true, true, true, true, true, true, true, true, true, true, true, true, false, false, false, false, false, false, false, false, false] rfl rfl (take_ofW HT_.out HW_.out (by kernel_rfl)) (fun _ _ _ h => h) (Or.inl ⟨by rfl, ?_⟩) hHeld ?_ ?_
                  rotate_left
                  · rintro w' ⟨s0, s1, s2, s3, s4, s5, s6, s7, s8, s9, s10, s11, s12, s13, s14, s15, s16, s17, s18, s19, s20, s21, s22, s23, s24, s25, s26, s27, s28, s29, s30, s31⟩
                    try rw [List.length_drop] at s0
                    try rw [List.length_drop] at s1
                    try rw [List.length_drop] at s2
                    try rw [List.length_drop] at s3
                    try rw [List.length_drop] at s4
                    try rw [List.length_drop] at s5
                    try rw [List.length_drop] at s6
                    try rw [List.length_drop] at s7
                    try rw [List.length_drop] at s8
                    try rw [List.length_drop] at s9
                    try rw [List.length_drop] at s10
                    try rw [List.length_drop] at s11
                    try rw [List.length_drop] at s12
                    try rw [List.length_drop] at s13
                    try rw [List.length_drop] at s14
                    try rw [List.length_drop] at s15
                    try rw [List.length_drop] at s16
                    try rw [List.length_drop] at s17
                    try rw [List.length_drop] at s18
                    try rw [List.length_drop] at s19
                    try rw [List.length_drop] at s20
                    try rw [List.length_drop] at s21
                    try rw [List.length_drop] at s22
                    try rw [List.length_drop] at s23
                    try rw [List.length_drop] at s24
                    try rw [List.length_drop] at s25
                    try rw [List.length_drop] at s26
                    try rw [List.length_drop] at s27
                    try rw [List.length_drop] at s28
                    try rw [List.length_drop] at s29
                    try rw [List.length_drop] at s30
                    try rw [List.length_drop] at s31
                    go_simp
                    with_reducible rfl
                  rotate_left
                  · simp only [Act.put, List.setIfInBounds_toArray, List.set_cons_zero, List.set_cons_succ, i64_w, i32_w]
                    rfl
                  refine take_ (i := 28) (N := some 65) (v := ?_) (a' := ?_) #[true, true, true, true, true, true, true, true, true, true, true, true, true, true, true, true, true, true, true, true, true, true, true, true, true, true, true, true, true, false, false, false, false, false, false, false, false] rfl rfl (take_ofW HT_.out HW_.out (by kernel_rfl)) (fun _ _ _ h => h) (Or.inl ⟨by rfl, ?_⟩) hHeld ?_ ?_
                  rotate_left
                  · rintro w' ⟨s0, s1, s2, s3, s4, s5, s6, s7, s8, s9, s10, s11, s12, s13, s14, s15, s16, s17, s18, s19, s20, s21, s22, s23, s24, s25, s26, s27, s28, s29, s30, s31⟩
                    try rw [List.length_drop] at s0
                    try rw [List.length_drop] at s1
                    try rw [List.length_drop] at s2
                    try rw [List.length_drop] at s3
                    try rw [List.length_drop] at s4
                    try rw [List.length_drop] at s5
                    try rw [List.length_drop] at s6
                    try rw [List.length_drop] at s7
                    try rw [List.length_drop] at s8
                    try rw [List.length_drop] at s9
                    try rw [List.length_drop] at s10
                    try rw [List.length_drop] at s11
                    try rw [List.length_drop] at s12
                    try rw [List.length_drop] at s13
                    try rw [List.length_drop] at s14
                    try rw [List.length_drop] at s15
                    try rw [List.length_drop] at s16
                    try rw [List.length_drop] at s17
                    try rw [List.length_drop] at s18
                    try rw [List.length_drop] at s19
                    try rw [List.length_drop] at s20
                    try rw [List.length_drop] at s21
                    try rw [List.length_drop] at s22
                    try rw [List.length_drop] at s23
                    try rw [List.length_drop] at s24
                    try rw [List.length_drop] at s25
                    try rw [List.length_drop] at s26
                    try rw [List.length_drop] at s27
                    try rw [List.length_drop] at s28
                    try rw [List.length_drop] at s29
                    try rw [List.length_drop] at s30
                    try rw [List.length_drop] at s31
                    go_simp
                    with_reducible rfl
                  rotate_left
                  · simp only [Act.put, List.setIfInBounds_toArray, List.set_cons_zero, List.set_cons_succ, i64_w, i32_w]
                    rfl
                  refine one_ (i := 29) (N := some 66) #[true, true, true, true, true, true, true, true, true, true, true, true, true, true, true, true, true, true, true, true, true, true, true, true, true, true, true, true, true, true, false, false, false, false, false, false, false] rfl rfl (one_of HT_.out (by kernel_rfl)) (by decide) (fun K hK => ?_)
                  refine goes_ Tryd.func16 (by kernel_rfl) rfl #[.agg #[.int .i64 t177, .int .i64 t178, .int .i64 t179, .int .i64 t180, .int .i64 t181, .int .i64 t182, .slice Ao46 t183.length co46, .slice Ao47 t186.length co47], .agg #[.int .i64 t191, .int .i64 t192, .int .i64 t193, .int .i64 t194, .int .i64 t195, .int .i64 t196, .slice Ao54 t197.length co54, .slice Ao55 t200.length co55]] (by rfl) rfl rfl (by (try simp only [List.map_toArray, List.map_cons, List.map_nil]); first | done | rfl | (simp only [List.length_drop, List.length_take]; rfl)) ?_
                  with_reducible refine (precentorref03_Same.calls t177 t178 t179 t180 t181 t182 _ _ t183 _ _ t186 t191 t192 t193 t194 t195 t196 _ _ t197 _ _ t200 true _ ?side1 ?side2 ?side3 ?side4 ?side5 ?side6 ?side7 ?side8 A39.out).mono ?_
                  (case side1 => repeat (first | exact (Kd.R_reads' HO185.out).2.2 | (with_reducible refine Kd.C_alloc ?_ _) | (with_reducible refine Kd.C_drewN ?_ _) | (with_reducible refine Kd.C_drew ?_)))
                  (case side2 => exact (Kd.R_reads' HO185.out).2.1)
                  (case side3 => repeat (first | exact (Kd.R_reads' HO188.out).2.2 | (with_reducible refine Kd.C_alloc ?_ _) | (with_reducible refine Kd.C_drewN ?_ _) | (with_reducible refine Kd.C_drew ?_)))
                  (case side4 => exact (Kd.R_reads' HO188.out).2.1)
                  (case side5 => repeat (first | exact (Kd.R_reads' HO199.out).2.2 | (with_reducible refine Kd.C_alloc ?_ _) | (with_reducible refine Kd.C_drewN ?_ _) | (with_reducible refine Kd.C_drew ?_)))
                  (case side6 => exact (Kd.R_reads' HO199.out).2.1)
                  (case side7 => repeat (first | exact (Kd.R_reads' HO202.out).2.2 | (with_reducible refine Kd.C_alloc ?_ _) | (with_reducible refine Kd.C_drewN ?_ _) | (with_reducible refine Kd.C_drew ?_)))
                  (case side8 => exact (Kd.R_reads' HO202.out).2.1)
                  rintro e w67 ⟨rfl, hb⟩
                  refine ⟨_, rfl, ?_⟩
                  have n0_ := Aside0.mk (Kd.R_below (by (with_reducible repeat (first | apply Kd.R_alloc | apply Kd.R_drewN | apply Kd.R_drew)); exact HO185.out) hb)
                  have n1_ := Aside0.mk (Kd.R_below (by (with_reducible repeat (first | apply Kd.R_alloc | apply Kd.R_drewN | apply Kd.R_drew)); exact HO188.out) hb)
                  have n2_ := Aside0.mk (Kd.R_below (by (with_reducible repeat (first | apply Kd.R_alloc | apply Kd.R_drewN | apply Kd.R_drew)); exact HO199.out) hb)
                  have n3_ := Aside0.mk (Kd.R_below (by (with_reducible repeat (first | apply Kd.R_alloc | apply Kd.R_drewN | apply Kd.R_drew)); exact HO202.out) hb)
                  have n4_ := Aside0.mk (Kd.R_below (by (with_reducible repeat (first | apply Kd.R_alloc | apply Kd.R_drewN | apply Kd.R_drew)); exact HO211.out) hb)
                  have n5_ := Aside0.mk (Kd.R_below (by (with_reducible repeat (first | apply Kd.R_alloc | apply Kd.R_drewN | apply Kd.R_drew)); exact HO214.out) hb)
                  have n6_ := Aside0.mk (blk_below (g := gb172) (o := .cells #[.int .i64 a0_0, .int .i64 a0_1, .int .i64 a0_2, .int .i64 a0_3, .int .i64 a0_4, .int .i64 a0_5, .slice A0_6 l0_6.length c0_6, .slice A0_7 l0_7.length c0_7] 25 (0, 0)) (by (with_reducible repeat (first | refine blk_drewN ?_ _ | refine blk_drew ?_ | refine blk_alloc ?_ _)); exact BK172.out) hb)
                  have n7_ := Aside0.mk (blk_below (g := gb173) (o := .cells #[.int .i64 a1_0, .int .i64 a1_1, .int .i64 a1_2, .int .i64 a1_3, .int .i64 a1_4, .int .i64 a1_5, .slice A1_6 l1_6.length c1_6, .slice A1_7 l1_7.length c1_7] 25 (0, 0)) (by (with_reducible repeat (first | refine blk_drewN ?_ _ | refine blk_drew ?_ | refine blk_alloc ?_ _)); exact BK173.out) hb)
                  have n8_ := Aside0.mk (blk_below (g := gb190) (o := .cells #[.int .i64 t177, .int .i64 t178, .int .i64 t179, .int .i64 t180, .int .i64 t181, .int .i64 t182, .slice Ao46 t183.length co46, .slice Ao47 t186.length co47] 25 (0, 0)) (by (with_reducible repeat (first | refine blk_drewN ?_ _ | refine blk_drew ?_ | refine blk_alloc ?_ _)); exact BK190.out) hb)
                  have n9_ := Aside0.mk (blk_below (g := gb204) (o := .cells #[.int .i64 t191, .int .i64 t192, .int .i64 t193, .int .i64 t194, .int .i64 t195, .int .i64 t196, .slice Ao54 t197.length co54, .slice Ao55 t200.length co55] 25 (0, 0)) (by (with_reducible repeat (first | refine blk_drewN ?_ _ | refine blk_drew ?_ | refine blk_alloc ?_ _)); exact BK204.out) hb)
                  have n10_ := Aside0.mk (below_step (by repeat (first | (with_reducible first | exact HB.out | apply below_alloc | apply pw_below_drewN | apply below_drew1 | refine below_set ?_ GE172.out | refine below_set ?_ GE173.out | refine below_set ?_ GE190.out | refine below_set ?_ GE204.out) | exact HB.out)) hb)
                  clear HO185
                  clear HO188
                  clear HO199
                  clear HO202
                  clear HO211
                  clear HO214
                  clear BK172
                  clear BK173
                  clear BK190
                  clear BK204
                  clear HB
                  have HO185 := n0_
                  have HO188 := n1_
                  have HO199 := n2_
                  have HO202 := n3_
                  have HO211 := n4_
                  have HO214 := n5_
                  have BK172 := n6_
                  have BK173 := n7_
                  have BK190 := n8_
                  have BK204 := n9_
                  have HB := n10_
                  clear n0_ n1_ n2_ n3_ n4_ n5_ n6_ n7_ n8_ n9_ n10_
                  (try clear hb)
                  (try clear hb2)
                  (try clear hk)
                  (try clear hi)
                  refine hK.out _ _ ⟨(blk_cell BK172.out 0).trans rfl, (blk_cell BK172.out 1).trans rfl, (blk_cell BK172.out 2).trans rfl, (blk_cell BK172.out 3).trans rfl, (blk_cell BK172.out 4).trans rfl, (blk_cell BK172.out 5).trans rfl, (blk_cell BK172.out 6).trans rfl, (blk_cell BK172.out 7).trans rfl, (blk_cell BK173.out 0).trans rfl, (blk_cell BK173.out 1).trans rfl, (blk_cell BK173.out 2).trans rfl, (blk_cell BK173.out 3).trans rfl, (blk_cell BK173.out 4).trans rfl, (blk_cell BK173.out 5).trans rfl, (blk_cell BK173.out 6).trans rfl, (blk_cell BK173.out 7).trans rfl, (blk_cell BK190.out 0).trans rfl, (blk_cell BK190.out 1).trans rfl, (blk_cell BK190.out 2).trans rfl, (blk_cell BK190.out 3).trans rfl, (blk_cell BK190.out 4).trans rfl, (blk_cell BK190.out 5).trans rfl, (blk_cell BK190.out 6).trans rfl, (blk_cell BK190.out 7).trans rfl, (blk_cell BK204.out 0).trans rfl, (blk_cell BK204.out 1).trans rfl, (blk_cell BK204.out 2).trans rfl, (blk_cell BK204.out 3).trans rfl, (blk_cell BK204.out 4).trans rfl, (blk_cell BK204.out 5).trans rfl, (blk_cell BK204.out 6).trans rfl, (blk_cell BK204.out 7).trans rfl⟩ (fun hHeld => ?_)
                  clear hK K
                  refine norm_ (a' := ?_) ?_ ?_
                  rotate_left
                  · show Act.put _ (some 66) _ = _
                    simp only [Act.put, List.setIfInBounds_toArray, List.set_cons_zero, List.set_cons_succ, i64_w, i32_w]
                    rfl
                  refine pure_ (i := 30) (N := some 67) (v := ?_) (a' := ?_) #[true, true, true, true, true, true, true, true, true, true, true, true, true, true, true, true, true, true, true, true, true, true, true, true, true, true, true, true, true, true, true, false, false, false, false, false, false] rfl rfl (any_of HT_.out (by kernel_rfl)) (fun _ _ _ h => h) (Or.inl ⟨by rfl, ?_⟩) ?_ ?_
                  rotate_left
                  · intro w'
                    go_simp
                    with_reducible rfl
                  rotate_left
                  · simp only [Act.put, List.setIfInBounds_toArray, List.set_cons_zero, List.set_cons_succ, i64_w, i32_w]
                    rfl
                  refine pure_ (i := 31) (N := some 68) (v := ?_) (a' := ?_) #[true, true, true, true, true, true, true, true, true, true, true, true, true, true, true, true, true, true, true, true, true, true, true, true, true, true, true, true, true, true, true, true, false, false, false, false, false] rfl rfl (any_of HT_.out (by kernel_rfl)) (fun _ _ _ h => h) (Or.inl ⟨by rfl, ?_⟩) ?_ ?_
                  rotate_left
                  · intro w'
                    go_simp
                    with_reducible rfl
                  rotate_left
                  · simp only [Act.put, List.setIfInBounds_toArray, List.set_cons_zero, List.set_cons_succ, i64_w, i32_w]
                    rfl
                  refine pure_ (i := 32) (N := some 69) (v := ?_) (a' := ?_) #[true, true, true, true, true, true, true, true, true, true, true, true, true, true, true, true, true, true, true, true, true, true, true, true, true, true, true, true, true, true, true, true, true, false, false, false, false] rfl rfl (any_of HT_.out (by kernel_rfl)) (fun _ _ _ h => h) (Or.inl ⟨by rfl, ?_⟩) ?_ ?_
                  rotate_left
                  · intro w'
                    go_simp
                    with_reducible rfl
                  rotate_left
                  · simp only [Act.put, List.setIfInBounds_toArray, List.set_cons_zero, List.set_cons_succ, i64_w, i32_w]
                    rfl
                  refine pure_ (i := 33) (N := some 70) (v := ?_) (a' := ?_) #[true, true, true, true, true, true, true, true, true, true, true, true, true, true, true, true, true, true, true, true, true, true, true, true, true, true, true, true, true, true, true, true, true, true, false, false, false] rfl rfl (any_of HT_.out (by kernel_rfl)) (fun _ _ _ h => h) (Or.inl ⟨by rfl, ?_⟩) ?_ ?_
                  rotate_left
                  · intro w'
                    go_simp
                    with_reducible rfl
                  rotate_left
                  · simp only [Act.put, List.setIfInBounds_toArray, List.set_cons_zero, List.set_cons_succ, i64_w, i32_w]
                    rfl
                  refine pure_ (i := 34) (N := some 71) (v := ?_) (a' := ?_) #[true, true, true, true, true, true, true, true, true, true, true, true, true, true, true, true, true, true, true, true, true, true, true, true, true, true, true, true, true, true, true, true, true, true, true, false, false] rfl rfl (any_of HT_.out (by kernel_rfl)) (fun _ _ _ h => h) (Or.inl ⟨by rfl, ?_⟩) ?_ ?_
                  rotate_left
                  · intro w'
                    go_simp
                    with_reducible rfl
                  rotate_left
                  · simp only [Act.put, List.setIfInBounds_toArray, List.set_cons_zero, List.set_cons_succ, i64_w, i32_w]
                    rfl
                  refine pure_ (i := 35) (N := some 72) (v := ?_) (a' := ?_) #[true, true, true, true, true, true, true, true, true, true, true, true, true, true, true, true, true, true, true, true, true, true, true, true, true, true, true, true, true, true, true, true, true, true, true, true, false] rfl rfl (any_of HT_.out (by kernel_rfl)) (fun _ _ _ h => h) (Or.inl ⟨by rfl, ?_⟩) ?_ ?_
                  rotate_left
                  · intro w'
                    go_simp
                    with_reducible rfl
                  rotate_left
                  · simp only [Act.put, List.setIfInBounds_toArray, List.set_cons_zero, List.set_cons_succ, i64_w, i32_w]
                    rfl
                  refine pure_ (i := 36) (N := some 6) (v := ?_) (a' := ?_) #[true, true, true, true, true, true, true, true, true, true, true, true, true, true, true, true, true, true, true, true, true, true, true, true, true, true, true, true, true, true, true, true, true, true, true, true, true] rfl rfl (any_of HT_.out (by kernel_rfl)) (fun _ _ _ h => h) (Or.inl ⟨by rfl, ?_⟩) ?_ ?_
                  rotate_left
                  · intro w'
                    go_simp
                    with_reducible rfl
                  rotate_left
                  · simp only [Act.put, List.setIfInBounds_toArray, List.set_cons_zero, List.set_cons_succ, i64_w, i32_w]
                    rfl
                  refine done_ (done_of HT_.out (by kernel_rfl)) ?_
                  try go_wp2
                  go_ret
                  exact ⟨by first | rfl | (simp [errW_none, errW_some] <;> rfl) | (simp [*, errW_none, errW_some] <;> rfl), by repeat (first | (with_reducible first | exact HB.out | apply below_alloc | apply pw_below_drewN | apply below_drew1 | refine below_set ?_ GE172.out | refine below_set ?_ GE173.out | refine below_set ?_ GE190.out | refine below_set ?_ GE204.out) | exact HB.out)⟩
                · replace c40 := Bool.eq_false_iff.mpr c40
                  subst c40
                  have H1 : (none) = some r := by rw [if_neg (show ¬ (false = true) by decide)] at H; exact H
                  clear H
                  have H := H1
                  clear H1
                  exact absurd H (by simp)
              · rw [if_neg c38] at H
                exact absurd H (by simp)
            · rw [if_neg c35] at H
              exact absurd H (by simp)
          · rw [if_neg c32] at H
            exact absurd H (by simp)
        · replace c29 := Bool.eq_false_iff.mpr c29
          subst c29
          have H1 : (none) = some r := by rw [if_neg (show ¬ (false = true) by decide)] at H; exact H
          clear H
          have H := H1
          clear H1
          exact absurd H (by simp)

end Go.Proofs.YtocoikndkmdnkaaDoor.Print
