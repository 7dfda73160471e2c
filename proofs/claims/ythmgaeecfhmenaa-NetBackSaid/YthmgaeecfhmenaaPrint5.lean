/- The Go functions of this seat as Lean functions, and of each that its call does just what its Lean function says, where that says something. Condition: the arguments read as they are told. -/
import Derived.Test.YthmgaeecfhmenaaPrint0
import Derived.Test.YthmgaeecfhmenaaStrs
import Derived.Test.YthmgaeecfhmenaaPrint1
import Derived.Test.YthmgaeecfhmenaaPrint3
import Derived.Test.YthmgaeecfhmenaaHand
import Derived.Test.YthmgaeecfhmenaaHand2
import Derived.Test.YthmgaeecfhmenaaHand3
namespace Go.Proofs.Ythmgaeecfhmenaa.Print
open Go.RowKit Go.Proofs.YthmgaeecfhmenaaW.PrintWords Go.Proofs.YthmgaeecfhmenaaW.PrintLast Go.Proofs.YthmgaeecfhmenaaW.PrintMore
attribute [local go_sem] max2_int min2_int max_two min_two max_three min_three max_four min_four   -- for this text's walks alone
set_option linter.unusedVariables false
set_option linter.unusedSimpArgs false

/-! ### precentorlaw05_NetBack: function 4 -/
mutual
def precentorlaw05_NetBack.j0 : Nat → List (S29) → Int → List Int → Int → Bool → Bool → Option (Bool)
 | 0, _, _, _, _, _, _ => none
 | k + 1, x3, x4, x5, x6, x7, x39 => if x39 = true then (some x7) else ((net_Put.f x3 x4 x5).bind fun t256 => ((net_Give.f t256 (x3.length : Int)).bind fun bt259 => (if (t256.length : Int) = (wrap64 ((x3.length : Int) + 1)) then (if bt259.2.2.2.2 = 0 then (if bt259.1 = x4 then (if (strOfNums bt259.2.1).toList = (strOfNums x5).toList then (if bt259.2.2.1 = true then (precentorlaw05_NetBack.j1 k x3 x6 x7 t256 true) else ((precentorref05_Same.f k bt259.2.2.2.1 x3).bind fun t269 => (precentorlaw05_NetBack.j1 k x3 x6 x7 t256 (!t269)))) else (precentorlaw05_NetBack.j1 k x3 x6 x7 t256 true)) else (precentorlaw05_NetBack.j1 k x3 x6 x7 t256 true)) else (precentorlaw05_NetBack.j1 k x3 x6 x7 t256 true)) else (precentorlaw05_NetBack.j1 k x3 x6 x7 t256 true))))
def precentorlaw05_NetBack.j1 : Nat → List (S29) → Int → Bool → List (S29) → Bool → Option (Bool)
 | 0, _, _, _, _, _ => none
 | k + 1, x3, x6, x7, x8, x86 => if x86 = true then (none) else (if (x8.length : Int) = 0 then (none) else ((net_Dup.f x8 (Int.tmod (wrap64 (x6)) (x8.length : Int))).bind fun bt270 => ((net_Drop.f bt270.1 (x8.length : Int)).bind fun bt274 => ((net_Give.f bt270.1 (x8.length : Int)).bind fun bt278 => ((net_Give.f x8 (Int.tmod (wrap64 (x6)) (x8.length : Int))).bind fun bt288 => (if x7 = true then (if bt270.2 = 0 then (if (bt270.1.length : Int) = (wrap64 ((x8.length : Int) + 1)) then (if bt274.2 = 0 then ((precentorref05_Same.f k bt274.1 x8).bind fun t298 => (if t298 = true then (if bt278.2.2.2.2 = 0 then (if bt288.2.2.2.2 = 0 then ((precentorref05_Same.f k (([(⟨bt278.1, bt278.2.1, bt278.2.2.1⟩ : S29)] : List (S29))) (([(⟨bt288.1, bt288.2.1, bt288.2.2.1⟩ : S29)] : List (S29)))).bind fun t305 => (if t305 = true then (if (bt288.2.2.2.1.length : Int) = (x3.length : Int) then (if 0 ≤ (Int.tmod (wrap64 (x6)) (x8.length : Int)) then (if (Int.tmod (wrap64 (x6)) (x8.length : Int)) ≤ (bt288.2.2.2.1.length : Int) then (if (Int.tmod (wrap64 (x6)) (x8.length : Int)) ≤ (x8.length : Int) then ((precentorref05_Same.f k (bt288.2.2.2.1.take ((Int.tmod (wrap64 (x6)) (x8.length : Int)) : Int).toNat) (x8.take ((Int.tmod (wrap64 (x6)) (x8.length : Int)) : Int).toNat)).bind fun t316 => (if t316 = true then (if 0 ≤ (wrap64 ((Int.tmod (wrap64 (x6)) (x8.length : Int)) + 1)) then (if (wrap64 ((Int.tmod (wrap64 (x6)) (x8.length : Int)) + 1)) ≤ (x8.length : Int) then ((precentorref05_Same.f k (bt288.2.2.2.1.drop ((Int.tmod (wrap64 (x6)) (x8.length : Int)) : Int).toNat) (x8.drop ((wrap64 ((Int.tmod (wrap64 (x6)) (x8.length : Int)) + 1)) : Int).toNat)).bind fun t327 => (some t327)) else (none)) else (none)) else (none))) else (none)) else (none)) else (none)) else (none)) else (none))) else (none)) else (none)) else (none))) else (none)) else (none)) else (none)) else (none)))))))
end
def precentorlaw05_NetBack.f (k : Nat) (l0_0 : List (S29)) (a0_1 : Int) (l0_2 : List Int) (a0_3 : Int) : Option (Bool) := (precentorlaw05_shown.f).bind fun t254 => ((precentorref05_Few.f k l0_0 60).bind fun t255 => (if t255 = true then (precentorlaw05_NetBack.j0 k l0_0 a0_1 l0_2 a0_3 t254 (decide ((l0_2.length : Int) > 1000))) else (precentorlaw05_NetBack.j0 k l0_0 a0_1 l0_2 a0_3 t254 true)))
theorem precentorlaw05_NetBack.mono_l : ∀ k, (∀ y0 y1 y2 y3 y4 y5, LeO (precentorlaw05_NetBack.j0 k y0 y1 y2 y3 y4 y5) (precentorlaw05_NetBack.j0 (k + 1) y0 y1 y2 y3 y4 y5)) ∧ (∀ y0 y1 y2 y3 y4, LeO (precentorlaw05_NetBack.j1 k y0 y1 y2 y3 y4) (precentorlaw05_NetBack.j1 (k + 1) y0 y1 y2 y3 y4))
 | 0 => ⟨fun _ _ _ _ _ _ r h => by simp [precentorlaw05_NetBack.j0] at h, fun _ _ _ _ _ r h => by simp [precentorlaw05_NetBack.j1] at h⟩
 | k + 1 => by
  obtain ⟨ih0, ih1⟩ := precentorlaw05_NetBack.mono_l k
  refine ⟨?_, ?_⟩
  ·
   intro y0 y1 y2 y3 y4 y5
   unfold precentorlaw05_NetBack.j0
   repeat' first
   | (with_reducible exact ih0 _ _ _ _ _ _)
   | (with_reducible exact ih1 _ _ _ _ _)
   | (with_reducible exact precentorref05_Few.mono _ _ _)
   | (with_reducible exact precentorref05_Same.mono _ _ _)
   | (with_reducible exact LeO.refl _)
   | (with_reducible exact LeO.none _)
   | (with_reducible refine LeO.ite ?_ ?_)
   | (with_reducible refine LeO.bind ?_ (fun _ => ?_))
   | exact ih0 _ _ _ _ _ _
   | exact ih1 _ _ _ _ _
   | exact precentorref05_Few.mono _ _ _
   | exact precentorref05_Same.mono _ _ _
   | exact LeO.none _
   | refine LeO.ite ?_ ?_
   | refine LeO.bind ?_ (fun _ => ?_)
  ·
   intro y0 y1 y2 y3 y4
   unfold precentorlaw05_NetBack.j1
   repeat' first
   | (with_reducible exact ih0 _ _ _ _ _ _)
   | (with_reducible exact ih1 _ _ _ _ _)
   | (with_reducible exact precentorref05_Few.mono _ _ _)
   | (with_reducible exact precentorref05_Same.mono _ _ _)
   | (with_reducible exact LeO.refl _)
   | (with_reducible exact LeO.none _)
   | (with_reducible refine LeO.ite ?_ ?_)
   | (with_reducible refine LeO.bind ?_ (fun _ => ?_))
   | exact ih0 _ _ _ _ _ _
   | exact ih1 _ _ _ _ _
   | exact precentorref05_Few.mono _ _ _
   | exact precentorref05_Same.mono _ _ _
   | exact LeO.none _
   | refine LeO.ite ?_ ?_
   | refine LeO.bind ?_ (fun _ => ?_)
theorem precentorlaw05_NetBack.mono : ∀ a0 a1 a2 a3 k, LeO (precentorlaw05_NetBack.f k a0 a1 a2 a3) (precentorlaw05_NetBack.f (k + 1) a0 a1 a2 a3) := by
 intro a0 a1 a2 a3 k
 obtain ⟨ih0, ih1⟩ := precentorlaw05_NetBack.mono_l k
 unfold precentorlaw05_NetBack.f
 repeat' first
   | (with_reducible exact ih0 _ _ _ _ _ _)
   | (with_reducible exact ih1 _ _ _ _ _)
   | (with_reducible exact precentorref05_Few.mono _ _ _)
   | (with_reducible exact precentorref05_Same.mono _ _ _)
   | (with_reducible exact LeO.refl _)
   | (with_reducible exact LeO.none _)
   | (with_reducible refine LeO.ite ?_ ?_)
   | (with_reducible refine LeO.bind ?_ (fun _ => ?_))
   | exact ih0 _ _ _ _ _ _
   | exact ih1 _ _ _ _ _
   | exact precentorref05_Few.mono _ _ _
   | exact precentorref05_Same.mono _ _ _
   | exact LeO.none _
   | refine LeO.ite ?_ ?_
   | refine LeO.bind ?_ (fun _ => ?_)
def precentorlaw05_NetBack.T17 : Bool × List (List Nat × List Nat) := (true, [([], []), ([0], [0]), ([1], [1]), ([2, 1], [1, 2]), ([1, 3], [1, 3]), ([4, 1], [4]), ([5], [5]), ([6, 5], [5, 6]), ([5], [5]), ([8, 5], [5, 8]), ([9, 5], [5, 9]), ([7, 10, 5], [5, 7, 10]), ([5, 11], [5, 11]), ([12, 5], [12]), ([13], [13]), ([14, 13], [13, 14]), ([13, 15], [13, 15]), ([16, 13], [16]), ([17], [17]), ([17], [17]), ([18, 19, 17, 17], [17, 18, 19]), ([17, 20], [17, 20]), ([21, 20], [21]), ([22], [22]), ([23, 22], [22, 23]), ([22, 24], [22, 24]), ([25, 22], [25]), ([26], [26]), ([27, 26], [26, 27]), ([26, 28], [26, 28]), ([29, 26], [29]), ([30], [30]), ([31, 30], [30, 31]), ([30], [30]), ([33, 30], [30, 33]), ([32, 34, 30, 30], [30, 32, 34]), ([30, 35], [30, 35]), ([36, 35], [36]), ([37], [37]), ([38, 37], [37, 38]), ([37], [37]), ([40, 37], [37, 40]), ([39, 41, 37], [37, 39, 41]), ([37, 42], [37, 42]), ([43, 37], [43]), ([44], [44]), ([44], [44]), ([45, 46, 44], [44, 45, 46]), ([44], [44]), ([44], [44]), ([48, 49, 44], [44, 48, 49]), ([47, 50, 44, 44], [44, 47, 50]), ([44, 51], [44, 51]), ([52, 51], [52]), ([53], [53]), ([53], [53]), ([54, 55, 53], [53, 54, 55]), ([53], [53]), ([53], [53]), ([58, 53], [53, 58]), ([57, 59, 53], [53, 57, 59]), ([56, 60, 53, 53], [53, 56, 60]), ([53, 61], [53, 61]), ([62, 61, 0, 1, 2, 3, 4, 5, 6, 7, 8, 9, 10, 11, 12, 13, 14, 15, 16, 17, 18, 19, 20, 21, 22, 23, 24, 25, 26, 27, 28, 29, 30, 31, 32, 33, 34, 35, 36, 37, 38, 39, 40, 41, 42, 43, 44, 45, 46, 47, 48, 49, 50, 51, 52, 53, 54, 55, 56, 57, 58, 59, 60, 61, 62], [62])])
def precentorlaw05_NetBack.B17 : List Nat := [0, 1, 3, 7, 15, 31, 63, 127, 63, 319, 831, 2047, 4095, 8191, 16383, 32767, 65535, 131071, 262143, 262143, 1048575, 2097151, 4194303, 8388607, 16777215, 33554431, 67108863, 134217727, 268435455, 536870911, 1073741823, 2147483647, 4294967295, 2147483647, 10737418239, 34359738367, 68719476735, 137438953471, 274877906943, 549755813887, 274877906943, 1374389534719, 4398046511103, 8796093022207, 17592186044415, 35184372088831, 35184372088831, 140737488355327, 35184372088831, 35184372088831, 879609302220799, 2251799813685247, 4503599627370495, 9007199254740991, 18014398509481983, 18014398509481983, 72057594037927935, 18014398509481983, 18014398509481983, 306244774661193727, 1026820715040473087, 2305843009213693951, 4611686018427387903, 9223372036854775807]
theorem precentorlaw05_NetBack.tab17 : rtab .any (opsOf Try.f4 17) = precentorlaw05_NetBack.T17 := by kernel_rfl
theorem precentorlaw05_NetBack.bits17 : waitsOk precentorlaw05_NetBack.T17.2 precentorlaw05_NetBack.B17 = true := by kernel_rfl
set_option maxHeartbeats 8000000 in
set_option maxRecDepth 100000 in
theorem precentorlaw05_NetBack.calls (k : Nat) (A0_0 : Option Addr) (c0_0 : Nat) (l0_0 : List (S29)) (a0_1 : Int) (A0_2 : Option Addr) (c0_2 : Nat) (l0_2 : List Int) (a0_3 : Int) (r : Bool) (w : World) (hr0_0 : Kd.C k29 w A0_0 l0_0.length l0_0) (hc0_0 : l0_0.length ≤ c0_0) (hr0_2 : Kd.C (Kd.int .u8) w A0_2 l0_2.length l0_2) (hc0_2 : l0_2.length ≤ c0_2) (h : precentorlaw05_NetBack.f k l0_0 a0_1 l0_2 a0_3 = some r) :
  Calls Try.prog 4 #[.agg #[.slice A0_0 l0_0.length c0_0, .int .i64 a0_1, .slice A0_2 l0_2.length c0_2, .int .u8 a0_3]] w fun e w' => e = .returned (.bool r) ∧ Below w.heap.size w w' := by
 have hu46 := Try.underlying46
 have hu29 := Try.underlying29
 have HR0_0 := Aside0.mk hr0_0
 have HC0_0 := Aside0.mk hc0_0
 clear hr0_0 hc0_0
 have HR0_2 := Aside0.mk hr0_2
 have HC0_2 := Aside0.mk hc0_2
 clear hr0_2 hc0_2
 have HB := Aside0.mk (Below.refl w.heap.size w)
 have H : ((precentorlaw05_shown.f).bind fun t254 => ((precentorref05_Few.f k l0_0 60).bind fun t255 => (if t255 = true then (precentorlaw05_NetBack.j0 k l0_0 a0_1 l0_2 a0_3 t254 (decide ((l0_2.length : Int) > 1000))) else (precentorlaw05_NetBack.j0 k l0_0 a0_1 l0_2 a0_3 t254 true)))) = some r := h
 clear h
 replace H := Option.bind_eq_some_iff.mp H
 obtain ⟨t254, A20, H⟩ := H
 replace H : ((precentorref05_Few.f k l0_0 60).bind fun t255 => (if t255 = true then (precentorlaw05_NetBack.j0 k l0_0 a0_1 l0_2 a0_3 t254 (decide ((l0_2.length : Int) > 1000))) else (precentorlaw05_NetBack.j0 k l0_0 a0_1 l0_2 a0_3 t254 true))) = some r := H
 have A2 := Aside0.mk A20
 clear A20
 have HC3 := Aside0.mk H
 clear H
 go_enter Try.func4, Try.ntmps4
 go_upto_region 6 with (first | ((with_reducible refine gate_dst (N := 1) rfl ?_); (try (refine gate_guard (by rfl) ?_; dsimp only)); refine box_event ?hg (N := 1) ?hd (cs := #[.slice A0_0 l0_0.length c0_0, .int .i64 a0_1, .slice A0_2 l0_2.length c0_2, .int .u8 a0_3]) (t := 46) ?hr ?_; (case hd => rfl); (case hg => rfl); (case hr => first | (go_simp; done) | (go_simp; rfl)); intro gb253 hg w4 hbox hb; have n0_ := Aside0.mk (below_step (by repeat (first | (with_reducible first | exact HB.out | apply below_alloc | apply pw_below_drewN | apply below_drew1) | exact HB.out)) hb); have n1_ := Aside0.mk (hbox); have n2_ := Aside0.mk ((by rw [hg]; exact (below_size (by repeat (first | (with_reducible first | exact HB.out | apply below_alloc | apply pw_below_drewN | apply below_drew1) | exact HB.out))) : w.heap.size ≤ gb253)); have n3_ := Aside0.mk ((by rw [hg]; exact (below_size (by repeat (first | (with_reducible first | exact HB.out | apply below_alloc | apply pw_below_drewN | apply below_drew1) | exact HB.out))) : w.heap.size ≤ gb253)); clear HB; have HB := n0_; have BK253 := n1_; have GW253 := n2_; have GE253 := n3_; clear n0_ n1_ n2_ n3_; clear hb hbox hg; have hcz5_0 : w4.cell? ⟨gb253, 0, none⟩ = some (.slice A0_0 l0_0.length c0_0) := (blk_cell BK253.out 0).trans rfl; have hcz5_1 : w4.cell? ⟨gb253, 1, none⟩ = some (.int .i64 a0_1) := (blk_cell BK253.out 1).trans rfl; have hcz5_2 : w4.cell? ⟨gb253, 2, none⟩ = some (.slice A0_2 l0_2.length c0_2) := (blk_cell BK253.out 2).trans rfl; have hcz5_3 : w4.cell? ⟨gb253, 3, none⟩ = some (.int .u8 a0_3) := (blk_cell BK253.out 3).trans rfl; have hfz5_0 := blk_frozen BK253.out 0; have hfz5_1 := blk_frozen BK253.out 1; have hfz5_2 := blk_frozen BK253.out 2; have hfz5_3 := blk_frozen BK253.out 3) | ((with_reducible refine gate_callee (f := 9) rfl ?_); refine goesL_ (some 31) rfl rfl Try.func9 (by kernel_rfl) rfl #[] rfl (by (try simp only [List.map_toArray, List.map_cons, List.map_nil]); first | done | rfl | (simp only [List.length_drop, List.length_take]; rfl)) ?_; (with_reducible refine (precentorlaw05_shown.calls  t254 _ A2.out).mono ?_); rintro e w6 ⟨rfl, hb⟩; refine ⟨_, rfl, ?_⟩; have n0_ := Aside0.mk (blk_below (g := gb253) (o := .cells #[.slice A0_0 l0_0.length c0_0, .int .i64 a0_1, .slice A0_2 l0_2.length c0_2, .int .u8 a0_3] 46 (0, 0)) (by (with_reducible repeat (first | refine blk_drewN ?_ _ | refine blk_drew ?_ | refine blk_alloc ?_ _)); exact BK253.out) hb); have n1_ := Aside0.mk (below_step (by repeat (first | (with_reducible first | exact HB.out | apply below_alloc | apply pw_below_drewN | apply below_drew1 | refine below_set ?_ GE253.out) | exact HB.out)) hb); clear BK253; clear HB; have BK253 := n0_; have HB := n1_; clear n0_ n1_; (try clear hb); (try clear hb2); (try clear hk); (try clear hi)))
 (try simp only [Act.put, List.setIfInBounds_toArray, List.set_cons_zero, List.set_cons_succ])
 go_cut [39] (fun v39 wc => ∃ (kq : Nat) (x39_2 : Bool), v39 = .bool x39_2 ∧ Aside0 (precentorlaw05_NetBack.j0 kq l0_0 a0_1 l0_2 a0_3 t254 x39_2 = some r) ∧ Aside0 (kq ≤ k) ∧ Aside0 (wc.heap[gb253]? = some (.cells #[(.slice A0_0 l0_0.length c0_0), .int .i64 a0_1, (.slice A0_2 l0_2.length c0_2), .int .u8 a0_3] 46 (0, 0))) ∧ Aside0 (Below w.heap.size w wc))
 case first =>
  have H := HC3.out
  clear HC3
  replace H := Option.bind_eq_some_iff.mp H
  obtain ⟨t255, A70, H⟩ := H
  replace H : (if t255 = true then (precentorlaw05_NetBack.j0 k l0_0 a0_1 l0_2 a0_3 t254 (decide ((l0_2.length : Int) > 1000))) else (precentorlaw05_NetBack.j0 k l0_0 a0_1 l0_2 a0_3 t254 true)) = some r := H
  have A7 := Aside0.mk A70
  clear A70
  by_cases c8 : t255 = true
  ·
   subst c8
   have H1 : (precentorlaw05_NetBack.j0 k l0_0 a0_1 l0_2 a0_3 t254 (decide ((l0_2.length : Int) > 1000))) = some r := by rw [if_pos rfl] at H; exact H
   clear H
   have H := H1
   clear H1
   have H' := Aside0.mk H
   clear H
   go_wp2_with (first | ((with_reducible refine gate_callee (f := 10) rfl ?_); refine goesL_ (some 33) rfl rfl Try.func10 (by kernel_rfl) rfl #[.slice A0_0 l0_0.length c0_0, .int .i64 60] rfl (by (try simp only [List.map_toArray, List.map_cons, List.map_nil]); first | done | rfl | (simp only [List.length_drop, List.length_take]; rfl)) ?_; (with_reducible refine (precentorref05_Few.calls k _ _ l0_0 60 true _ ?side1 ?side2 A7.out).mono ?_); (case side1 => repeat (first | exact (Kd.C_below HR0_0.out HB.out) | (with_reducible refine Kd.C_alloc ?_ _) | (with_reducible refine Kd.C_drewN ?_ _) | (with_reducible refine Kd.C_drew ?_))); (case side2 => exact HC0_0.out); rintro e w' ⟨rfl, ⟨nd, rfl⟩⟩; refine ⟨_, rfl, ?_⟩))
   go_meet
   case rel => exact ⟨_, (decide ((l0_2.length : Int) > 1000)), (by first | rfl | (simp; done) | (simp [*]; done)), H', ⟨by first | omega | exact Nat.le_refl _⟩, ⟨by (with_reducible repeat (first | refine blk_drewN ?_ _ | refine blk_drew ?_ | refine blk_alloc ?_ _)); exact BK253.out⟩, ⟨by repeat (first | (with_reducible first | exact HB.out | apply below_alloc | apply pw_below_drewN | apply below_drew1 | refine below_set ?_ GE253.out) | exact HB.out)⟩⟩
  ·
   replace c8 := Bool.eq_false_iff.mpr c8
   subst c8
   have H1 : (precentorlaw05_NetBack.j0 k l0_0 a0_1 l0_2 a0_3 t254 true) = some r := by rw [if_neg (show ¬ (false = true) by decide)] at H; exact H
   clear H
   have H := H1
   clear H1
   have H' := Aside0.mk H
   clear H
   go_wp2_with (first | ((with_reducible refine gate_callee (f := 10) rfl ?_); refine goesL_ (some 33) rfl rfl Try.func10 (by kernel_rfl) rfl #[.slice A0_0 l0_0.length c0_0, .int .i64 60] rfl (by (try simp only [List.map_toArray, List.map_cons, List.map_nil]); first | done | rfl | (simp only [List.length_drop, List.length_take]; rfl)) ?_; (with_reducible refine (precentorref05_Few.calls k _ _ l0_0 60 false _ ?side1 ?side2 A7.out).mono ?_); (case side1 => repeat (first | exact (Kd.C_below HR0_0.out HB.out) | (with_reducible refine Kd.C_alloc ?_ _) | (with_reducible refine Kd.C_drewN ?_ _) | (with_reducible refine Kd.C_drew ?_))); (case side2 => exact HC0_0.out); rintro e w' ⟨rfl, ⟨nd, rfl⟩⟩; refine ⟨_, rfl, ?_⟩))
   go_meet
   case rel => exact ⟨_, (true), (by first | rfl | (simp; done) | (simp [*]; done)), H', ⟨by first | omega | exact Nat.le_refl _⟩, ⟨by (with_reducible repeat (first | refine blk_drewN ?_ _ | refine blk_drew ?_ | refine blk_alloc ?_ _)); exact BK253.out⟩, ⟨by repeat (first | (with_reducible first | exact HB.out | apply below_alloc | apply pw_below_drewN | apply below_drew1 | refine below_set ?_ GE253.out) | exact HB.out)⟩⟩
 case rest =>
  clear HC3
  try clear c1
  try clear p2
  try clear c4
  try clear c8
  try clear hcz5_0
  try clear hcz5_1
  try clear hcz5_2
  try clear hcz5_3
  try clear hfz5_0
  try clear hfz5_1
  try clear hfz5_2
  try clear hfz5_3
  obtain ⟨kq, x39_2, rfl, HA, HJ2, BK253, HB⟩ := hcut
  cases kq with
  | zero => exact absurd HA.out (by simp [precentorlaw05_NetBack.j0])
  | succ kj2 =>
   have H := HA.out
   clear HA
   simp only [precentorlaw05_NetBack.j0] at H
   by_cases c9 : x39_2 = true
   ·
    subst c9
    have H1 : (some t254) = some r := by rw [if_pos rfl] at H; exact H
    clear H
    have H := H1
    clear H1
    obtain rfl := Option.some.inj H
    go_wp2
    go_ret
    exact ⟨by first | rfl | (simp [errW_none, errW_some] <;> rfl) | (simp [*, errW_none, errW_some] <;> rfl), by repeat (first | (with_reducible first | exact HB.out | apply below_alloc | apply pw_below_drewN | apply below_drew1 | refine below_set ?_ GE253.out) | exact HB.out)⟩
   ·
    replace c9 := Bool.eq_false_iff.mpr c9
    subst c9
    have H1 : ((net_Put.f l0_0 a0_1 l0_2).bind fun t256 => ((net_Give.f t256 (l0_0.length : Int)).bind fun bt259 => (if (t256.length : Int) = (wrap64 ((l0_0.length : Int) + 1)) then (if bt259.2.2.2.2 = 0 then (if bt259.1 = a0_1 then (if (strOfNums bt259.2.1).toList = (strOfNums l0_2).toList then (if bt259.2.2.1 = true then (precentorlaw05_NetBack.j1 kj2 l0_0 a0_3 t254 t256 true) else ((precentorref05_Same.f kj2 bt259.2.2.2.1 l0_0).bind fun t269 => (precentorlaw05_NetBack.j1 kj2 l0_0 a0_3 t254 t256 (!t269)))) else (precentorlaw05_NetBack.j1 kj2 l0_0 a0_3 t254 t256 true)) else (precentorlaw05_NetBack.j1 kj2 l0_0 a0_3 t254 t256 true)) else (precentorlaw05_NetBack.j1 kj2 l0_0 a0_3 t254 t256 true)) else (precentorlaw05_NetBack.j1 kj2 l0_0 a0_3 t254 t256 true)))) = some r := by rw [if_neg (show ¬ (false = true) by decide)] at H; exact H
    clear H
    have H := H1
    clear H1
    replace H := Option.bind_eq_some_iff.mp H
    obtain ⟨t256, A100, H⟩ := H
    replace H : ((net_Give.f t256 (l0_0.length : Int)).bind fun bt259 => (if (t256.length : Int) = (wrap64 ((l0_0.length : Int) + 1)) then (if bt259.2.2.2.2 = 0 then (if bt259.1 = a0_1 then (if (strOfNums bt259.2.1).toList = (strOfNums l0_2).toList then (if bt259.2.2.1 = true then (precentorlaw05_NetBack.j1 kj2 l0_0 a0_3 t254 t256 true) else ((precentorref05_Same.f kj2 bt259.2.2.2.1 l0_0).bind fun t269 => (precentorlaw05_NetBack.j1 kj2 l0_0 a0_3 t254 t256 (!t269)))) else (precentorlaw05_NetBack.j1 kj2 l0_0 a0_3 t254 t256 true)) else (precentorlaw05_NetBack.j1 kj2 l0_0 a0_3 t254 t256 true)) else (precentorlaw05_NetBack.j1 kj2 l0_0 a0_3 t254 t256 true)) else (precentorlaw05_NetBack.j1 kj2 l0_0 a0_3 t254 t256 true))) = some r := H
    have A10 := Aside0.mk A100
    clear A100
    replace H := Option.bind_eq_some_iff.mp H
    obtain ⟨⟨t259, t260, t263, t264, t267⟩, A110, H⟩ := H
    replace H : (if (t256.length : Int) = (wrap64 ((l0_0.length : Int) + 1)) then (if t267 = 0 then (if t259 = a0_1 then (if (strOfNums t260).toList = (strOfNums l0_2).toList then (if t263 = true then (precentorlaw05_NetBack.j1 kj2 l0_0 a0_3 t254 t256 true) else ((precentorref05_Same.f kj2 t264 l0_0).bind fun t269 => (precentorlaw05_NetBack.j1 kj2 l0_0 a0_3 t254 t256 (!t269)))) else (precentorlaw05_NetBack.j1 kj2 l0_0 a0_3 t254 t256 true)) else (precentorlaw05_NetBack.j1 kj2 l0_0 a0_3 t254 t256 true)) else (precentorlaw05_NetBack.j1 kj2 l0_0 a0_3 t254 t256 true)) else (precentorlaw05_NetBack.j1 kj2 l0_0 a0_3 t254 t256 true)) = some r := H
    have A11 := Aside0.mk A110
    clear A110
    have HC12 := Aside0.mk H
    clear H
    go_upto_region 10 with (first | ((with_reducible refine gate_callee (f := 21) rfl ?_); refine goesL_ (some 44) rfl rfl Try.func21 (by kernel_rfl) rfl #[.slice A0_0 l0_0.length c0_0, .int .i64 a0_1, .slice A0_2 l0_2.length c0_2] rfl (by (try simp only [List.map_toArray, List.map_cons, List.map_nil]); first | done | rfl | (simp only [List.length_drop, List.length_take]; rfl)) ?_; (with_reducible refine (net_Put.calls (fun k_ => k_ < w.heap.size) _ _ l0_0 a0_1 _ _ l0_2 t256 _ ?side1 ?side2 ?side3 A10.out).mono ?_); (case side1 => exact Kd.V_mk HC0_0.out (Kd.F_below (Kd.C_F k29_heap HR0_0.out) (by repeat (first | (with_reducible first | exact HB.out | apply below_alloc | apply pw_below_drewN | apply below_drew1 | refine below_set ?_ GE253.out) | exact HB.out)))); (case side2 => repeat (first | exact (Kd.C_below HR0_2.out HB.out) | (with_reducible refine Kd.C_alloc ?_ _) | (with_reducible refine Kd.C_drewN ?_ _) | (with_reducible refine Kd.C_drew ?_))); (case side3 => exact HC0_2.out); rintro e w13 ⟨v257, rfl, ho0, hb⟩; refine ⟨_, rfl, ?_⟩; have n0_ := Aside0.mk (Kd.V_lower (Kd.V_mono (ok' := fun k_ => k_ ≠ gb253) ho0 (fun k_ hk_ => Or.elim hk_ (fun hs_ => fun e_ => Nat.not_le.2 hs_ (by rw [e_]; exact GW253.out)) (fun hn_ => (Kd.freshB (g := gb253) (o := .cells #[.slice A0_0 l0_0.length c0_0, .int .i64 a0_1, .slice A0_2 l0_2.length c0_2, .int .u8 a0_3] 46 (0, 0)) (by (with_reducible repeat (first | refine blk_drewN ?_ _ | refine blk_drew ?_ | refine blk_alloc ?_ _)); exact BK253.out) k_ hn_)))) (below_size (by repeat (first | (with_reducible first | exact HB.out | apply below_alloc | apply pw_below_drewN | apply below_drew1 | refine below_set ?_ GE253.out) | exact HB.out)))); have n1_ := Aside0.mk (blk_below (g := gb253) (o := .cells #[.slice A0_0 l0_0.length c0_0, .int .i64 a0_1, .slice A0_2 l0_2.length c0_2, .int .u8 a0_3] 46 (0, 0)) (by (with_reducible repeat (first | refine blk_drewN ?_ _ | refine blk_drew ?_ | refine blk_alloc ?_ _)); exact BK253.out) hb); have n2_ := Aside0.mk (below_step (by repeat (first | (with_reducible first | exact HB.out | apply below_alloc | apply pw_below_drewN | apply below_drew1 | refine below_set ?_ GE253.out) | exact HB.out)) hb); clear BK253; clear HB; have HO258 := n0_; have BK253 := n1_; have HB := n2_; clear n0_ n1_ n2_; (try clear hb); (try clear hb2); (try clear hk); (try clear hi); (try clear ho0); obtain ⟨Ao14, co14, eo14⟩ := Kd.V_slice HO258.out; subst eo14) | ((with_reducible refine gate_callee (f := 11) rfl ?_); refine goesL_ (some 49) rfl rfl Try.func11 (by kernel_rfl) rfl #[.slice Ao14 t256.length co14, .int .i64 (l0_0.length : Int)] rfl (by (try simp only [List.map_toArray, List.map_cons, List.map_nil]); first | done | rfl | (simp only [List.length_drop, List.length_take]; rfl)) ?_; (with_reducible refine (net_Give.calls (fun k_ => k_ ≠ gb253) _ _ t256 (l0_0.length : Int) t259 t260 t263 t264 t267 _ ?side1 A11.out).mono ?_); (case side1 => exact HO258.out); rintro e w15 ⟨v261, v265, rfl, ho0, ho1, hb⟩; refine ⟨_, rfl, ?_⟩; have n0_ := Aside0.mk (Kd.V_below (by (with_reducible repeat (first | apply Kd.V_alloc | apply Kd.V_drewN | apply Kd.V_drew)); exact HO258.out) hb); have n1_ := Aside0.mk (Kd.V_lower (Kd.V_mono (ok' := fun k_ => k_ ≠ gb253) ho0 (fun k_ hk_ => Or.elim hk_ (fun hs_ => hs_) (fun hn_ => (Kd.freshB (g := gb253) (o := .cells #[.slice A0_0 l0_0.length c0_0, .int .i64 a0_1, .slice A0_2 l0_2.length c0_2, .int .u8 a0_3] 46 (0, 0)) (by (with_reducible repeat (first | refine blk_drewN ?_ _ | refine blk_drew ?_ | refine blk_alloc ?_ _)); exact BK253.out) k_ hn_)))) (below_size (by repeat (first | (with_reducible first | exact HB.out | apply below_alloc | apply pw_below_drewN | apply below_drew1 | refine below_set ?_ GE253.out) | exact HB.out)))); have n2_ := Aside0.mk (Kd.V_lower (Kd.V_mono (ok' := fun k_ => k_ ≠ gb253) ho1 (fun k_ hk_ => Or.elim hk_ (fun hs_ => hs_) (fun hn_ => (Kd.freshB (g := gb253) (o := .cells #[.slice A0_0 l0_0.length c0_0, .int .i64 a0_1, .slice A0_2 l0_2.length c0_2, .int .u8 a0_3] 46 (0, 0)) (by (with_reducible repeat (first | refine blk_drewN ?_ _ | refine blk_drew ?_ | refine blk_alloc ?_ _)); exact BK253.out) k_ hn_)))) (below_size (by repeat (first | (with_reducible first | exact HB.out | apply below_alloc | apply pw_below_drewN | apply below_drew1 | refine below_set ?_ GE253.out) | exact HB.out)))); have n3_ := Aside0.mk (blk_below (g := gb253) (o := .cells #[.slice A0_0 l0_0.length c0_0, .int .i64 a0_1, .slice A0_2 l0_2.length c0_2, .int .u8 a0_3] 46 (0, 0)) (by (with_reducible repeat (first | refine blk_drewN ?_ _ | refine blk_drew ?_ | refine blk_alloc ?_ _)); exact BK253.out) hb); have n4_ := Aside0.mk (below_step (by repeat (first | (with_reducible first | exact HB.out | apply below_alloc | apply pw_below_drewN | apply below_drew1 | refine below_set ?_ GE253.out) | exact HB.out)) hb); clear HO258; clear BK253; clear HB; have HO258 := n0_; have HO262 := n1_; have HO266 := n2_; have BK253 := n3_; have HB := n4_; clear n0_ n1_ n2_ n3_ n4_; (try clear hb); (try clear hb2); (try clear hk); (try clear hi); (try clear ho0); (try clear ho1)) | ((with_reducible refine gate_dst (N := 9) rfl ?_); (try (refine gate_guard (by rfl) ?_; dsimp only)); refine box_event ?hg (N := 9) ?hd (cs := #[.int .i64 0, .slice none 0 0, .bool false]) (t := 29) ?hr ?_; (case hd => rfl); (case hg => rfl); (case hr => first | (go_simp; done) | (go_simp; rfl)); intro gb268 hg w16 hbox hb; have n0_ := Aside0.mk (Kd.V_below (Kd.V_elderB (by (with_reducible repeat (first | apply Kd.V_alloc | apply Kd.V_drewN | apply Kd.V_drew)); exact HO258.out) gb268 (Nat.le_of_eq hg.symm)) hb); have n1_ := Aside0.mk (Kd.V_below (Kd.V_elderB (by (with_reducible repeat (first | apply Kd.V_alloc | apply Kd.V_drewN | apply Kd.V_drew)); exact HO262.out) gb268 (Nat.le_of_eq hg.symm)) hb); have n2_ := Aside0.mk (Kd.V_below (Kd.V_elderB (by (with_reducible repeat (first | apply Kd.V_alloc | apply Kd.V_drewN | apply Kd.V_drew)); exact HO266.out) gb268 (Nat.le_of_eq hg.symm)) hb); have n3_ := Aside0.mk (blk_below (g := gb253) (o := .cells #[.slice A0_0 l0_0.length c0_0, .int .i64 a0_1, .slice A0_2 l0_2.length c0_2, .int .u8 a0_3] 46 (0, 0)) (by (with_reducible repeat (first | refine blk_drewN ?_ _ | refine blk_drew ?_ | refine blk_alloc ?_ _)); exact BK253.out) hb); have n4_ := Aside0.mk (below_step (by repeat (first | (with_reducible first | exact HB.out | apply below_alloc | apply pw_below_drewN | apply below_drew1 | refine below_set ?_ GE253.out) | exact HB.out)) hb); have n5_ := Aside0.mk (hbox); have n6_ := Aside0.mk ((by rw [hg]; exact (below_size (by repeat (first | (with_reducible first | exact HB.out | apply below_alloc | apply pw_below_drewN | apply below_drew1 | refine below_set ?_ GE253.out) | exact HB.out))) : w.heap.size ≤ gb268)); have n7_ := Aside0.mk ((by rw [hg]; exact (below_size (by repeat (first | (with_reducible first | exact HB.out | apply below_alloc | apply pw_below_drewN | apply below_drew1 | refine below_set ?_ GE253.out) | exact HB.out))) : w.heap.size ≤ gb268)); have n8_ := Aside0.mk ((by rw [hg]; exact Nat.ne_of_lt (blk_lt (g := gb253) (o := .cells #[.slice A0_0 l0_0.length c0_0, .int .i64 a0_1, .slice A0_2 l0_2.length c0_2, .int .u8 a0_3] 46 (0, 0)) (by (with_reducible repeat (first | refine blk_drewN ?_ _ | refine blk_drew ?_ | refine blk_alloc ?_ _)); exact BK253.out)) : gb253 ≠ gb268)); have n9_ := Aside0.mk ((by rw [hg]; exact Nat.ne_of_gt (blk_lt (g := gb253) (o := .cells #[.slice A0_0 l0_0.length c0_0, .int .i64 a0_1, .slice A0_2 l0_2.length c0_2, .int .u8 a0_3] 46 (0, 0)) (by (with_reducible repeat (first | refine blk_drewN ?_ _ | refine blk_drew ?_ | refine blk_alloc ?_ _)); exact BK253.out)) : gb268 ≠ gb253)); clear HO258; clear HO262; clear HO266; clear BK253; clear HB; have HO258 := n0_; have HO262 := n1_; have HO266 := n2_; have BK253 := n3_; have HB := n4_; have BK268 := n5_; have GW268 := n6_; have GE268 := n7_; have NB253_268 := n8_; have NB268_253 := n9_; clear n0_ n1_ n2_ n3_ n4_ n5_ n6_ n7_ n8_ n9_; clear hb hbox hg; have hnb17 := NB268_253.out; have hnc17 := NB253_268.out; have hcz18_0 : w16.cell? ⟨gb268, 0, none⟩ = some (.int .i64 0) := (blk_cell BK268.out 0).trans rfl; have hcz18_1 : w16.cell? ⟨gb268, 1, none⟩ = some (.slice none 0 0) := (blk_cell BK268.out 1).trans rfl; have hcz18_2 : w16.cell? ⟨gb268, 2, none⟩ = some (.bool false) := (blk_cell BK268.out 2).trans rfl; have hfz18_0 := blk_frozen BK268.out 0; have hfz18_1 := blk_frozen BK268.out 1; have hfz18_2 := blk_frozen BK268.out 2; obtain ⟨Ao19, co19, eo19⟩ := Kd.V_slice HO262.out; subst eo19))
    (try simp only [Act.put, List.setIfInBounds_toArray, List.set_cons_zero, List.set_cons_succ])
    go_cut [86] (fun v86 wc => ∃ (kq : Nat) (x86_11 : Bool), v86 = .bool x86_11 ∧ Aside0 (precentorlaw05_NetBack.j1 kq l0_0 a0_3 t254 t256 x86_11 = some r) ∧ Aside0 (kq ≤ kj2) ∧ Aside0 (Kd.V k29 29 wc w.heap.size (fun k_ => k_ ≠ gb253 ∧ k_ ≠ gb268) (.slice Ao14 t256.length co14) t256) ∧ Aside0 (Kd.V (Kd.int .u8) 5 wc w.heap.size (fun k_ => k_ ≠ gb253 ∧ k_ ≠ gb268) (.slice Ao19 t260.length co19) t260) ∧ Aside0 (wc.heap[gb253]? = some (.cells #[(.slice A0_0 l0_0.length c0_0), .int .i64 a0_1, (.slice A0_2 l0_2.length c0_2), .int .u8 a0_3] 46 (0, 0))) ∧ Aside0 (wc.heap[gb268]? = some (.cells #[.int .i64 t259, (.slice Ao19 t260.length co19), .bool t263] 29 (0, 0))) ∧ Aside0 (Below w.heap.size w wc))
    case first =>
     have H := HC12.out
     clear HC12
     by_cases c20 : (t256.length : Int) = (wrap64 ((l0_0.length : Int) + 1))
     ·
      rw [if_pos c20] at H
      have c20b0 : ((t256.length : Int) == (wrap64 ((l0_0.length : Int) + 1))) = true := beq_iff_eq.mpr c20
      have c20b1 : ((t256.length : Int) != (wrap64 ((l0_0.length : Int) + 1))) = false := bne_eq_false_iff_eq.mpr c20
      clear c20
      (first | rw [c20b0] | (simp only [i64_w, i32_w]; rw [c20b0]) | skip)
      by_cases c21 : t267 = 0
      ·
       rw [if_pos c21] at H
       have c21b0 : (t267 == 0) = true := beq_iff_eq.mpr c21
       have c21b1 : (t267 != 0) = false := bne_eq_false_iff_eq.mpr c21
       clear c21
       by_cases c22 : t259 = a0_1
       ·
        rw [if_pos c22] at H
        have c22b0 : (t259 == a0_1) = true := beq_iff_eq.mpr c22
        have c22b1 : (t259 != a0_1) = false := bne_eq_false_iff_eq.mpr c22
        clear c22
        by_cases c23 : (strOfNums t260).toList = (strOfNums l0_2).toList
        ·
         rw [if_pos c23] at H
         have c23b0 : ((strOfNums t260).toList == (strOfNums l0_2).toList) = true := beq_iff_eq.mpr c23
         have c23b1 : ((strOfNums t260).toList != (strOfNums l0_2).toList) = false := bne_eq_false_iff_eq.mpr c23
         clear c23
         by_cases c24 : t263 = true
         ·
          subst c24
          have H1 : (precentorlaw05_NetBack.j1 kj2 l0_0 a0_3 t254 t256 true) = some r := by rw [if_pos rfl] at H; exact H
          clear H
          have H := H1
          clear H1
          have H' := Aside0.mk H
          clear H
          have hnb25 := NB268_253.out
          have hnc25 := NB253_268.out
          have hcz26_0 : w16.cell? ⟨gb268, 0, none⟩ = some (.int .i64 0) := (blk_cell BK268.out 0).trans rfl
          have hcz26_1 : w16.cell? ⟨gb268, 1, none⟩ = some (.slice none 0 0) := (blk_cell BK268.out 1).trans rfl
          have hcz26_2 : w16.cell? ⟨gb268, 2, none⟩ = some (.bool false) := (blk_cell BK268.out 2).trans rfl
          have hfz26_0 := blk_frozen BK268.out 0
          have hfz26_1 := blk_frozen BK268.out 1
          have hfz26_2 := blk_frozen BK268.out 2
          have hcv27 := (by first | exact own_string (P := Try.prog) Try.underlying23 Try.underlying5 Try.underlying9 (Kd.own_of_R HO262.out) | exact V_string (P := Try.prog) Try.underlying23 Try.underlying5 Try.underlying9 HO262.out); (try have hcv27s := V_string_s (P := Try.prog) Try.underlying23 Try.underlying5 Try.underlying9 HO262.out); (try have hcv27t := V_string_t (P := Try.prog) Try.underlying23 Try.underlying5 Try.underlying9 HO262.out); have hcv27d := (by first | exact own_string_d (P := Try.prog) Try.underlying23 Try.underlying5 Try.underlying9 HO262.out | exact V_string_d (P := Try.prog) Try.underlying23 Try.underlying5 Try.underlying9 HO262.out)
          have hcv28 := Kd.C_string (P := Try.prog) (A := A0_2) (c := c0_2) Try.underlying23 Try.underlying5 Try.underlying9 (Kd.C_below HR0_2.out HB.out); (try have hcv28s := C_string_s (P := Try.prog) (A := A0_2) (c := c0_2) Try.underlying23 Try.underlying5 Try.underlying9 HR0_2.out HB.out GW268.out); (try have hcv28t := C_string_t (P := Try.prog) (A := A0_2) (c := c0_2) Try.underlying23 Try.underlying5 Try.underlying9 HR0_2.out HB.out GW268.out)
          go_wp2
          go_meet
          case rel => exact ⟨_, (true), (by first | rfl | (simp; done) | (simp [*]; done)), H', ⟨by have := HJ2.out; first | omega | exact Nat.le_refl _⟩, ⟨by (with_reducible repeat (first | apply Kd.V_alloc | apply Kd.V_drewN | apply Kd.V_drew)); exact Kd.V_mono (Kd.V_far (p := ⟨gb268, 2, none⟩) (Kd.V_far (p := ⟨gb268, 1, none⟩) (Kd.V_far (p := ⟨gb268, 0, none⟩) (Kd.V_mono HO258.out (fun k_ hk => (⟨hk, hk.2⟩ : _ ∧ k_ ≠ gb268))) (fun _ hk => hk.2) (.int .i64 t259)) (fun _ hk => hk.2) (.slice Ao19 t260.length co19)) (fun _ hk => hk.2) (.bool true)) (fun _ hk => ⟨hk.1.1, hk.1.2⟩)⟩, ⟨by (with_reducible repeat (first | apply Kd.V_alloc | apply Kd.V_drewN | apply Kd.V_drew)); exact Kd.V_mono (Kd.V_far (p := ⟨gb268, 2, none⟩) (Kd.V_far (p := ⟨gb268, 1, none⟩) (Kd.V_far (p := ⟨gb268, 0, none⟩) (Kd.V_mono HO262.out (fun k_ hk => (⟨hk, hk.2⟩ : _ ∧ k_ ≠ gb268))) (fun _ hk => hk.2) (.int .i64 t259)) (fun _ hk => hk.2) (.slice Ao19 t260.length co19)) (fun _ hk => hk.2) (.bool true)) (fun _ hk => ⟨hk.1.1, hk.1.2⟩)⟩, ⟨by (with_reducible repeat (first | refine blk_drewN ?_ _ | refine blk_drew ?_ | refine blk_alloc ?_ _)); refine blk_far ?_ NB253_268.out _; (with_reducible repeat (first | refine blk_drewN ?_ _ | refine blk_drew ?_ | refine blk_alloc ?_ _)); refine blk_far ?_ NB253_268.out _; (with_reducible repeat (first | refine blk_drewN ?_ _ | refine blk_drew ?_ | refine blk_alloc ?_ _)); refine blk_far ?_ NB253_268.out _; (with_reducible repeat (first | refine blk_drewN ?_ _ | refine blk_drew ?_ | refine blk_alloc ?_ _)); exact BK253.out⟩, ⟨by (with_reducible repeat (first | refine blk_drewN ?_ _ | refine blk_drew ?_ | refine blk_alloc ?_ _)); refine blk_put (cs := #[.int .i64 t259, .slice Ao19 t260.length co19, .bool false]) ?_ 2 _ rfl; (with_reducible repeat (first | refine blk_drewN ?_ _ | refine blk_drew ?_ | refine blk_alloc ?_ _)); refine blk_put (cs := #[.int .i64 t259, .slice none 0 0, .bool false]) ?_ 1 _ rfl; (with_reducible repeat (first | refine blk_drewN ?_ _ | refine blk_drew ?_ | refine blk_alloc ?_ _)); refine blk_put (cs := #[.int .i64 0, .slice none 0 0, .bool false]) ?_ 0 _ rfl; (with_reducible repeat (first | refine blk_drewN ?_ _ | refine blk_drew ?_ | refine blk_alloc ?_ _)); exact BK268.out⟩, ⟨by repeat (first | (with_reducible first | exact HB.out | apply below_alloc | apply pw_below_drewN | apply below_drew1 | refine below_set ?_ GE253.out | refine below_set ?_ GE268.out) | exact HB.out)⟩⟩
         ·
          replace c24 := Bool.eq_false_iff.mpr c24
          subst c24
          have H1 : ((precentorref05_Same.f kj2 t264 l0_0).bind fun t269 => (precentorlaw05_NetBack.j1 kj2 l0_0 a0_3 t254 t256 (!t269))) = some r := by rw [if_neg (show ¬ (false = true) by decide)] at H; exact H
          clear H
          have H := H1
          clear H1
          replace H := Option.bind_eq_some_iff.mp H
          obtain ⟨t269, A290, H⟩ := H
          replace H : (precentorlaw05_NetBack.j1 kj2 l0_0 a0_3 t254 t256 (!t269)) = some r := H
          have A29 := Aside0.mk A290
          clear A290
          have H' := Aside0.mk H
          clear H
          have hnb30 := NB268_253.out
          have hnc30 := NB253_268.out
          have hcz31_0 : w16.cell? ⟨gb268, 0, none⟩ = some (.int .i64 0) := (blk_cell BK268.out 0).trans rfl
          have hcz31_1 : w16.cell? ⟨gb268, 1, none⟩ = some (.slice none 0 0) := (blk_cell BK268.out 1).trans rfl
          have hcz31_2 : w16.cell? ⟨gb268, 2, none⟩ = some (.bool false) := (blk_cell BK268.out 2).trans rfl
          have hfz31_0 := blk_frozen BK268.out 0
          have hfz31_1 := blk_frozen BK268.out 1
          have hfz31_2 := blk_frozen BK268.out 2
          have hcv32 := (by first | exact own_string (P := Try.prog) Try.underlying23 Try.underlying5 Try.underlying9 (Kd.own_of_R HO262.out) | exact V_string (P := Try.prog) Try.underlying23 Try.underlying5 Try.underlying9 HO262.out); (try have hcv32s := V_string_s (P := Try.prog) Try.underlying23 Try.underlying5 Try.underlying9 HO262.out); (try have hcv32t := V_string_t (P := Try.prog) Try.underlying23 Try.underlying5 Try.underlying9 HO262.out); have hcv32d := (by first | exact own_string_d (P := Try.prog) Try.underlying23 Try.underlying5 Try.underlying9 HO262.out | exact V_string_d (P := Try.prog) Try.underlying23 Try.underlying5 Try.underlying9 HO262.out)
          have hcv33 := Kd.C_string (P := Try.prog) (A := A0_2) (c := c0_2) Try.underlying23 Try.underlying5 Try.underlying9 (Kd.C_below HR0_2.out HB.out); (try have hcv33s := C_string_s (P := Try.prog) (A := A0_2) (c := c0_2) Try.underlying23 Try.underlying5 Try.underlying9 HR0_2.out HB.out GW268.out); (try have hcv33t := C_string_t (P := Try.prog) (A := A0_2) (c := c0_2) Try.underlying23 Try.underlying5 Try.underlying9 HR0_2.out HB.out GW268.out)
          obtain ⟨Ao34, co34, eo34⟩ := Kd.V_slice HO266.out
          subst eo34
          go_wp2_with (first | (go_at_call 19; (with_reducible refine (precentorref05_Same.calls kj2 _ _ t264 _ _ l0_0 t269 _ ?side1 ?side2 ?side3 ?side4 A29.out).mono ?_); (case side1 => refine (Kd.V_reads' (e := 29) (base := w.heap.size) (ok := fun k_ => (k_ ≠ gb253 ∧ k_ ≠ gb268)) (n := t264.length) (c := co34) ?_).2.2; exact (by (with_reducible repeat (first | apply Kd.V_alloc | apply Kd.V_drewN | apply Kd.V_drew)); exact (Kd.V_mono (Kd.V_far (p := ⟨gb268, 2, none⟩) (Kd.V_far (p := ⟨gb268, 1, none⟩) (Kd.V_far (p := ⟨gb268, 0, none⟩) (Kd.V_mono HO266.out (fun k_ hk => (⟨hk, hk.2⟩ : _ ∧ k_ ≠ gb268))) (fun _ hk => hk.2) (.int .i64 t259)) (fun _ hk => hk.2) (.slice Ao19 t260.length co19)) (fun _ hk => hk.2) (.bool false)) (fun _ h_ => h_.1)))); (case side2 => exact (Kd.V_reads' HO266.out).2.1); (case side3 => exact Kd.C_below HR0_0.out (by repeat (first | (with_reducible first | exact HB.out | apply below_alloc | apply pw_below_drewN | apply below_drew1 | refine below_set ?_ GE253.out | refine below_set ?_ GE268.out) | exact HB.out))); (case side4 => exact HC0_0.out); rintro e w35 ⟨rfl, hb⟩; have n0_ := Aside0.mk (Kd.V_below (by (with_reducible repeat (first | apply Kd.V_alloc | apply Kd.V_drewN | apply Kd.V_drew)); exact (Kd.V_mono (Kd.V_far (p := ⟨gb268, 2, none⟩) (Kd.V_far (p := ⟨gb268, 1, none⟩) (Kd.V_far (p := ⟨gb268, 0, none⟩) (Kd.V_mono HO258.out (fun k_ hk => (⟨hk, hk.2⟩ : _ ∧ k_ ≠ gb268))) (fun _ hk => hk.2) (.int .i64 t259)) (fun _ hk => hk.2) (.slice Ao19 t260.length co19)) (fun _ hk => hk.2) (.bool false)) (fun _ h_ => h_.1))) hb); have n1_ := Aside0.mk (Kd.V_below (by (with_reducible repeat (first | apply Kd.V_alloc | apply Kd.V_drewN | apply Kd.V_drew)); exact (Kd.V_mono (Kd.V_far (p := ⟨gb268, 2, none⟩) (Kd.V_far (p := ⟨gb268, 1, none⟩) (Kd.V_far (p := ⟨gb268, 0, none⟩) (Kd.V_mono HO262.out (fun k_ hk => (⟨hk, hk.2⟩ : _ ∧ k_ ≠ gb268))) (fun _ hk => hk.2) (.int .i64 t259)) (fun _ hk => hk.2) (.slice Ao19 t260.length co19)) (fun _ hk => hk.2) (.bool false)) (fun _ h_ => h_.1))) hb); have n2_ := Aside0.mk (Kd.V_below (by (with_reducible repeat (first | apply Kd.V_alloc | apply Kd.V_drewN | apply Kd.V_drew)); exact (Kd.V_mono (Kd.V_far (p := ⟨gb268, 2, none⟩) (Kd.V_far (p := ⟨gb268, 1, none⟩) (Kd.V_far (p := ⟨gb268, 0, none⟩) (Kd.V_mono HO266.out (fun k_ hk => (⟨hk, hk.2⟩ : _ ∧ k_ ≠ gb268))) (fun _ hk => hk.2) (.int .i64 t259)) (fun _ hk => hk.2) (.slice Ao19 t260.length co19)) (fun _ hk => hk.2) (.bool false)) (fun _ h_ => h_.1))) hb); have n3_ := Aside0.mk (blk_below (g := gb253) (o := .cells #[.slice A0_0 l0_0.length c0_0, .int .i64 a0_1, .slice A0_2 l0_2.length c0_2, .int .u8 a0_3] 46 (0, 0)) (by (with_reducible repeat (first | refine blk_drewN ?_ _ | refine blk_drew ?_ | refine blk_alloc ?_ _)); refine blk_far ?_ NB253_268.out _; (with_reducible repeat (first | refine blk_drewN ?_ _ | refine blk_drew ?_ | refine blk_alloc ?_ _)); refine blk_far ?_ NB253_268.out _; (with_reducible repeat (first | refine blk_drewN ?_ _ | refine blk_drew ?_ | refine blk_alloc ?_ _)); refine blk_far ?_ NB253_268.out _; (with_reducible repeat (first | refine blk_drewN ?_ _ | refine blk_drew ?_ | refine blk_alloc ?_ _)); exact BK253.out) hb); have n4_ := Aside0.mk (blk_below (g := gb268) (o := .cells #[.int .i64 t259, .slice Ao19 t260.length co19, .bool false] 29 (0, 0)) (by (with_reducible repeat (first | refine blk_drewN ?_ _ | refine blk_drew ?_ | refine blk_alloc ?_ _)); refine blk_put (cs := #[.int .i64 t259, .slice Ao19 t260.length co19, .bool false]) ?_ 2 _ rfl; (with_reducible repeat (first | refine blk_drewN ?_ _ | refine blk_drew ?_ | refine blk_alloc ?_ _)); refine blk_put (cs := #[.int .i64 t259, .slice none 0 0, .bool false]) ?_ 1 _ rfl; (with_reducible repeat (first | refine blk_drewN ?_ _ | refine blk_drew ?_ | refine blk_alloc ?_ _)); refine blk_put (cs := #[.int .i64 0, .slice none 0 0, .bool false]) ?_ 0 _ rfl; (with_reducible repeat (first | refine blk_drewN ?_ _ | refine blk_drew ?_ | refine blk_alloc ?_ _)); exact BK268.out) hb); have n5_ := Aside0.mk (below_step (by repeat (first | (with_reducible first | exact HB.out | apply below_alloc | apply pw_below_drewN | apply below_drew1 | refine below_set ?_ GE253.out | refine below_set ?_ GE268.out) | exact HB.out)) hb); clear HO258; clear HO262; clear HO266; clear BK253; clear BK268; clear HB; have HO258 := n0_; have HO262 := n1_; have HO266 := n2_; have BK253 := n3_; have BK268 := n4_; have HB := n5_; clear n0_ n1_ n2_ n3_ n4_ n5_; (try clear hb); (try clear hb2); (try clear hk); (try clear hi)))
          go_meet
          case rel => exact ⟨_, (!t269), (by first | rfl | (simp; done) | (simp [*]; done)), H', ⟨by have := HJ2.out; first | omega | exact Nat.le_refl _⟩, ⟨by (with_reducible repeat (first | apply Kd.V_alloc | apply Kd.V_drewN | apply Kd.V_drew)); exact HO258.out⟩, ⟨by (with_reducible repeat (first | apply Kd.V_alloc | apply Kd.V_drewN | apply Kd.V_drew)); exact HO262.out⟩, ⟨by (with_reducible repeat (first | refine blk_drewN ?_ _ | refine blk_drew ?_ | refine blk_alloc ?_ _)); exact BK253.out⟩, ⟨by (with_reducible repeat (first | refine blk_drewN ?_ _ | refine blk_drew ?_ | refine blk_alloc ?_ _)); exact BK268.out⟩, ⟨by repeat (first | (with_reducible first | exact HB.out | apply below_alloc | apply pw_below_drewN | apply below_drew1 | refine below_set ?_ GE253.out | refine below_set ?_ GE268.out) | exact HB.out)⟩⟩
        ·
         rw [if_neg c23] at H
         have c23b0 : ((strOfNums t260).toList == (strOfNums l0_2).toList) = false := beq_eq_false_iff_ne.mpr c23
         have c23b1 : ((strOfNums t260).toList != (strOfNums l0_2).toList) = true := bne_iff_ne.mpr c23
         have H' := Aside0.mk H
         clear H
         have hnb36 := NB268_253.out
         have hnc36 := NB253_268.out
         have hcz37_0 : w16.cell? ⟨gb268, 0, none⟩ = some (.int .i64 0) := (blk_cell BK268.out 0).trans rfl
         have hcz37_1 : w16.cell? ⟨gb268, 1, none⟩ = some (.slice none 0 0) := (blk_cell BK268.out 1).trans rfl
         have hcz37_2 : w16.cell? ⟨gb268, 2, none⟩ = some (.bool false) := (blk_cell BK268.out 2).trans rfl
         have hfz37_0 := blk_frozen BK268.out 0
         have hfz37_1 := blk_frozen BK268.out 1
         have hfz37_2 := blk_frozen BK268.out 2
         have hcv38 := (by first | exact own_string (P := Try.prog) Try.underlying23 Try.underlying5 Try.underlying9 (Kd.own_of_R HO262.out) | exact V_string (P := Try.prog) Try.underlying23 Try.underlying5 Try.underlying9 HO262.out); (try have hcv38s := V_string_s (P := Try.prog) Try.underlying23 Try.underlying5 Try.underlying9 HO262.out); (try have hcv38t := V_string_t (P := Try.prog) Try.underlying23 Try.underlying5 Try.underlying9 HO262.out); have hcv38d := (by first | exact own_string_d (P := Try.prog) Try.underlying23 Try.underlying5 Try.underlying9 HO262.out | exact V_string_d (P := Try.prog) Try.underlying23 Try.underlying5 Try.underlying9 HO262.out)
         have hcv39 := Kd.C_string (P := Try.prog) (A := A0_2) (c := c0_2) Try.underlying23 Try.underlying5 Try.underlying9 (Kd.C_below HR0_2.out HB.out); (try have hcv39s := C_string_s (P := Try.prog) (A := A0_2) (c := c0_2) Try.underlying23 Try.underlying5 Try.underlying9 HR0_2.out HB.out GW268.out); (try have hcv39t := C_string_t (P := Try.prog) (A := A0_2) (c := c0_2) Try.underlying23 Try.underlying5 Try.underlying9 HR0_2.out HB.out GW268.out)
         go_wp2
         go_meet
         case rel => exact ⟨_, (true), (by first | rfl | (simp; done) | (simp [*]; done)), H', ⟨by have := HJ2.out; first | omega | exact Nat.le_refl _⟩, ⟨by (with_reducible repeat (first | apply Kd.V_alloc | apply Kd.V_drewN | apply Kd.V_drew)); exact Kd.V_mono (Kd.V_far (p := ⟨gb268, 2, none⟩) (Kd.V_far (p := ⟨gb268, 1, none⟩) (Kd.V_far (p := ⟨gb268, 0, none⟩) (Kd.V_mono HO258.out (fun k_ hk => (⟨hk, hk.2⟩ : _ ∧ k_ ≠ gb268))) (fun _ hk => hk.2) (.int .i64 t259)) (fun _ hk => hk.2) (.slice Ao19 t260.length co19)) (fun _ hk => hk.2) (.bool t263)) (fun _ hk => ⟨hk.1.1, hk.1.2⟩)⟩, ⟨by (with_reducible repeat (first | apply Kd.V_alloc | apply Kd.V_drewN | apply Kd.V_drew)); exact Kd.V_mono (Kd.V_far (p := ⟨gb268, 2, none⟩) (Kd.V_far (p := ⟨gb268, 1, none⟩) (Kd.V_far (p := ⟨gb268, 0, none⟩) (Kd.V_mono HO262.out (fun k_ hk => (⟨hk, hk.2⟩ : _ ∧ k_ ≠ gb268))) (fun _ hk => hk.2) (.int .i64 t259)) (fun _ hk => hk.2) (.slice Ao19 t260.length co19)) (fun _ hk => hk.2) (.bool t263)) (fun _ hk => ⟨hk.1.1, hk.1.2⟩)⟩, ⟨by (with_reducible repeat (first | refine blk_drewN ?_ _ | refine blk_drew ?_ | refine blk_alloc ?_ _)); refine blk_far ?_ NB253_268.out _; (with_reducible repeat (first | refine blk_drewN ?_ _ | refine blk_drew ?_ | refine blk_alloc ?_ _)); refine blk_far ?_ NB253_268.out _; (with_reducible repeat (first | refine blk_drewN ?_ _ | refine blk_drew ?_ | refine blk_alloc ?_ _)); refine blk_far ?_ NB253_268.out _; (with_reducible repeat (first | refine blk_drewN ?_ _ | refine blk_drew ?_ | refine blk_alloc ?_ _)); exact BK253.out⟩, ⟨by (with_reducible repeat (first | refine blk_drewN ?_ _ | refine blk_drew ?_ | refine blk_alloc ?_ _)); refine blk_put (cs := #[.int .i64 t259, .slice Ao19 t260.length co19, .bool false]) ?_ 2 _ rfl; (with_reducible repeat (first | refine blk_drewN ?_ _ | refine blk_drew ?_ | refine blk_alloc ?_ _)); refine blk_put (cs := #[.int .i64 t259, .slice none 0 0, .bool false]) ?_ 1 _ rfl; (with_reducible repeat (first | refine blk_drewN ?_ _ | refine blk_drew ?_ | refine blk_alloc ?_ _)); refine blk_put (cs := #[.int .i64 0, .slice none 0 0, .bool false]) ?_ 0 _ rfl; (with_reducible repeat (first | refine blk_drewN ?_ _ | refine blk_drew ?_ | refine blk_alloc ?_ _)); exact BK268.out⟩, ⟨by repeat (first | (with_reducible first | exact HB.out | apply below_alloc | apply pw_below_drewN | apply below_drew1 | refine below_set ?_ GE253.out | refine below_set ?_ GE268.out) | exact HB.out)⟩⟩
       ·
        rw [if_neg c22] at H
        have c22b0 : (t259 == a0_1) = false := beq_eq_false_iff_ne.mpr c22
        have c22b1 : (t259 != a0_1) = true := bne_iff_ne.mpr c22
        have H' := Aside0.mk H
        clear H
        have hnb40 := NB268_253.out
        have hnc40 := NB253_268.out
        have hcz41_0 : w16.cell? ⟨gb268, 0, none⟩ = some (.int .i64 0) := (blk_cell BK268.out 0).trans rfl
        have hcz41_1 : w16.cell? ⟨gb268, 1, none⟩ = some (.slice none 0 0) := (blk_cell BK268.out 1).trans rfl
        have hcz41_2 : w16.cell? ⟨gb268, 2, none⟩ = some (.bool false) := (blk_cell BK268.out 2).trans rfl
        have hfz41_0 := blk_frozen BK268.out 0
        have hfz41_1 := blk_frozen BK268.out 1
        have hfz41_2 := blk_frozen BK268.out 2
        go_wp2
        go_meet
        case rel => exact ⟨_, (true), (by first | rfl | (simp; done) | (simp [*]; done)), H', ⟨by have := HJ2.out; first | omega | exact Nat.le_refl _⟩, ⟨by (with_reducible repeat (first | apply Kd.V_alloc | apply Kd.V_drewN | apply Kd.V_drew)); exact Kd.V_mono (Kd.V_far (p := ⟨gb268, 2, none⟩) (Kd.V_far (p := ⟨gb268, 1, none⟩) (Kd.V_far (p := ⟨gb268, 0, none⟩) (Kd.V_mono HO258.out (fun k_ hk => (⟨hk, hk.2⟩ : _ ∧ k_ ≠ gb268))) (fun _ hk => hk.2) (.int .i64 t259)) (fun _ hk => hk.2) (.slice Ao19 t260.length co19)) (fun _ hk => hk.2) (.bool t263)) (fun _ hk => ⟨hk.1.1, hk.1.2⟩)⟩, ⟨by (with_reducible repeat (first | apply Kd.V_alloc | apply Kd.V_drewN | apply Kd.V_drew)); exact Kd.V_mono (Kd.V_far (p := ⟨gb268, 2, none⟩) (Kd.V_far (p := ⟨gb268, 1, none⟩) (Kd.V_far (p := ⟨gb268, 0, none⟩) (Kd.V_mono HO262.out (fun k_ hk => (⟨hk, hk.2⟩ : _ ∧ k_ ≠ gb268))) (fun _ hk => hk.2) (.int .i64 t259)) (fun _ hk => hk.2) (.slice Ao19 t260.length co19)) (fun _ hk => hk.2) (.bool t263)) (fun _ hk => ⟨hk.1.1, hk.1.2⟩)⟩, ⟨by (with_reducible repeat (first | refine blk_drewN ?_ _ | refine blk_drew ?_ | refine blk_alloc ?_ _)); refine blk_far ?_ NB253_268.out _; (with_reducible repeat (first | refine blk_drewN ?_ _ | refine blk_drew ?_ | refine blk_alloc ?_ _)); refine blk_far ?_ NB253_268.out _; (with_reducible repeat (first | refine blk_drewN ?_ _ | refine blk_drew ?_ | refine blk_alloc ?_ _)); refine blk_far ?_ NB253_268.out _; (with_reducible repeat (first | refine blk_drewN ?_ _ | refine blk_drew ?_ | refine blk_alloc ?_ _)); exact BK253.out⟩, ⟨by (with_reducible repeat (first | refine blk_drewN ?_ _ | refine blk_drew ?_ | refine blk_alloc ?_ _)); refine blk_put (cs := #[.int .i64 t259, .slice Ao19 t260.length co19, .bool false]) ?_ 2 _ rfl; (with_reducible repeat (first | refine blk_drewN ?_ _ | refine blk_drew ?_ | refine blk_alloc ?_ _)); refine blk_put (cs := #[.int .i64 t259, .slice none 0 0, .bool false]) ?_ 1 _ rfl; (with_reducible repeat (first | refine blk_drewN ?_ _ | refine blk_drew ?_ | refine blk_alloc ?_ _)); refine blk_put (cs := #[.int .i64 0, .slice none 0 0, .bool false]) ?_ 0 _ rfl; (with_reducible repeat (first | refine blk_drewN ?_ _ | refine blk_drew ?_ | refine blk_alloc ?_ _)); exact BK268.out⟩, ⟨by repeat (first | (with_reducible first | exact HB.out | apply below_alloc | apply pw_below_drewN | apply below_drew1 | refine below_set ?_ GE253.out | refine below_set ?_ GE268.out) | exact HB.out)⟩⟩
      ·
       rw [if_neg c21] at H
       have c21b0 : (t267 == 0) = false := beq_eq_false_iff_ne.mpr c21
       have c21b1 : (t267 != 0) = true := bne_iff_ne.mpr c21
       have H' := Aside0.mk H
       clear H
       go_wp2
       go_meet
       case rel => exact ⟨_, (true), (by first | rfl | (simp; done) | (simp [*]; done)), H', ⟨by have := HJ2.out; first | omega | exact Nat.le_refl _⟩, ⟨by (with_reducible repeat (first | apply Kd.V_alloc | apply Kd.V_drewN | apply Kd.V_drew)); exact Kd.V_mono (Kd.V_far (p := ⟨gb268, 2, none⟩) (Kd.V_far (p := ⟨gb268, 1, none⟩) (Kd.V_far (p := ⟨gb268, 0, none⟩) (Kd.V_mono HO258.out (fun k_ hk => (⟨hk, hk.2⟩ : _ ∧ k_ ≠ gb268))) (fun _ hk => hk.2) (.int .i64 t259)) (fun _ hk => hk.2) (.slice Ao19 t260.length co19)) (fun _ hk => hk.2) (.bool t263)) (fun _ hk => ⟨hk.1.1, hk.1.2⟩)⟩, ⟨by (with_reducible repeat (first | apply Kd.V_alloc | apply Kd.V_drewN | apply Kd.V_drew)); exact Kd.V_mono (Kd.V_far (p := ⟨gb268, 2, none⟩) (Kd.V_far (p := ⟨gb268, 1, none⟩) (Kd.V_far (p := ⟨gb268, 0, none⟩) (Kd.V_mono HO262.out (fun k_ hk => (⟨hk, hk.2⟩ : _ ∧ k_ ≠ gb268))) (fun _ hk => hk.2) (.int .i64 t259)) (fun _ hk => hk.2) (.slice Ao19 t260.length co19)) (fun _ hk => hk.2) (.bool t263)) (fun _ hk => ⟨hk.1.1, hk.1.2⟩)⟩, ⟨by (with_reducible repeat (first | refine blk_drewN ?_ _ | refine blk_drew ?_ | refine blk_alloc ?_ _)); refine blk_far ?_ NB253_268.out _; (with_reducible repeat (first | refine blk_drewN ?_ _ | refine blk_drew ?_ | refine blk_alloc ?_ _)); refine blk_far ?_ NB253_268.out _; (with_reducible repeat (first | refine blk_drewN ?_ _ | refine blk_drew ?_ | refine blk_alloc ?_ _)); refine blk_far ?_ NB253_268.out _; (with_reducible repeat (first | refine blk_drewN ?_ _ | refine blk_drew ?_ | refine blk_alloc ?_ _)); exact BK253.out⟩, ⟨by (with_reducible repeat (first | refine blk_drewN ?_ _ | refine blk_drew ?_ | refine blk_alloc ?_ _)); refine blk_put (cs := #[.int .i64 t259, .slice Ao19 t260.length co19, .bool false]) ?_ 2 _ rfl; (with_reducible repeat (first | refine blk_drewN ?_ _ | refine blk_drew ?_ | refine blk_alloc ?_ _)); refine blk_put (cs := #[.int .i64 t259, .slice none 0 0, .bool false]) ?_ 1 _ rfl; (with_reducible repeat (first | refine blk_drewN ?_ _ | refine blk_drew ?_ | refine blk_alloc ?_ _)); refine blk_put (cs := #[.int .i64 0, .slice none 0 0, .bool false]) ?_ 0 _ rfl; (with_reducible repeat (first | refine blk_drewN ?_ _ | refine blk_drew ?_ | refine blk_alloc ?_ _)); exact BK268.out⟩, ⟨by repeat (first | (with_reducible first | exact HB.out | apply below_alloc | apply pw_below_drewN | apply below_drew1 | refine below_set ?_ GE253.out | refine below_set ?_ GE268.out) | exact HB.out)⟩⟩
     ·
      rw [if_neg c20] at H
      have c20b0 : ((t256.length : Int) == (wrap64 ((l0_0.length : Int) + 1))) = false := beq_eq_false_iff_ne.mpr c20
      have c20b1 : ((t256.length : Int) != (wrap64 ((l0_0.length : Int) + 1))) = true := bne_iff_ne.mpr c20
      (first | rw [c20b0] | (simp only [i64_w, i32_w]; rw [c20b0]) | skip)
      have H' := Aside0.mk H
      clear H
      go_wp2
      go_meet
      case rel => exact ⟨_, (true), (by first | rfl | (simp; done) | (simp [*]; done)), H', ⟨by have := HJ2.out; first | omega | exact Nat.le_refl _⟩, ⟨by (with_reducible repeat (first | apply Kd.V_alloc | apply Kd.V_drewN | apply Kd.V_drew)); exact Kd.V_mono (Kd.V_far (p := ⟨gb268, 2, none⟩) (Kd.V_far (p := ⟨gb268, 1, none⟩) (Kd.V_far (p := ⟨gb268, 0, none⟩) (Kd.V_mono HO258.out (fun k_ hk => (⟨hk, hk.2⟩ : _ ∧ k_ ≠ gb268))) (fun _ hk => hk.2) (.int .i64 t259)) (fun _ hk => hk.2) (.slice Ao19 t260.length co19)) (fun _ hk => hk.2) (.bool t263)) (fun _ hk => ⟨hk.1.1, hk.1.2⟩)⟩, ⟨by (with_reducible repeat (first | apply Kd.V_alloc | apply Kd.V_drewN | apply Kd.V_drew)); exact Kd.V_mono (Kd.V_far (p := ⟨gb268, 2, none⟩) (Kd.V_far (p := ⟨gb268, 1, none⟩) (Kd.V_far (p := ⟨gb268, 0, none⟩) (Kd.V_mono HO262.out (fun k_ hk => (⟨hk, hk.2⟩ : _ ∧ k_ ≠ gb268))) (fun _ hk => hk.2) (.int .i64 t259)) (fun _ hk => hk.2) (.slice Ao19 t260.length co19)) (fun _ hk => hk.2) (.bool t263)) (fun _ hk => ⟨hk.1.1, hk.1.2⟩)⟩, ⟨by (with_reducible repeat (first | refine blk_drewN ?_ _ | refine blk_drew ?_ | refine blk_alloc ?_ _)); refine blk_far ?_ NB253_268.out _; (with_reducible repeat (first | refine blk_drewN ?_ _ | refine blk_drew ?_ | refine blk_alloc ?_ _)); refine blk_far ?_ NB253_268.out _; (with_reducible repeat (first | refine blk_drewN ?_ _ | refine blk_drew ?_ | refine blk_alloc ?_ _)); refine blk_far ?_ NB253_268.out _; (with_reducible repeat (first | refine blk_drewN ?_ _ | refine blk_drew ?_ | refine blk_alloc ?_ _)); exact BK253.out⟩, ⟨by (with_reducible repeat (first | refine blk_drewN ?_ _ | refine blk_drew ?_ | refine blk_alloc ?_ _)); refine blk_put (cs := #[.int .i64 t259, .slice Ao19 t260.length co19, .bool false]) ?_ 2 _ rfl; (with_reducible repeat (first | refine blk_drewN ?_ _ | refine blk_drew ?_ | refine blk_alloc ?_ _)); refine blk_put (cs := #[.int .i64 t259, .slice none 0 0, .bool false]) ?_ 1 _ rfl; (with_reducible repeat (first | refine blk_drewN ?_ _ | refine blk_drew ?_ | refine blk_alloc ?_ _)); refine blk_put (cs := #[.int .i64 0, .slice none 0 0, .bool false]) ?_ 0 _ rfl; (with_reducible repeat (first | refine blk_drewN ?_ _ | refine blk_drew ?_ | refine blk_alloc ?_ _)); exact BK268.out⟩, ⟨by repeat (first | (with_reducible first | exact HB.out | apply below_alloc | apply pw_below_drewN | apply below_drew1 | refine below_set ?_ GE253.out | refine below_set ?_ GE268.out) | exact HB.out)⟩⟩
    case rest =>
     clear HC12
     try clear c1
     try clear c2
     try clear p2
     try clear hcv2
     try clear c3
     try clear hcv3
     try clear c4
     try clear p6
     try clear c8
     try clear c9
     try clear c10
     try clear c11
     try clear c17
     try clear c20
     try clear c20b0
     try clear c20b1
     try clear c21
     try clear c21b0
     try clear c21b1
     try clear c22
     try clear c22b0
     try clear c22b1
     try clear c23
     try clear c23b0
     try clear c23b1
     try clear c24
     try clear c25
     try clear hcv27
     try clear hcv28
     try clear c30
     try clear hcv32
     try clear hcv33
     try clear c36
     try clear hcv38
     try clear hcv39
     try clear c40
     try clear hcz18_0
     try clear hcz18_1
     try clear hcz18_2
     try clear hcz26_0
     try clear hcz26_1
     try clear hcz26_2
     try clear hcz31_0
     try clear hcz31_1
     try clear hcz31_2
     try clear hcz37_0
     try clear hcz37_1
     try clear hcz37_2
     try clear hcz41_0
     try clear hcz41_1
     try clear hcz41_2
     try clear hcz5_0
     try clear hcz5_1
     try clear hcz5_2
     try clear hcz5_3
     try clear hfz18_0
     try clear hfz18_1
     try clear hfz18_2
     try clear hfz26_0
     try clear hfz26_1
     try clear hfz26_2
     try clear hfz31_0
     try clear hfz31_1
     try clear hfz31_2
     try clear hfz37_0
     try clear hfz37_1
     try clear hfz37_2
     try clear hfz41_0
     try clear hfz41_1
     try clear hfz41_2
     try clear hfz5_0
     try clear hfz5_1
     try clear hfz5_2
     try clear hfz5_3
     try clear p2
     obtain ⟨kq, x86_11, rfl, HA, HJ11, HO_8, HO_269001, BK253, BK268, HB⟩ := hcut
     cases kq with
     | zero => exact absurd HA.out (by simp [precentorlaw05_NetBack.j1])
     | succ kj11 =>
      have H := HA.out
      clear HA
      simp only [precentorlaw05_NetBack.j1] at H
      by_cases c42 : x86_11 = true
      ·
       subst c42
       have H1 : (none) = some r := by rw [if_pos rfl] at H; exact H
       clear H
       have H := H1
       clear H1
       exact absurd H (by simp)
      ·
       replace c42 := Bool.eq_false_iff.mpr c42
       subst c42
       have H1 : (if (t256.length : Int) = 0 then (none) else ((net_Dup.f t256 (Int.tmod (wrap64 (a0_3)) (t256.length : Int))).bind fun bt270 => ((net_Drop.f bt270.1 (t256.length : Int)).bind fun bt274 => ((net_Give.f bt270.1 (t256.length : Int)).bind fun bt278 => ((net_Give.f t256 (Int.tmod (wrap64 (a0_3)) (t256.length : Int))).bind fun bt288 => (if t254 = true then (if bt270.2 = 0 then (if (bt270.1.length : Int) = (wrap64 ((t256.length : Int) + 1)) then (if bt274.2 = 0 then ((precentorref05_Same.f kj11 bt274.1 t256).bind fun t298 => (if t298 = true then (if bt278.2.2.2.2 = 0 then (if bt288.2.2.2.2 = 0 then ((precentorref05_Same.f kj11 (([(⟨bt278.1, bt278.2.1, bt278.2.2.1⟩ : S29)] : List (S29))) (([(⟨bt288.1, bt288.2.1, bt288.2.2.1⟩ : S29)] : List (S29)))).bind fun t305 => (if t305 = true then (if (bt288.2.2.2.1.length : Int) = (l0_0.length : Int) then (if 0 ≤ (Int.tmod (wrap64 (a0_3)) (t256.length : Int)) then (if (Int.tmod (wrap64 (a0_3)) (t256.length : Int)) ≤ (bt288.2.2.2.1.length : Int) then (if (Int.tmod (wrap64 (a0_3)) (t256.length : Int)) ≤ (t256.length : Int) then ((precentorref05_Same.f kj11 (bt288.2.2.2.1.take ((Int.tmod (wrap64 (a0_3)) (t256.length : Int)) : Int).toNat) (t256.take ((Int.tmod (wrap64 (a0_3)) (t256.length : Int)) : Int).toNat)).bind fun t316 => (if t316 = true then (if 0 ≤ (wrap64 ((Int.tmod (wrap64 (a0_3)) (t256.length : Int)) + 1)) then (if (wrap64 ((Int.tmod (wrap64 (a0_3)) (t256.length : Int)) + 1)) ≤ (t256.length : Int) then ((precentorref05_Same.f kj11 (bt288.2.2.2.1.drop ((Int.tmod (wrap64 (a0_3)) (t256.length : Int)) : Int).toNat) (t256.drop ((wrap64 ((Int.tmod (wrap64 (a0_3)) (t256.length : Int)) + 1)) : Int).toNat)).bind fun t327 => (some t327)) else (none)) else (none)) else (none))) else (none)) else (none)) else (none)) else (none)) else (none))) else (none)) else (none)) else (none))) else (none)) else (none)) else (none)) else (none))))))) = some r := by rw [if_neg (show ¬ (false = true) by decide)] at H; exact H
       clear H
       have H := H1
       clear H1
       by_cases c43 : (t256.length : Int) = 0
       ·
        rw [if_pos c43] at H
        exact absurd H (by simp)
       ·
        rw [if_neg c43] at H
        have c43b0 : ((t256.length : Int) == 0) = false := beq_eq_false_iff_ne.mpr c43
        have c43b1 : ((t256.length : Int) != 0) = true := bne_iff_ne.mpr c43
        have c43b2 : ¬ (t256 = []) := fun h_ => c43 (by rw [h_]; rfl)
        replace H := Option.bind_eq_some_iff.mp H
        obtain ⟨⟨t270, t273⟩, A440, H⟩ := H
        replace H : ((net_Drop.f t270 (t256.length : Int)).bind fun bt274 => ((net_Give.f t270 (t256.length : Int)).bind fun bt278 => ((net_Give.f t256 (Int.tmod (wrap64 (a0_3)) (t256.length : Int))).bind fun bt288 => (if t254 = true then (if t273 = 0 then (if (t270.length : Int) = (wrap64 ((t256.length : Int) + 1)) then (if bt274.2 = 0 then ((precentorref05_Same.f kj11 bt274.1 t256).bind fun t298 => (if t298 = true then (if bt278.2.2.2.2 = 0 then (if bt288.2.2.2.2 = 0 then ((precentorref05_Same.f kj11 (([(⟨bt278.1, bt278.2.1, bt278.2.2.1⟩ : S29)] : List (S29))) (([(⟨bt288.1, bt288.2.1, bt288.2.2.1⟩ : S29)] : List (S29)))).bind fun t305 => (if t305 = true then (if (bt288.2.2.2.1.length : Int) = (l0_0.length : Int) then (if 0 ≤ (Int.tmod (wrap64 (a0_3)) (t256.length : Int)) then (if (Int.tmod (wrap64 (a0_3)) (t256.length : Int)) ≤ (bt288.2.2.2.1.length : Int) then (if (Int.tmod (wrap64 (a0_3)) (t256.length : Int)) ≤ (t256.length : Int) then ((precentorref05_Same.f kj11 (bt288.2.2.2.1.take ((Int.tmod (wrap64 (a0_3)) (t256.length : Int)) : Int).toNat) (t256.take ((Int.tmod (wrap64 (a0_3)) (t256.length : Int)) : Int).toNat)).bind fun t316 => (if t316 = true then (if 0 ≤ (wrap64 ((Int.tmod (wrap64 (a0_3)) (t256.length : Int)) + 1)) then (if (wrap64 ((Int.tmod (wrap64 (a0_3)) (t256.length : Int)) + 1)) ≤ (t256.length : Int) then ((precentorref05_Same.f kj11 (bt288.2.2.2.1.drop ((Int.tmod (wrap64 (a0_3)) (t256.length : Int)) : Int).toNat) (t256.drop ((wrap64 ((Int.tmod (wrap64 (a0_3)) (t256.length : Int)) + 1)) : Int).toNat)).bind fun t327 => (some t327)) else (none)) else (none)) else (none))) else (none)) else (none)) else (none)) else (none)) else (none))) else (none)) else (none)) else (none))) else (none)) else (none)) else (none)) else (none))))) = some r := H
        have A44 := Aside0.mk A440
        clear A440
        replace H := Option.bind_eq_some_iff.mp H
        obtain ⟨⟨t274, t277⟩, A450, H⟩ := H
        replace H : ((net_Give.f t270 (t256.length : Int)).bind fun bt278 => ((net_Give.f t256 (Int.tmod (wrap64 (a0_3)) (t256.length : Int))).bind fun bt288 => (if t254 = true then (if t273 = 0 then (if (t270.length : Int) = (wrap64 ((t256.length : Int) + 1)) then (if t277 = 0 then ((precentorref05_Same.f kj11 t274 t256).bind fun t298 => (if t298 = true then (if bt278.2.2.2.2 = 0 then (if bt288.2.2.2.2 = 0 then ((precentorref05_Same.f kj11 (([(⟨bt278.1, bt278.2.1, bt278.2.2.1⟩ : S29)] : List (S29))) (([(⟨bt288.1, bt288.2.1, bt288.2.2.1⟩ : S29)] : List (S29)))).bind fun t305 => (if t305 = true then (if (bt288.2.2.2.1.length : Int) = (l0_0.length : Int) then (if 0 ≤ (Int.tmod (wrap64 (a0_3)) (t256.length : Int)) then (if (Int.tmod (wrap64 (a0_3)) (t256.length : Int)) ≤ (bt288.2.2.2.1.length : Int) then (if (Int.tmod (wrap64 (a0_3)) (t256.length : Int)) ≤ (t256.length : Int) then ((precentorref05_Same.f kj11 (bt288.2.2.2.1.take ((Int.tmod (wrap64 (a0_3)) (t256.length : Int)) : Int).toNat) (t256.take ((Int.tmod (wrap64 (a0_3)) (t256.length : Int)) : Int).toNat)).bind fun t316 => (if t316 = true then (if 0 ≤ (wrap64 ((Int.tmod (wrap64 (a0_3)) (t256.length : Int)) + 1)) then (if (wrap64 ((Int.tmod (wrap64 (a0_3)) (t256.length : Int)) + 1)) ≤ (t256.length : Int) then ((precentorref05_Same.f kj11 (bt288.2.2.2.1.drop ((Int.tmod (wrap64 (a0_3)) (t256.length : Int)) : Int).toNat) (t256.drop ((wrap64 ((Int.tmod (wrap64 (a0_3)) (t256.length : Int)) + 1)) : Int).toNat)).bind fun t327 => (some t327)) else (none)) else (none)) else (none))) else (none)) else (none)) else (none)) else (none)) else (none))) else (none)) else (none)) else (none))) else (none)) else (none)) else (none)) else (none)))) = some r := H
        have A45 := Aside0.mk A450
        clear A450
        replace H := Option.bind_eq_some_iff.mp H
        obtain ⟨⟨t278, t279, t282, t283, t286⟩, A460, H⟩ := H
        replace H : ((net_Give.f t256 (Int.tmod (wrap64 (a0_3)) (t256.length : Int))).bind fun bt288 => (if t254 = true then (if t273 = 0 then (if (t270.length : Int) = (wrap64 ((t256.length : Int) + 1)) then (if t277 = 0 then ((precentorref05_Same.f kj11 t274 t256).bind fun t298 => (if t298 = true then (if t286 = 0 then (if bt288.2.2.2.2 = 0 then ((precentorref05_Same.f kj11 (([(⟨t278, t279, t282⟩ : S29)] : List (S29))) (([(⟨bt288.1, bt288.2.1, bt288.2.2.1⟩ : S29)] : List (S29)))).bind fun t305 => (if t305 = true then (if (bt288.2.2.2.1.length : Int) = (l0_0.length : Int) then (if 0 ≤ (Int.tmod (wrap64 (a0_3)) (t256.length : Int)) then (if (Int.tmod (wrap64 (a0_3)) (t256.length : Int)) ≤ (bt288.2.2.2.1.length : Int) then (if (Int.tmod (wrap64 (a0_3)) (t256.length : Int)) ≤ (t256.length : Int) then ((precentorref05_Same.f kj11 (bt288.2.2.2.1.take ((Int.tmod (wrap64 (a0_3)) (t256.length : Int)) : Int).toNat) (t256.take ((Int.tmod (wrap64 (a0_3)) (t256.length : Int)) : Int).toNat)).bind fun t316 => (if t316 = true then (if 0 ≤ (wrap64 ((Int.tmod (wrap64 (a0_3)) (t256.length : Int)) + 1)) then (if (wrap64 ((Int.tmod (wrap64 (a0_3)) (t256.length : Int)) + 1)) ≤ (t256.length : Int) then ((precentorref05_Same.f kj11 (bt288.2.2.2.1.drop ((Int.tmod (wrap64 (a0_3)) (t256.length : Int)) : Int).toNat) (t256.drop ((wrap64 ((Int.tmod (wrap64 (a0_3)) (t256.length : Int)) + 1)) : Int).toNat)).bind fun t327 => (some t327)) else (none)) else (none)) else (none))) else (none)) else (none)) else (none)) else (none)) else (none))) else (none)) else (none)) else (none))) else (none)) else (none)) else (none)) else (none))) = some r := H
        have A46 := Aside0.mk A460
        clear A460
        replace H := Option.bind_eq_some_iff.mp H
        obtain ⟨⟨t288, t289, t292, t293, t296⟩, A470, H⟩ := H
        replace H : (if t254 = true then (if t273 = 0 then (if (t270.length : Int) = (wrap64 ((t256.length : Int) + 1)) then (if t277 = 0 then ((precentorref05_Same.f kj11 t274 t256).bind fun t298 => (if t298 = true then (if t286 = 0 then (if t296 = 0 then ((precentorref05_Same.f kj11 (([(⟨t278, t279, t282⟩ : S29)] : List (S29))) (([(⟨t288, t289, t292⟩ : S29)] : List (S29)))).bind fun t305 => (if t305 = true then (if (t293.length : Int) = (l0_0.length : Int) then (if 0 ≤ (Int.tmod (wrap64 (a0_3)) (t256.length : Int)) then (if (Int.tmod (wrap64 (a0_3)) (t256.length : Int)) ≤ (t293.length : Int) then (if (Int.tmod (wrap64 (a0_3)) (t256.length : Int)) ≤ (t256.length : Int) then ((precentorref05_Same.f kj11 (t293.take ((Int.tmod (wrap64 (a0_3)) (t256.length : Int)) : Int).toNat) (t256.take ((Int.tmod (wrap64 (a0_3)) (t256.length : Int)) : Int).toNat)).bind fun t316 => (if t316 = true then (if 0 ≤ (wrap64 ((Int.tmod (wrap64 (a0_3)) (t256.length : Int)) + 1)) then (if (wrap64 ((Int.tmod (wrap64 (a0_3)) (t256.length : Int)) + 1)) ≤ (t256.length : Int) then ((precentorref05_Same.f kj11 (t293.drop ((Int.tmod (wrap64 (a0_3)) (t256.length : Int)) : Int).toNat) (t256.drop ((wrap64 ((Int.tmod (wrap64 (a0_3)) (t256.length : Int)) + 1)) : Int).toNat)).bind fun t327 => (some t327)) else (none)) else (none)) else (none))) else (none)) else (none)) else (none)) else (none)) else (none))) else (none)) else (none)) else (none))) else (none)) else (none)) else (none)) else (none)) = some r := H
        have A47 := Aside0.mk A470
        clear A470
        by_cases c48 : t254 = true
        ·
         subst c48
         have H1 : (if t273 = 0 then (if (t270.length : Int) = (wrap64 ((t256.length : Int) + 1)) then (if t277 = 0 then ((precentorref05_Same.f kj11 t274 t256).bind fun t298 => (if t298 = true then (if t286 = 0 then (if t296 = 0 then ((precentorref05_Same.f kj11 (([(⟨t278, t279, t282⟩ : S29)] : List (S29))) (([(⟨t288, t289, t292⟩ : S29)] : List (S29)))).bind fun t305 => (if t305 = true then (if (t293.length : Int) = (l0_0.length : Int) then (if 0 ≤ (Int.tmod (wrap64 (a0_3)) (t256.length : Int)) then (if (Int.tmod (wrap64 (a0_3)) (t256.length : Int)) ≤ (t293.length : Int) then (if (Int.tmod (wrap64 (a0_3)) (t256.length : Int)) ≤ (t256.length : Int) then ((precentorref05_Same.f kj11 (t293.take ((Int.tmod (wrap64 (a0_3)) (t256.length : Int)) : Int).toNat) (t256.take ((Int.tmod (wrap64 (a0_3)) (t256.length : Int)) : Int).toNat)).bind fun t316 => (if t316 = true then (if 0 ≤ (wrap64 ((Int.tmod (wrap64 (a0_3)) (t256.length : Int)) + 1)) then (if (wrap64 ((Int.tmod (wrap64 (a0_3)) (t256.length : Int)) + 1)) ≤ (t256.length : Int) then ((precentorref05_Same.f kj11 (t293.drop ((Int.tmod (wrap64 (a0_3)) (t256.length : Int)) : Int).toNat) (t256.drop ((wrap64 ((Int.tmod (wrap64 (a0_3)) (t256.length : Int)) + 1)) : Int).toNat)).bind fun t327 => (some t327)) else (none)) else (none)) else (none))) else (none)) else (none)) else (none)) else (none)) else (none))) else (none)) else (none)) else (none))) else (none)) else (none)) else (none)) = some r := by rw [if_pos rfl] at H; exact H
         clear H
         have H := H1
         clear H1
         by_cases c49 : t273 = 0
         ·
          rw [if_pos c49] at H
          have c49b0 : (t273 == 0) = true := beq_iff_eq.mpr c49
          have c49b1 : (t273 != 0) = false := bne_eq_false_iff_eq.mpr c49
          clear c49
          by_cases c50 : (t270.length : Int) = (wrap64 ((t256.length : Int) + 1))
          ·
           rw [if_pos c50] at H
           have c50b0 : ((t270.length : Int) == (wrap64 ((t256.length : Int) + 1))) = true := beq_iff_eq.mpr c50
           have c50b1 : ((t270.length : Int) != (wrap64 ((t256.length : Int) + 1))) = false := bne_eq_false_iff_eq.mpr c50
           clear c50
           by_cases c51 : t277 = 0
           ·
            rw [if_pos c51] at H
            have c51b0 : (t277 == 0) = true := beq_iff_eq.mpr c51
            have c51b1 : (t277 != 0) = false := bne_eq_false_iff_eq.mpr c51
            clear c51
            replace H := Option.bind_eq_some_iff.mp H
            obtain ⟨t298, A520, H⟩ := H
            replace H : (if t298 = true then (if t286 = 0 then (if t296 = 0 then ((precentorref05_Same.f kj11 (([(⟨t278, t279, t282⟩ : S29)] : List (S29))) (([(⟨t288, t289, t292⟩ : S29)] : List (S29)))).bind fun t305 => (if t305 = true then (if (t293.length : Int) = (l0_0.length : Int) then (if 0 ≤ (Int.tmod (wrap64 (a0_3)) (t256.length : Int)) then (if (Int.tmod (wrap64 (a0_3)) (t256.length : Int)) ≤ (t293.length : Int) then (if (Int.tmod (wrap64 (a0_3)) (t256.length : Int)) ≤ (t256.length : Int) then ((precentorref05_Same.f kj11 (t293.take ((Int.tmod (wrap64 (a0_3)) (t256.length : Int)) : Int).toNat) (t256.take ((Int.tmod (wrap64 (a0_3)) (t256.length : Int)) : Int).toNat)).bind fun t316 => (if t316 = true then (if 0 ≤ (wrap64 ((Int.tmod (wrap64 (a0_3)) (t256.length : Int)) + 1)) then (if (wrap64 ((Int.tmod (wrap64 (a0_3)) (t256.length : Int)) + 1)) ≤ (t256.length : Int) then ((precentorref05_Same.f kj11 (t293.drop ((Int.tmod (wrap64 (a0_3)) (t256.length : Int)) : Int).toNat) (t256.drop ((wrap64 ((Int.tmod (wrap64 (a0_3)) (t256.length : Int)) + 1)) : Int).toNat)).bind fun t327 => (some t327)) else (none)) else (none)) else (none))) else (none)) else (none)) else (none)) else (none)) else (none))) else (none)) else (none)) else (none)) = some r := H
            have A52 := Aside0.mk A520
            clear A520
            by_cases c53 : t298 = true
            ·
             subst c53
             have H1 : (if t286 = 0 then (if t296 = 0 then ((precentorref05_Same.f kj11 (([(⟨t278, t279, t282⟩ : S29)] : List (S29))) (([(⟨t288, t289, t292⟩ : S29)] : List (S29)))).bind fun t305 => (if t305 = true then (if (t293.length : Int) = (l0_0.length : Int) then (if 0 ≤ (Int.tmod (wrap64 (a0_3)) (t256.length : Int)) then (if (Int.tmod (wrap64 (a0_3)) (t256.length : Int)) ≤ (t293.length : Int) then (if (Int.tmod (wrap64 (a0_3)) (t256.length : Int)) ≤ (t256.length : Int) then ((precentorref05_Same.f kj11 (t293.take ((Int.tmod (wrap64 (a0_3)) (t256.length : Int)) : Int).toNat) (t256.take ((Int.tmod (wrap64 (a0_3)) (t256.length : Int)) : Int).toNat)).bind fun t316 => (if t316 = true then (if 0 ≤ (wrap64 ((Int.tmod (wrap64 (a0_3)) (t256.length : Int)) + 1)) then (if (wrap64 ((Int.tmod (wrap64 (a0_3)) (t256.length : Int)) + 1)) ≤ (t256.length : Int) then ((precentorref05_Same.f kj11 (t293.drop ((Int.tmod (wrap64 (a0_3)) (t256.length : Int)) : Int).toNat) (t256.drop ((wrap64 ((Int.tmod (wrap64 (a0_3)) (t256.length : Int)) + 1)) : Int).toNat)).bind fun t327 => (some t327)) else (none)) else (none)) else (none))) else (none)) else (none)) else (none)) else (none)) else (none))) else (none)) else (none)) = some r := by rw [if_pos rfl] at H; exact H
             clear H
             have H := H1
             clear H1
             by_cases c54 : t286 = 0
             ·
              rw [if_pos c54] at H
              have c54b0 : (t286 == 0) = true := beq_iff_eq.mpr c54
              have c54b1 : (t286 != 0) = false := bne_eq_false_iff_eq.mpr c54
              clear c54
              by_cases c55 : t296 = 0
              ·
               rw [if_pos c55] at H
               have c55b0 : (t296 == 0) = true := beq_iff_eq.mpr c55
               have c55b1 : (t296 != 0) = false := bne_eq_false_iff_eq.mpr c55
               clear c55
               obtain ⟨y299, hy299⟩ : ∃ y_ : List (S29), y_ = (([(⟨t278, t279, t282⟩ : S29)] : List (S29))) := ⟨_, rfl⟩
               replace H : ((precentorref05_Same.f kj11 y299 (([(⟨t288, t289, t292⟩ : S29)] : List (S29)))).bind fun t305 => (if t305 = true then (if (t293.length : Int) = (l0_0.length : Int) then (if 0 ≤ (Int.tmod (wrap64 (a0_3)) (t256.length : Int)) then (if (Int.tmod (wrap64 (a0_3)) (t256.length : Int)) ≤ (t293.length : Int) then (if (Int.tmod (wrap64 (a0_3)) (t256.length : Int)) ≤ (t256.length : Int) then ((precentorref05_Same.f kj11 (t293.take ((Int.tmod (wrap64 (a0_3)) (t256.length : Int)) : Int).toNat) (t256.take ((Int.tmod (wrap64 (a0_3)) (t256.length : Int)) : Int).toNat)).bind fun t316 => (if t316 = true then (if 0 ≤ (wrap64 ((Int.tmod (wrap64 (a0_3)) (t256.length : Int)) + 1)) then (if (wrap64 ((Int.tmod (wrap64 (a0_3)) (t256.length : Int)) + 1)) ≤ (t256.length : Int) then ((precentorref05_Same.f kj11 (t293.drop ((Int.tmod (wrap64 (a0_3)) (t256.length : Int)) : Int).toNat) (t256.drop ((wrap64 ((Int.tmod (wrap64 (a0_3)) (t256.length : Int)) + 1)) : Int).toNat)).bind fun t327 => (some t327)) else (none)) else (none)) else (none))) else (none)) else (none)) else (none)) else (none)) else (none))) = some r := by first | (rw [hy299]; with_reducible exact H) | (have H2_ := (Option.bind_some _ _).symm.trans H; rw [hy299]; with_reducible exact H2_) | (have H2_ := (Option.bind_some _ _).symm.trans H; with_reducible exact H2_) | with_reducible exact H | (rw [hy299]; exact H) | exact H
               have Ny299 := Aside0.mk hy299
               clear hy299
               obtain ⟨y302, hy302⟩ : ∃ y_ : List (S29), y_ = (([(⟨t288, t289, t292⟩ : S29)] : List (S29))) := ⟨_, rfl⟩
               replace H : ((precentorref05_Same.f kj11 y299 y302).bind fun t305 => (if t305 = true then (if (t293.length : Int) = (l0_0.length : Int) then (if 0 ≤ (Int.tmod (wrap64 (a0_3)) (t256.length : Int)) then (if (Int.tmod (wrap64 (a0_3)) (t256.length : Int)) ≤ (t293.length : Int) then (if (Int.tmod (wrap64 (a0_3)) (t256.length : Int)) ≤ (t256.length : Int) then ((precentorref05_Same.f kj11 (t293.take ((Int.tmod (wrap64 (a0_3)) (t256.length : Int)) : Int).toNat) (t256.take ((Int.tmod (wrap64 (a0_3)) (t256.length : Int)) : Int).toNat)).bind fun t316 => (if t316 = true then (if 0 ≤ (wrap64 ((Int.tmod (wrap64 (a0_3)) (t256.length : Int)) + 1)) then (if (wrap64 ((Int.tmod (wrap64 (a0_3)) (t256.length : Int)) + 1)) ≤ (t256.length : Int) then ((precentorref05_Same.f kj11 (t293.drop ((Int.tmod (wrap64 (a0_3)) (t256.length : Int)) : Int).toNat) (t256.drop ((wrap64 ((Int.tmod (wrap64 (a0_3)) (t256.length : Int)) + 1)) : Int).toNat)).bind fun t327 => (some t327)) else (none)) else (none)) else (none))) else (none)) else (none)) else (none)) else (none)) else (none))) = some r := by first | (rw [hy302]; with_reducible exact H) | (have H2_ := (Option.bind_some _ _).symm.trans H; rw [hy302]; with_reducible exact H2_) | (have H2_ := (Option.bind_some _ _).symm.trans H; with_reducible exact H2_) | with_reducible exact H | (rw [hy302]; exact H) | exact H
               have Ny302 := Aside0.mk hy302
               clear hy302
               replace H := Option.bind_eq_some_iff.mp H
               obtain ⟨t305, A560, H⟩ := H
               replace H : (if t305 = true then (if (t293.length : Int) = (l0_0.length : Int) then (if 0 ≤ (Int.tmod (wrap64 (a0_3)) (t256.length : Int)) then (if (Int.tmod (wrap64 (a0_3)) (t256.length : Int)) ≤ (t293.length : Int) then (if (Int.tmod (wrap64 (a0_3)) (t256.length : Int)) ≤ (t256.length : Int) then ((precentorref05_Same.f kj11 (t293.take ((Int.tmod (wrap64 (a0_3)) (t256.length : Int)) : Int).toNat) (t256.take ((Int.tmod (wrap64 (a0_3)) (t256.length : Int)) : Int).toNat)).bind fun t316 => (if t316 = true then (if 0 ≤ (wrap64 ((Int.tmod (wrap64 (a0_3)) (t256.length : Int)) + 1)) then (if (wrap64 ((Int.tmod (wrap64 (a0_3)) (t256.length : Int)) + 1)) ≤ (t256.length : Int) then ((precentorref05_Same.f kj11 (t293.drop ((Int.tmod (wrap64 (a0_3)) (t256.length : Int)) : Int).toNat) (t256.drop ((wrap64 ((Int.tmod (wrap64 (a0_3)) (t256.length : Int)) + 1)) : Int).toNat)).bind fun t327 => (some t327)) else (none)) else (none)) else (none))) else (none)) else (none)) else (none)) else (none)) else (none)) = some r := H
               have A56 := Aside0.mk A560
               clear A560
               by_cases c57 : t305 = true
               ·
                subst c57
                have H1 : (if (t293.length : Int) = (l0_0.length : Int) then (if 0 ≤ (Int.tmod (wrap64 (a0_3)) (t256.length : Int)) then (if (Int.tmod (wrap64 (a0_3)) (t256.length : Int)) ≤ (t293.length : Int) then (if (Int.tmod (wrap64 (a0_3)) (t256.length : Int)) ≤ (t256.length : Int) then ((precentorref05_Same.f kj11 (t293.take ((Int.tmod (wrap64 (a0_3)) (t256.length : Int)) : Int).toNat) (t256.take ((Int.tmod (wrap64 (a0_3)) (t256.length : Int)) : Int).toNat)).bind fun t316 => (if t316 = true then (if 0 ≤ (wrap64 ((Int.tmod (wrap64 (a0_3)) (t256.length : Int)) + 1)) then (if (wrap64 ((Int.tmod (wrap64 (a0_3)) (t256.length : Int)) + 1)) ≤ (t256.length : Int) then ((precentorref05_Same.f kj11 (t293.drop ((Int.tmod (wrap64 (a0_3)) (t256.length : Int)) : Int).toNat) (t256.drop ((wrap64 ((Int.tmod (wrap64 (a0_3)) (t256.length : Int)) + 1)) : Int).toNat)).bind fun t327 => (some t327)) else (none)) else (none)) else (none))) else (none)) else (none)) else (none)) else (none)) = some r := by rw [if_pos rfl] at H; exact H
                clear H
                have H := H1
                clear H1
                by_cases c58 : (t293.length : Int) = (l0_0.length : Int)
                ·
                 rw [if_pos c58] at H
                 have c58b0 : ((t293.length : Int) == (l0_0.length : Int)) = true := beq_iff_eq.mpr c58
                 have c58b1 : ((t293.length : Int) != (l0_0.length : Int)) = false := bne_eq_false_iff_eq.mpr c58
                 have c58b2 : (t293.length == l0_0.length) = true := by first | simpa using c58 | (simp at c58 ⊢; omega)
                 clear c58
                 obtain ⟨ji59, hji59⟩ : ∃ j_ : Int, (Int.tmod (wrap64 (a0_3)) (t256.length : Int)) = j_ := ⟨_, rfl⟩
                 replace H : (if 0 ≤ (ji59) then (if (ji59) ≤ (t293.length : Int) then (if (ji59) ≤ (t256.length : Int) then ((precentorref05_Same.f kj11 (t293.take ((ji59) : Int).toNat) (t256.take ((ji59) : Int).toNat)).bind fun t316 => (if t316 = true then (if 0 ≤ (wrap64 ((ji59) + 1)) then (if (wrap64 ((ji59) + 1)) ≤ (t256.length : Int) then ((precentorref05_Same.f kj11 (t293.drop ((ji59) : Int).toNat) (t256.drop ((wrap64 ((ji59) + 1)) : Int).toNat)).bind fun t327 => (some t327)) else (none)) else (none)) else (none))) else (none)) else (none)) else (none)) = some r := by first | (rw [hji59] at H; exact H) | (simp only [hji59] at H ⊢; exact H)
                 (try rw [hji59] at A44)
                 (try rw [hji59] at A45)
                 (try rw [hji59] at A46)
                 (try rw [hji59] at A47)
                 (try rw [hji59] at A52)
                 (try rw [hji59] at A56)
                 by_cases c60 : 0 ≤ (ji59)
                 ·
                  rw [if_pos c60] at H
                  have c60b0 := eq_true c60
                  have c60b1 : decide (0 ≤ (ji59)) = true := decide_eq_true c60
                  clear c60
                  by_cases c61 : (ji59) ≤ (t293.length : Int)
                  ·
                   rw [if_pos c61] at H
                   have c61b0 := eq_true c61
                   have c61b1 : decide ((ji59) ≤ (t293.length : Int)) = true := decide_eq_true c61
                   clear c61
                   obtain ⟨y306, hy306⟩ : ∃ y_ : List (S29), y_ = (t293.take ((ji59) : Int).toNat) := ⟨_, rfl⟩
                   replace H : (if (ji59) ≤ (t256.length : Int) then ((precentorref05_Same.f kj11 y306 (t256.take ((ji59) : Int).toNat)).bind fun t316 => (if t316 = true then (if 0 ≤ (wrap64 ((ji59) + 1)) then (if (wrap64 ((ji59) + 1)) ≤ (t256.length : Int) then ((precentorref05_Same.f kj11 (t293.drop ((ji59) : Int).toNat) (t256.drop ((wrap64 ((ji59) + 1)) : Int).toNat)).bind fun t327 => (some t327)) else (none)) else (none)) else (none))) else (none)) = some r := by first | (rw [hy306]; with_reducible exact H) | (have H2_ := (Option.bind_some _ _).symm.trans H; rw [hy306]; with_reducible exact H2_) | (have H2_ := (Option.bind_some _ _).symm.trans H; with_reducible exact H2_) | with_reducible exact H | (rw [hy306]; exact H) | exact H
                   have Ny306 := Aside0.mk hy306
                   clear hy306
                   have c62b0 := eq_true (of_decide_eq_true (by first | (with_reducible assumption) | assumption) : 0 ≤ (ji59))
                   by_cases c63 : (ji59) ≤ (t256.length : Int)
                   ·
                    rw [if_pos c63] at H
                    have c63b0 := eq_true c63
                    have c63b1 : decide ((ji59) ≤ (t256.length : Int)) = true := decide_eq_true c63
                    clear c63
                    obtain ⟨y311, hy311⟩ : ∃ y_ : List (S29), y_ = (t256.take ((ji59) : Int).toNat) := ⟨_, rfl⟩
                    replace H : ((precentorref05_Same.f kj11 y306 y311).bind fun t316 => (if t316 = true then (if 0 ≤ (wrap64 ((ji59) + 1)) then (if (wrap64 ((ji59) + 1)) ≤ (t256.length : Int) then ((precentorref05_Same.f kj11 (t293.drop ((ji59) : Int).toNat) (t256.drop ((wrap64 ((ji59) + 1)) : Int).toNat)).bind fun t327 => (some t327)) else (none)) else (none)) else (none))) = some r := by first | (rw [hy311]; with_reducible exact H) | (have H2_ := (Option.bind_some _ _).symm.trans H; rw [hy311]; with_reducible exact H2_) | (have H2_ := (Option.bind_some _ _).symm.trans H; with_reducible exact H2_) | with_reducible exact H | (rw [hy311]; exact H) | exact H
                    have Ny311 := Aside0.mk hy311
                    clear hy311
                    replace H := Option.bind_eq_some_iff.mp H
                    obtain ⟨t316, A640, H⟩ := H
                    replace H : (if t316 = true then (if 0 ≤ (wrap64 ((ji59) + 1)) then (if (wrap64 ((ji59) + 1)) ≤ (t256.length : Int) then ((precentorref05_Same.f kj11 (t293.drop ((ji59) : Int).toNat) (t256.drop ((wrap64 ((ji59) + 1)) : Int).toNat)).bind fun t327 => (some t327)) else (none)) else (none)) else (none)) = some r := H
                    have A64 := Aside0.mk A640
                    clear A640
                    by_cases c65 : t316 = true
                    ·
                     subst c65
                     have H1 : (if 0 ≤ (wrap64 ((ji59) + 1)) then (if (wrap64 ((ji59) + 1)) ≤ (t256.length : Int) then ((precentorref05_Same.f kj11 (t293.drop ((ji59) : Int).toNat) (t256.drop ((wrap64 ((ji59) + 1)) : Int).toNat)).bind fun t327 => (some t327)) else (none)) else (none)) = some r := by rw [if_pos rfl] at H; exact H
                     clear H
                     have H := H1
                     clear H1
                     have c66b0 := eq_true (of_decide_eq_true (by first | (with_reducible assumption) | assumption) : 0 ≤ (ji59))
                     have c67b0 := eq_true (of_decide_eq_true (by first | (with_reducible assumption) | assumption) : (ji59) ≤ (t293.length : Int))
                     obtain ⟨y317, hy317⟩ : ∃ y_ : List (S29), y_ = (t293.drop ((ji59) : Int).toNat) := ⟨_, rfl⟩
                     replace H : (if 0 ≤ (wrap64 ((ji59) + 1)) then (if (wrap64 ((ji59) + 1)) ≤ (t256.length : Int) then ((precentorref05_Same.f kj11 y317 (t256.drop ((wrap64 ((ji59) + 1)) : Int).toNat)).bind fun t327 => (some t327)) else (none)) else (none)) = some r := by first | (rw [hy317]; with_reducible exact H) | (have H2_ := (Option.bind_some _ _).symm.trans H; rw [hy317]; with_reducible exact H2_) | (have H2_ := (Option.bind_some _ _).symm.trans H; with_reducible exact H2_) | with_reducible exact H | (rw [hy317]; exact H) | exact H
                     have Ny317 := Aside0.mk hy317
                     clear hy317
                     obtain ⟨ji68, hji68⟩ : ∃ j_ : Int, (wrap64 ((ji59) + 1)) = j_ := ⟨_, rfl⟩
                     replace H : (if 0 ≤ (ji68) then (if (ji68) ≤ (t256.length : Int) then ((precentorref05_Same.f kj11 y317 (t256.drop ((ji68) : Int).toNat)).bind fun t327 => (some t327)) else (none)) else (none)) = some r := by first | (rw [hji68] at H; exact H) | (simp only [hji68] at H ⊢; exact H)
                     (try rw [hji68] at A44)
                     (try rw [hji68] at A45)
                     (try rw [hji68] at A46)
                     (try rw [hji68] at A47)
                     (try rw [hji68] at A52)
                     (try rw [hji68] at A56)
                     (try rw [hji68] at A64)
                     have hji68w : (IntKind.i64.wrap ((ji59) + 1)) = ji68 := (i64_w _).trans hji68
                     by_cases c69 : 0 ≤ (ji68)
                     ·
                      rw [if_pos c69] at H
                      have c69b0 := eq_true c69
                      have c69b1 : decide (0 ≤ (ji68)) = true := decide_eq_true c69
                      clear c69
                      by_cases c70 : (ji68) ≤ (t256.length : Int)
                      ·
                       rw [if_pos c70] at H
                       have c70b0 := eq_true c70
                       have c70b1 : decide ((ji68) ≤ (t256.length : Int)) = true := decide_eq_true c70
                       clear c70
                       obtain ⟨y322, hy322⟩ : ∃ y_ : List (S29), y_ = (t256.drop ((ji68) : Int).toNat) := ⟨_, rfl⟩
                       replace H : ((precentorref05_Same.f kj11 y317 y322).bind fun t327 => (some t327)) = some r := by first | (rw [hy322]; with_reducible exact H) | (have H2_ := (Option.bind_some _ _).symm.trans H; rw [hy322]; with_reducible exact H2_) | (have H2_ := (Option.bind_some _ _).symm.trans H; with_reducible exact H2_) | with_reducible exact H | (rw [hy322]; exact H) | exact H
                       have Ny322 := Aside0.mk hy322
                       clear hy322
                       replace H := Option.bind_eq_some_iff.mp H
                       obtain ⟨t327, A710, H⟩ := H
                       replace H : (some t327) = some r := H
                       have A71 := Aside0.mk A710
                       clear A710
                       obtain rfl := Option.some.inj H
                       try go_wp2_with (first | ((with_reducible refine gate_callee (f := 15) rfl ?_); refine goesL_ (some 95) rfl rfl Try.func15 (by kernel_rfl) rfl #[.slice Ao14 t256.length co14, .int .i64 ji59] rfl (by (try simp only [List.map_toArray, List.map_cons, List.map_nil]); first | done | (simp only [hji59]; rfl) | rfl | (simp only [List.length_drop, List.length_take]; rfl)) ?_; (with_reducible refine (net_Dup.calls (fun k_ => (k_ ≠ gb253 ∧ k_ ≠ gb268)) _ _ t256 ji59 t270 t273 _ ?side1 A44.out).mono ?_); (case side1 => exact HO_8.out); rintro e w72 ⟨v271, rfl, ho0, hb⟩; refine ⟨_, rfl, ?_⟩; have n0_ := Aside0.mk (Kd.V_below (by (with_reducible repeat (first | apply Kd.V_alloc | apply Kd.V_drewN | apply Kd.V_drew)); exact HO_8.out) hb); have n1_ := Aside0.mk (Kd.V_below (by (with_reducible repeat (first | apply Kd.V_alloc | apply Kd.V_drewN | apply Kd.V_drew)); exact HO_269001.out) hb); have n2_ := Aside0.mk (Kd.V_lower (Kd.V_mono (ok' := fun k_ => k_ ≠ gb253 ∧ k_ ≠ gb268) ho0 (fun k_ hk_ => ⟨Or.elim hk_ (fun hs_ => hs_.1) (fun hn_ => (Kd.freshB (g := gb253) (o := .cells #[.slice A0_0 l0_0.length c0_0, .int .i64 a0_1, .slice A0_2 l0_2.length c0_2, .int .u8 a0_3] 46 (0, 0)) (by (with_reducible repeat (first | refine blk_drewN ?_ _ | refine blk_drew ?_ | refine blk_alloc ?_ _)); exact BK253.out) k_ hn_)), Or.elim hk_ (fun hs_ => hs_.2) (fun hn_ => (Kd.freshB (g := gb268) (o := .cells #[.int .i64 t259, .slice Ao19 t260.length co19, .bool t263] 29 (0, 0)) (by (with_reducible repeat (first | refine blk_drewN ?_ _ | refine blk_drew ?_ | refine blk_alloc ?_ _)); exact BK268.out) k_ hn_))⟩)) (below_size (by repeat (first | (with_reducible first | exact HB.out | apply below_alloc | apply pw_below_drewN | apply below_drew1 | refine below_set ?_ GE253.out | refine below_set ?_ GE268.out) | exact HB.out)))); have n3_ := Aside0.mk (blk_below (g := gb253) (o := .cells #[.slice A0_0 l0_0.length c0_0, .int .i64 a0_1, .slice A0_2 l0_2.length c0_2, .int .u8 a0_3] 46 (0, 0)) (by (with_reducible repeat (first | refine blk_drewN ?_ _ | refine blk_drew ?_ | refine blk_alloc ?_ _)); exact BK253.out) hb); have n4_ := Aside0.mk (blk_below (g := gb268) (o := .cells #[.int .i64 t259, .slice Ao19 t260.length co19, .bool t263] 29 (0, 0)) (by (with_reducible repeat (first | refine blk_drewN ?_ _ | refine blk_drew ?_ | refine blk_alloc ?_ _)); exact BK268.out) hb); have n5_ := Aside0.mk (below_step (by repeat (first | (with_reducible first | exact HB.out | apply below_alloc | apply pw_below_drewN | apply below_drew1 | refine below_set ?_ GE253.out | refine below_set ?_ GE268.out) | exact HB.out)) hb); clear HO_8; clear HO_269001; clear BK253; clear BK268; clear HB; have HO_8 := n0_; have HO_269001 := n1_; have HO272 := n2_; have BK253 := n3_; have BK268 := n4_; have HB := n5_; clear n0_ n1_ n2_ n3_ n4_ n5_; (try clear hb); (try clear hb2); (try clear hk); (try clear hi); (try clear ho0); obtain ⟨Ao73, co73, eo73⟩ := Kd.V_slice HO272.out; subst eo73) | ((with_reducible refine gate_callee (f := 13) rfl ?_); refine goesL_ (some 102) rfl rfl Try.func13 (by kernel_rfl) rfl #[.slice Ao73 t270.length co73, .int .i64 (t256.length : Int)] rfl (by (try simp only [List.map_toArray, List.map_cons, List.map_nil]); first | done | rfl | (simp only [List.length_drop, List.length_take]; rfl)) ?_; (with_reducible refine (net_Drop.calls (fun k_ => (k_ ≠ gb253 ∧ k_ ≠ gb268)) _ _ t270 (t256.length : Int) t274 t277 _ ?side1 A45.out).mono ?_); (case side1 => exact HO272.out); rintro e w74 ⟨v275, rfl, ho0, hb⟩; refine ⟨_, rfl, ?_⟩; have n0_ := Aside0.mk (Kd.V_below (by (with_reducible repeat (first | apply Kd.V_alloc | apply Kd.V_drewN | apply Kd.V_drew)); exact HO_8.out) hb); have n1_ := Aside0.mk (Kd.V_below (by (with_reducible repeat (first | apply Kd.V_alloc | apply Kd.V_drewN | apply Kd.V_drew)); exact HO_269001.out) hb); have n2_ := Aside0.mk (Kd.V_below (by (with_reducible repeat (first | apply Kd.V_alloc | apply Kd.V_drewN | apply Kd.V_drew)); exact HO272.out) hb); have n3_ := Aside0.mk (Kd.V_lower (Kd.V_mono (ok' := fun k_ => k_ ≠ gb253 ∧ k_ ≠ gb268) ho0 (fun k_ hk_ => ⟨Or.elim hk_ (fun hs_ => hs_.1) (fun hn_ => (Kd.freshB (g := gb253) (o := .cells #[.slice A0_0 l0_0.length c0_0, .int .i64 a0_1, .slice A0_2 l0_2.length c0_2, .int .u8 a0_3] 46 (0, 0)) (by (with_reducible repeat (first | refine blk_drewN ?_ _ | refine blk_drew ?_ | refine blk_alloc ?_ _)); exact BK253.out) k_ hn_)), Or.elim hk_ (fun hs_ => hs_.2) (fun hn_ => (Kd.freshB (g := gb268) (o := .cells #[.int .i64 t259, .slice Ao19 t260.length co19, .bool t263] 29 (0, 0)) (by (with_reducible repeat (first | refine blk_drewN ?_ _ | refine blk_drew ?_ | refine blk_alloc ?_ _)); exact BK268.out) k_ hn_))⟩)) (below_size (by repeat (first | (with_reducible first | exact HB.out | apply below_alloc | apply pw_below_drewN | apply below_drew1 | refine below_set ?_ GE253.out | refine below_set ?_ GE268.out) | exact HB.out)))); have n4_ := Aside0.mk (blk_below (g := gb253) (o := .cells #[.slice A0_0 l0_0.length c0_0, .int .i64 a0_1, .slice A0_2 l0_2.length c0_2, .int .u8 a0_3] 46 (0, 0)) (by (with_reducible repeat (first | refine blk_drewN ?_ _ | refine blk_drew ?_ | refine blk_alloc ?_ _)); exact BK253.out) hb); have n5_ := Aside0.mk (blk_below (g := gb268) (o := .cells #[.int .i64 t259, .slice Ao19 t260.length co19, .bool t263] 29 (0, 0)) (by (with_reducible repeat (first | refine blk_drewN ?_ _ | refine blk_drew ?_ | refine blk_alloc ?_ _)); exact BK268.out) hb); have n6_ := Aside0.mk (below_step (by repeat (first | (with_reducible first | exact HB.out | apply below_alloc | apply pw_below_drewN | apply below_drew1 | refine below_set ?_ GE253.out | refine below_set ?_ GE268.out) | exact HB.out)) hb); clear HO_8; clear HO_269001; clear HO272; clear BK253; clear BK268; clear HB; have HO_8 := n0_; have HO_269001 := n1_; have HO272 := n2_; have HO276 := n3_; have BK253 := n4_; have BK268 := n5_; have HB := n6_; clear n0_ n1_ n2_ n3_ n4_ n5_ n6_; (try clear hb); (try clear hb2); (try clear hk); (try clear hi); (try clear ho0)) | ((with_reducible refine gate_callee (f := 11) rfl ?_); refine goesL_ (some 109) rfl rfl Try.func11 (by kernel_rfl) rfl #[.slice Ao73 t270.length co73, .int .i64 (t256.length : Int)] rfl (by (try simp only [List.map_toArray, List.map_cons, List.map_nil]); first | done | rfl | (simp only [List.length_drop, List.length_take]; rfl)) ?_; (with_reducible refine (net_Give.calls (fun k_ => (k_ ≠ gb253 ∧ k_ ≠ gb268)) _ _ t270 (t256.length : Int) t278 t279 t282 t283 t286 _ ?side1 A46.out).mono ?_); (case side1 => exact HO272.out); rintro e w75 ⟨v280, v284, rfl, ho0, ho1, hb⟩; refine ⟨_, rfl, ?_⟩; have n0_ := Aside0.mk (Kd.V_below (by (with_reducible repeat (first | apply Kd.V_alloc | apply Kd.V_drewN | apply Kd.V_drew)); exact HO_8.out) hb); have n1_ := Aside0.mk (Kd.V_below (by (with_reducible repeat (first | apply Kd.V_alloc | apply Kd.V_drewN | apply Kd.V_drew)); exact HO_269001.out) hb); have n2_ := Aside0.mk (Kd.V_below (by (with_reducible repeat (first | apply Kd.V_alloc | apply Kd.V_drewN | apply Kd.V_drew)); exact HO272.out) hb); have n3_ := Aside0.mk (Kd.V_below (by (with_reducible repeat (first | apply Kd.V_alloc | apply Kd.V_drewN | apply Kd.V_drew)); exact HO276.out) hb); have n4_ := Aside0.mk (Kd.V_lower (Kd.V_mono (ok' := fun k_ => k_ ≠ gb253 ∧ k_ ≠ gb268) ho0 (fun k_ hk_ => ⟨Or.elim hk_ (fun hs_ => hs_.1) (fun hn_ => (Kd.freshB (g := gb253) (o := .cells #[.slice A0_0 l0_0.length c0_0, .int .i64 a0_1, .slice A0_2 l0_2.length c0_2, .int .u8 a0_3] 46 (0, 0)) (by (with_reducible repeat (first | refine blk_drewN ?_ _ | refine blk_drew ?_ | refine blk_alloc ?_ _)); exact BK253.out) k_ hn_)), Or.elim hk_ (fun hs_ => hs_.2) (fun hn_ => (Kd.freshB (g := gb268) (o := .cells #[.int .i64 t259, .slice Ao19 t260.length co19, .bool t263] 29 (0, 0)) (by (with_reducible repeat (first | refine blk_drewN ?_ _ | refine blk_drew ?_ | refine blk_alloc ?_ _)); exact BK268.out) k_ hn_))⟩)) (below_size (by repeat (first | (with_reducible first | exact HB.out | apply below_alloc | apply pw_below_drewN | apply below_drew1 | refine below_set ?_ GE253.out | refine below_set ?_ GE268.out) | exact HB.out)))); have n5_ := Aside0.mk (Kd.V_lower (Kd.V_mono (ok' := fun k_ => k_ ≠ gb253 ∧ k_ ≠ gb268) ho1 (fun k_ hk_ => ⟨Or.elim hk_ (fun hs_ => hs_.1) (fun hn_ => (Kd.freshB (g := gb253) (o := .cells #[.slice A0_0 l0_0.length c0_0, .int .i64 a0_1, .slice A0_2 l0_2.length c0_2, .int .u8 a0_3] 46 (0, 0)) (by (with_reducible repeat (first | refine blk_drewN ?_ _ | refine blk_drew ?_ | refine blk_alloc ?_ _)); exact BK253.out) k_ hn_)), Or.elim hk_ (fun hs_ => hs_.2) (fun hn_ => (Kd.freshB (g := gb268) (o := .cells #[.int .i64 t259, .slice Ao19 t260.length co19, .bool t263] 29 (0, 0)) (by (with_reducible repeat (first | refine blk_drewN ?_ _ | refine blk_drew ?_ | refine blk_alloc ?_ _)); exact BK268.out) k_ hn_))⟩)) (below_size (by repeat (first | (with_reducible first | exact HB.out | apply below_alloc | apply pw_below_drewN | apply below_drew1 | refine below_set ?_ GE253.out | refine below_set ?_ GE268.out) | exact HB.out)))); have n6_ := Aside0.mk (blk_below (g := gb253) (o := .cells #[.slice A0_0 l0_0.length c0_0, .int .i64 a0_1, .slice A0_2 l0_2.length c0_2, .int .u8 a0_3] 46 (0, 0)) (by (with_reducible repeat (first | refine blk_drewN ?_ _ | refine blk_drew ?_ | refine blk_alloc ?_ _)); exact BK253.out) hb); have n7_ := Aside0.mk (blk_below (g := gb268) (o := .cells #[.int .i64 t259, .slice Ao19 t260.length co19, .bool t263] 29 (0, 0)) (by (with_reducible repeat (first | refine blk_drewN ?_ _ | refine blk_drew ?_ | refine blk_alloc ?_ _)); exact BK268.out) hb); have n8_ := Aside0.mk (below_step (by repeat (first | (with_reducible first | exact HB.out | apply below_alloc | apply pw_below_drewN | apply below_drew1 | refine below_set ?_ GE253.out | refine below_set ?_ GE268.out) | exact HB.out)) hb); clear HO_8; clear HO_269001; clear HO272; clear HO276; clear BK253; clear BK268; clear HB; have HO_8 := n0_; have HO_269001 := n1_; have HO272 := n2_; have HO276 := n3_; have HO281 := n4_; have HO285 := n5_; have BK253 := n6_; have BK268 := n7_; have HB := n8_; clear n0_ n1_ n2_ n3_ n4_ n5_ n6_ n7_ n8_; (try clear hb); (try clear hb2); (try clear hk); (try clear hi); (try clear ho0); (try clear ho1)) | ((with_reducible refine gate_dst (N := 17) rfl ?_); (try (refine gate_guard (by rfl) ?_; dsimp only)); refine box_event ?hg (N := 17) ?hd (cs := #[.int .i64 0, .slice none 0 0, .bool false]) (t := 29) ?hr ?_; (case hd => rfl); (case hg => rfl); (case hr => first | (go_simp; done) | (go_simp; rfl)); intro gb287 hg w76 hbox hb; have n0_ := Aside0.mk (Kd.V_below (Kd.V_elderB (by (with_reducible repeat (first | apply Kd.V_alloc | apply Kd.V_drewN | apply Kd.V_drew)); exact HO_8.out) gb287 (Nat.le_of_eq hg.symm)) hb); have n1_ := Aside0.mk (Kd.V_below (Kd.V_elderB (by (with_reducible repeat (first | apply Kd.V_alloc | apply Kd.V_drewN | apply Kd.V_drew)); exact HO_269001.out) gb287 (Nat.le_of_eq hg.symm)) hb); have n2_ := Aside0.mk (Kd.V_below (Kd.V_elderB (by (with_reducible repeat (first | apply Kd.V_alloc | apply Kd.V_drewN | apply Kd.V_drew)); exact HO272.out) gb287 (Nat.le_of_eq hg.symm)) hb); have n3_ := Aside0.mk (Kd.V_below (Kd.V_elderB (by (with_reducible repeat (first | apply Kd.V_alloc | apply Kd.V_drewN | apply Kd.V_drew)); exact HO276.out) gb287 (Nat.le_of_eq hg.symm)) hb); have n4_ := Aside0.mk (Kd.V_below (Kd.V_elderB (by (with_reducible repeat (first | apply Kd.V_alloc | apply Kd.V_drewN | apply Kd.V_drew)); exact HO281.out) gb287 (Nat.le_of_eq hg.symm)) hb); have n5_ := Aside0.mk (Kd.V_below (Kd.V_elderB (by (with_reducible repeat (first | apply Kd.V_alloc | apply Kd.V_drewN | apply Kd.V_drew)); exact HO285.out) gb287 (Nat.le_of_eq hg.symm)) hb); have n6_ := Aside0.mk (blk_below (g := gb253) (o := .cells #[.slice A0_0 l0_0.length c0_0, .int .i64 a0_1, .slice A0_2 l0_2.length c0_2, .int .u8 a0_3] 46 (0, 0)) (by (with_reducible repeat (first | refine blk_drewN ?_ _ | refine blk_drew ?_ | refine blk_alloc ?_ _)); exact BK253.out) hb); have n7_ := Aside0.mk (blk_below (g := gb268) (o := .cells #[.int .i64 t259, .slice Ao19 t260.length co19, .bool t263] 29 (0, 0)) (by (with_reducible repeat (first | refine blk_drewN ?_ _ | refine blk_drew ?_ | refine blk_alloc ?_ _)); exact BK268.out) hb); have n8_ := Aside0.mk (below_step (by repeat (first | (with_reducible first | exact HB.out | apply below_alloc | apply pw_below_drewN | apply below_drew1 | refine below_set ?_ GE253.out | refine below_set ?_ GE268.out) | exact HB.out)) hb); have n9_ := Aside0.mk (hbox); have n10_ := Aside0.mk ((by rw [hg]; exact (below_size (by repeat (first | (with_reducible first | exact HB.out | apply below_alloc | apply pw_below_drewN | apply below_drew1 | refine below_set ?_ GE253.out | refine below_set ?_ GE268.out) | exact HB.out))) : w.heap.size ≤ gb287)); have n11_ := Aside0.mk ((by rw [hg]; exact (below_size (by repeat (first | (with_reducible first | exact HB.out | apply below_alloc | apply pw_below_drewN | apply below_drew1 | refine below_set ?_ GE253.out | refine below_set ?_ GE268.out) | exact HB.out))) : w.heap.size ≤ gb287)); have n12_ := Aside0.mk ((by rw [hg]; exact Nat.ne_of_lt (blk_lt (g := gb253) (o := .cells #[.slice A0_0 l0_0.length c0_0, .int .i64 a0_1, .slice A0_2 l0_2.length c0_2, .int .u8 a0_3] 46 (0, 0)) (by (with_reducible repeat (first | refine blk_drewN ?_ _ | refine blk_drew ?_ | refine blk_alloc ?_ _)); exact BK253.out)) : gb253 ≠ gb287)); have n13_ := Aside0.mk ((by rw [hg]; exact Nat.ne_of_gt (blk_lt (g := gb253) (o := .cells #[.slice A0_0 l0_0.length c0_0, .int .i64 a0_1, .slice A0_2 l0_2.length c0_2, .int .u8 a0_3] 46 (0, 0)) (by (with_reducible repeat (first | refine blk_drewN ?_ _ | refine blk_drew ?_ | refine blk_alloc ?_ _)); exact BK253.out)) : gb287 ≠ gb253)); have n14_ := Aside0.mk ((by rw [hg]; exact Nat.ne_of_lt (blk_lt (g := gb268) (o := .cells #[.int .i64 t259, .slice Ao19 t260.length co19, .bool t263] 29 (0, 0)) (by (with_reducible repeat (first | refine blk_drewN ?_ _ | refine blk_drew ?_ | refine blk_alloc ?_ _)); exact BK268.out)) : gb268 ≠ gb287)); have n15_ := Aside0.mk ((by rw [hg]; exact Nat.ne_of_gt (blk_lt (g := gb268) (o := .cells #[.int .i64 t259, .slice Ao19 t260.length co19, .bool t263] 29 (0, 0)) (by (with_reducible repeat (first | refine blk_drewN ?_ _ | refine blk_drew ?_ | refine blk_alloc ?_ _)); exact BK268.out)) : gb287 ≠ gb268)); clear HO_8; clear HO_269001; clear HO272; clear HO276; clear HO281; clear HO285; clear BK253; clear BK268; clear HB; have HO_8 := n0_; have HO_269001 := n1_; have HO272 := n2_; have HO276 := n3_; have HO281 := n4_; have HO285 := n5_; have BK253 := n6_; have BK268 := n7_; have HB := n8_; have BK287 := n9_; have GW287 := n10_; have GE287 := n11_; have NB253_287 := n12_; have NB287_253 := n13_; have NB268_287 := n14_; have NB287_268 := n15_; clear n0_ n1_ n2_ n3_ n4_ n5_ n6_ n7_ n8_ n9_ n10_ n11_ n12_ n13_ n14_ n15_; clear hb hbox hg; have hnb77 := NB287_253.out; have hnc77 := NB253_287.out; have hnb78 := NB287_268.out; have hnc78 := NB268_287.out; have hcz79_0 : w76.cell? ⟨gb287, 0, none⟩ = some (.int .i64 0) := (blk_cell BK287.out 0).trans rfl; have hcz79_1 : w76.cell? ⟨gb287, 1, none⟩ = some (.slice none 0 0) := (blk_cell BK287.out 1).trans rfl; have hcz79_2 : w76.cell? ⟨gb287, 2, none⟩ = some (.bool false) := (blk_cell BK287.out 2).trans rfl; have hfz79_0 := blk_frozen BK287.out 0; have hfz79_1 := blk_frozen BK287.out 1; have hfz79_2 := blk_frozen BK287.out 2; obtain ⟨Ao80, co80, eo80⟩ := Kd.V_slice HO281.out; subst eo80) | ((with_reducible refine gate_store (t := 29) (p := 17) rfl ?_); refine store_event (t := 29) (p := 17) (v := ?vo_w81) (w1 := (((w76.setCell ⟨gb287, 0, none⟩ (.int .i64 t278)).setCell ⟨gb287, 1, none⟩ (.slice Ao80 t279.length co80)).setCell ⟨gb287, 2, none⟩ (.bool t282))) ?hg ?ho ?hn ?hr ?_; (case ho => rfl); (case hg => rfl); (case hn => rfl); (case hr => first | (go_simp; done) | (go_simp; rfl)); intro w81 hw; have n0_ : Aside0 (Kd.V k29 29 w81 w.heap.size (fun k_ => k_ ≠ gb253 ∧ k_ ≠ gb268 ∧ k_ ≠ gb287) (.slice Ao14 t256.length co14) t256) := ⟨(by rw [hw]; exact (by (with_reducible repeat (first | apply Kd.V_alloc | apply Kd.V_drewN | apply Kd.V_drew)); exact Kd.V_mono (Kd.V_far (p := ⟨gb287, 2, none⟩) (Kd.V_far (p := ⟨gb287, 1, none⟩) (Kd.V_far (p := ⟨gb287, 0, none⟩) (Kd.V_mono HO_8.out (fun k_ hk => (⟨hk, hk.2⟩ : _ ∧ k_ ≠ gb287))) (fun _ hk => hk.2) (.int .i64 t278)) (fun _ hk => hk.2) (.slice Ao80 t279.length co80)) (fun _ hk => hk.2) (.bool t282)) (fun _ hk => ⟨hk.1.1.1, ⟨hk.1.1.2, hk.1.2⟩⟩)))⟩; have n1_ : Aside0 (Kd.V (Kd.int .u8) 5 w81 w.heap.size (fun k_ => k_ ≠ gb253 ∧ k_ ≠ gb268 ∧ k_ ≠ gb287) (.slice Ao19 t260.length co19) t260) := ⟨(by rw [hw]; exact (by (with_reducible repeat (first | apply Kd.V_alloc | apply Kd.V_drewN | apply Kd.V_drew)); exact Kd.V_mono (Kd.V_far (p := ⟨gb287, 2, none⟩) (Kd.V_far (p := ⟨gb287, 1, none⟩) (Kd.V_far (p := ⟨gb287, 0, none⟩) (Kd.V_mono HO_269001.out (fun k_ hk => (⟨hk, hk.2⟩ : _ ∧ k_ ≠ gb287))) (fun _ hk => hk.2) (.int .i64 t278)) (fun _ hk => hk.2) (.slice Ao80 t279.length co80)) (fun _ hk => hk.2) (.bool t282)) (fun _ hk => ⟨hk.1.1.1, ⟨hk.1.1.2, hk.1.2⟩⟩)))⟩; have n2_ : Aside0 (Kd.V k29 29 w81 w.heap.size (fun k_ => k_ ≠ gb253 ∧ k_ ≠ gb268 ∧ k_ ≠ gb287) (.slice Ao73 t270.length co73) t270) := ⟨(by rw [hw]; exact (by (with_reducible repeat (first | apply Kd.V_alloc | apply Kd.V_drewN | apply Kd.V_drew)); exact Kd.V_mono (Kd.V_far (p := ⟨gb287, 2, none⟩) (Kd.V_far (p := ⟨gb287, 1, none⟩) (Kd.V_far (p := ⟨gb287, 0, none⟩) (Kd.V_mono HO272.out (fun k_ hk => (⟨hk, hk.2⟩ : _ ∧ k_ ≠ gb287))) (fun _ hk => hk.2) (.int .i64 t278)) (fun _ hk => hk.2) (.slice Ao80 t279.length co80)) (fun _ hk => hk.2) (.bool t282)) (fun _ hk => ⟨hk.1.1.1, ⟨hk.1.1.2, hk.1.2⟩⟩)))⟩; have n3_ : Aside0 (Kd.V k29 29 w81 w.heap.size (fun k_ => k_ ≠ gb253 ∧ k_ ≠ gb268 ∧ k_ ≠ gb287) v275 t274) := ⟨(by rw [hw]; exact (by (with_reducible repeat (first | apply Kd.V_alloc | apply Kd.V_drewN | apply Kd.V_drew)); exact Kd.V_mono (Kd.V_far (p := ⟨gb287, 2, none⟩) (Kd.V_far (p := ⟨gb287, 1, none⟩) (Kd.V_far (p := ⟨gb287, 0, none⟩) (Kd.V_mono HO276.out (fun k_ hk => (⟨hk, hk.2⟩ : _ ∧ k_ ≠ gb287))) (fun _ hk => hk.2) (.int .i64 t278)) (fun _ hk => hk.2) (.slice Ao80 t279.length co80)) (fun _ hk => hk.2) (.bool t282)) (fun _ hk => ⟨hk.1.1.1, ⟨hk.1.1.2, hk.1.2⟩⟩)))⟩; have n4_ : Aside0 (Kd.V (Kd.int .u8) 5 w81 w.heap.size (fun k_ => k_ ≠ gb253 ∧ k_ ≠ gb268 ∧ k_ ≠ gb287) (.slice Ao80 t279.length co80) t279) := ⟨(by rw [hw]; exact (by (with_reducible repeat (first | apply Kd.V_alloc | apply Kd.V_drewN | apply Kd.V_drew)); exact Kd.V_mono (Kd.V_far (p := ⟨gb287, 2, none⟩) (Kd.V_far (p := ⟨gb287, 1, none⟩) (Kd.V_far (p := ⟨gb287, 0, none⟩) (Kd.V_mono HO281.out (fun k_ hk => (⟨hk, hk.2⟩ : _ ∧ k_ ≠ gb287))) (fun _ hk => hk.2) (.int .i64 t278)) (fun _ hk => hk.2) (.slice Ao80 t279.length co80)) (fun _ hk => hk.2) (.bool t282)) (fun _ hk => ⟨hk.1.1.1, ⟨hk.1.1.2, hk.1.2⟩⟩)))⟩; have n5_ : Aside0 (Kd.V k29 29 w81 w.heap.size (fun k_ => k_ ≠ gb253 ∧ k_ ≠ gb268 ∧ k_ ≠ gb287) v284 t283) := ⟨(by rw [hw]; exact (by (with_reducible repeat (first | apply Kd.V_alloc | apply Kd.V_drewN | apply Kd.V_drew)); exact Kd.V_mono (Kd.V_far (p := ⟨gb287, 2, none⟩) (Kd.V_far (p := ⟨gb287, 1, none⟩) (Kd.V_far (p := ⟨gb287, 0, none⟩) (Kd.V_mono HO285.out (fun k_ hk => (⟨hk, hk.2⟩ : _ ∧ k_ ≠ gb287))) (fun _ hk => hk.2) (.int .i64 t278)) (fun _ hk => hk.2) (.slice Ao80 t279.length co80)) (fun _ hk => hk.2) (.bool t282)) (fun _ hk => ⟨hk.1.1.1, ⟨hk.1.1.2, hk.1.2⟩⟩)))⟩; have n6_ : Aside0 (w81.heap[gb253]? = some (.cells #[.slice A0_0 l0_0.length c0_0, .int .i64 a0_1, .slice A0_2 l0_2.length c0_2, .int .u8 a0_3] 46 (0, 0))) := ⟨(by rw [hw]; exact (by (with_reducible repeat (first | refine blk_drewN ?_ _ | refine blk_drew ?_ | refine blk_alloc ?_ _)); refine blk_far ?_ NB253_287.out _; (with_reducible repeat (first | refine blk_drewN ?_ _ | refine blk_drew ?_ | refine blk_alloc ?_ _)); refine blk_far ?_ NB253_287.out _; (with_reducible repeat (first | refine blk_drewN ?_ _ | refine blk_drew ?_ | refine blk_alloc ?_ _)); refine blk_far ?_ NB253_287.out _; (with_reducible repeat (first | refine blk_drewN ?_ _ | refine blk_drew ?_ | refine blk_alloc ?_ _)); exact BK253.out))⟩; have n7_ : Aside0 (w81.heap[gb268]? = some (.cells #[.int .i64 t259, .slice Ao19 t260.length co19, .bool t263] 29 (0, 0))) := ⟨(by rw [hw]; exact (by (with_reducible repeat (first | refine blk_drewN ?_ _ | refine blk_drew ?_ | refine blk_alloc ?_ _)); refine blk_far ?_ NB268_287.out _; (with_reducible repeat (first | refine blk_drewN ?_ _ | refine blk_drew ?_ | refine blk_alloc ?_ _)); refine blk_far ?_ NB268_287.out _; (with_reducible repeat (first | refine blk_drewN ?_ _ | refine blk_drew ?_ | refine blk_alloc ?_ _)); refine blk_far ?_ NB268_287.out _; (with_reducible repeat (first | refine blk_drewN ?_ _ | refine blk_drew ?_ | refine blk_alloc ?_ _)); exact BK268.out))⟩; have n8_ : Aside0 (w81.heap[gb287]? = some (.cells #[.int .i64 t278, .slice Ao80 t279.length co80, .bool t282] 29 (0, 0))) := ⟨(by rw [hw]; exact (by (with_reducible repeat (first | refine blk_drewN ?_ _ | refine blk_drew ?_ | refine blk_alloc ?_ _)); refine blk_put (cs := #[.int .i64 t278, .slice Ao80 t279.length co80, .bool false]) ?_ 2 _ rfl; (with_reducible repeat (first | refine blk_drewN ?_ _ | refine blk_drew ?_ | refine blk_alloc ?_ _)); refine blk_put (cs := #[.int .i64 t278, .slice none 0 0, .bool false]) ?_ 1 _ rfl; (with_reducible repeat (first | refine blk_drewN ?_ _ | refine blk_drew ?_ | refine blk_alloc ?_ _)); refine blk_put (cs := #[.int .i64 0, .slice none 0 0, .bool false]) ?_ 0 _ rfl; (with_reducible repeat (first | refine blk_drewN ?_ _ | refine blk_drew ?_ | refine blk_alloc ?_ _)); exact BK287.out))⟩; have n9_ : Aside0 (Below w.heap.size w w81) := ⟨(by rw [hw]; exact (by repeat (first | (with_reducible first | exact HB.out | apply below_alloc | apply pw_below_drewN | apply below_drew1 | refine below_set ?_ GE253.out | refine below_set ?_ GE268.out | refine below_set ?_ GE287.out) | exact HB.out)))⟩; clear hw; clear HO_8; clear HO_269001; clear HO272; clear HO276; clear HO281; clear HO285; clear BK253; clear BK268; clear BK287; clear HB; have HO_8 := n0_; have HO_269001 := n1_; have HO272 := n2_; have HO276 := n3_; have HO281 := n4_; have HO285 := n5_; have BK253 := n6_; have BK268 := n7_; have BK287 := n8_; have HB := n9_; clear n0_ n1_ n2_ n3_ n4_ n5_ n6_ n7_ n8_ n9_) | ((with_reducible refine gate_callee (f := 11) rfl ?_); refine goesL_ (some 116) rfl rfl Try.func11 (by kernel_rfl) rfl #[.slice Ao14 t256.length co14, .int .i64 ji59] rfl (by (try simp only [List.map_toArray, List.map_cons, List.map_nil]); first | done | (simp only [hji59]; rfl) | rfl | (simp only [List.length_drop, List.length_take]; rfl)) ?_; (with_reducible refine (net_Give.calls (fun k_ => (k_ ≠ gb253 ∧ (k_ ≠ gb268 ∧ k_ ≠ gb287))) _ _ t256 ji59 t288 t289 t292 t293 t296 _ ?side1 A47.out).mono ?_); (case side1 => exact HO_8.out); rintro e w82 ⟨v290, v294, rfl, ho0, ho1, hb⟩; refine ⟨_, rfl, ?_⟩; have n0_ := Aside0.mk (Kd.V_below (by (with_reducible repeat (first | apply Kd.V_alloc | apply Kd.V_drewN | apply Kd.V_drew)); exact HO_8.out) hb); have n1_ := Aside0.mk (Kd.V_below (by (with_reducible repeat (first | apply Kd.V_alloc | apply Kd.V_drewN | apply Kd.V_drew)); exact HO_269001.out) hb); have n2_ := Aside0.mk (Kd.V_below (by (with_reducible repeat (first | apply Kd.V_alloc | apply Kd.V_drewN | apply Kd.V_drew)); exact HO272.out) hb); have n3_ := Aside0.mk (Kd.V_below (by (with_reducible repeat (first | apply Kd.V_alloc | apply Kd.V_drewN | apply Kd.V_drew)); exact HO276.out) hb); have n4_ := Aside0.mk (Kd.V_below (by (with_reducible repeat (first | apply Kd.V_alloc | apply Kd.V_drewN | apply Kd.V_drew)); exact HO281.out) hb); have n5_ := Aside0.mk (Kd.V_below (by (with_reducible repeat (first | apply Kd.V_alloc | apply Kd.V_drewN | apply Kd.V_drew)); exact HO285.out) hb); have n6_ := Aside0.mk (Kd.V_lower (Kd.V_mono (ok' := fun k_ => k_ ≠ gb253 ∧ k_ ≠ gb268 ∧ k_ ≠ gb287) ho0 (fun k_ hk_ => ⟨Or.elim hk_ (fun hs_ => hs_.1) (fun hn_ => (Kd.freshB (g := gb253) (o := .cells #[.slice A0_0 l0_0.length c0_0, .int .i64 a0_1, .slice A0_2 l0_2.length c0_2, .int .u8 a0_3] 46 (0, 0)) (by (with_reducible repeat (first | refine blk_drewN ?_ _ | refine blk_drew ?_ | refine blk_alloc ?_ _)); exact BK253.out) k_ hn_)), Or.elim hk_ (fun hs_ => hs_.2.1) (fun hn_ => (Kd.freshB (g := gb268) (o := .cells #[.int .i64 t259, .slice Ao19 t260.length co19, .bool t263] 29 (0, 0)) (by (with_reducible repeat (first | refine blk_drewN ?_ _ | refine blk_drew ?_ | refine blk_alloc ?_ _)); exact BK268.out) k_ hn_)), Or.elim hk_ (fun hs_ => hs_.2.2) (fun hn_ => (Kd.freshB (g := gb287) (o := .cells #[.int .i64 t278, .slice Ao80 t279.length co80, .bool t282] 29 (0, 0)) (by (with_reducible repeat (first | refine blk_drewN ?_ _ | refine blk_drew ?_ | refine blk_alloc ?_ _)); exact BK287.out) k_ hn_))⟩)) (below_size (by repeat (first | (with_reducible first | exact HB.out | apply below_alloc | apply pw_below_drewN | apply below_drew1 | refine below_set ?_ GE253.out | refine below_set ?_ GE268.out | refine below_set ?_ GE287.out) | exact HB.out)))); have n7_ := Aside0.mk (Kd.V_lower (Kd.V_mono (ok' := fun k_ => k_ ≠ gb253 ∧ k_ ≠ gb268 ∧ k_ ≠ gb287) ho1 (fun k_ hk_ => ⟨Or.elim hk_ (fun hs_ => hs_.1) (fun hn_ => (Kd.freshB (g := gb253) (o := .cells #[.slice A0_0 l0_0.length c0_0, .int .i64 a0_1, .slice A0_2 l0_2.length c0_2, .int .u8 a0_3] 46 (0, 0)) (by (with_reducible repeat (first | refine blk_drewN ?_ _ | refine blk_drew ?_ | refine blk_alloc ?_ _)); exact BK253.out) k_ hn_)), Or.elim hk_ (fun hs_ => hs_.2.1) (fun hn_ => (Kd.freshB (g := gb268) (o := .cells #[.int .i64 t259, .slice Ao19 t260.length co19, .bool t263] 29 (0, 0)) (by (with_reducible repeat (first | refine blk_drewN ?_ _ | refine blk_drew ?_ | refine blk_alloc ?_ _)); exact BK268.out) k_ hn_)), Or.elim hk_ (fun hs_ => hs_.2.2) (fun hn_ => (Kd.freshB (g := gb287) (o := .cells #[.int .i64 t278, .slice Ao80 t279.length co80, .bool t282] 29 (0, 0)) (by (with_reducible repeat (first | refine blk_drewN ?_ _ | refine blk_drew ?_ | refine blk_alloc ?_ _)); exact BK287.out) k_ hn_))⟩)) (below_size (by repeat (first | (with_reducible first | exact HB.out | apply below_alloc | apply pw_below_drewN | apply below_drew1 | refine below_set ?_ GE253.out | refine below_set ?_ GE268.out | refine below_set ?_ GE287.out) | exact HB.out)))); have n8_ := Aside0.mk (blk_below (g := gb253) (o := .cells #[.slice A0_0 l0_0.length c0_0, .int .i64 a0_1, .slice A0_2 l0_2.length c0_2, .int .u8 a0_3] 46 (0, 0)) (by (with_reducible repeat (first | refine blk_drewN ?_ _ | refine blk_drew ?_ | refine blk_alloc ?_ _)); exact BK253.out) hb); have n9_ := Aside0.mk (blk_below (g := gb268) (o := .cells #[.int .i64 t259, .slice Ao19 t260.length co19, .bool t263] 29 (0, 0)) (by (with_reducible repeat (first | refine blk_drewN ?_ _ | refine blk_drew ?_ | refine blk_alloc ?_ _)); exact BK268.out) hb); have n10_ := Aside0.mk (blk_below (g := gb287) (o := .cells #[.int .i64 t278, .slice Ao80 t279.length co80, .bool t282] 29 (0, 0)) (by (with_reducible repeat (first | refine blk_drewN ?_ _ | refine blk_drew ?_ | refine blk_alloc ?_ _)); exact BK287.out) hb); have n11_ := Aside0.mk (below_step (by repeat (first | (with_reducible first | exact HB.out | apply below_alloc | apply pw_below_drewN | apply below_drew1 | refine below_set ?_ GE253.out | refine below_set ?_ GE268.out | refine below_set ?_ GE287.out) | exact HB.out)) hb); clear HO_8; clear HO_269001; clear HO272; clear HO276; clear HO281; clear HO285; clear BK253; clear BK268; clear BK287; clear HB; have HO_8 := n0_; have HO_269001 := n1_; have HO272 := n2_; have HO276 := n3_; have HO281 := n4_; have HO285 := n5_; have HO291 := n6_; have HO295 := n7_; have BK253 := n8_; have BK268 := n9_; have BK287 := n10_; have HB := n11_; clear n0_ n1_ n2_ n3_ n4_ n5_ n6_ n7_ n8_ n9_ n10_ n11_; (try clear hb); (try clear hb2); (try clear hk); (try clear hi); (try clear ho0); (try clear ho1)) | ((with_reducible refine gate_dst (N := 20) rfl ?_); (try (refine gate_guard (by rfl) ?_; dsimp only)); refine box_event ?hg (N := 20) ?hd (cs := #[.int .i64 0, .slice none 0 0, .bool false]) (t := 29) ?hr ?_; (case hd => rfl); (case hg => rfl); (case hr => first | (go_simp; done) | (go_simp; rfl)); intro gb297 hg w83 hbox hb; have n0_ := Aside0.mk (Kd.V_below (Kd.V_elderB (by (with_reducible repeat (first | apply Kd.V_alloc | apply Kd.V_drewN | apply Kd.V_drew)); exact HO_8.out) gb297 (Nat.le_of_eq hg.symm)) hb); have n1_ := Aside0.mk (Kd.V_below (Kd.V_elderB (by (with_reducible repeat (first | apply Kd.V_alloc | apply Kd.V_drewN | apply Kd.V_drew)); exact HO_269001.out) gb297 (Nat.le_of_eq hg.symm)) hb); have n2_ := Aside0.mk (Kd.V_below (Kd.V_elderB (by (with_reducible repeat (first | apply Kd.V_alloc | apply Kd.V_drewN | apply Kd.V_drew)); exact HO272.out) gb297 (Nat.le_of_eq hg.symm)) hb); have n3_ := Aside0.mk (Kd.V_below (Kd.V_elderB (by (with_reducible repeat (first | apply Kd.V_alloc | apply Kd.V_drewN | apply Kd.V_drew)); exact HO276.out) gb297 (Nat.le_of_eq hg.symm)) hb); have n4_ := Aside0.mk (Kd.V_below (Kd.V_elderB (by (with_reducible repeat (first | apply Kd.V_alloc | apply Kd.V_drewN | apply Kd.V_drew)); exact HO281.out) gb297 (Nat.le_of_eq hg.symm)) hb); have n5_ := Aside0.mk (Kd.V_below (Kd.V_elderB (by (with_reducible repeat (first | apply Kd.V_alloc | apply Kd.V_drewN | apply Kd.V_drew)); exact HO285.out) gb297 (Nat.le_of_eq hg.symm)) hb); have n6_ := Aside0.mk (Kd.V_below (Kd.V_elderB (by (with_reducible repeat (first | apply Kd.V_alloc | apply Kd.V_drewN | apply Kd.V_drew)); exact HO291.out) gb297 (Nat.le_of_eq hg.symm)) hb); have n7_ := Aside0.mk (Kd.V_below (Kd.V_elderB (by (with_reducible repeat (first | apply Kd.V_alloc | apply Kd.V_drewN | apply Kd.V_drew)); exact HO295.out) gb297 (Nat.le_of_eq hg.symm)) hb); have n8_ := Aside0.mk (blk_below (g := gb253) (o := .cells #[.slice A0_0 l0_0.length c0_0, .int .i64 a0_1, .slice A0_2 l0_2.length c0_2, .int .u8 a0_3] 46 (0, 0)) (by (with_reducible repeat (first | refine blk_drewN ?_ _ | refine blk_drew ?_ | refine blk_alloc ?_ _)); exact BK253.out) hb); have n9_ := Aside0.mk (blk_below (g := gb268) (o := .cells #[.int .i64 t259, .slice Ao19 t260.length co19, .bool t263] 29 (0, 0)) (by (with_reducible repeat (first | refine blk_drewN ?_ _ | refine blk_drew ?_ | refine blk_alloc ?_ _)); exact BK268.out) hb); have n10_ := Aside0.mk (blk_below (g := gb287) (o := .cells #[.int .i64 t278, .slice Ao80 t279.length co80, .bool t282] 29 (0, 0)) (by (with_reducible repeat (first | refine blk_drewN ?_ _ | refine blk_drew ?_ | refine blk_alloc ?_ _)); exact BK287.out) hb); have n11_ := Aside0.mk (below_step (by repeat (first | (with_reducible first | exact HB.out | apply below_alloc | apply pw_below_drewN | apply below_drew1 | refine below_set ?_ GE253.out | refine below_set ?_ GE268.out | refine below_set ?_ GE287.out) | exact HB.out)) hb); have n12_ := Aside0.mk (hbox); have n13_ := Aside0.mk ((by rw [hg]; exact (below_size (by repeat (first | (with_reducible first | exact HB.out | apply below_alloc | apply pw_below_drewN | apply below_drew1 | refine below_set ?_ GE253.out | refine below_set ?_ GE268.out | refine below_set ?_ GE287.out) | exact HB.out))) : w.heap.size ≤ gb297)); have n14_ := Aside0.mk ((by rw [hg]; exact (below_size (by repeat (first | (with_reducible first | exact HB.out | apply below_alloc | apply pw_below_drewN | apply below_drew1 | refine below_set ?_ GE253.out | refine below_set ?_ GE268.out | refine below_set ?_ GE287.out) | exact HB.out))) : w.heap.size ≤ gb297)); have n15_ := Aside0.mk ((by rw [hg]; exact Nat.ne_of_lt (blk_lt (g := gb253) (o := .cells #[.slice A0_0 l0_0.length c0_0, .int .i64 a0_1, .slice A0_2 l0_2.length c0_2, .int .u8 a0_3] 46 (0, 0)) (by (with_reducible repeat (first | refine blk_drewN ?_ _ | refine blk_drew ?_ | refine blk_alloc ?_ _)); exact BK253.out)) : gb253 ≠ gb297)); have n16_ := Aside0.mk ((by rw [hg]; exact Nat.ne_of_gt (blk_lt (g := gb253) (o := .cells #[.slice A0_0 l0_0.length c0_0, .int .i64 a0_1, .slice A0_2 l0_2.length c0_2, .int .u8 a0_3] 46 (0, 0)) (by (with_reducible repeat (first | refine blk_drewN ?_ _ | refine blk_drew ?_ | refine blk_alloc ?_ _)); exact BK253.out)) : gb297 ≠ gb253)); have n17_ := Aside0.mk ((by rw [hg]; exact Nat.ne_of_lt (blk_lt (g := gb268) (o := .cells #[.int .i64 t259, .slice Ao19 t260.length co19, .bool t263] 29 (0, 0)) (by (with_reducible repeat (first | refine blk_drewN ?_ _ | refine blk_drew ?_ | refine blk_alloc ?_ _)); exact BK268.out)) : gb268 ≠ gb297)); have n18_ := Aside0.mk ((by rw [hg]; exact Nat.ne_of_gt (blk_lt (g := gb268) (o := .cells #[.int .i64 t259, .slice Ao19 t260.length co19, .bool t263] 29 (0, 0)) (by (with_reducible repeat (first | refine blk_drewN ?_ _ | refine blk_drew ?_ | refine blk_alloc ?_ _)); exact BK268.out)) : gb297 ≠ gb268)); have n19_ := Aside0.mk ((by rw [hg]; exact Nat.ne_of_lt (blk_lt (g := gb287) (o := .cells #[.int .i64 t278, .slice Ao80 t279.length co80, .bool t282] 29 (0, 0)) (by (with_reducible repeat (first | refine blk_drewN ?_ _ | refine blk_drew ?_ | refine blk_alloc ?_ _)); exact BK287.out)) : gb287 ≠ gb297)); have n20_ := Aside0.mk ((by rw [hg]; exact Nat.ne_of_gt (blk_lt (g := gb287) (o := .cells #[.int .i64 t278, .slice Ao80 t279.length co80, .bool t282] 29 (0, 0)) (by (with_reducible repeat (first | refine blk_drewN ?_ _ | refine blk_drew ?_ | refine blk_alloc ?_ _)); exact BK287.out)) : gb297 ≠ gb287)); clear HO_8; clear HO_269001; clear HO272; clear HO276; clear HO281; clear HO285; clear HO291; clear HO295; clear BK253; clear BK268; clear BK287; clear HB; have HO_8 := n0_; have HO_269001 := n1_; have HO272 := n2_; have HO276 := n3_; have HO281 := n4_; have HO285 := n5_; have HO291 := n6_; have HO295 := n7_; have BK253 := n8_; have BK268 := n9_; have BK287 := n10_; have HB := n11_; have BK297 := n12_; have GW297 := n13_; have GE297 := n14_; have NB253_297 := n15_; have NB297_253 := n16_; have NB268_297 := n17_; have NB297_268 := n18_; have NB287_297 := n19_; have NB297_287 := n20_; clear n0_ n1_ n2_ n3_ n4_ n5_ n6_ n7_ n8_ n9_ n10_ n11_ n12_ n13_ n14_ n15_ n16_ n17_ n18_ n19_ n20_; clear hb hbox hg; have hnb84 := NB297_253.out; have hnc84 := NB253_297.out; have hnb85 := NB297_268.out; have hnc85 := NB268_297.out; have hnb86 := NB297_287.out; have hnc86 := NB287_297.out; have hcz87_0 : w83.cell? ⟨gb297, 0, none⟩ = some (.int .i64 0) := (blk_cell BK297.out 0).trans rfl; have hcz87_1 : w83.cell? ⟨gb297, 1, none⟩ = some (.slice none 0 0) := (blk_cell BK297.out 1).trans rfl; have hcz87_2 : w83.cell? ⟨gb297, 2, none⟩ = some (.bool false) := (blk_cell BK297.out 2).trans rfl; have hfz87_0 := blk_frozen BK297.out 0; have hfz87_1 := blk_frozen BK297.out 1; have hfz87_2 := blk_frozen BK297.out 2; obtain ⟨Ao88, co88, eo88⟩ := Kd.V_slice HO291.out; subst eo88; obtain ⟨Ao89, co89, eo89⟩ := Kd.V_slice HO276.out; subst eo89))
                       have n0_ : Aside0 (Kd.V k29 29 (((w83.setCell ⟨gb297, 0, none⟩ (.int .i64 t288)).setCell ⟨gb297, 1, none⟩ (.slice Ao88 t289.length co88)).setCell ⟨gb297, 2, none⟩ (.bool t292)) w.heap.size (fun k_ => k_ ≠ gb253 ∧ k_ ≠ gb268 ∧ k_ ≠ gb287 ∧ k_ ≠ gb297) (.slice Ao14 t256.length co14) t256) := ⟨by (with_reducible repeat (first | apply Kd.V_alloc | apply Kd.V_drewN | apply Kd.V_drew)); exact Kd.V_mono (Kd.V_far (p := ⟨gb297, 2, none⟩) (Kd.V_far (p := ⟨gb297, 1, none⟩) (Kd.V_far (p := ⟨gb297, 0, none⟩) (Kd.V_mono HO_8.out (fun k_ hk => (⟨hk, hk.2⟩ : _ ∧ k_ ≠ gb297))) (fun _ hk => hk.2) (.int .i64 t288)) (fun _ hk => hk.2) (.slice Ao88 t289.length co88)) (fun _ hk => hk.2) (.bool t292)) (fun _ hk => ⟨hk.1.1.1, ⟨hk.1.1.2.1, ⟨hk.1.1.2.2, hk.1.2⟩⟩⟩)⟩
                       have n1_ : Aside0 (Kd.V (Kd.int .u8) 5 (((w83.setCell ⟨gb297, 0, none⟩ (.int .i64 t288)).setCell ⟨gb297, 1, none⟩ (.slice Ao88 t289.length co88)).setCell ⟨gb297, 2, none⟩ (.bool t292)) w.heap.size (fun k_ => k_ ≠ gb253 ∧ k_ ≠ gb268 ∧ k_ ≠ gb287 ∧ k_ ≠ gb297) (.slice Ao19 t260.length co19) t260) := ⟨by (with_reducible repeat (first | apply Kd.V_alloc | apply Kd.V_drewN | apply Kd.V_drew)); exact Kd.V_mono (Kd.V_far (p := ⟨gb297, 2, none⟩) (Kd.V_far (p := ⟨gb297, 1, none⟩) (Kd.V_far (p := ⟨gb297, 0, none⟩) (Kd.V_mono HO_269001.out (fun k_ hk => (⟨hk, hk.2⟩ : _ ∧ k_ ≠ gb297))) (fun _ hk => hk.2) (.int .i64 t288)) (fun _ hk => hk.2) (.slice Ao88 t289.length co88)) (fun _ hk => hk.2) (.bool t292)) (fun _ hk => ⟨hk.1.1.1, ⟨hk.1.1.2.1, ⟨hk.1.1.2.2, hk.1.2⟩⟩⟩)⟩
                       have n2_ : Aside0 (Kd.V k29 29 (((w83.setCell ⟨gb297, 0, none⟩ (.int .i64 t288)).setCell ⟨gb297, 1, none⟩ (.slice Ao88 t289.length co88)).setCell ⟨gb297, 2, none⟩ (.bool t292)) w.heap.size (fun k_ => k_ ≠ gb253 ∧ k_ ≠ gb268 ∧ k_ ≠ gb287 ∧ k_ ≠ gb297) (.slice Ao73 t270.length co73) t270) := ⟨by (with_reducible repeat (first | apply Kd.V_alloc | apply Kd.V_drewN | apply Kd.V_drew)); exact Kd.V_mono (Kd.V_far (p := ⟨gb297, 2, none⟩) (Kd.V_far (p := ⟨gb297, 1, none⟩) (Kd.V_far (p := ⟨gb297, 0, none⟩) (Kd.V_mono HO272.out (fun k_ hk => (⟨hk, hk.2⟩ : _ ∧ k_ ≠ gb297))) (fun _ hk => hk.2) (.int .i64 t288)) (fun _ hk => hk.2) (.slice Ao88 t289.length co88)) (fun _ hk => hk.2) (.bool t292)) (fun _ hk => ⟨hk.1.1.1, ⟨hk.1.1.2.1, ⟨hk.1.1.2.2, hk.1.2⟩⟩⟩)⟩
                       have n3_ : Aside0 (Kd.V k29 29 (((w83.setCell ⟨gb297, 0, none⟩ (.int .i64 t288)).setCell ⟨gb297, 1, none⟩ (.slice Ao88 t289.length co88)).setCell ⟨gb297, 2, none⟩ (.bool t292)) w.heap.size (fun k_ => k_ ≠ gb253 ∧ k_ ≠ gb268 ∧ k_ ≠ gb287 ∧ k_ ≠ gb297) (.slice Ao89 t274.length co89) t274) := ⟨by (with_reducible repeat (first | apply Kd.V_alloc | apply Kd.V_drewN | apply Kd.V_drew)); exact Kd.V_mono (Kd.V_far (p := ⟨gb297, 2, none⟩) (Kd.V_far (p := ⟨gb297, 1, none⟩) (Kd.V_far (p := ⟨gb297, 0, none⟩) (Kd.V_mono HO276.out (fun k_ hk => (⟨hk, hk.2⟩ : _ ∧ k_ ≠ gb297))) (fun _ hk => hk.2) (.int .i64 t288)) (fun _ hk => hk.2) (.slice Ao88 t289.length co88)) (fun _ hk => hk.2) (.bool t292)) (fun _ hk => ⟨hk.1.1.1, ⟨hk.1.1.2.1, ⟨hk.1.1.2.2, hk.1.2⟩⟩⟩)⟩
                       have n4_ : Aside0 (Kd.V (Kd.int .u8) 5 (((w83.setCell ⟨gb297, 0, none⟩ (.int .i64 t288)).setCell ⟨gb297, 1, none⟩ (.slice Ao88 t289.length co88)).setCell ⟨gb297, 2, none⟩ (.bool t292)) w.heap.size (fun k_ => k_ ≠ gb253 ∧ k_ ≠ gb268 ∧ k_ ≠ gb287 ∧ k_ ≠ gb297) (.slice Ao80 t279.length co80) t279) := ⟨by (with_reducible repeat (first | apply Kd.V_alloc | apply Kd.V_drewN | apply Kd.V_drew)); exact Kd.V_mono (Kd.V_far (p := ⟨gb297, 2, none⟩) (Kd.V_far (p := ⟨gb297, 1, none⟩) (Kd.V_far (p := ⟨gb297, 0, none⟩) (Kd.V_mono HO281.out (fun k_ hk => (⟨hk, hk.2⟩ : _ ∧ k_ ≠ gb297))) (fun _ hk => hk.2) (.int .i64 t288)) (fun _ hk => hk.2) (.slice Ao88 t289.length co88)) (fun _ hk => hk.2) (.bool t292)) (fun _ hk => ⟨hk.1.1.1, ⟨hk.1.1.2.1, ⟨hk.1.1.2.2, hk.1.2⟩⟩⟩)⟩
                       have n5_ : Aside0 (Kd.V k29 29 (((w83.setCell ⟨gb297, 0, none⟩ (.int .i64 t288)).setCell ⟨gb297, 1, none⟩ (.slice Ao88 t289.length co88)).setCell ⟨gb297, 2, none⟩ (.bool t292)) w.heap.size (fun k_ => k_ ≠ gb253 ∧ k_ ≠ gb268 ∧ k_ ≠ gb287 ∧ k_ ≠ gb297) v284 t283) := ⟨by (with_reducible repeat (first | apply Kd.V_alloc | apply Kd.V_drewN | apply Kd.V_drew)); exact Kd.V_mono (Kd.V_far (p := ⟨gb297, 2, none⟩) (Kd.V_far (p := ⟨gb297, 1, none⟩) (Kd.V_far (p := ⟨gb297, 0, none⟩) (Kd.V_mono HO285.out (fun k_ hk => (⟨hk, hk.2⟩ : _ ∧ k_ ≠ gb297))) (fun _ hk => hk.2) (.int .i64 t288)) (fun _ hk => hk.2) (.slice Ao88 t289.length co88)) (fun _ hk => hk.2) (.bool t292)) (fun _ hk => ⟨hk.1.1.1, ⟨hk.1.1.2.1, ⟨hk.1.1.2.2, hk.1.2⟩⟩⟩)⟩
                       have n6_ : Aside0 (Kd.V (Kd.int .u8) 5 (((w83.setCell ⟨gb297, 0, none⟩ (.int .i64 t288)).setCell ⟨gb297, 1, none⟩ (.slice Ao88 t289.length co88)).setCell ⟨gb297, 2, none⟩ (.bool t292)) w.heap.size (fun k_ => k_ ≠ gb253 ∧ k_ ≠ gb268 ∧ k_ ≠ gb287 ∧ k_ ≠ gb297) (.slice Ao88 t289.length co88) t289) := ⟨by (with_reducible repeat (first | apply Kd.V_alloc | apply Kd.V_drewN | apply Kd.V_drew)); exact Kd.V_mono (Kd.V_far (p := ⟨gb297, 2, none⟩) (Kd.V_far (p := ⟨gb297, 1, none⟩) (Kd.V_far (p := ⟨gb297, 0, none⟩) (Kd.V_mono HO291.out (fun k_ hk => (⟨hk, hk.2⟩ : _ ∧ k_ ≠ gb297))) (fun _ hk => hk.2) (.int .i64 t288)) (fun _ hk => hk.2) (.slice Ao88 t289.length co88)) (fun _ hk => hk.2) (.bool t292)) (fun _ hk => ⟨hk.1.1.1, ⟨hk.1.1.2.1, ⟨hk.1.1.2.2, hk.1.2⟩⟩⟩)⟩
                       have n7_ : Aside0 (Kd.V k29 29 (((w83.setCell ⟨gb297, 0, none⟩ (.int .i64 t288)).setCell ⟨gb297, 1, none⟩ (.slice Ao88 t289.length co88)).setCell ⟨gb297, 2, none⟩ (.bool t292)) w.heap.size (fun k_ => k_ ≠ gb253 ∧ k_ ≠ gb268 ∧ k_ ≠ gb287 ∧ k_ ≠ gb297) v294 t293) := ⟨by (with_reducible repeat (first | apply Kd.V_alloc | apply Kd.V_drewN | apply Kd.V_drew)); exact Kd.V_mono (Kd.V_far (p := ⟨gb297, 2, none⟩) (Kd.V_far (p := ⟨gb297, 1, none⟩) (Kd.V_far (p := ⟨gb297, 0, none⟩) (Kd.V_mono HO295.out (fun k_ hk => (⟨hk, hk.2⟩ : _ ∧ k_ ≠ gb297))) (fun _ hk => hk.2) (.int .i64 t288)) (fun _ hk => hk.2) (.slice Ao88 t289.length co88)) (fun _ hk => hk.2) (.bool t292)) (fun _ hk => ⟨hk.1.1.1, ⟨hk.1.1.2.1, ⟨hk.1.1.2.2, hk.1.2⟩⟩⟩)⟩
                       have n8_ : Aside0 ((((w83.setCell ⟨gb297, 0, none⟩ (.int .i64 t288)).setCell ⟨gb297, 1, none⟩ (.slice Ao88 t289.length co88)).setCell ⟨gb297, 2, none⟩ (.bool t292)).heap[gb253]? = some (.cells #[.slice A0_0 l0_0.length c0_0, .int .i64 a0_1, .slice A0_2 l0_2.length c0_2, .int .u8 a0_3] 46 (0, 0))) := ⟨by (with_reducible repeat (first | refine blk_drewN ?_ _ | refine blk_drew ?_ | refine blk_alloc ?_ _)); refine blk_far ?_ NB253_297.out _; (with_reducible repeat (first | refine blk_drewN ?_ _ | refine blk_drew ?_ | refine blk_alloc ?_ _)); refine blk_far ?_ NB253_297.out _; (with_reducible repeat (first | refine blk_drewN ?_ _ | refine blk_drew ?_ | refine blk_alloc ?_ _)); refine blk_far ?_ NB253_297.out _; (with_reducible repeat (first | refine blk_drewN ?_ _ | refine blk_drew ?_ | refine blk_alloc ?_ _)); exact BK253.out⟩
                       have n9_ : Aside0 ((((w83.setCell ⟨gb297, 0, none⟩ (.int .i64 t288)).setCell ⟨gb297, 1, none⟩ (.slice Ao88 t289.length co88)).setCell ⟨gb297, 2, none⟩ (.bool t292)).heap[gb268]? = some (.cells #[.int .i64 t259, .slice Ao19 t260.length co19, .bool t263] 29 (0, 0))) := ⟨by (with_reducible repeat (first | refine blk_drewN ?_ _ | refine blk_drew ?_ | refine blk_alloc ?_ _)); refine blk_far ?_ NB268_297.out _; (with_reducible repeat (first | refine blk_drewN ?_ _ | refine blk_drew ?_ | refine blk_alloc ?_ _)); refine blk_far ?_ NB268_297.out _; (with_reducible repeat (first | refine blk_drewN ?_ _ | refine blk_drew ?_ | refine blk_alloc ?_ _)); refine blk_far ?_ NB268_297.out _; (with_reducible repeat (first | refine blk_drewN ?_ _ | refine blk_drew ?_ | refine blk_alloc ?_ _)); exact BK268.out⟩
                       have n10_ : Aside0 ((((w83.setCell ⟨gb297, 0, none⟩ (.int .i64 t288)).setCell ⟨gb297, 1, none⟩ (.slice Ao88 t289.length co88)).setCell ⟨gb297, 2, none⟩ (.bool t292)).heap[gb287]? = some (.cells #[.int .i64 t278, .slice Ao80 t279.length co80, .bool t282] 29 (0, 0))) := ⟨by (with_reducible repeat (first | refine blk_drewN ?_ _ | refine blk_drew ?_ | refine blk_alloc ?_ _)); refine blk_far ?_ NB287_297.out _; (with_reducible repeat (first | refine blk_drewN ?_ _ | refine blk_drew ?_ | refine blk_alloc ?_ _)); refine blk_far ?_ NB287_297.out _; (with_reducible repeat (first | refine blk_drewN ?_ _ | refine blk_drew ?_ | refine blk_alloc ?_ _)); refine blk_far ?_ NB287_297.out _; (with_reducible repeat (first | refine blk_drewN ?_ _ | refine blk_drew ?_ | refine blk_alloc ?_ _)); exact BK287.out⟩
                       have n11_ : Aside0 ((((w83.setCell ⟨gb297, 0, none⟩ (.int .i64 t288)).setCell ⟨gb297, 1, none⟩ (.slice Ao88 t289.length co88)).setCell ⟨gb297, 2, none⟩ (.bool t292)).heap[gb297]? = some (.cells #[.int .i64 t288, .slice Ao88 t289.length co88, .bool t292] 29 (0, 0))) := ⟨by (with_reducible repeat (first | refine blk_drewN ?_ _ | refine blk_drew ?_ | refine blk_alloc ?_ _)); refine blk_put (cs := #[.int .i64 t288, .slice Ao88 t289.length co88, .bool false]) ?_ 2 _ rfl; (with_reducible repeat (first | refine blk_drewN ?_ _ | refine blk_drew ?_ | refine blk_alloc ?_ _)); refine blk_put (cs := #[.int .i64 t288, .slice none 0 0, .bool false]) ?_ 1 _ rfl; (with_reducible repeat (first | refine blk_drewN ?_ _ | refine blk_drew ?_ | refine blk_alloc ?_ _)); refine blk_put (cs := #[.int .i64 0, .slice none 0 0, .bool false]) ?_ 0 _ rfl; (with_reducible repeat (first | refine blk_drewN ?_ _ | refine blk_drew ?_ | refine blk_alloc ?_ _)); exact BK297.out⟩
                       have n12_ : Aside0 (Below w.heap.size w (((w83.setCell ⟨gb297, 0, none⟩ (.int .i64 t288)).setCell ⟨gb297, 1, none⟩ (.slice Ao88 t289.length co88)).setCell ⟨gb297, 2, none⟩ (.bool t292))) := ⟨by repeat (first | (with_reducible first | exact HB.out | apply below_alloc | apply pw_below_drewN | apply below_drew1 | refine below_set ?_ GE253.out | refine below_set ?_ GE268.out | refine below_set ?_ GE287.out | refine below_set ?_ GE297.out) | exact HB.out)⟩
                       (try clear HO_8)
                       (try clear HO_269001)
                       (try clear HO272)
                       (try clear HO276)
                       (try clear HO281)
                       (try clear HO285)
                       (try clear HO291)
                       (try clear HO295)
                       (try clear BK253)
                       (try clear BK268)
                       (try clear BK287)
                       (try clear BK297)
                       (try clear HB)
                       generalize (((w83.setCell ⟨gb297, 0, none⟩ (.int .i64 t288)).setCell ⟨gb297, 1, none⟩ (.slice Ao88 t289.length co88)).setCell ⟨gb297, 2, none⟩ (.bool t292)) = w90 at n0_ n1_ n2_ n3_ n4_ n5_ n6_ n7_ n8_ n9_ n10_ n11_ n12_ ⊢
                       have HO_8 := n0_
                       have HO_269001 := n1_
                       have HO272 := n2_
                       have HO276 := n3_
                       have HO281 := n4_
                       have HO285 := n5_
                       have HO291 := n6_
                       have HO295 := n7_
                       have BK253 := n8_
                       have BK268 := n9_
                       have BK287 := n10_
                       have BK297 := n11_
                       have HB := n12_
                       clear n0_ n1_ n2_ n3_ n4_ n5_ n6_ n7_ n8_ n9_ n10_ n11_ n12_
                       have n0_ := Aside0.mk (Kd.V_drew HO_8.out)
                       have n1_ := Aside0.mk (Kd.V_drew HO_269001.out)
                       have n2_ := Aside0.mk (Kd.V_drew HO272.out)
                       have n3_ := Aside0.mk (Kd.V_drew HO276.out)
                       have n4_ := Aside0.mk (Kd.V_drew HO281.out)
                       have n5_ := Aside0.mk (Kd.V_drew HO285.out)
                       have n6_ := Aside0.mk (Kd.V_drew HO291.out)
                       have n7_ := Aside0.mk (Kd.V_drew HO295.out)
                       have n8_ := Aside0.mk (blk_drew BK253.out)
                       have n9_ := Aside0.mk (blk_drew BK268.out)
                       have n10_ := Aside0.mk (blk_drew BK287.out)
                       have n11_ := Aside0.mk (blk_drew BK297.out)
                       have n12_ := Aside0.mk (below_drew1 HB.out)
                       clear HO_8
                       clear HO_269001
                       clear HO272
                       clear HO276
                       clear HO281
                       clear HO285
                       clear HO291
                       clear HO295
                       clear BK253
                       clear BK268
                       clear BK287
                       clear BK297
                       clear HB
                       have HO_8 := n0_
                       have HO_269001 := n1_
                       have HO272 := n2_
                       have HO276 := n3_
                       have HO281 := n4_
                       have HO285 := n5_
                       have HO291 := n6_
                       have HO295 := n7_
                       have BK253 := n8_
                       have BK268 := n9_
                       have BK287 := n10_
                       have BK297 := n11_
                       have HB := n12_
                       clear n0_ n1_ n2_ n3_ n4_ n5_ n6_ n7_ n8_ n9_ n10_ n11_ n12_
                       refine start_ (n := 64) (S := fun w' => w'.cell? ⟨gb287, 0, none⟩ = some (.int .i64 t278) ∧ w'.cell? ⟨gb287, 1, none⟩ = some (.slice Ao80 t279.length co80) ∧ w'.cell? ⟨gb287, 2, none⟩ = some (.bool t282) ∧ w'.cell? ⟨gb297, 0, none⟩ = some (.int .i64 t288) ∧ w'.cell? ⟨gb297, 1, none⟩ = some (.slice Ao88 t289.length co88) ∧ w'.cell? ⟨gb297, 2, none⟩ = some (.bool t292)) (ds := []) #[false, false, false, false, false, false, false, false, false, false, false, false, false, false, false, false, false, false, false, false, false, false, false, false, false, false, false, false, false, false, false, false, false, false, false, false, false, false, false, false, false, false, false, false, false, false, false, false, false, false, false, false, false, false, false, false, false, false, false, false, false, false, false, false] (by kernel_rfl) rfl rfl ⟨(blk_cell BK287.out 0).trans rfl, (blk_cell BK287.out 1).trans rfl, (blk_cell BK287.out 2).trans rfl, (blk_cell BK297.out 0).trans rfl, (blk_cell BK297.out 1).trans rfl, (blk_cell BK297.out 2).trans rfl⟩ (fun hHeld => ?_); refine with_tabW precentorlaw05_NetBack.tab17 precentorlaw05_NetBack.bits17 (fun HT_ HW_ => ?_)
                       generalize w90.drew = w91 at HO_8 HO_269001 HO272 HO276 HO281 HO285 HO291 HO295 BK253 BK268 BK287 BK297 HB hHeld ⊢
                       refine pure_ (i := 0) (N := some 120) (v := ?_) (a' := ?_) #[true, false, false, false, false, false, false, false, false, false, false, false, false, false, false, false, false, false, false, false, false, false, false, false, false, false, false, false, false, false, false, false, false, false, false, false, false, false, false, false, false, false, false, false, false, false, false, false, false, false, false, false, false, false, false, false, false, false, false, false, false, false, false, false] rfl rfl (any_of HT_.out (by kernel_rfl)) (fun _ _ _ h => h) (Or.inl ⟨by rfl, ?_⟩) ?_ ?_
                       rotate_left
                       ·
                        intro w'
                        go_simp
                        with_reducible rfl
                       rotate_left
                       ·
                        simp only [Act.put, List.setIfInBounds_toArray, List.set_cons_zero, List.set_cons_succ, i64_w, i32_w]
                        rfl
                       refine pure_ (i := 1) (N := some 121) (v := ?_) (a' := ?_) #[true, true, false, false, false, false, false, false, false, false, false, false, false, false, false, false, false, false, false, false, false, false, false, false, false, false, false, false, false, false, false, false, false, false, false, false, false, false, false, false, false, false, false, false, false, false, false, false, false, false, false, false, false, false, false, false, false, false, false, false, false, false, false, false] rfl rfl (any_of HT_.out (by kernel_rfl)) (fun _ _ _ h => h) (Or.inl ⟨by rfl, ?_⟩) ?_ ?_
                       rotate_left
                       ·
                        intro w'
                        go_simp
                        with_reducible rfl
                       rotate_left
                       ·
                        simp only [Act.put, List.setIfInBounds_toArray, List.set_cons_zero, List.set_cons_succ, i64_w, i32_w]
                        rfl
                       refine pure_ (i := 2) (N := some 122) (v := ?_) (a' := ?_) #[true, true, true, false, false, false, false, false, false, false, false, false, false, false, false, false, false, false, false, false, false, false, false, false, false, false, false, false, false, false, false, false, false, false, false, false, false, false, false, false, false, false, false, false, false, false, false, false, false, false, false, false, false, false, false, false, false, false, false, false, false, false, false, false] rfl rfl (any_of HT_.out (by kernel_rfl)) (fun _ _ _ h => h) (Or.inl ⟨by rfl, ?_⟩) ?_ ?_
                       rotate_left
                       ·
                        intro w'
                        go_simp
                        with_reducible rfl
                       rotate_left
                       ·
                        simp only [Act.put, List.setIfInBounds_toArray, List.set_cons_zero, List.set_cons_succ, i64_w, i32_w]
                        rfl
                       refine pure_ (i := 3) (N := some 123) (v := ?_) (a' := ?_) #[true, true, true, true, false, false, false, false, false, false, false, false, false, false, false, false, false, false, false, false, false, false, false, false, false, false, false, false, false, false, false, false, false, false, false, false, false, false, false, false, false, false, false, false, false, false, false, false, false, false, false, false, false, false, false, false, false, false, false, false, false, false, false, false] rfl rfl (any_of HT_.out (by kernel_rfl)) (fun _ _ _ h => h) (Or.inl ⟨by rfl, ?_⟩) ?_ ?_
                       rotate_left
                       ·
                        intro w'
                        go_simp
                        with_reducible rfl
                       rotate_left
                       ·
                        simp only [Act.put, List.setIfInBounds_toArray, List.set_cons_zero, List.set_cons_succ, i64_w, i32_w]
                        rfl
                       refine pure_ (i := 4) (N := some 124) (v := ?_) (a' := ?_) #[true, true, true, true, true, false, false, false, false, false, false, false, false, false, false, false, false, false, false, false, false, false, false, false, false, false, false, false, false, false, false, false, false, false, false, false, false, false, false, false, false, false, false, false, false, false, false, false, false, false, false, false, false, false, false, false, false, false, false, false, false, false, false, false] rfl rfl (any_of HT_.out (by kernel_rfl)) (fun _ _ _ h => h) (Or.inl ⟨by rfl, ?_⟩) ?_ ?_
                       rotate_left
                       ·
                        intro w'
                        go_simp
                        with_reducible rfl
                       rotate_left
                       ·
                        simp only [Act.put, List.setIfInBounds_toArray, List.set_cons_zero, List.set_cons_succ, i64_w, i32_w]
                        rfl
                       refine pure_ (i := 5) (N := some 125) (v := ?_) (a' := ?_) #[true, true, true, true, true, true, false, false, false, false, false, false, false, false, false, false, false, false, false, false, false, false, false, false, false, false, false, false, false, false, false, false, false, false, false, false, false, false, false, false, false, false, false, false, false, false, false, false, false, false, false, false, false, false, false, false, false, false, false, false, false, false, false, false] rfl rfl (any_of HT_.out (by kernel_rfl)) (fun _ _ _ h => h) (Or.inl ⟨by rfl, ?_⟩) ?_ ?_
                       rotate_left
                       ·
                        intro w'
                        go_simp
                        with_reducible rfl
                       rotate_left
                       ·
                        simp only [Act.put, List.setIfInBounds_toArray, List.set_cons_zero, List.set_cons_succ, i64_w, i32_w]
                        rfl
                       refine pure_ (i := 6) (N := some 126) (v := ?_) (a' := ?_) #[true, true, true, true, true, true, true, false, false, false, false, false, false, false, false, false, false, false, false, false, false, false, false, false, false, false, false, false, false, false, false, false, false, false, false, false, false, false, false, false, false, false, false, false, false, false, false, false, false, false, false, false, false, false, false, false, false, false, false, false, false, false, false, false] rfl rfl (any_of HT_.out (by kernel_rfl)) (fun _ _ _ h => h) (Or.inl ⟨by rfl, ?_⟩) ?_ ?_
                       rotate_left
                       ·
                        intro w'
                        go_simp
                        with_reducible rfl
                       rotate_left
                       ·
                        simp only [Act.put, List.setIfInBounds_toArray, List.set_cons_zero, List.set_cons_succ, i64_w, i32_w]
                        rfl
                       refine pure_ (i := 7) (N := some 127) (v := ?_) (a' := ?_) #[true, true, true, true, true, true, true, true, false, false, false, false, false, false, false, false, false, false, false, false, false, false, false, false, false, false, false, false, false, false, false, false, false, false, false, false, false, false, false, false, false, false, false, false, false, false, false, false, false, false, false, false, false, false, false, false, false, false, false, false, false, false, false, false] rfl rfl (any_of HT_.out (by kernel_rfl)) (fun _ _ _ h => h) (Or.inl ⟨by rfl, ?_⟩) ?_ ?_
                       rotate_left
                       ·
                        intro w'
                        go_simp
                        with_reducible rfl
                       rotate_left
                       ·
                        simp only [Act.put, List.setIfInBounds_toArray, List.set_cons_zero, List.set_cons_succ, i64_w, i32_w]
                        rfl
                       refine pure_ (i := 8) (N := some 128) (v := ?_) (a' := ?_) #[true, true, true, true, true, true, true, true, true, false, false, false, false, false, false, false, false, false, false, false, false, false, false, false, false, false, false, false, false, false, false, false, false, false, false, false, false, false, false, false, false, false, false, false, false, false, false, false, false, false, false, false, false, false, false, false, false, false, false, false, false, false, false, false] rfl rfl (any_of HT_.out (by kernel_rfl)) (fun _ _ _ h => h) (Or.inl ⟨by rfl, ?_⟩) ?_ ?_
                       rotate_left
                       ·
                        intro w'
                        go_simp
                        with_reducible rfl
                       rotate_left
                       ·
                        simp only [Act.put, List.setIfInBounds_toArray, List.set_cons_zero, List.set_cons_succ, i64_w, i32_w]
                        rfl
                       refine pure_ (i := 9) (N := some 129) (v := ?_) (a' := ?_) #[true, true, true, true, true, true, true, true, true, true, false, false, false, false, false, false, false, false, false, false, false, false, false, false, false, false, false, false, false, false, false, false, false, false, false, false, false, false, false, false, false, false, false, false, false, false, false, false, false, false, false, false, false, false, false, false, false, false, false, false, false, false, false, false] rfl rfl (any_of HT_.out (by kernel_rfl)) (fun _ _ _ h => h) (Or.inl ⟨by rfl, ?_⟩) ?_ ?_
                       rotate_left
                       ·
                        intro w'
                        go_simp
                        with_reducible rfl
                       rotate_left
                       ·
                        simp only [Act.put, List.setIfInBounds_toArray, List.set_cons_zero, List.set_cons_succ, i64_w, i32_w]
                        rfl
                       refine pure_ (i := 10) (N := some 130) (v := ?_) (a' := ?_) #[true, true, true, true, true, true, true, true, true, true, true, false, false, false, false, false, false, false, false, false, false, false, false, false, false, false, false, false, false, false, false, false, false, false, false, false, false, false, false, false, false, false, false, false, false, false, false, false, false, false, false, false, false, false, false, false, false, false, false, false, false, false, false, false] rfl rfl (any_of HT_.out (by kernel_rfl)) (fun _ _ _ h => h) (Or.inl ⟨by rfl, ?_⟩) ?_ ?_
                       rotate_left
                       ·
                        intro w'
                        go_simp
                        with_reducible rfl
                       rotate_left
                       ·
                        simp only [Act.put, List.setIfInBounds_toArray, List.set_cons_zero, List.set_cons_succ, i64_w, i32_w]
                        rfl
                       refine pure_ (i := 11) (N := some 131) (v := ?_) (a' := ?_) #[true, true, true, true, true, true, true, true, true, true, true, true, false, false, false, false, false, false, false, false, false, false, false, false, false, false, false, false, false, false, false, false, false, false, false, false, false, false, false, false, false, false, false, false, false, false, false, false, false, false, false, false, false, false, false, false, false, false, false, false, false, false, false, false] rfl rfl (any_of HT_.out (by kernel_rfl)) (fun _ _ _ h => h) (Or.inl ⟨by rfl, ?_⟩) ?_ ?_
                       rotate_left
                       ·
                        intro w'
                        go_simp
                        with_reducible rfl
                       rotate_left
                       ·
                        simp only [Act.put, List.setIfInBounds_toArray, List.set_cons_zero, List.set_cons_succ, i64_w, i32_w]
                        rfl
                       refine pure_ (i := 12) (N := some 132) (v := ?_) (a' := ?_) #[true, true, true, true, true, true, true, true, true, true, true, true, true, false, false, false, false, false, false, false, false, false, false, false, false, false, false, false, false, false, false, false, false, false, false, false, false, false, false, false, false, false, false, false, false, false, false, false, false, false, false, false, false, false, false, false, false, false, false, false, false, false, false, false] rfl rfl (any_of HT_.out (by kernel_rfl)) (fun _ _ _ h => h) (Or.inl ⟨by rfl, ?_⟩) ?_ ?_
                       rotate_left
                       ·
                        intro w'
                        go_simp
                        with_reducible rfl
                       rotate_left
                       ·
                        simp only [Act.put, List.setIfInBounds_toArray, List.set_cons_zero, List.set_cons_succ, i64_w, i32_w]
                        rfl
                       refine pure_ (i := 13) (N := some 133) (v := ?_) (a' := ?_) #[true, true, true, true, true, true, true, true, true, true, true, true, true, true, false, false, false, false, false, false, false, false, false, false, false, false, false, false, false, false, false, false, false, false, false, false, false, false, false, false, false, false, false, false, false, false, false, false, false, false, false, false, false, false, false, false, false, false, false, false, false, false, false, false] rfl rfl (any_of HT_.out (by kernel_rfl)) (fun _ _ _ h => h) (Or.inl ⟨by rfl, ?_⟩) ?_ ?_
                       rotate_left
                       ·
                        intro w'
                        go_simp
                        with_reducible rfl
                       rotate_left
                       ·
                        simp only [Act.put, List.setIfInBounds_toArray, List.set_cons_zero, List.set_cons_succ, i64_w, i32_w]
                        rfl
                       refine pure_ (i := 14) (N := some 134) (v := ?_) (a' := ?_) #[true, true, true, true, true, true, true, true, true, true, true, true, true, true, true, false, false, false, false, false, false, false, false, false, false, false, false, false, false, false, false, false, false, false, false, false, false, false, false, false, false, false, false, false, false, false, false, false, false, false, false, false, false, false, false, false, false, false, false, false, false, false, false, false] rfl rfl (any_of HT_.out (by kernel_rfl)) (fun _ _ _ h => h) (Or.inl ⟨by rfl, ?_⟩) ?_ ?_
                       rotate_left
                       ·
                        intro w'
                        go_simp
                        with_reducible rfl
                       rotate_left
                       ·
                        simp only [Act.put, List.setIfInBounds_toArray, List.set_cons_zero, List.set_cons_succ, i64_w, i32_w]
                        rfl
                       refine pure_ (i := 15) (N := some 135) (v := ?_) (a' := ?_) #[true, true, true, true, true, true, true, true, true, true, true, true, true, true, true, true, false, false, false, false, false, false, false, false, false, false, false, false, false, false, false, false, false, false, false, false, false, false, false, false, false, false, false, false, false, false, false, false, false, false, false, false, false, false, false, false, false, false, false, false, false, false, false, false] rfl rfl (any_of HT_.out (by kernel_rfl)) (fun _ _ _ h => h) (Or.inl ⟨by rfl, ?_⟩) ?_ ?_
                       rotate_left
                       ·
                        intro w'
                        go_simp
                        with_reducible rfl
                       rotate_left
                       ·
                        simp only [Act.put, List.setIfInBounds_toArray, List.set_cons_zero, List.set_cons_succ, i64_w, i32_w]
                        rfl
                       refine pure_ (i := 16) (N := some 136) (v := ?_) (a' := ?_) #[true, true, true, true, true, true, true, true, true, true, true, true, true, true, true, true, true, false, false, false, false, false, false, false, false, false, false, false, false, false, false, false, false, false, false, false, false, false, false, false, false, false, false, false, false, false, false, false, false, false, false, false, false, false, false, false, false, false, false, false, false, false, false, false] rfl rfl (any_of HT_.out (by kernel_rfl)) (fun _ _ _ h => h) (Or.inl ⟨by rfl, ?_⟩) ?_ ?_
                       rotate_left
                       ·
                        intro w'
                        go_simp
                        with_reducible rfl
                       rotate_left
                       ·
                        simp only [Act.put, List.setIfInBounds_toArray, List.set_cons_zero, List.set_cons_succ, i64_w, i32_w]
                        rfl
                       refine pure_ (i := 17) (N := some 137) (v := ?_) (a' := ?_) #[true, true, true, true, true, true, true, true, true, true, true, true, true, true, true, true, true, true, false, false, false, false, false, false, false, false, false, false, false, false, false, false, false, false, false, false, false, false, false, false, false, false, false, false, false, false, false, false, false, false, false, false, false, false, false, false, false, false, false, false, false, false, false, false] rfl rfl (any_of HT_.out (by kernel_rfl)) (fun _ _ _ h => h) (Or.inl ⟨by rfl, ?_⟩) ?_ ?_
                       rotate_left
                       ·
                        intro w'
                        go_simp
                        with_reducible rfl
                       rotate_left
                       ·
                        simp only [Act.put, List.setIfInBounds_toArray, List.set_cons_zero, List.set_cons_succ, i64_w, i32_w]
                        rfl
                       refine pure_ (i := 18) (N := some 138) (v := ?_) (a' := ?_) #[true, true, true, true, true, true, true, true, true, true, true, true, true, true, true, true, true, true, true, false, false, false, false, false, false, false, false, false, false, false, false, false, false, false, false, false, false, false, false, false, false, false, false, false, false, false, false, false, false, false, false, false, false, false, false, false, false, false, false, false, false, false, false, false] rfl rfl (any_of HT_.out (by kernel_rfl)) (fun _ _ _ h => h) (Or.inl ⟨by rfl, ?_⟩) ?_ ?_
                       rotate_left
                       ·
                        intro w'
                        go_simp
                        with_reducible rfl
                       rotate_left
                       ·
                        simp only [Act.put, List.setIfInBounds_toArray, List.set_cons_zero, List.set_cons_succ, i64_w, i32_w]
                        rfl
                       refine pure_ (i := 19) (N := some 139) (v := ?_) (a' := ?_) #[true, true, true, true, true, true, true, true, true, true, true, true, true, true, true, true, true, true, true, true, false, false, false, false, false, false, false, false, false, false, false, false, false, false, false, false, false, false, false, false, false, false, false, false, false, false, false, false, false, false, false, false, false, false, false, false, false, false, false, false, false, false, false, false] rfl rfl (any_of HT_.out (by kernel_rfl)) (fun _ _ _ h => h) (Or.inl ⟨by rfl, ?_⟩) ?_ ?_
                       rotate_left
                       ·
                        intro w'
                        go_simp
                        with_reducible rfl
                       rotate_left
                       ·
                        simp only [Act.put, List.setIfInBounds_toArray, List.set_cons_zero, List.set_cons_succ, i64_w, i32_w]
                        rfl
                       refine one_ (i := 20) (N := some 140) #[true, true, true, true, true, true, true, true, true, true, true, true, true, true, true, true, true, true, true, true, true, false, false, false, false, false, false, false, false, false, false, false, false, false, false, false, false, false, false, false, false, false, false, false, false, false, false, false, false, false, false, false, false, false, false, false, false, false, false, false, false, false, false, false] rfl rfl (one_of HT_.out (by kernel_rfl)) (by decide) (fun K hK => ?_)
                       refine goes_ Try.func19 (by kernel_rfl) rfl #[.slice Ao89 t274.length co89, .slice Ao14 t256.length co14] (by rfl) rfl rfl (by (try simp only [List.map_toArray, List.map_cons, List.map_nil]); first | done | rfl | (simp only [List.length_drop, List.length_take]; rfl)) ?_
                       with_reducible refine (precentorref05_Same.calls kj11 _ _ t274 _ _ t256 true _ ?side1 ?side2 ?side3 ?side4 A52.out).mono ?_
                       (case side1 => repeat (first | exact (Kd.V_reads' HO276.out).2.2 | (with_reducible refine Kd.C_alloc ?_ _) | (with_reducible refine Kd.C_drewN ?_ _) | (with_reducible refine Kd.C_drew ?_)))
                       (case side2 => exact (Kd.V_reads' HO276.out).2.1)
                       (case side3 => repeat (first | exact (Kd.V_reads' HO_8.out).2.2 | (with_reducible refine Kd.C_alloc ?_ _) | (with_reducible refine Kd.C_drewN ?_ _) | (with_reducible refine Kd.C_drew ?_)))
                       (case side4 => exact (Kd.V_reads' HO_8.out).2.1)
                       rintro e w92 ⟨rfl, hb⟩
                       refine ⟨_, rfl, ?_⟩
                       have n0_ := Aside0.mk (Kd.V_below (by (with_reducible repeat (first | apply Kd.V_alloc | apply Kd.V_drewN | apply Kd.V_drew)); exact HO_8.out) hb)
                       have n1_ := Aside0.mk (Kd.V_below (by (with_reducible repeat (first | apply Kd.V_alloc | apply Kd.V_drewN | apply Kd.V_drew)); exact HO_269001.out) hb)
                       have n2_ := Aside0.mk (Kd.V_below (by (with_reducible repeat (first | apply Kd.V_alloc | apply Kd.V_drewN | apply Kd.V_drew)); exact HO272.out) hb)
                       have n3_ := Aside0.mk (Kd.V_below (by (with_reducible repeat (first | apply Kd.V_alloc | apply Kd.V_drewN | apply Kd.V_drew)); exact HO276.out) hb)
                       have n4_ := Aside0.mk (Kd.V_below (by (with_reducible repeat (first | apply Kd.V_alloc | apply Kd.V_drewN | apply Kd.V_drew)); exact HO281.out) hb)
                       have n5_ := Aside0.mk (Kd.V_below (by (with_reducible repeat (first | apply Kd.V_alloc | apply Kd.V_drewN | apply Kd.V_drew)); exact HO285.out) hb)
                       have n6_ := Aside0.mk (Kd.V_below (by (with_reducible repeat (first | apply Kd.V_alloc | apply Kd.V_drewN | apply Kd.V_drew)); exact HO291.out) hb)
                       have n7_ := Aside0.mk (Kd.V_below (by (with_reducible repeat (first | apply Kd.V_alloc | apply Kd.V_drewN | apply Kd.V_drew)); exact HO295.out) hb)
                       have n8_ := Aside0.mk (blk_below (g := gb253) (o := .cells #[.slice A0_0 l0_0.length c0_0, .int .i64 a0_1, .slice A0_2 l0_2.length c0_2, .int .u8 a0_3] 46 (0, 0)) (by (with_reducible repeat (first | refine blk_drewN ?_ _ | refine blk_drew ?_ | refine blk_alloc ?_ _)); exact BK253.out) hb)
                       have n9_ := Aside0.mk (blk_below (g := gb268) (o := .cells #[.int .i64 t259, .slice Ao19 t260.length co19, .bool t263] 29 (0, 0)) (by (with_reducible repeat (first | refine blk_drewN ?_ _ | refine blk_drew ?_ | refine blk_alloc ?_ _)); exact BK268.out) hb)
                       have n10_ := Aside0.mk (blk_below (g := gb287) (o := .cells #[.int .i64 t278, .slice Ao80 t279.length co80, .bool t282] 29 (0, 0)) (by (with_reducible repeat (first | refine blk_drewN ?_ _ | refine blk_drew ?_ | refine blk_alloc ?_ _)); exact BK287.out) hb)
                       have n11_ := Aside0.mk (blk_below (g := gb297) (o := .cells #[.int .i64 t288, .slice Ao88 t289.length co88, .bool t292] 29 (0, 0)) (by (with_reducible repeat (first | refine blk_drewN ?_ _ | refine blk_drew ?_ | refine blk_alloc ?_ _)); exact BK297.out) hb)
                       have n12_ := Aside0.mk (below_step (by repeat (first | (with_reducible first | exact HB.out | apply below_alloc | apply pw_below_drewN | apply below_drew1 | refine below_set ?_ GE253.out | refine below_set ?_ GE268.out | refine below_set ?_ GE287.out | refine below_set ?_ GE297.out) | exact HB.out)) hb)
                       clear HO_8
                       clear HO_269001
                       clear HO272
                       clear HO276
                       clear HO281
                       clear HO285
                       clear HO291
                       clear HO295
                       clear BK253
                       clear BK268
                       clear BK287
                       clear BK297
                       clear HB
                       have HO_8 := n0_
                       have HO_269001 := n1_
                       have HO272 := n2_
                       have HO276 := n3_
                       have HO281 := n4_
                       have HO285 := n5_
                       have HO291 := n6_
                       have HO295 := n7_
                       have BK253 := n8_
                       have BK268 := n9_
                       have BK287 := n10_
                       have BK297 := n11_
                       have HB := n12_
                       clear n0_ n1_ n2_ n3_ n4_ n5_ n6_ n7_ n8_ n9_ n10_ n11_ n12_
                       (try clear hb)
                       (try clear hb2)
                       (try clear hk)
                       (try clear hi)
                       refine hK.out _ _ ⟨(blk_cell BK287.out 0).trans rfl, (blk_cell BK287.out 1).trans rfl, (blk_cell BK287.out 2).trans rfl, (blk_cell BK297.out 0).trans rfl, (blk_cell BK297.out 1).trans rfl, (blk_cell BK297.out 2).trans rfl⟩ (fun hHeld => ?_)
                       clear hK K
                       refine norm_ (a' := ?_) ?_ ?_
                       rotate_left
                       ·
                        show Act.put _ (some 140) _ = _
                        simp only [Act.put, List.setIfInBounds_toArray, List.set_cons_zero, List.set_cons_succ, i64_w, i32_w]
                        rfl
                       refine pure_ (i := 21) (N := some 141) (v := ?_) (a' := ?_) #[true, true, true, true, true, true, true, true, true, true, true, true, true, true, true, true, true, true, true, true, true, true, false, false, false, false, false, false, false, false, false, false, false, false, false, false, false, false, false, false, false, false, false, false, false, false, false, false, false, false, false, false, false, false, false, false, false, false, false, false, false, false, false, false] rfl rfl (any_of HT_.out (by kernel_rfl)) (fun _ _ _ h => h) (Or.inl ⟨by rfl, ?_⟩) ?_ ?_
                       rotate_left
                       ·
                        intro w'
                        go_simp
                        with_reducible rfl
                       rotate_left
                       ·
                        simp only [Act.put, List.setIfInBounds_toArray, List.set_cons_zero, List.set_cons_succ, i64_w, i32_w]
                        rfl
                       refine pure_ (i := 22) (N := some 142) (v := ?_) (a' := ?_) #[true, true, true, true, true, true, true, true, true, true, true, true, true, true, true, true, true, true, true, true, true, true, true, false, false, false, false, false, false, false, false, false, false, false, false, false, false, false, false, false, false, false, false, false, false, false, false, false, false, false, false, false, false, false, false, false, false, false, false, false, false, false, false, false] rfl rfl (any_of HT_.out (by kernel_rfl)) (fun _ _ _ h => h) (Or.inl ⟨by rfl, ?_⟩) ?_ ?_
                       rotate_left
                       ·
                        intro w'
                        go_simp
                        with_reducible rfl
                       rotate_left
                       ·
                        simp only [Act.put, List.setIfInBounds_toArray, List.set_cons_zero, List.set_cons_succ, i64_w, i32_w]
                        rfl
                       refine pure_ (i := 23) (N := some 143) (v := ?_) (a' := ?_) #[true, true, true, true, true, true, true, true, true, true, true, true, true, true, true, true, true, true, true, true, true, true, true, true, false, false, false, false, false, false, false, false, false, false, false, false, false, false, false, false, false, false, false, false, false, false, false, false, false, false, false, false, false, false, false, false, false, false, false, false, false, false, false, false] rfl rfl (any_of HT_.out (by kernel_rfl)) (fun _ _ _ h => h) (Or.inl ⟨by rfl, ?_⟩) ?_ ?_
                       rotate_left
                       ·
                        intro w'
                        go_simp
                        with_reducible rfl
                       rotate_left
                       ·
                        simp only [Act.put, List.setIfInBounds_toArray, List.set_cons_zero, List.set_cons_succ, i64_w, i32_w]
                        rfl
                       refine pure_ (i := 24) (N := some 144) (v := ?_) (a' := ?_) #[true, true, true, true, true, true, true, true, true, true, true, true, true, true, true, true, true, true, true, true, true, true, true, true, true, false, false, false, false, false, false, false, false, false, false, false, false, false, false, false, false, false, false, false, false, false, false, false, false, false, false, false, false, false, false, false, false, false, false, false, false, false, false, false] rfl rfl (any_of HT_.out (by kernel_rfl)) (fun _ _ _ h => h) (Or.inl ⟨by rfl, ?_⟩) ?_ ?_
                       rotate_left
                       ·
                        intro w'
                        go_simp
                        with_reducible rfl
                       rotate_left
                       ·
                        simp only [Act.put, List.setIfInBounds_toArray, List.set_cons_zero, List.set_cons_succ, i64_w, i32_w]
                        rfl
                       refine pure_ (i := 25) (N := some 145) (v := ?_) (a' := ?_) #[true, true, true, true, true, true, true, true, true, true, true, true, true, true, true, true, true, true, true, true, true, true, true, true, true, true, false, false, false, false, false, false, false, false, false, false, false, false, false, false, false, false, false, false, false, false, false, false, false, false, false, false, false, false, false, false, false, false, false, false, false, false, false, false] rfl rfl (any_of HT_.out (by kernel_rfl)) (fun _ _ _ h => h) (Or.inl ⟨by rfl, ?_⟩) ?_ ?_
                       rotate_left
                       ·
                        intro w'
                        go_simp
                        with_reducible rfl
                       rotate_left
                       ·
                        simp only [Act.put, List.setIfInBounds_toArray, List.set_cons_zero, List.set_cons_succ, i64_w, i32_w]
                        rfl
                       refine pure_ (i := 26) (N := some 146) (v := ?_) (a' := ?_) #[true, true, true, true, true, true, true, true, true, true, true, true, true, true, true, true, true, true, true, true, true, true, true, true, true, true, true, false, false, false, false, false, false, false, false, false, false, false, false, false, false, false, false, false, false, false, false, false, false, false, false, false, false, false, false, false, false, false, false, false, false, false, false, false] rfl rfl (any_of HT_.out (by kernel_rfl)) (fun _ _ _ h => h) (Or.inl ⟨by rfl, ?_⟩) ?_ ?_
                       rotate_left
                       ·
                        intro w'
                        go_simp
                        with_reducible rfl
                       rotate_left
                       ·
                        simp only [Act.put, List.setIfInBounds_toArray, List.set_cons_zero, List.set_cons_succ, i64_w, i32_w]
                        rfl
                       refine pure_ (i := 27) (N := some 147) (v := ?_) (a' := ?_) #[true, true, true, true, true, true, true, true, true, true, true, true, true, true, true, true, true, true, true, true, true, true, true, true, true, true, true, true, false, false, false, false, false, false, false, false, false, false, false, false, false, false, false, false, false, false, false, false, false, false, false, false, false, false, false, false, false, false, false, false, false, false, false, false] rfl rfl (any_of HT_.out (by kernel_rfl)) (fun _ _ _ h => h) (Or.inl ⟨by rfl, ?_⟩) ?_ ?_
                       rotate_left
                       ·
                        intro w'
                        go_simp
                        with_reducible rfl
                       rotate_left
                       ·
                        simp only [Act.put, List.setIfInBounds_toArray, List.set_cons_zero, List.set_cons_succ, i64_w, i32_w]
                        rfl
                       refine pure_ (i := 28) (N := some 148) (v := ?_) (a' := ?_) #[true, true, true, true, true, true, true, true, true, true, true, true, true, true, true, true, true, true, true, true, true, true, true, true, true, true, true, true, true, false, false, false, false, false, false, false, false, false, false, false, false, false, false, false, false, false, false, false, false, false, false, false, false, false, false, false, false, false, false, false, false, false, false, false] rfl rfl (any_of HT_.out (by kernel_rfl)) (fun _ _ _ h => h) (Or.inl ⟨by rfl, ?_⟩) ?_ ?_
                       rotate_left
                       ·
                        intro w'
                        go_simp
                        with_reducible rfl
                       rotate_left
                       ·
                        simp only [Act.put, List.setIfInBounds_toArray, List.set_cons_zero, List.set_cons_succ, i64_w, i32_w]
                        rfl
                       refine pure_ (i := 29) (N := some 149) (v := ?_) (a' := ?_) #[true, true, true, true, true, true, true, true, true, true, true, true, true, true, true, true, true, true, true, true, true, true, true, true, true, true, true, true, true, true, false, false, false, false, false, false, false, false, false, false, false, false, false, false, false, false, false, false, false, false, false, false, false, false, false, false, false, false, false, false, false, false, false, false] rfl rfl (any_of HT_.out (by kernel_rfl)) (fun _ _ _ h => h) (Or.inl ⟨by rfl, ?_⟩) ?_ ?_
                       rotate_left
                       ·
                        intro w'
                        go_simp
                        with_reducible rfl
                       rotate_left
                       ·
                        simp only [Act.put, List.setIfInBounds_toArray, List.set_cons_zero, List.set_cons_succ, i64_w, i32_w]
                        rfl
                       refine pure_ (i := 30) (N := some 150) (v := ?_) (a' := ?_) #[true, true, true, true, true, true, true, true, true, true, true, true, true, true, true, true, true, true, true, true, true, true, true, true, true, true, true, true, true, true, true, false, false, false, false, false, false, false, false, false, false, false, false, false, false, false, false, false, false, false, false, false, false, false, false, false, false, false, false, false, false, false, false, false] rfl rfl (any_of HT_.out (by kernel_rfl)) (fun _ _ _ h => h) (Or.inl ⟨by rfl, ?_⟩) ?_ ?_
                       rotate_left
                       ·
                        intro w'
                        go_simp
                        with_reducible rfl
                       rotate_left
                       ·
                        simp only [Act.put, List.setIfInBounds_toArray, List.set_cons_zero, List.set_cons_succ, i64_w, i32_w]
                        rfl
                       refine take_ (i := 31) (N := some 151) (v := ?_) (a' := ?_) #[true, true, true, true, true, true, true, true, true, true, true, true, true, true, true, true, true, true, true, true, true, true, true, true, true, true, true, true, true, true, true, true, false, false, false, false, false, false, false, false, false, false, false, false, false, false, false, false, false, false, false, false, false, false, false, false, false, false, false, false, false, false, false, false] rfl rfl (take_ofW HT_.out HW_.out (by kernel_rfl)) (fun _ _ _ h => h) (Or.inl ⟨by rfl, ?_⟩) hHeld ?_ ?_
                       rotate_left
                       ·
                        rintro w' ⟨s0, s1, s2, s3, s4, s5⟩
                        try rw [List.length_drop] at s0
                        try rw [List.length_drop] at s1
                        try rw [List.length_drop] at s2
                        try rw [List.length_drop] at s3
                        try rw [List.length_drop] at s4
                        try rw [List.length_drop] at s5
                        go_simp
                        with_reducible rfl
                       rotate_left
                       ·
                        simp only [Act.put, List.setIfInBounds_toArray, List.set_cons_zero, List.set_cons_succ, i64_w, i32_w]
                        rfl
                       refine take_ (i := 33) (N := some 153) (v := ?_) (a' := ?_) #[true, true, true, true, true, true, true, true, true, true, true, true, true, true, true, true, true, true, true, true, true, true, true, true, true, true, true, true, true, true, true, true, false, true, false, false, false, false, false, false, false, false, false, false, false, false, false, false, false, false, false, false, false, false, false, false, false, false, false, false, false, false, false, false] rfl rfl (take_ofW HT_.out HW_.out (by kernel_rfl)) (fun _ _ _ h => h) (Or.inl ⟨by rfl, ?_⟩) hHeld ?_ ?_
                       rotate_left
                       ·
                        rintro w' ⟨s0, s1, s2, s3, s4, s5⟩
                        try rw [List.length_drop] at s0
                        try rw [List.length_drop] at s1
                        try rw [List.length_drop] at s2
                        try rw [List.length_drop] at s3
                        try rw [List.length_drop] at s4
                        try rw [List.length_drop] at s5
                        go_simp
                        with_reducible rfl
                       rotate_left
                       ·
                        simp only [Act.put, List.setIfInBounds_toArray, List.set_cons_zero, List.set_cons_succ, i64_w, i32_w]
                        rfl
                       refine join_ (σ := Value × Value) 29 #[true, true, true, true, true, true, true, true, true, true, true, true, true, true, true, true, true, true, true, true, true, true, true, true, true, true, true, true, true, true, true, true, true, true, true, false, false, false, false, false, false, false, false, false, false, false, false, false, false, false, false, false, false, false, false, false, false, false, false, false, false, false, false, false] (fun s_ => [(152, s_.1), (154, s_.2)]) (fun s_ w' => (w'.cell? ⟨gb287, 0, none⟩ = some (.int .i64 t278) ∧ w'.cell? ⟨gb287, 1, none⟩ = some (.slice Ao80 t279.length co80) ∧ w'.cell? ⟨gb287, 2, none⟩ = some (.bool t282) ∧ w'.cell? ⟨gb297, 0, none⟩ = some (.int .i64 t288) ∧ w'.cell? ⟨gb297, 1, none⟩ = some (.slice Ao88 t289.length co88) ∧ w'.cell? ⟨gb297, 2, none⟩ = some (.bool t292)) ∧ (Kd.V k29 29 w' w.heap.size (fun k_ => some k_ ≠ (s_.1 : Value).ownBlock ∧ some k_ ≠ (s_.2 : Value).ownBlock ∧ k_ ≠ gb253 ∧ k_ ≠ gb268 ∧ k_ ≠ gb287 ∧ k_ ≠ gb297) (.slice Ao73 t270.length co73) t270) ∧ (Kd.V k29 29 w' w.heap.size (fun k_ => some k_ ≠ (s_.1 : Value).ownBlock ∧ some k_ ≠ (s_.2 : Value).ownBlock ∧ k_ ≠ gb253 ∧ k_ ≠ gb268 ∧ k_ ≠ gb287 ∧ k_ ≠ gb297) (.slice Ao89 t274.length co89) t274) ∧ (Kd.V (Kd.int .u8) 5 w' w.heap.size (fun k_ => some k_ ≠ (s_.1 : Value).ownBlock ∧ some k_ ≠ (s_.2 : Value).ownBlock ∧ k_ ≠ gb253 ∧ k_ ≠ gb268 ∧ k_ ≠ gb287 ∧ k_ ≠ gb297) (.slice Ao80 t279.length co80) t279) ∧ (Kd.V k29 29 w' w.heap.size (fun k_ => some k_ ≠ (s_.1 : Value).ownBlock ∧ some k_ ≠ (s_.2 : Value).ownBlock ∧ k_ ≠ gb253 ∧ k_ ≠ gb268 ∧ k_ ≠ gb287 ∧ k_ ≠ gb297) v284 t283) ∧ (Kd.V (Kd.int .u8) 5 w' w.heap.size (fun k_ => some k_ ≠ (s_.1 : Value).ownBlock ∧ some k_ ≠ (s_.2 : Value).ownBlock ∧ k_ ≠ gb253 ∧ k_ ≠ gb268 ∧ k_ ≠ gb287 ∧ k_ ≠ gb297) (.slice Ao88 t289.length co88) t289) ∧ (Kd.V k29 29 w' w.heap.size (fun k_ => some k_ ≠ (s_.1 : Value).ownBlock ∧ some k_ ≠ (s_.2 : Value).ownBlock ∧ k_ ≠ gb253 ∧ k_ ≠ gb268 ∧ k_ ≠ gb287 ∧ k_ ≠ gb297) v294 t293) ∧ (Kd.N k29 29 w' w.heap.size (fun k_ => some k_ ≠ (s_.2 : Value).ownBlock ∧ k_ ≠ gb253 ∧ k_ ≠ gb268 ∧ k_ ≠ gb287 ∧ k_ ≠ gb297) s_.1 y299) ∧ (Kd.N k29 29 w' w.heap.size (fun k_ => some k_ ≠ (s_.1 : Value).ownBlock ∧ k_ ≠ gb253 ∧ k_ ≠ gb268 ∧ k_ ≠ gb287 ∧ k_ ≠ gb297) s_.2 y302) ∧ (Kd.V (Kd.int .u8) 5 w' w.heap.size (fun k_ => some k_ ≠ (s_.1 : Value).ownBlock ∧ some k_ ≠ (s_.2 : Value).ownBlock ∧ k_ ≠ gb253 ∧ k_ ≠ gb268 ∧ k_ ≠ gb287 ∧ k_ ≠ gb297) (.slice Ao19 t260.length co19) t260) ∧ (Kd.V k29 29 w' w.heap.size (fun k_ => some k_ ≠ (s_.1 : Value).ownBlock ∧ some k_ ≠ (s_.2 : Value).ownBlock ∧ k_ ≠ gb253 ∧ k_ ≠ gb268 ∧ k_ ≠ gb287 ∧ k_ ≠ gb297) (.slice Ao14 t256.length co14) t256) ∧ (w'.heap[gb253]? = some (.cells #[.slice A0_0 l0_0.length c0_0, .int .i64 a0_1, .slice A0_2 l0_2.length c0_2, .int .u8 a0_3] 46 (0, 0))) ∧ (w'.heap[gb268]? = some (.cells #[.int .i64 t259, .slice Ao19 t260.length co19, .bool t263] 29 (0, 0))) ∧ (w'.heap[gb287]? = some (.cells #[.int .i64 t278, .slice Ao80 t279.length co80, .bool t282] 29 (0, 0))) ∧ (w'.heap[gb297]? = some (.cells #[.int .i64 t288, .slice Ao88 t289.length co88, .bool t292] 29 (0, 0))) ∧ (Below w.heap.size w w')) ?_ ?_
                       rotate_left
                       ·
                        intro hCont
                        refine two_ (i := 32) (j := 34) (Ni := some 152) (Nj := some 154) #[true, true, true, true, true, true, true, true, true, true, true, true, true, true, true, true, true, true, true, true, true, true, true, true, true, true, true, true, true, true, true, true, true, true, false, false, false, false, false, false, false, false, false, false, false, false, false, false, false, false, false, false, false, false, false, false, false, false, false, false, false, false, false, false] #[true, true, true, true, true, true, true, true, true, true, true, true, true, true, true, true, true, true, true, true, true, true, true, true, true, true, true, true, true, true, true, true, false, true, true, false, false, false, false, false, false, false, false, false, false, false, false, false, false, false, false, false, false, false, false, false, false, false, false, false, false, false, false, false] rfl rfl rfl rfl (two_of HT_.out (by kernel_rfl)) (by decide) (by decide) (fun K hK => ?_) (fun K hK => ?_)
                        ·
                         skip
                         refine Kd.N_lit_step k29 _ 29 ?hg (N' := 152) ?hd (xs := ([(⟨t278, t279, t282⟩ : S29)] : List (S29))) (inner := [.int .i64 t278, .slice Ao80 t279.length co80, .bool t282]) (ok := (fun k_ => k_ ≠ gb253 ∧ k_ ≠ gb268 ∧ k_ ≠ gb287 ∧ k_ ≠ gb297)) (okp := (fun k_ => k_ ≠ gb253 ∧ k_ ≠ gb268 ∧ k_ ≠ gb287 ∧ k_ ≠ gb297)) ?hr ?hp (fun _ hk => hk) ((show ∀ k_, w92.heap.size ≤ k_ → (fun k_ => k_ ≠ gb253 ∧ k_ ≠ gb268 ∧ k_ ≠ gb287 ∧ k_ ≠ gb297) k_ from fun k_ hk => ⟨Kd.freshB (g := gb253) (o := .cells #[.slice A0_0 l0_0.length c0_0, .int .i64 a0_1, .slice A0_2 l0_2.length c0_2, .int .u8 a0_3] 46 (0, 0)) (by (with_reducible repeat (first | refine blk_drewN ?_ _ | refine blk_drew ?_ | refine blk_alloc ?_ _)); exact BK253.out) k_ hk, Kd.freshB (g := gb268) (o := .cells #[.int .i64 t259, .slice Ao19 t260.length co19, .bool t263] 29 (0, 0)) (by (with_reducible repeat (first | refine blk_drewN ?_ _ | refine blk_drew ?_ | refine blk_alloc ?_ _)); exact BK268.out) k_ hk, Kd.freshB (g := gb287) (o := .cells #[.int .i64 t278, .slice Ao80 t279.length co80, .bool t282] 29 (0, 0)) (by (with_reducible repeat (first | refine blk_drewN ?_ _ | refine blk_drew ?_ | refine blk_alloc ?_ _)); exact BK287.out) k_ hk, Kd.freshB (g := gb297) (o := .cells #[.int .i64 t288, .slice Ao88 t289.length co88, .bool t292] 29 (0, 0)) (by (with_reducible repeat (first | refine blk_drewN ?_ _ | refine blk_drew ?_ | refine blk_alloc ?_ _)); exact BK297.out) k_ hk⟩) _ (Nat.le_refl _)) (Below.refl _ _) (Nat.le_refl _) (by simp) ?_; (case hd => rfl); (case hg => rfl); (case hr => first | (go_simp; done) | (go_simp; rfl)); (case hp => exact (Reps.c3 (show Kd.FK k29 _ _ (⟨t278, t279, t282⟩ : S29) [.int .i64 t278, .slice Ao80 t279.length co80, .bool t282] from (k29_mkF _ _ (⟨t278, t279, t282⟩ : S29) (Kd.V_reads' (Kd.V_mono (ok' := (fun k_ => k_ ≠ gb253 ∧ k_ ≠ gb268 ∧ k_ ≠ gb287 ∧ k_ ≠ gb297)) (HO281.out) (fun k_ hk => ⟨hk.1, ⟨hk.2.1, ⟨hk.2.2.1, hk.2.2.2⟩⟩⟩))).2.1 (Kd.V_F (Kd.V_mono (ok' := (fun k_ => k_ ≠ gb253 ∧ k_ ≠ gb268 ∧ k_ ≠ gb287 ∧ k_ ≠ gb297)) (HO281.out) (fun k_ hk => ⟨hk.1, ⟨hk.2.1, ⟨hk.2.2.1, hk.2.2.2⟩⟩⟩))))) (Reps.none _ _)))
                         intro v300 w93 ho94 hb hg_ hnew_
                         clear hg_ hnew_
                         (first | rw [← Ny299.out] at ho94 | (simp only [Int.reduceToNat] at ho94; rw [← Ny299.out] at ho94))
                         have n0_ := Aside0.mk (Kd.V_elder' (by (with_reducible repeat (first | apply Kd.V_alloc | apply Kd.V_drewN | apply Kd.V_drew)); exact HO_8.out) (Kd.N_base ho94) hb)
                         have n1_ := Aside0.mk (Kd.V_elder' (by (with_reducible repeat (first | apply Kd.V_alloc | apply Kd.V_drewN | apply Kd.V_drew)); exact HO_269001.out) (Kd.N_base ho94) hb)
                         have n2_ := Aside0.mk (Kd.V_elder' (by (with_reducible repeat (first | apply Kd.V_alloc | apply Kd.V_drewN | apply Kd.V_drew)); exact HO272.out) (Kd.N_base ho94) hb)
                         have n3_ := Aside0.mk (Kd.V_elder' (by (with_reducible repeat (first | apply Kd.V_alloc | apply Kd.V_drewN | apply Kd.V_drew)); exact HO276.out) (Kd.N_base ho94) hb)
                         have n4_ := Aside0.mk (Kd.V_elder' (by (with_reducible repeat (first | apply Kd.V_alloc | apply Kd.V_drewN | apply Kd.V_drew)); exact HO281.out) (Kd.N_base ho94) hb)
                         have n5_ := Aside0.mk (Kd.V_elder' (by (with_reducible repeat (first | apply Kd.V_alloc | apply Kd.V_drewN | apply Kd.V_drew)); exact HO285.out) (Kd.N_base ho94) hb)
                         have n6_ := Aside0.mk (Kd.V_elder' (by (with_reducible repeat (first | apply Kd.V_alloc | apply Kd.V_drewN | apply Kd.V_drew)); exact HO291.out) (Kd.N_base ho94) hb)
                         have n7_ := Aside0.mk (Kd.V_elder' (by (with_reducible repeat (first | apply Kd.V_alloc | apply Kd.V_drewN | apply Kd.V_drew)); exact HO295.out) (Kd.N_base ho94) hb)
                         have n8_ := Aside0.mk (Kd.N_lower ho94 (below_size (by repeat (first | (with_reducible first | exact HB.out | apply below_alloc | apply pw_below_drewN | apply below_drew1 | refine below_set ?_ GE253.out | refine below_set ?_ GE268.out | refine below_set ?_ GE287.out | refine below_set ?_ GE297.out) | exact HB.out))))
                         have n9_ := Aside0.mk (blk_below (g := gb253) (o := .cells #[.slice A0_0 l0_0.length c0_0, .int .i64 a0_1, .slice A0_2 l0_2.length c0_2, .int .u8 a0_3] 46 (0, 0)) (by (with_reducible repeat (first | refine blk_drewN ?_ _ | refine blk_drew ?_ | refine blk_alloc ?_ _)); exact BK253.out) hb)
                         have n10_ := Aside0.mk (blk_below (g := gb268) (o := .cells #[.int .i64 t259, .slice Ao19 t260.length co19, .bool t263] 29 (0, 0)) (by (with_reducible repeat (first | refine blk_drewN ?_ _ | refine blk_drew ?_ | refine blk_alloc ?_ _)); exact BK268.out) hb)
                         have n11_ := Aside0.mk (blk_below (g := gb287) (o := .cells #[.int .i64 t278, .slice Ao80 t279.length co80, .bool t282] 29 (0, 0)) (by (with_reducible repeat (first | refine blk_drewN ?_ _ | refine blk_drew ?_ | refine blk_alloc ?_ _)); exact BK287.out) hb)
                         have n12_ := Aside0.mk (blk_below (g := gb297) (o := .cells #[.int .i64 t288, .slice Ao88 t289.length co88, .bool t292] 29 (0, 0)) (by (with_reducible repeat (first | refine blk_drewN ?_ _ | refine blk_drew ?_ | refine blk_alloc ?_ _)); exact BK297.out) hb)
                         have n13_ := Aside0.mk (below_step (by repeat (first | (with_reducible first | exact HB.out | apply below_alloc | apply pw_below_drewN | apply below_drew1 | refine below_set ?_ GE253.out | refine below_set ?_ GE268.out | refine below_set ?_ GE287.out | refine below_set ?_ GE297.out) | exact HB.out)) hb)
                         clear HO_8
                         clear HO_269001
                         clear HO272
                         clear HO276
                         clear HO281
                         clear HO285
                         clear HO291
                         clear HO295
                         clear BK253
                         clear BK268
                         clear BK287
                         clear BK297
                         clear HB
                         have HO_8 := n0_
                         have HO_269001 := n1_
                         have HO272 := n2_
                         have HO276 := n3_
                         have HO281 := n4_
                         have HO285 := n5_
                         have HO291 := n6_
                         have HO295 := n7_
                         have HO301 := n8_
                         have BK253 := n9_
                         have BK268 := n10_
                         have BK287 := n11_
                         have BK297 := n12_
                         have HB := n13_
                         clear n0_ n1_ n2_ n3_ n4_ n5_ n6_ n7_ n8_ n9_ n10_ n11_ n12_ n13_
                         clear hb ho94
                         refine hK.out _ _ ⟨(blk_cell BK287.out 0).trans rfl, (blk_cell BK287.out 1).trans rfl, (blk_cell BK287.out 2).trans rfl, (blk_cell BK297.out 0).trans rfl, (blk_cell BK297.out 1).trans rfl, (blk_cell BK297.out 2).trans rfl⟩ (fun hHeld => ?_)
                         clear hK K
                         refine norm_ (a' := ?_) ?_ ?_
                         rotate_left
                         ·
                          show Act.put _ (some 152) _ = _
                          simp only [Act.put, List.setIfInBounds_toArray, List.set_cons_zero, List.set_cons_succ, i64_w, i32_w]
                          rfl
                         refine one_ (i := 34) (N := some 154) #[true, true, true, true, true, true, true, true, true, true, true, true, true, true, true, true, true, true, true, true, true, true, true, true, true, true, true, true, true, true, true, true, true, true, true, false, false, false, false, false, false, false, false, false, false, false, false, false, false, false, false, false, false, false, false, false, false, false, false, false, false, false, false, false] rfl rfl (one_of HT_.out (by kernel_rfl)) (by decide) (fun K hK => ?_)
                         refine Kd.N_lit_step k29 _ 29 ?hg (N' := 154) ?hd (xs := ([(⟨t288, t289, t292⟩ : S29)] : List (S29))) (inner := [.int .i64 t288, .slice Ao88 t289.length co88, .bool t292]) (ok := (fun k_ => some k_ ≠ (v300 : Value).ownBlock ∧ k_ ≠ gb253 ∧ k_ ≠ gb268 ∧ k_ ≠ gb287 ∧ k_ ≠ gb297)) (okp := (fun k_ => some k_ ≠ (v300 : Value).ownBlock ∧ k_ ≠ gb253 ∧ k_ ≠ gb268 ∧ k_ ≠ gb287 ∧ k_ ≠ gb297)) ?hr ?hp (fun _ hk => hk) ((show ∀ k_, w93.heap.size ≤ k_ → (fun k_ => some k_ ≠ (v300 : Value).ownBlock ∧ k_ ≠ gb253 ∧ k_ ≠ gb268 ∧ k_ ≠ gb287 ∧ k_ ≠ gb297) k_ from fun k_ hk => ⟨Kd.fresh' (Kd.N_lt (by (with_reducible repeat (first | apply Kd.N_alloc | apply Kd.N_drewN | apply Kd.N_drew)); exact HO301.out)) k_ hk, Kd.freshB (g := gb253) (o := .cells #[.slice A0_0 l0_0.length c0_0, .int .i64 a0_1, .slice A0_2 l0_2.length c0_2, .int .u8 a0_3] 46 (0, 0)) (by (with_reducible repeat (first | refine blk_drewN ?_ _ | refine blk_drew ?_ | refine blk_alloc ?_ _)); exact BK253.out) k_ hk, Kd.freshB (g := gb268) (o := .cells #[.int .i64 t259, .slice Ao19 t260.length co19, .bool t263] 29 (0, 0)) (by (with_reducible repeat (first | refine blk_drewN ?_ _ | refine blk_drew ?_ | refine blk_alloc ?_ _)); exact BK268.out) k_ hk, Kd.freshB (g := gb287) (o := .cells #[.int .i64 t278, .slice Ao80 t279.length co80, .bool t282] 29 (0, 0)) (by (with_reducible repeat (first | refine blk_drewN ?_ _ | refine blk_drew ?_ | refine blk_alloc ?_ _)); exact BK287.out) k_ hk, Kd.freshB (g := gb297) (o := .cells #[.int .i64 t288, .slice Ao88 t289.length co88, .bool t292] 29 (0, 0)) (by (with_reducible repeat (first | refine blk_drewN ?_ _ | refine blk_drew ?_ | refine blk_alloc ?_ _)); exact BK297.out) k_ hk⟩) _ (Nat.le_refl _)) (Below.refl _ _) (Nat.le_refl _) (by simp) ?_; (case hd => rfl); (case hg => rfl); (case hr => first | (go_simp; done) | (go_simp; rfl)); (case hp => exact (Reps.c3 (show Kd.FK k29 _ _ (⟨t288, t289, t292⟩ : S29) [.int .i64 t288, .slice Ao88 t289.length co88, .bool t292] from (k29_mkF _ _ (⟨t288, t289, t292⟩ : S29) (Kd.V_reads' (Kd.V_mono (ok' := (fun k_ => some k_ ≠ (v300 : Value).ownBlock ∧ k_ ≠ gb253 ∧ k_ ≠ gb268 ∧ k_ ≠ gb287 ∧ k_ ≠ gb297)) (HO291.out) (fun k_ hk => ⟨hk.2, ⟨hk.1.1, ⟨hk.1.2.1, ⟨hk.1.2.2.1, hk.1.2.2.2⟩⟩⟩⟩))).2.1 (Kd.V_F (Kd.V_mono (ok' := (fun k_ => some k_ ≠ (v300 : Value).ownBlock ∧ k_ ≠ gb253 ∧ k_ ≠ gb268 ∧ k_ ≠ gb287 ∧ k_ ≠ gb297)) (HO291.out) (fun k_ hk => ⟨hk.2, ⟨hk.1.1, ⟨hk.1.2.1, ⟨hk.1.2.2.1, hk.1.2.2.2⟩⟩⟩⟩))))) (Reps.none _ _)))
                         intro v303 w95 ho96 hb hg_ hnew_
                         clear hg_ hnew_
                         (first | rw [← Ny302.out] at ho96 | (simp only [Int.reduceToNat] at ho96; rw [← Ny302.out] at ho96))
                         have n0_ := Aside0.mk (Kd.V_elder' (by (with_reducible repeat (first | apply Kd.V_alloc | apply Kd.V_drewN | apply Kd.V_drew)); exact HO_8.out) (Kd.N_base ho96) hb)
                         have n1_ := Aside0.mk (Kd.V_elder' (by (with_reducible repeat (first | apply Kd.V_alloc | apply Kd.V_drewN | apply Kd.V_drew)); exact HO_269001.out) (Kd.N_base ho96) hb)
                         have n2_ := Aside0.mk (Kd.V_elder' (by (with_reducible repeat (first | apply Kd.V_alloc | apply Kd.V_drewN | apply Kd.V_drew)); exact HO272.out) (Kd.N_base ho96) hb)
                         have n3_ := Aside0.mk (Kd.V_elder' (by (with_reducible repeat (first | apply Kd.V_alloc | apply Kd.V_drewN | apply Kd.V_drew)); exact HO276.out) (Kd.N_base ho96) hb)
                         have n4_ := Aside0.mk (Kd.V_elder' (by (with_reducible repeat (first | apply Kd.V_alloc | apply Kd.V_drewN | apply Kd.V_drew)); exact HO281.out) (Kd.N_base ho96) hb)
                         have n5_ := Aside0.mk (Kd.V_elder' (by (with_reducible repeat (first | apply Kd.V_alloc | apply Kd.V_drewN | apply Kd.V_drew)); exact HO285.out) (Kd.N_base ho96) hb)
                         have n6_ := Aside0.mk (Kd.V_elder' (by (with_reducible repeat (first | apply Kd.V_alloc | apply Kd.V_drewN | apply Kd.V_drew)); exact HO291.out) (Kd.N_base ho96) hb)
                         have n7_ := Aside0.mk (Kd.V_elder' (by (with_reducible repeat (first | apply Kd.V_alloc | apply Kd.V_drewN | apply Kd.V_drew)); exact HO295.out) (Kd.N_base ho96) hb)
                         have n8_ := Aside0.mk (Kd.N_elder' (by (with_reducible repeat (first | apply Kd.N_alloc | apply Kd.N_drewN | apply Kd.N_drew)); exact HO301.out) (Kd.N_base ho96) hb)
                         have n9_ := Aside0.mk (Kd.N_lower ho96 (below_size (by repeat (first | (with_reducible first | exact HB.out | apply below_alloc | apply pw_below_drewN | apply below_drew1 | refine below_set ?_ GE253.out | refine below_set ?_ GE268.out | refine below_set ?_ GE287.out | refine below_set ?_ GE297.out) | exact HB.out))))
                         have n10_ := Aside0.mk (blk_below (g := gb253) (o := .cells #[.slice A0_0 l0_0.length c0_0, .int .i64 a0_1, .slice A0_2 l0_2.length c0_2, .int .u8 a0_3] 46 (0, 0)) (by (with_reducible repeat (first | refine blk_drewN ?_ _ | refine blk_drew ?_ | refine blk_alloc ?_ _)); exact BK253.out) hb)
                         have n11_ := Aside0.mk (blk_below (g := gb268) (o := .cells #[.int .i64 t259, .slice Ao19 t260.length co19, .bool t263] 29 (0, 0)) (by (with_reducible repeat (first | refine blk_drewN ?_ _ | refine blk_drew ?_ | refine blk_alloc ?_ _)); exact BK268.out) hb)
                         have n12_ := Aside0.mk (blk_below (g := gb287) (o := .cells #[.int .i64 t278, .slice Ao80 t279.length co80, .bool t282] 29 (0, 0)) (by (with_reducible repeat (first | refine blk_drewN ?_ _ | refine blk_drew ?_ | refine blk_alloc ?_ _)); exact BK287.out) hb)
                         have n13_ := Aside0.mk (blk_below (g := gb297) (o := .cells #[.int .i64 t288, .slice Ao88 t289.length co88, .bool t292] 29 (0, 0)) (by (with_reducible repeat (first | refine blk_drewN ?_ _ | refine blk_drew ?_ | refine blk_alloc ?_ _)); exact BK297.out) hb)
                         have n14_ := Aside0.mk (below_step (by repeat (first | (with_reducible first | exact HB.out | apply below_alloc | apply pw_below_drewN | apply below_drew1 | refine below_set ?_ GE253.out | refine below_set ?_ GE268.out | refine below_set ?_ GE287.out | refine below_set ?_ GE297.out) | exact HB.out)) hb)
                         clear HO_8
                         clear HO_269001
                         clear HO272
                         clear HO276
                         clear HO281
                         clear HO285
                         clear HO291
                         clear HO295
                         clear HO301
                         clear BK253
                         clear BK268
                         clear BK287
                         clear BK297
                         clear HB
                         have HO_8 := n0_
                         have HO_269001 := n1_
                         have HO272 := n2_
                         have HO276 := n3_
                         have HO281 := n4_
                         have HO285 := n5_
                         have HO291 := n6_
                         have HO295 := n7_
                         have HO301 := n8_
                         have HO304 := n9_
                         have BK253 := n10_
                         have BK268 := n11_
                         have BK287 := n12_
                         have BK297 := n13_
                         have HB := n14_
                         clear n0_ n1_ n2_ n3_ n4_ n5_ n6_ n7_ n8_ n9_ n10_ n11_ n12_ n13_ n14_
                         clear hb ho96
                         refine hK.out _ _ ⟨(blk_cell BK287.out 0).trans rfl, (blk_cell BK287.out 1).trans rfl, (blk_cell BK287.out 2).trans rfl, (blk_cell BK297.out 0).trans rfl, (blk_cell BK297.out 1).trans rfl, (blk_cell BK297.out 2).trans rfl⟩ (fun hHeld => ?_)
                         clear hK K
                         refine norm_ (a' := ?_) ?_ ?_
                         rotate_left
                         ·
                          show Act.put _ (some 154) _ = _
                          simp only [Act.put, List.setIfInBounds_toArray, List.set_cons_zero, List.set_cons_succ, i64_w, i32_w]
                          rfl
                         exact norm_ (by simp only [putAll, Act.put, List.setIfInBounds_toArray, List.set_cons_zero, List.set_cons_succ]) (hCont (v300, v303) _ ⟨hHeld, (by (with_reducible repeat (first | apply Kd.V_alloc | apply Kd.V_drewN | apply Kd.V_drew)); exact Kd.V_mono HO272.out (fun _ hk => ⟨hk.1.2, ⟨hk.2, ⟨hk.1.1.1, ⟨hk.1.1.2.1, ⟨hk.1.1.2.2.1, hk.1.1.2.2.2⟩⟩⟩⟩⟩)), (by (with_reducible repeat (first | apply Kd.V_alloc | apply Kd.V_drewN | apply Kd.V_drew)); exact Kd.V_mono HO276.out (fun _ hk => ⟨hk.1.2, ⟨hk.2, ⟨hk.1.1.1, ⟨hk.1.1.2.1, ⟨hk.1.1.2.2.1, hk.1.1.2.2.2⟩⟩⟩⟩⟩)), (by (with_reducible repeat (first | apply Kd.V_alloc | apply Kd.V_drewN | apply Kd.V_drew)); exact Kd.V_mono HO281.out (fun _ hk => ⟨hk.1.2, ⟨hk.2, ⟨hk.1.1.1, ⟨hk.1.1.2.1, ⟨hk.1.1.2.2.1, hk.1.1.2.2.2⟩⟩⟩⟩⟩)), (by (with_reducible repeat (first | apply Kd.V_alloc | apply Kd.V_drewN | apply Kd.V_drew)); exact Kd.V_mono HO285.out (fun _ hk => ⟨hk.1.2, ⟨hk.2, ⟨hk.1.1.1, ⟨hk.1.1.2.1, ⟨hk.1.1.2.2.1, hk.1.1.2.2.2⟩⟩⟩⟩⟩)), (by (with_reducible repeat (first | apply Kd.V_alloc | apply Kd.V_drewN | apply Kd.V_drew)); exact Kd.V_mono HO291.out (fun _ hk => ⟨hk.1.2, ⟨hk.2, ⟨hk.1.1.1, ⟨hk.1.1.2.1, ⟨hk.1.1.2.2.1, hk.1.1.2.2.2⟩⟩⟩⟩⟩)), (by (with_reducible repeat (first | apply Kd.V_alloc | apply Kd.V_drewN | apply Kd.V_drew)); exact Kd.V_mono HO295.out (fun _ hk => ⟨hk.1.2, ⟨hk.2, ⟨hk.1.1.1, ⟨hk.1.1.2.1, ⟨hk.1.1.2.2.1, hk.1.1.2.2.2⟩⟩⟩⟩⟩)), (by (with_reducible repeat (first | apply Kd.N_alloc | apply Kd.N_drewN | apply Kd.N_drew)); exact Kd.N_mono HO301.out (fun _ hk => ⟨hk.2, ⟨hk.1.1, ⟨hk.1.2.1, ⟨hk.1.2.2.1, hk.1.2.2.2⟩⟩⟩⟩)), (by (with_reducible repeat (first | apply Kd.N_alloc | apply Kd.N_drewN | apply Kd.N_drew)); exact HO304.out), (by (with_reducible repeat (first | apply Kd.V_alloc | apply Kd.V_drewN | apply Kd.V_drew)); exact Kd.V_mono HO_269001.out (fun _ hk => ⟨hk.1.2, ⟨hk.2, ⟨hk.1.1.1, ⟨hk.1.1.2.1, ⟨hk.1.1.2.2.1, hk.1.1.2.2.2⟩⟩⟩⟩⟩)), (by (with_reducible repeat (first | apply Kd.V_alloc | apply Kd.V_drewN | apply Kd.V_drew)); exact Kd.V_mono HO_8.out (fun _ hk => ⟨hk.1.2, ⟨hk.2, ⟨hk.1.1.1, ⟨hk.1.1.2.1, ⟨hk.1.1.2.2.1, hk.1.1.2.2.2⟩⟩⟩⟩⟩)), (by (with_reducible repeat (first | refine blk_drewN ?_ _ | refine blk_drew ?_ | refine blk_alloc ?_ _)); exact BK253.out), (by (with_reducible repeat (first | refine blk_drewN ?_ _ | refine blk_drew ?_ | refine blk_alloc ?_ _)); exact BK268.out), (by (with_reducible repeat (first | refine blk_drewN ?_ _ | refine blk_drew ?_ | refine blk_alloc ?_ _)); exact BK287.out), (by (with_reducible repeat (first | refine blk_drewN ?_ _ | refine blk_drew ?_ | refine blk_alloc ?_ _)); exact BK297.out), (by repeat (first | (with_reducible first | exact HB.out | apply below_alloc | apply pw_below_drewN | apply below_drew1 | refine below_set ?_ GE253.out | refine below_set ?_ GE268.out | refine below_set ?_ GE287.out | refine below_set ?_ GE297.out) | exact HB.out))⟩)
                        ·
                         skip
                         refine Kd.N_lit_step k29 _ 29 ?hg (N' := 154) ?hd (xs := ([(⟨t288, t289, t292⟩ : S29)] : List (S29))) (inner := [.int .i64 t288, .slice Ao88 t289.length co88, .bool t292]) (ok := (fun k_ => k_ ≠ gb253 ∧ k_ ≠ gb268 ∧ k_ ≠ gb287 ∧ k_ ≠ gb297)) (okp := (fun k_ => k_ ≠ gb253 ∧ k_ ≠ gb268 ∧ k_ ≠ gb287 ∧ k_ ≠ gb297)) ?hr ?hp (fun _ hk => hk) ((show ∀ k_, w92.heap.size ≤ k_ → (fun k_ => k_ ≠ gb253 ∧ k_ ≠ gb268 ∧ k_ ≠ gb287 ∧ k_ ≠ gb297) k_ from fun k_ hk => ⟨Kd.freshB (g := gb253) (o := .cells #[.slice A0_0 l0_0.length c0_0, .int .i64 a0_1, .slice A0_2 l0_2.length c0_2, .int .u8 a0_3] 46 (0, 0)) (by (with_reducible repeat (first | refine blk_drewN ?_ _ | refine blk_drew ?_ | refine blk_alloc ?_ _)); exact BK253.out) k_ hk, Kd.freshB (g := gb268) (o := .cells #[.int .i64 t259, .slice Ao19 t260.length co19, .bool t263] 29 (0, 0)) (by (with_reducible repeat (first | refine blk_drewN ?_ _ | refine blk_drew ?_ | refine blk_alloc ?_ _)); exact BK268.out) k_ hk, Kd.freshB (g := gb287) (o := .cells #[.int .i64 t278, .slice Ao80 t279.length co80, .bool t282] 29 (0, 0)) (by (with_reducible repeat (first | refine blk_drewN ?_ _ | refine blk_drew ?_ | refine blk_alloc ?_ _)); exact BK287.out) k_ hk, Kd.freshB (g := gb297) (o := .cells #[.int .i64 t288, .slice Ao88 t289.length co88, .bool t292] 29 (0, 0)) (by (with_reducible repeat (first | refine blk_drewN ?_ _ | refine blk_drew ?_ | refine blk_alloc ?_ _)); exact BK297.out) k_ hk⟩) _ (Nat.le_refl _)) (Below.refl _ _) (Nat.le_refl _) (by simp) ?_; (case hd => rfl); (case hg => rfl); (case hr => first | (go_simp; done) | (go_simp; rfl)); (case hp => exact (Reps.c3 (show Kd.FK k29 _ _ (⟨t288, t289, t292⟩ : S29) [.int .i64 t288, .slice Ao88 t289.length co88, .bool t292] from (k29_mkF _ _ (⟨t288, t289, t292⟩ : S29) (Kd.V_reads' (Kd.V_mono (ok' := (fun k_ => k_ ≠ gb253 ∧ k_ ≠ gb268 ∧ k_ ≠ gb287 ∧ k_ ≠ gb297)) (HO291.out) (fun k_ hk => ⟨hk.1, ⟨hk.2.1, ⟨hk.2.2.1, hk.2.2.2⟩⟩⟩))).2.1 (Kd.V_F (Kd.V_mono (ok' := (fun k_ => k_ ≠ gb253 ∧ k_ ≠ gb268 ∧ k_ ≠ gb287 ∧ k_ ≠ gb297)) (HO291.out) (fun k_ hk => ⟨hk.1, ⟨hk.2.1, ⟨hk.2.2.1, hk.2.2.2⟩⟩⟩))))) (Reps.none _ _)))
                         intro v303 w93 ho94 hb hg_ hnew_
                         clear hg_ hnew_
                         (first | rw [← Ny302.out] at ho94 | (simp only [Int.reduceToNat] at ho94; rw [← Ny302.out] at ho94))
                         have n0_ := Aside0.mk (Kd.V_elder' (by (with_reducible repeat (first | apply Kd.V_alloc | apply Kd.V_drewN | apply Kd.V_drew)); exact HO_8.out) (Kd.N_base ho94) hb)
                         have n1_ := Aside0.mk (Kd.V_elder' (by (with_reducible repeat (first | apply Kd.V_alloc | apply Kd.V_drewN | apply Kd.V_drew)); exact HO_269001.out) (Kd.N_base ho94) hb)
                         have n2_ := Aside0.mk (Kd.V_elder' (by (with_reducible repeat (first | apply Kd.V_alloc | apply Kd.V_drewN | apply Kd.V_drew)); exact HO272.out) (Kd.N_base ho94) hb)
                         have n3_ := Aside0.mk (Kd.V_elder' (by (with_reducible repeat (first | apply Kd.V_alloc | apply Kd.V_drewN | apply Kd.V_drew)); exact HO276.out) (Kd.N_base ho94) hb)
                         have n4_ := Aside0.mk (Kd.V_elder' (by (with_reducible repeat (first | apply Kd.V_alloc | apply Kd.V_drewN | apply Kd.V_drew)); exact HO281.out) (Kd.N_base ho94) hb)
                         have n5_ := Aside0.mk (Kd.V_elder' (by (with_reducible repeat (first | apply Kd.V_alloc | apply Kd.V_drewN | apply Kd.V_drew)); exact HO285.out) (Kd.N_base ho94) hb)
                         have n6_ := Aside0.mk (Kd.V_elder' (by (with_reducible repeat (first | apply Kd.V_alloc | apply Kd.V_drewN | apply Kd.V_drew)); exact HO291.out) (Kd.N_base ho94) hb)
                         have n7_ := Aside0.mk (Kd.V_elder' (by (with_reducible repeat (first | apply Kd.V_alloc | apply Kd.V_drewN | apply Kd.V_drew)); exact HO295.out) (Kd.N_base ho94) hb)
                         have n8_ := Aside0.mk (Kd.N_lower ho94 (below_size (by repeat (first | (with_reducible first | exact HB.out | apply below_alloc | apply pw_below_drewN | apply below_drew1 | refine below_set ?_ GE253.out | refine below_set ?_ GE268.out | refine below_set ?_ GE287.out | refine below_set ?_ GE297.out) | exact HB.out))))
                         have n9_ := Aside0.mk (blk_below (g := gb253) (o := .cells #[.slice A0_0 l0_0.length c0_0, .int .i64 a0_1, .slice A0_2 l0_2.length c0_2, .int .u8 a0_3] 46 (0, 0)) (by (with_reducible repeat (first | refine blk_drewN ?_ _ | refine blk_drew ?_ | refine blk_alloc ?_ _)); exact BK253.out) hb)
                         have n10_ := Aside0.mk (blk_below (g := gb268) (o := .cells #[.int .i64 t259, .slice Ao19 t260.length co19, .bool t263] 29 (0, 0)) (by (with_reducible repeat (first | refine blk_drewN ?_ _ | refine blk_drew ?_ | refine blk_alloc ?_ _)); exact BK268.out) hb)
                         have n11_ := Aside0.mk (blk_below (g := gb287) (o := .cells #[.int .i64 t278, .slice Ao80 t279.length co80, .bool t282] 29 (0, 0)) (by (with_reducible repeat (first | refine blk_drewN ?_ _ | refine blk_drew ?_ | refine blk_alloc ?_ _)); exact BK287.out) hb)
                         have n12_ := Aside0.mk (blk_below (g := gb297) (o := .cells #[.int .i64 t288, .slice Ao88 t289.length co88, .bool t292] 29 (0, 0)) (by (with_reducible repeat (first | refine blk_drewN ?_ _ | refine blk_drew ?_ | refine blk_alloc ?_ _)); exact BK297.out) hb)
                         have n13_ := Aside0.mk (below_step (by repeat (first | (with_reducible first | exact HB.out | apply below_alloc | apply pw_below_drewN | apply below_drew1 | refine below_set ?_ GE253.out | refine below_set ?_ GE268.out | refine below_set ?_ GE287.out | refine below_set ?_ GE297.out) | exact HB.out)) hb)
                         clear HO_8
                         clear HO_269001
                         clear HO272
                         clear HO276
                         clear HO281
                         clear HO285
                         clear HO291
                         clear HO295
                         clear BK253
                         clear BK268
                         clear BK287
                         clear BK297
                         clear HB
                         have HO_8 := n0_
                         have HO_269001 := n1_
                         have HO272 := n2_
                         have HO276 := n3_
                         have HO281 := n4_
                         have HO285 := n5_
                         have HO291 := n6_
                         have HO295 := n7_
                         have HO304 := n8_
                         have BK253 := n9_
                         have BK268 := n10_
                         have BK287 := n11_
                         have BK297 := n12_
                         have HB := n13_
                         clear n0_ n1_ n2_ n3_ n4_ n5_ n6_ n7_ n8_ n9_ n10_ n11_ n12_ n13_
                         clear hb ho94
                         refine hK.out _ _ ⟨(blk_cell BK287.out 0).trans rfl, (blk_cell BK287.out 1).trans rfl, (blk_cell BK287.out 2).trans rfl, (blk_cell BK297.out 0).trans rfl, (blk_cell BK297.out 1).trans rfl, (blk_cell BK297.out 2).trans rfl⟩ (fun hHeld => ?_)
                         clear hK K
                         refine norm_ (a' := ?_) ?_ ?_
                         rotate_left
                         ·
                          show Act.put _ (some 154) _ = _
                          simp only [Act.put, List.setIfInBounds_toArray, List.set_cons_zero, List.set_cons_succ, i64_w, i32_w]
                          rfl
                         refine one_ (i := 32) (N := some 152) #[true, true, true, true, true, true, true, true, true, true, true, true, true, true, true, true, true, true, true, true, true, true, true, true, true, true, true, true, true, true, true, true, true, true, true, false, false, false, false, false, false, false, false, false, false, false, false, false, false, false, false, false, false, false, false, false, false, false, false, false, false, false, false, false] rfl rfl (one_of HT_.out (by kernel_rfl)) (by decide) (fun K hK => ?_)
                         refine Kd.N_lit_step k29 _ 29 ?hg (N' := 152) ?hd (xs := ([(⟨t278, t279, t282⟩ : S29)] : List (S29))) (inner := [.int .i64 t278, .slice Ao80 t279.length co80, .bool t282]) (ok := (fun k_ => some k_ ≠ (v303 : Value).ownBlock ∧ k_ ≠ gb253 ∧ k_ ≠ gb268 ∧ k_ ≠ gb287 ∧ k_ ≠ gb297)) (okp := (fun k_ => some k_ ≠ (v303 : Value).ownBlock ∧ k_ ≠ gb253 ∧ k_ ≠ gb268 ∧ k_ ≠ gb287 ∧ k_ ≠ gb297)) ?hr ?hp (fun _ hk => hk) ((show ∀ k_, w93.heap.size ≤ k_ → (fun k_ => some k_ ≠ (v303 : Value).ownBlock ∧ k_ ≠ gb253 ∧ k_ ≠ gb268 ∧ k_ ≠ gb287 ∧ k_ ≠ gb297) k_ from fun k_ hk => ⟨Kd.fresh' (Kd.N_lt (by (with_reducible repeat (first | apply Kd.N_alloc | apply Kd.N_drewN | apply Kd.N_drew)); exact HO304.out)) k_ hk, Kd.freshB (g := gb253) (o := .cells #[.slice A0_0 l0_0.length c0_0, .int .i64 a0_1, .slice A0_2 l0_2.length c0_2, .int .u8 a0_3] 46 (0, 0)) (by (with_reducible repeat (first | refine blk_drewN ?_ _ | refine blk_drew ?_ | refine blk_alloc ?_ _)); exact BK253.out) k_ hk, Kd.freshB (g := gb268) (o := .cells #[.int .i64 t259, .slice Ao19 t260.length co19, .bool t263] 29 (0, 0)) (by (with_reducible repeat (first | refine blk_drewN ?_ _ | refine blk_drew ?_ | refine blk_alloc ?_ _)); exact BK268.out) k_ hk, Kd.freshB (g := gb287) (o := .cells #[.int .i64 t278, .slice Ao80 t279.length co80, .bool t282] 29 (0, 0)) (by (with_reducible repeat (first | refine blk_drewN ?_ _ | refine blk_drew ?_ | refine blk_alloc ?_ _)); exact BK287.out) k_ hk, Kd.freshB (g := gb297) (o := .cells #[.int .i64 t288, .slice Ao88 t289.length co88, .bool t292] 29 (0, 0)) (by (with_reducible repeat (first | refine blk_drewN ?_ _ | refine blk_drew ?_ | refine blk_alloc ?_ _)); exact BK297.out) k_ hk⟩) _ (Nat.le_refl _)) (Below.refl _ _) (Nat.le_refl _) (by simp) ?_; (case hd => rfl); (case hg => rfl); (case hr => first | (go_simp; done) | (go_simp; rfl)); (case hp => exact (Reps.c3 (show Kd.FK k29 _ _ (⟨t278, t279, t282⟩ : S29) [.int .i64 t278, .slice Ao80 t279.length co80, .bool t282] from (k29_mkF _ _ (⟨t278, t279, t282⟩ : S29) (Kd.V_reads' (Kd.V_mono (ok' := (fun k_ => some k_ ≠ (v303 : Value).ownBlock ∧ k_ ≠ gb253 ∧ k_ ≠ gb268 ∧ k_ ≠ gb287 ∧ k_ ≠ gb297)) (HO281.out) (fun k_ hk => ⟨hk.2, ⟨hk.1.1, ⟨hk.1.2.1, ⟨hk.1.2.2.1, hk.1.2.2.2⟩⟩⟩⟩))).2.1 (Kd.V_F (Kd.V_mono (ok' := (fun k_ => some k_ ≠ (v303 : Value).ownBlock ∧ k_ ≠ gb253 ∧ k_ ≠ gb268 ∧ k_ ≠ gb287 ∧ k_ ≠ gb297)) (HO281.out) (fun k_ hk => ⟨hk.2, ⟨hk.1.1, ⟨hk.1.2.1, ⟨hk.1.2.2.1, hk.1.2.2.2⟩⟩⟩⟩))))) (Reps.none _ _)))
                         intro v300 w95 ho96 hb hg_ hnew_
                         clear hg_ hnew_
                         (first | rw [← Ny299.out] at ho96 | (simp only [Int.reduceToNat] at ho96; rw [← Ny299.out] at ho96))
                         have n0_ := Aside0.mk (Kd.V_elder' (by (with_reducible repeat (first | apply Kd.V_alloc | apply Kd.V_drewN | apply Kd.V_drew)); exact HO_8.out) (Kd.N_base ho96) hb)
                         have n1_ := Aside0.mk (Kd.V_elder' (by (with_reducible repeat (first | apply Kd.V_alloc | apply Kd.V_drewN | apply Kd.V_drew)); exact HO_269001.out) (Kd.N_base ho96) hb)
                         have n2_ := Aside0.mk (Kd.V_elder' (by (with_reducible repeat (first | apply Kd.V_alloc | apply Kd.V_drewN | apply Kd.V_drew)); exact HO272.out) (Kd.N_base ho96) hb)
                         have n3_ := Aside0.mk (Kd.V_elder' (by (with_reducible repeat (first | apply Kd.V_alloc | apply Kd.V_drewN | apply Kd.V_drew)); exact HO276.out) (Kd.N_base ho96) hb)
                         have n4_ := Aside0.mk (Kd.V_elder' (by (with_reducible repeat (first | apply Kd.V_alloc | apply Kd.V_drewN | apply Kd.V_drew)); exact HO281.out) (Kd.N_base ho96) hb)
                         have n5_ := Aside0.mk (Kd.V_elder' (by (with_reducible repeat (first | apply Kd.V_alloc | apply Kd.V_drewN | apply Kd.V_drew)); exact HO285.out) (Kd.N_base ho96) hb)
                         have n6_ := Aside0.mk (Kd.V_elder' (by (with_reducible repeat (first | apply Kd.V_alloc | apply Kd.V_drewN | apply Kd.V_drew)); exact HO291.out) (Kd.N_base ho96) hb)
                         have n7_ := Aside0.mk (Kd.V_elder' (by (with_reducible repeat (first | apply Kd.V_alloc | apply Kd.V_drewN | apply Kd.V_drew)); exact HO295.out) (Kd.N_base ho96) hb)
                         have n8_ := Aside0.mk (Kd.N_elder' (by (with_reducible repeat (first | apply Kd.N_alloc | apply Kd.N_drewN | apply Kd.N_drew)); exact HO304.out) (Kd.N_base ho96) hb)
                         have n9_ := Aside0.mk (Kd.N_lower ho96 (below_size (by repeat (first | (with_reducible first | exact HB.out | apply below_alloc | apply pw_below_drewN | apply below_drew1 | refine below_set ?_ GE253.out | refine below_set ?_ GE268.out | refine below_set ?_ GE287.out | refine below_set ?_ GE297.out) | exact HB.out))))
                         have n10_ := Aside0.mk (blk_below (g := gb253) (o := .cells #[.slice A0_0 l0_0.length c0_0, .int .i64 a0_1, .slice A0_2 l0_2.length c0_2, .int .u8 a0_3] 46 (0, 0)) (by (with_reducible repeat (first | refine blk_drewN ?_ _ | refine blk_drew ?_ | refine blk_alloc ?_ _)); exact BK253.out) hb)
                         have n11_ := Aside0.mk (blk_below (g := gb268) (o := .cells #[.int .i64 t259, .slice Ao19 t260.length co19, .bool t263] 29 (0, 0)) (by (with_reducible repeat (first | refine blk_drewN ?_ _ | refine blk_drew ?_ | refine blk_alloc ?_ _)); exact BK268.out) hb)
                         have n12_ := Aside0.mk (blk_below (g := gb287) (o := .cells #[.int .i64 t278, .slice Ao80 t279.length co80, .bool t282] 29 (0, 0)) (by (with_reducible repeat (first | refine blk_drewN ?_ _ | refine blk_drew ?_ | refine blk_alloc ?_ _)); exact BK287.out) hb)
                         have n13_ := Aside0.mk (blk_below (g := gb297) (o := .cells #[.int .i64 t288, .slice Ao88 t289.length co88, .bool t292] 29 (0, 0)) (by (with_reducible repeat (first | refine blk_drewN ?_ _ | refine blk_drew ?_ | refine blk_alloc ?_ _)); exact BK297.out) hb)
                         have n14_ := Aside0.mk (below_step (by repeat (first | (with_reducible first | exact HB.out | apply below_alloc | apply pw_below_drewN | apply below_drew1 | refine below_set ?_ GE253.out | refine below_set ?_ GE268.out | refine below_set ?_ GE287.out | refine below_set ?_ GE297.out) | exact HB.out)) hb)
                         clear HO_8
                         clear HO_269001
                         clear HO272
                         clear HO276
                         clear HO281
                         clear HO285
                         clear HO291
                         clear HO295
                         clear HO304
                         clear BK253
                         clear BK268
                         clear BK287
                         clear BK297
                         clear HB
                         have HO_8 := n0_
                         have HO_269001 := n1_
                         have HO272 := n2_
                         have HO276 := n3_
                         have HO281 := n4_
                         have HO285 := n5_
                         have HO291 := n6_
                         have HO295 := n7_
                         have HO304 := n8_
                         have HO301 := n9_
                         have BK253 := n10_
                         have BK268 := n11_
                         have BK287 := n12_
                         have BK297 := n13_
                         have HB := n14_
                         clear n0_ n1_ n2_ n3_ n4_ n5_ n6_ n7_ n8_ n9_ n10_ n11_ n12_ n13_ n14_
                         clear hb ho96
                         refine hK.out _ _ ⟨(blk_cell BK287.out 0).trans rfl, (blk_cell BK287.out 1).trans rfl, (blk_cell BK287.out 2).trans rfl, (blk_cell BK297.out 0).trans rfl, (blk_cell BK297.out 1).trans rfl, (blk_cell BK297.out 2).trans rfl⟩ (fun hHeld => ?_)
                         clear hK K
                         refine norm_ (a' := ?_) ?_ ?_
                         rotate_left
                         ·
                          show Act.put _ (some 152) _ = _
                          simp only [Act.put, List.setIfInBounds_toArray, List.set_cons_zero, List.set_cons_succ, i64_w, i32_w]
                          rfl
                         exact norm_ (by simp only [putAll, Act.put, List.setIfInBounds_toArray, List.set_cons_zero, List.set_cons_succ]) (hCont (v300, v303) _ ⟨hHeld, (by (with_reducible repeat (first | apply Kd.V_alloc | apply Kd.V_drewN | apply Kd.V_drew)); exact Kd.V_mono HO272.out (fun _ hk => ⟨hk.2, ⟨hk.1.2, ⟨hk.1.1.1, ⟨hk.1.1.2.1, ⟨hk.1.1.2.2.1, hk.1.1.2.2.2⟩⟩⟩⟩⟩)), (by (with_reducible repeat (first | apply Kd.V_alloc | apply Kd.V_drewN | apply Kd.V_drew)); exact Kd.V_mono HO276.out (fun _ hk => ⟨hk.2, ⟨hk.1.2, ⟨hk.1.1.1, ⟨hk.1.1.2.1, ⟨hk.1.1.2.2.1, hk.1.1.2.2.2⟩⟩⟩⟩⟩)), (by (with_reducible repeat (first | apply Kd.V_alloc | apply Kd.V_drewN | apply Kd.V_drew)); exact Kd.V_mono HO281.out (fun _ hk => ⟨hk.2, ⟨hk.1.2, ⟨hk.1.1.1, ⟨hk.1.1.2.1, ⟨hk.1.1.2.2.1, hk.1.1.2.2.2⟩⟩⟩⟩⟩)), (by (with_reducible repeat (first | apply Kd.V_alloc | apply Kd.V_drewN | apply Kd.V_drew)); exact Kd.V_mono HO285.out (fun _ hk => ⟨hk.2, ⟨hk.1.2, ⟨hk.1.1.1, ⟨hk.1.1.2.1, ⟨hk.1.1.2.2.1, hk.1.1.2.2.2⟩⟩⟩⟩⟩)), (by (with_reducible repeat (first | apply Kd.V_alloc | apply Kd.V_drewN | apply Kd.V_drew)); exact Kd.V_mono HO291.out (fun _ hk => ⟨hk.2, ⟨hk.1.2, ⟨hk.1.1.1, ⟨hk.1.1.2.1, ⟨hk.1.1.2.2.1, hk.1.1.2.2.2⟩⟩⟩⟩⟩)), (by (with_reducible repeat (first | apply Kd.V_alloc | apply Kd.V_drewN | apply Kd.V_drew)); exact Kd.V_mono HO295.out (fun _ hk => ⟨hk.2, ⟨hk.1.2, ⟨hk.1.1.1, ⟨hk.1.1.2.1, ⟨hk.1.1.2.2.1, hk.1.1.2.2.2⟩⟩⟩⟩⟩)), (by (with_reducible repeat (first | apply Kd.N_alloc | apply Kd.N_drewN | apply Kd.N_drew)); exact HO301.out), (by (with_reducible repeat (first | apply Kd.N_alloc | apply Kd.N_drewN | apply Kd.N_drew)); exact Kd.N_mono HO304.out (fun _ hk => ⟨hk.2, ⟨hk.1.1, ⟨hk.1.2.1, ⟨hk.1.2.2.1, hk.1.2.2.2⟩⟩⟩⟩)), (by (with_reducible repeat (first | apply Kd.V_alloc | apply Kd.V_drewN | apply Kd.V_drew)); exact Kd.V_mono HO_269001.out (fun _ hk => ⟨hk.2, ⟨hk.1.2, ⟨hk.1.1.1, ⟨hk.1.1.2.1, ⟨hk.1.1.2.2.1, hk.1.1.2.2.2⟩⟩⟩⟩⟩)), (by (with_reducible repeat (first | apply Kd.V_alloc | apply Kd.V_drewN | apply Kd.V_drew)); exact Kd.V_mono HO_8.out (fun _ hk => ⟨hk.2, ⟨hk.1.2, ⟨hk.1.1.1, ⟨hk.1.1.2.1, ⟨hk.1.1.2.2.1, hk.1.1.2.2.2⟩⟩⟩⟩⟩)), (by (with_reducible repeat (first | refine blk_drewN ?_ _ | refine blk_drew ?_ | refine blk_alloc ?_ _)); exact BK253.out), (by (with_reducible repeat (first | refine blk_drewN ?_ _ | refine blk_drew ?_ | refine blk_alloc ?_ _)); exact BK268.out), (by (with_reducible repeat (first | refine blk_drewN ?_ _ | refine blk_drew ?_ | refine blk_alloc ?_ _)); exact BK287.out), (by (with_reducible repeat (first | refine blk_drewN ?_ _ | refine blk_drew ?_ | refine blk_alloc ?_ _)); exact BK297.out), (by repeat (first | (with_reducible first | exact HB.out | apply below_alloc | apply pw_below_drewN | apply below_drew1 | refine below_set ?_ GE253.out | refine below_set ?_ GE268.out | refine below_set ?_ GE287.out | refine below_set ?_ GE297.out) | exact HB.out))⟩)
                       rintro ⟨v300, v303⟩ w97 ⟨hS_, h0_, h1_, h2_, h3_, h4_, h5_, h6_, h7_, h8_, h9_, h10_, h11_, h12_, h13_, h14_⟩
                       have n0_ : Aside0 (Kd.V k29 29 w97 w.heap.size (fun k_ => some k_ ≠ (v300 : Value).ownBlock ∧ some k_ ≠ (v303 : Value).ownBlock ∧ k_ ≠ gb253 ∧ k_ ≠ gb268 ∧ k_ ≠ gb287 ∧ k_ ≠ gb297) (.slice Ao73 t270.length co73) t270) := ⟨h0_⟩
                       have n1_ : Aside0 (Kd.V k29 29 w97 w.heap.size (fun k_ => some k_ ≠ (v300 : Value).ownBlock ∧ some k_ ≠ (v303 : Value).ownBlock ∧ k_ ≠ gb253 ∧ k_ ≠ gb268 ∧ k_ ≠ gb287 ∧ k_ ≠ gb297) (.slice Ao89 t274.length co89) t274) := ⟨h1_⟩
                       have n2_ : Aside0 (Kd.V (Kd.int .u8) 5 w97 w.heap.size (fun k_ => some k_ ≠ (v300 : Value).ownBlock ∧ some k_ ≠ (v303 : Value).ownBlock ∧ k_ ≠ gb253 ∧ k_ ≠ gb268 ∧ k_ ≠ gb287 ∧ k_ ≠ gb297) (.slice Ao80 t279.length co80) t279) := ⟨h2_⟩
                       have n3_ : Aside0 (Kd.V k29 29 w97 w.heap.size (fun k_ => some k_ ≠ (v300 : Value).ownBlock ∧ some k_ ≠ (v303 : Value).ownBlock ∧ k_ ≠ gb253 ∧ k_ ≠ gb268 ∧ k_ ≠ gb287 ∧ k_ ≠ gb297) v284 t283) := ⟨h3_⟩
                       have n4_ : Aside0 (Kd.V (Kd.int .u8) 5 w97 w.heap.size (fun k_ => some k_ ≠ (v300 : Value).ownBlock ∧ some k_ ≠ (v303 : Value).ownBlock ∧ k_ ≠ gb253 ∧ k_ ≠ gb268 ∧ k_ ≠ gb287 ∧ k_ ≠ gb297) (.slice Ao88 t289.length co88) t289) := ⟨h4_⟩
                       have n5_ : Aside0 (Kd.V k29 29 w97 w.heap.size (fun k_ => some k_ ≠ (v300 : Value).ownBlock ∧ some k_ ≠ (v303 : Value).ownBlock ∧ k_ ≠ gb253 ∧ k_ ≠ gb268 ∧ k_ ≠ gb287 ∧ k_ ≠ gb297) v294 t293) := ⟨h5_⟩
                       have n6_ : Aside0 (Kd.N k29 29 w97 w.heap.size (fun k_ => some k_ ≠ (v303 : Value).ownBlock ∧ k_ ≠ gb253 ∧ k_ ≠ gb268 ∧ k_ ≠ gb287 ∧ k_ ≠ gb297) v300 y299) := ⟨h6_⟩
                       have n7_ : Aside0 (Kd.N k29 29 w97 w.heap.size (fun k_ => some k_ ≠ (v300 : Value).ownBlock ∧ k_ ≠ gb253 ∧ k_ ≠ gb268 ∧ k_ ≠ gb287 ∧ k_ ≠ gb297) v303 y302) := ⟨h7_⟩
                       have n8_ : Aside0 (Kd.V (Kd.int .u8) 5 w97 w.heap.size (fun k_ => some k_ ≠ (v300 : Value).ownBlock ∧ some k_ ≠ (v303 : Value).ownBlock ∧ k_ ≠ gb253 ∧ k_ ≠ gb268 ∧ k_ ≠ gb287 ∧ k_ ≠ gb297) (.slice Ao19 t260.length co19) t260) := ⟨h8_⟩
                       have n9_ : Aside0 (Kd.V k29 29 w97 w.heap.size (fun k_ => some k_ ≠ (v300 : Value).ownBlock ∧ some k_ ≠ (v303 : Value).ownBlock ∧ k_ ≠ gb253 ∧ k_ ≠ gb268 ∧ k_ ≠ gb287 ∧ k_ ≠ gb297) (.slice Ao14 t256.length co14) t256) := ⟨h9_⟩
                       have n10_ : Aside0 (w97.heap[gb253]? = some (.cells #[.slice A0_0 l0_0.length c0_0, .int .i64 a0_1, .slice A0_2 l0_2.length c0_2, .int .u8 a0_3] 46 (0, 0))) := ⟨h10_⟩
                       have n11_ : Aside0 (w97.heap[gb268]? = some (.cells #[.int .i64 t259, .slice Ao19 t260.length co19, .bool t263] 29 (0, 0))) := ⟨h11_⟩
                       have n12_ : Aside0 (w97.heap[gb287]? = some (.cells #[.int .i64 t278, .slice Ao80 t279.length co80, .bool t282] 29 (0, 0))) := ⟨h12_⟩
                       have n13_ : Aside0 (w97.heap[gb297]? = some (.cells #[.int .i64 t288, .slice Ao88 t289.length co88, .bool t292] 29 (0, 0))) := ⟨h13_⟩
                       have n14_ : Aside0 (Below w.heap.size w w97) := ⟨h14_⟩
                       clear HO_8
                       clear HO_269001
                       clear HO272
                       clear HO276
                       clear HO281
                       clear HO285
                       clear HO291
                       clear HO295
                       clear BK253
                       clear BK268
                       clear BK287
                       clear BK297
                       clear HB
                       clear h0_ h1_ h2_ h3_ h4_ h5_ h6_ h7_ h8_ h9_ h10_ h11_ h12_ h13_ h14_
                       have HO272 := n0_
                       have HO276 := n1_
                       have HO281 := n2_
                       have HO285 := n3_
                       have HO291 := n4_
                       have HO295 := n5_
                       have HO301 := n6_
                       have HO304 := n7_
                       have HO_269001 := n8_
                       have HO_8 := n9_
                       have BK253 := n10_
                       have BK268 := n11_
                       have BK287 := n12_
                       have BK297 := n13_
                       have HB := n14_
                       clear n0_ n1_ n2_ n3_ n4_ n5_ n6_ n7_ n8_ n9_ n10_ n11_ n12_ n13_ n14_
                       have hHeld : w97.cell? ⟨gb287, 0, none⟩ = some (.int .i64 t278) ∧ w97.cell? ⟨gb287, 1, none⟩ = some (.slice Ao80 t279.length co80) ∧ w97.cell? ⟨gb287, 2, none⟩ = some (.bool t282) ∧ w97.cell? ⟨gb297, 0, none⟩ = some (.int .i64 t288) ∧ w97.cell? ⟨gb297, 1, none⟩ = some (.slice Ao88 t289.length co88) ∧ w97.cell? ⟨gb297, 2, none⟩ = some (.bool t292) := hS_
                       obtain ⟨Ao98, co98, eo98⟩ := Kd.N_slice HO301.out
                       (first | subst eo98 | (injection eo98 with f1_ f2_ f3_; have f4_ := f1_.symm; have f5_ := f3_.symm; clear f1_ f2_ f3_; subst f4_; subst f5_))
                       obtain ⟨Ao99, co99, eo99⟩ := Kd.N_slice HO304.out
                       (first | subst eo99 | (injection eo99 with f1_ f2_ f3_; have f4_ := f1_.symm; have f5_ := f3_.symm; clear f1_ f2_ f3_; subst f4_; subst f5_))
                       refine norm_ (a' := ?_) ?_ ?_
                       rotate_left
                       ·
                        simp only [putAll, Act.put, List.setIfInBounds_toArray, List.set_cons_zero, List.set_cons_succ, c43b0, c43b1, c49b0, c49b1, c50b0, c50b1, c51b0, c51b1, c54b0, c54b1, c55b0, c55b1, c58b0, c58b1, c58b2]
                        rfl
                       refine one_ (i := 35) (N := some 155) #[true, true, true, true, true, true, true, true, true, true, true, true, true, true, true, true, true, true, true, true, true, true, true, true, true, true, true, true, true, true, true, true, true, true, true, true, false, false, false, false, false, false, false, false, false, false, false, false, false, false, false, false, false, false, false, false, false, false, false, false, false, false, false, false] rfl rfl (one_of HT_.out (by kernel_rfl)) (by decide) (fun K hK => ?_)
                       refine goes_ Try.func19 (by kernel_rfl) rfl #[.slice Ao98 y299.length co98, .slice Ao99 y302.length co99] (by rfl) rfl rfl (by (try simp only [List.map_toArray, List.map_cons, List.map_nil]); first | done | rfl | (simp only [List.length_drop, List.length_take]; rfl)) ?_
                       with_reducible refine (precentorref05_Same.calls kj11 _ _ y299 _ _ y302 true _ ?side1 ?side2 ?side3 ?side4 A56.out).mono ?_
                       (case side1 => repeat (first | exact (Kd.N_reads' HO301.out).2.2 | (with_reducible refine Kd.C_alloc ?_ _) | (with_reducible refine Kd.C_drewN ?_ _) | (with_reducible refine Kd.C_drew ?_)))
                       (case side2 => exact (Kd.N_reads' HO301.out).2.1)
                       (case side3 => repeat (first | exact (Kd.N_reads' HO304.out).2.2 | (with_reducible refine Kd.C_alloc ?_ _) | (with_reducible refine Kd.C_drewN ?_ _) | (with_reducible refine Kd.C_drew ?_)))
                       (case side4 => exact (Kd.N_reads' HO304.out).2.1)
                       rintro e w100 ⟨rfl, hb⟩
                       refine ⟨_, rfl, ?_⟩
                       have n0_ := Aside0.mk (Kd.V_below (by (with_reducible repeat (first | apply Kd.V_alloc | apply Kd.V_drewN | apply Kd.V_drew)); exact HO_8.out) hb)
                       have n1_ := Aside0.mk (Kd.V_below (by (with_reducible repeat (first | apply Kd.V_alloc | apply Kd.V_drewN | apply Kd.V_drew)); exact HO_269001.out) hb)
                       have n2_ := Aside0.mk (Kd.V_below (by (with_reducible repeat (first | apply Kd.V_alloc | apply Kd.V_drewN | apply Kd.V_drew)); exact HO272.out) hb)
                       have n3_ := Aside0.mk (Kd.V_below (by (with_reducible repeat (first | apply Kd.V_alloc | apply Kd.V_drewN | apply Kd.V_drew)); exact HO276.out) hb)
                       have n4_ := Aside0.mk (Kd.V_below (by (with_reducible repeat (first | apply Kd.V_alloc | apply Kd.V_drewN | apply Kd.V_drew)); exact HO281.out) hb)
                       have n5_ := Aside0.mk (Kd.V_below (by (with_reducible repeat (first | apply Kd.V_alloc | apply Kd.V_drewN | apply Kd.V_drew)); exact HO285.out) hb)
                       have n6_ := Aside0.mk (Kd.V_below (by (with_reducible repeat (first | apply Kd.V_alloc | apply Kd.V_drewN | apply Kd.V_drew)); exact HO291.out) hb)
                       have n7_ := Aside0.mk (Kd.V_below (by (with_reducible repeat (first | apply Kd.V_alloc | apply Kd.V_drewN | apply Kd.V_drew)); exact HO295.out) hb)
                       have n8_ := Aside0.mk (Kd.N_below (by (with_reducible repeat (first | apply Kd.N_alloc | apply Kd.N_drewN | apply Kd.N_drew)); exact HO301.out) hb)
                       have n9_ := Aside0.mk (Kd.N_below (by (with_reducible repeat (first | apply Kd.N_alloc | apply Kd.N_drewN | apply Kd.N_drew)); exact HO304.out) hb)
                       have n10_ := Aside0.mk (blk_below (g := gb253) (o := .cells #[.slice A0_0 l0_0.length c0_0, .int .i64 a0_1, .slice A0_2 l0_2.length c0_2, .int .u8 a0_3] 46 (0, 0)) (by (with_reducible repeat (first | refine blk_drewN ?_ _ | refine blk_drew ?_ | refine blk_alloc ?_ _)); exact BK253.out) hb)
                       have n11_ := Aside0.mk (blk_below (g := gb268) (o := .cells #[.int .i64 t259, .slice Ao19 t260.length co19, .bool t263] 29 (0, 0)) (by (with_reducible repeat (first | refine blk_drewN ?_ _ | refine blk_drew ?_ | refine blk_alloc ?_ _)); exact BK268.out) hb)
                       have n12_ := Aside0.mk (blk_below (g := gb287) (o := .cells #[.int .i64 t278, .slice Ao80 t279.length co80, .bool t282] 29 (0, 0)) (by (with_reducible repeat (first | refine blk_drewN ?_ _ | refine blk_drew ?_ | refine blk_alloc ?_ _)); exact BK287.out) hb)
                       have n13_ := Aside0.mk (blk_below (g := gb297) (o := .cells #[.int .i64 t288, .slice Ao88 t289.length co88, .bool t292] 29 (0, 0)) (by (with_reducible repeat (first | refine blk_drewN ?_ _ | refine blk_drew ?_ | refine blk_alloc ?_ _)); exact BK297.out) hb)
                       have n14_ := Aside0.mk (below_step (by repeat (first | (with_reducible first | exact HB.out | apply below_alloc | apply pw_below_drewN | apply below_drew1 | refine below_set ?_ GE253.out | refine below_set ?_ GE268.out | refine below_set ?_ GE287.out | refine below_set ?_ GE297.out) | exact HB.out)) hb)
                       clear HO_8
                       clear HO_269001
                       clear HO272
                       clear HO276
                       clear HO281
                       clear HO285
                       clear HO291
                       clear HO295
                       clear HO301
                       clear HO304
                       clear BK253
                       clear BK268
                       clear BK287
                       clear BK297
                       clear HB
                       have HO_8 := n0_
                       have HO_269001 := n1_
                       have HO272 := n2_
                       have HO276 := n3_
                       have HO281 := n4_
                       have HO285 := n5_
                       have HO291 := n6_
                       have HO295 := n7_
                       have HO301 := n8_
                       have HO304 := n9_
                       have BK253 := n10_
                       have BK268 := n11_
                       have BK287 := n12_
                       have BK297 := n13_
                       have HB := n14_
                       clear n0_ n1_ n2_ n3_ n4_ n5_ n6_ n7_ n8_ n9_ n10_ n11_ n12_ n13_ n14_
                       (try clear hb)
                       (try clear hb2)
                       (try clear hk)
                       (try clear hi)
                       obtain ⟨Ao101, co101, eo101⟩ := Kd.V_slice HO295.out
                       (first | subst eo101 | (injection eo101 with f1_ f2_ f3_; have f4_ := f1_.symm; have f5_ := f3_.symm; clear f1_ f2_ f3_; subst f4_; subst f5_))
                       have q102 : ((ji59) : Int) ≤ ((t293.length : Int) : Int) := of_decide_eq_true (by first | (with_reducible assumption) | assumption)
                       obtain ⟨i0102, hi0102, _, hsz102, _⟩ := info_parts info29
                       have hroom102 : t293.length ≤ co101 := (Kd.V_reads' HO295.out).2.1
                       have hC102 : Kd.F k29 _ _ Ao101 t293.length t293 := (Kd.V_at (base := w.heap.size) HO295.out).2.2
                       have hcut102 := cut_to (P := Try.prog) 22 29 .i64 Try.underlying22 hi0102 Ao101 t293.length co101 (ji59) (of_decide_eq_true (by first | (with_reducible assumption) | assumption)) q102 hroom102
                       have hr102 := Kd.F_take (m := ((ji59) : Int).toNat) hC102 (by omega)
                       have hy102 : y306.length = ((ji59) : Int).toNat := (by rw [Ny306.out, List.length_take]; omega)
                       rw [← Ny306.out] at hr102
                       rw [← hy102] at hcut102
                       have HO310 := Aside0.mk (show Kd.V k29 29 _ w.heap.size _ (.slice Ao101 y306.length co101) y306 from Kd.V_mk (by omega) hr102)
                       have HC310 := Aside0.mk (show y306.length ≤ co101 from by omega)
                       clear hr102 hC102 hroom102 hi0102 hsz102
                       have KY102 := Aside0.mk hy102
                       clear hy102
                       replace q102 := eq_true q102
                       have q103 : ((ji59) : Int) ≤ ((t256.length : Int) : Int) := of_decide_eq_true (by first | (with_reducible assumption) | assumption)
                       obtain ⟨i0103, hi0103, _, hsz103, _⟩ := info_parts info29
                       have hroom103 : t256.length ≤ co14 := (Kd.V_reads' HO_8.out).2.1
                       have hC103 : Kd.F k29 _ _ Ao14 t256.length t256 := (Kd.V_at (base := w.heap.size) HO_8.out).2.2
                       have hcut103 := cut_to (P := Try.prog) 22 29 .i64 Try.underlying22 hi0103 Ao14 t256.length co14 (ji59) (of_decide_eq_true (by first | (with_reducible assumption) | assumption)) q103 hroom103
                       have hr103 := Kd.F_take (m := ((ji59) : Int).toNat) hC103 (by omega)
                       have hy103 : y311.length = ((ji59) : Int).toNat := (by rw [Ny311.out, List.length_take]; omega)
                       rw [← Ny311.out] at hr103
                       rw [← hy103] at hcut103
                       have HO315 := Aside0.mk (show Kd.V k29 29 _ w.heap.size _ (.slice Ao14 y311.length co14) y311 from Kd.V_mk (by omega) hr103)
                       have HC315 := Aside0.mk (show y311.length ≤ co14 from by omega)
                       clear hr103 hC103 hroom103 hi0103 hsz103
                       have KY103 := Aside0.mk hy103
                       clear hy103
                       replace q103 := eq_true q103
                       refine hK.out _ _ ⟨(blk_cell BK287.out 0).trans rfl, (blk_cell BK287.out 1).trans rfl, (blk_cell BK287.out 2).trans rfl, (blk_cell BK297.out 0).trans rfl, (blk_cell BK297.out 1).trans rfl, (blk_cell BK297.out 2).trans rfl⟩ (fun hHeld => ?_)
                       clear hK K
                       refine norm_ (a' := ?_) ?_ ?_
                       rotate_left
                       ·
                        show Act.put _ (some 155) _ = _
                        simp only [Act.put, List.setIfInBounds_toArray, List.set_cons_zero, List.set_cons_succ, i64_w, i32_w]
                        rfl
                       refine pure_ (i := 36) (N := some 156) (v := ?_) (a' := ?_) #[true, true, true, true, true, true, true, true, true, true, true, true, true, true, true, true, true, true, true, true, true, true, true, true, true, true, true, true, true, true, true, true, true, true, true, true, true, false, false, false, false, false, false, false, false, false, false, false, false, false, false, false, false, false, false, false, false, false, false, false, false, false, false, false] rfl rfl (any_of HT_.out (by kernel_rfl)) (fun _ _ _ h => h) (Or.inl ⟨by rfl, ?_⟩) ?_ ?_
                       rotate_left
                       ·
                        intro w'
                        go_simp
                        with_reducible rfl
                       rotate_left
                       ·
                        simp only [Act.put, List.setIfInBounds_toArray, List.set_cons_zero, List.set_cons_succ, i64_w, i32_w]
                        rfl
                       refine pure_ (i := 37) (N := some 157) (v := ?_) (a' := ?_) #[true, true, true, true, true, true, true, true, true, true, true, true, true, true, true, true, true, true, true, true, true, true, true, true, true, true, true, true, true, true, true, true, true, true, true, true, true, true, false, false, false, false, false, false, false, false, false, false, false, false, false, false, false, false, false, false, false, false, false, false, false, false, false, false] rfl rfl (any_of HT_.out (by kernel_rfl)) (fun _ _ _ h => h) (Or.inl ⟨by rfl, ?_⟩) ?_ ?_
                       rotate_left
                       ·
                        intro w'
                        go_simp
                        with_reducible rfl
                       rotate_left
                       ·
                        simp only [Act.put, List.setIfInBounds_toArray, List.set_cons_zero, List.set_cons_succ, i64_w, i32_w]
                        rfl
                       refine pure_ (i := 38) (N := some 158) (v := ?_) (a' := ?_) #[true, true, true, true, true, true, true, true, true, true, true, true, true, true, true, true, true, true, true, true, true, true, true, true, true, true, true, true, true, true, true, true, true, true, true, true, true, true, true, false, false, false, false, false, false, false, false, false, false, false, false, false, false, false, false, false, false, false, false, false, false, false, false, false] rfl rfl (any_of HT_.out (by kernel_rfl)) (fun _ _ _ h => h) (Or.inl ⟨by rfl, ?_⟩) ?_ ?_
                       rotate_left
                       ·
                        intro w'
                        go_simp
                        with_reducible rfl
                       rotate_left
                       ·
                        simp only [Act.put, List.setIfInBounds_toArray, List.set_cons_zero, List.set_cons_succ, i64_w, i32_w]
                        rfl
                       refine pure_ (i := 39) (N := some 159) (v := ?_) (a' := ?_) #[true, true, true, true, true, true, true, true, true, true, true, true, true, true, true, true, true, true, true, true, true, true, true, true, true, true, true, true, true, true, true, true, true, true, true, true, true, true, true, true, false, false, false, false, false, false, false, false, false, false, false, false, false, false, false, false, false, false, false, false, false, false, false, false] rfl rfl (any_of HT_.out (by kernel_rfl)) (fun _ _ _ h => h) (Or.inl ⟨by rfl, ?_⟩) ?_ ?_
                       rotate_left
                       ·
                        intro w'
                        go_simp
                        with_reducible rfl
                       rotate_left
                       ·
                        simp only [Act.put, List.setIfInBounds_toArray, List.set_cons_zero, List.set_cons_succ, i64_w, i32_w]
                        rfl
                       refine pure_ (i := 40) (N := some 160) (v := ?_) (a' := ?_) #[true, true, true, true, true, true, true, true, true, true, true, true, true, true, true, true, true, true, true, true, true, true, true, true, true, true, true, true, true, true, true, true, true, true, true, true, true, true, true, true, true, false, false, false, false, false, false, false, false, false, false, false, false, false, false, false, false, false, false, false, false, false, false, false] rfl rfl (any_of HT_.out (by kernel_rfl)) (fun _ _ _ h => h) (Or.inl ⟨by rfl, ?_⟩) ?_ ?_
                       rotate_left
                       ·
                        intro w'
                        go_simp
                        with_reducible rfl
                       rotate_left
                       ·
                        simp only [Act.put, List.setIfInBounds_toArray, List.set_cons_zero, List.set_cons_succ, i64_w, i32_w]
                        rfl
                       refine pure_ (i := 41) (N := some 161) (v := ?_) (a' := ?_) #[true, true, true, true, true, true, true, true, true, true, true, true, true, true, true, true, true, true, true, true, true, true, true, true, true, true, true, true, true, true, true, true, true, true, true, true, true, true, true, true, true, true, false, false, false, false, false, false, false, false, false, false, false, false, false, false, false, false, false, false, false, false, false, false] rfl rfl (any_of HT_.out (by kernel_rfl)) (fun _ _ _ h => h) (Or.inl ⟨by rfl, ?_⟩) ?_ ?_
                       rotate_left
                       ·
                        intro w'
                        go_simp
                        with_reducible rfl
                       rotate_left
                       ·
                        simp only [Act.put, List.setIfInBounds_toArray, List.set_cons_zero, List.set_cons_succ, i64_w, i32_w]
                        rfl
                       refine pure_ (i := 42) (N := some 162) (v := ?_) (a' := ?_) #[true, true, true, true, true, true, true, true, true, true, true, true, true, true, true, true, true, true, true, true, true, true, true, true, true, true, true, true, true, true, true, true, true, true, true, true, true, true, true, true, true, true, true, false, false, false, false, false, false, false, false, false, false, false, false, false, false, false, false, false, false, false, false, false] rfl rfl (any_of HT_.out (by kernel_rfl)) (fun _ _ _ h => h) (Or.inl ⟨by rfl, ?_⟩) ?_ ?_
                       rotate_left
                       ·
                        intro w'
                        go_simp
                        with_reducible rfl
                       rotate_left
                       ·
                        simp only [Act.put, List.setIfInBounds_toArray, List.set_cons_zero, List.set_cons_succ, i64_w, i32_w]
                        rfl
                       refine pure_ (i := 43) (N := some 163) (v := ?_) (a' := ?_) #[true, true, true, true, true, true, true, true, true, true, true, true, true, true, true, true, true, true, true, true, true, true, true, true, true, true, true, true, true, true, true, true, true, true, true, true, true, true, true, true, true, true, true, true, false, false, false, false, false, false, false, false, false, false, false, false, false, false, false, false, false, false, false, false] rfl rfl (any_of HT_.out (by kernel_rfl)) (fun _ _ _ h => h) (Or.inl ⟨by rfl, ?_⟩) ?_ ?_
                       rotate_left
                       ·
                        intro w'
                        go_simp
                        with_reducible rfl
                       rotate_left
                       ·
                        simp only [Act.put, List.setIfInBounds_toArray, List.set_cons_zero, List.set_cons_succ, i64_w, i32_w]
                        rfl
                       refine pure_ (i := 44) (N := some 164) (v := ?_) (a' := ?_) #[true, true, true, true, true, true, true, true, true, true, true, true, true, true, true, true, true, true, true, true, true, true, true, true, true, true, true, true, true, true, true, true, true, true, true, true, true, true, true, true, true, true, true, true, true, false, false, false, false, false, false, false, false, false, false, false, false, false, false, false, false, false, false, false] rfl rfl (any_of HT_.out (by kernel_rfl)) (fun _ _ _ h => h) (Or.inl ⟨by rfl, ?_⟩) ?_ ?_
                       rotate_left
                       ·
                        intro w'
                        go_simp
                        with_reducible rfl
                       rotate_left
                       ·
                        simp only [Act.put, List.setIfInBounds_toArray, List.set_cons_zero, List.set_cons_succ, i64_w, i32_w]
                        rfl
                       refine pure_ (i := 45) (N := some 165) (v := ?_) (a' := ?_) #[true, true, true, true, true, true, true, true, true, true, true, true, true, true, true, true, true, true, true, true, true, true, true, true, true, true, true, true, true, true, true, true, true, true, true, true, true, true, true, true, true, true, true, true, true, true, false, false, false, false, false, false, false, false, false, false, false, false, false, false, false, false, false, false] rfl rfl (any_of HT_.out (by kernel_rfl)) (fun _ _ _ h => h) (Or.inl ⟨by rfl, ?_⟩) ?_ ?_
                       rotate_left
                       ·
                        intro w'
                        go_simp
                        with_reducible rfl
                       rotate_left
                       ·
                        simp only [Act.put, List.setIfInBounds_toArray, List.set_cons_zero, List.set_cons_succ, i64_w, i32_w]
                        rfl
                       refine pure_ (i := 46) (N := some 166) (v := ?_) (a' := ?_) #[true, true, true, true, true, true, true, true, true, true, true, true, true, true, true, true, true, true, true, true, true, true, true, true, true, true, true, true, true, true, true, true, true, true, true, true, true, true, true, true, true, true, true, true, true, true, true, false, false, false, false, false, false, false, false, false, false, false, false, false, false, false, false, false] rfl rfl (any_of HT_.out (by kernel_rfl)) (fun _ _ _ h => h) (Or.inl ⟨by rfl, ?_⟩) ?_ ?_
                       rotate_left
                       ·
                        intro w'
                        go_simp
                        with_reducible rfl
                       rotate_left
                       ·
                        simp only [Act.put, List.setIfInBounds_toArray, List.set_cons_zero, List.set_cons_succ, i64_w, i32_w]
                        rfl
                       refine pure_ (i := 47) (N := some 167) (v := ?_) (a' := ?_) #[true, true, true, true, true, true, true, true, true, true, true, true, true, true, true, true, true, true, true, true, true, true, true, true, true, true, true, true, true, true, true, true, true, true, true, true, true, true, true, true, true, true, true, true, true, true, true, true, false, false, false, false, false, false, false, false, false, false, false, false, false, false, false, false] rfl rfl (any_of HT_.out (by kernel_rfl)) (fun _ _ _ h => h) (Or.inl ⟨by rfl, ?_⟩) ?_ ?_
                       rotate_left
                       ·
                        intro w'
                        go_simp
                        with_reducible rfl
                       rotate_left
                       ·
                        simp only [Act.put, List.setIfInBounds_toArray, List.set_cons_zero, List.set_cons_succ, i64_w, i32_w]
                        rfl
                       refine pure_ (i := 48) (N := some 168) (v := ?_) (a' := ?_) #[true, true, true, true, true, true, true, true, true, true, true, true, true, true, true, true, true, true, true, true, true, true, true, true, true, true, true, true, true, true, true, true, true, true, true, true, true, true, true, true, true, true, true, true, true, true, true, true, true, false, false, false, false, false, false, false, false, false, false, false, false, false, false, false] rfl rfl (any_of HT_.out (by kernel_rfl)) (fun _ _ _ h => h) (Or.inl ⟨by rfl, ?_⟩) ?_ ?_
                       rotate_left
                       ·
                        intro w'
                        go_simp
                        with_reducible rfl
                       rotate_left
                       ·
                        simp only [Act.put, List.setIfInBounds_toArray, List.set_cons_zero, List.set_cons_succ, i64_w, i32_w]
                        rfl
                       refine pure_ (i := 49) (N := some 169) (v := ?_) (a' := ?_) #[true, true, true, true, true, true, true, true, true, true, true, true, true, true, true, true, true, true, true, true, true, true, true, true, true, true, true, true, true, true, true, true, true, true, true, true, true, true, true, true, true, true, true, true, true, true, true, true, true, true, false, false, false, false, false, false, false, false, false, false, false, false, false, false] rfl rfl (any_of HT_.out (by kernel_rfl)) (fun _ _ _ h => h) (Or.inl ⟨by rfl, ?_⟩) ?_ ?_
                       rotate_left
                       ·
                        intro w'
                        go_simp
                        with_reducible rfl
                       rotate_left
                       ·
                        simp only [Act.put, List.setIfInBounds_toArray, List.set_cons_zero, List.set_cons_succ, i64_w, i32_w]
                        rfl
                       refine pure_ (i := 50) (N := some 170) (v := ?_) (a' := ?_) #[true, true, true, true, true, true, true, true, true, true, true, true, true, true, true, true, true, true, true, true, true, true, true, true, true, true, true, true, true, true, true, true, true, true, true, true, true, true, true, true, true, true, true, true, true, true, true, true, true, true, true, false, false, false, false, false, false, false, false, false, false, false, false, false] rfl rfl (any_of HT_.out (by kernel_rfl)) (fun _ _ _ h => h) (Or.inl ⟨by rfl, ?_⟩) ?_ ?_
                       rotate_left
                       ·
                        intro w'
                        go_simp
                        with_reducible rfl
                       rotate_left
                       ·
                        simp only [Act.put, List.setIfInBounds_toArray, List.set_cons_zero, List.set_cons_succ, i64_w, i32_w]
                        rfl
                       refine one_ (i := 51) (N := some 171) #[true, true, true, true, true, true, true, true, true, true, true, true, true, true, true, true, true, true, true, true, true, true, true, true, true, true, true, true, true, true, true, true, true, true, true, true, true, true, true, true, true, true, true, true, true, true, true, true, true, true, true, true, false, false, false, false, false, false, false, false, false, false, false, false] rfl rfl (one_of HT_.out (by kernel_rfl)) (by decide) (fun K hK => ?_)
                       refine goes_ Try.func19 (by kernel_rfl) rfl #[.slice Ao101 y306.length co101, .slice Ao14 y311.length co14] (by rfl) rfl rfl (by (try simp only [List.map_toArray, List.map_cons, List.map_nil]); first | done | rfl | (simp only [List.length_drop, List.length_take]; rfl)) ?_
                       with_reducible refine (precentorref05_Same.calls kj11 _ _ y306 _ _ y311 true _ ?side1 ?side2 ?side3 ?side4 A64.out).mono ?_
                       (case side1 => repeat (first | exact (Kd.V_reads' HO310.out).2.2 | (with_reducible refine Kd.C_alloc ?_ _) | (with_reducible refine Kd.C_drewN ?_ _) | (with_reducible refine Kd.C_drew ?_)))
                       (case side2 => exact (Kd.V_reads' HO310.out).2.1)
                       (case side3 => repeat (first | exact (Kd.V_reads' HO315.out).2.2 | (with_reducible refine Kd.C_alloc ?_ _) | (with_reducible refine Kd.C_drewN ?_ _) | (with_reducible refine Kd.C_drew ?_)))
                       (case side4 => exact (Kd.V_reads' HO315.out).2.1)
                       rintro e w104 ⟨rfl, hb⟩
                       refine ⟨_, rfl, ?_⟩
                       have n0_ := Aside0.mk (Kd.V_below (by (with_reducible repeat (first | apply Kd.V_alloc | apply Kd.V_drewN | apply Kd.V_drew)); exact HO_8.out) hb)
                       have n1_ := Aside0.mk (Kd.V_below (by (with_reducible repeat (first | apply Kd.V_alloc | apply Kd.V_drewN | apply Kd.V_drew)); exact HO_269001.out) hb)
                       have n2_ := Aside0.mk (Kd.V_below (by (with_reducible repeat (first | apply Kd.V_alloc | apply Kd.V_drewN | apply Kd.V_drew)); exact HO272.out) hb)
                       have n3_ := Aside0.mk (Kd.V_below (by (with_reducible repeat (first | apply Kd.V_alloc | apply Kd.V_drewN | apply Kd.V_drew)); exact HO276.out) hb)
                       have n4_ := Aside0.mk (Kd.V_below (by (with_reducible repeat (first | apply Kd.V_alloc | apply Kd.V_drewN | apply Kd.V_drew)); exact HO281.out) hb)
                       have n5_ := Aside0.mk (Kd.V_below (by (with_reducible repeat (first | apply Kd.V_alloc | apply Kd.V_drewN | apply Kd.V_drew)); exact HO285.out) hb)
                       have n6_ := Aside0.mk (Kd.V_below (by (with_reducible repeat (first | apply Kd.V_alloc | apply Kd.V_drewN | apply Kd.V_drew)); exact HO291.out) hb)
                       have n7_ := Aside0.mk (Kd.V_below (by (with_reducible repeat (first | apply Kd.V_alloc | apply Kd.V_drewN | apply Kd.V_drew)); exact HO295.out) hb)
                       have n8_ := Aside0.mk (Kd.N_below (by (with_reducible repeat (first | apply Kd.N_alloc | apply Kd.N_drewN | apply Kd.N_drew)); exact HO301.out) hb)
                       have n9_ := Aside0.mk (Kd.N_below (by (with_reducible repeat (first | apply Kd.N_alloc | apply Kd.N_drewN | apply Kd.N_drew)); exact HO304.out) hb)
                       have n10_ := Aside0.mk (Kd.V_below (by (with_reducible repeat (first | apply Kd.V_alloc | apply Kd.V_drewN | apply Kd.V_drew)); exact HO310.out) hb)
                       have n11_ := Aside0.mk (Kd.V_below (by (with_reducible repeat (first | apply Kd.V_alloc | apply Kd.V_drewN | apply Kd.V_drew)); exact HO315.out) hb)
                       have n12_ := Aside0.mk (blk_below (g := gb253) (o := .cells #[.slice A0_0 l0_0.length c0_0, .int .i64 a0_1, .slice A0_2 l0_2.length c0_2, .int .u8 a0_3] 46 (0, 0)) (by (with_reducible repeat (first | refine blk_drewN ?_ _ | refine blk_drew ?_ | refine blk_alloc ?_ _)); exact BK253.out) hb)
                       have n13_ := Aside0.mk (blk_below (g := gb268) (o := .cells #[.int .i64 t259, .slice Ao19 t260.length co19, .bool t263] 29 (0, 0)) (by (with_reducible repeat (first | refine blk_drewN ?_ _ | refine blk_drew ?_ | refine blk_alloc ?_ _)); exact BK268.out) hb)
                       have n14_ := Aside0.mk (blk_below (g := gb287) (o := .cells #[.int .i64 t278, .slice Ao80 t279.length co80, .bool t282] 29 (0, 0)) (by (with_reducible repeat (first | refine blk_drewN ?_ _ | refine blk_drew ?_ | refine blk_alloc ?_ _)); exact BK287.out) hb)
                       have n15_ := Aside0.mk (blk_below (g := gb297) (o := .cells #[.int .i64 t288, .slice Ao88 t289.length co88, .bool t292] 29 (0, 0)) (by (with_reducible repeat (first | refine blk_drewN ?_ _ | refine blk_drew ?_ | refine blk_alloc ?_ _)); exact BK297.out) hb)
                       have n16_ := Aside0.mk (below_step (by repeat (first | (with_reducible first | exact HB.out | apply below_alloc | apply pw_below_drewN | apply below_drew1 | refine below_set ?_ GE253.out | refine below_set ?_ GE268.out | refine below_set ?_ GE287.out | refine below_set ?_ GE297.out) | exact HB.out)) hb)
                       clear HO_8
                       clear HO_269001
                       clear HO272
                       clear HO276
                       clear HO281
                       clear HO285
                       clear HO291
                       clear HO295
                       clear HO301
                       clear HO304
                       clear HO310
                       clear HO315
                       clear BK253
                       clear BK268
                       clear BK287
                       clear BK297
                       clear HB
                       have HO_8 := n0_
                       have HO_269001 := n1_
                       have HO272 := n2_
                       have HO276 := n3_
                       have HO281 := n4_
                       have HO285 := n5_
                       have HO291 := n6_
                       have HO295 := n7_
                       have HO301 := n8_
                       have HO304 := n9_
                       have HO310 := n10_
                       have HO315 := n11_
                       have BK253 := n12_
                       have BK268 := n13_
                       have BK287 := n14_
                       have BK297 := n15_
                       have HB := n16_
                       clear n0_ n1_ n2_ n3_ n4_ n5_ n6_ n7_ n8_ n9_ n10_ n11_ n12_ n13_ n14_ n15_ n16_
                       (try clear hb)
                       (try clear hb2)
                       (try clear hk)
                       (try clear hi)
                       have q105 : ((ji59) : Int) ≤ ((t293.length : Int) : Int) := of_decide_eq_true (by first | (with_reducible assumption) | assumption)
                       obtain ⟨i0105, hi0105, _, hsz105, _⟩ := info_parts info29
                       have hroom105 : t293.length ≤ co101 := (Kd.V_reads' HO295.out).2.1
                       have hC105 : Kd.F k29 _ _ Ao101 t293.length t293 := (Kd.V_at (base := w.heap.size) HO295.out).2.2
                       have q0105 : (0 : Int) ≤ ((ji59) : Int) := of_decide_eq_true (by first | (with_reducible assumption) | assumption)
                       have hcut105 := cut_from (P := Try.prog) 22 29 .i64 Try.underlying22 hi0105 3 hsz105 Ao101 t293.length co101 (ji59) q0105 q105
                       have hr105 := Kd.F_cut (m := ((ji59) : Int).toNat) (c := co101) hC105 (by omega) hroom105
                       obtain ⟨A105, hA105⟩ : ∃ A1, A1 = (if co101 = ((ji59) : Int).toNat then Ao101 else (Ao101 : Option Addr).map (·.add (((ji59) : Int).toNat * 3))) := ⟨_, rfl⟩
                       obtain ⟨c105, hc105⟩ : ∃ c1, c1 = co101 - ((ji59) : Int).toNat := ⟨_, rfl⟩
                       have hy105 : y317.length = t293.length - ((ji59) : Int).toNat := (by rw [Ny317.out, List.length_drop] <;> omega)
                       rw [show (t293).drop ((ji59) : Int).toNat = y317 from Ny317.out.symm] at hr105
                       replace hr105 : Kd.F k29 _ _ A105 y317.length y317 := (by rw [hA105]; exact hr105)
                       rw [← hy105, ← hA105, ← hc105] at hcut105
                       have HO321 := Aside0.mk (show Kd.V k29 29 _ w.heap.size _ (.slice A105 y317.length c105) y317 from Kd.V_mk (by rw [hy105, hc105]; exact Nat.sub_le_sub_right hroom105 _) hr105)
                       have HC321 := Aside0.mk (show y317.length ≤ c105 from by rw [hy105, hc105]; exact Nat.sub_le_sub_right hroom105 _)
                       clear hr105 hC105 hroom105 hi0105 hsz105 hc105
                       have KY105 := Aside0.mk hy105
                       have KA105 := Aside0.mk hA105
                       clear hy105 hA105
                       replace q105 := eq_true q105
                       have q106 : ((ji68) : Int) ≤ ((t256.length : Int) : Int) := of_decide_eq_true (by first | (with_reducible assumption) | assumption)
                       obtain ⟨i0106, hi0106, _, hsz106, _⟩ := info_parts info29
                       have hroom106 : t256.length ≤ co14 := (Kd.V_reads' HO_8.out).2.1
                       have hC106 : Kd.F k29 _ _ Ao14 t256.length t256 := (Kd.V_at (base := w.heap.size) HO_8.out).2.2
                       have q0106 : (0 : Int) ≤ ((ji68) : Int) := of_decide_eq_true (by first | (with_reducible assumption) | assumption)
                       have hcut106 := cut_from (P := Try.prog) 22 29 .i64 Try.underlying22 hi0106 3 hsz106 Ao14 t256.length co14 (ji68) q0106 q106
                       have hr106 := Kd.F_cut (m := ((ji68) : Int).toNat) (c := co14) hC106 (by omega) hroom106
                       obtain ⟨A106, hA106⟩ : ∃ A1, A1 = (if co14 = ((ji68) : Int).toNat then Ao14 else (Ao14 : Option Addr).map (·.add (((ji68) : Int).toNat * 3))) := ⟨_, rfl⟩
                       obtain ⟨c106, hc106⟩ : ∃ c1, c1 = co14 - ((ji68) : Int).toNat := ⟨_, rfl⟩
                       have hy106 : y322.length = t256.length - ((ji68) : Int).toNat := (by rw [Ny322.out, List.length_drop] <;> omega)
                       rw [show (t256).drop ((ji68) : Int).toNat = y322 from Ny322.out.symm] at hr106
                       replace hr106 : Kd.F k29 _ _ A106 y322.length y322 := (by rw [hA106]; exact hr106)
                       rw [← hy106, ← hA106, ← hc106] at hcut106
                       have HO326 := Aside0.mk (show Kd.V k29 29 _ w.heap.size _ (.slice A106 y322.length c106) y322 from Kd.V_mk (by rw [hy106, hc106]; exact Nat.sub_le_sub_right hroom106 _) hr106)
                       have HC326 := Aside0.mk (show y322.length ≤ c106 from by rw [hy106, hc106]; exact Nat.sub_le_sub_right hroom106 _)
                       clear hr106 hC106 hroom106 hi0106 hsz106 hc106
                       have KY106 := Aside0.mk hy106
                       have KA106 := Aside0.mk hA106
                       clear hy106 hA106
                       replace q106 := eq_true q106
                       refine hK.out _ _ ⟨(blk_cell BK287.out 0).trans rfl, (blk_cell BK287.out 1).trans rfl, (blk_cell BK287.out 2).trans rfl, (blk_cell BK297.out 0).trans rfl, (blk_cell BK297.out 1).trans rfl, (blk_cell BK297.out 2).trans rfl⟩ (fun hHeld => ?_)
                       clear hK K
                       refine norm_ (a' := ?_) ?_ ?_
                       rotate_left
                       ·
                        show Act.put _ (some 171) _ = _
                        simp only [Act.put, List.setIfInBounds_toArray, List.set_cons_zero, List.set_cons_succ, i64_w, i32_w]
                        rfl
                       refine pure_ (i := 52) (N := some 172) (v := ?_) (a' := ?_) #[true, true, true, true, true, true, true, true, true, true, true, true, true, true, true, true, true, true, true, true, true, true, true, true, true, true, true, true, true, true, true, true, true, true, true, true, true, true, true, true, true, true, true, true, true, true, true, true, true, true, true, true, true, false, false, false, false, false, false, false, false, false, false, false] rfl rfl (any_of HT_.out (by kernel_rfl)) (fun _ _ _ h => h) (Or.inl ⟨by rfl, ?_⟩) ?_ ?_
                       rotate_left
                       ·
                        intro w'
                        go_simp
                        with_reducible rfl
                       rotate_left
                       ·
                        simp only [Act.put, List.setIfInBounds_toArray, List.set_cons_zero, List.set_cons_succ, i64_w, i32_w]
                        rfl
                       refine pure_ (i := 53) (N := some 173) (v := ?_) (a' := ?_) #[true, true, true, true, true, true, true, true, true, true, true, true, true, true, true, true, true, true, true, true, true, true, true, true, true, true, true, true, true, true, true, true, true, true, true, true, true, true, true, true, true, true, true, true, true, true, true, true, true, true, true, true, true, true, false, false, false, false, false, false, false, false, false, false] rfl rfl (any_of HT_.out (by kernel_rfl)) (fun _ _ _ h => h) (Or.inl ⟨by rfl, ?_⟩) ?_ ?_
                       rotate_left
                       ·
                        intro w'
                        go_simp
                        with_reducible rfl
                       rotate_left
                       ·
                        simp only [Act.put, List.setIfInBounds_toArray, List.set_cons_zero, List.set_cons_succ, i64_w, i32_w]
                        rfl
                       refine pure_ (i := 54) (N := some 174) (v := ?_) (a' := ?_) #[true, true, true, true, true, true, true, true, true, true, true, true, true, true, true, true, true, true, true, true, true, true, true, true, true, true, true, true, true, true, true, true, true, true, true, true, true, true, true, true, true, true, true, true, true, true, true, true, true, true, true, true, true, true, true, false, false, false, false, false, false, false, false, false] rfl rfl (any_of HT_.out (by kernel_rfl)) (fun _ _ _ h => h) (Or.inl ⟨by rfl, ?_⟩) ?_ ?_
                       rotate_left
                       ·
                        intro w'
                        go_simp
                        with_reducible rfl
                       rotate_left
                       ·
                        simp only [Act.put, List.setIfInBounds_toArray, List.set_cons_zero, List.set_cons_succ, i64_w, i32_w]
                        rfl
                       refine pure_ (i := 55) (N := some 175) (v := ?_) (a' := ?_) #[true, true, true, true, true, true, true, true, true, true, true, true, true, true, true, true, true, true, true, true, true, true, true, true, true, true, true, true, true, true, true, true, true, true, true, true, true, true, true, true, true, true, true, true, true, true, true, true, true, true, true, true, true, true, true, true, false, false, false, false, false, false, false, false] rfl rfl (any_of HT_.out (by kernel_rfl)) (fun _ _ _ h => h) (Or.inl ⟨by rfl, ?_⟩) ?_ ?_
                       rotate_left
                       ·
                        intro w'
                        go_simp
                        with_reducible rfl
                       rotate_left
                       ·
                        simp only [Act.put, List.setIfInBounds_toArray, List.set_cons_zero, List.set_cons_succ, i64_w, i32_w]
                        rfl
                       refine pure_ (i := 56) (N := some 176) (v := ?_) (a' := ?_) #[true, true, true, true, true, true, true, true, true, true, true, true, true, true, true, true, true, true, true, true, true, true, true, true, true, true, true, true, true, true, true, true, true, true, true, true, true, true, true, true, true, true, true, true, true, true, true, true, true, true, true, true, true, true, true, true, true, false, false, false, false, false, false, false] rfl rfl (any_of HT_.out (by kernel_rfl)) (fun _ _ _ h => h) (Or.inl ⟨by rfl, ?_⟩) ?_ ?_
                       rotate_left
                       ·
                        intro w'
                        go_simp
                        with_reducible rfl
                       rotate_left
                       ·
                        simp only [Act.put, List.setIfInBounds_toArray, List.set_cons_zero, List.set_cons_succ, i64_w, i32_w]
                        rfl
                       refine pure_ (i := 57) (N := some 177) (v := ?_) (a' := ?_) #[true, true, true, true, true, true, true, true, true, true, true, true, true, true, true, true, true, true, true, true, true, true, true, true, true, true, true, true, true, true, true, true, true, true, true, true, true, true, true, true, true, true, true, true, true, true, true, true, true, true, true, true, true, true, true, true, true, true, false, false, false, false, false, false] rfl rfl (any_of HT_.out (by kernel_rfl)) (fun _ _ _ h => h) (Or.inl ⟨by rfl, ?_⟩) ?_ ?_
                       rotate_left
                       ·
                        intro w'
                        go_simp
                        with_reducible rfl
                       rotate_left
                       ·
                        simp only [Act.put, List.setIfInBounds_toArray, List.set_cons_zero, List.set_cons_succ, i64_w, i32_w]
                        rfl
                       refine pure_ (i := 58) (N := some 178) (v := ?_) (a' := ?_) #[true, true, true, true, true, true, true, true, true, true, true, true, true, true, true, true, true, true, true, true, true, true, true, true, true, true, true, true, true, true, true, true, true, true, true, true, true, true, true, true, true, true, true, true, true, true, true, true, true, true, true, true, true, true, true, true, true, true, true, false, false, false, false, false] rfl rfl (any_of HT_.out (by kernel_rfl)) (fun _ _ _ h => h) (Or.inl ⟨by rfl, ?_⟩) ?_ ?_
                       rotate_left
                       ·
                        intro w'
                        go_simp
                        with_reducible rfl
                       rotate_left
                       ·
                        simp only [Act.put, List.setIfInBounds_toArray, List.set_cons_zero, List.set_cons_succ, i64_w, i32_w]
                        rfl
                       refine pure_ (i := 59) (N := some 179) (v := ?_) (a' := ?_) #[true, true, true, true, true, true, true, true, true, true, true, true, true, true, true, true, true, true, true, true, true, true, true, true, true, true, true, true, true, true, true, true, true, true, true, true, true, true, true, true, true, true, true, true, true, true, true, true, true, true, true, true, true, true, true, true, true, true, true, true, false, false, false, false] rfl rfl (any_of HT_.out (by kernel_rfl)) (fun _ _ _ h => h) (Or.inl ⟨by rfl, ?_⟩) ?_ ?_
                       rotate_left
                       ·
                        intro w'
                        go_simp
                        with_reducible rfl
                       rotate_left
                       ·
                        simp only [Act.put, List.setIfInBounds_toArray, List.set_cons_zero, List.set_cons_succ, i64_w, i32_w]
                        rfl
                       refine pure_ (i := 60) (N := some 180) (v := ?_) (a' := ?_) #[true, true, true, true, true, true, true, true, true, true, true, true, true, true, true, true, true, true, true, true, true, true, true, true, true, true, true, true, true, true, true, true, true, true, true, true, true, true, true, true, true, true, true, true, true, true, true, true, true, true, true, true, true, true, true, true, true, true, true, true, true, false, false, false] rfl rfl (any_of HT_.out (by kernel_rfl)) (fun _ _ _ h => h) (Or.inl ⟨by rfl, ?_⟩) ?_ ?_
                       rotate_left
                       ·
                        intro w'
                        go_simp
                        with_reducible rfl
                       rotate_left
                       ·
                        simp only [Act.put, List.setIfInBounds_toArray, List.set_cons_zero, List.set_cons_succ, i64_w, i32_w]
                        rfl
                       refine one_ (i := 61) (N := some 181) #[true, true, true, true, true, true, true, true, true, true, true, true, true, true, true, true, true, true, true, true, true, true, true, true, true, true, true, true, true, true, true, true, true, true, true, true, true, true, true, true, true, true, true, true, true, true, true, true, true, true, true, true, true, true, true, true, true, true, true, true, true, true, false, false] rfl rfl (one_of HT_.out (by kernel_rfl)) (by decide) (fun K hK => ?_)
                       refine goes_ Try.func19 (by kernel_rfl) rfl #[.slice A105 y317.length c105, .slice A106 y322.length c106] (by rfl) rfl rfl (by (try simp only [List.map_toArray, List.map_cons, List.map_nil]); first | done | rfl | (simp only [List.length_drop, List.length_take]; rfl)) ?_
                       with_reducible refine (precentorref05_Same.calls kj11 _ _ y317 _ _ y322 t327 _ ?side1 ?side2 ?side3 ?side4 A71.out).mono ?_
                       (case side1 => repeat (first | exact (Kd.V_reads' HO321.out).2.2 | (with_reducible refine Kd.C_alloc ?_ _) | (with_reducible refine Kd.C_drewN ?_ _) | (with_reducible refine Kd.C_drew ?_)))
                       (case side2 => exact (Kd.V_reads' HO321.out).2.1)
                       (case side3 => repeat (first | exact (Kd.V_reads' HO326.out).2.2 | (with_reducible refine Kd.C_alloc ?_ _) | (with_reducible refine Kd.C_drewN ?_ _) | (with_reducible refine Kd.C_drew ?_)))
                       (case side4 => exact (Kd.V_reads' HO326.out).2.1)
                       rintro e w107 ⟨rfl, hb⟩
                       refine ⟨_, rfl, ?_⟩
                       have n0_ := Aside0.mk (Kd.V_below (by (with_reducible repeat (first | apply Kd.V_alloc | apply Kd.V_drewN | apply Kd.V_drew)); exact HO_8.out) hb)
                       have n1_ := Aside0.mk (Kd.V_below (by (with_reducible repeat (first | apply Kd.V_alloc | apply Kd.V_drewN | apply Kd.V_drew)); exact HO_269001.out) hb)
                       have n2_ := Aside0.mk (Kd.V_below (by (with_reducible repeat (first | apply Kd.V_alloc | apply Kd.V_drewN | apply Kd.V_drew)); exact HO272.out) hb)
                       have n3_ := Aside0.mk (Kd.V_below (by (with_reducible repeat (first | apply Kd.V_alloc | apply Kd.V_drewN | apply Kd.V_drew)); exact HO276.out) hb)
                       have n4_ := Aside0.mk (Kd.V_below (by (with_reducible repeat (first | apply Kd.V_alloc | apply Kd.V_drewN | apply Kd.V_drew)); exact HO281.out) hb)
                       have n5_ := Aside0.mk (Kd.V_below (by (with_reducible repeat (first | apply Kd.V_alloc | apply Kd.V_drewN | apply Kd.V_drew)); exact HO285.out) hb)
                       have n6_ := Aside0.mk (Kd.V_below (by (with_reducible repeat (first | apply Kd.V_alloc | apply Kd.V_drewN | apply Kd.V_drew)); exact HO291.out) hb)
                       have n7_ := Aside0.mk (Kd.V_below (by (with_reducible repeat (first | apply Kd.V_alloc | apply Kd.V_drewN | apply Kd.V_drew)); exact HO295.out) hb)
                       have n8_ := Aside0.mk (Kd.N_below (by (with_reducible repeat (first | apply Kd.N_alloc | apply Kd.N_drewN | apply Kd.N_drew)); exact HO301.out) hb)
                       have n9_ := Aside0.mk (Kd.N_below (by (with_reducible repeat (first | apply Kd.N_alloc | apply Kd.N_drewN | apply Kd.N_drew)); exact HO304.out) hb)
                       have n10_ := Aside0.mk (Kd.V_below (by (with_reducible repeat (first | apply Kd.V_alloc | apply Kd.V_drewN | apply Kd.V_drew)); exact HO310.out) hb)
                       have n11_ := Aside0.mk (Kd.V_below (by (with_reducible repeat (first | apply Kd.V_alloc | apply Kd.V_drewN | apply Kd.V_drew)); exact HO315.out) hb)
                       have n12_ := Aside0.mk (Kd.V_below (by (with_reducible repeat (first | apply Kd.V_alloc | apply Kd.V_drewN | apply Kd.V_drew)); exact HO321.out) hb)
                       have n13_ := Aside0.mk (Kd.V_below (by (with_reducible repeat (first | apply Kd.V_alloc | apply Kd.V_drewN | apply Kd.V_drew)); exact HO326.out) hb)
                       have n14_ := Aside0.mk (blk_below (g := gb253) (o := .cells #[.slice A0_0 l0_0.length c0_0, .int .i64 a0_1, .slice A0_2 l0_2.length c0_2, .int .u8 a0_3] 46 (0, 0)) (by (with_reducible repeat (first | refine blk_drewN ?_ _ | refine blk_drew ?_ | refine blk_alloc ?_ _)); exact BK253.out) hb)
                       have n15_ := Aside0.mk (blk_below (g := gb268) (o := .cells #[.int .i64 t259, .slice Ao19 t260.length co19, .bool t263] 29 (0, 0)) (by (with_reducible repeat (first | refine blk_drewN ?_ _ | refine blk_drew ?_ | refine blk_alloc ?_ _)); exact BK268.out) hb)
                       have n16_ := Aside0.mk (blk_below (g := gb287) (o := .cells #[.int .i64 t278, .slice Ao80 t279.length co80, .bool t282] 29 (0, 0)) (by (with_reducible repeat (first | refine blk_drewN ?_ _ | refine blk_drew ?_ | refine blk_alloc ?_ _)); exact BK287.out) hb)
                       have n17_ := Aside0.mk (blk_below (g := gb297) (o := .cells #[.int .i64 t288, .slice Ao88 t289.length co88, .bool t292] 29 (0, 0)) (by (with_reducible repeat (first | refine blk_drewN ?_ _ | refine blk_drew ?_ | refine blk_alloc ?_ _)); exact BK297.out) hb)
                       have n18_ := Aside0.mk (below_step (by repeat (first | (with_reducible first | exact HB.out | apply below_alloc | apply pw_below_drewN | apply below_drew1 | refine below_set ?_ GE253.out | refine below_set ?_ GE268.out | refine below_set ?_ GE287.out | refine below_set ?_ GE297.out) | exact HB.out)) hb)
                       clear HO_8
                       clear HO_269001
                       clear HO272
                       clear HO276
                       clear HO281
                       clear HO285
                       clear HO291
                       clear HO295
                       clear HO301
                       clear HO304
                       clear HO310
                       clear HO315
                       clear HO321
                       clear HO326
                       clear BK253
                       clear BK268
                       clear BK287
                       clear BK297
                       clear HB
                       have HO_8 := n0_
                       have HO_269001 := n1_
                       have HO272 := n2_
                       have HO276 := n3_
                       have HO281 := n4_
                       have HO285 := n5_
                       have HO291 := n6_
                       have HO295 := n7_
                       have HO301 := n8_
                       have HO304 := n9_
                       have HO310 := n10_
                       have HO315 := n11_
                       have HO321 := n12_
                       have HO326 := n13_
                       have BK253 := n14_
                       have BK268 := n15_
                       have BK287 := n16_
                       have BK297 := n17_
                       have HB := n18_
                       clear n0_ n1_ n2_ n3_ n4_ n5_ n6_ n7_ n8_ n9_ n10_ n11_ n12_ n13_ n14_ n15_ n16_ n17_ n18_
                       (try clear hb)
                       (try clear hb2)
                       (try clear hk)
                       (try clear hi)
                       refine hK.out _ _ ⟨(blk_cell BK287.out 0).trans rfl, (blk_cell BK287.out 1).trans rfl, (blk_cell BK287.out 2).trans rfl, (blk_cell BK297.out 0).trans rfl, (blk_cell BK297.out 1).trans rfl, (blk_cell BK297.out 2).trans rfl⟩ (fun hHeld => ?_)
                       clear hK K
                       refine norm_ (a' := ?_) ?_ ?_
                       rotate_left
                       ·
                        show Act.put _ (some 181) _ = _
                        simp only [Act.put, List.setIfInBounds_toArray, List.set_cons_zero, List.set_cons_succ, i64_w, i32_w]
                        rfl
                       refine pure_ (i := 62) (N := some 182) (v := ?_) (a' := ?_) #[true, true, true, true, true, true, true, true, true, true, true, true, true, true, true, true, true, true, true, true, true, true, true, true, true, true, true, true, true, true, true, true, true, true, true, true, true, true, true, true, true, true, true, true, true, true, true, true, true, true, true, true, true, true, true, true, true, true, true, true, true, true, true, false] rfl rfl (any_of HT_.out (by kernel_rfl)) (fun _ _ _ h => h) (Or.inl ⟨by rfl, ?_⟩) ?_ ?_
                       rotate_left
                       ·
                        intro w'
                        go_simp
                        with_reducible rfl
                       rotate_left
                       ·
                        simp only [Act.put, List.setIfInBounds_toArray, List.set_cons_zero, List.set_cons_succ, i64_w, i32_w]
                        rfl
                       refine pure_ (i := 63) (N := some 2) (v := ?_) (a' := ?_) #[true, true, true, true, true, true, true, true, true, true, true, true, true, true, true, true, true, true, true, true, true, true, true, true, true, true, true, true, true, true, true, true, true, true, true, true, true, true, true, true, true, true, true, true, true, true, true, true, true, true, true, true, true, true, true, true, true, true, true, true, true, true, true, true] rfl rfl (any_of HT_.out (by kernel_rfl)) (fun _ _ _ h => h) (Or.inl ⟨by rfl, ?_⟩) ?_ ?_
                       rotate_left
                       ·
                        intro w'
                        go_simp
                        with_reducible rfl
                       rotate_left
                       ·
                        simp only [Act.put, List.setIfInBounds_toArray, List.set_cons_zero, List.set_cons_succ, i64_w, i32_w]
                        rfl
                       refine done_ (done_of HT_.out (by kernel_rfl)) ?_
                       try go_wp2
                       go_ret
                       exact ⟨by first | rfl | (simp [errW_none, errW_some] <;> rfl) | (simp only [← hji59, ← hji68]; first | rfl | (simp [errW_none, errW_some] <;> rfl)) | (simp [*, errW_none, errW_some] <;> rfl), by repeat (first | (with_reducible first | exact HB.out | apply below_alloc | apply pw_below_drewN | apply below_drew1 | refine below_set ?_ GE253.out | refine below_set ?_ GE268.out | refine below_set ?_ GE287.out | refine below_set ?_ GE297.out) | exact HB.out)⟩
                      ·
                       rw [if_neg c70] at H
                       exact absurd H (by simp)
                     ·
                      rw [if_neg c69] at H
                      exact absurd H (by simp)
                    ·
                     replace c65 := Bool.eq_false_iff.mpr c65
                     subst c65
                     have H1 : (none) = some r := by rw [if_neg (show ¬ (false = true) by decide)] at H; exact H
                     clear H
                     have H := H1
                     clear H1
                     exact absurd H (by simp)
                   ·
                    rw [if_neg c63] at H
                    exact absurd H (by simp)
                  ·
                   rw [if_neg c61] at H
                   exact absurd H (by simp)
                 ·
                  rw [if_neg c60] at H
                  exact absurd H (by simp)
                ·
                 rw [if_neg c58] at H
                 exact absurd H (by simp)
               ·
                replace c57 := Bool.eq_false_iff.mpr c57
                subst c57
                have H1 : (none) = some r := by rw [if_neg (show ¬ (false = true) by decide)] at H; exact H
                clear H
                have H := H1
                clear H1
                exact absurd H (by simp)
              ·
               rw [if_neg c55] at H
               exact absurd H (by simp)
             ·
              rw [if_neg c54] at H
              exact absurd H (by simp)
            ·
             replace c53 := Bool.eq_false_iff.mpr c53
             subst c53
             have H1 : (none) = some r := by rw [if_neg (show ¬ (false = true) by decide)] at H; exact H
             clear H
             have H := H1
             clear H1
             exact absurd H (by simp)
           ·
            rw [if_neg c51] at H
            exact absurd H (by simp)
          ·
           rw [if_neg c50] at H
           exact absurd H (by simp)
         ·
          rw [if_neg c49] at H
          exact absurd H (by simp)
        ·
         replace c48 := Bool.eq_false_iff.mpr c48
         subst c48
         have H1 : (none) = some r := by rw [if_neg (show ¬ (false = true) by decide)] at H; exact H
         clear H
         have H := H1
         clear H1
         exact absurd H (by simp)

end Go.Proofs.Ythmgaeecfhmenaa.Print
