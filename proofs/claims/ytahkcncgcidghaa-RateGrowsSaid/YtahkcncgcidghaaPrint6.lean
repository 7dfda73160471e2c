/- The Go functions of this seat as Lean functions, and of each that its call does just what its Lean function says, where that says something. Condition: the arguments read as they are told. -/
import Derived.Test.YtahkcncgcidghaaPrint0
import Derived.Test.YtahkcncgcidghaaPrint2
import Derived.Test.YtahkcncgcidghaaHand
namespace Go.Proofs.Ytahkcncgcidghaa.Print
open Go.RowKit Go.Proofs.YtahkcncgcidghaaW.PrintWords Go.Proofs.YtahkcncgcidghaaW.PrintLast Go.Proofs.YtahkcncgcidghaaW.PrintMore
attribute [local go_sem] max2_int min2_int max_two min_two max_three min_three max_four min_four   -- for this text's walks alone
set_option linter.unusedVariables false
set_option linter.unusedSimpArgs false

/-! ### precentorlaw11_RateGrows: function 6 -/
mutual
def precentorlaw11_RateGrows.j0 : Nat → Bool → Bool → Int → Int → Int → Bool → Int → Int → Option (Bool)
  | 0, _, _, _, _, _, _, _, _ => none
  | k + 1, x6, x7, x8, x9, x10, x55, x197000, x197001 => if x55 = true then (none) else (if x6 = true then (precentorlaw11_RateGrows.j1 k x6 x7 x8 x9 x10 x197000 x197001) else (precentorlaw11_RateGrows.j1 k x6 x7 x8 x9 x10 x8 x197001))
def precentorlaw11_RateGrows.j1 : Nat → Bool → Bool → Int → Int → Int → Int → Int → Option (Bool)
  | 0, _, _, _, _, _, _, _ => none
  | k + 1, x6, x7, x8, x9, x10, x197000, x197001 => precentorlaw11_RateGrows.l0 k x6 x7 x8 x9 x10 1 x197000 x197001
def precentorlaw11_RateGrows.l0 : Nat → Bool → Bool → Int → Int → Int → Int → Int → Int → Option (Bool)
  | 0, _, _, _, _, _, _, _, _ => none
  | k + 1, x6, x7, x8, x9, x10, x14, x197000, x197001 => if x14 ≤ 120 then (if x6 = true then (precentorlaw11_RateGrows.j3 k x6 x7 x8 x9 x10 x14 (wrap64 (Int.tdiv x197000 2)) 1 x197000 x197001) else (precentorlaw11_RateGrows.j3 k x6 x7 x8 x9 x10 x14 (wrap64 (x197000 + 1)) 0 x197000 x197001)) else (if x7 = true then (if x197001 = x10 then (if x6 = true then (if x197000 = x8 then (some true) else (none)) else (some (x197000 == x9))) else (none)) else (none))
def precentorlaw11_RateGrows.j3 : Nat → Bool → Bool → Int → Int → Int → Int → Int → Int → Int → Int → Option (Bool)
  | 0, _, _, _, _, _, _, _, _, _, _ => none
  | k + 1, x6, x7, x8, x9, x10, x14, x15, x16, x197000, x197001 => if x15 > x9 then (precentorlaw11_RateGrows.j4 k x6 x7 x8 x9 x10 x14 x9 x16 x197000 x197001) else (precentorlaw11_RateGrows.j4 k x6 x7 x8 x9 x10 x14 x15 x16 x197000 x197001)
def precentorlaw11_RateGrows.j4 : Nat → Bool → Bool → Int → Int → Int → Int → Int → Int → Int → Int → Option (Bool)
  | 0, _, _, _, _, _, _, _, _, _, _ => none
  | k + 1, x6, x7, x8, x9, x10, x14, x15, x16, x197000, x197001 => if x15 < x8 then ((rate_Tick.f x197000 x197001 x8 x9 x10 x16).bind fun bt197 => (if bt197.1 = x8 then (if bt197.2 > x10 then (none) else (if bt197.2 < x197001 then (none) else (precentorlaw11_RateGrows.l0 k x6 x7 x8 x9 x10 (wrap64 (x14 + 1)) bt197.1 bt197.2))) else (none))) else ((rate_Tick.f x197000 x197001 x8 x9 x10 x16).bind fun bt200 => (if bt200.1 = x15 then (if bt200.2 > x10 then (none) else (if bt200.2 < x197001 then (none) else (precentorlaw11_RateGrows.l0 k x6 x7 x8 x9 x10 (wrap64 (x14 + 1)) bt200.1 bt200.2))) else (none)))
end
def precentorlaw11_RateGrows.f (k : Nat) (a0_0 : Int) (a0_1 : Int) (a0_2 : Int) (a0_3 : Bool) : Option (Bool) := (precentorlaw11_shown.f).bind fun t189 => ((rate_Start.f (wrap64 ((wrap64 (1 + (Int.tmod (wrap64 (a0_0)) 30))) + (Int.tmod (wrap64 (a0_1)) 70))) (wrap64 (1 + (Int.tmod (wrap64 (a0_2)) 100)))).bind fun bt190 => ((rate_Spend.f bt190.1 bt190.2 (wrap64 (1 + (Int.tmod (wrap64 (a0_2)) 100)))).bind fun bt193 => (if bt193.2.2 = true then (precentorlaw11_RateGrows.j0 k a0_3 t189 (wrap64 (1 + (Int.tmod (wrap64 (a0_0)) 30))) (wrap64 ((wrap64 (1 + (Int.tmod (wrap64 (a0_0)) 30))) + (Int.tmod (wrap64 (a0_1)) 70))) (wrap64 (1 + (Int.tmod (wrap64 (a0_2)) 100))) (bt193.2.1 != 0) bt193.1 bt193.2.1) else (precentorlaw11_RateGrows.j0 k a0_3 t189 (wrap64 (1 + (Int.tmod (wrap64 (a0_0)) 30))) (wrap64 ((wrap64 (1 + (Int.tmod (wrap64 (a0_0)) 30))) + (Int.tmod (wrap64 (a0_1)) 70))) (wrap64 (1 + (Int.tmod (wrap64 (a0_2)) 100))) true bt193.1 bt193.2.1))))
theorem precentorlaw11_RateGrows.mono_l : ∀ k, (∀ y0 y1 y2 y3 y4 y5 y6 y7, LeO (precentorlaw11_RateGrows.j0 k y0 y1 y2 y3 y4 y5 y6 y7) (precentorlaw11_RateGrows.j0 (k + 1) y0 y1 y2 y3 y4 y5 y6 y7)) ∧ (∀ y0 y1 y2 y3 y4 y5 y6, LeO (precentorlaw11_RateGrows.j1 k y0 y1 y2 y3 y4 y5 y6) (precentorlaw11_RateGrows.j1 (k + 1) y0 y1 y2 y3 y4 y5 y6)) ∧ (∀ y0 y1 y2 y3 y4 y5 y6 y7, LeO (precentorlaw11_RateGrows.l0 k y0 y1 y2 y3 y4 y5 y6 y7) (precentorlaw11_RateGrows.l0 (k + 1) y0 y1 y2 y3 y4 y5 y6 y7)) ∧ (∀ y0 y1 y2 y3 y4 y5 y6 y7 y8 y9, LeO (precentorlaw11_RateGrows.j3 k y0 y1 y2 y3 y4 y5 y6 y7 y8 y9) (precentorlaw11_RateGrows.j3 (k + 1) y0 y1 y2 y3 y4 y5 y6 y7 y8 y9)) ∧ (∀ y0 y1 y2 y3 y4 y5 y6 y7 y8 y9, LeO (precentorlaw11_RateGrows.j4 k y0 y1 y2 y3 y4 y5 y6 y7 y8 y9) (precentorlaw11_RateGrows.j4 (k + 1) y0 y1 y2 y3 y4 y5 y6 y7 y8 y9))
  | 0 => ⟨fun _ _ _ _ _ _ _ _ r h => by simp [precentorlaw11_RateGrows.j0] at h, fun _ _ _ _ _ _ _ r h => by simp [precentorlaw11_RateGrows.j1] at h, fun _ _ _ _ _ _ _ _ r h => by simp [precentorlaw11_RateGrows.l0] at h, fun _ _ _ _ _ _ _ _ _ _ r h => by simp [precentorlaw11_RateGrows.j3] at h, fun _ _ _ _ _ _ _ _ _ _ r h => by simp [precentorlaw11_RateGrows.j4] at h⟩
  | k + 1 => by
    obtain ⟨ih0, ih1, ih2, ih3, ih4⟩ := precentorlaw11_RateGrows.mono_l k
    refine ⟨?_, ?_, ?_, ?_, ?_⟩
    · intro y0 y1 y2 y3 y4 y5 y6 y7
      unfold precentorlaw11_RateGrows.j0
      repeat' first
      | (with_reducible exact ih0 _ _ _ _ _ _ _ _)
      | (with_reducible exact ih1 _ _ _ _ _ _ _)
      | (with_reducible exact ih2 _ _ _ _ _ _ _ _)
      | (with_reducible exact ih3 _ _ _ _ _ _ _ _ _ _)
      | (with_reducible exact ih4 _ _ _ _ _ _ _ _ _ _)
      | (with_reducible exact LeO.refl _)
      | (with_reducible exact LeO.none _)
      | (with_reducible refine LeO.ite ?_ ?_)
      | (with_reducible refine LeO.bind ?_ (fun _ => ?_))
      | exact ih0 _ _ _ _ _ _ _ _
      | exact ih1 _ _ _ _ _ _ _
      | exact ih2 _ _ _ _ _ _ _ _
      | exact ih3 _ _ _ _ _ _ _ _ _ _
      | exact ih4 _ _ _ _ _ _ _ _ _ _
      | exact LeO.none _
      | refine LeO.ite ?_ ?_
      | refine LeO.bind ?_ (fun _ => ?_)
    · intro y0 y1 y2 y3 y4 y5 y6
      unfold precentorlaw11_RateGrows.j1
      repeat' first
      | (with_reducible exact ih0 _ _ _ _ _ _ _ _)
      | (with_reducible exact ih1 _ _ _ _ _ _ _)
      | (with_reducible exact ih2 _ _ _ _ _ _ _ _)
      | (with_reducible exact ih3 _ _ _ _ _ _ _ _ _ _)
      | (with_reducible exact ih4 _ _ _ _ _ _ _ _ _ _)
      | (with_reducible exact LeO.refl _)
      | (with_reducible exact LeO.none _)
      | (with_reducible refine LeO.ite ?_ ?_)
      | (with_reducible refine LeO.bind ?_ (fun _ => ?_))
      | exact ih0 _ _ _ _ _ _ _ _
      | exact ih1 _ _ _ _ _ _ _
      | exact ih2 _ _ _ _ _ _ _ _
      | exact ih3 _ _ _ _ _ _ _ _ _ _
      | exact ih4 _ _ _ _ _ _ _ _ _ _
      | exact LeO.none _
      | refine LeO.ite ?_ ?_
      | refine LeO.bind ?_ (fun _ => ?_)
    · intro y0 y1 y2 y3 y4 y5 y6 y7
      unfold precentorlaw11_RateGrows.l0
      repeat' first
      | (with_reducible exact ih0 _ _ _ _ _ _ _ _)
      | (with_reducible exact ih1 _ _ _ _ _ _ _)
      | (with_reducible exact ih2 _ _ _ _ _ _ _ _)
      | (with_reducible exact ih3 _ _ _ _ _ _ _ _ _ _)
      | (with_reducible exact ih4 _ _ _ _ _ _ _ _ _ _)
      | (with_reducible exact LeO.refl _)
      | (with_reducible exact LeO.none _)
      | (with_reducible refine LeO.ite ?_ ?_)
      | (with_reducible refine LeO.bind ?_ (fun _ => ?_))
      | exact ih0 _ _ _ _ _ _ _ _
      | exact ih1 _ _ _ _ _ _ _
      | exact ih2 _ _ _ _ _ _ _ _
      | exact ih3 _ _ _ _ _ _ _ _ _ _
      | exact ih4 _ _ _ _ _ _ _ _ _ _
      | exact LeO.none _
      | refine LeO.ite ?_ ?_
      | refine LeO.bind ?_ (fun _ => ?_)
    · intro y0 y1 y2 y3 y4 y5 y6 y7 y8 y9
      unfold precentorlaw11_RateGrows.j3
      repeat' first
      | (with_reducible exact ih0 _ _ _ _ _ _ _ _)
      | (with_reducible exact ih1 _ _ _ _ _ _ _)
      | (with_reducible exact ih2 _ _ _ _ _ _ _ _)
      | (with_reducible exact ih3 _ _ _ _ _ _ _ _ _ _)
      | (with_reducible exact ih4 _ _ _ _ _ _ _ _ _ _)
      | (with_reducible exact LeO.refl _)
      | (with_reducible exact LeO.none _)
      | (with_reducible refine LeO.ite ?_ ?_)
      | (with_reducible refine LeO.bind ?_ (fun _ => ?_))
      | exact ih0 _ _ _ _ _ _ _ _
      | exact ih1 _ _ _ _ _ _ _
      | exact ih2 _ _ _ _ _ _ _ _
      | exact ih3 _ _ _ _ _ _ _ _ _ _
      | exact ih4 _ _ _ _ _ _ _ _ _ _
      | exact LeO.none _
      | refine LeO.ite ?_ ?_
      | refine LeO.bind ?_ (fun _ => ?_)
    · intro y0 y1 y2 y3 y4 y5 y6 y7 y8 y9
      unfold precentorlaw11_RateGrows.j4
      repeat' first
      | (with_reducible exact ih0 _ _ _ _ _ _ _ _)
      | (with_reducible exact ih1 _ _ _ _ _ _ _)
      | (with_reducible exact ih2 _ _ _ _ _ _ _ _)
      | (with_reducible exact ih3 _ _ _ _ _ _ _ _ _ _)
      | (with_reducible exact ih4 _ _ _ _ _ _ _ _ _ _)
      | (with_reducible exact LeO.refl _)
      | (with_reducible exact LeO.none _)
      | (with_reducible refine LeO.ite ?_ ?_)
      | (with_reducible refine LeO.bind ?_ (fun _ => ?_))
      | exact ih0 _ _ _ _ _ _ _ _
      | exact ih1 _ _ _ _ _ _ _
      | exact ih2 _ _ _ _ _ _ _ _
      | exact ih3 _ _ _ _ _ _ _ _ _ _
      | exact ih4 _ _ _ _ _ _ _ _ _ _
      | exact LeO.none _
      | refine LeO.ite ?_ ?_
      | refine LeO.bind ?_ (fun _ => ?_)
theorem precentorlaw11_RateGrows.mono : ∀ a0 a1 a2 a3 k, LeO (precentorlaw11_RateGrows.f k a0 a1 a2 a3) (precentorlaw11_RateGrows.f (k + 1) a0 a1 a2 a3) := by
  intro a0 a1 a2 a3 k
  obtain ⟨ih0, ih1, ih2, ih3, ih4⟩ := precentorlaw11_RateGrows.mono_l k
  unfold precentorlaw11_RateGrows.f
  repeat' first
      | (with_reducible exact ih0 _ _ _ _ _ _ _ _)
      | (with_reducible exact ih1 _ _ _ _ _ _ _)
      | (with_reducible exact ih2 _ _ _ _ _ _ _ _)
      | (with_reducible exact ih3 _ _ _ _ _ _ _ _ _ _)
      | (with_reducible exact ih4 _ _ _ _ _ _ _ _ _ _)
      | (with_reducible exact LeO.refl _)
      | (with_reducible exact LeO.none _)
      | (with_reducible refine LeO.ite ?_ ?_)
      | (with_reducible refine LeO.bind ?_ (fun _ => ?_))
      | exact ih0 _ _ _ _ _ _ _ _
      | exact ih1 _ _ _ _ _ _ _
      | exact ih2 _ _ _ _ _ _ _ _
      | exact ih3 _ _ _ _ _ _ _ _ _ _
      | exact ih4 _ _ _ _ _ _ _ _ _ _
      | exact LeO.none _
      | refine LeO.ite ?_ ?_
      | refine LeO.bind ?_ (fun _ => ?_)
set_option maxHeartbeats 8000000 in
set_option maxRecDepth 100000 in
theorem precentorlaw11_RateGrows.calls (k : Nat) (a0_0 : Int) (a0_1 : Int) (a0_2 : Int) (a0_3 : Bool) (r : Bool) (w : World) (h : precentorlaw11_RateGrows.f k a0_0 a0_1 a0_2 a0_3 = some r) :
    Calls Try.prog 6 #[.agg #[.int .u8 a0_0, .int .u8 a0_1, .int .u8 a0_2, .bool a0_3]] w fun e w' => e = .returned (.bool r) ∧ Below w.heap.size w w' := by
  have hu41 := Try.underlying41
  have hu23 := Try.underlying23
  have HB := Aside0.mk (Below.refl w.heap.size w)
  have H : ((precentorlaw11_shown.f).bind fun t189 => ((rate_Start.f (wrap64 ((wrap64 (1 + (Int.tmod (wrap64 (a0_0)) 30))) + (Int.tmod (wrap64 (a0_1)) 70))) (wrap64 (1 + (Int.tmod (wrap64 (a0_2)) 100)))).bind fun bt190 => ((rate_Spend.f bt190.1 bt190.2 (wrap64 (1 + (Int.tmod (wrap64 (a0_2)) 100)))).bind fun bt193 => (if bt193.2.2 = true then (precentorlaw11_RateGrows.j0 k a0_3 t189 (wrap64 (1 + (Int.tmod (wrap64 (a0_0)) 30))) (wrap64 ((wrap64 (1 + (Int.tmod (wrap64 (a0_0)) 30))) + (Int.tmod (wrap64 (a0_1)) 70))) (wrap64 (1 + (Int.tmod (wrap64 (a0_2)) 100))) (bt193.2.1 != 0) bt193.1 bt193.2.1) else (precentorlaw11_RateGrows.j0 k a0_3 t189 (wrap64 (1 + (Int.tmod (wrap64 (a0_0)) 30))) (wrap64 ((wrap64 (1 + (Int.tmod (wrap64 (a0_0)) 30))) + (Int.tmod (wrap64 (a0_1)) 70))) (wrap64 (1 + (Int.tmod (wrap64 (a0_2)) 100))) true bt193.1 bt193.2.1))))) = some r := h
  clear h
  replace H := Option.bind_eq_some_iff.mp H
  obtain ⟨t189, A20, H⟩ := H
  replace H : ((rate_Start.f (wrap64 ((wrap64 (1 + (Int.tmod (wrap64 (a0_0)) 30))) + (Int.tmod (wrap64 (a0_1)) 70))) (wrap64 (1 + (Int.tmod (wrap64 (a0_2)) 100)))).bind fun bt190 => ((rate_Spend.f bt190.1 bt190.2 (wrap64 (1 + (Int.tmod (wrap64 (a0_2)) 100)))).bind fun bt193 => (if bt193.2.2 = true then (precentorlaw11_RateGrows.j0 k a0_3 t189 (wrap64 (1 + (Int.tmod (wrap64 (a0_0)) 30))) (wrap64 ((wrap64 (1 + (Int.tmod (wrap64 (a0_0)) 30))) + (Int.tmod (wrap64 (a0_1)) 70))) (wrap64 (1 + (Int.tmod (wrap64 (a0_2)) 100))) (bt193.2.1 != 0) bt193.1 bt193.2.1) else (precentorlaw11_RateGrows.j0 k a0_3 t189 (wrap64 (1 + (Int.tmod (wrap64 (a0_0)) 30))) (wrap64 ((wrap64 (1 + (Int.tmod (wrap64 (a0_0)) 30))) + (Int.tmod (wrap64 (a0_1)) 70))) (wrap64 (1 + (Int.tmod (wrap64 (a0_2)) 100))) true bt193.1 bt193.2.1)))) = some r := H
  have A2 := Aside0.mk A20
  clear A20
  replace H := Option.bind_eq_some_iff.mp H
  obtain ⟨⟨t190, t191⟩, A30, H⟩ := H
  replace H : ((rate_Spend.f t190 t191 (wrap64 (1 + (Int.tmod (wrap64 (a0_2)) 100)))).bind fun bt193 => (if bt193.2.2 = true then (precentorlaw11_RateGrows.j0 k a0_3 t189 (wrap64 (1 + (Int.tmod (wrap64 (a0_0)) 30))) (wrap64 ((wrap64 (1 + (Int.tmod (wrap64 (a0_0)) 30))) + (Int.tmod (wrap64 (a0_1)) 70))) (wrap64 (1 + (Int.tmod (wrap64 (a0_2)) 100))) (bt193.2.1 != 0) bt193.1 bt193.2.1) else (precentorlaw11_RateGrows.j0 k a0_3 t189 (wrap64 (1 + (Int.tmod (wrap64 (a0_0)) 30))) (wrap64 ((wrap64 (1 + (Int.tmod (wrap64 (a0_0)) 30))) + (Int.tmod (wrap64 (a0_1)) 70))) (wrap64 (1 + (Int.tmod (wrap64 (a0_2)) 100))) true bt193.1 bt193.2.1))) = some r := H
  have A3 := Aside0.mk A30
  clear A30
  replace H := Option.bind_eq_some_iff.mp H
  obtain ⟨⟨t193, t194, t195⟩, A40, H⟩ := H
  replace H : (if t195 = true then (precentorlaw11_RateGrows.j0 k a0_3 t189 (wrap64 (1 + (Int.tmod (wrap64 (a0_0)) 30))) (wrap64 ((wrap64 (1 + (Int.tmod (wrap64 (a0_0)) 30))) + (Int.tmod (wrap64 (a0_1)) 70))) (wrap64 (1 + (Int.tmod (wrap64 (a0_2)) 100))) (t194 != 0) t193 t194) else (precentorlaw11_RateGrows.j0 k a0_3 t189 (wrap64 (1 + (Int.tmod (wrap64 (a0_0)) 30))) (wrap64 ((wrap64 (1 + (Int.tmod (wrap64 (a0_0)) 30))) + (Int.tmod (wrap64 (a0_1)) 70))) (wrap64 (1 + (Int.tmod (wrap64 (a0_2)) 100))) true t193 t194)) = some r := H
  have A4 := Aside0.mk A40
  clear A40
  have HC5 := Aside0.mk H
  clear H
  go_enter Try.func6, Try.ntmps6
  go_upto_region 11 with (first | ((with_reducible refine gate_dst (N := 1) rfl ?_); refine box_event ?hg (N := 1) ?hd (cs := #[.int .u8 a0_0, .int .u8 a0_1, .int .u8 a0_2, .bool a0_3]) (t := 41) ?hr ?_; (case hd => rfl); (case hg => rfl); (case hr => first | (go_simp; done) | (go_simp; rfl)); intro gb188 hg w6 hbox hb; have n0_ := Aside0.mk (below_step (by repeat (first | (with_reducible first | exact HB.out | apply below_alloc | apply pw_below_drewN | apply below_drew1) | exact HB.out)) hb); have n1_ := Aside0.mk (hbox); have n2_ := Aside0.mk ((by rw [hg]; exact (below_size (by repeat (first | (with_reducible first | exact HB.out | apply below_alloc | apply pw_below_drewN | apply below_drew1) | exact HB.out))) : w.heap.size ≤ gb188)); have n3_ := Aside0.mk ((by rw [hg]; exact (below_size (by repeat (first | (with_reducible first | exact HB.out | apply below_alloc | apply pw_below_drewN | apply below_drew1) | exact HB.out))) : w.heap.size ≤ gb188)); clear HB; have HB := n0_; have BK188 := n1_; have GW188 := n2_; have GE188 := n3_; clear n0_ n1_ n2_ n3_; clear hb hbox hg; have hcz7_0 : w6.cell? ⟨gb188, 0, none⟩ = some (.int .u8 a0_0) := (blk_cell BK188.out 0).trans rfl; have hcz7_1 : w6.cell? ⟨gb188, 1, none⟩ = some (.int .u8 a0_1) := (blk_cell BK188.out 1).trans rfl; have hcz7_2 : w6.cell? ⟨gb188, 2, none⟩ = some (.int .u8 a0_2) := (blk_cell BK188.out 2).trans rfl; have hcz7_3 : w6.cell? ⟨gb188, 3, none⟩ = some (.bool a0_3) := (blk_cell BK188.out 3).trans rfl; have hfz7_0 := blk_frozen BK188.out 0; have hfz7_1 := blk_frozen BK188.out 1; have hfz7_2 := blk_frozen BK188.out 2; have hfz7_3 := blk_frozen BK188.out 3) | ((with_reducible refine gate_callee (f := 7) rfl ?_); refine goesL_ (some 26) rfl rfl Try.func7 (by kernel_rfl) rfl #[] rfl (by (try simp only [List.map_toArray, List.map_cons, List.map_nil]); first | done | rfl | (simp only [List.length_drop, List.length_take]; rfl)) ?_; (with_reducible refine (precentorlaw11_shown.calls  t189 _ A2.out).mono ?_); rintro e w8 ⟨rfl, hb⟩; refine ⟨_, rfl, ?_⟩; have n0_ := Aside0.mk (blk_below (g := gb188) (o := .cells #[.int .u8 a0_0, .int .u8 a0_1, .int .u8 a0_2, .bool a0_3] 41 (0, 0)) (by (with_reducible repeat (first | refine blk_drewN ?_ _ | refine blk_drew ?_ | refine blk_alloc ?_ _)); exact BK188.out) hb); have n1_ := Aside0.mk (below_step (by repeat (first | (with_reducible first | exact HB.out | apply below_alloc | apply pw_below_drewN | apply below_drew1 | refine below_set ?_ GE188.out) | exact HB.out)) hb); clear BK188; clear HB; have BK188 := n0_; have HB := n1_; clear n0_ n1_; (try clear hb); (try clear hb2); (try clear hk); (try clear hi)) | ((with_reducible refine gate_callee (f := 12) rfl ?_); refine goesL_ (some 42) rfl rfl Try.func12 (by kernel_rfl) rfl #[.int .i64 (wrap64 ((wrap64 (1 + (Int.tmod (wrap64 (a0_0)) 30))) + (Int.tmod (wrap64 (a0_1)) 70))), .int .i64 (wrap64 (1 + (Int.tmod (wrap64 (a0_2)) 100)))] rfl (by (try simp only [List.map_toArray, List.map_cons, List.map_nil]); first | done | rfl | (simp only [List.length_drop, List.length_take]; rfl)) ?_; (with_reducible refine (rate_Start.calls (wrap64 ((wrap64 (1 + (Int.tmod (wrap64 (a0_0)) 30))) + (Int.tmod (wrap64 (a0_1)) 70))) (wrap64 (1 + (Int.tmod (wrap64 (a0_2)) 100))) t190 t191 _ A3.out).mono ?_); rintro e w9 ⟨rfl, hb⟩; refine ⟨_, rfl, ?_⟩; have n0_ := Aside0.mk (blk_below (g := gb188) (o := .cells #[.int .u8 a0_0, .int .u8 a0_1, .int .u8 a0_2, .bool a0_3] 41 (0, 0)) (by (with_reducible repeat (first | refine blk_drewN ?_ _ | refine blk_drew ?_ | refine blk_alloc ?_ _)); exact BK188.out) hb); have n1_ := Aside0.mk (below_step (by repeat (first | (with_reducible first | exact HB.out | apply below_alloc | apply pw_below_drewN | apply below_drew1 | refine below_set ?_ GE188.out) | exact HB.out)) hb); clear BK188; clear HB; have BK188 := n0_; have HB := n1_; clear n0_ n1_; (try clear hb); (try clear hb2); (try clear hk); (try clear hi)) | ((with_reducible refine gate_dst (N := 11) rfl ?_); refine box_event ?hg (N := 11) ?hd (cs := #[.int .i64 0, .int .i64 0]) (t := 23) ?hr ?_; (case hd => rfl); (case hg => rfl); (case hr => first | (go_simp; done) | (go_simp; rfl)); intro gb192 hg w10 hbox hb; have n0_ := Aside0.mk (blk_below (g := gb188) (o := .cells #[.int .u8 a0_0, .int .u8 a0_1, .int .u8 a0_2, .bool a0_3] 41 (0, 0)) (by (with_reducible repeat (first | refine blk_drewN ?_ _ | refine blk_drew ?_ | refine blk_alloc ?_ _)); exact BK188.out) hb); have n1_ := Aside0.mk (below_step (by repeat (first | (with_reducible first | exact HB.out | apply below_alloc | apply pw_below_drewN | apply below_drew1 | refine below_set ?_ GE188.out) | exact HB.out)) hb); have n2_ := Aside0.mk (hbox); have n3_ := Aside0.mk ((by rw [hg]; exact (below_size (by repeat (first | (with_reducible first | exact HB.out | apply below_alloc | apply pw_below_drewN | apply below_drew1 | refine below_set ?_ GE188.out) | exact HB.out))) : w.heap.size ≤ gb192)); have n4_ := Aside0.mk ((by rw [hg]; exact (below_size (by repeat (first | (with_reducible first | exact HB.out | apply below_alloc | apply pw_below_drewN | apply below_drew1 | refine below_set ?_ GE188.out) | exact HB.out))) : w.heap.size ≤ gb192)); have n5_ := Aside0.mk ((by rw [hg]; exact Nat.ne_of_lt (blk_lt (g := gb188) (o := .cells #[.int .u8 a0_0, .int .u8 a0_1, .int .u8 a0_2, .bool a0_3] 41 (0, 0)) (by (with_reducible repeat (first | refine blk_drewN ?_ _ | refine blk_drew ?_ | refine blk_alloc ?_ _)); exact BK188.out)) : gb188 ≠ gb192)); have n6_ := Aside0.mk ((by rw [hg]; exact Nat.ne_of_gt (blk_lt (g := gb188) (o := .cells #[.int .u8 a0_0, .int .u8 a0_1, .int .u8 a0_2, .bool a0_3] 41 (0, 0)) (by (with_reducible repeat (first | refine blk_drewN ?_ _ | refine blk_drew ?_ | refine blk_alloc ?_ _)); exact BK188.out)) : gb192 ≠ gb188)); clear BK188; clear HB; have BK188 := n0_; have HB := n1_; have BK192 := n2_; have GW192 := n3_; have GE192 := n4_; have NB188_192 := n5_; have NB192_188 := n6_; clear n0_ n1_ n2_ n3_ n4_ n5_ n6_; clear hb hbox hg; have hnb11 := NB192_188.out; have hnc11 := NB188_192.out; have hcz12_0 : w10.cell? ⟨gb192, 0, none⟩ = some (.int .i64 0) := (blk_cell BK192.out 0).trans rfl; have hcz12_1 : w10.cell? ⟨gb192, 1, none⟩ = some (.int .i64 0) := (blk_cell BK192.out 1).trans rfl; have hfz12_0 := blk_frozen BK192.out 0; have hfz12_1 := blk_frozen BK192.out 1) | ((with_reducible refine gate_callee (f := 10) rfl ?_); refine goesL_ (some 46) rfl rfl Try.func10 (by kernel_rfl) rfl #[.agg #[.int .i64 t190, .int .i64 t191], .int .i64 (wrap64 (1 + (Int.tmod (wrap64 (a0_2)) 100)))] rfl (by (try simp only [List.map_toArray, List.map_cons, List.map_nil]); first | done | rfl | (simp only [List.length_drop, List.length_take]; rfl)) ?_; (with_reducible refine (rate_Spend.calls t190 t191 (wrap64 (1 + (Int.tmod (wrap64 (a0_2)) 100))) t193 t194 t195 _ A4.out).mono ?_); rintro e w13 ⟨rfl, hb⟩; refine ⟨_, rfl, ?_⟩; have n0_ := Aside0.mk (blk_below (g := gb188) (o := .cells #[.int .u8 a0_0, .int .u8 a0_1, .int .u8 a0_2, .bool a0_3] 41 (0, 0)) (by (with_reducible repeat (first | refine blk_drewN ?_ _ | refine blk_drew ?_ | refine blk_alloc ?_ _)); refine blk_far ?_ NB188_192.out _; (with_reducible repeat (first | refine blk_drewN ?_ _ | refine blk_drew ?_ | refine blk_alloc ?_ _)); refine blk_far ?_ NB188_192.out _; (with_reducible repeat (first | refine blk_drewN ?_ _ | refine blk_drew ?_ | refine blk_alloc ?_ _)); exact BK188.out) hb); have n1_ := Aside0.mk (blk_below (g := gb192) (o := .cells #[.int .i64 t190, .int .i64 t191] 23 (0, 0)) (by (with_reducible repeat (first | refine blk_drewN ?_ _ | refine blk_drew ?_ | refine blk_alloc ?_ _)); refine blk_put (cs := #[.int .i64 t190, .int .i64 0]) ?_ 1 _ rfl; (with_reducible repeat (first | refine blk_drewN ?_ _ | refine blk_drew ?_ | refine blk_alloc ?_ _)); refine blk_put (cs := #[.int .i64 0, .int .i64 0]) ?_ 0 _ rfl; (with_reducible repeat (first | refine blk_drewN ?_ _ | refine blk_drew ?_ | refine blk_alloc ?_ _)); exact BK192.out) hb); have n2_ := Aside0.mk (below_step (by repeat (first | (with_reducible first | exact HB.out | apply below_alloc | apply pw_below_drewN | apply below_drew1 | refine below_set ?_ GE188.out | refine below_set ?_ GE192.out) | exact HB.out)) hb); clear BK188; clear BK192; clear HB; have BK188 := n0_; have BK192 := n1_; have HB := n2_; clear n0_ n1_ n2_; (try clear hb); (try clear hb2); (try clear hk); (try clear hi)) | ((with_reducible refine gate_dst (N := 12) rfl ?_); refine box_event ?hg (N := 12) ?hd (cs := #[.int .i64 0, .int .i64 0]) (t := 23) ?hr ?_; (case hd => rfl); (case hg => rfl); (case hr => first | (go_simp; done) | (go_simp; rfl)); intro gb196 hg w14 hbox hb; have n0_ := Aside0.mk (blk_below (g := gb188) (o := .cells #[.int .u8 a0_0, .int .u8 a0_1, .int .u8 a0_2, .bool a0_3] 41 (0, 0)) (by (with_reducible repeat (first | refine blk_drewN ?_ _ | refine blk_drew ?_ | refine blk_alloc ?_ _)); exact BK188.out) hb); have n1_ := Aside0.mk (blk_below (g := gb192) (o := .cells #[.int .i64 t190, .int .i64 t191] 23 (0, 0)) (by (with_reducible repeat (first | refine blk_drewN ?_ _ | refine blk_drew ?_ | refine blk_alloc ?_ _)); exact BK192.out) hb); have n2_ := Aside0.mk (below_step (by repeat (first | (with_reducible first | exact HB.out | apply below_alloc | apply pw_below_drewN | apply below_drew1 | refine below_set ?_ GE188.out | refine below_set ?_ GE192.out) | exact HB.out)) hb); have n3_ := Aside0.mk (hbox); have n4_ := Aside0.mk ((by rw [hg]; exact (below_size (by repeat (first | (with_reducible first | exact HB.out | apply below_alloc | apply pw_below_drewN | apply below_drew1 | refine below_set ?_ GE188.out | refine below_set ?_ GE192.out) | exact HB.out))) : w.heap.size ≤ gb196)); have n5_ := Aside0.mk ((by rw [hg]; exact (below_size (by repeat (first | (with_reducible first | exact HB.out | apply below_alloc | apply pw_below_drewN | apply below_drew1 | refine below_set ?_ GE188.out | refine below_set ?_ GE192.out) | exact HB.out))) : w.heap.size ≤ gb196)); have n6_ := Aside0.mk ((by rw [hg]; exact Nat.ne_of_lt (blk_lt (g := gb188) (o := .cells #[.int .u8 a0_0, .int .u8 a0_1, .int .u8 a0_2, .bool a0_3] 41 (0, 0)) (by (with_reducible repeat (first | refine blk_drewN ?_ _ | refine blk_drew ?_ | refine blk_alloc ?_ _)); exact BK188.out)) : gb188 ≠ gb196)); have n7_ := Aside0.mk ((by rw [hg]; exact Nat.ne_of_gt (blk_lt (g := gb188) (o := .cells #[.int .u8 a0_0, .int .u8 a0_1, .int .u8 a0_2, .bool a0_3] 41 (0, 0)) (by (with_reducible repeat (first | refine blk_drewN ?_ _ | refine blk_drew ?_ | refine blk_alloc ?_ _)); exact BK188.out)) : gb196 ≠ gb188)); have n8_ := Aside0.mk ((by rw [hg]; exact Nat.ne_of_lt (blk_lt (g := gb192) (o := .cells #[.int .i64 t190, .int .i64 t191] 23 (0, 0)) (by (with_reducible repeat (first | refine blk_drewN ?_ _ | refine blk_drew ?_ | refine blk_alloc ?_ _)); exact BK192.out)) : gb192 ≠ gb196)); have n9_ := Aside0.mk ((by rw [hg]; exact Nat.ne_of_gt (blk_lt (g := gb192) (o := .cells #[.int .i64 t190, .int .i64 t191] 23 (0, 0)) (by (with_reducible repeat (first | refine blk_drewN ?_ _ | refine blk_drew ?_ | refine blk_alloc ?_ _)); exact BK192.out)) : gb196 ≠ gb192)); clear BK188; clear BK192; clear HB; have BK188 := n0_; have BK192 := n1_; have HB := n2_; have BK196 := n3_; have GW196 := n4_; have GE196 := n5_; have NB188_196 := n6_; have NB196_188 := n7_; have NB192_196 := n8_; have NB196_192 := n9_; clear n0_ n1_ n2_ n3_ n4_ n5_ n6_ n7_ n8_ n9_; clear hb hbox hg; have hnb15 := NB196_188.out; have hnc15 := NB188_196.out; have hnb16 := NB196_192.out; have hnc16 := NB192_196.out; have hcz17_0 : w14.cell? ⟨gb196, 0, none⟩ = some (.int .i64 0) := (blk_cell BK196.out 0).trans rfl; have hcz17_1 : w14.cell? ⟨gb196, 1, none⟩ = some (.int .i64 0) := (blk_cell BK196.out 1).trans rfl; have hfz17_0 := blk_frozen BK196.out 0; have hfz17_1 := blk_frozen BK196.out 1))
  (try simp only [Act.put, List.setIfInBounds_toArray, List.set_cons_zero, List.set_cons_succ])
  go_cut [55] (fun v55 wc => ∃ (kq : Nat) (x55_4 : Bool), v55 = .bool x55_4 ∧ Aside0 (precentorlaw11_RateGrows.j0 kq a0_3 t189 (wrap64 (1 + (Int.tmod (wrap64 (a0_0)) 30))) (wrap64 ((wrap64 (1 + (Int.tmod (wrap64 (a0_0)) 30))) + (Int.tmod (wrap64 (a0_1)) 70))) (wrap64 (1 + (Int.tmod (wrap64 (a0_2)) 100))) x55_4 t193 t194 = some r) ∧ Aside0 (kq ≤ k) ∧ Aside0 (wc.heap[gb188]? = some (.cells #[.int .u8 a0_0, .int .u8 a0_1, .int .u8 a0_2, .bool a0_3] 41 (0, 0))) ∧ Aside0 (wc.heap[gb192]? = some (.cells #[.int .i64 t190, .int .i64 t191] 23 (0, 0))) ∧ Aside0 (wc.heap[gb196]? = some (.cells #[.int .i64 t193, .int .i64 t194] 23 (0, 0))) ∧ Aside0 (Below w.heap.size w wc))
  case first =>
    have H := HC5.out
    clear HC5
    by_cases c18 : t195 = true
    · subst c18
      have H1 : (precentorlaw11_RateGrows.j0 k a0_3 t189 (wrap64 (1 + (Int.tmod (wrap64 (a0_0)) 30))) (wrap64 ((wrap64 (1 + (Int.tmod (wrap64 (a0_0)) 30))) + (Int.tmod (wrap64 (a0_1)) 70))) (wrap64 (1 + (Int.tmod (wrap64 (a0_2)) 100))) (t194 != 0) t193 t194) = some r := by rw [if_pos rfl] at H; exact H
      clear H
      have H := H1
      clear H1
      have H' := Aside0.mk H
      clear H
      have hnb19 := NB196_188.out
      have hnc19 := NB188_196.out
      have hnb20 := NB196_192.out
      have hnc20 := NB192_196.out
      have hcz21_0 : w14.cell? ⟨gb196, 0, none⟩ = some (.int .i64 0) := (blk_cell BK196.out 0).trans rfl
      have hcz21_1 : w14.cell? ⟨gb196, 1, none⟩ = some (.int .i64 0) := (blk_cell BK196.out 1).trans rfl
      have hfz21_0 := blk_frozen BK196.out 0
      have hfz21_1 := blk_frozen BK196.out 1
      go_wp2
      go_meet
      case rel => exact ⟨_, ((t194 != 0)), (by first | rfl | (simp; done) | (simp [*]; done)), H', ⟨by first | omega | exact Nat.le_refl _⟩, ⟨by (with_reducible repeat (first | refine blk_drewN ?_ _ | refine blk_drew ?_ | refine blk_alloc ?_ _)); refine blk_far ?_ NB188_196.out _; (with_reducible repeat (first | refine blk_drewN ?_ _ | refine blk_drew ?_ | refine blk_alloc ?_ _)); refine blk_far ?_ NB188_196.out _; (with_reducible repeat (first | refine blk_drewN ?_ _ | refine blk_drew ?_ | refine blk_alloc ?_ _)); exact BK188.out⟩, ⟨by (with_reducible repeat (first | refine blk_drewN ?_ _ | refine blk_drew ?_ | refine blk_alloc ?_ _)); refine blk_far ?_ NB192_196.out _; (with_reducible repeat (first | refine blk_drewN ?_ _ | refine blk_drew ?_ | refine blk_alloc ?_ _)); refine blk_far ?_ NB192_196.out _; (with_reducible repeat (first | refine blk_drewN ?_ _ | refine blk_drew ?_ | refine blk_alloc ?_ _)); exact BK192.out⟩, ⟨by (with_reducible repeat (first | refine blk_drewN ?_ _ | refine blk_drew ?_ | refine blk_alloc ?_ _)); refine blk_put (cs := #[.int .i64 t193, .int .i64 0]) ?_ 1 _ rfl; (with_reducible repeat (first | refine blk_drewN ?_ _ | refine blk_drew ?_ | refine blk_alloc ?_ _)); refine blk_put (cs := #[.int .i64 0, .int .i64 0]) ?_ 0 _ rfl; (with_reducible repeat (first | refine blk_drewN ?_ _ | refine blk_drew ?_ | refine blk_alloc ?_ _)); exact BK196.out⟩, ⟨by repeat (first | (with_reducible first | exact HB.out | apply below_alloc | apply pw_below_drewN | apply below_drew1 | refine below_set ?_ GE188.out | refine below_set ?_ GE192.out | refine below_set ?_ GE196.out) | exact HB.out)⟩⟩
    · replace c18 := Bool.eq_false_iff.mpr c18
      subst c18
      have H1 : (precentorlaw11_RateGrows.j0 k a0_3 t189 (wrap64 (1 + (Int.tmod (wrap64 (a0_0)) 30))) (wrap64 ((wrap64 (1 + (Int.tmod (wrap64 (a0_0)) 30))) + (Int.tmod (wrap64 (a0_1)) 70))) (wrap64 (1 + (Int.tmod (wrap64 (a0_2)) 100))) true t193 t194) = some r := by rw [if_neg (show ¬ (false = true) by decide)] at H; exact H
      clear H
      have H := H1
      clear H1
      have H' := Aside0.mk H
      clear H
      go_wp2
      go_meet
      case rel => exact ⟨_, (true), (by first | rfl | (simp; done) | (simp [*]; done)), H', ⟨by first | omega | exact Nat.le_refl _⟩, ⟨by (with_reducible repeat (first | refine blk_drewN ?_ _ | refine blk_drew ?_ | refine blk_alloc ?_ _)); refine blk_far ?_ NB188_196.out _; (with_reducible repeat (first | refine blk_drewN ?_ _ | refine blk_drew ?_ | refine blk_alloc ?_ _)); refine blk_far ?_ NB188_196.out _; (with_reducible repeat (first | refine blk_drewN ?_ _ | refine blk_drew ?_ | refine blk_alloc ?_ _)); exact BK188.out⟩, ⟨by (with_reducible repeat (first | refine blk_drewN ?_ _ | refine blk_drew ?_ | refine blk_alloc ?_ _)); refine blk_far ?_ NB192_196.out _; (with_reducible repeat (first | refine blk_drewN ?_ _ | refine blk_drew ?_ | refine blk_alloc ?_ _)); refine blk_far ?_ NB192_196.out _; (with_reducible repeat (first | refine blk_drewN ?_ _ | refine blk_drew ?_ | refine blk_alloc ?_ _)); exact BK192.out⟩, ⟨by (with_reducible repeat (first | refine blk_drewN ?_ _ | refine blk_drew ?_ | refine blk_alloc ?_ _)); refine blk_put (cs := #[.int .i64 t193, .int .i64 0]) ?_ 1 _ rfl; (with_reducible repeat (first | refine blk_drewN ?_ _ | refine blk_drew ?_ | refine blk_alloc ?_ _)); refine blk_put (cs := #[.int .i64 0, .int .i64 0]) ?_ 0 _ rfl; (with_reducible repeat (first | refine blk_drewN ?_ _ | refine blk_drew ?_ | refine blk_alloc ?_ _)); exact BK196.out⟩, ⟨by repeat (first | (with_reducible first | exact HB.out | apply below_alloc | apply pw_below_drewN | apply below_drew1 | refine below_set ?_ GE188.out | refine below_set ?_ GE192.out | refine below_set ?_ GE196.out) | exact HB.out)⟩⟩
  case rest =>
    clear HC5
    try clear c1
    try clear c2
    try clear p2
    try clear c6
    try clear p6
    try clear c7
    try clear c10
    try clear c11
    try clear c12
    try clear c15
    try clear c16
    try clear c18
    try clear c19
    try clear c20
    try clear hcz12_0
    try clear hcz12_1
    try clear hcz17_0
    try clear hcz17_1
    try clear hcz21_0
    try clear hcz21_1
    try clear hcz7_0
    try clear hcz7_1
    try clear hcz7_2
    try clear hcz7_3
    try clear hfz12_0
    try clear hfz12_1
    try clear hfz17_0
    try clear hfz17_1
    try clear hfz21_0
    try clear hfz21_1
    try clear hfz7_0
    try clear hfz7_1
    try clear hfz7_2
    try clear hfz7_3
    obtain ⟨kq, x55_4, rfl, HA, HJ4, BK188, BK192, BK196, HB⟩ := hcut
    cases kq with
    | zero => exact absurd HA.out (by simp [precentorlaw11_RateGrows.j0])
    | succ kj4 =>
      have H := HA.out
      clear HA
      simp only [precentorlaw11_RateGrows.j0] at H
      by_cases c22 : x55_4 = true
      · subst c22
        have H1 : (none) = some r := by rw [if_pos rfl] at H; exact H
        clear H
        have H := H1
        clear H1
        exact absurd H (by simp)
      · replace c22 := Bool.eq_false_iff.mpr c22
        subst c22
        have H1 : (if a0_3 = true then (precentorlaw11_RateGrows.j1 kj4 a0_3 t189 (wrap64 (1 + (Int.tmod (wrap64 (a0_0)) 30))) (wrap64 ((wrap64 (1 + (Int.tmod (wrap64 (a0_0)) 30))) + (Int.tmod (wrap64 (a0_1)) 70))) (wrap64 (1 + (Int.tmod (wrap64 (a0_2)) 100))) t193 t194) else (precentorlaw11_RateGrows.j1 kj4 a0_3 t189 (wrap64 (1 + (Int.tmod (wrap64 (a0_0)) 30))) (wrap64 ((wrap64 (1 + (Int.tmod (wrap64 (a0_0)) 30))) + (Int.tmod (wrap64 (a0_1)) 70))) (wrap64 (1 + (Int.tmod (wrap64 (a0_2)) 100))) (wrap64 (1 + (Int.tmod (wrap64 (a0_0)) 30))) t194)) = some r := by rw [if_neg (show ¬ (false = true) by decide)] at H; exact H
        clear H
        have H := H1
        clear H1
        have HC23 := Aside0.mk H
        clear H
        go_upto_if 57 with (fail)
        go_cut [] (fun wc => ∃ (kq : Nat) (x197000_22 : Int), Aside0 (precentorlaw11_RateGrows.j1 kq a0_3 t189 (wrap64 (1 + (Int.tmod (wrap64 (a0_0)) 30))) (wrap64 ((wrap64 (1 + (Int.tmod (wrap64 (a0_0)) 30))) + (Int.tmod (wrap64 (a0_1)) 70))) (wrap64 (1 + (Int.tmod (wrap64 (a0_2)) 100))) x197000_22 t194 = some r) ∧ Aside0 (kq ≤ kj4) ∧ Aside0 (wc.heap[gb188]? = some (.cells #[.int .u8 a0_0, .int .u8 a0_1, .int .u8 a0_2, .bool a0_3] 41 (0, 0))) ∧ Aside0 (wc.heap[gb192]? = some (.cells #[.int .i64 t190, .int .i64 t191] 23 (0, 0))) ∧ Aside0 (wc.heap[gb196]? = some (.cells #[.int .i64 x197000_22, .int .i64 t194] 23 (0, 0))) ∧ Aside0 (Below w.heap.size w wc))
        case first =>
          have H := HC23.out
          clear HC23
          by_cases c24 : a0_3 = true
          · subst c24
            have H1 : (precentorlaw11_RateGrows.j1 kj4 true t189 (wrap64 (1 + (Int.tmod (wrap64 (a0_0)) 30))) (wrap64 ((wrap64 (1 + (Int.tmod (wrap64 (a0_0)) 30))) + (Int.tmod (wrap64 (a0_1)) 70))) (wrap64 (1 + (Int.tmod (wrap64 (a0_2)) 100))) t193 t194) = some r := by rw [if_pos rfl] at H; exact H
            clear H
            have H := H1
            clear H1
            have H' := Aside0.mk H
            clear H
            go_wp2
            go_meet
            case rel => exact ⟨_, (t193), H', ⟨by have := HJ4.out; first | omega | exact Nat.le_refl _⟩, ⟨by (with_reducible repeat (first | refine blk_drewN ?_ _ | refine blk_drew ?_ | refine blk_alloc ?_ _)); exact BK188.out⟩, ⟨by (with_reducible repeat (first | refine blk_drewN ?_ _ | refine blk_drew ?_ | refine blk_alloc ?_ _)); exact BK192.out⟩, ⟨by (with_reducible repeat (first | refine blk_drewN ?_ _ | refine blk_drew ?_ | refine blk_alloc ?_ _)); exact BK196.out⟩, ⟨by repeat (first | (with_reducible first | exact HB.out | apply below_alloc | apply pw_below_drewN | apply below_drew1 | refine below_set ?_ GE188.out | refine below_set ?_ GE192.out | refine below_set ?_ GE196.out) | exact HB.out)⟩⟩
          · replace c24 := Bool.eq_false_iff.mpr c24
            subst c24
            have H1 : (precentorlaw11_RateGrows.j1 kj4 false t189 (wrap64 (1 + (Int.tmod (wrap64 (a0_0)) 30))) (wrap64 ((wrap64 (1 + (Int.tmod (wrap64 (a0_0)) 30))) + (Int.tmod (wrap64 (a0_1)) 70))) (wrap64 (1 + (Int.tmod (wrap64 (a0_2)) 100))) (wrap64 (1 + (Int.tmod (wrap64 (a0_0)) 30))) t194) = some r := by rw [if_neg (show ¬ (false = true) by decide)] at H; exact H
            clear H
            have H := H1
            clear H1
            have H' := Aside0.mk H
            clear H
            have hnb25 := NB196_188.out
            have hnc25 := NB188_196.out
            have hnb26 := NB196_192.out
            have hnc26 := NB192_196.out
            have hcz27_0 : wc.cell? ⟨gb196, 0, none⟩ = some (.int .i64 t193) := (blk_cell BK196.out 0).trans rfl
            have hcz27_1 : wc.cell? ⟨gb196, 1, none⟩ = some (.int .i64 t194) := (blk_cell BK196.out 1).trans rfl
            have hfz27_0 := blk_frozen BK196.out 0
            have hfz27_1 := blk_frozen BK196.out 1
            go_wp2
            go_meet
            case rel => exact ⟨_, ((wrap64 (1 + (Int.tmod (wrap64 (a0_0)) 30)))), H', ⟨by have := HJ4.out; first | omega | exact Nat.le_refl _⟩, ⟨by (with_reducible repeat (first | refine blk_drewN ?_ _ | refine blk_drew ?_ | refine blk_alloc ?_ _)); refine blk_far ?_ NB188_196.out _; (with_reducible repeat (first | refine blk_drewN ?_ _ | refine blk_drew ?_ | refine blk_alloc ?_ _)); exact BK188.out⟩, ⟨by (with_reducible repeat (first | refine blk_drewN ?_ _ | refine blk_drew ?_ | refine blk_alloc ?_ _)); refine blk_far ?_ NB192_196.out _; (with_reducible repeat (first | refine blk_drewN ?_ _ | refine blk_drew ?_ | refine blk_alloc ?_ _)); exact BK192.out⟩, ⟨by (with_reducible repeat (first | refine blk_drewN ?_ _ | refine blk_drew ?_ | refine blk_alloc ?_ _)); refine blk_put (cs := #[.int .i64 t193, .int .i64 t194]) ?_ 0 _ rfl; (with_reducible repeat (first | refine blk_drewN ?_ _ | refine blk_drew ?_ | refine blk_alloc ?_ _)); exact BK196.out⟩, ⟨by repeat (first | (with_reducible first | exact HB.out | apply below_alloc | apply pw_below_drewN | apply below_drew1 | refine below_set ?_ GE188.out | refine below_set ?_ GE192.out | refine below_set ?_ GE196.out) | exact HB.out)⟩⟩
        case rest =>
          clear HC23
          try clear c1
          try clear c2
          try clear p2
          try clear c6
          try clear p6
          try clear c7
          try clear c10
          try clear c11
          try clear c12
          try clear c15
          try clear c16
          try clear c18
          try clear c19
          try clear c20
          try clear c22
          try clear c24
          try clear c25
          try clear c26
          try clear hcz12_0
          try clear hcz12_1
          try clear hcz17_0
          try clear hcz17_1
          try clear hcz21_0
          try clear hcz21_1
          try clear hcz27_0
          try clear hcz27_1
          try clear hcz7_0
          try clear hcz7_1
          try clear hcz7_2
          try clear hcz7_3
          try clear hfz12_0
          try clear hfz12_1
          try clear hfz17_0
          try clear hfz17_1
          try clear hfz21_0
          try clear hfz21_1
          try clear hfz27_0
          try clear hfz27_1
          try clear hfz7_0
          try clear hfz7_1
          try clear hfz7_2
          try clear hfz7_3
          try clear p2
          try clear p6
          obtain ⟨kq, x197000_22, HA, HJ22, BK188, BK192, BK196, HB⟩ := hcut
          cases kq with
          | zero => exact absurd HA.out (by simp [precentorlaw11_RateGrows.j1])
          | succ kj22 =>
            have H := HA.out
            clear HA
            simp only [precentorlaw11_RateGrows.j1] at H
            have H' := Aside0.mk H
            clear H
            go_wp2
            go_loopg [14] kj22 (fun kq v14 w' => ∃ (x14_3 : Int) (x197000_3 : Int) (x197001_3 : Int), v14 = .int .i64 x14_3 ∧ Aside0 (precentorlaw11_RateGrows.l0 kq a0_3 t189 (wrap64 (1 + (Int.tmod (wrap64 (a0_0)) 30))) (wrap64 ((wrap64 (1 + (Int.tmod (wrap64 (a0_0)) 30))) + (Int.tmod (wrap64 (a0_1)) 70))) (wrap64 (1 + (Int.tmod (wrap64 (a0_2)) 100))) x14_3 x197000_3 x197001_3 = some r) ∧ Aside0 (kq ≤ kj22) ∧ Aside0 (w'.heap[gb188]? = some (.cells #[.int .u8 a0_0, .int .u8 a0_1, .int .u8 a0_2, .bool a0_3] 41 (0, 0))) ∧ Aside0 (w'.heap[gb192]? = some (.cells #[.int .i64 t190, .int .i64 t191] 23 (0, 0))) ∧ Aside0 (w'.heap[gb196]? = some (.cells #[.int .i64 x197000_3, .int .i64 x197001_3] 23 (0, 0))) ∧ Aside0 (Below w.heap.size w w'))
            case atStart => exact ⟨(1), (x197000_22), (t194), (by first | rfl | (simp; done) | (simp [*]; done)), H', ⟨Nat.le_refl _⟩, ⟨by (with_reducible repeat (first | refine blk_drewN ?_ _ | refine blk_drew ?_ | refine blk_alloc ?_ _)); exact BK188.out⟩, ⟨by (with_reducible repeat (first | refine blk_drewN ?_ _ | refine blk_drew ?_ | refine blk_alloc ?_ _)); exact BK192.out⟩, ⟨by (with_reducible repeat (first | refine blk_drewN ?_ _ | refine blk_drew ?_ | refine blk_alloc ?_ _)); exact BK196.out⟩, ⟨by repeat (first | (with_reducible first | exact HB.out | apply below_alloc | apply pw_below_drewN | apply below_drew1 | refine below_set ?_ GE188.out | refine below_set ?_ GE192.out | refine below_set ?_ GE196.out) | exact HB.out)⟩⟩
            case round =>
              clear H'
              try clear c1
              try clear c2
              try clear p2
              try clear c6
              try clear p6
              try clear c7
              try clear c10
              try clear c11
              try clear c12
              try clear c15
              try clear c16
              try clear c18
              try clear c19
              try clear c20
              try clear c22
              try clear c24
              try clear c25
              try clear c26
              try clear hcz12_0
              try clear hcz12_1
              try clear hcz17_0
              try clear hcz17_1
              try clear hcz21_0
              try clear hcz21_1
              try clear hcz27_0
              try clear hcz27_1
              try clear hcz7_0
              try clear hcz7_1
              try clear hcz7_2
              try clear hcz7_3
              try clear hfz12_0
              try clear hfz12_1
              try clear hfz17_0
              try clear hfz17_1
              try clear hfz21_0
              try clear hfz21_1
              try clear hfz27_0
              try clear hfz27_1
              try clear hfz7_0
              try clear hfz7_1
              try clear hfz7_2
              try clear hfz7_3
              try clear p2
              try clear p6
              obtain ⟨x14_3, x197000_3, x197001_3, rfl, HA, HK3, BK188, BK192, BK196, HB⟩ := hrel
              cases gk with
              | zero => exact absurd HA.out (by simp [precentorlaw11_RateGrows.l0])
              | succ k3 =>
                have H := HA.out
                clear HA
                simp only [precentorlaw11_RateGrows.l0] at H
                by_cases c28 : x14_3 ≤ 120
                · rw [if_pos c28] at H
                  have c28b0 : decide (x14_3 ≤ 120) = true := decide_eq_true c28
                  clear c28
                  have HC29 := Aside0.mk H
                  clear H
                  have hnb30 := NB196_188.out
                  have hnc30 := NB188_196.out
                  have hnb31 := NB196_192.out
                  have hnc31 := NB192_196.out
                  have hcz32_0 : wr.cell? ⟨gb196, 0, none⟩ = some (.int .i64 x197000_3) := (blk_cell BK196.out 0).trans rfl
                  have hcz32_1 : wr.cell? ⟨gb196, 1, none⟩ = some (.int .i64 x197001_3) := (blk_cell BK196.out 1).trans rfl
                  have hfz32_0 := blk_frozen BK196.out 0
                  have hfz32_1 := blk_frozen BK196.out 1
                  go_upto_if 67 with (fail)
                  go_cut [15, 16] (fun v15 v16 wc => ∃ (kq : Nat) (x15_28 : Int) (x16_28 : Int), v15 = .int .i64 x15_28 ∧ v16 = .int .i64 x16_28 ∧ Aside0 (precentorlaw11_RateGrows.j3 kq a0_3 t189 (wrap64 (1 + (Int.tmod (wrap64 (a0_0)) 30))) (wrap64 ((wrap64 (1 + (Int.tmod (wrap64 (a0_0)) 30))) + (Int.tmod (wrap64 (a0_1)) 70))) (wrap64 (1 + (Int.tmod (wrap64 (a0_2)) 100))) x14_3 x15_28 x16_28 x197000_3 x197001_3 = some r) ∧ Aside0 (kq ≤ k3) ∧ Aside0 (wc.heap[gb188]? = some (.cells #[.int .u8 a0_0, .int .u8 a0_1, .int .u8 a0_2, .bool a0_3] 41 (0, 0))) ∧ Aside0 (wc.heap[gb192]? = some (.cells #[.int .i64 t190, .int .i64 t191] 23 (0, 0))) ∧ Aside0 (wc.heap[gb196]? = some (.cells #[.int .i64 x197000_3, .int .i64 x197001_3] 23 (0, 0))) ∧ Aside0 (Below w.heap.size w wc))
                  case first =>
                    have H := HC29.out
                    clear HC29
                    by_cases c33 : a0_3 = true
                    · subst c33
                      have H1 : (precentorlaw11_RateGrows.j3 k3 true t189 (wrap64 (1 + (Int.tmod (wrap64 (a0_0)) 30))) (wrap64 ((wrap64 (1 + (Int.tmod (wrap64 (a0_0)) 30))) + (Int.tmod (wrap64 (a0_1)) 70))) (wrap64 (1 + (Int.tmod (wrap64 (a0_2)) 100))) x14_3 (wrap64 (Int.tdiv x197000_3 2)) 1 x197000_3 x197001_3) = some r := by rw [if_pos rfl] at H; exact H
                      clear H
                      have H := H1
                      clear H1
                      have H' := Aside0.mk H
                      clear H
                      have hnb34 := NB196_188.out
                      have hnc34 := NB188_196.out
                      have hnb35 := NB196_192.out
                      have hnc35 := NB192_196.out
                      have hcz36_0 : wr.cell? ⟨gb196, 0, none⟩ = some (.int .i64 x197000_3) := (blk_cell BK196.out 0).trans rfl
                      have hcz36_1 : wr.cell? ⟨gb196, 1, none⟩ = some (.int .i64 x197001_3) := (blk_cell BK196.out 1).trans rfl
                      have hfz36_0 := blk_frozen BK196.out 0
                      have hfz36_1 := blk_frozen BK196.out 1
                      go_wp2
                      go_meet
                      case rel => exact ⟨_, (wrap64 (Int.tdiv x197000_3 2)), (1), (by first | rfl | (simp; done) | (simp [*]; done)), (by first | rfl | (simp; done) | (simp [*]; done)), H', ⟨by have := HJ4.out; have := HJ22.out; have := HK3.out; first | omega | exact Nat.le_refl _⟩, ⟨by (with_reducible repeat (first | refine blk_drewN ?_ _ | refine blk_drew ?_ | refine blk_alloc ?_ _)); exact BK188.out⟩, ⟨by (with_reducible repeat (first | refine blk_drewN ?_ _ | refine blk_drew ?_ | refine blk_alloc ?_ _)); exact BK192.out⟩, ⟨by (with_reducible repeat (first | refine blk_drewN ?_ _ | refine blk_drew ?_ | refine blk_alloc ?_ _)); exact BK196.out⟩, ⟨by repeat (first | (with_reducible first | exact HB.out | apply below_alloc | apply pw_below_drewN | apply below_drew1 | refine below_set ?_ GE188.out | refine below_set ?_ GE192.out | refine below_set ?_ GE196.out) | exact HB.out)⟩⟩
                    · replace c33 := Bool.eq_false_iff.mpr c33
                      subst c33
                      have H1 : (precentorlaw11_RateGrows.j3 k3 false t189 (wrap64 (1 + (Int.tmod (wrap64 (a0_0)) 30))) (wrap64 ((wrap64 (1 + (Int.tmod (wrap64 (a0_0)) 30))) + (Int.tmod (wrap64 (a0_1)) 70))) (wrap64 (1 + (Int.tmod (wrap64 (a0_2)) 100))) x14_3 (wrap64 (x197000_3 + 1)) 0 x197000_3 x197001_3) = some r := by rw [if_neg (show ¬ (false = true) by decide)] at H; exact H
                      clear H
                      have H := H1
                      clear H1
                      have H' := Aside0.mk H
                      clear H
                      go_wp2
                      go_meet
                      case rel => exact ⟨_, (wrap64 (x197000_3 + 1)), (0), (by first | rfl | (simp; done) | (simp [*]; done)), (by first | rfl | (simp; done) | (simp [*]; done)), H', ⟨by have := HJ4.out; have := HJ22.out; have := HK3.out; first | omega | exact Nat.le_refl _⟩, ⟨by (with_reducible repeat (first | refine blk_drewN ?_ _ | refine blk_drew ?_ | refine blk_alloc ?_ _)); exact BK188.out⟩, ⟨by (with_reducible repeat (first | refine blk_drewN ?_ _ | refine blk_drew ?_ | refine blk_alloc ?_ _)); exact BK192.out⟩, ⟨by (with_reducible repeat (first | refine blk_drewN ?_ _ | refine blk_drew ?_ | refine blk_alloc ?_ _)); exact BK196.out⟩, ⟨by repeat (first | (with_reducible first | exact HB.out | apply below_alloc | apply pw_below_drewN | apply below_drew1 | refine below_set ?_ GE188.out | refine below_set ?_ GE192.out | refine below_set ?_ GE196.out) | exact HB.out)⟩⟩
                  case rest =>
                    clear HC29
                    try clear c1
                    try clear c2
                    try clear p2
                    try clear c3
                    try clear c6
                    try clear p6
                    try clear c7
                    try clear c10
                    try clear c11
                    try clear c12
                    try clear c15
                    try clear c16
                    try clear c18
                    try clear c19
                    try clear c20
                    try clear c22
                    try clear c24
                    try clear c25
                    try clear c26
                    try clear c28
                    try clear c28b0
                    try clear c30
                    try clear c31
                    try clear c33
                    try clear c34
                    try clear c35
                    try clear hcz12_0
                    try clear hcz12_1
                    try clear hcz17_0
                    try clear hcz17_1
                    try clear hcz21_0
                    try clear hcz21_1
                    try clear hcz27_0
                    try clear hcz27_1
                    try clear hcz32_0
                    try clear hcz32_1
                    try clear hcz36_0
                    try clear hcz36_1
                    try clear hcz7_0
                    try clear hcz7_1
                    try clear hcz7_2
                    try clear hcz7_3
                    try clear hfz12_0
                    try clear hfz12_1
                    try clear hfz17_0
                    try clear hfz17_1
                    try clear hfz21_0
                    try clear hfz21_1
                    try clear hfz27_0
                    try clear hfz27_1
                    try clear hfz32_0
                    try clear hfz32_1
                    try clear hfz36_0
                    try clear hfz36_1
                    try clear hfz7_0
                    try clear hfz7_1
                    try clear hfz7_2
                    try clear hfz7_3
                    try clear p2
                    try clear p6
                    obtain ⟨kq, x15_28, x16_28, rfl, rfl, HA, HJ28, BK188, BK192, BK196, HB⟩ := hcut
                    cases kq with
                    | zero => exact absurd HA.out (by simp [precentorlaw11_RateGrows.j3])
                    | succ kj28 =>
                      have H := HA.out
                      clear HA
                      simp only [precentorlaw11_RateGrows.j3] at H
                      have HC37 := Aside0.mk H
                      clear H
                      go_upto_if 73 with (fail)
                      go_cut [15] (fun v15 wc => ∃ (kq : Nat) (x15_36 : Int), v15 = .int .i64 x15_36 ∧ Aside0 (precentorlaw11_RateGrows.j4 kq a0_3 t189 (wrap64 (1 + (Int.tmod (wrap64 (a0_0)) 30))) (wrap64 ((wrap64 (1 + (Int.tmod (wrap64 (a0_0)) 30))) + (Int.tmod (wrap64 (a0_1)) 70))) (wrap64 (1 + (Int.tmod (wrap64 (a0_2)) 100))) x14_3 x15_36 x16_28 x197000_3 x197001_3 = some r) ∧ Aside0 (kq ≤ kj28) ∧ Aside0 (wc.heap[gb188]? = some (.cells #[.int .u8 a0_0, .int .u8 a0_1, .int .u8 a0_2, .bool a0_3] 41 (0, 0))) ∧ Aside0 (wc.heap[gb192]? = some (.cells #[.int .i64 t190, .int .i64 t191] 23 (0, 0))) ∧ Aside0 (wc.heap[gb196]? = some (.cells #[.int .i64 x197000_3, .int .i64 x197001_3] 23 (0, 0))) ∧ Aside0 (Below w.heap.size w wc))
                      case first =>
                        have H := HC37.out
                        clear HC37
                        by_cases c38 : x15_28 > (wrap64 ((wrap64 (1 + (Int.tmod (wrap64 (a0_0)) 30))) + (Int.tmod (wrap64 (a0_1)) 70)))
                        · rw [if_pos c38] at H
                          have c38b0 : decide ((wrap64 ((wrap64 (1 + (Int.tmod (wrap64 (a0_0)) 30))) + (Int.tmod (wrap64 (a0_1)) 70))) < x15_28) = true := decide_eq_true c38
                          clear c38
                          (first | rw [c38b0] | (simp only [i64_w, i32_w]; rw [c38b0]) | skip)
                          have H' := Aside0.mk H
                          clear H
                          go_wp2
                          go_meet
                          case rel => exact ⟨_, ((wrap64 ((wrap64 (1 + (Int.tmod (wrap64 (a0_0)) 30))) + (Int.tmod (wrap64 (a0_1)) 70)))), (by first | rfl | (simp; done) | (simp [*]; done)), H', ⟨by have := HJ4.out; have := HJ22.out; have := HK3.out; have := HJ28.out; first | omega | exact Nat.le_refl _⟩, ⟨by (with_reducible repeat (first | refine blk_drewN ?_ _ | refine blk_drew ?_ | refine blk_alloc ?_ _)); exact BK188.out⟩, ⟨by (with_reducible repeat (first | refine blk_drewN ?_ _ | refine blk_drew ?_ | refine blk_alloc ?_ _)); exact BK192.out⟩, ⟨by (with_reducible repeat (first | refine blk_drewN ?_ _ | refine blk_drew ?_ | refine blk_alloc ?_ _)); exact BK196.out⟩, ⟨by repeat (first | (with_reducible first | exact HB.out | apply below_alloc | apply pw_below_drewN | apply below_drew1 | refine below_set ?_ GE188.out | refine below_set ?_ GE192.out | refine below_set ?_ GE196.out) | exact HB.out)⟩⟩
                        · rw [if_neg c38] at H
                          have c38b0 : decide ((wrap64 ((wrap64 (1 + (Int.tmod (wrap64 (a0_0)) 30))) + (Int.tmod (wrap64 (a0_1)) 70))) < x15_28) = false := decide_eq_false c38
                          clear c38
                          (first | rw [c38b0] | (simp only [i64_w, i32_w]; rw [c38b0]) | skip)
                          have H' := Aside0.mk H
                          clear H
                          go_wp2
                          go_meet
                          case rel => exact ⟨_, (x15_28), (by first | rfl | (simp; done) | (simp [*]; done)), H', ⟨by have := HJ4.out; have := HJ22.out; have := HK3.out; have := HJ28.out; first | omega | exact Nat.le_refl _⟩, ⟨by (with_reducible repeat (first | refine blk_drewN ?_ _ | refine blk_drew ?_ | refine blk_alloc ?_ _)); exact BK188.out⟩, ⟨by (with_reducible repeat (first | refine blk_drewN ?_ _ | refine blk_drew ?_ | refine blk_alloc ?_ _)); exact BK192.out⟩, ⟨by (with_reducible repeat (first | refine blk_drewN ?_ _ | refine blk_drew ?_ | refine blk_alloc ?_ _)); exact BK196.out⟩, ⟨by repeat (first | (with_reducible first | exact HB.out | apply below_alloc | apply pw_below_drewN | apply below_drew1 | refine below_set ?_ GE188.out | refine below_set ?_ GE192.out | refine below_set ?_ GE196.out) | exact HB.out)⟩⟩
                      case rest =>
                        clear HC37
                        try clear c1
                        try clear c2
                        try clear p2
                        try clear c3
                        try clear c6
                        try clear p6
                        try clear c7
                        try clear c10
                        try clear c11
                        try clear c12
                        try clear c15
                        try clear c16
                        try clear c18
                        try clear c19
                        try clear c20
                        try clear c22
                        try clear c24
                        try clear c25
                        try clear c26
                        try clear c28
                        try clear c28b0
                        try clear c30
                        try clear c31
                        try clear c33
                        try clear c34
                        try clear c35
                        try clear c38
                        try clear c38b0
                        try clear hcz12_0
                        try clear hcz12_1
                        try clear hcz17_0
                        try clear hcz17_1
                        try clear hcz21_0
                        try clear hcz21_1
                        try clear hcz27_0
                        try clear hcz27_1
                        try clear hcz32_0
                        try clear hcz32_1
                        try clear hcz36_0
                        try clear hcz36_1
                        try clear hcz7_0
                        try clear hcz7_1
                        try clear hcz7_2
                        try clear hcz7_3
                        try clear hfz12_0
                        try clear hfz12_1
                        try clear hfz17_0
                        try clear hfz17_1
                        try clear hfz21_0
                        try clear hfz21_1
                        try clear hfz27_0
                        try clear hfz27_1
                        try clear hfz32_0
                        try clear hfz32_1
                        try clear hfz36_0
                        try clear hfz36_1
                        try clear hfz7_0
                        try clear hfz7_1
                        try clear hfz7_2
                        try clear hfz7_3
                        try clear p2
                        try clear p6
                        obtain ⟨kq, x15_36, rfl, HA, HJ36, BK188, BK192, BK196, HB⟩ := hcut
                        cases kq with
                        | zero => exact absurd HA.out (by simp [precentorlaw11_RateGrows.j4])
                        | succ kj36 =>
                          have H := HA.out
                          clear HA
                          simp only [precentorlaw11_RateGrows.j4] at H
                          by_cases c39 : x15_36 < (wrap64 (1 + (Int.tmod (wrap64 (a0_0)) 30)))
                          · rw [if_pos c39] at H
                            have c39b0 : decide (x15_36 < (wrap64 (1 + (Int.tmod (wrap64 (a0_0)) 30)))) = true := decide_eq_true c39
                            clear c39
                            replace H := Option.bind_eq_some_iff.mp H
                            obtain ⟨⟨t197, t198⟩, A400, H⟩ := H
                            replace H : (if t197 = (wrap64 (1 + (Int.tmod (wrap64 (a0_0)) 30))) then (if t198 > (wrap64 (1 + (Int.tmod (wrap64 (a0_2)) 100))) then (none) else (if t198 < x197001_3 then (none) else (precentorlaw11_RateGrows.l0 kj36 a0_3 t189 (wrap64 (1 + (Int.tmod (wrap64 (a0_0)) 30))) (wrap64 ((wrap64 (1 + (Int.tmod (wrap64 (a0_0)) 30))) + (Int.tmod (wrap64 (a0_1)) 70))) (wrap64 (1 + (Int.tmod (wrap64 (a0_2)) 100))) (wrap64 (x14_3 + 1)) t197 t198))) else (none)) = some r := H
                            have A40 := Aside0.mk A400
                            clear A400
                            by_cases c41 : t197 = (wrap64 (1 + (Int.tmod (wrap64 (a0_0)) 30)))
                            · rw [if_pos c41] at H
                              have c41b0 : (t197 == (wrap64 (1 + (Int.tmod (wrap64 (a0_0)) 30)))) = true := beq_iff_eq.mpr c41
                              have c41b1 : (t197 != (wrap64 (1 + (Int.tmod (wrap64 (a0_0)) 30)))) = false := bne_eq_false_iff_eq.mpr c41
                              clear c41
                              by_cases c42 : t198 > (wrap64 (1 + (Int.tmod (wrap64 (a0_2)) 100)))
                              · rw [if_pos c42] at H
                                exact absurd H (by simp)
                              · rw [if_neg c42] at H
                                have c42b0 : decide ((wrap64 (1 + (Int.tmod (wrap64 (a0_2)) 100))) < t198) = false := decide_eq_false c42
                                clear c42
                                by_cases c43 : t198 < x197001_3
                                · rw [if_pos c43] at H
                                  exact absurd H (by simp)
                                · rw [if_neg c43] at H
                                  have c43b0 : decide (t198 < x197001_3) = false := decide_eq_false c43
                                  clear c43
                                  have H' := Aside0.mk H
                                  clear H
                                  have hnb44 := NB196_188.out
                                  have hnc44 := NB188_196.out
                                  have hnb45 := NB196_192.out
                                  have hnc45 := NB192_196.out
                                  have hcz46_0 : wc.cell? ⟨gb196, 0, none⟩ = some (.int .i64 x197000_3) := (blk_cell BK196.out 0).trans rfl
                                  have hcz46_1 : wc.cell? ⟨gb196, 1, none⟩ = some (.int .i64 x197001_3) := (blk_cell BK196.out 1).trans rfl
                                  have hfz46_0 := blk_frozen BK196.out 0
                                  have hfz46_1 := blk_frozen BK196.out 1
                                  go_wp2_with (first | ((with_reducible refine gate_callee (f := 14) rfl ?_); refine goesL_ (some 84) rfl rfl Try.func14 (by kernel_rfl) rfl #[.agg #[.int .i64 x197000_3, .int .i64 x197001_3], .int .i64 (wrap64 (1 + (Int.tmod (wrap64 (a0_0)) 30))), .int .i64 (wrap64 ((wrap64 (1 + (Int.tmod (wrap64 (a0_0)) 30))) + (Int.tmod (wrap64 (a0_1)) 70))), .int .i64 (wrap64 (1 + (Int.tmod (wrap64 (a0_2)) 100))), .int .i64 x16_28] rfl (by (try simp only [List.map_toArray, List.map_cons, List.map_nil]); first | done | rfl | (simp only [List.length_drop, List.length_take]; rfl)) ?_; (with_reducible refine (rate_Tick.calls x197000_3 x197001_3 (wrap64 (1 + (Int.tmod (wrap64 (a0_0)) 30))) (wrap64 ((wrap64 (1 + (Int.tmod (wrap64 (a0_0)) 30))) + (Int.tmod (wrap64 (a0_1)) 70))) (wrap64 (1 + (Int.tmod (wrap64 (a0_2)) 100))) x16_28 t197 t198 _ A40.out).mono ?_); rintro e w47 ⟨rfl, hb⟩; refine ⟨_, rfl, ?_⟩; have n0_ := Aside0.mk (blk_below (g := gb188) (o := .cells #[.int .u8 a0_0, .int .u8 a0_1, .int .u8 a0_2, .bool a0_3] 41 (0, 0)) (by (with_reducible repeat (first | refine blk_drewN ?_ _ | refine blk_drew ?_ | refine blk_alloc ?_ _)); exact BK188.out) hb); have n1_ := Aside0.mk (blk_below (g := gb192) (o := .cells #[.int .i64 t190, .int .i64 t191] 23 (0, 0)) (by (with_reducible repeat (first | refine blk_drewN ?_ _ | refine blk_drew ?_ | refine blk_alloc ?_ _)); exact BK192.out) hb); have n2_ := Aside0.mk (blk_below (g := gb196) (o := .cells #[.int .i64 x197000_3, .int .i64 x197001_3] 23 (0, 0)) (by (with_reducible repeat (first | refine blk_drewN ?_ _ | refine blk_drew ?_ | refine blk_alloc ?_ _)); exact BK196.out) hb); have n3_ := Aside0.mk (below_step (by repeat (first | (with_reducible first | exact HB.out | apply below_alloc | apply pw_below_drewN | apply below_drew1 | refine below_set ?_ GE188.out | refine below_set ?_ GE192.out | refine below_set ?_ GE196.out) | exact HB.out)) hb); clear BK188; clear BK192; clear BK196; clear HB; have BK188 := n0_; have BK192 := n1_; have BK196 := n2_; have HB := n3_; clear n0_ n1_ n2_ n3_; (try clear hb); (try clear hb2); (try clear hk); (try clear hi)) | ((with_reducible refine gate_dst (N := 17) rfl ?_); refine box_event ?hg (N := 17) ?hd (cs := #[.int .i64 0, .int .i64 0]) (t := 23) ?hr ?_; (case hd => rfl); (case hg => rfl); (case hr => first | (go_simp; done) | (go_simp; rfl)); intro gb199 hg w48 hbox hb; have n0_ := Aside0.mk (blk_below (g := gb188) (o := .cells #[.int .u8 a0_0, .int .u8 a0_1, .int .u8 a0_2, .bool a0_3] 41 (0, 0)) (by (with_reducible repeat (first | refine blk_drewN ?_ _ | refine blk_drew ?_ | refine blk_alloc ?_ _)); exact BK188.out) hb); have n1_ := Aside0.mk (blk_below (g := gb192) (o := .cells #[.int .i64 t190, .int .i64 t191] 23 (0, 0)) (by (with_reducible repeat (first | refine blk_drewN ?_ _ | refine blk_drew ?_ | refine blk_alloc ?_ _)); exact BK192.out) hb); have n2_ := Aside0.mk (blk_below (g := gb196) (o := .cells #[.int .i64 x197000_3, .int .i64 x197001_3] 23 (0, 0)) (by (with_reducible repeat (first | refine blk_drewN ?_ _ | refine blk_drew ?_ | refine blk_alloc ?_ _)); exact BK196.out) hb); have n3_ := Aside0.mk (below_step (by repeat (first | (with_reducible first | exact HB.out | apply below_alloc | apply pw_below_drewN | apply below_drew1 | refine below_set ?_ GE188.out | refine below_set ?_ GE192.out | refine below_set ?_ GE196.out) | exact HB.out)) hb); have n4_ := Aside0.mk (hbox); have n5_ := Aside0.mk ((by rw [hg]; exact (below_size (by repeat (first | (with_reducible first | exact HB.out | apply below_alloc | apply pw_below_drewN | apply below_drew1 | refine below_set ?_ GE188.out | refine below_set ?_ GE192.out | refine below_set ?_ GE196.out) | exact HB.out))) : w.heap.size ≤ gb199)); have n6_ := Aside0.mk ((by rw [hg]; exact (below_size (by repeat (first | (with_reducible first | exact HB.out | apply below_alloc | apply pw_below_drewN | apply below_drew1 | refine below_set ?_ GE188.out | refine below_set ?_ GE192.out | refine below_set ?_ GE196.out) | exact HB.out))) : w.heap.size ≤ gb199)); have n7_ := Aside0.mk ((by rw [hg]; exact Nat.ne_of_lt (blk_lt (g := gb188) (o := .cells #[.int .u8 a0_0, .int .u8 a0_1, .int .u8 a0_2, .bool a0_3] 41 (0, 0)) (by (with_reducible repeat (first | refine blk_drewN ?_ _ | refine blk_drew ?_ | refine blk_alloc ?_ _)); exact BK188.out)) : gb188 ≠ gb199)); have n8_ := Aside0.mk ((by rw [hg]; exact Nat.ne_of_gt (blk_lt (g := gb188) (o := .cells #[.int .u8 a0_0, .int .u8 a0_1, .int .u8 a0_2, .bool a0_3] 41 (0, 0)) (by (with_reducible repeat (first | refine blk_drewN ?_ _ | refine blk_drew ?_ | refine blk_alloc ?_ _)); exact BK188.out)) : gb199 ≠ gb188)); have n9_ := Aside0.mk ((by rw [hg]; exact Nat.ne_of_lt (blk_lt (g := gb192) (o := .cells #[.int .i64 t190, .int .i64 t191] 23 (0, 0)) (by (with_reducible repeat (first | refine blk_drewN ?_ _ | refine blk_drew ?_ | refine blk_alloc ?_ _)); exact BK192.out)) : gb192 ≠ gb199)); have n10_ := Aside0.mk ((by rw [hg]; exact Nat.ne_of_gt (blk_lt (g := gb192) (o := .cells #[.int .i64 t190, .int .i64 t191] 23 (0, 0)) (by (with_reducible repeat (first | refine blk_drewN ?_ _ | refine blk_drew ?_ | refine blk_alloc ?_ _)); exact BK192.out)) : gb199 ≠ gb192)); have n11_ := Aside0.mk ((by rw [hg]; exact Nat.ne_of_lt (blk_lt (g := gb196) (o := .cells #[.int .i64 x197000_3, .int .i64 x197001_3] 23 (0, 0)) (by (with_reducible repeat (first | refine blk_drewN ?_ _ | refine blk_drew ?_ | refine blk_alloc ?_ _)); exact BK196.out)) : gb196 ≠ gb199)); have n12_ := Aside0.mk ((by rw [hg]; exact Nat.ne_of_gt (blk_lt (g := gb196) (o := .cells #[.int .i64 x197000_3, .int .i64 x197001_3] 23 (0, 0)) (by (with_reducible repeat (first | refine blk_drewN ?_ _ | refine blk_drew ?_ | refine blk_alloc ?_ _)); exact BK196.out)) : gb199 ≠ gb196)); clear BK188; clear BK192; clear BK196; clear HB; have BK188 := n0_; have BK192 := n1_; have BK196 := n2_; have HB := n3_; have BK199 := n4_; have GW199 := n5_; have GE199 := n6_; have NB188_199 := n7_; have NB199_188 := n8_; have NB192_199 := n9_; have NB199_192 := n10_; have NB196_199 := n11_; have NB199_196 := n12_; clear n0_ n1_ n2_ n3_ n4_ n5_ n6_ n7_ n8_ n9_ n10_ n11_ n12_; clear hb hbox hg; have hnb49 := NB199_188.out; have hnc49 := NB188_199.out; have hnb50 := NB199_192.out; have hnc50 := NB192_199.out; have hnb51 := NB199_196.out; have hnc51 := NB196_199.out; have hcz52_0 : w48.cell? ⟨gb199, 0, none⟩ = some (.int .i64 0) := (blk_cell BK199.out 0).trans rfl; have hcz52_1 : w48.cell? ⟨gb199, 1, none⟩ = some (.int .i64 0) := (blk_cell BK199.out 1).trans rfl; have hfz52_0 := blk_frozen BK199.out 0; have hfz52_1 := blk_frozen BK199.out 1; have hcz53_0 : w48.cell? ⟨gb196, 0, none⟩ = some (.int .i64 x197000_3) := (blk_cell BK196.out 0).trans rfl; have hcz53_1 : w48.cell? ⟨gb196, 1, none⟩ = some (.int .i64 x197001_3) := (blk_cell BK196.out 1).trans rfl; have hfz53_0 := blk_frozen BK196.out 0; have hfz53_1 := blk_frozen BK196.out 1))
                                  go_roundg kj36
                                  case measure => have := HJ4.out; have := HJ22.out; have := HK3.out; have := HJ28.out; have := HJ36.out; omega
                                  case rel => exact ⟨(wrap64 (x14_3 + 1)), (t197), (t198), (by first | rfl | (simp; done) | (simp [*]; done)), H', ⟨by have := HJ4.out; have := HJ22.out; have := HK3.out; have := HJ28.out; have := HJ36.out; omega⟩, ⟨by (with_reducible repeat (first | refine blk_drewN ?_ _ | refine blk_drew ?_ | refine blk_alloc ?_ _)); refine blk_far ?_ NB188_196.out _; (with_reducible repeat (first | refine blk_drewN ?_ _ | refine blk_drew ?_ | refine blk_alloc ?_ _)); refine blk_far ?_ NB188_196.out _; (with_reducible repeat (first | refine blk_drewN ?_ _ | refine blk_drew ?_ | refine blk_alloc ?_ _)); refine blk_far ?_ NB188_199.out _; (with_reducible repeat (first | refine blk_drewN ?_ _ | refine blk_drew ?_ | refine blk_alloc ?_ _)); refine blk_far ?_ NB188_199.out _; (with_reducible repeat (first | refine blk_drewN ?_ _ | refine blk_drew ?_ | refine blk_alloc ?_ _)); exact BK188.out⟩, ⟨by (with_reducible repeat (first | refine blk_drewN ?_ _ | refine blk_drew ?_ | refine blk_alloc ?_ _)); refine blk_far ?_ NB192_196.out _; (with_reducible repeat (first | refine blk_drewN ?_ _ | refine blk_drew ?_ | refine blk_alloc ?_ _)); refine blk_far ?_ NB192_196.out _; (with_reducible repeat (first | refine blk_drewN ?_ _ | refine blk_drew ?_ | refine blk_alloc ?_ _)); refine blk_far ?_ NB192_199.out _; (with_reducible repeat (first | refine blk_drewN ?_ _ | refine blk_drew ?_ | refine blk_alloc ?_ _)); refine blk_far ?_ NB192_199.out _; (with_reducible repeat (first | refine blk_drewN ?_ _ | refine blk_drew ?_ | refine blk_alloc ?_ _)); exact BK192.out⟩, ⟨by (with_reducible repeat (first | refine blk_drewN ?_ _ | refine blk_drew ?_ | refine blk_alloc ?_ _)); refine blk_put (cs := #[.int .i64 t197, .int .i64 x197001_3]) ?_ 1 _ rfl; (with_reducible repeat (first | refine blk_drewN ?_ _ | refine blk_drew ?_ | refine blk_alloc ?_ _)); refine blk_put (cs := #[.int .i64 x197000_3, .int .i64 x197001_3]) ?_ 0 _ rfl; (with_reducible repeat (first | refine blk_drewN ?_ _ | refine blk_drew ?_ | refine blk_alloc ?_ _)); refine blk_far ?_ NB196_199.out _; (with_reducible repeat (first | refine blk_drewN ?_ _ | refine blk_drew ?_ | refine blk_alloc ?_ _)); refine blk_far ?_ NB196_199.out _; (with_reducible repeat (first | refine blk_drewN ?_ _ | refine blk_drew ?_ | refine blk_alloc ?_ _)); exact BK196.out⟩, ⟨by repeat (first | (with_reducible first | exact HB.out | apply below_alloc | apply pw_below_drewN | apply below_drew1 | refine below_set ?_ GE188.out | refine below_set ?_ GE192.out | refine below_set ?_ GE196.out | refine below_set ?_ GE199.out) | exact HB.out)⟩⟩
                            · rw [if_neg c41] at H
                              exact absurd H (by simp)
                          · rw [if_neg c39] at H
                            have c39b0 : decide (x15_36 < (wrap64 (1 + (Int.tmod (wrap64 (a0_0)) 30)))) = false := decide_eq_false c39
                            clear c39
                            replace H := Option.bind_eq_some_iff.mp H
                            obtain ⟨⟨t200, t201⟩, A540, H⟩ := H
                            replace H : (if t200 = x15_36 then (if t201 > (wrap64 (1 + (Int.tmod (wrap64 (a0_2)) 100))) then (none) else (if t201 < x197001_3 then (none) else (precentorlaw11_RateGrows.l0 kj36 a0_3 t189 (wrap64 (1 + (Int.tmod (wrap64 (a0_0)) 30))) (wrap64 ((wrap64 (1 + (Int.tmod (wrap64 (a0_0)) 30))) + (Int.tmod (wrap64 (a0_1)) 70))) (wrap64 (1 + (Int.tmod (wrap64 (a0_2)) 100))) (wrap64 (x14_3 + 1)) t200 t201))) else (none)) = some r := H
                            have A54 := Aside0.mk A540
                            clear A540
                            by_cases c55 : t200 = x15_36
                            · rw [if_pos c55] at H
                              have c55b0 : (t200 == x15_36) = true := beq_iff_eq.mpr c55
                              have c55b1 : (t200 != x15_36) = false := bne_eq_false_iff_eq.mpr c55
                              clear c55
                              by_cases c56 : t201 > (wrap64 (1 + (Int.tmod (wrap64 (a0_2)) 100)))
                              · rw [if_pos c56] at H
                                exact absurd H (by simp)
                              · rw [if_neg c56] at H
                                have c56b0 : decide ((wrap64 (1 + (Int.tmod (wrap64 (a0_2)) 100))) < t201) = false := decide_eq_false c56
                                clear c56
                                by_cases c57 : t201 < x197001_3
                                · rw [if_pos c57] at H
                                  exact absurd H (by simp)
                                · rw [if_neg c57] at H
                                  have c57b0 : decide (t201 < x197001_3) = false := decide_eq_false c57
                                  clear c57
                                  have H' := Aside0.mk H
                                  clear H
                                  have hnb58 := NB196_188.out
                                  have hnc58 := NB188_196.out
                                  have hnb59 := NB196_192.out
                                  have hnc59 := NB192_196.out
                                  have hcz60_0 : wc.cell? ⟨gb196, 0, none⟩ = some (.int .i64 x197000_3) := (blk_cell BK196.out 0).trans rfl
                                  have hcz60_1 : wc.cell? ⟨gb196, 1, none⟩ = some (.int .i64 x197001_3) := (blk_cell BK196.out 1).trans rfl
                                  have hfz60_0 := blk_frozen BK196.out 0
                                  have hfz60_1 := blk_frozen BK196.out 1
                                  go_wp2_with (first | ((with_reducible refine gate_callee (f := 14) rfl ?_); refine goesL_ (some 84) rfl rfl Try.func14 (by kernel_rfl) rfl #[.agg #[.int .i64 x197000_3, .int .i64 x197001_3], .int .i64 (wrap64 (1 + (Int.tmod (wrap64 (a0_0)) 30))), .int .i64 (wrap64 ((wrap64 (1 + (Int.tmod (wrap64 (a0_0)) 30))) + (Int.tmod (wrap64 (a0_1)) 70))), .int .i64 (wrap64 (1 + (Int.tmod (wrap64 (a0_2)) 100))), .int .i64 x16_28] rfl (by (try simp only [List.map_toArray, List.map_cons, List.map_nil]); first | done | rfl | (simp only [List.length_drop, List.length_take]; rfl)) ?_; (with_reducible refine (rate_Tick.calls x197000_3 x197001_3 (wrap64 (1 + (Int.tmod (wrap64 (a0_0)) 30))) (wrap64 ((wrap64 (1 + (Int.tmod (wrap64 (a0_0)) 30))) + (Int.tmod (wrap64 (a0_1)) 70))) (wrap64 (1 + (Int.tmod (wrap64 (a0_2)) 100))) x16_28 t200 t201 _ A54.out).mono ?_); rintro e w61 ⟨rfl, hb⟩; refine ⟨_, rfl, ?_⟩; have n0_ := Aside0.mk (blk_below (g := gb188) (o := .cells #[.int .u8 a0_0, .int .u8 a0_1, .int .u8 a0_2, .bool a0_3] 41 (0, 0)) (by (with_reducible repeat (first | refine blk_drewN ?_ _ | refine blk_drew ?_ | refine blk_alloc ?_ _)); exact BK188.out) hb); have n1_ := Aside0.mk (blk_below (g := gb192) (o := .cells #[.int .i64 t190, .int .i64 t191] 23 (0, 0)) (by (with_reducible repeat (first | refine blk_drewN ?_ _ | refine blk_drew ?_ | refine blk_alloc ?_ _)); exact BK192.out) hb); have n2_ := Aside0.mk (blk_below (g := gb196) (o := .cells #[.int .i64 x197000_3, .int .i64 x197001_3] 23 (0, 0)) (by (with_reducible repeat (first | refine blk_drewN ?_ _ | refine blk_drew ?_ | refine blk_alloc ?_ _)); exact BK196.out) hb); have n3_ := Aside0.mk (below_step (by repeat (first | (with_reducible first | exact HB.out | apply below_alloc | apply pw_below_drewN | apply below_drew1 | refine below_set ?_ GE188.out | refine below_set ?_ GE192.out | refine below_set ?_ GE196.out) | exact HB.out)) hb); clear BK188; clear BK192; clear BK196; clear HB; have BK188 := n0_; have BK192 := n1_; have BK196 := n2_; have HB := n3_; clear n0_ n1_ n2_ n3_; (try clear hb); (try clear hb2); (try clear hk); (try clear hi)) | ((with_reducible refine gate_dst (N := 17) rfl ?_); refine box_event ?hg (N := 17) ?hd (cs := #[.int .i64 0, .int .i64 0]) (t := 23) ?hr ?_; (case hd => rfl); (case hg => rfl); (case hr => first | (go_simp; done) | (go_simp; rfl)); intro gb202 hg w62 hbox hb; have n0_ := Aside0.mk (blk_below (g := gb188) (o := .cells #[.int .u8 a0_0, .int .u8 a0_1, .int .u8 a0_2, .bool a0_3] 41 (0, 0)) (by (with_reducible repeat (first | refine blk_drewN ?_ _ | refine blk_drew ?_ | refine blk_alloc ?_ _)); exact BK188.out) hb); have n1_ := Aside0.mk (blk_below (g := gb192) (o := .cells #[.int .i64 t190, .int .i64 t191] 23 (0, 0)) (by (with_reducible repeat (first | refine blk_drewN ?_ _ | refine blk_drew ?_ | refine blk_alloc ?_ _)); exact BK192.out) hb); have n2_ := Aside0.mk (blk_below (g := gb196) (o := .cells #[.int .i64 x197000_3, .int .i64 x197001_3] 23 (0, 0)) (by (with_reducible repeat (first | refine blk_drewN ?_ _ | refine blk_drew ?_ | refine blk_alloc ?_ _)); exact BK196.out) hb); have n3_ := Aside0.mk (below_step (by repeat (first | (with_reducible first | exact HB.out | apply below_alloc | apply pw_below_drewN | apply below_drew1 | refine below_set ?_ GE188.out | refine below_set ?_ GE192.out | refine below_set ?_ GE196.out) | exact HB.out)) hb); have n4_ := Aside0.mk (hbox); have n5_ := Aside0.mk ((by rw [hg]; exact (below_size (by repeat (first | (with_reducible first | exact HB.out | apply below_alloc | apply pw_below_drewN | apply below_drew1 | refine below_set ?_ GE188.out | refine below_set ?_ GE192.out | refine below_set ?_ GE196.out) | exact HB.out))) : w.heap.size ≤ gb202)); have n6_ := Aside0.mk ((by rw [hg]; exact (below_size (by repeat (first | (with_reducible first | exact HB.out | apply below_alloc | apply pw_below_drewN | apply below_drew1 | refine below_set ?_ GE188.out | refine below_set ?_ GE192.out | refine below_set ?_ GE196.out) | exact HB.out))) : w.heap.size ≤ gb202)); have n7_ := Aside0.mk ((by rw [hg]; exact Nat.ne_of_lt (blk_lt (g := gb188) (o := .cells #[.int .u8 a0_0, .int .u8 a0_1, .int .u8 a0_2, .bool a0_3] 41 (0, 0)) (by (with_reducible repeat (first | refine blk_drewN ?_ _ | refine blk_drew ?_ | refine blk_alloc ?_ _)); exact BK188.out)) : gb188 ≠ gb202)); have n8_ := Aside0.mk ((by rw [hg]; exact Nat.ne_of_gt (blk_lt (g := gb188) (o := .cells #[.int .u8 a0_0, .int .u8 a0_1, .int .u8 a0_2, .bool a0_3] 41 (0, 0)) (by (with_reducible repeat (first | refine blk_drewN ?_ _ | refine blk_drew ?_ | refine blk_alloc ?_ _)); exact BK188.out)) : gb202 ≠ gb188)); have n9_ := Aside0.mk ((by rw [hg]; exact Nat.ne_of_lt (blk_lt (g := gb192) (o := .cells #[.int .i64 t190, .int .i64 t191] 23 (0, 0)) (by (with_reducible repeat (first | refine blk_drewN ?_ _ | refine blk_drew ?_ | refine blk_alloc ?_ _)); exact BK192.out)) : gb192 ≠ gb202)); have n10_ := Aside0.mk ((by rw [hg]; exact Nat.ne_of_gt (blk_lt (g := gb192) (o := .cells #[.int .i64 t190, .int .i64 t191] 23 (0, 0)) (by (with_reducible repeat (first | refine blk_drewN ?_ _ | refine blk_drew ?_ | refine blk_alloc ?_ _)); exact BK192.out)) : gb202 ≠ gb192)); have n11_ := Aside0.mk ((by rw [hg]; exact Nat.ne_of_lt (blk_lt (g := gb196) (o := .cells #[.int .i64 x197000_3, .int .i64 x197001_3] 23 (0, 0)) (by (with_reducible repeat (first | refine blk_drewN ?_ _ | refine blk_drew ?_ | refine blk_alloc ?_ _)); exact BK196.out)) : gb196 ≠ gb202)); have n12_ := Aside0.mk ((by rw [hg]; exact Nat.ne_of_gt (blk_lt (g := gb196) (o := .cells #[.int .i64 x197000_3, .int .i64 x197001_3] 23 (0, 0)) (by (with_reducible repeat (first | refine blk_drewN ?_ _ | refine blk_drew ?_ | refine blk_alloc ?_ _)); exact BK196.out)) : gb202 ≠ gb196)); clear BK188; clear BK192; clear BK196; clear HB; have BK188 := n0_; have BK192 := n1_; have BK196 := n2_; have HB := n3_; have BK202 := n4_; have GW202 := n5_; have GE202 := n6_; have NB188_202 := n7_; have NB202_188 := n8_; have NB192_202 := n9_; have NB202_192 := n10_; have NB196_202 := n11_; have NB202_196 := n12_; clear n0_ n1_ n2_ n3_ n4_ n5_ n6_ n7_ n8_ n9_ n10_ n11_ n12_; clear hb hbox hg; have hnb63 := NB202_188.out; have hnc63 := NB188_202.out; have hnb64 := NB202_192.out; have hnc64 := NB192_202.out; have hnb65 := NB202_196.out; have hnc65 := NB196_202.out; have hcz66_0 : w62.cell? ⟨gb202, 0, none⟩ = some (.int .i64 0) := (blk_cell BK202.out 0).trans rfl; have hcz66_1 : w62.cell? ⟨gb202, 1, none⟩ = some (.int .i64 0) := (blk_cell BK202.out 1).trans rfl; have hfz66_0 := blk_frozen BK202.out 0; have hfz66_1 := blk_frozen BK202.out 1; have hcz67_0 : w62.cell? ⟨gb196, 0, none⟩ = some (.int .i64 x197000_3) := (blk_cell BK196.out 0).trans rfl; have hcz67_1 : w62.cell? ⟨gb196, 1, none⟩ = some (.int .i64 x197001_3) := (blk_cell BK196.out 1).trans rfl; have hfz67_0 := blk_frozen BK196.out 0; have hfz67_1 := blk_frozen BK196.out 1))
                                  go_roundg kj36
                                  case measure => have := HJ4.out; have := HJ22.out; have := HK3.out; have := HJ28.out; have := HJ36.out; omega
                                  case rel => exact ⟨(wrap64 (x14_3 + 1)), (t200), (t201), (by first | rfl | (simp; done) | (simp [*]; done)), H', ⟨by have := HJ4.out; have := HJ22.out; have := HK3.out; have := HJ28.out; have := HJ36.out; omega⟩, ⟨by (with_reducible repeat (first | refine blk_drewN ?_ _ | refine blk_drew ?_ | refine blk_alloc ?_ _)); refine blk_far ?_ NB188_196.out _; (with_reducible repeat (first | refine blk_drewN ?_ _ | refine blk_drew ?_ | refine blk_alloc ?_ _)); refine blk_far ?_ NB188_196.out _; (with_reducible repeat (first | refine blk_drewN ?_ _ | refine blk_drew ?_ | refine blk_alloc ?_ _)); refine blk_far ?_ NB188_202.out _; (with_reducible repeat (first | refine blk_drewN ?_ _ | refine blk_drew ?_ | refine blk_alloc ?_ _)); refine blk_far ?_ NB188_202.out _; (with_reducible repeat (first | refine blk_drewN ?_ _ | refine blk_drew ?_ | refine blk_alloc ?_ _)); exact BK188.out⟩, ⟨by (with_reducible repeat (first | refine blk_drewN ?_ _ | refine blk_drew ?_ | refine blk_alloc ?_ _)); refine blk_far ?_ NB192_196.out _; (with_reducible repeat (first | refine blk_drewN ?_ _ | refine blk_drew ?_ | refine blk_alloc ?_ _)); refine blk_far ?_ NB192_196.out _; (with_reducible repeat (first | refine blk_drewN ?_ _ | refine blk_drew ?_ | refine blk_alloc ?_ _)); refine blk_far ?_ NB192_202.out _; (with_reducible repeat (first | refine blk_drewN ?_ _ | refine blk_drew ?_ | refine blk_alloc ?_ _)); refine blk_far ?_ NB192_202.out _; (with_reducible repeat (first | refine blk_drewN ?_ _ | refine blk_drew ?_ | refine blk_alloc ?_ _)); exact BK192.out⟩, ⟨by (with_reducible repeat (first | refine blk_drewN ?_ _ | refine blk_drew ?_ | refine blk_alloc ?_ _)); refine blk_put (cs := #[.int .i64 t200, .int .i64 x197001_3]) ?_ 1 _ rfl; (with_reducible repeat (first | refine blk_drewN ?_ _ | refine blk_drew ?_ | refine blk_alloc ?_ _)); refine blk_put (cs := #[.int .i64 x197000_3, .int .i64 x197001_3]) ?_ 0 _ rfl; (with_reducible repeat (first | refine blk_drewN ?_ _ | refine blk_drew ?_ | refine blk_alloc ?_ _)); refine blk_far ?_ NB196_202.out _; (with_reducible repeat (first | refine blk_drewN ?_ _ | refine blk_drew ?_ | refine blk_alloc ?_ _)); refine blk_far ?_ NB196_202.out _; (with_reducible repeat (first | refine blk_drewN ?_ _ | refine blk_drew ?_ | refine blk_alloc ?_ _)); exact BK196.out⟩, ⟨by repeat (first | (with_reducible first | exact HB.out | apply below_alloc | apply pw_below_drewN | apply below_drew1 | refine below_set ?_ GE188.out | refine below_set ?_ GE192.out | refine below_set ?_ GE196.out | refine below_set ?_ GE202.out) | exact HB.out)⟩⟩
                            · rw [if_neg c55] at H
                              exact absurd H (by simp)
                · rw [if_neg c28] at H
                  have c28b0 : decide (x14_3 ≤ 120) = false := decide_eq_false c28
                  clear c28
                  by_cases c68 : t189 = true
                  · subst c68
                    have H1 : (if x197001_3 = (wrap64 (1 + (Int.tmod (wrap64 (a0_2)) 100))) then (if a0_3 = true then (if x197000_3 = (wrap64 (1 + (Int.tmod (wrap64 (a0_0)) 30))) then (some true) else (none)) else (some (x197000_3 == (wrap64 ((wrap64 (1 + (Int.tmod (wrap64 (a0_0)) 30))) + (Int.tmod (wrap64 (a0_1)) 70)))))) else (none)) = some r := by rw [if_pos rfl] at H; exact H
                    clear H
                    have H := H1
                    clear H1
                    by_cases c69 : x197001_3 = (wrap64 (1 + (Int.tmod (wrap64 (a0_2)) 100)))
                    · rw [if_pos c69] at H
                      have c69b0 : (x197001_3 == (wrap64 (1 + (Int.tmod (wrap64 (a0_2)) 100)))) = true := beq_iff_eq.mpr c69
                      have c69b1 : (x197001_3 != (wrap64 (1 + (Int.tmod (wrap64 (a0_2)) 100)))) = false := bne_eq_false_iff_eq.mpr c69
                      clear c69
                      by_cases c70 : a0_3 = true
                      · subst c70
                        have H1 : (if x197000_3 = (wrap64 (1 + (Int.tmod (wrap64 (a0_0)) 30))) then (some true) else (none)) = some r := by rw [if_pos rfl] at H; exact H
                        clear H
                        have H := H1
                        clear H1
                        by_cases c71 : x197000_3 = (wrap64 (1 + (Int.tmod (wrap64 (a0_0)) 30)))
                        · rw [if_pos c71] at H
                          have c71b0 : (x197000_3 == (wrap64 (1 + (Int.tmod (wrap64 (a0_0)) 30)))) = true := beq_iff_eq.mpr c71
                          have c71b1 : (x197000_3 != (wrap64 (1 + (Int.tmod (wrap64 (a0_0)) 30)))) = false := bne_eq_false_iff_eq.mpr c71
                          clear c71
                          obtain rfl := Option.some.inj H
                          have hnb72 := NB196_188.out
                          have hnc72 := NB188_196.out
                          have hnb73 := NB196_192.out
                          have hnc73 := NB192_196.out
                          have hcz74_0 : wr.cell? ⟨gb196, 0, none⟩ = some (.int .i64 x197000_3) := (blk_cell BK196.out 0).trans rfl
                          have hcz74_1 : wr.cell? ⟨gb196, 1, none⟩ = some (.int .i64 x197001_3) := (blk_cell BK196.out 1).trans rfl
                          have hfz74_0 := blk_frozen BK196.out 0
                          have hfz74_1 := blk_frozen BK196.out 1
                          go_wp2
                          go_ret
                          exact ⟨by first | rfl | (simp [errW_none, errW_some] <;> rfl) | (simp [*, errW_none, errW_some] <;> rfl), by repeat (first | (with_reducible first | exact HB.out | apply below_alloc | apply pw_below_drewN | apply below_drew1 | refine below_set ?_ GE188.out | refine below_set ?_ GE192.out | refine below_set ?_ GE196.out) | exact HB.out)⟩
                        · rw [if_neg c71] at H
                          exact absurd H (by simp)
                      · replace c70 := Bool.eq_false_iff.mpr c70
                        subst c70
                        have H1 : (some (x197000_3 == (wrap64 ((wrap64 (1 + (Int.tmod (wrap64 (a0_0)) 30))) + (Int.tmod (wrap64 (a0_1)) 70))))) = some r := by rw [if_neg (show ¬ (false = true) by decide)] at H; exact H
                        clear H
                        have H := H1
                        clear H1
                        obtain rfl := Option.some.inj H
                        have hnb75 := NB196_188.out
                        have hnc75 := NB188_196.out
                        have hnb76 := NB196_192.out
                        have hnc76 := NB192_196.out
                        have hcz77_0 : wr.cell? ⟨gb196, 0, none⟩ = some (.int .i64 x197000_3) := (blk_cell BK196.out 0).trans rfl
                        have hcz77_1 : wr.cell? ⟨gb196, 1, none⟩ = some (.int .i64 x197001_3) := (blk_cell BK196.out 1).trans rfl
                        have hfz77_0 := blk_frozen BK196.out 0
                        have hfz77_1 := blk_frozen BK196.out 1
                        go_wp2
                        go_ret
                        exact ⟨by first | rfl | (simp [errW_none, errW_some] <;> rfl) | (simp [*, errW_none, errW_some] <;> rfl), by repeat (first | (with_reducible first | exact HB.out | apply below_alloc | apply pw_below_drewN | apply below_drew1 | refine below_set ?_ GE188.out | refine below_set ?_ GE192.out | refine below_set ?_ GE196.out) | exact HB.out)⟩
                    · rw [if_neg c69] at H
                      exact absurd H (by simp)
                  · replace c68 := Bool.eq_false_iff.mpr c68
                    subst c68
                    have H1 : (none) = some r := by rw [if_neg (show ¬ (false = true) by decide)] at H; exact H
                    clear H
                    have H := H1
                    clear H1
                    exact absurd H (by simp)

end Go.Proofs.Ytahkcncgcidghaa.Print
