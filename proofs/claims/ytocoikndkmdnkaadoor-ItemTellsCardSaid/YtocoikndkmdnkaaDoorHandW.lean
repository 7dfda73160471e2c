/- The document's example of chapter 03 is shown: the call returns true, and memory that was there is as it was. Conditions stand in each theorem. -/
import Derived.Test.YtocoikndkmdnkaaDoorHandS
import Derived.Test.YtocoikndkmdnkaaDoorHand8
import Derived.Test.YtocoikndkmdnkaaDoorHand9
namespace Go.Proofs.YtocoikndkmdnkaaDoor.Print
set_option linter.unusedVariables false
set_option linter.unusedSimpArgs false
open Go.RowKit Go.Proofs.YtocoikndkmdnkaaDoorW.PrintWords Go.Proofs.YtocoikndkmdnkaaDoorW.PrintLast Go.Proofs.YtocoikndkmdnkaaDoorW.PrintMore Go.Proofs.YtocoikndkmdnkaaDoor.NumPlain
def precentorlaw03_shown.f : Option Bool := some true
def exb : List Int := [3, 0, 0, 0, 0, 0, 0, 0, 2, 0, 0, 0, 0, 0, 0, 0, 1]
theorem ex_bytes : item_Bytes.f 3 2 1 0 0 0 [] [] = some exb := by decide +kernel
theorem ex_bytes0 : item_Bytes.f 0 0 0 0 0 0 [] [] = some [] := by decide +kernel
theorem ex_take : item_Take.f exb = some (3, 2, 1, 0, 0, 0, [], [], 0) := by kernel_rfl
theorem ex_take2 : item_Take.f (exb ++ [0]) = some (0, 0, 0, 0, 0, 0, [], [], 2) := by kernel_rfl
theorem ex_may : item_May.f 3 2 1 0 0 0 [] [] = some true := by decide +kernel
theorem ex_may0 : item_May.f 0 0 0 0 0 0 [] [] = some false := by decide +kernel
theorem ex_same : item_Same.f 3 2 1 0 0 0 [] [] 3 2 1 0 0 0 [] [] = some true := by decide +kernel
theorem ex_same0 : item_Same.f 3 2 1 0 0 0 [] [] 0 0 0 0 0 0 [] [] = some false := by decide +kernel
theorem ex_str : strOfNums exb = { data := #[3, 0, 0, 0, 0, 0, 0, 0, 2, 0, 0, 0, 0, 0, 0, 0, 1] } := by decide +kernel
theorem nilC (k : Kd Int) (w : World) : Kd.C k w none 0 [] := by
  obtain ⟨A, c, h, _, hC⟩ := Kd.R_reads (Kd.R_nil k 0 w 0 (fun _ => True))
  obtain ⟨rfl, _, _⟩ := Value.slice.inj h
  exact hC
theorem nilR {k : Kd Int} {e b : Nat} {w : World} {ok : Nat → Prop} {v : Value} (h : Kd.R k e w b ok v []) : ∃ A c, v = .slice A 0 c ∧ Kd.C k w A 0 [] := by
  obtain ⟨A, c, h, _, hC⟩ := Kd.R_reads h
  exact ⟨A, c, h, hC⟩
theorem build0w (W : World) : (Instr.buildSlice 23 0 #[]).run Tryd.prog W = .ok (.slice (some ⟨W.heap.size, 0, none⟩) 0 0) (W.alloc (.cells #[] 5)) := by
  have h : Sem.run Tryd.prog (pure (#[] : Array Value)) (W.alloc (Obj.cells #[] 5)) = Result.ok #[] (W.alloc (Obj.cells #[] 5)) := rfl
  simp [go_sem, Tryd.underlying23, info5, h]
set_option maxRecDepth 100000 in
set_option maxHeartbeats 4000000 in
theorem precentorlaw03_shown.calls (r : Bool) (w : World) (hG : GB w) (h : precentorlaw03_shown.f = some r) :
    Calls Tryd.prog 9 #[] w fun e w' => e = .returned (.bool r) ∧ Below w.heap.size w w' := by
  obtain rfl := Option.some.inj h
  clear h
  have HG := Lib.hid hG
  clear hG
  obtain ⟨w0, hw0, hB0, hs0, X0⟩ := boxed1 w (.int .i64 0) (.int .i64 0) (.int .i64 0) (.int .i64 0) (.int .i64 0) (.int .i64 0) (.slice none 0 0) (.slice none 0 0)
  obtain ⟨⟨q0, q1, q2, q3, q4, q5, q6, q7⟩, ⟨p0, p1, p2, p3, p4, p5, p6, p7⟩⟩ := cells8 X0
  have HB0 := Aside0.mk hB0
  have HX0 := Aside0.mk X0
  clear hB0 hs0 X0
  go_enter Tryd.func9, Tryd.ntmps9
  go_upto_region 2 with fail
  clear q0 q1 q2 q3 q4 q5 q6 q7 p0 p1 p2 p3 p4 p5 p6 p7
  obtain ⟨w1, hw1, X1, hmv⟩ := box8 HX0.out (.int .i64 3) (.int .i64 2) (.int .i64 1) (.int .i64 0) (.int .i64 0) (.int .i64 0) (.slice none 0 0) (.slice none 0 0)
  rw [hw1]
  clear hw1 hw0
  have HB := Aside0.mk (show Below w.heap.size w w1 from Mv.to HB0.out hmv (fun k hk => by omega) HB0.out.size)
  have HX1 := Aside0.mk X1
  clear X1 hmv HX0 HB0 w0
  have HCT := Lib.hid (show Calls Tryd.prog 17 #[.agg #[.int .i64 3, .int .i64 2, .int .i64 1, .int .i64 0, .int .i64 0, .int .i64 0, .slice none 0 0, .slice none 0 0]] w1 _ from item_Bytes.calls 3 2 1 0 0 0 none 0 [] none 0 [] _ w1 (nilC _ _) (Nat.le_refl _) (nilC _ _) (Nat.le_refl _) (GB.below HG.out HB.out) ex_bytes)
  obtain ⟨⟨q0, q1, q2, q3, q4, q5, q6, q7⟩, ⟨p0, p1, p2, p3, p4, p5, p6, p7⟩⟩ := cells8 HX1.out
  go_wp2_with fail
  refine HCT.out.mono ?_
  rintro e w2 ⟨v2, rfl, hr, hb⟩
  obtain ⟨A2, c2, rfl, hl2, hC2⟩ := Kd.R_reads hr
  obtain ⟨bb, hbb⟩ : ∃ bb, exb = bb := ⟨_, rfl⟩
  rw [hbb] at hl2 hC2 ⊢
  have HEB := Lib.hid hbb
  have n1 := Aside0.mk (below_step HB.out hb)
  have n2 := Aside0.mk (blk_below HX1.out hb)
  clear HB HX1 hr hb HCT hbb q0 q1 q2 q3 q4 q5 q6 q7 p0 p1 p2 p3 p4 p5 p6 p7
  have HB := n1
  have HX1 := n2
  have HC2 := Aside0.mk hC2
  have HL2 := Lib.hid hl2
  clear n1 n2 hC2 hl2
  have HCT := Lib.hid (show Calls Tryd.prog 11 #[.slice A2 bb.length c2] w2 _ from item_Take.calls A2 c2 bb _ _ _ _ _ _ _ _ _ w2 HC2.out HL2.out (GB.below HG.out HB.out) (by rw [← HEB.out]; exact ex_take))
  go_wp2_with fail
  refine HCT.out.mono ?_
  rintro e w3 ⟨v6, v7, rfl, h6, h7, hb⟩
  obtain ⟨A6, c6, rfl, hC6⟩ := nilR h6
  obtain ⟨A7, c7, rfl, hC7⟩ := nilR h7
  have n1 := Aside0.mk (below_step HB.out hb)
  have n2 := Aside0.mk (blk_below HX1.out hb)
  have n3 := Aside0.mk (Kd.C_below HC2.out hb)
  clear HB HX1 h6 h7 hb HCT HC2
  have HB := n1
  have HX1 := n2
  have HC2 := n3
  have HC6 := Aside0.mk hC6
  have HC7 := Aside0.mk hC7
  clear n1 n2 n3 hC6 hC7
  obtain ⟨w4, hw4, hB4, hs4, X4⟩ := boxed1 w3 (.int .i64 0) (.int .i64 0) (.int .i64 0) (.int .i64 0) (.int .i64 0) (.int .i64 0) (.slice none 0 0) (.slice none 0 0)
  obtain ⟨⟨q0, q1, q2, q3, q4, q5, q6, q7⟩, ⟨p0, p1, p2, p3, p4, p5, p6, p7⟩⟩ := cells8 X4
  have HB4 := Aside0.mk hB4
  have HX4 := Aside0.mk X4
  clear hB4 X4
  go_upto_region 4 with fail
  clear q0 q1 q2 q3 q4 q5 q6 q7 p0 p1 p2 p3 p4 p5 p6 p7
  obtain ⟨w5, hw5, X5, hmv⟩ := box8 HX4.out (.int .i64 3) (.int .i64 2) (.int .i64 1) (.int .i64 0) (.int .i64 0) (.int .i64 0) (.slice A6 0 c6) (.slice A7 0 c7)
  rw [hw5]
  clear hw5 hw4
  have hB5 : Below w3.heap.size w3 w5 := Mv.to HB4.out hmv (fun k hk => by omega) HB4.out.size
  have HX5 := Aside0.mk X5
  clear X5 HX4 HB4 hmv hs4
  have n0_ := Aside0.mk (below_step HB.out hB5)
  have n1_ := Aside0.mk (blk_below HX1.out hB5)
  have n2_ := Aside0.mk (Kd.C_below HC2.out hB5)
  have n3_ := Aside0.mk (Kd.C_below HC6.out hB5)
  have n4_ := Aside0.mk (Kd.C_below HC7.out hB5)
  clear HB HX1 HC2 HC6 HC7
  have HB := n0_
  have HX1 := n1_
  have HC2 := n2_
  have HC6 := n3_
  have HC7 := n4_
  clear n0_ n1_ n2_ n3_ n4_
  clear hB5 w4
  generalize w3.heap.size = b3 at *
  have HBL := Lib.hid (show bb.length = 17 by rw [← HEB.out]; rfl)
  obtain ⟨ll, hll⟩ : ∃ ll, ([] : List Int) ++ bb ++ [0] = ll := ⟨_, rfl⟩
  have HEL := Lib.hid hll
  clear hll
  have hbs := build0w
  go_wp2_with (first | ((with_reducible refine gate_builtin (b := .append) (xs := #[.tmp 16, .tmp 17]) rfl ?_); at_builtin; refine ap8 (w0 := w5) (b := w5.heap.size) (xs := []) (ys := bb) rfl rfl rfl rfl (O8.lit (blk_new w5 _) (Nat.le_refl _) [] (by simp) rfl) (Kd.C_below HC2.out (below_alloc (Below.refl _ _) _)) (below_alloc (Below.refl _ _) _) (below_alloc (Below.refl _ _) _).size (by have := HBL.out; simp; omega) ?_; intro v18 w6 ho hb; have HO6 := Aside0.mk ho; have HB6 := Aside0.mk hb; clear ho hb) | ((with_reducible refine gate_builtin (b := .append) (xs := #[.tmp 18, .tmp 19]) rfl ?_); at_builtin; refine ap8 (w0 := w5) (b := w5.heap.size) (ys := [0]) rfl rfl rfl rfl (O8.below HO6.out (below_alloc (Below.refl _ _) _)) (Kd.C_lit8 (blk_new w6 _) [0] (by simp) rfl) (below_alloc HB6.out _) (below_alloc HB6.out _).size (by have := HBL.out; simp; omega) ?_; intro v20 w7 ho hb; rw [HEL.out] at ho; have HO7 := Aside0.mk ho; have HB7 := Aside0.mk hb; clear ho hb HO6 HB6; obtain ⟨A8, c8, rfl, hl8, hC8⟩ := O8.reads HO7.out; have HC8 := Aside0.mk hC8; have HL8 := Lib.hid hl8; clear hl8 hC8) | fail)
  have n0_ := Aside0.mk (below_step HB.out HB7.out)
  have n1_ := Aside0.mk (blk_below HX1.out HB7.out)
  have n2_ := Aside0.mk (blk_below HX5.out HB7.out)
  have n3_ := Aside0.mk (Kd.C_below HC2.out HB7.out)
  have n4_ := Aside0.mk (Kd.C_below HC6.out HB7.out)
  have n5_ := Aside0.mk (Kd.C_below HC7.out HB7.out)
  clear HB HX1 HX5 HC2 HC6 HC7
  have HB := n0_
  have HX1 := n1_
  have HX5 := n2_
  have HC2 := n3_
  have HC6 := n4_
  have HC7 := n5_
  clear n0_ n1_ n2_ n3_ n4_ n5_
  refine (show Calls Tryd.prog 11 #[.slice A8 ll.length c8] w7 _ from item_Take.calls A8 c8 ll _ _ _ _ _ _ _ _ _ w7 HC8.out HL8.out (GB.below HG.out HB.out) (by rw [← HEL.out, ← HEB.out]; exact ex_take2)).mono ?_
  rintro e w8 ⟨v8, v9, rfl, h6, h7, hb⟩
  obtain ⟨A9, c9, rfl, hC9⟩ := nilR h6
  obtain ⟨Aa, ca, rfl, hCa⟩ := nilR h7
  have n0_ := Aside0.mk (below_step HB.out hb)
  have n1_ := Aside0.mk (blk_below HX1.out hb)
  have n2_ := Aside0.mk (blk_below HX5.out hb)
  have n3_ := Aside0.mk (Kd.C_below HC2.out hb)
  have n4_ := Aside0.mk (Kd.C_below HC6.out hb)
  have n5_ := Aside0.mk (Kd.C_below HC7.out hb)
  clear HB HX1 HX5 HC2 HC6 HC7
  have HB := n0_
  have HX1 := n1_
  have HX5 := n2_
  have HC2 := n3_
  have HC6 := n4_
  have HC7 := n5_
  clear n0_ n1_ n2_ n3_ n4_ n5_
  clear h6 h7 hb hC9 hCa HO7 HB7 HC8 HL8
  obtain ⟨w9, hw9, hB9, hs9, X9⟩ := boxed1 w8 (.int .i64 0) (.int .i64 0) (.int .i64 0) (.int .i64 0) (.int .i64 0) (.int .i64 0) (.slice none 0 0) (.slice none 0 0)
  obtain ⟨⟨q0, q1, q2, q3, q4, q5, q6, q7⟩, ⟨p0, p1, p2, p3, p4, p5, p6, p7⟩⟩ := cells8 X9
  have HB9 := Aside0.mk hB9
  have HX9 := Aside0.mk X9
  clear hB9 X9 hs9
  go_upto_region 5 with fail
  clear q0 q1 q2 q3 q4 q5 q6 q7 p0 p1 p2 p3 p4 p5 p6 p7
  obtain ⟨wa, hwa, Xa, hmv⟩ := box8 HX9.out (.int .i64 0) (.int .i64 0) (.int .i64 0) (.int .i64 0) (.int .i64 0) (.int .i64 0) (.slice A9 0 c9) (.slice Aa 0 ca)
  rw [hwa]
  clear hwa hw9
  have hBa : Below w8.heap.size w8 wa := Mv.to HB9.out hmv (fun k hk => by omega) HB9.out.size
  clear Xa HX9 HB9 hmv
  have n0_ := Aside0.mk (below_step HB.out hBa)
  have n1_ := Aside0.mk (blk_below HX1.out hBa)
  have n2_ := Aside0.mk (blk_below HX5.out hBa)
  have n3_ := Aside0.mk (Kd.C_below HC2.out hBa)
  have n4_ := Aside0.mk (Kd.C_below HC6.out hBa)
  have n5_ := Aside0.mk (Kd.C_below HC7.out hBa)
  clear HB HX1 HX5 HC2 HC6 HC7
  have HB := n0_
  have HX1 := n1_
  have HX5 := n2_
  have HC2 := n3_
  have HC6 := n4_
  have HC7 := n5_
  clear n0_ n1_ n2_ n3_ n4_ n5_
  clear hBa w9
  have hst := Kd.C_string (P := Tryd.prog) (A := A2) (c := c2) Tryd.underlying23 Tryd.underlying5 Tryd.underlying9 HC2.out
  rw [← HEB.out, ex_str] at hst
  rw [HEB.out] at hst
  obtain ⟨⟨q0, q1, q2, q3, q4, q5, q6, q7⟩, ⟨p0, p1, p2, p3, p4, p5, p6, p7⟩⟩ := cells8 HX1.out
  obtain ⟨⟨s0, s1, s2, s3, s4, s5, s6, s7⟩, _⟩ := cells8 HX5.out
  have HCT := Lib.hid (show Calls Tryd.prog 15 #[.agg #[.int .i64 3, .int .i64 2, .int .i64 1, .int .i64 0, .int .i64 0, .int .i64 0, .slice A6 0 c6, .slice A7 0 c7], .agg #[.int .i64 3, .int .i64 2, .int .i64 1, .int .i64 0, .int .i64 0, .int .i64 0, .slice none 0 0, .slice none 0 0]] wa _ from item_Same.calls 3 2 1 0 0 0 A6 c6 [] A7 c7 [] 3 2 1 0 0 0 none 0 [] none 0 [] true wa HC6.out (Nat.zero_le _) HC7.out (Nat.zero_le _) (nilC _ _) (Nat.le_refl _) (nilC _ _) (Nat.le_refl _) ex_same)
  go_wp2_with fail
  refine HCT.out.mono ?_
  rintro e wb ⟨rfl, hb⟩
  clear s0 s1 s2 s3 s4 s5 s6 s7 HCT hst HC6 HC7 HC2 HX5 q0 q1 q2 q3 q4 q5 q6 q7 p0 p1 p2 p3 p4 p5 p6 p7
  have n0_ := Aside0.mk (below_step HB.out hb)
  have n1_ := Aside0.mk (blk_below HX1.out hb)
  clear HB HX1
  have HB := n0_
  have HX1 := n1_
  clear n0_ n1_
  clear hb
  obtain ⟨⟨q0, q1, q2, q3, q4, q5, q6, q7⟩, ⟨p0, p1, p2, p3, p4, p5, p6, p7⟩⟩ := cells8 HX1.out
  have HCT := Lib.hid (show Calls Tryd.prog 13 #[.agg #[.int .i64 3, .int .i64 2, .int .i64 1, .int .i64 0, .int .i64 0, .int .i64 0, .slice none 0 0, .slice none 0 0]] wb _ from item_May.calls 3 2 1 0 0 0 none 0 [] none 0 [] true wb (nilC _ _) (Nat.le_refl _) (nilC _ _) (Nat.le_refl _) ex_may)
  go_wp2_with fail
  refine HCT.out.mono ?_
  rintro e wc ⟨rfl, hb⟩
  clear HCT q0 q1 q2 q3 q4 q5 q6 q7 p0 p1 p2 p3 p4 p5 p6 p7
  have n0_ := Aside0.mk (below_step HB.out hb)
  have n1_ := Aside0.mk (blk_below HX1.out hb)
  clear HB HX1
  have HB := n0_
  have HX1 := n1_
  clear n0_ n1_
  clear hb
  obtain ⟨⟨q0, q1, q2, q3, q4, q5, q6, q7⟩, ⟨p0, p1, p2, p3, p4, p5, p6, p7⟩⟩ := cells8 HX1.out
  have HCT := Lib.hid (show Calls Tryd.prog 13 #[.agg #[.int .i64 0, .int .i64 0, .int .i64 0, .int .i64 0, .int .i64 0, .int .i64 0, .slice none 0 0, .slice none 0 0]] wc _ from item_May.calls 0 0 0 0 0 0 none 0 [] none 0 [] false wc (nilC _ _) (Nat.le_refl _) (nilC _ _) (Nat.le_refl _) ex_may0)
  go_wp2_with fail
  refine HCT.out.mono ?_
  rintro e wd ⟨rfl, hb⟩
  clear HCT q0 q1 q2 q3 q4 q5 q6 q7 p0 p1 p2 p3 p4 p5 p6 p7
  have n0_ := Aside0.mk (below_step HB.out hb)
  have n1_ := Aside0.mk (blk_below HX1.out hb)
  clear HB HX1
  have HB := n0_
  have HX1 := n1_
  clear n0_ n1_
  clear hb
  obtain ⟨⟨q0, q1, q2, q3, q4, q5, q6, q7⟩, ⟨p0, p1, p2, p3, p4, p5, p6, p7⟩⟩ := cells8 HX1.out
  have HCT := Lib.hid (show Calls Tryd.prog 15 #[.agg #[.int .i64 3, .int .i64 2, .int .i64 1, .int .i64 0, .int .i64 0, .int .i64 0, .slice none 0 0, .slice none 0 0], .agg #[.int .i64 0, .int .i64 0, .int .i64 0, .int .i64 0, .int .i64 0, .int .i64 0, .slice none 0 0, .slice none 0 0]] wd _ from item_Same.calls 3 2 1 0 0 0 none 0 [] none 0 [] 0 0 0 0 0 0 none 0 [] none 0 [] false wd (nilC _ _) (Nat.le_refl _) (nilC _ _) (Nat.le_refl _) (nilC _ _) (Nat.le_refl _) (nilC _ _) (Nat.le_refl _) ex_same0)
  go_wp2_with fail
  refine HCT.out.mono ?_
  rintro e we ⟨rfl, hb⟩
  clear HCT q0 q1 q2 q3 q4 q5 q6 q7 p0 p1 p2 p3 p4 p5 p6 p7
  have n0_ := Aside0.mk (below_step HB.out hb)
  have n1_ := Aside0.mk (blk_below HX1.out hb)
  clear HB HX1
  have HB := n0_
  have HX1 := n1_
  clear n0_ n1_
  clear hb
  obtain ⟨⟨q0, q1, q2, q3, q4, q5, q6, q7⟩, ⟨p0, p1, p2, p3, p4, p5, p6, p7⟩⟩ := cells8 HX1.out
  have HCT := Lib.hid (show Calls Tryd.prog 17 #[.agg #[.int .i64 0, .int .i64 0, .int .i64 0, .int .i64 0, .int .i64 0, .int .i64 0, .slice none 0 0, .slice none 0 0]] we _ from item_Bytes.calls 0 0 0 0 0 0 none 0 [] none 0 [] _ we (nilC _ _) (Nat.le_refl _) (nilC _ _) (Nat.le_refl _) (GB.below HG.out HB.out) ex_bytes0)
  go_wp2_with fail
  refine HCT.out.mono ?_
  rintro e wf ⟨v11, rfl, hr, hb⟩
  obtain ⟨A11, c11, rfl, _⟩ := nilR hr
  clear hr
  clear HCT q0 q1 q2 q3 q4 q5 q6 q7 p0 p1 p2 p3 p4 p5 p6 p7
  have n0_ := Aside0.mk (below_step HB.out hb)
  have n1_ := Aside0.mk (blk_below HX1.out hb)
  clear HB HX1
  have HB := n0_
  have HX1 := n1_
  clear n0_ n1_
  clear hb
  go_wp2_with fail
  go_ret
  exact ⟨rfl, HB.out⟩
end Go.Proofs.YtocoikndkmdnkaaDoor.Print
