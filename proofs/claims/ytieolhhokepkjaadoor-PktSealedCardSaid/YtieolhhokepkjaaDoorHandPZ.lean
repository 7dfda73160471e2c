/- PktSealed: that its call returns true, for all bytes. Conditions stand in each theorem. -/
import Derived.Test.YtieolhhokepkjaaDoorHandPT
import Derived.Test.YtieolhhokepkjaaDoorHandQS
import Derived.Test.YtieolhhokepkjaaDoorHandPS
namespace Go.Proofs.YtieolhhokepkjaaDoor.Print
set_option linter.unusedVariables false
set_option linter.unusedSimpArgs false
open Go.RowKit Go.Proofs.YtieolhhokepkjaaDoorW.PrintWords Go.Proofs.YtieolhhokepkjaaDoorW.PrintLast Go.Proofs.YtieolhhokepkjaaDoorW.PrintMore Go.Proofs.YtieolhhokepkjaaDoor.NumPlain Go.Proofs.YtieolhhokepkjaaDoor.Crc
theorem okRead4 {l : List Int} (hb : By l) (hl : l.length < 5000) : precentorref04_Read.f l = some (readP l) := if_pos ⟨List.all_eq_true.2 fun x hx => decide_eq_true (hb x hx), hl⟩
/-- What is read has few enough parts. -/
theorem read_small {l : List Int} (hb : By l) (hl : l.length < 5000) {x1 x2 x3 x4 x5 x6 x7 x8 : Int} {x9 x10 : List Int} {x11 x12 x13 x14 : Int} {x15 : List Int} {x16 : Int} (hx : readP l = (x1, x2, x3, x4, x5, x6, x7, x8, x9, x10, x11, x12, x13, x14, x15, x16)) : x9.length < 10000 ∧ x15.length < 10000 := by
 rcases read_cases hb hl with ⟨K, F, p, hp, h1, _, h3⟩ | ⟨q, _, hp⟩
 ·
  have hw := wf_may h3 h1
  rw [hx] at hp
  unfold tell16 at hp
  simp only [Prod.mk.injEq] at hp
  obtain ⟨_, _, _, _, _, _, _, _, rfl, _, _, _, _, _, rfl, rfl⟩ := hp
  exact ⟨hw.2.1, hw.2.2.2⟩
 ·
  rw [hx] at hp
  unfold tell16 at hp
  simp only [Prod.mk.injEq] at hp
  obtain ⟨_, _, _, _, _, _, _, _, rfl, _, _, _, _, _, rfl, rfl⟩ := hp
  exact ⟨by decide, by decide⟩
theorem read_sealed_q {l : List Int} {x1 x2 x3 x4 x5 x6 x7 x8 : Int} {x9 x10 : List Int} {x11 x12 x13 x14 : Int} {x15 : List Int} {x16 : Int} (hx : readP (l ++ tl (sumOf l)) = (x1, x2, x3, x4, x5, x6, x7, x8, x9, x10, x11, x12, x13, x14, x15, x16)) : x16 ≠ 3 := by
 unfold readP at hx
 rw [open_sealed] at hx
 simp only [] at hx
 rw [if_pos trivial] at hx
 cases hr : readC l with
 | none =>
  rw [hr] at hx
  have : (2 : Int) = x16 := congrArg (fun y => y.2.2.2.2.2.2.2.2.2.2.2.2.2.2.2) hx
  omega
 | some x =>
  rw [hr] at hx
  obtain ⟨K, F, p⟩ := x
  have : (0 : Int) = x16 := congrArg (fun y => y.2.2.2.2.2.2.2.2.2.2.2.2.2.2.2) hx
  omega
def precentorlaw04_PktSealed.f (l : List Int) : Option Bool := if l.all (fun c => decide (0 ≤ c ∧ c ≤ 255)) = true then some true else none
set_option maxRecDepth 100000 in
set_option maxHeartbeats 4000000 in
theorem precentorlaw04_PktSealed.is (A0 : Option Addr) (c0 : Nat) (l0 : List Int) (w : World) (hr0 : Kd.C (Kd.int .u8) w A0 l0.length l0) (hc0 : l0.length ≤ c0) (hG : GB w) (hy : By l0) :
  Calls Tryd.prog 4 #[.slice A0 l0.length c0] w fun e' w' => e' = .returned (.bool true) ∧ Below w.heap.size w w' := by
 have HR := ak hr0
 have HC := Lib.hid hc0
 have HG := Lib.hid hG
 have HY := Lib.hid hy
 have HB := ak (Below.refl w.heap.size w)
 clear hr0 hc0 hG hy
 go_enter Tryd.func4, Tryd.ntmps4
 go_wp2_with fail
 refine (show Calls Tryd.prog 9 #[] w _ from precentorlaw04_shown.calls true w HG.out rfl).mono ?_
 rintro e_ w1 ⟨rfl, hb⟩
 have n0_ := ak (below_step HB.out hb)
 have n1_ := ak (Kd.C_below HR.out hb)
 clear HB HR
 have HB := n0_
 have HR := n1_
 clear n0_ n1_
 clear hb
 by_cases hlb : (l0.length : Int) > 1300
 ·
  have a1 : decide ((l0.length : Int) > 1300) = true := decide_eq_true hlb
  have a2 : decide ((1300 : Int) < (l0.length : Int)) = true := decide_eq_true hlb
  have a3 : decide (1300 < l0.length) = true := decide_eq_true (by omega)
  clear hlb
  go_wp2_with fail
  go_ret
  exact ⟨rfl, HB.out⟩
 have a1 : decide ((l0.length : Int) > 1300) = false := decide_eq_false hlb
 have a2 : decide ((1300 : Int) < (l0.length : Int)) = false := decide_eq_false hlb
 have a3 : decide (1300 < l0.length) = false := decide_eq_false (by omega)
 have HBL := Lib.hid (show l0.length ≤ 1300 by omega)
 clear hlb
 obtain ⟨sb, hsb⟩ : ∃ l, l0 ++ tl (sumOf l0) = l := ⟨_, rfl⟩
 obtain ⟨x1, x2, x3, x4, x5, x6, x7, x8, x9, x10, x11, x12, x13, x14, x15, x16, hx⟩ : ∃ x1 x2 x3 x4 x5 x6 x7 x8 x9 x10 x11 x12 x13 x14 x15 x16, readP sb = (x1, x2, x3, x4, x5, x6, x7, x8, x9, x10, x11, x12, x13, x14, x15, x16) := ⟨_, _, _, _, _, _, _, _, _, _, _, _, _, _, _, _, rfl⟩
 have hsy : By sb := by rw [← hsb]; exact HY.out.append (tl_is_by _)
 have hsl : sb.length < 5000 := by rw [← hsb, List.length_append, tl_length]; have := HBL.out; omega
 have HQ := Lib.hid (show x16 ≠ 3 from read_sealed_q (l := l0) (show readP (l0 ++ tl (sumOf l0)) = (x1, x2, x3, x4, x5, x6, x7, x8, x9, x10, x11, x12, x13, x14, x15, x16) by rw [hsb, hx]))
 have HSM := Lib.hid (read_small hsy hsl hx)
 have HR1 := Lib.hid (show pkt_Read.f sb = some (x1, x2, x3, x4, x5, x6, x7, x8, x9, x10, x11, x12, x13, x14, x15, x16) by rw [okRead hsy hsl, hx])
 have HR2 := Lib.hid (show precentorref04_Read.f sb = some (x1, x2, x3, x4, x5, x6, x7, x8, x9, x10, x11, x12, x13, x14, x15, x16) by rw [okRead4 hsy hsl, hx])
 have HSE := Lib.hid (show precentorref01_Seal.f 20000 l0 = some sb by rw [← hsb]; exact CrcPlain.ref_seal (byt_by HY.out) (by have := HBL.out; omega) (by have := HBL.out; omega))
 clear hsb hx hsy hsl
 have HCT := Lib.hid (show Calls Tryd.prog 19 #[.slice A0 l0.length c0] w1 _ from precentorref01_Seal.calls 20000 A0 c0 l0 sb w1 HR.out HC.out HSE.out)
 go_wp2_with fail
 clear a1 a2 a3
 refine HCT.out.mono ?_
 rintro e_ w2 ⟨v2, rfl, hr, hb⟩
 obtain ⟨A2, c2, rfl, hl2, hC2⟩ := Kd.R_reads hr
 clear HCT
 have n0_ := ak (below_step HB.out hb)
 have n1_ := ak (Kd.C_below HR.out hb)
 clear HB HR
 have HB := n0_
 have HR := n1_
 clear n0_ n1_
 clear hb hr
 have HCT := Lib.hid (show Calls Tryd.prog 11 #[.slice A2 sb.length c2] w2 _ from pkt_Read.calls A2 c2 sb _ _ _ _ _ _ _ _ _ _ _ _ _ _ _ _ w2 hC2 hl2 (GB.below HG.out HB.out) HR1.out)
 clear hC2 hl2
 go_wp2_with fail
 refine HCT.out.mono ?_
 rintro e_ w3 ⟨v8, v9, v14, rfl, h8, h9, h14, hb⟩
 obtain ⟨D8, e8, rfl, l8_, C8_⟩ := Kd.R_reads h8
 obtain ⟨D9, e9, rfl, l9_, C9_⟩ := Kd.R_reads h9
 obtain ⟨D14, e14, rfl, l14_, C14_⟩ := Kd.R_reads h14
 clear HCT h8 h9 h14
 have n0_ := ak (below_step HB.out hb)
 have n1_ := ak (Kd.C_below HR.out hb)
 clear HB HR
 have HB := n0_
 have HR := n1_
 clear n0_ n1_
 clear hb
 have X8 := ak C8_
 have X9 := ak C9_
 have X14 := ak C14_
 have Xl8 := Lib.hid l8_
 have Xl9 := Lib.hid l9_
 have Xl14 := Lib.hid l14_
 clear C8_ C9_ C14_ l8_ l9_ l14_
 obtain ⟨u1, hu, hBu, hsu, Xu⟩ := boxed15 w3 (.int .i64 0) (.int .i64 0) (.int .i64 0) (.int .i64 0) (.int .i64 0) (.int .i64 0) (.int .i64 0) (.int .i64 0) (.slice none 0 0) (.slice none 0 0) (.int .i64 0) (.int .i64 0) (.int .i64 0) (.int .i64 0) (.slice none 0 0)
 obtain ⟨⟨q0, q1, q2, q3, q4, q5, q6, q7, q8, q9, q10, q11, q12, q13, q14⟩, ⟨qf0, qf1, qf2, qf3, qf4, qf5, qf6, qf7, qf8, qf9, qf10, qf11, qf12, qf13, qf14⟩⟩ := cells15 Xu
 have HBu := ak hBu
 have HXu := ak Xu
 clear hBu Xu
 go_upto_region 5 with fail
 clear q0 qf0 q1 qf1 q2 qf2 q3 qf3 q4 qf4 q5 qf5 q6 qf6 q7 qf7 q8 qf8 q9 qf9 q10 qf10 q11 qf11 q12 qf12 q13 qf13 q14 qf14
 obtain ⟨w4, hv, Xv, hmv⟩ := box15 HXu.out (.int .i64 x1) (.int .i64 x2) (.int .i64 x3) (.int .i64 x4) (.int .i64 x5) (.int .i64 x6) (.int .i64 x7) (.int .i64 x8) (.slice D8 x9.length e8) (.slice D9 x10.length e9) (.int .i64 x11) (.int .i64 x12) (.int .i64 x13) (.int .i64 x14) (.slice D14 x15.length e14)
 rw [hv]
 clear hv hu
 have hBv : Below w3.heap.size w3 w4 := Mv.to HBu.out hmv (fun k hk => by omega) HBu.out.size
 have HXX := ak Xv
 clear Xv HXu HBu hmv hsu
 have n0_ := ak (below_step HB.out hBv)
 have n1_ := ak (Kd.C_below HR.out hBv)
 have n2_ := ak (Kd.C_below X8.out hBv)
 have n3_ := ak (Kd.C_below X9.out hBv)
 have n4_ := ak (Kd.C_below X14.out hBv)
 clear HB HR X8 X9 X14
 have HB := n0_
 have HR := n1_
 have X8 := n2_
 have X9 := n3_
 have X14 := n4_
 clear n0_ n1_ n2_ n3_ n4_
 clear hBv u1
 generalize w3.heap.size = gx at *
 have HCT := Lib.hid (show Calls Tryd.prog 19 #[.slice A0 l0.length c0] w4 _ from precentorref01_Seal.calls 20000 A0 c0 l0 sb w4 HR.out HC.out HSE.out)
 go_wp2_with fail
 refine HCT.out.mono ?_
 rintro e_ w5 ⟨v2, rfl, hr, hb⟩
 obtain ⟨A2, c2, rfl, hl2, hC2⟩ := Kd.R_reads hr
 clear HCT
 have n0_ := ak (below_step HB.out hb)
 have n1_ := ak (Kd.C_below HR.out hb)
 have n2_ := ak (blk_below HXX.out hb)
 have n3_ := ak (Kd.C_below X8.out hb)
 have n4_ := ak (Kd.C_below X9.out hb)
 have n5_ := ak (Kd.C_below X14.out hb)
 clear HB HR HXX X8 X9 X14
 have HB := n0_
 have HR := n1_
 have HXX := n2_
 have X8 := n3_
 have X9 := n4_
 have X14 := n5_
 clear n0_ n1_ n2_ n3_ n4_ n5_
 clear hb hr
 have HCT := Lib.hid (show Calls Tryd.prog 12 #[.slice A2 sb.length c2] w5 _ from precentorref04_Read.calls A2 c2 sb _ _ _ _ _ _ _ _ _ _ _ _ _ _ _ _ w5 hC2 hl2 HR2.out)
 clear hC2 hl2
 go_wp2_with fail
 refine HCT.out.mono ?_
 rintro e_ w6 ⟨v8, v9, v14, rfl, h8, h9, h14, hb⟩
 obtain ⟨Z8, f8, rfl, l8_, C8_⟩ := Kd.R_reads h8
 obtain ⟨Z9, f9, rfl, l9_, C9_⟩ := Kd.R_reads h9
 obtain ⟨Z14, f14, rfl, l14_, C14_⟩ := Kd.R_reads h14
 clear HCT h8 h9 h14
 have n0_ := ak (below_step HB.out hb)
 have n1_ := ak (Kd.C_below HR.out hb)
 have n2_ := ak (blk_below HXX.out hb)
 have n3_ := ak (Kd.C_below X8.out hb)
 have n4_ := ak (Kd.C_below X9.out hb)
 have n5_ := ak (Kd.C_below X14.out hb)
 clear HB HR HXX X8 X9 X14
 have HB := n0_
 have HR := n1_
 have HXX := n2_
 have X8 := n3_
 have X9 := n4_
 have X14 := n5_
 clear n0_ n1_ n2_ n3_ n4_ n5_
 clear hb
 have Y8 := ak C8_
 have Y9 := ak C9_
 have Y14 := ak C14_
 have Yl8 := Lib.hid l8_
 have Yl9 := Lib.hid l9_
 have Yl14 := Lib.hid l14_
 clear C8_ C9_ C14_ l8_ l9_ l14_
 obtain ⟨u2, hu, hBu, hsu, Xu⟩ := boxed15 w6 (.int .i64 0) (.int .i64 0) (.int .i64 0) (.int .i64 0) (.int .i64 0) (.int .i64 0) (.int .i64 0) (.int .i64 0) (.slice none 0 0) (.slice none 0 0) (.int .i64 0) (.int .i64 0) (.int .i64 0) (.int .i64 0) (.slice none 0 0)
 obtain ⟨⟨q0, q1, q2, q3, q4, q5, q6, q7, q8, q9, q10, q11, q12, q13, q14⟩, ⟨qf0, qf1, qf2, qf3, qf4, qf5, qf6, qf7, qf8, qf9, qf10, qf11, qf12, qf13, qf14⟩⟩ := cells15 Xu
 have HBu := ak hBu
 have HXu := ak Xu
 clear hBu Xu
 go_upto_region 6 with fail
 clear q0 qf0 q1 qf1 q2 qf2 q3 qf3 q4 qf4 q5 qf5 q6 qf6 q7 qf7 q8 qf8 q9 qf9 q10 qf10 q11 qf11 q12 qf12 q13 qf13 q14 qf14
 obtain ⟨w7, hv, Xv, hmv⟩ := box15 HXu.out (.int .i64 x1) (.int .i64 x2) (.int .i64 x3) (.int .i64 x4) (.int .i64 x5) (.int .i64 x6) (.int .i64 x7) (.int .i64 x8) (.slice Z8 x9.length f8) (.slice Z9 x10.length f9) (.int .i64 x11) (.int .i64 x12) (.int .i64 x13) (.int .i64 x14) (.slice Z14 x15.length f14)
 rw [hv]
 clear hv hu
 have hBv : Below w6.heap.size w6 w7 := Mv.to HBu.out hmv (fun k hk => by omega) HBu.out.size
 have HYY := ak Xv
 clear Xv HXu HBu hmv hsu
 have n0_ := ak (below_step HB.out hBv)
 have n1_ := ak (Kd.C_below HR.out hBv)
 have n2_ := ak (blk_below HXX.out hBv)
 have n3_ := ak (Kd.C_below X8.out hBv)
 have n4_ := ak (Kd.C_below X9.out hBv)
 have n5_ := ak (Kd.C_below X14.out hBv)
 have n6_ := ak (Kd.C_below Y8.out hBv)
 have n7_ := ak (Kd.C_below Y9.out hBv)
 have n8_ := ak (Kd.C_below Y14.out hBv)
 clear HB HR HXX X8 X9 X14 Y8 Y9 Y14
 have HB := n0_
 have HR := n1_
 have HXX := n2_
 have X8 := n3_
 have X9 := n4_
 have X14 := n5_
 have Y8 := n6_
 have Y9 := n7_
 have Y14 := n8_
 clear n0_ n1_ n2_ n3_ n4_ n5_ n6_ n7_ n8_
 clear hBv u2
 generalize w6.heap.size = gy at *
 obtain ⟨⟨q0, q1, q2, q3, q4, q5, q6, q7, q8, q9, q10, q11, q12, q13, q14⟩, ⟨qf0, qf1, qf2, qf3, qf4, qf5, qf6, qf7, qf8, qf9, qf10, qf11, qf12, qf13, qf14⟩⟩ := cells15 HXX.out
 obtain ⟨⟨p0, p1, p2, p3, p4, p5, p6, p7, p8, p9, p10, p11, p12, p13, p14⟩, ⟨pf0, pf1, pf2, pf3, pf4, pf5, pf6, pf7, pf8, pf9, pf10, pf11, pf12, pf13, pf14⟩⟩ := cells15 HYY.out
 have HCT := Lib.hid (show Calls Tryd.prog 16 #[.agg #[.int .i64 x1, .int .i64 x2, .int .i64 x3, .int .i64 x4, .int .i64 x5, .int .i64 x6, .int .i64 x7, .int .i64 x8, .slice D8 x9.length e8, .slice D9 x10.length e9, .int .i64 x11, .int .i64 x12, .int .i64 x13, .int .i64 x14, .slice D14 x15.length e14], .agg #[.int .i64 x1, .int .i64 x2, .int .i64 x3, .int .i64 x4, .int .i64 x5, .int .i64 x6, .int .i64 x7, .int .i64 x8, .slice Z8 x9.length f8, .slice Z9 x10.length f9, .int .i64 x11, .int .i64 x12, .int .i64 x13, .int .i64 x14, .slice Z14 x15.length f14]] w7 _ from precentorref04_Same.calls 1 x1 x2 x3 x4 x5 x6 x7 x8 D8 e8 x9 D9 e9 x10 x11 x12 x13 x14 D14 e14 x15 x1 x2 x3 x4 x5 x6 x7 x8 Z8 f8 x9 Z9 f9 x10 x11 x12 x13 x14 Z14 f14 x15 true w7 X8.out Xl8.out X9.out Xl9.out X14.out Xl14.out Y8.out Yl8.out Y9.out Yl9.out Y14.out Yl14.out ((if_pos HSM.out).trans (by rw [sameP_refl])))
 go_wp2_with fail
 refine HCT.out.mono ?_
 rintro e_ w8 ⟨rfl, hb⟩
 clear HCT q0 qf0 q1 qf1 q2 qf2 q3 qf3 q4 qf4 q5 qf5 q6 qf6 q7 qf7 q8 qf8 q9 qf9 q10 qf10 q11 qf11 q12 qf12 q13 qf13 q14 qf14 p0 pf0 p1 pf1 p2 pf2 p3 pf3 p4 pf4 p5 pf5 p6 pf6 p7 pf7 p8 pf8 p9 pf9 p10 pf10 p11 pf11 p12 pf12 p13 pf13 p14 pf14
 have e1 : (x16 == x16) = true := beq_self_eq_true _
 have e2 : (x16 != 3) = true := bne_iff_ne.2 HQ.out
 have e3 : (x16 == 3) = false := beq_eq_false_iff_ne.2 HQ.out
 have e4 : decide (x16 = x16) = true := decide_eq_true rfl
 go_wp2_with fail
 go_ret
 exact ⟨rfl, below_step HB.out hb⟩
theorem precentorlaw04_PktSealed.calls (A0 : Option Addr) (c0 : Nat) (l0 : List Int) (r : Bool) (w : World) (hr0 : Kd.C (Kd.int .u8) w A0 l0.length l0) (hc0 : l0.length ≤ c0) (hG : GB w) (h : precentorlaw04_PktSealed.f l0 = some r) :
  Calls Tryd.prog 4 #[.slice A0 l0.length c0] w fun e' w' => e' = .returned (.bool r) ∧ Below w.heap.size w w' := by
 unfold precentorlaw04_PktSealed.f at h
 split at h
 ·
  rename_i hc
  obtain rfl := Option.some.inj h
  exact precentorlaw04_PktSealed.is A0 c0 l0 w hr0 hc0 hG (fun c hm => of_decide_eq_true (List.all_eq_true.1 hc c hm))
 ·
  cases h
end Go.Proofs.YtieolhhokepkjaaDoor.Print
