/- PktEach: that its call returns true, for every packet, number and bytes. Conditions stand in each theorem. -/
import Derived.Test.YtieolhhokepkjaaDoorHandRB
import Derived.Test.YtieolhhokepkjaaDoorHandQS
import Derived.Test.YtieolhhokepkjaaDoorHandPS
namespace Go.Proofs.YtieolhhokepkjaaDoor.Print
set_option linter.unusedVariables false
set_option linter.unusedSimpArgs false
open Go.RowKit Go.Proofs.YtieolhhokepkjaaDoorW.PrintWords Go.Proofs.YtieolhhokepkjaaDoorW.PrintLast Go.Proofs.YtieolhhokepkjaaDoorW.PrintMore Go.Proofs.YtieolhhokepkjaaDoor.NumPlain Go.Proofs.YtieolhhokepkjaaDoor.Crc
/-- The cells of a packet's box. -/
def Cells15 (g : Nat) (v0 v1 v2 v3 v4 v5 v6 v7 v8 v9 v10 v11 v12 v13 v14 : Value) (w' : World) : Prop := w'.cell? ⟨g, 0, none⟩ = some v0 ∧ w'.cell? ⟨g, 1, none⟩ = some v1 ∧ w'.cell? ⟨g, 2, none⟩ = some v2 ∧ w'.cell? ⟨g, 3, none⟩ = some v3 ∧ w'.cell? ⟨g, 4, none⟩ = some v4 ∧ w'.cell? ⟨g, 5, none⟩ = some v5 ∧ w'.cell? ⟨g, 6, none⟩ = some v6 ∧ w'.cell? ⟨g, 7, none⟩ = some v7 ∧ w'.cell? ⟨g, 8, none⟩ = some v8 ∧ w'.cell? ⟨g, 9, none⟩ = some v9 ∧ w'.cell? ⟨g, 10, none⟩ = some v10 ∧ w'.cell? ⟨g, 11, none⟩ = some v11 ∧ w'.cell? ⟨g, 12, none⟩ = some v12 ∧ w'.cell? ⟨g, 13, none⟩ = some v13 ∧ w'.cell? ⟨g, 14, none⟩ = some v14
theorem Cells15.mk_ {g t : Nat} {v0 v1 v2 v3 v4 v5 v6 v7 v8 v9 v10 v11 v12 v13 v14 : Value} {w' : World} (h : w'.heap[g]? = some (.cells #[v0, v1, v2, v3, v4, v5, v6, v7, v8, v9, v10, v11, v12, v13, v14] t (0, 0))) : Cells15 g v0 v1 v2 v3 v4 v5 v6 v7 v8 v9 v10 v11 v12 v13 v14 w' := (cells15 h).1
theorem build0e (W : World) : (Instr.buildSlice 23 0 #[]).run Tryd.prog W = .ok (.slice (some ⟨W.heap.size, 0, none⟩) 0 0) (W.alloc (.cells #[] 5)) := by
 have h : Sem.run Tryd.prog (pure (#[] : Array Value)) (W.alloc (Obj.cells #[] 5)) = Result.ok #[] (W.alloc (Obj.cells #[] 5)) := rfl
 simp [go_sem, Tryd.underlying23, info5, h]
/-- What is read of a packet's bytes with more behind them isn't the packet. -/
theorem each_more {kd fr : Int} {k s e i t c : Int} {L bo : List Int} {T O M P : Int} {R : List Int} {K2 F2 : Int} {p : PK} {mo : List Int} (hbo : By bo) (hb2 : By p.bo) (hne : mo ≠ []) (hm : mayP kd fr (mayB k s e i t c L bo.length) (bareB k s e i t c L bo) T O M P R = true) (hm2 : mayP K2 F2 (mayB p.k p.s p.e p.i p.t p.c p.L p.bo.length) (bareB p.k p.s p.e p.i p.t p.c p.L p.bo) p.T p.O p.M p.P p.R = true)
  (hs : sealP K2 F2 p.k p.s p.e p.i p.t p.c p.L p.bo p.T p.O p.M p.P p.R = sealP kd fr k s e i t c L bo T O M P R ++ mo) : sameP K2 F2 p.k p.s p.e p.i p.t p.c p.L p.bo p.T p.O p.M p.P p.R kd fr k s e i t c L bo T O M P R = false := by
 have ha := alike hb2 hbo hm2 hm
 cases hz : sameP K2 F2 p.k p.s p.e p.i p.t p.c p.L p.bo p.T p.O p.M p.P p.R kd fr k s e i t c L bo T O M P R with
 | false => rfl
 | true =>
  rw [hz, hs, beq_iff_eq] at ha
  have h2 := (CrcPlain.str_eq (byt_by (by rw [← hs]; exact sealP_by hb2)) (byt_by (sealP_by hbo))).1 ha
  have h3 := congrArg List.length h2
  rw [List.length_append] at h3
  exact absurd (List.length_eq_zero_iff.1 (by omega)) hne
open Classical in
noncomputable def precentorlaw04_PktEach.f (kd fr k s e i t c : Int) (L bo : List Int) (T O M P : Int) (R : List Int) (ct : Int) (mo : List Int) : Option Bool :=
 if (Lit.int .i64 k).wf = true ∧ By bo ∧ (0 ≤ ct ∧ ct ≤ 65535) ∧ By mo then some true else none
set_option maxRecDepth 100000 in
set_option maxHeartbeats 40000000 in
theorem precentorlaw04_PktEach.is (kd fr k s e i t c : Int) (A8 : Option Addr) (c8 : Nat) (L : List Int) (A9 : Option Addr) (c9 : Nat) (bo : List Int) (T O M P : Int) (A14 : Option Addr) (c14 : Nat) (R : List Int) (ct : Int) (Am : Option Addr) (cm : Nat) (mo : List Int) (w : World) (h8 : Kd.C (Kd.int .i64) w A8 L.length L) (l8 : L.length ≤ c8) (h9 : Kd.C (Kd.int .u8) w A9 bo.length bo) (l9 : bo.length ≤ c9) (h14 : Kd.C (Kd.int .i64) w A14 R.length R) (l14 : R.length ≤ c14) (hr : Kd.C (Kd.int .u8) w Am mo.length mo) (lm : mo.length ≤ cm) (hG : GB w) (hk : (Lit.int .i64 k).wf = true) (hbo : By bo) (hct : 0 ≤ ct ∧ ct ≤ 65535) (hmo : By mo) :
  Calls Tryd.prog 8 #[.agg #[.int .i64 kd, .int .i64 fr, .int .i64 k, .int .i64 s, .int .i64 e, .int .i64 i, .int .i64 t, .int .i64 c, .slice A8 L.length c8, .slice A9 bo.length c9, .int .i64 T, .int .i64 O, .int .i64 M, .int .i64 P, .slice A14 R.length c14], .int .u16 ct, .slice Am mo.length cm] w fun e' w' => e' = .returned (.bool true) ∧ Below w.heap.size w w' := by
 obtain ⟨w0, hw0, hB0, hs0, X0⟩ := boxed15 w (.int .i64 kd) (.int .i64 fr) (.int .i64 k) (.int .i64 s) (.int .i64 e) (.int .i64 i) (.int .i64 t) (.int .i64 c) (.slice A8 L.length c8) (.slice A9 bo.length c9) (.int .i64 T) (.int .i64 O) (.int .i64 M) (.int .i64 P) (.slice A14 R.length c14)
 have HB := ak hB0
 have HX := ak X0
 have H8 := ak (Kd.C_below h8 hB0)
 have H9 := ak (Kd.C_below h9 hB0)
 have H14 := ak (Kd.C_below h14 hB0)
 have HM := ak (Kd.C_below hr hB0)
 have HG := Lib.hid hG
 have HK := Lib.hid hk
 have HBO := Lib.hid hbo
 have HCT0 := Lib.hid hct
 have HMO := Lib.hid hmo
 have HLM := Lib.hid lm
 have HC8 := Lib.hid l8
 have HC9 := Lib.hid l9
 have HC14 := Lib.hid l14
 clear hB0 hs0 X0 h8 h9 h14 hr hG hk hbo hct hmo lm l8 l9 l14
 go_enter Tryd.func8, Tryd.ntmps8
 go_wp2_with fail
 refine (show Calls Tryd.prog 9 #[] w0 _ from precentorlaw04_shown.calls true w0 (GB.below HG.out HB.out) rfl).mono ?_
 rintro e_ w1 ⟨rfl, hb⟩
 have n0_ := ak (below_step HB.out hb)
 have n1_ := ak (blk_below HX.out hb)
 have n2_ := ak (Kd.C_below H8.out hb)
 have n3_ := ak (Kd.C_below H9.out hb)
 have n4_ := ak (Kd.C_below H14.out hb)
 have n5_ := ak (Kd.C_below HM.out hb)
 clear HB HX H8 H9 H14 HM
 have HB := n0_
 have HX := n1_
 have H8 := n2_
 have H9 := n3_
 have H14 := n4_
 have HM := n5_
 clear n0_ n1_ n2_ n3_ n4_ n5_
 clear hb hw0
 obtain ⟨⟨q0, q1, q2, q3, q4, q5, q6, q7, q8, q9, q10, q11, q12, q13, q14⟩, ⟨qf0, qf1, qf2, qf3, qf4, qf5, qf6, qf7, qf8, qf9, qf10, qf11, qf12, qf13, qf14⟩⟩ := cells15 HX.out
 obtain ⟨fw, hfw⟩ : ∃ b, (decide (L.length ≤ 80) && decide (bo.length ≤ 1100) && decide (R.length ≤ 80)) = b := ⟨_, rfl⟩
 have HFW := Lib.hid hfw
 have HCT := Lib.hid (show Calls Tryd.prog 10 #[.agg #[.int .i64 kd, .int .i64 fr, .int .i64 k, .int .i64 s, .int .i64 e, .int .i64 i, .int .i64 t, .int .i64 c, .slice A8 L.length c8, .slice A9 bo.length c9, .int .i64 T, .int .i64 O, .int .i64 M, .int .i64 P, .slice A14 R.length c14]] w1 _ from precentorref04_Few.calls kd fr k s e i t c A8 c8 L A9 c9 bo T O M P A14 c14 R fw w1 H8.out HC8.out H9.out HC9.out H14.out HC14.out (by rw [few4_is, hfw]))
 clear hfw
 go_wp2_with fail
 refine HCT.out.mono ?_
 rintro e_ w2 ⟨rfl, hb⟩
 clear HCT q0 qf0 q1 qf1 q2 qf2 q3 qf3 q4 qf4 q5 qf5 q6 qf6 q7 qf7 q8 qf8 q9 qf9 q10 qf10 q11 qf11 q12 qf12 q13 qf13 q14 qf14
 have n0_ := ak (below_step HB.out hb)
 have n1_ := ak (blk_below HX.out hb)
 have n2_ := ak (Kd.C_below H8.out hb)
 have n3_ := ak (Kd.C_below H9.out hb)
 have n4_ := ak (Kd.C_below H14.out hb)
 have n5_ := ak (Kd.C_below HM.out hb)
 clear HB HX H8 H9 H14 HM
 have HB := n0_
 have HX := n1_
 have H8 := n2_
 have H9 := n3_
 have H14 := n4_
 have HM := n5_
 clear n0_ n1_ n2_ n3_ n4_ n5_
 clear hb
 cases fw
 ·
  skip
  go_wp2_with fail
  go_ret
  exact ⟨rfl, HB.out⟩
 have hfw := HFW.out
 rw [Bool.and_eq_true, Bool.and_eq_true, decide_eq_true_eq, decide_eq_true_eq, decide_eq_true_eq] at hfw
 clear HFW
 have HFW1 := Lib.hid hfw
 clear hfw
 obtain ⟨⟨q0, q1, q2, q3, q4, q5, q6, q7, q8, q9, q10, q11, q12, q13, q14⟩, ⟨qf0, qf1, qf2, qf3, qf4, qf5, qf6, qf7, qf8, qf9, qf10, qf11, qf12, qf13, qf14⟩⟩ := cells15 HX.out
 obtain ⟨my, hmy⟩ : ∃ m, mayP kd fr (mayB k s e i t c L bo.length) (bareB k s e i t c L bo) T O M P R = m := ⟨_, rfl⟩
 have HMY := Lib.hid hmy
 have HCT := Lib.hid (show Calls Tryd.prog 14 #[.agg #[.int .i64 kd, .int .i64 fr, .int .i64 k, .int .i64 s, .int .i64 e, .int .i64 i, .int .i64 t, .int .i64 c, .slice A8 L.length c8, .slice A9 bo.length c9, .int .i64 T, .int .i64 O, .int .i64 M, .int .i64 P, .slice A14 R.length c14]] w2 _ from precentorref04_May.calls 10010 kd fr k s e i t c A8 c8 L A9 c9 bo T O M P A14 c14 R my w2 H8.out HC8.out H9.out HC9.out H14.out HC14.out ((rmayP_is _ _ _ _ _ _ _ _ _ _ _ _ _ _ _ (by have := HFW1.out; omega) (by have := HFW1.out; omega) _ (Nat.le_refl _)).trans (by rw [hmy])))
 clear hmy
 go_wp2_with fail
 refine HCT.out.mono ?_
 rintro e_ w3 ⟨rfl, hb⟩
 clear HCT q0 qf0 q1 qf1 q2 qf2 q3 qf3 q4 qf4 q5 qf5 q6 qf6 q7 qf7 q8 qf8 q9 qf9 q10 qf10 q11 qf11 q12 qf12 q13 qf13 q14 qf14
 have n0_ := ak (below_step HB.out hb)
 have n1_ := ak (blk_below HX.out hb)
 have n2_ := ak (Kd.C_below H8.out hb)
 have n3_ := ak (Kd.C_below H9.out hb)
 have n4_ := ak (Kd.C_below H14.out hb)
 have n5_ := ak (Kd.C_below HM.out hb)
 clear HB HX H8 H9 H14 HM
 have HB := n0_
 have HX := n1_
 have H8 := n2_
 have H9 := n3_
 have H14 := n4_
 have HM := n5_
 clear n0_ n1_ n2_ n3_ n4_ n5_
 clear hb
 cases my
 ·
  skip
  go_wp2_with fail
  go_ret
  exact ⟨rfl, HB.out⟩
 by_cases hlm : (mo.length : Int) > 100
 ·
  skip
  have a0 : decide ((mo.length : Int) > 100) = true := decide_eq_true (by omega)
  have a1 : decide ((100 : Int) < (mo.length : Int)) = true := decide_eq_true (by omega)
  have a2 : decide (100 < mo.length) = true := decide_eq_true (by omega)
  clear hlm
  go_wp2_with fail
  go_ret
  exact ⟨rfl, HB.out⟩
 have a0 : decide ((mo.length : Int) > 100) = false := decide_eq_false (by omega)
 have a1 : decide ((100 : Int) < (mo.length : Int)) = false := decide_eq_false (by omega)
 have a2 : decide (100 < mo.length) = false := decide_eq_false (by omega)
 have HML := Lib.hid (show mo.length ≤ 100 by omega)
 clear hlm
 obtain ⟨sb, hsb⟩ : ∃ l, sealP kd fr k s e i t c L bo T O M P R = l := ⟨_, rfl⟩
 have HSB := Lib.hid hsb
 have hsl := sealP_len HMY.out
 rw [hsb] at hsl
 have HSL := Lib.hid hsl
 have hsy : By sb := by rw [← hsb]; exact sealP_by HBO.out
 have HSY := Lib.hid hsy
 have hBS : pkt_Bytes.f kd fr k s e i t c L bo T O M P R = some sb := (if_pos ⟨HK.out, by have := HFW1.out; omega, by have := HFW1.out; omega, by have := HFW1.out; omega⟩).trans (by rw [HMY.out, ← hsb]; rfl)
 have HCT := Lib.hid (show Calls Tryd.prog 17 #[.agg #[.int .i64 kd, .int .i64 fr, .int .i64 k, .int .i64 s, .int .i64 e, .int .i64 i, .int .i64 t, .int .i64 c, .slice A8 L.length c8, .slice A9 bo.length c9, .int .i64 T, .int .i64 O, .int .i64 M, .int .i64 P, .slice A14 R.length c14]] w3 _ from pkt_Bytes.calls kd fr k s e i t c A8 c8 L A9 c9 bo T O M P A14 c14 R sb w3 H8.out HC8.out H9.out HC9.out H14.out HC14.out (GB.below HG.out HB.out) hBS)
 clear hsb hBS hsl hsy
 obtain ⟨⟨q0, q1, q2, q3, q4, q5, q6, q7, q8, q9, q10, q11, q12, q13, q14⟩, ⟨qf0, qf1, qf2, qf3, qf4, qf5, qf6, qf7, qf8, qf9, qf10, qf11, qf12, qf13, qf14⟩⟩ := cells15 HX.out
 go_wp2_with fail
 clear a0 a1 a2
 refine HCT.out.mono ?_
 rintro e_ w4 ⟨v2, rfl, hr, hb⟩
 obtain ⟨A2, c2, rfl, hl2, hC2⟩ := Kd.R_reads hr
 clear HCT hr q0 qf0 q1 qf1 q2 qf2 q3 qf3 q4 qf4 q5 qf5 q6 qf6 q7 qf7 q8 qf8 q9 qf9 q10 qf10 q11 qf11 q12 qf12 q13 qf13 q14 qf14
 have n0_ := ak (below_step HB.out hb)
 have n1_ := ak (blk_below HX.out hb)
 have n2_ := ak (Kd.C_below H8.out hb)
 have n3_ := ak (Kd.C_below H9.out hb)
 have n4_ := ak (Kd.C_below H14.out hb)
 have n5_ := ak (Kd.C_below HM.out hb)
 clear HB HX H8 H9 H14 HM
 have HB := n0_
 have HX := n1_
 have H8 := n2_
 have H9 := n3_
 have H14 := n4_
 have HM := n5_
 clear n0_ n1_ n2_ n3_ n4_ n5_
 have HC2 := ak hC2
 have HL2 := Lib.hid hl2
 clear hb hC2 hl2
 obtain ⟨kk, hkk⟩ : ∃ kk, Int.tmod ct (sb.length : Int) = kk := ⟨_, rfl⟩
 have hk0 : 0 ≤ kk := by rw [← hkk]; exact Int.tmod_nonneg _ HCT0.out.1
 have hk1 : kk < (sb.length : Int) := by rw [← hkk]; exact Int.tmod_lt_of_pos _ (by have := HSL.out; omega)
 have kw : wrap64 kk = kk := wrap_id (by omega) (by have := HSL.out; omega)
 have cw : wrap64 ct = ct := wrap_id (by have := HCT0.out; omega) (by have := HCT0.out; omega)
 have hz : ((sb.length : Int) == 0) = false := beq_eq_false_iff_ne.2 (by have := HSL.out; omega)
 have hz0 : (sb.length == 0) = false := beq_eq_false_iff_ne.2 (by have := HSL.out; omega)
 have hze : sb ≠ [] := fun h => by have := HSL.out; rw [h] at this; simp at this
 have hze2 : ¬ ((sb.length : Int) = 0) := by have := HSL.out; omega
 have hze3 : ¬ (sb.length = 0) := by have := HSL.out; omega
 have b0 : decide ((sb.length : Int) < 4) = false := decide_eq_false (by have := HSL.out; omega)
 have b1 : decide (sb.length < 4) = false := decide_eq_false (by have := HSL.out; omega)
 obtain ⟨bk, hbk⟩ : ∃ l, sb.take kk.toNat = l := ⟨_, rfl⟩
 have hkl : bk.length = kk.toNat := by rw [← hbk, List.length_take]; omega
 obtain ⟨i5, hi5, hz5, hs5, _⟩ := info_parts info5
 have slk : ∀ W : World, (Instr.slice 23 (.slice A2 sb.length c2) none (some (.int .i64 kk)) none).run Tryd.prog W = .ok (.slice A2 bk.length c2) W := fun W => by
  rw [hkl]; exact cut_to (P := Tryd.prog) 23 5 .i64 Tryd.underlying23 hi5 A2 sb.length c2 kk hk0 (by omega) HL2.out W
 have HCK := ak (show Kd.C (Kd.int .u8) w4 A2 bk.length bk by rw [← hbk]; exact Kd.C_take HC2.out (by omega))
 have HBKY := Lib.hid (show By bk by rw [← hbk]; exact HSY.out.take _)
 have HBKL := Lib.hid (show bk.length < 5000 by have := HSL.out; omega)
 have HBKC := Lib.hid (show bk.length ≤ c2 by have := HL2.out; omega)
 clear hk0 hk1 hbk hkl hi5 hz5 hs5
 obtain ⟨x1, x2, x3, x4, x5, x6, x7, x8, x9, x10, x11, x12, x13, x14, x15, x16, hx⟩ : ∃ x1 x2 x3 x4 x5 x6 x7 x8 x9 x10 x11 x12 x13 x14 x15 x16, readP bk = (x1, x2, x3, x4, x5, x6, x7, x8, x9, x10, x11, x12, x13, x14, x15, x16) := ⟨_, _, _, _, _, _, _, _, _, _, _, _, _, _, _, _, rfl⟩
 have HXR := Lib.hid hx
 have HCT := Lib.hid (show Calls Tryd.prog 11 #[.slice A2 bk.length c2] w4 _ from pkt_Read.calls A2 c2 bk _ _ _ _ _ _ _ _ _ _ _ _ _ _ _ _ w4 HCK.out HBKC.out (GB.below HG.out HB.out) (by rw [okRead HBKY.out HBKL.out, hx]))
 clear hx
 go_wp2_with fail
 refine HCT.out.mono ?_
 rintro e_ w5 ⟨v8, v9, v14, rfl, h8, h9, h14, hb⟩
 obtain ⟨D8, e8, rfl, l8_, C8_⟩ := Kd.R_reads h8
 obtain ⟨D9, e9, rfl, l9_, C9_⟩ := Kd.R_reads h9
 obtain ⟨D14, e14, rfl, l14_, C14_⟩ := Kd.R_reads h14
 clear HCT h8 h9 h14
 have n0_ := ak (below_step HB.out hb)
 have n1_ := ak (blk_below HX.out hb)
 have n2_ := ak (Kd.C_below H8.out hb)
 have n3_ := ak (Kd.C_below H9.out hb)
 have n4_ := ak (Kd.C_below H14.out hb)
 have n5_ := ak (Kd.C_below HM.out hb)
 have n6_ := ak (Kd.C_below HC2.out hb)
 have n7_ := ak (Kd.C_below HCK.out hb)
 clear HB HX H8 H9 H14 HM HC2 HCK
 have HB := n0_
 have HX := n1_
 have H8 := n2_
 have H9 := n3_
 have H14 := n4_
 have HM := n5_
 have HC2 := n6_
 have HCK := n7_
 clear n0_ n1_ n2_ n3_ n4_ n5_ n6_ n7_
 clear hb
 have X8 := ak C8_
 have X9 := ak C9_
 have X14 := ak C14_
 have Xl8 := Lib.hid l8_
 have Xl9 := Lib.hid l9_
 have Xl14 := Lib.hid l14_
 clear C8_ C9_ C14_ l8_ l9_ l14_
 obtain ⟨u1, hu, hBu, hsu, Xu⟩ := boxed15 w5 (.int .i64 0) (.int .i64 0) (.int .i64 0) (.int .i64 0) (.int .i64 0) (.int .i64 0) (.int .i64 0) (.int .i64 0) (.slice none 0 0) (.slice none 0 0) (.int .i64 0) (.int .i64 0) (.int .i64 0) (.int .i64 0) (.slice none 0 0)
 obtain ⟨⟨q0, q1, q2, q3, q4, q5, q6, q7, q8, q9, q10, q11, q12, q13, q14⟩, ⟨qf0, qf1, qf2, qf3, qf4, qf5, qf6, qf7, qf8, qf9, qf10, qf11, qf12, qf13, qf14⟩⟩ := cells15 Xu
 have HBu := ak hBu
 have HXu := ak Xu
 clear hBu Xu
 go_upto_region 9 with fail
 clear q0 qf0 q1 qf1 q2 qf2 q3 qf3 q4 qf4 q5 qf5 q6 qf6 q7 qf7 q8 qf8 q9 qf9 q10 qf10 q11 qf11 q12 qf12 q13 qf13 q14 qf14
 obtain ⟨w6, hv, Xv, hmv⟩ := box15 HXu.out (.int .i64 x1) (.int .i64 x2) (.int .i64 x3) (.int .i64 x4) (.int .i64 x5) (.int .i64 x6) (.int .i64 x7) (.int .i64 x8) (.slice D8 x9.length e8) (.slice D9 x10.length e9) (.int .i64 x11) (.int .i64 x12) (.int .i64 x13) (.int .i64 x14) (.slice D14 x15.length e14)
 rw [hv]
 clear hv hu
 have hBv : Below w5.heap.size w5 w6 := Mv.to HBu.out hmv (fun k hk => by omega) HBu.out.size
 have HXX := ak Xv
 clear Xv HXu HBu hmv hsu
 have n0_ := ak (below_step HB.out hBv)
 have n1_ := ak (blk_below HX.out hBv)
 have n2_ := ak (Kd.C_below H8.out hBv)
 have n3_ := ak (Kd.C_below H9.out hBv)
 have n4_ := ak (Kd.C_below H14.out hBv)
 have n5_ := ak (Kd.C_below HM.out hBv)
 have n6_ := ak (Kd.C_below HC2.out hBv)
 have n7_ := ak (Kd.C_below HCK.out hBv)
 have n8_ := ak (Kd.C_below X8.out hBv)
 have n9_ := ak (Kd.C_below X9.out hBv)
 have n10_ := ak (Kd.C_below X14.out hBv)
 clear HB HX H8 H9 H14 HM HC2 HCK X8 X9 X14
 have HB := n0_
 have HX := n1_
 have H8 := n2_
 have H9 := n3_
 have H14 := n4_
 have HM := n5_
 have HC2 := n6_
 have HCK := n7_
 have X8 := n8_
 have X9 := n9_
 have X14 := n10_
 clear n0_ n1_ n2_ n3_ n4_ n5_ n6_ n7_ n8_ n9_ n10_
 clear hBv u1
 generalize w5.heap.size = gx at *
 clear kw cw hz hz0 hze hze2 hze3 b0 b1
 have hbs : ∀ W : World, (Instr.buildSlice 23 0 #[]).run Tryd.prog W = .ok (.slice (some ⟨W.heap.size, 0, none⟩) 0 0) (W.alloc (.cells #[] 5)) := build0e
 go_wp2_with (first | ((with_reducible refine gate_builtin (b := .append) (xs := #[.tmp 47, .tmp 48]) rfl ?_); at_builtin; refine ap8 (w0 := w6) (b := w6.heap.size) (xs := []) (ys := sb) rfl rfl rfl rfl (O8.lit (blk_new w6 _) (Nat.le_refl _) [] (by simp) rfl) (Kd.C_below HC2.out (below_alloc (Below.refl _ _) _)) (below_alloc (Below.refl _ _) _) (below_alloc (Below.refl _ _) _).size (by have := HSL.out; simp; omega) ?_; intro v1 w7 ho hb; have HO1 := ak ho; have HB7 := ak hb; clear ho hb) | ((with_reducible refine gate_builtin (b := .append) (xs := #[.tmp 49, .tmp 50]) rfl ?_); at_builtin; refine ap8 (w0 := w6) (b := w6.heap.size) (xs := [] ++ sb) (ys := mo) rfl rfl rfl rfl HO1.out (Kd.C_below HM.out HB7.out) HB7.out HB7.out.size (by have := HSL.out; have := HML.out; simp; omega) ?_; intro v3 w8 ho hb; have HO2 := ak ho; have HB8 := ak hb; clear ho hb HO1 HB7))
 obtain ⟨bm, hbm⟩ : ∃ l, [] ++ sb ++ mo = l := ⟨_, rfl⟩
 have hbm2 : sb ++ mo = bm := by rw [← hbm]; simp
 have HBM := Lib.hid hbm2
 have hby : By bm := by rw [← hbm2]; exact HSY.out.append HMO.out
 have hbl : bm.length < 5000 := by rw [← hbm2, List.length_append]; have := HSL.out; have := HML.out; omega
 rw [hbm] at HO2
 obtain ⟨A3, c3, rfl, hl3, hC3⟩ := O8.reads HO2.out
 have hb := HB8.out
 clear HO2 HB8
 have n0_ := ak (below_step HB.out hb)
 have n1_ := ak (blk_below HX.out hb)
 have n2_ := ak (Kd.C_below H8.out hb)
 have n3_ := ak (Kd.C_below H9.out hb)
 have n4_ := ak (Kd.C_below H14.out hb)
 have n5_ := ak (Kd.C_below HM.out hb)
 have n6_ := ak (Kd.C_below HC2.out hb)
 have n7_ := ak (Kd.C_below HCK.out hb)
 have n8_ := ak (blk_below HXX.out hb)
 have n9_ := ak (Kd.C_below X8.out hb)
 have n10_ := ak (Kd.C_below X9.out hb)
 have n11_ := ak (Kd.C_below X14.out hb)
 clear HB HX H8 H9 H14 HM HC2 HCK HXX X8 X9 X14
 have HB := n0_
 have HX := n1_
 have H8 := n2_
 have H9 := n3_
 have H14 := n4_
 have HM := n5_
 have HC2 := n6_
 have HCK := n7_
 have HXX := n8_
 have X8 := n9_
 have X9 := n10_
 have X14 := n11_
 clear n0_ n1_ n2_ n3_ n4_ n5_ n6_ n7_ n8_ n9_ n10_ n11_
 clear hb
 obtain ⟨y1, y2, y3, y4, y5, y6, y7, y8, y9, y10, y11, y12, y13, y14, y15, y16, hy⟩ : ∃ y1 y2 y3 y4 y5 y6 y7 y8 y9 y10 y11 y12 y13 y14 y15 y16, readP bm = (y1, y2, y3, y4, y5, y6, y7, y8, y9, y10, y11, y12, y13, y14, y15, y16) := ⟨_, _, _, _, _, _, _, _, _, _, _, _, _, _, _, _, rfl⟩
 have HYR := Lib.hid hy
 have HBMY := Lib.hid hby
 have HBML := Lib.hid hbl
 have HCT := Lib.hid (show Calls Tryd.prog 11 #[.slice A3 bm.length c3] w8 _ from pkt_Read.calls A3 c3 bm _ _ _ _ _ _ _ _ _ _ _ _ _ _ _ _ w8 hC3 hl3 (GB.below HG.out HB.out) (by rw [okRead hby hbl, hy]))
 clear hy hby hbl hbm hbm2 hl3 hC3
 skip
 refine HCT.out.mono ?_
 rintro e_ w9 ⟨v8, v9, v14, rfl, h8, h9, h14, hb⟩
 obtain ⟨Z8, f8, rfl, l8_, C8_⟩ := Kd.R_reads h8
 obtain ⟨Z9, f9, rfl, l9_, C9_⟩ := Kd.R_reads h9
 obtain ⟨Z14, f14, rfl, l14_, C14_⟩ := Kd.R_reads h14
 clear HCT h8 h9 h14
 have n0_ := ak (below_step HB.out hb)
 have n1_ := ak (blk_below HX.out hb)
 have n2_ := ak (Kd.C_below H8.out hb)
 have n3_ := ak (Kd.C_below H9.out hb)
 have n4_ := ak (Kd.C_below H14.out hb)
 have n5_ := ak (Kd.C_below HM.out hb)
 have n6_ := ak (Kd.C_below HC2.out hb)
 have n7_ := ak (Kd.C_below HCK.out hb)
 have n8_ := ak (blk_below HXX.out hb)
 have n9_ := ak (Kd.C_below X8.out hb)
 have n10_ := ak (Kd.C_below X9.out hb)
 have n11_ := ak (Kd.C_below X14.out hb)
 clear HB HX H8 H9 H14 HM HC2 HCK HXX X8 X9 X14
 have HB := n0_
 have HX := n1_
 have H8 := n2_
 have H9 := n3_
 have H14 := n4_
 have HM := n5_
 have HC2 := n6_
 have HCK := n7_
 have HXX := n8_
 have X8 := n9_
 have X9 := n10_
 have X14 := n11_
 clear n0_ n1_ n2_ n3_ n4_ n5_ n6_ n7_ n8_ n9_ n10_ n11_
 clear hb
 have Y8 := ak C8_
 have Y9 := ak C9_
 have Y14 := ak C14_
 have Yl8 := Lib.hid l8_
 have Yl9 := Lib.hid l9_
 have Yl14 := Lib.hid l14_
 clear C8_ C9_ C14_ l8_ l9_ l14_
 obtain ⟨u2, hu, hBu, hsu, Xu⟩ := boxed15 w9 (.int .i64 0) (.int .i64 0) (.int .i64 0) (.int .i64 0) (.int .i64 0) (.int .i64 0) (.int .i64 0) (.int .i64 0) (.slice none 0 0) (.slice none 0 0) (.int .i64 0) (.int .i64 0) (.int .i64 0) (.int .i64 0) (.slice none 0 0)
 obtain ⟨⟨q0, q1, q2, q3, q4, q5, q6, q7, q8, q9, q10, q11, q12, q13, q14⟩, ⟨qf0, qf1, qf2, qf3, qf4, qf5, qf6, qf7, qf8, qf9, qf10, qf11, qf12, qf13, qf14⟩⟩ := cells15 Xu
 have HBu := ak hBu
 have HXu := ak Xu
 clear hBu Xu
 go_upto_region 10 with fail
 clear q0 qf0 q1 qf1 q2 qf2 q3 qf3 q4 qf4 q5 qf5 q6 qf6 q7 qf7 q8 qf8 q9 qf9 q10 qf10 q11 qf11 q12 qf12 q13 qf13 q14 qf14
 obtain ⟨wb, hv, Xv, hmv⟩ := box15 HXu.out (.int .i64 y1) (.int .i64 y2) (.int .i64 y3) (.int .i64 y4) (.int .i64 y5) (.int .i64 y6) (.int .i64 y7) (.int .i64 y8) (.slice Z8 y9.length f8) (.slice Z9 y10.length f9) (.int .i64 y11) (.int .i64 y12) (.int .i64 y13) (.int .i64 y14) (.slice Z14 y15.length f14)
 rw [hv]
 clear hv hu
 have hBv : Below w9.heap.size w9 wb := Mv.to HBu.out hmv (fun k hk => by omega) HBu.out.size
 have HYY := ak Xv
 clear Xv HXu HBu hmv hsu
 have n0_ := ak (below_step HB.out hBv)
 have n1_ := ak (blk_below HX.out hBv)
 have n2_ := ak (Kd.C_below H8.out hBv)
 have n3_ := ak (Kd.C_below H9.out hBv)
 have n4_ := ak (Kd.C_below H14.out hBv)
 have n5_ := ak (Kd.C_below HM.out hBv)
 have n6_ := ak (Kd.C_below HC2.out hBv)
 have n7_ := ak (Kd.C_below HCK.out hBv)
 have n8_ := ak (blk_below HXX.out hBv)
 have n9_ := ak (Kd.C_below X8.out hBv)
 have n10_ := ak (Kd.C_below X9.out hBv)
 have n11_ := ak (Kd.C_below X14.out hBv)
 have n12_ := ak (Kd.C_below Y8.out hBv)
 have n13_ := ak (Kd.C_below Y9.out hBv)
 have n14_ := ak (Kd.C_below Y14.out hBv)
 clear HB HX H8 H9 H14 HM HC2 HCK HXX X8 X9 X14 Y8 Y9 Y14
 have HB := n0_
 have HX := n1_
 have H8 := n2_
 have H9 := n3_
 have H14 := n4_
 have HM := n5_
 have HC2 := n6_
 have HCK := n7_
 have HXX := n8_
 have X8 := n9_
 have X9 := n10_
 have X14 := n11_
 have Y8 := n12_
 have Y9 := n13_
 have Y14 := n14_
 clear n0_ n1_ n2_ n3_ n4_ n5_ n6_ n7_ n8_ n9_ n10_ n11_ n12_ n13_ n14_
 clear hBv u2
 generalize w9.heap.size = gy at *
 clear hbs
 by_cases hne : mo = []
 ·
  as_aux_lemma =>
   subst hne
   have hy := HYR.out
   rw [← HBM.out, List.append_nil, ← HSB.out] at hy
   have hrs := read_seal HBO.out HMY.out
   rw [okRead (sealP_by HBO.out) (by rw [HSB.out]; have := HSL.out; omega), hy] at hrs
   simp only [Option.some.injEq, Prod.mk.injEq] at hrs
   obtain ⟨rfl, rfl, rfl, rfl, rfl, rfl, rfl, rfl, rfl, rfl, rfl, rfl, rfl, rfl, rfl, rfl⟩ := hrs
   clear hy HYR HBM
   have d0 : ((([] : List Int).length : Int) == 0) = true := rfl
   obtain ⟨⟨q0, q1, q2, q3, q4, q5, q6, q7, q8, q9, q10, q11, q12, q13, q14⟩, ⟨qf0, qf1, qf2, qf3, qf4, qf5, qf6, qf7, qf8, qf9, qf10, qf11, qf12, qf13, qf14⟩⟩ := cells15 HX.out
   obtain ⟨⟨p0, p1, p2, p3, p4, p5, p6, p7, p8, p9, p10, p11, p12, p13, p14⟩, ⟨pf0, pf1, pf2, pf3, pf4, pf5, pf6, pf7, pf8, pf9, pf10, pf11, pf12, pf13, pf14⟩⟩ := cells15 HYY.out
   have HCT := Lib.hid (show Calls Tryd.prog 16 #[.agg #[.int .i64 y1, .int .i64 y2, .int .i64 y3, .int .i64 y4, .int .i64 y5, .int .i64 y6, .int .i64 y7, .int .i64 y8, .slice Z8 y9.length f8, .slice Z9 y10.length f9, .int .i64 y11, .int .i64 y12, .int .i64 y13, .int .i64 y14, .slice Z14 y15.length f14], .agg #[.int .i64 y1, .int .i64 y2, .int .i64 y3, .int .i64 y4, .int .i64 y5, .int .i64 y6, .int .i64 y7, .int .i64 y8, .slice A8 y9.length c8, .slice A9 y10.length c9, .int .i64 y11, .int .i64 y12, .int .i64 y13, .int .i64 y14, .slice A14 y15.length c14]] wb _ from precentorref04_Same.calls 1 y1 y2 y3 y4 y5 y6 y7 y8 Z8 f8 y9 Z9 f9 y10 y11 y12 y13 y14 Z14 f14 y15 y1 y2 y3 y4 y5 y6 y7 y8 A8 c8 y9 A9 c9 y10 y11 y12 y13 y14 A14 c14 y15 true wb Y8.out Yl8.out Y9.out Yl9.out Y14.out Yl14.out H8.out HC8.out H9.out HC9.out H14.out HC14.out ((if_pos ⟨by have := HFW1.out; omega, by have := HFW1.out; omega⟩).trans (by rw [sameP_refl])))
   go_wp2_with fail
   refine HCT.out.mono ?_
   rintro e_ wc ⟨rfl, hb⟩
   clear HCT q0 qf0 q1 qf1 q2 qf2 q3 qf3 q4 qf4 q5 qf5 q6 qf6 q7 qf7 q8 qf8 q9 qf9 q10 qf10 q11 qf11 q12 qf12 q13 qf13 q14 qf14 p0 pf0 p1 pf1 p2 pf2 p3 pf3 p4 pf4 p5 pf5 p6 pf6 p7 pf7 p8 pf8 p9 pf9 p10 pf10 p11 pf11 p12 pf12 p13 pf13 p14 pf14
   go_wp2_with fail
   go_ret
   exact ⟨rfl, below_step HB.out hb⟩
 have d0 : ((mo.length : Int) == 0) = false := beq_eq_false_iff_ne.2 (fun h => hne (List.length_eq_zero_iff.1 (by omega)))
 have d1 : (mo.length == 0) = false := beq_eq_false_iff_ne.2 (fun h => hne (List.length_eq_zero_iff.1 h))
 have HNE := Lib.hid hne
 clear hne
 go_upto_region 12 with fail
 clear d0 d1
 have hcx := read_cases HBKY.out HBKL.out
 have hcy := read_cases HBMY.out HBML.out
 rw [HXR.out] at hcx
 rw [HYR.out] at hcy
 have HCX := Lib.hid hcx
 have HCY := Lib.hid hcy
 clear hcx hcy HXR HYR HBMY HBML HBKY HBKL
 by_cases he : x16 = 0
 ·
  skip
  obtain ⟨K2, F2, pk, hpk, hm2, hs2, hb2⟩ : ∃ (K2 F2 : Int) (pk : PK), _ ∧ _ ∧ _ ∧ _ := HCX.out.elim id (fun ⟨q, hq, h⟩ => absurd ((congrArg (fun y => y.2.2.2.2.2.2.2.2.2.2.2.2.2.2.2) h).symm.trans he) hq)
  unfold tell16 at hpk
  simp only [Prod.mk.injEq] at hpk
  obtain ⟨rfl, rfl, rfl, rfl, rfl, rfl, rfl, rfl, rfl, rfl, rfl, rfl, rfl, rfl, rfl, rfl⟩ := hpk
  have e1 : ((0 : Int) != 0) = false := rfl
  have e2 : ((0 : Int) == 0) = true := rfl
  have hwf := wf_may hb2 hm2
  obtain ⟨k2, s2, ee2, i2, t2, cc2, L2, bo2, T2, O2, M2, P2, R2⟩ := pk
  have HM2 := Lib.hid hm2
  have HS2 := Lib.hid hs2
  have HW2 := Lib.hid hwf
  have HB2 := Lib.hid hb2
  clear hm2 hs2 hwf hb2 he HCX
  by_cases hf : y16 = 0
  ·
   as_aux_lemma =>
    obtain ⟨K3, F3, pl, hpl, hm3, hs3, hb3⟩ : ∃ (K3 F3 : Int) (pl : PK), _ ∧ _ ∧ _ ∧ _ := HCY.out.elim id (fun ⟨q, hq, h⟩ => absurd ((congrArg (fun y => y.2.2.2.2.2.2.2.2.2.2.2.2.2.2.2) h).symm.trans hf) hq)
    rw [← HBM.out, ← HSB.out] at hs3
    have hno := each_more HBO.out hb3 HNE.out HMY.out hm3 hs3
    have hwf := wf_may hb3 hm3
    unfold tell16 at hpl
    simp only [Prod.mk.injEq] at hpl
    obtain ⟨rfl, rfl, rfl, rfl, rfl, rfl, rfl, rfl, rfl, rfl, rfl, rfl, rfl, rfl, rfl, rfl⟩ := hpl
    have f1 : ((0 : Int) != 0) = false := rfl
    have f2 : ((0 : Int) == 0) = true := rfl
    obtain ⟨k3, s3, ee3, i3, t3, cc3, L3, bo3, T3, O3, M3, P3, R3⟩ := pl
    have HNO := Lib.hid hno
    have HW3 := Lib.hid hwf
    clear hno hwf hm3 hs3 hb3 hf HCY
    refine start_ (n := 26) (S := fun w' => Cells15 w.heap.size (.int .i64 kd) (.int .i64 fr) (.int .i64 k) (.int .i64 s) (.int .i64 e) (.int .i64 i) (.int .i64 t) (.int .i64 c) (.slice A8 L.length c8) (.slice A9 bo.length c9) (.int .i64 T) (.int .i64 O) (.int .i64 M) (.int .i64 P) (.slice A14 R.length c14) w' ∧ Cells15 gx (.int .i64 x1) (.int .i64 x2) (.int .i64 k2) (.int .i64 s2) (.int .i64 ee2) (.int .i64 i2) (.int .i64 t2) (.int .i64 cc2) (.slice D8 L2.length e8) (.slice D9 bo2.length e9) (.int .i64 T2) (.int .i64 O2) (.int .i64 M2) (.int .i64 P2) (.slice D14 R2.length e14) w' ∧ Cells15 gy (.int .i64 y1) (.int .i64 y2) (.int .i64 k3) (.int .i64 s3) (.int .i64 ee3) (.int .i64 i3) (.int .i64 t3) (.int .i64 cc3) (.slice Z8 L3.length f8) (.slice Z9 bo3.length f9) (.int .i64 T3) (.int .i64 O3) (.int .i64 M3) (.int .i64 P3) (.slice Z14 R3.length f14) w' ∧ (convert 23 9 (.slice A2 bk.length c2)).run Tryd.prog w' = .ok (.string (strOfNums bk)) w') (ds := []) #[false, false, false, false, false, false, false, false, false, false, false, false, false, false, false, false, false, false, false, false, false, false, false, false, false, false] (by kernel_rfl) rfl rfl ⟨Cells15.mk_ (blk_below HX.out (below_drew1 (Below.refl _ _))), Cells15.mk_ (blk_below HXX.out (below_drew1 (Below.refl _ _))), Cells15.mk_ (blk_below HYY.out (below_drew1 (Below.refl _ _))), Kd.C_string (P := Tryd.prog) (A := A2) (c := c2) Tryd.underlying23 Tryd.underlying5 Tryd.underlying9 (Kd.C_below HCK.out (below_drew1 (Below.refl _ _)))⟩ (fun hHeld => ?_)
    have HBq := ak (below_drew1 (Below.refl wb.heap.size wb))
    generalize hwu_ : wb.drew = wu at *
    clear hwu_
    refine pure_ (i := 0) (N := some 68) (v := ?_) (a' := ?_) #[true, false, false, false, false, false, false, false, false, false, false, false, false, false, false, false, false, false, false, false, false, false, false, false, false, false] rfl rfl (by kernel_rfl) (fun _ _ _ h => h) (Or.inl ⟨by rfl, ?_⟩) ?_ ?_
    rotate_left
    ·
     intro w'
     go_simp
     with_reducible rfl
    rotate_left
    ·
     simp only [Act.put, sq1, sq2, sq3, i64_w, i32_w]
     rfl
    refine pure_ (i := 1) (N := some 69) (v := ?_) (a' := ?_) #[true, true, false, false, false, false, false, false, false, false, false, false, false, false, false, false, false, false, false, false, false, false, false, false, false, false] rfl rfl (by kernel_rfl) (fun _ _ _ h => h) (Or.inl ⟨by rfl, ?_⟩) ?_ ?_
    rotate_left
    ·
     intro w'
     go_simp
     with_reducible rfl
    rotate_left
    ·
     simp only [Act.put, sq1, sq2, sq3, i64_w, i32_w]
     rfl
    refine pure_ (i := 2) (N := some 70) (v := ?_) (a' := ?_) #[true, true, true, false, false, false, false, false, false, false, false, false, false, false, false, false, false, false, false, false, false, false, false, false, false, false] rfl rfl (by kernel_rfl) (fun _ _ _ h => h) (Or.inl ⟨by rfl, ?_⟩) ?_ ?_
    rotate_left
    ·
     intro w'
     go_simp
     with_reducible rfl
    rotate_left
    ·
     simp only [Act.put, sq1, sq2, sq3, i64_w, i32_w]
     rfl
    refine pure_ (i := 3) (N := some 71) (v := ?_) (a' := ?_) #[true, true, true, true, false, false, false, false, false, false, false, false, false, false, false, false, false, false, false, false, false, false, false, false, false, false] rfl rfl (by kernel_rfl) (fun _ _ _ h => h) (Or.inl ⟨by rfl, ?_⟩) ?_ ?_
    rotate_left
    ·
     intro w'
     go_simp
     with_reducible rfl
    rotate_left
    ·
     simp only [Act.put, sq1, sq2, sq3, i64_w, i32_w]
     rfl
    refine pure_ (i := 4) (N := some 72) (v := ?_) (a' := ?_) #[true, true, true, true, true, false, false, false, false, false, false, false, false, false, false, false, false, false, false, false, false, false, false, false, false, false] rfl rfl (by kernel_rfl) (fun _ _ _ h => h) (Or.inl ⟨by rfl, ?_⟩) ?_ ?_
    rotate_left
    ·
     intro w'
     go_simp
     with_reducible rfl
    rotate_left
    ·
     simp only [Act.put, sq1, sq2, sq3, i64_w, i32_w]
     rfl
    refine pure_ (i := 8) (N := some 76) (v := ?_) (a' := ?_) #[true, true, true, true, true, false, false, false, true, false, false, false, false, false, false, false, false, false, false, false, false, false, false, false, false, false] rfl rfl (by kernel_rfl) (fun _ _ _ h => h) (Or.inl ⟨by rfl, ?_⟩) ?_ ?_
    rotate_left
    ·
     intro w'
     go_simp
     with_reducible rfl
    rotate_left
    ·
     simp only [Act.put, sq1, sq2, sq3, i64_w, i32_w]
     rfl
    refine pure_ (i := 9) (N := some 77) (v := ?_) (a' := ?_) #[true, true, true, true, true, false, false, false, true, true, false, false, false, false, false, false, false, false, false, false, false, false, false, false, false, false] rfl rfl (by kernel_rfl) (fun _ _ _ h => h) (Or.inl ⟨by rfl, ?_⟩) ?_ ?_
    rotate_left
    ·
     intro w'
     go_simp
     with_reducible rfl
    rotate_left
    ·
     simp only [Act.put, sq1, sq2, sq3, i64_w, i32_w]
     rfl
    refine pure_ (i := 10) (N := some 78) (v := ?_) (a' := ?_) #[true, true, true, true, true, false, false, false, true, true, true, false, false, false, false, false, false, false, false, false, false, false, false, false, false, false] rfl rfl (by kernel_rfl) (fun _ _ _ h => h) (Or.inl ⟨by rfl, ?_⟩) ?_ ?_
    rotate_left
    ·
     intro w'
     go_simp
     with_reducible rfl
    rotate_left
    ·
     simp only [Act.put, sq1, sq2, sq3, i64_w, i32_w]
     rfl
    refine take_ (i := 5) (N := some 73) (v := ?_) (a' := ?_) #[true, true, true, true, true, true, false, false, true, true, true, false, false, false, false, false, false, false, false, false, false, false, false, false, false, false] rfl rfl (by kernel_rfl) (fun _ _ _ h => h) (Or.inl ⟨by rfl, ?_⟩) hHeld ?_ ?_
    rotate_left
    ·
     rintro w' ⟨s, x, y, s3⟩
     unfold Cells15 at s x y
     go_simp
     with_reducible rfl
    rotate_left
    ·
     simp only [Act.put, sq1, sq2, sq3, i64_w, i32_w]
     rfl
    refine take_ (i := 11) (N := some 79) (v := ?_) (a' := ?_) #[true, true, true, true, true, true, false, false, true, true, true, true, false, false, false, false, false, false, false, false, false, false, false, false, false, false] rfl rfl (by kernel_rfl) (fun _ _ _ h => h) (Or.inl ⟨by rfl, ?_⟩) hHeld ?_ ?_
    rotate_left
    ·
     rintro w' ⟨s, x, y, s3⟩
     unfold Cells15 at s x y
     go_simp
     with_reducible rfl
    rotate_left
    ·
     simp only [Act.put, sq1, sq2, sq3, i64_w, i32_w]
     rfl
    refine one_ (i := 6) (N := some 74) #[true, true, true, true, true, true, true, false, true, true, true, true, false, false, false, false, false, false, false, false, false, false, false, false, false, false] rfl rfl (by kernel_rfl) (by decide) (fun K hK => ?_)
    have HCT := Lib.hid (show Calls Tryd.prog 18 #[.agg #[.int .i64 x1, .int .i64 x2, .int .i64 k2, .int .i64 s2, .int .i64 ee2, .int .i64 i2, .int .i64 t2, .int .i64 cc2, .slice D8 L2.length e8, .slice D9 bo2.length e9, .int .i64 T2, .int .i64 O2, .int .i64 M2, .int .i64 P2, .slice D14 R2.length e14]] wu _ from precentorref04_Bytes.calls 1 x1 x2 k2 s2 ee2 i2 t2 cc2 D8 e8 L2 D9 e9 bo2 T2 O2 M2 P2 D14 e14 R2 bk wu (Kd.C_below X8.out HBq.out) Xl8.out (Kd.C_below X9.out HBq.out) Xl9.out (Kd.C_below X14.out HBq.out) Xl14.out ((rbytes4_is HB2.out HW2.out.2.1 HW2.out.2.2.1 HW2.out.2.2.2 _).trans (by rw [HM2.out, if_pos rfl, ← HS2.out])))
    refine goes_ Tryd.func18 (by kernel_rfl) rfl #[.agg #[.int .i64 x1, .int .i64 x2, .int .i64 k2, .int .i64 s2, .int .i64 ee2, .int .i64 i2, .int .i64 t2, .int .i64 cc2, .slice D8 L2.length e8, .slice D9 bo2.length e9, .int .i64 T2, .int .i64 O2, .int .i64 M2, .int .i64 P2, .slice D14 R2.length e14]] (by rfl) rfl rfl (by simp only [List.map_toArray, List.map_cons, List.map_nil]; rfl) ?_
    with_reducible refine (HCT.out).mono ?_
    rintro e0 wv ⟨vs, rfl, hr, hb⟩
    refine ⟨_, rfl, ?_⟩
    have HRS := ak hr
    clear hr
    have n0_ := ak (below_step HBq.out hb)
    clear HBq hb HCT
    have HBq := n0_
    clear n0_
    refine hK.out _ _ ⟨Cells15.mk_ (blk_below HX.out HBq.out), Cells15.mk_ (blk_below HXX.out HBq.out), Cells15.mk_ (blk_below HYY.out HBq.out), Kd.C_string (P := Tryd.prog) (A := A2) (c := c2) Tryd.underlying23 Tryd.underlying5 Tryd.underlying9 (Kd.C_below HCK.out HBq.out)⟩ (fun hHeld => ?_)
    clear hK K
    refine norm_ (a' := ?_) ?_ ?_
    rotate_left
    ·
     show Act.put _ (some 74) _ = _
     simp only [Act.put, sq1, sq2, sq3, i64_w, i32_w]
     rfl
    refine one_ (i := 7) (N := some 75) #[true, true, true, true, true, true, true, true, true, true, true, true, false, false, false, false, false, false, false, false, false, false, false, false, false, false] rfl rfl (by kernel_rfl) (by decide) (fun K hK => ?_)
    have hcv := own_string (P := Tryd.prog) Tryd.underlying23 Tryd.underlying5 Tryd.underlying9 (Kd.own_of_R HRS.out)
    refine value_ (w1 := ?_) (v := ?_) (by rfl) rfl ?_ ?_
    rotate_left 2
    ·
     go_simp
     constructor
     ·
      rfl
     ·
      rfl
    clear hcv
    refine hK.out _ _ ⟨Cells15.mk_ (blk_below HX.out HBq.out), Cells15.mk_ (blk_below HXX.out HBq.out), Cells15.mk_ (blk_below HYY.out HBq.out), Kd.C_string (P := Tryd.prog) (A := A2) (c := c2) Tryd.underlying23 Tryd.underlying5 Tryd.underlying9 (Kd.C_below HCK.out HBq.out)⟩ (fun hHeld => ?_)
    clear hK K
    refine norm_ (a' := ?_) ?_ ?_
    rotate_left
    ·
     show Act.put _ (some 75) _ = _
     simp only [Act.put, sq1, sq2, sq3, i64_w, i32_w]
     rfl
    refine pure_ (i := 12) (N := some 80) (v := ?_) (a' := ?_) #[true, true, true, true, true, true, true, true, true, true, true, true, true, false, false, false, false, false, false, false, false, false, false, false, false, false] rfl rfl (by kernel_rfl) (fun _ _ _ h => h) (Or.inl ⟨by rfl, ?_⟩) ?_ ?_
    rotate_left
    ·
     intro w'
     go_simp
     with_reducible rfl
    rotate_left
    ·
     simp only [Act.put, sq1, sq2, sq3, i64_w, i32_w]
     rfl
    refine pure_ (i := 13) (N := some 81) (v := ?_) (a' := ?_) #[true, true, true, true, true, true, true, true, true, true, true, true, true, true, false, false, false, false, false, false, false, false, false, false, false, false] rfl rfl (by kernel_rfl) (fun _ _ _ h => h) (Or.inl ⟨by rfl, ?_⟩) ?_ ?_
    rotate_left
    ·
     intro w'
     go_simp
     with_reducible rfl
    rotate_left
    ·
     simp only [Act.put, sq1, sq2, sq3, i64_w, i32_w]
     rfl
    refine pure_ (i := 14) (N := some 82) (v := ?_) (a' := ?_) #[true, true, true, true, true, true, true, true, true, true, true, true, true, true, true, false, false, false, false, false, false, false, false, false, false, false] rfl rfl (by kernel_rfl) (fun _ _ _ h => h) (Or.inl ⟨by rfl, ?_⟩) ?_ ?_
    rotate_left
    ·
     intro w'
     go_simp
     with_reducible rfl
    rotate_left
    ·
     simp only [Act.put, sq1, sq2, sq3, i64_w, i32_w]
     rfl
    refine pure_ (i := 15) (N := some 83) (v := ?_) (a' := ?_) #[true, true, true, true, true, true, true, true, true, true, true, true, true, true, true, true, false, false, false, false, false, false, false, false, false, false] rfl rfl (by kernel_rfl) (fun _ _ _ h => h) (Or.inl ⟨by rfl, ?_⟩) ?_ ?_
    rotate_left
    ·
     intro w'
     go_simp
     with_reducible rfl
    rotate_left
    ·
     simp only [Act.put, sq1, sq2, sq3, i64_w, i32_w]
     rfl
    refine pure_ (i := 16) (N := some 84) (v := ?_) (a' := ?_) #[true, true, true, true, true, true, true, true, true, true, true, true, true, true, true, true, true, false, false, false, false, false, false, false, false, false] rfl rfl (by kernel_rfl) (fun _ _ _ h => h) (Or.inl ⟨by rfl, ?_⟩) ?_ ?_
    rotate_left
    ·
     intro w'
     go_simp
     with_reducible rfl
    rotate_left
    ·
     simp only [Act.put, sq1, sq2, sq3, i64_w, i32_w]
     rfl
    refine pure_ (i := 17) (N := some 85) (v := ?_) (a' := ?_) #[true, true, true, true, true, true, true, true, true, true, true, true, true, true, true, true, true, true, false, false, false, false, false, false, false, false] rfl rfl (by kernel_rfl) (fun _ _ _ h => h) (Or.inl ⟨by rfl, ?_⟩) ?_ ?_
    rotate_left
    ·
     intro w'
     go_simp
     with_reducible rfl
    rotate_left
    ·
     simp only [Act.put, sq1, sq2, sq3, i64_w, i32_w]
     rfl
    refine pure_ (i := 18) (N := some 86) (v := ?_) (a' := ?_) #[true, true, true, true, true, true, true, true, true, true, true, true, true, true, true, true, true, true, true, false, false, false, false, false, false, false] rfl rfl (by kernel_rfl) (fun _ _ _ h => h) (Or.inl ⟨by rfl, ?_⟩) ?_ ?_
    rotate_left
    ·
     intro w'
     go_simp
     with_reducible rfl
    rotate_left
    ·
     simp only [Act.put, sq1, sq2, sq3, i64_w, i32_w]
     rfl
    refine take_ (i := 19) (N := some 87) (v := ?_) (a' := ?_) #[true, true, true, true, true, true, true, true, true, true, true, true, true, true, true, true, true, true, true, true, false, false, false, false, false, false] rfl rfl (by kernel_rfl) (fun _ _ _ h => h) (Or.inl ⟨by rfl, ?_⟩) hHeld ?_ ?_
    rotate_left
    ·
     rintro w' ⟨s, x, y, s3⟩
     unfold Cells15 at s x y
     go_simp
     with_reducible rfl
    rotate_left
    ·
     simp only [Act.put, sq1, sq2, sq3, i64_w, i32_w]
     rfl
    refine take_ (i := 20) (N := some 88) (v := ?_) (a' := ?_) #[true, true, true, true, true, true, true, true, true, true, true, true, true, true, true, true, true, true, true, true, true, false, false, false, false, false] rfl rfl (by kernel_rfl) (fun _ _ _ h => h) (Or.inl ⟨by rfl, ?_⟩) hHeld ?_ ?_
    rotate_left
    ·
     rintro w' ⟨s, x, y, s3⟩
     unfold Cells15 at s x y
     go_simp
     with_reducible rfl
    rotate_left
    ·
     simp only [Act.put, sq1, sq2, sq3, i64_w, i32_w]
     rfl
    refine one_ (i := 21) (N := some 89) #[true, true, true, true, true, true, true, true, true, true, true, true, true, true, true, true, true, true, true, true, true, true, false, false, false, false] rfl rfl (by kernel_rfl) (by decide) (fun K hK => ?_)
    have HCT := Lib.hid (show Calls Tryd.prog 16 #[.agg #[.int .i64 y1, .int .i64 y2, .int .i64 k3, .int .i64 s3, .int .i64 ee3, .int .i64 i3, .int .i64 t3, .int .i64 cc3, .slice Z8 L3.length f8, .slice Z9 bo3.length f9, .int .i64 T3, .int .i64 O3, .int .i64 M3, .int .i64 P3, .slice Z14 R3.length f14], .agg #[.int .i64 kd, .int .i64 fr, .int .i64 k, .int .i64 s, .int .i64 e, .int .i64 i, .int .i64 t, .int .i64 c, .slice A8 L.length c8, .slice A9 bo.length c9, .int .i64 T, .int .i64 O, .int .i64 M, .int .i64 P, .slice A14 R.length c14]] wv _ from precentorref04_Same.calls 1 y1 y2 k3 s3 ee3 i3 t3 cc3 Z8 f8 L3 Z9 f9 bo3 T3 O3 M3 P3 Z14 f14 R3 kd fr k s e i t c A8 c8 L A9 c9 bo T O M P A14 c14 R false wv (Kd.C_below Y8.out HBq.out) Yl8.out (Kd.C_below Y9.out HBq.out) Yl9.out (Kd.C_below Y14.out HBq.out) Yl14.out (Kd.C_below H8.out HBq.out) HC8.out (Kd.C_below H9.out HBq.out) HC9.out (Kd.C_below H14.out HBq.out) HC14.out ((if_pos ⟨HW3.out.2.1, HW3.out.2.2.2⟩).trans (by rw [HNO.out])))
    refine goes_ Tryd.func16 (by kernel_rfl) rfl #[.agg #[.int .i64 y1, .int .i64 y2, .int .i64 k3, .int .i64 s3, .int .i64 ee3, .int .i64 i3, .int .i64 t3, .int .i64 cc3, .slice Z8 L3.length f8, .slice Z9 bo3.length f9, .int .i64 T3, .int .i64 O3, .int .i64 M3, .int .i64 P3, .slice Z14 R3.length f14], .agg #[.int .i64 kd, .int .i64 fr, .int .i64 k, .int .i64 s, .int .i64 e, .int .i64 i, .int .i64 t, .int .i64 c, .slice A8 L.length c8, .slice A9 bo.length c9, .int .i64 T, .int .i64 O, .int .i64 M, .int .i64 P, .slice A14 R.length c14]] (by rfl) rfl rfl (by simp only [List.map_toArray, List.map_cons, List.map_nil]; rfl) ?_
    with_reducible refine (HCT.out).mono ?_
    rintro e0 wx ⟨rfl, hb⟩
    refine ⟨_, rfl, ?_⟩
    have n0_ := ak (below_step HBq.out hb)
    clear HBq hb HCT
    have HBq := n0_
    clear n0_
    refine hK.out _ _ ⟨Cells15.mk_ (blk_below HX.out HBq.out), Cells15.mk_ (blk_below HXX.out HBq.out), Cells15.mk_ (blk_below HYY.out HBq.out), Kd.C_string (P := Tryd.prog) (A := A2) (c := c2) Tryd.underlying23 Tryd.underlying5 Tryd.underlying9 (Kd.C_below HCK.out HBq.out)⟩ (fun hHeld => ?_)
    clear hK K
    refine norm_ (a' := ?_) ?_ ?_
    rotate_left
    ·
     show Act.put _ (some 89) _ = _
     simp only [Act.put, sq1, sq2, sq3, i64_w, i32_w]
     rfl
    refine pure_ (i := 22) (N := some 90) (v := ?_) (a' := ?_) #[true, true, true, true, true, true, true, true, true, true, true, true, true, true, true, true, true, true, true, true, true, true, true, false, false, false] rfl rfl (by kernel_rfl) (fun _ _ _ h => h) (Or.inl ⟨by rfl, ?_⟩) ?_ ?_
    rotate_left
    ·
     intro w'
     go_simp
     with_reducible rfl
    rotate_left
    ·
     simp only [Act.put, sq1, sq2, sq3, i64_w, i32_w]
     rfl
    refine pure_ (i := 23) (N := some 91) (v := ?_) (a' := ?_) #[true, true, true, true, true, true, true, true, true, true, true, true, true, true, true, true, true, true, true, true, true, true, true, true, false, false] rfl rfl (by kernel_rfl) (fun _ _ _ h => h) (Or.inl ⟨by rfl, ?_⟩) ?_ ?_
    rotate_left
    ·
     intro w'
     go_simp
     with_reducible rfl
    rotate_left
    ·
     simp only [Act.put, sq1, sq2, sq3, i64_w, i32_w]
     rfl
    refine pure_ (i := 24) (N := some 92) (v := ?_) (a' := ?_) #[true, true, true, true, true, true, true, true, true, true, true, true, true, true, true, true, true, true, true, true, true, true, true, true, true, false] rfl rfl (by kernel_rfl) (fun _ _ _ h => h) (Or.inl ⟨by rfl, ?_⟩) ?_ ?_
    rotate_left
    ·
     intro w'
     go_simp
     with_reducible rfl
    rotate_left
    ·
     simp only [Act.put, sq1, sq2, sq3, i64_w, i32_w]
     rfl
    refine pure_ (i := 25) (N := some 6) (v := ?_) (a' := ?_) #[true, true, true, true, true, true, true, true, true, true, true, true, true, true, true, true, true, true, true, true, true, true, true, true, true, true] rfl rfl (by kernel_rfl) (fun _ _ _ h => h) (Or.inl ⟨by rfl, ?_⟩) ?_ ?_
    rotate_left
    ·
     intro w'
     go_simp
     with_reducible rfl
    rotate_left
    ·
     simp only [Act.put, sq1, sq2, sq3, i64_w, i32_w]
     rfl
    refine done_ (by kernel_rfl) ?_
    try clear hHeld
    go_wp2_with fail
    go_ret
    exact ⟨rfl, below_step HB.out HBq.out⟩
  ·
   as_aux_lemma =>
    have f1 : (y16 != 0) = true := bne_iff_ne.2 hf
    have f2 : (y16 == 0) = false := beq_eq_false_iff_ne.2 hf
    clear hf HCY
    refine start_ (n := 26) (S := fun w' => Cells15 w.heap.size (.int .i64 kd) (.int .i64 fr) (.int .i64 k) (.int .i64 s) (.int .i64 e) (.int .i64 i) (.int .i64 t) (.int .i64 c) (.slice A8 L.length c8) (.slice A9 bo.length c9) (.int .i64 T) (.int .i64 O) (.int .i64 M) (.int .i64 P) (.slice A14 R.length c14) w' ∧ Cells15 gx (.int .i64 x1) (.int .i64 x2) (.int .i64 k2) (.int .i64 s2) (.int .i64 ee2) (.int .i64 i2) (.int .i64 t2) (.int .i64 cc2) (.slice D8 L2.length e8) (.slice D9 bo2.length e9) (.int .i64 T2) (.int .i64 O2) (.int .i64 M2) (.int .i64 P2) (.slice D14 R2.length e14) w' ∧ Cells15 gy (.int .i64 y1) (.int .i64 y2) (.int .i64 y3) (.int .i64 y4) (.int .i64 y5) (.int .i64 y6) (.int .i64 y7) (.int .i64 y8) (.slice Z8 y9.length f8) (.slice Z9 y10.length f9) (.int .i64 y11) (.int .i64 y12) (.int .i64 y13) (.int .i64 y14) (.slice Z14 y15.length f14) w' ∧ (convert 23 9 (.slice A2 bk.length c2)).run Tryd.prog w' = .ok (.string (strOfNums bk)) w') (ds := []) #[false, false, false, false, false, false, false, false, false, false, false, false, false, false, false, false, false, false, false, false, false, false, false, false, false, false] (by kernel_rfl) rfl rfl ⟨Cells15.mk_ (blk_below HX.out (below_drew1 (Below.refl _ _))), Cells15.mk_ (blk_below HXX.out (below_drew1 (Below.refl _ _))), Cells15.mk_ (blk_below HYY.out (below_drew1 (Below.refl _ _))), Kd.C_string (P := Tryd.prog) (A := A2) (c := c2) Tryd.underlying23 Tryd.underlying5 Tryd.underlying9 (Kd.C_below HCK.out (below_drew1 (Below.refl _ _)))⟩ (fun hHeld => ?_)
    have HBq := ak (below_drew1 (Below.refl wb.heap.size wb))
    generalize hwu_ : wb.drew = wu at *
    clear hwu_
    refine pure_ (i := 0) (N := some 68) (v := ?_) (a' := ?_) #[true, false, false, false, false, false, false, false, false, false, false, false, false, false, false, false, false, false, false, false, false, false, false, false, false, false] rfl rfl (by kernel_rfl) (fun _ _ _ h => h) (Or.inl ⟨by rfl, ?_⟩) ?_ ?_
    rotate_left
    ·
     intro w'
     go_simp
     with_reducible rfl
    rotate_left
    ·
     simp only [Act.put, sq1, sq2, sq3, i64_w, i32_w]
     rfl
    refine pure_ (i := 1) (N := some 69) (v := ?_) (a' := ?_) #[true, true, false, false, false, false, false, false, false, false, false, false, false, false, false, false, false, false, false, false, false, false, false, false, false, false] rfl rfl (by kernel_rfl) (fun _ _ _ h => h) (Or.inl ⟨by rfl, ?_⟩) ?_ ?_
    rotate_left
    ·
     intro w'
     go_simp
     with_reducible rfl
    rotate_left
    ·
     simp only [Act.put, sq1, sq2, sq3, i64_w, i32_w]
     rfl
    refine pure_ (i := 2) (N := some 70) (v := ?_) (a' := ?_) #[true, true, true, false, false, false, false, false, false, false, false, false, false, false, false, false, false, false, false, false, false, false, false, false, false, false] rfl rfl (by kernel_rfl) (fun _ _ _ h => h) (Or.inl ⟨by rfl, ?_⟩) ?_ ?_
    rotate_left
    ·
     intro w'
     go_simp
     with_reducible rfl
    rotate_left
    ·
     simp only [Act.put, sq1, sq2, sq3, i64_w, i32_w]
     rfl
    refine pure_ (i := 3) (N := some 71) (v := ?_) (a' := ?_) #[true, true, true, true, false, false, false, false, false, false, false, false, false, false, false, false, false, false, false, false, false, false, false, false, false, false] rfl rfl (by kernel_rfl) (fun _ _ _ h => h) (Or.inl ⟨by rfl, ?_⟩) ?_ ?_
    rotate_left
    ·
     intro w'
     go_simp
     with_reducible rfl
    rotate_left
    ·
     simp only [Act.put, sq1, sq2, sq3, i64_w, i32_w]
     rfl
    refine pure_ (i := 4) (N := some 72) (v := ?_) (a' := ?_) #[true, true, true, true, true, false, false, false, false, false, false, false, false, false, false, false, false, false, false, false, false, false, false, false, false, false] rfl rfl (by kernel_rfl) (fun _ _ _ h => h) (Or.inl ⟨by rfl, ?_⟩) ?_ ?_
    rotate_left
    ·
     intro w'
     go_simp
     with_reducible rfl
    rotate_left
    ·
     simp only [Act.put, sq1, sq2, sq3, i64_w, i32_w]
     rfl
    refine pure_ (i := 8) (N := some 76) (v := ?_) (a' := ?_) #[true, true, true, true, true, false, false, false, true, false, false, false, false, false, false, false, false, false, false, false, false, false, false, false, false, false] rfl rfl (by kernel_rfl) (fun _ _ _ h => h) (Or.inl ⟨by rfl, ?_⟩) ?_ ?_
    rotate_left
    ·
     intro w'
     go_simp
     with_reducible rfl
    rotate_left
    ·
     simp only [Act.put, sq1, sq2, sq3, i64_w, i32_w]
     rfl
    refine pure_ (i := 9) (N := some 77) (v := ?_) (a' := ?_) #[true, true, true, true, true, false, false, false, true, true, false, false, false, false, false, false, false, false, false, false, false, false, false, false, false, false] rfl rfl (by kernel_rfl) (fun _ _ _ h => h) (Or.inl ⟨by rfl, ?_⟩) ?_ ?_
    rotate_left
    ·
     intro w'
     go_simp
     with_reducible rfl
    rotate_left
    ·
     simp only [Act.put, sq1, sq2, sq3, i64_w, i32_w]
     rfl
    refine pure_ (i := 10) (N := some 78) (v := ?_) (a' := ?_) #[true, true, true, true, true, false, false, false, true, true, true, false, false, false, false, false, false, false, false, false, false, false, false, false, false, false] rfl rfl (by kernel_rfl) (fun _ _ _ h => h) (Or.inl ⟨by rfl, ?_⟩) ?_ ?_
    rotate_left
    ·
     intro w'
     go_simp
     with_reducible rfl
    rotate_left
    ·
     simp only [Act.put, sq1, sq2, sq3, i64_w, i32_w]
     rfl
    refine take_ (i := 5) (N := some 73) (v := ?_) (a' := ?_) #[true, true, true, true, true, true, false, false, true, true, true, false, false, false, false, false, false, false, false, false, false, false, false, false, false, false] rfl rfl (by kernel_rfl) (fun _ _ _ h => h) (Or.inl ⟨by rfl, ?_⟩) hHeld ?_ ?_
    rotate_left
    ·
     rintro w' ⟨s, x, y, s3⟩
     unfold Cells15 at s x y
     go_simp
     with_reducible rfl
    rotate_left
    ·
     simp only [Act.put, sq1, sq2, sq3, i64_w, i32_w]
     rfl
    refine take_ (i := 11) (N := some 79) (v := ?_) (a' := ?_) #[true, true, true, true, true, true, false, false, true, true, true, true, false, false, false, false, false, false, false, false, false, false, false, false, false, false] rfl rfl (by kernel_rfl) (fun _ _ _ h => h) (Or.inl ⟨by rfl, ?_⟩) hHeld ?_ ?_
    rotate_left
    ·
     rintro w' ⟨s, x, y, s3⟩
     unfold Cells15 at s x y
     go_simp
     with_reducible rfl
    rotate_left
    ·
     simp only [Act.put, sq1, sq2, sq3, i64_w, i32_w]
     rfl
    refine one_ (i := 6) (N := some 74) #[true, true, true, true, true, true, true, false, true, true, true, true, false, false, false, false, false, false, false, false, false, false, false, false, false, false] rfl rfl (by kernel_rfl) (by decide) (fun K hK => ?_)
    have HCT := Lib.hid (show Calls Tryd.prog 18 #[.agg #[.int .i64 x1, .int .i64 x2, .int .i64 k2, .int .i64 s2, .int .i64 ee2, .int .i64 i2, .int .i64 t2, .int .i64 cc2, .slice D8 L2.length e8, .slice D9 bo2.length e9, .int .i64 T2, .int .i64 O2, .int .i64 M2, .int .i64 P2, .slice D14 R2.length e14]] wu _ from precentorref04_Bytes.calls 1 x1 x2 k2 s2 ee2 i2 t2 cc2 D8 e8 L2 D9 e9 bo2 T2 O2 M2 P2 D14 e14 R2 bk wu (Kd.C_below X8.out HBq.out) Xl8.out (Kd.C_below X9.out HBq.out) Xl9.out (Kd.C_below X14.out HBq.out) Xl14.out ((rbytes4_is HB2.out HW2.out.2.1 HW2.out.2.2.1 HW2.out.2.2.2 _).trans (by rw [HM2.out, if_pos rfl, ← HS2.out])))
    refine goes_ Tryd.func18 (by kernel_rfl) rfl #[.agg #[.int .i64 x1, .int .i64 x2, .int .i64 k2, .int .i64 s2, .int .i64 ee2, .int .i64 i2, .int .i64 t2, .int .i64 cc2, .slice D8 L2.length e8, .slice D9 bo2.length e9, .int .i64 T2, .int .i64 O2, .int .i64 M2, .int .i64 P2, .slice D14 R2.length e14]] (by rfl) rfl rfl (by simp only [List.map_toArray, List.map_cons, List.map_nil]; rfl) ?_
    with_reducible refine (HCT.out).mono ?_
    rintro e0 wv ⟨vs, rfl, hr, hb⟩
    refine ⟨_, rfl, ?_⟩
    have HRS := ak hr
    clear hr
    have n0_ := ak (below_step HBq.out hb)
    clear HBq hb HCT
    have HBq := n0_
    clear n0_
    refine hK.out _ _ ⟨Cells15.mk_ (blk_below HX.out HBq.out), Cells15.mk_ (blk_below HXX.out HBq.out), Cells15.mk_ (blk_below HYY.out HBq.out), Kd.C_string (P := Tryd.prog) (A := A2) (c := c2) Tryd.underlying23 Tryd.underlying5 Tryd.underlying9 (Kd.C_below HCK.out HBq.out)⟩ (fun hHeld => ?_)
    clear hK K
    refine norm_ (a' := ?_) ?_ ?_
    rotate_left
    ·
     show Act.put _ (some 74) _ = _
     simp only [Act.put, sq1, sq2, sq3, i64_w, i32_w]
     rfl
    refine one_ (i := 7) (N := some 75) #[true, true, true, true, true, true, true, true, true, true, true, true, false, false, false, false, false, false, false, false, false, false, false, false, false, false] rfl rfl (by kernel_rfl) (by decide) (fun K hK => ?_)
    have hcv := own_string (P := Tryd.prog) Tryd.underlying23 Tryd.underlying5 Tryd.underlying9 (Kd.own_of_R HRS.out)
    refine value_ (w1 := ?_) (v := ?_) (by rfl) rfl ?_ ?_
    rotate_left 2
    ·
     go_simp
     constructor
     ·
      rfl
     ·
      rfl
    clear hcv
    refine hK.out _ _ ⟨Cells15.mk_ (blk_below HX.out HBq.out), Cells15.mk_ (blk_below HXX.out HBq.out), Cells15.mk_ (blk_below HYY.out HBq.out), Kd.C_string (P := Tryd.prog) (A := A2) (c := c2) Tryd.underlying23 Tryd.underlying5 Tryd.underlying9 (Kd.C_below HCK.out HBq.out)⟩ (fun hHeld => ?_)
    clear hK K
    refine norm_ (a' := ?_) ?_ ?_
    rotate_left
    ·
     show Act.put _ (some 75) _ = _
     simp only [Act.put, sq1, sq2, sq3, i64_w, i32_w]
     rfl
    refine pure_ (i := 12) (N := some 80) (v := ?_) (a' := ?_) #[true, true, true, true, true, true, true, true, true, true, true, true, true, false, false, false, false, false, false, false, false, false, false, false, false, false] rfl rfl (by kernel_rfl) (fun _ _ _ h => h) (Or.inl ⟨by rfl, ?_⟩) ?_ ?_
    rotate_left
    ·
     intro w'
     go_simp
     with_reducible rfl
    rotate_left
    ·
     simp only [Act.put, sq1, sq2, sq3, i64_w, i32_w]
     rfl
    refine pure_ (i := 13) (N := some 81) (v := ?_) (a' := ?_) #[true, true, true, true, true, true, true, true, true, true, true, true, true, true, false, false, false, false, false, false, false, false, false, false, false, false] rfl rfl (by kernel_rfl) (fun _ _ _ h => h) (Or.inl ⟨by rfl, ?_⟩) ?_ ?_
    rotate_left
    ·
     intro w'
     go_simp
     with_reducible rfl
    rotate_left
    ·
     simp only [Act.put, sq1, sq2, sq3, i64_w, i32_w]
     rfl
    refine pure_ (i := 14) (N := some 82) (v := ?_) (a' := ?_) #[true, true, true, true, true, true, true, true, true, true, true, true, true, true, true, false, false, false, false, false, false, false, false, false, false, false] rfl rfl (by kernel_rfl) (fun _ _ _ h => h) (Or.inl ⟨by rfl, ?_⟩) ?_ ?_
    rotate_left
    ·
     intro w'
     go_simp
     with_reducible rfl
    rotate_left
    ·
     simp only [Act.put, sq1, sq2, sq3, i64_w, i32_w]
     rfl
    refine pure_ (i := 15) (N := some 83) (v := ?_) (a' := ?_) #[true, true, true, true, true, true, true, true, true, true, true, true, true, true, true, true, false, false, false, false, false, false, false, false, false, false] rfl rfl (by kernel_rfl) (fun _ _ _ h => h) (Or.inl ⟨by rfl, ?_⟩) ?_ ?_
    rotate_left
    ·
     intro w'
     go_simp
     with_reducible rfl
    rotate_left
    ·
     simp only [Act.put, sq1, sq2, sq3, i64_w, i32_w]
     rfl
    refine pure_ (i := 16) (N := some 84) (v := ?_) (a' := ?_) #[true, true, true, true, true, true, true, true, true, true, true, true, true, true, true, true, true, false, false, false, false, false, false, false, false, false] rfl rfl (by kernel_rfl) (fun _ _ _ h => h) (Or.inl ⟨by rfl, ?_⟩) ?_ ?_
    rotate_left
    ·
     intro w'
     go_simp
     with_reducible rfl
    rotate_left
    ·
     simp only [Act.put, sq1, sq2, sq3, i64_w, i32_w]
     rfl
    refine pure_ (i := 17) (N := some 85) (v := ?_) (a' := ?_) #[true, true, true, true, true, true, true, true, true, true, true, true, true, true, true, true, true, true, false, false, false, false, false, false, false, false] rfl rfl (by kernel_rfl) (fun _ _ _ h => h) (Or.inl ⟨by rfl, ?_⟩) ?_ ?_
    rotate_left
    ·
     intro w'
     go_simp
     with_reducible rfl
    rotate_left
    ·
     simp only [Act.put, sq1, sq2, sq3, i64_w, i32_w]
     rfl
    refine pure_ (i := 18) (N := some 86) (v := ?_) (a' := ?_) #[true, true, true, true, true, true, true, true, true, true, true, true, true, true, true, true, true, true, true, false, false, false, false, false, false, false] rfl rfl (by kernel_rfl) (fun _ _ _ h => h) (Or.inl ⟨by rfl, ?_⟩) ?_ ?_
    rotate_left
    ·
     intro w'
     go_simp
     with_reducible rfl
    rotate_left
    ·
     simp only [Act.put, sq1, sq2, sq3, i64_w, i32_w]
     rfl
    refine pure_ (i := 19) (N := some 87) (v := undef) (a' := ?_) #[true, true, true, true, true, true, true, true, true, true, true, true, true, true, true, true, true, true, true, true, false, false, false, false, false, false] rfl rfl (by kernel_rfl) (fun _ _ _ h => h) (Or.inr ⟨by rfl, rfl⟩) ?_ ?_
    rotate_left
    ·
     simp only [Act.put, sq1, sq2, sq3, i64_w, i32_w]
     rfl
    refine pure_ (i := 20) (N := some 88) (v := undef) (a' := ?_) #[true, true, true, true, true, true, true, true, true, true, true, true, true, true, true, true, true, true, true, true, true, false, false, false, false, false] rfl rfl (by kernel_rfl) (fun _ _ _ h => h) (Or.inr ⟨by rfl, rfl⟩) ?_ ?_
    rotate_left
    ·
     simp only [Act.put, sq1, sq2, sq3, i64_w, i32_w]
     rfl
    refine pure_ (i := 21) (N := some 89) (v := undef) (a' := ?_) #[true, true, true, true, true, true, true, true, true, true, true, true, true, true, true, true, true, true, true, true, true, true, false, false, false, false] rfl rfl (by kernel_rfl) (fun _ _ _ h => h) (Or.inr ⟨by rfl, rfl⟩) ?_ ?_
    rotate_left
    ·
     simp only [Act.put, sq1, sq2, sq3, i64_w, i32_w]
     rfl
    refine pure_ (i := 22) (N := some 90) (v := undef) (a' := ?_) #[true, true, true, true, true, true, true, true, true, true, true, true, true, true, true, true, true, true, true, true, true, true, true, false, false, false] rfl rfl (by kernel_rfl) (fun _ _ _ h => h) (Or.inr ⟨by rfl, rfl⟩) ?_ ?_
    rotate_left
    ·
     simp only [Act.put, sq1, sq2, sq3, i64_w, i32_w]
     rfl
    refine pure_ (i := 23) (N := some 91) (v := ?_) (a' := ?_) #[true, true, true, true, true, true, true, true, true, true, true, true, true, true, true, true, true, true, true, true, true, true, true, true, false, false] rfl rfl (by kernel_rfl) (fun _ _ _ h => h) (Or.inl ⟨by rfl, ?_⟩) ?_ ?_
    rotate_left
    ·
     intro w'
     go_simp
     with_reducible rfl
    rotate_left
    ·
     simp only [Act.put, sq1, sq2, sq3, i64_w, i32_w]
     rfl
    refine pure_ (i := 24) (N := some 92) (v := ?_) (a' := ?_) #[true, true, true, true, true, true, true, true, true, true, true, true, true, true, true, true, true, true, true, true, true, true, true, true, true, false] rfl rfl (by kernel_rfl) (fun _ _ _ h => h) (Or.inl ⟨by rfl, ?_⟩) ?_ ?_
    rotate_left
    ·
     intro w'
     go_simp
     with_reducible rfl
    rotate_left
    ·
     simp only [Act.put, sq1, sq2, sq3, i64_w, i32_w]
     rfl
    refine pure_ (i := 25) (N := some 6) (v := ?_) (a' := ?_) #[true, true, true, true, true, true, true, true, true, true, true, true, true, true, true, true, true, true, true, true, true, true, true, true, true, true] rfl rfl (by kernel_rfl) (fun _ _ _ h => h) (Or.inl ⟨by rfl, ?_⟩) ?_ ?_
    rotate_left
    ·
     intro w'
     go_simp
     with_reducible rfl
    rotate_left
    ·
     simp only [Act.put, sq1, sq2, sq3, i64_w, i32_w]
     rfl
    refine done_ (by kernel_rfl) ?_
    try clear hHeld
    go_wp2_with fail
    go_ret
    exact ⟨rfl, below_step HB.out HBq.out⟩
 ·
  have e1 : (x16 != 0) = true := bne_iff_ne.2 he
  have e2 : (x16 == 0) = false := beq_eq_false_iff_ne.2 he
  clear he HCX
  by_cases hf : y16 = 0
  ·
   as_aux_lemma =>
    obtain ⟨K3, F3, pl, hpl, hm3, hs3, hb3⟩ : ∃ (K3 F3 : Int) (pl : PK), _ ∧ _ ∧ _ ∧ _ := HCY.out.elim id (fun ⟨q, hq, h⟩ => absurd ((congrArg (fun y => y.2.2.2.2.2.2.2.2.2.2.2.2.2.2.2) h).symm.trans hf) hq)
    rw [← HBM.out, ← HSB.out] at hs3
    have hno := each_more HBO.out hb3 HNE.out HMY.out hm3 hs3
    have hwf := wf_may hb3 hm3
    unfold tell16 at hpl
    simp only [Prod.mk.injEq] at hpl
    obtain ⟨rfl, rfl, rfl, rfl, rfl, rfl, rfl, rfl, rfl, rfl, rfl, rfl, rfl, rfl, rfl, rfl⟩ := hpl
    have f1 : ((0 : Int) != 0) = false := rfl
    have f2 : ((0 : Int) == 0) = true := rfl
    obtain ⟨k3, s3, ee3, i3, t3, cc3, L3, bo3, T3, O3, M3, P3, R3⟩ := pl
    have HNO := Lib.hid hno
    have HW3 := Lib.hid hwf
    clear hno hwf hm3 hs3 hb3 hf HCY
    refine start_ (n := 26) (S := fun w' => Cells15 w.heap.size (.int .i64 kd) (.int .i64 fr) (.int .i64 k) (.int .i64 s) (.int .i64 e) (.int .i64 i) (.int .i64 t) (.int .i64 c) (.slice A8 L.length c8) (.slice A9 bo.length c9) (.int .i64 T) (.int .i64 O) (.int .i64 M) (.int .i64 P) (.slice A14 R.length c14) w' ∧ Cells15 gx (.int .i64 x1) (.int .i64 x2) (.int .i64 x3) (.int .i64 x4) (.int .i64 x5) (.int .i64 x6) (.int .i64 x7) (.int .i64 x8) (.slice D8 x9.length e8) (.slice D9 x10.length e9) (.int .i64 x11) (.int .i64 x12) (.int .i64 x13) (.int .i64 x14) (.slice D14 x15.length e14) w' ∧ Cells15 gy (.int .i64 y1) (.int .i64 y2) (.int .i64 k3) (.int .i64 s3) (.int .i64 ee3) (.int .i64 i3) (.int .i64 t3) (.int .i64 cc3) (.slice Z8 L3.length f8) (.slice Z9 bo3.length f9) (.int .i64 T3) (.int .i64 O3) (.int .i64 M3) (.int .i64 P3) (.slice Z14 R3.length f14) w' ∧ (convert 23 9 (.slice A2 bk.length c2)).run Tryd.prog w' = .ok (.string (strOfNums bk)) w') (ds := []) #[false, false, false, false, false, false, false, false, false, false, false, false, false, false, false, false, false, false, false, false, false, false, false, false, false, false] (by kernel_rfl) rfl rfl ⟨Cells15.mk_ (blk_below HX.out (below_drew1 (Below.refl _ _))), Cells15.mk_ (blk_below HXX.out (below_drew1 (Below.refl _ _))), Cells15.mk_ (blk_below HYY.out (below_drew1 (Below.refl _ _))), Kd.C_string (P := Tryd.prog) (A := A2) (c := c2) Tryd.underlying23 Tryd.underlying5 Tryd.underlying9 (Kd.C_below HCK.out (below_drew1 (Below.refl _ _)))⟩ (fun hHeld => ?_)
    have HBq := ak (below_drew1 (Below.refl wb.heap.size wb))
    generalize hwu_ : wb.drew = wu at *
    clear hwu_
    refine pure_ (i := 0) (N := some 68) (v := ?_) (a' := ?_) #[true, false, false, false, false, false, false, false, false, false, false, false, false, false, false, false, false, false, false, false, false, false, false, false, false, false] rfl rfl (by kernel_rfl) (fun _ _ _ h => h) (Or.inl ⟨by rfl, ?_⟩) ?_ ?_
    rotate_left
    ·
     intro w'
     go_simp
     with_reducible rfl
    rotate_left
    ·
     simp only [Act.put, sq1, sq2, sq3, i64_w, i32_w]
     rfl
    refine pure_ (i := 1) (N := some 69) (v := ?_) (a' := ?_) #[true, true, false, false, false, false, false, false, false, false, false, false, false, false, false, false, false, false, false, false, false, false, false, false, false, false] rfl rfl (by kernel_rfl) (fun _ _ _ h => h) (Or.inl ⟨by rfl, ?_⟩) ?_ ?_
    rotate_left
    ·
     intro w'
     go_simp
     with_reducible rfl
    rotate_left
    ·
     simp only [Act.put, sq1, sq2, sq3, i64_w, i32_w]
     rfl
    refine pure_ (i := 2) (N := some 70) (v := ?_) (a' := ?_) #[true, true, true, false, false, false, false, false, false, false, false, false, false, false, false, false, false, false, false, false, false, false, false, false, false, false] rfl rfl (by kernel_rfl) (fun _ _ _ h => h) (Or.inl ⟨by rfl, ?_⟩) ?_ ?_
    rotate_left
    ·
     intro w'
     go_simp
     with_reducible rfl
    rotate_left
    ·
     simp only [Act.put, sq1, sq2, sq3, i64_w, i32_w]
     rfl
    refine pure_ (i := 3) (N := some 71) (v := ?_) (a' := ?_) #[true, true, true, true, false, false, false, false, false, false, false, false, false, false, false, false, false, false, false, false, false, false, false, false, false, false] rfl rfl (by kernel_rfl) (fun _ _ _ h => h) (Or.inl ⟨by rfl, ?_⟩) ?_ ?_
    rotate_left
    ·
     intro w'
     go_simp
     with_reducible rfl
    rotate_left
    ·
     simp only [Act.put, sq1, sq2, sq3, i64_w, i32_w]
     rfl
    refine pure_ (i := 4) (N := some 72) (v := ?_) (a' := ?_) #[true, true, true, true, true, false, false, false, false, false, false, false, false, false, false, false, false, false, false, false, false, false, false, false, false, false] rfl rfl (by kernel_rfl) (fun _ _ _ h => h) (Or.inl ⟨by rfl, ?_⟩) ?_ ?_
    rotate_left
    ·
     intro w'
     go_simp
     with_reducible rfl
    rotate_left
    ·
     simp only [Act.put, sq1, sq2, sq3, i64_w, i32_w]
     rfl
    refine pure_ (i := 5) (N := some 73) (v := undef) (a' := ?_) #[true, true, true, true, true, true, false, false, false, false, false, false, false, false, false, false, false, false, false, false, false, false, false, false, false, false] rfl rfl (by kernel_rfl) (fun _ _ _ h => h) (Or.inr ⟨by rfl, rfl⟩) ?_ ?_
    rotate_left
    ·
     simp only [Act.put, sq1, sq2, sq3, i64_w, i32_w]
     rfl
    refine pure_ (i := 6) (N := some 74) (v := undef) (a' := ?_) #[true, true, true, true, true, true, true, false, false, false, false, false, false, false, false, false, false, false, false, false, false, false, false, false, false, false] rfl rfl (by kernel_rfl) (fun _ _ _ h => h) (Or.inr ⟨by rfl, rfl⟩) ?_ ?_
    rotate_left
    ·
     simp only [Act.put, sq1, sq2, sq3, i64_w, i32_w]
     rfl
    refine pure_ (i := 7) (N := some 75) (v := undef) (a' := ?_) #[true, true, true, true, true, true, true, true, false, false, false, false, false, false, false, false, false, false, false, false, false, false, false, false, false, false] rfl rfl (by kernel_rfl) (fun _ _ _ h => h) (Or.inr ⟨by rfl, rfl⟩) ?_ ?_
    rotate_left
    ·
     simp only [Act.put, sq1, sq2, sq3, i64_w, i32_w]
     rfl
    refine pure_ (i := 8) (N := some 76) (v := undef) (a' := ?_) #[true, true, true, true, true, true, true, true, true, false, false, false, false, false, false, false, false, false, false, false, false, false, false, false, false, false] rfl rfl (by kernel_rfl) (fun _ _ _ h => h) (Or.inr ⟨by rfl, rfl⟩) ?_ ?_
    rotate_left
    ·
     simp only [Act.put, sq1, sq2, sq3, i64_w, i32_w]
     rfl
    refine pure_ (i := 9) (N := some 77) (v := undef) (a' := ?_) #[true, true, true, true, true, true, true, true, true, true, false, false, false, false, false, false, false, false, false, false, false, false, false, false, false, false] rfl rfl (by kernel_rfl) (fun _ _ _ h => h) (Or.inr ⟨by rfl, rfl⟩) ?_ ?_
    rotate_left
    ·
     simp only [Act.put, sq1, sq2, sq3, i64_w, i32_w]
     rfl
    refine pure_ (i := 10) (N := some 78) (v := undef) (a' := ?_) #[true, true, true, true, true, true, true, true, true, true, true, false, false, false, false, false, false, false, false, false, false, false, false, false, false, false] rfl rfl (by kernel_rfl) (fun _ _ _ h => h) (Or.inr ⟨by rfl, rfl⟩) ?_ ?_
    rotate_left
    ·
     simp only [Act.put, sq1, sq2, sq3, i64_w, i32_w]
     rfl
    refine pure_ (i := 11) (N := some 79) (v := undef) (a' := ?_) #[true, true, true, true, true, true, true, true, true, true, true, true, false, false, false, false, false, false, false, false, false, false, false, false, false, false] rfl rfl (by kernel_rfl) (fun _ _ _ h => h) (Or.inr ⟨by rfl, rfl⟩) ?_ ?_
    rotate_left
    ·
     simp only [Act.put, sq1, sq2, sq3, i64_w, i32_w]
     rfl
    refine pure_ (i := 12) (N := some 80) (v := undef) (a' := ?_) #[true, true, true, true, true, true, true, true, true, true, true, true, true, false, false, false, false, false, false, false, false, false, false, false, false, false] rfl rfl (by kernel_rfl) (fun _ _ _ h => h) (Or.inr ⟨by rfl, rfl⟩) ?_ ?_
    rotate_left
    ·
     simp only [Act.put, sq1, sq2, sq3, i64_w, i32_w]
     rfl
    refine pure_ (i := 13) (N := some 81) (v := ?_) (a' := ?_) #[true, true, true, true, true, true, true, true, true, true, true, true, true, true, false, false, false, false, false, false, false, false, false, false, false, false] rfl rfl (by kernel_rfl) (fun _ _ _ h => h) (Or.inl ⟨by rfl, ?_⟩) ?_ ?_
    rotate_left
    ·
     intro w'
     go_simp
     with_reducible rfl
    rotate_left
    ·
     simp only [Act.put, sq1, sq2, sq3, i64_w, i32_w]
     rfl
    refine pure_ (i := 14) (N := some 82) (v := ?_) (a' := ?_) #[true, true, true, true, true, true, true, true, true, true, true, true, true, true, true, false, false, false, false, false, false, false, false, false, false, false] rfl rfl (by kernel_rfl) (fun _ _ _ h => h) (Or.inl ⟨by rfl, ?_⟩) ?_ ?_
    rotate_left
    ·
     intro w'
     go_simp
     with_reducible rfl
    rotate_left
    ·
     simp only [Act.put, sq1, sq2, sq3, i64_w, i32_w]
     rfl
    refine pure_ (i := 15) (N := some 83) (v := ?_) (a' := ?_) #[true, true, true, true, true, true, true, true, true, true, true, true, true, true, true, true, false, false, false, false, false, false, false, false, false, false] rfl rfl (by kernel_rfl) (fun _ _ _ h => h) (Or.inl ⟨by rfl, ?_⟩) ?_ ?_
    rotate_left
    ·
     intro w'
     go_simp
     with_reducible rfl
    rotate_left
    ·
     simp only [Act.put, sq1, sq2, sq3, i64_w, i32_w]
     rfl
    refine pure_ (i := 16) (N := some 84) (v := ?_) (a' := ?_) #[true, true, true, true, true, true, true, true, true, true, true, true, true, true, true, true, true, false, false, false, false, false, false, false, false, false] rfl rfl (by kernel_rfl) (fun _ _ _ h => h) (Or.inl ⟨by rfl, ?_⟩) ?_ ?_
    rotate_left
    ·
     intro w'
     go_simp
     with_reducible rfl
    rotate_left
    ·
     simp only [Act.put, sq1, sq2, sq3, i64_w, i32_w]
     rfl
    refine pure_ (i := 17) (N := some 85) (v := ?_) (a' := ?_) #[true, true, true, true, true, true, true, true, true, true, true, true, true, true, true, true, true, true, false, false, false, false, false, false, false, false] rfl rfl (by kernel_rfl) (fun _ _ _ h => h) (Or.inl ⟨by rfl, ?_⟩) ?_ ?_
    rotate_left
    ·
     intro w'
     go_simp
     with_reducible rfl
    rotate_left
    ·
     simp only [Act.put, sq1, sq2, sq3, i64_w, i32_w]
     rfl
    refine pure_ (i := 18) (N := some 86) (v := ?_) (a' := ?_) #[true, true, true, true, true, true, true, true, true, true, true, true, true, true, true, true, true, true, true, false, false, false, false, false, false, false] rfl rfl (by kernel_rfl) (fun _ _ _ h => h) (Or.inl ⟨by rfl, ?_⟩) ?_ ?_
    rotate_left
    ·
     intro w'
     go_simp
     with_reducible rfl
    rotate_left
    ·
     simp only [Act.put, sq1, sq2, sq3, i64_w, i32_w]
     rfl
    refine take_ (i := 19) (N := some 87) (v := ?_) (a' := ?_) #[true, true, true, true, true, true, true, true, true, true, true, true, true, true, true, true, true, true, true, true, false, false, false, false, false, false] rfl rfl (by kernel_rfl) (fun _ _ _ h => h) (Or.inl ⟨by rfl, ?_⟩) hHeld ?_ ?_
    rotate_left
    ·
     rintro w' ⟨s, x, y, s3⟩
     unfold Cells15 at s x y
     go_simp
     with_reducible rfl
    rotate_left
    ·
     simp only [Act.put, sq1, sq2, sq3, i64_w, i32_w]
     rfl
    refine take_ (i := 20) (N := some 88) (v := ?_) (a' := ?_) #[true, true, true, true, true, true, true, true, true, true, true, true, true, true, true, true, true, true, true, true, true, false, false, false, false, false] rfl rfl (by kernel_rfl) (fun _ _ _ h => h) (Or.inl ⟨by rfl, ?_⟩) hHeld ?_ ?_
    rotate_left
    ·
     rintro w' ⟨s, x, y, s3⟩
     unfold Cells15 at s x y
     go_simp
     with_reducible rfl
    rotate_left
    ·
     simp only [Act.put, sq1, sq2, sq3, i64_w, i32_w]
     rfl
    refine one_ (i := 21) (N := some 89) #[true, true, true, true, true, true, true, true, true, true, true, true, true, true, true, true, true, true, true, true, true, true, false, false, false, false] rfl rfl (by kernel_rfl) (by decide) (fun K hK => ?_)
    have HCT := Lib.hid (show Calls Tryd.prog 16 #[.agg #[.int .i64 y1, .int .i64 y2, .int .i64 k3, .int .i64 s3, .int .i64 ee3, .int .i64 i3, .int .i64 t3, .int .i64 cc3, .slice Z8 L3.length f8, .slice Z9 bo3.length f9, .int .i64 T3, .int .i64 O3, .int .i64 M3, .int .i64 P3, .slice Z14 R3.length f14], .agg #[.int .i64 kd, .int .i64 fr, .int .i64 k, .int .i64 s, .int .i64 e, .int .i64 i, .int .i64 t, .int .i64 c, .slice A8 L.length c8, .slice A9 bo.length c9, .int .i64 T, .int .i64 O, .int .i64 M, .int .i64 P, .slice A14 R.length c14]] wu _ from precentorref04_Same.calls 1 y1 y2 k3 s3 ee3 i3 t3 cc3 Z8 f8 L3 Z9 f9 bo3 T3 O3 M3 P3 Z14 f14 R3 kd fr k s e i t c A8 c8 L A9 c9 bo T O M P A14 c14 R false wu (Kd.C_below Y8.out HBq.out) Yl8.out (Kd.C_below Y9.out HBq.out) Yl9.out (Kd.C_below Y14.out HBq.out) Yl14.out (Kd.C_below H8.out HBq.out) HC8.out (Kd.C_below H9.out HBq.out) HC9.out (Kd.C_below H14.out HBq.out) HC14.out ((if_pos ⟨HW3.out.2.1, HW3.out.2.2.2⟩).trans (by rw [HNO.out])))
    refine goes_ Tryd.func16 (by kernel_rfl) rfl #[.agg #[.int .i64 y1, .int .i64 y2, .int .i64 k3, .int .i64 s3, .int .i64 ee3, .int .i64 i3, .int .i64 t3, .int .i64 cc3, .slice Z8 L3.length f8, .slice Z9 bo3.length f9, .int .i64 T3, .int .i64 O3, .int .i64 M3, .int .i64 P3, .slice Z14 R3.length f14], .agg #[.int .i64 kd, .int .i64 fr, .int .i64 k, .int .i64 s, .int .i64 e, .int .i64 i, .int .i64 t, .int .i64 c, .slice A8 L.length c8, .slice A9 bo.length c9, .int .i64 T, .int .i64 O, .int .i64 M, .int .i64 P, .slice A14 R.length c14]] (by rfl) rfl rfl (by simp only [List.map_toArray, List.map_cons, List.map_nil]; rfl) ?_
    with_reducible refine (HCT.out).mono ?_
    rintro e0 wx ⟨rfl, hb⟩
    refine ⟨_, rfl, ?_⟩
    have n0_ := ak (below_step HBq.out hb)
    clear HBq hb HCT
    have HBq := n0_
    clear n0_
    refine hK.out _ _ ⟨Cells15.mk_ (blk_below HX.out HBq.out), Cells15.mk_ (blk_below HXX.out HBq.out), Cells15.mk_ (blk_below HYY.out HBq.out), Kd.C_string (P := Tryd.prog) (A := A2) (c := c2) Tryd.underlying23 Tryd.underlying5 Tryd.underlying9 (Kd.C_below HCK.out HBq.out)⟩ (fun hHeld => ?_)
    clear hK K
    refine norm_ (a' := ?_) ?_ ?_
    rotate_left
    ·
     show Act.put _ (some 89) _ = _
     simp only [Act.put, sq1, sq2, sq3, i64_w, i32_w]
     rfl
    refine pure_ (i := 22) (N := some 90) (v := ?_) (a' := ?_) #[true, true, true, true, true, true, true, true, true, true, true, true, true, true, true, true, true, true, true, true, true, true, true, false, false, false] rfl rfl (by kernel_rfl) (fun _ _ _ h => h) (Or.inl ⟨by rfl, ?_⟩) ?_ ?_
    rotate_left
    ·
     intro w'
     go_simp
     with_reducible rfl
    rotate_left
    ·
     simp only [Act.put, sq1, sq2, sq3, i64_w, i32_w]
     rfl
    refine pure_ (i := 23) (N := some 91) (v := ?_) (a' := ?_) #[true, true, true, true, true, true, true, true, true, true, true, true, true, true, true, true, true, true, true, true, true, true, true, true, false, false] rfl rfl (by kernel_rfl) (fun _ _ _ h => h) (Or.inl ⟨by rfl, ?_⟩) ?_ ?_
    rotate_left
    ·
     intro w'
     go_simp
     with_reducible rfl
    rotate_left
    ·
     simp only [Act.put, sq1, sq2, sq3, i64_w, i32_w]
     rfl
    refine pure_ (i := 24) (N := some 92) (v := ?_) (a' := ?_) #[true, true, true, true, true, true, true, true, true, true, true, true, true, true, true, true, true, true, true, true, true, true, true, true, true, false] rfl rfl (by kernel_rfl) (fun _ _ _ h => h) (Or.inl ⟨by rfl, ?_⟩) ?_ ?_
    rotate_left
    ·
     intro w'
     go_simp
     with_reducible rfl
    rotate_left
    ·
     simp only [Act.put, sq1, sq2, sq3, i64_w, i32_w]
     rfl
    refine pure_ (i := 25) (N := some 6) (v := ?_) (a' := ?_) #[true, true, true, true, true, true, true, true, true, true, true, true, true, true, true, true, true, true, true, true, true, true, true, true, true, true] rfl rfl (by kernel_rfl) (fun _ _ _ h => h) (Or.inl ⟨by rfl, ?_⟩) ?_ ?_
    rotate_left
    ·
     intro w'
     go_simp
     with_reducible rfl
    rotate_left
    ·
     simp only [Act.put, sq1, sq2, sq3, i64_w, i32_w]
     rfl
    refine done_ (by kernel_rfl) ?_
    try clear hHeld
    go_wp2_with fail
    go_ret
    exact ⟨rfl, below_step HB.out HBq.out⟩
  ·
   as_aux_lemma =>
    have f1 : (y16 != 0) = true := bne_iff_ne.2 hf
    have f2 : (y16 == 0) = false := beq_eq_false_iff_ne.2 hf
    clear hf HCY
    refine start_ (n := 26) (S := fun w' => Cells15 w.heap.size (.int .i64 kd) (.int .i64 fr) (.int .i64 k) (.int .i64 s) (.int .i64 e) (.int .i64 i) (.int .i64 t) (.int .i64 c) (.slice A8 L.length c8) (.slice A9 bo.length c9) (.int .i64 T) (.int .i64 O) (.int .i64 M) (.int .i64 P) (.slice A14 R.length c14) w' ∧ Cells15 gx (.int .i64 x1) (.int .i64 x2) (.int .i64 x3) (.int .i64 x4) (.int .i64 x5) (.int .i64 x6) (.int .i64 x7) (.int .i64 x8) (.slice D8 x9.length e8) (.slice D9 x10.length e9) (.int .i64 x11) (.int .i64 x12) (.int .i64 x13) (.int .i64 x14) (.slice D14 x15.length e14) w' ∧ Cells15 gy (.int .i64 y1) (.int .i64 y2) (.int .i64 y3) (.int .i64 y4) (.int .i64 y5) (.int .i64 y6) (.int .i64 y7) (.int .i64 y8) (.slice Z8 y9.length f8) (.slice Z9 y10.length f9) (.int .i64 y11) (.int .i64 y12) (.int .i64 y13) (.int .i64 y14) (.slice Z14 y15.length f14) w' ∧ (convert 23 9 (.slice A2 bk.length c2)).run Tryd.prog w' = .ok (.string (strOfNums bk)) w') (ds := []) #[false, false, false, false, false, false, false, false, false, false, false, false, false, false, false, false, false, false, false, false, false, false, false, false, false, false] (by kernel_rfl) rfl rfl ⟨Cells15.mk_ (blk_below HX.out (below_drew1 (Below.refl _ _))), Cells15.mk_ (blk_below HXX.out (below_drew1 (Below.refl _ _))), Cells15.mk_ (blk_below HYY.out (below_drew1 (Below.refl _ _))), Kd.C_string (P := Tryd.prog) (A := A2) (c := c2) Tryd.underlying23 Tryd.underlying5 Tryd.underlying9 (Kd.C_below HCK.out (below_drew1 (Below.refl _ _)))⟩ (fun hHeld => ?_)
    have HBq := ak (below_drew1 (Below.refl wb.heap.size wb))
    generalize hwu_ : wb.drew = wu at *
    clear hwu_
    refine pure_ (i := 0) (N := some 68) (v := ?_) (a' := ?_) #[true, false, false, false, false, false, false, false, false, false, false, false, false, false, false, false, false, false, false, false, false, false, false, false, false, false] rfl rfl (by kernel_rfl) (fun _ _ _ h => h) (Or.inl ⟨by rfl, ?_⟩) ?_ ?_
    rotate_left
    ·
     intro w'
     go_simp
     with_reducible rfl
    rotate_left
    ·
     simp only [Act.put, sq1, sq2, sq3, i64_w, i32_w]
     rfl
    refine pure_ (i := 1) (N := some 69) (v := ?_) (a' := ?_) #[true, true, false, false, false, false, false, false, false, false, false, false, false, false, false, false, false, false, false, false, false, false, false, false, false, false] rfl rfl (by kernel_rfl) (fun _ _ _ h => h) (Or.inl ⟨by rfl, ?_⟩) ?_ ?_
    rotate_left
    ·
     intro w'
     go_simp
     with_reducible rfl
    rotate_left
    ·
     simp only [Act.put, sq1, sq2, sq3, i64_w, i32_w]
     rfl
    refine pure_ (i := 2) (N := some 70) (v := ?_) (a' := ?_) #[true, true, true, false, false, false, false, false, false, false, false, false, false, false, false, false, false, false, false, false, false, false, false, false, false, false] rfl rfl (by kernel_rfl) (fun _ _ _ h => h) (Or.inl ⟨by rfl, ?_⟩) ?_ ?_
    rotate_left
    ·
     intro w'
     go_simp
     with_reducible rfl
    rotate_left
    ·
     simp only [Act.put, sq1, sq2, sq3, i64_w, i32_w]
     rfl
    refine pure_ (i := 3) (N := some 71) (v := ?_) (a' := ?_) #[true, true, true, true, false, false, false, false, false, false, false, false, false, false, false, false, false, false, false, false, false, false, false, false, false, false] rfl rfl (by kernel_rfl) (fun _ _ _ h => h) (Or.inl ⟨by rfl, ?_⟩) ?_ ?_
    rotate_left
    ·
     intro w'
     go_simp
     with_reducible rfl
    rotate_left
    ·
     simp only [Act.put, sq1, sq2, sq3, i64_w, i32_w]
     rfl
    refine pure_ (i := 4) (N := some 72) (v := ?_) (a' := ?_) #[true, true, true, true, true, false, false, false, false, false, false, false, false, false, false, false, false, false, false, false, false, false, false, false, false, false] rfl rfl (by kernel_rfl) (fun _ _ _ h => h) (Or.inl ⟨by rfl, ?_⟩) ?_ ?_
    rotate_left
    ·
     intro w'
     go_simp
     with_reducible rfl
    rotate_left
    ·
     simp only [Act.put, sq1, sq2, sq3, i64_w, i32_w]
     rfl
    refine pure_ (i := 5) (N := some 73) (v := undef) (a' := ?_) #[true, true, true, true, true, true, false, false, false, false, false, false, false, false, false, false, false, false, false, false, false, false, false, false, false, false] rfl rfl (by kernel_rfl) (fun _ _ _ h => h) (Or.inr ⟨by rfl, rfl⟩) ?_ ?_
    rotate_left
    ·
     simp only [Act.put, sq1, sq2, sq3, i64_w, i32_w]
     rfl
    refine pure_ (i := 6) (N := some 74) (v := undef) (a' := ?_) #[true, true, true, true, true, true, true, false, false, false, false, false, false, false, false, false, false, false, false, false, false, false, false, false, false, false] rfl rfl (by kernel_rfl) (fun _ _ _ h => h) (Or.inr ⟨by rfl, rfl⟩) ?_ ?_
    rotate_left
    ·
     simp only [Act.put, sq1, sq2, sq3, i64_w, i32_w]
     rfl
    refine pure_ (i := 7) (N := some 75) (v := undef) (a' := ?_) #[true, true, true, true, true, true, true, true, false, false, false, false, false, false, false, false, false, false, false, false, false, false, false, false, false, false] rfl rfl (by kernel_rfl) (fun _ _ _ h => h) (Or.inr ⟨by rfl, rfl⟩) ?_ ?_
    rotate_left
    ·
     simp only [Act.put, sq1, sq2, sq3, i64_w, i32_w]
     rfl
    refine pure_ (i := 8) (N := some 76) (v := undef) (a' := ?_) #[true, true, true, true, true, true, true, true, true, false, false, false, false, false, false, false, false, false, false, false, false, false, false, false, false, false] rfl rfl (by kernel_rfl) (fun _ _ _ h => h) (Or.inr ⟨by rfl, rfl⟩) ?_ ?_
    rotate_left
    ·
     simp only [Act.put, sq1, sq2, sq3, i64_w, i32_w]
     rfl
    refine pure_ (i := 9) (N := some 77) (v := undef) (a' := ?_) #[true, true, true, true, true, true, true, true, true, true, false, false, false, false, false, false, false, false, false, false, false, false, false, false, false, false] rfl rfl (by kernel_rfl) (fun _ _ _ h => h) (Or.inr ⟨by rfl, rfl⟩) ?_ ?_
    rotate_left
    ·
     simp only [Act.put, sq1, sq2, sq3, i64_w, i32_w]
     rfl
    refine pure_ (i := 10) (N := some 78) (v := undef) (a' := ?_) #[true, true, true, true, true, true, true, true, true, true, true, false, false, false, false, false, false, false, false, false, false, false, false, false, false, false] rfl rfl (by kernel_rfl) (fun _ _ _ h => h) (Or.inr ⟨by rfl, rfl⟩) ?_ ?_
    rotate_left
    ·
     simp only [Act.put, sq1, sq2, sq3, i64_w, i32_w]
     rfl
    refine pure_ (i := 11) (N := some 79) (v := undef) (a' := ?_) #[true, true, true, true, true, true, true, true, true, true, true, true, false, false, false, false, false, false, false, false, false, false, false, false, false, false] rfl rfl (by kernel_rfl) (fun _ _ _ h => h) (Or.inr ⟨by rfl, rfl⟩) ?_ ?_
    rotate_left
    ·
     simp only [Act.put, sq1, sq2, sq3, i64_w, i32_w]
     rfl
    refine pure_ (i := 12) (N := some 80) (v := undef) (a' := ?_) #[true, true, true, true, true, true, true, true, true, true, true, true, true, false, false, false, false, false, false, false, false, false, false, false, false, false] rfl rfl (by kernel_rfl) (fun _ _ _ h => h) (Or.inr ⟨by rfl, rfl⟩) ?_ ?_
    rotate_left
    ·
     simp only [Act.put, sq1, sq2, sq3, i64_w, i32_w]
     rfl
    refine pure_ (i := 13) (N := some 81) (v := ?_) (a' := ?_) #[true, true, true, true, true, true, true, true, true, true, true, true, true, true, false, false, false, false, false, false, false, false, false, false, false, false] rfl rfl (by kernel_rfl) (fun _ _ _ h => h) (Or.inl ⟨by rfl, ?_⟩) ?_ ?_
    rotate_left
    ·
     intro w'
     go_simp
     with_reducible rfl
    rotate_left
    ·
     simp only [Act.put, sq1, sq2, sq3, i64_w, i32_w]
     rfl
    refine pure_ (i := 14) (N := some 82) (v := ?_) (a' := ?_) #[true, true, true, true, true, true, true, true, true, true, true, true, true, true, true, false, false, false, false, false, false, false, false, false, false, false] rfl rfl (by kernel_rfl) (fun _ _ _ h => h) (Or.inl ⟨by rfl, ?_⟩) ?_ ?_
    rotate_left
    ·
     intro w'
     go_simp
     with_reducible rfl
    rotate_left
    ·
     simp only [Act.put, sq1, sq2, sq3, i64_w, i32_w]
     rfl
    refine pure_ (i := 15) (N := some 83) (v := ?_) (a' := ?_) #[true, true, true, true, true, true, true, true, true, true, true, true, true, true, true, true, false, false, false, false, false, false, false, false, false, false] rfl rfl (by kernel_rfl) (fun _ _ _ h => h) (Or.inl ⟨by rfl, ?_⟩) ?_ ?_
    rotate_left
    ·
     intro w'
     go_simp
     with_reducible rfl
    rotate_left
    ·
     simp only [Act.put, sq1, sq2, sq3, i64_w, i32_w]
     rfl
    refine pure_ (i := 16) (N := some 84) (v := ?_) (a' := ?_) #[true, true, true, true, true, true, true, true, true, true, true, true, true, true, true, true, true, false, false, false, false, false, false, false, false, false] rfl rfl (by kernel_rfl) (fun _ _ _ h => h) (Or.inl ⟨by rfl, ?_⟩) ?_ ?_
    rotate_left
    ·
     intro w'
     go_simp
     with_reducible rfl
    rotate_left
    ·
     simp only [Act.put, sq1, sq2, sq3, i64_w, i32_w]
     rfl
    refine pure_ (i := 17) (N := some 85) (v := ?_) (a' := ?_) #[true, true, true, true, true, true, true, true, true, true, true, true, true, true, true, true, true, true, false, false, false, false, false, false, false, false] rfl rfl (by kernel_rfl) (fun _ _ _ h => h) (Or.inl ⟨by rfl, ?_⟩) ?_ ?_
    rotate_left
    ·
     intro w'
     go_simp
     with_reducible rfl
    rotate_left
    ·
     simp only [Act.put, sq1, sq2, sq3, i64_w, i32_w]
     rfl
    refine pure_ (i := 18) (N := some 86) (v := ?_) (a' := ?_) #[true, true, true, true, true, true, true, true, true, true, true, true, true, true, true, true, true, true, true, false, false, false, false, false, false, false] rfl rfl (by kernel_rfl) (fun _ _ _ h => h) (Or.inl ⟨by rfl, ?_⟩) ?_ ?_
    rotate_left
    ·
     intro w'
     go_simp
     with_reducible rfl
    rotate_left
    ·
     simp only [Act.put, sq1, sq2, sq3, i64_w, i32_w]
     rfl
    refine pure_ (i := 19) (N := some 87) (v := undef) (a' := ?_) #[true, true, true, true, true, true, true, true, true, true, true, true, true, true, true, true, true, true, true, true, false, false, false, false, false, false] rfl rfl (by kernel_rfl) (fun _ _ _ h => h) (Or.inr ⟨by rfl, rfl⟩) ?_ ?_
    rotate_left
    ·
     simp only [Act.put, sq1, sq2, sq3, i64_w, i32_w]
     rfl
    refine pure_ (i := 20) (N := some 88) (v := undef) (a' := ?_) #[true, true, true, true, true, true, true, true, true, true, true, true, true, true, true, true, true, true, true, true, true, false, false, false, false, false] rfl rfl (by kernel_rfl) (fun _ _ _ h => h) (Or.inr ⟨by rfl, rfl⟩) ?_ ?_
    rotate_left
    ·
     simp only [Act.put, sq1, sq2, sq3, i64_w, i32_w]
     rfl
    refine pure_ (i := 21) (N := some 89) (v := undef) (a' := ?_) #[true, true, true, true, true, true, true, true, true, true, true, true, true, true, true, true, true, true, true, true, true, true, false, false, false, false] rfl rfl (by kernel_rfl) (fun _ _ _ h => h) (Or.inr ⟨by rfl, rfl⟩) ?_ ?_
    rotate_left
    ·
     simp only [Act.put, sq1, sq2, sq3, i64_w, i32_w]
     rfl
    refine pure_ (i := 22) (N := some 90) (v := undef) (a' := ?_) #[true, true, true, true, true, true, true, true, true, true, true, true, true, true, true, true, true, true, true, true, true, true, true, false, false, false] rfl rfl (by kernel_rfl) (fun _ _ _ h => h) (Or.inr ⟨by rfl, rfl⟩) ?_ ?_
    rotate_left
    ·
     simp only [Act.put, sq1, sq2, sq3, i64_w, i32_w]
     rfl
    refine pure_ (i := 23) (N := some 91) (v := ?_) (a' := ?_) #[true, true, true, true, true, true, true, true, true, true, true, true, true, true, true, true, true, true, true, true, true, true, true, true, false, false] rfl rfl (by kernel_rfl) (fun _ _ _ h => h) (Or.inl ⟨by rfl, ?_⟩) ?_ ?_
    rotate_left
    ·
     intro w'
     go_simp
     with_reducible rfl
    rotate_left
    ·
     simp only [Act.put, sq1, sq2, sq3, i64_w, i32_w]
     rfl
    refine pure_ (i := 24) (N := some 92) (v := ?_) (a' := ?_) #[true, true, true, true, true, true, true, true, true, true, true, true, true, true, true, true, true, true, true, true, true, true, true, true, true, false] rfl rfl (by kernel_rfl) (fun _ _ _ h => h) (Or.inl ⟨by rfl, ?_⟩) ?_ ?_
    rotate_left
    ·
     intro w'
     go_simp
     with_reducible rfl
    rotate_left
    ·
     simp only [Act.put, sq1, sq2, sq3, i64_w, i32_w]
     rfl
    refine pure_ (i := 25) (N := some 6) (v := ?_) (a' := ?_) #[true, true, true, true, true, true, true, true, true, true, true, true, true, true, true, true, true, true, true, true, true, true, true, true, true, true] rfl rfl (by kernel_rfl) (fun _ _ _ h => h) (Or.inl ⟨by rfl, ?_⟩) ?_ ?_
    rotate_left
    ·
     intro w'
     go_simp
     with_reducible rfl
    rotate_left
    ·
     simp only [Act.put, sq1, sq2, sq3, i64_w, i32_w]
     rfl
    refine done_ (by kernel_rfl) ?_
    try clear hHeld
    go_wp2_with fail
    go_ret
    exact ⟨rfl, below_step HB.out HBq.out⟩
theorem precentorlaw04_PktEach.calls (kd fr k s e i t c : Int) (A8 : Option Addr) (c8 : Nat) (L : List Int) (A9 : Option Addr) (c9 : Nat) (bo : List Int) (T O M P : Int) (A14 : Option Addr) (c14 : Nat) (R : List Int) (ct : Int) (Am : Option Addr) (cm : Nat) (mo : List Int) (r : Bool) (w : World) (h8 : Kd.C (Kd.int .i64) w A8 L.length L) (l8 : L.length ≤ c8) (h9 : Kd.C (Kd.int .u8) w A9 bo.length bo) (l9 : bo.length ≤ c9) (h14 : Kd.C (Kd.int .i64) w A14 R.length R) (l14 : R.length ≤ c14) (hr : Kd.C (Kd.int .u8) w Am mo.length mo) (lm : mo.length ≤ cm) (hG : GB w) (h : precentorlaw04_PktEach.f kd fr k s e i t c L bo T O M P R ct mo = some r) :
  Calls Tryd.prog 8 #[.agg #[.int .i64 kd, .int .i64 fr, .int .i64 k, .int .i64 s, .int .i64 e, .int .i64 i, .int .i64 t, .int .i64 c, .slice A8 L.length c8, .slice A9 bo.length c9, .int .i64 T, .int .i64 O, .int .i64 M, .int .i64 P, .slice A14 R.length c14], .int .u16 ct, .slice Am mo.length cm] w fun e' w' => e' = .returned (.bool r) ∧ Below w.heap.size w w' := by
 unfold precentorlaw04_PktEach.f at h
 split at h
 ·
  rename_i hc
  obtain rfl := Option.some.inj h
  exact precentorlaw04_PktEach.is kd fr k s e i t c A8 c8 L A9 c9 bo T O M P A14 c14 R ct Am cm mo w h8 l8 h9 l9 h14 l14 hr lm hG hc.1 hc.2.1 hc.2.2.1 hc.2.2.2
 ·
  cases h

end Go.Proofs.YtieolhhokepkjaaDoor.Print
