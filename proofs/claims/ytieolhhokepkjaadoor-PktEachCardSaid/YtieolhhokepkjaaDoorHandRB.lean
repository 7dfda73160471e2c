/- The document's bytes of a packet: each call of precentorref04.Bytes gives just them. Conditions stand in each theorem. -/
import Derived.Test.YtieolhhokepkjaaDoorPW
import Derived.Test.YtieolhhokepkjaaDoorHandRM
import Derived.Test.YtieolhhokepkjaaDoorHandB
import Derived.Test.YtieolhhokepkjaaDoorCrcOpen
import Derived.Test.YtieolhhokepkjaaDoorNumRef
namespace Go.Proofs.YtieolhhokepkjaaDoor.Print
set_option linter.unusedVariables false
set_option linter.unusedSimpArgs false
open Go.RowKit Go.Proofs.YtieolhhokepkjaaDoorW.PrintWords Go.Proofs.YtieolhhokepkjaaDoorW.PrintLast Go.Proofs.YtieolhhokepkjaaDoorW.PrintMore Go.Proofs.YtieolhhokepkjaaDoor.NumPlain Go.Proofs.YtieolhhokepkjaaDoor.Crc
theorem byt_by {l : List Int} (h : By l) : Byt l := fun x hx => ⟨(h x hx).1, by have := (h x hx).2; omega⟩
set_option maxRecDepth 100000 in
set_option maxHeartbeats 4000000 in
theorem precentorref04_Bytes.yes (K F k s e i t c : Int) (A8 : Option Addr) (c8 : Nat) (L : List Int) (A9 : Option Addr) (c9 : Nat) (bo : List Int) (T O M P : Int) (A14 : Option Addr) (c14 : Nat) (R : List Int) (w : World) (h8 : Kd.C (Kd.int .i64) w A8 L.length L) (l8 : L.length ≤ c8) (h9 : Kd.C (Kd.int .u8) w A9 bo.length bo) (l9 : bo.length ≤ c9) (h14 : Kd.C (Kd.int .i64) w A14 R.length R) (l14 : R.length ≤ c14) (hby : By bo) (hL : L.length < 10000) (hbo : bo.length < 100000000) (hR : R.length < 10000) (hm : mayP K F (mayB k s e i t c L bo.length) (bareB k s e i t c L bo) T O M P R = true) :
  Calls Tryd.prog 18 #[.agg #[.int .i64 K, .int .i64 F, .int .i64 k, .int .i64 s, .int .i64 e, .int .i64 i, .int .i64 t, .int .i64 c, .slice A8 L.length c8, .slice A9 bo.length c9, .int .i64 T, .int .i64 O, .int .i64 M, .int .i64 P, .slice A14 R.length c14]] w (fun e' w' => ∃ v : Value, e' = .returned v ∧ Kd.R (Kd.int .u8) 5 w' w.heap.size (fun _ => True) v (sealP K F k s e i t c L bo T O M P R) ∧ Below w.heap.size w w') := by
 obtain ⟨hF, hK⟩ := mayP_kinds hm
 obtain ⟨w0, hw0, hB0, hs0, X0⟩ := boxed15 w (.int .i64 K) (.int .i64 F) (.int .i64 k) (.int .i64 s) (.int .i64 e) (.int .i64 i) (.int .i64 t) (.int .i64 c) (.slice A8 L.length c8) (.slice A9 bo.length c9) (.int .i64 T) (.int .i64 O) (.int .i64 M) (.int .i64 P) (.slice A14 R.length c14)
 have HX := ak X0
 obtain ⟨⟨q0, q1, q2, q3, q4, q5, q6, q7, q8, q9, q10, q11, q12, q13, q14⟩, _⟩ := cells15 X0
 have HB0 := ak hB0
 have HMAY := Lib.hid (show Calls Tryd.prog 14 #[.agg #[.int .i64 K, .int .i64 F, .int .i64 k, .int .i64 s, .int .i64 e, .int .i64 i, .int .i64 t, .int .i64 c, .slice A8 L.length c8, .slice A9 bo.length c9, .int .i64 T, .int .i64 O, .int .i64 M, .int .i64 P, .slice A14 R.length c14]] w0 _ from precentorref04_May.calls 10010 K F k s e i t c A8 c8 L A9 c9 bo T O M P A14 c14 R true w0 (Kd.C_below h8 hB0) l8 (Kd.C_below h9 hB0) l9 (Kd.C_below h14 hB0) l14 ((rmayP_is _ _ _ _ _ _ _ _ _ _ _ _ _ _ _ hL hR _ (Nat.le_refl _)).trans (by rw [hm])))
 have HR8 := ak (Kd.C_below h8 hB0)
 have HR9 := ak (Kd.C_below h9 hB0)
 have HR14 := ak (Kd.C_below h14 hB0)
 have HL := Lib.hid hL
 have HBO := Lib.hid hbo
 have HRL := Lib.hid hR
 have HBY := Lib.hid hby
 have HSL := Lib.hid (sealP_len hm).1
 have HC8 := Lib.hid l8
 have HC9 := Lib.hid l9
 have HC14 := Lib.hid l14
 clear X0 hB0 h8 h9 h14 hL hbo hR hm l8 l9 l14 hs0 hby
 go_enter Tryd.func18, Tryd.ntmps18
 go_wp2_with fail
 refine HMAY.out.mono ?_
 rintro e1 w1 ⟨rfl, hb⟩
 have HBq := ak hb
 clear hb hw0 HMAY
 have y0 := pw_cell_below HBq.out q0
 have y1 := pw_cell_below HBq.out q1
 go_upto_region 5 with fail
 have HO0 := ak (O8.lit (blk_new w1 (Obj.cells #[.int .u8 165, .int .u8 K, .int .u8 F] 5)) HBq.out.size [165, K, F] (by simp) rfl)
 have n0_ := ak (below_alloc HBq.out (Obj.cells #[.int .u8 165, .int .u8 K, .int .u8 F] 5))
 clear y0 y1 HBq
 have HBq := n0_
 clear n0_
 generalize hg2_ : w1.alloc (Obj.cells #[.int .u8 165, .int .u8 K, .int .u8 F] 5) = w2 at *
 clear hg2_
 generalize w1.heap.size = g2 at *
 have y0 := pw_cell_below HBq.out q0
 obtain ⟨p0, hp0⟩ : ∃ p : List Int, [165, K, F] = p := ⟨_, rfl⟩
 have HPL0 := Lib.hid (show p0.length = 3 by rw [← hp0]; rfl)
 have HH0 := Lib.hid (show [165, K % 256, F % 256] = p0 by rw [← hp0, Int.emod_eq_of_lt (show 0 ≤ K by omega) (by omega), Int.emod_eq_of_lt (show 0 ≤ F by omega) (by omega)])
 have HO1 := ak (show O8 w2 w0.heap.size (.slice (some ⟨g2, 0, none⟩) 3 3) p0 by rw [← hp0]; exact HO0.out)
 clear HO0 hp0
 rcases hK with ⟨hK, hit⟩ | ⟨rfl, hT, hO, hM⟩ | ⟨rfl, hP, hRl, hRx⟩
 ·
  obtain ⟨pb, hpb⟩ : ∃ p, bytesOf k s e i t c L bo = p := ⟨_, rfl⟩
  have HIB := Lib.hid (show precentorref03_Bytes.f k s e i t c L bo = some pb from (if_pos ⟨HL.out, HBO.out⟩).trans (by rw [hit, if_pos rfl, hpb]))
  have HZ := Lib.hid (show p0.length + pb.length ≤ 2000 by have h1 := HPL0.out; have h2 := (bytes_len hit).2; rw [hpb] at h2; omega)
  have HBD := Lib.hid (show bodyP K F k s e i t c L bo T O M P R = p0 ++ pb by unfold bodyP; rw [HH0.out, if_neg (by rcases hK with h | h <;> omega), if_neg (by rcases hK with h | h <;> omega), hpb])
  have z2 := pw_cell_below HBq.out q2
  have z3 := pw_cell_below HBq.out q3
  have z4 := pw_cell_below HBq.out q4
  have z5 := pw_cell_below HBq.out q5
  have z6 := pw_cell_below HBq.out q6
  have z7 := pw_cell_below HBq.out q7
  have z8 := pw_cell_below HBq.out q8
  have z9 := pw_cell_below HBq.out q9
  have HCT := Lib.hid (show Calls Tryd.prog 21 #[.agg #[.int .i64 k, .int .i64 s, .int .i64 e, .int .i64 i, .int .i64 t, .int .i64 c, .slice A8 L.length c8, .slice A9 bo.length c9]] w2 _ from precentorref03_Bytes.calls k s e i t c A8 c8 L A9 c9 bo pb w2 (Kd.C_below HR8.out HBq.out) HC8.out (Kd.C_below HR9.out HBq.out) HC9.out HIB.out)
  clear hpb hit
  have k2 : decide (K ≤ 2) = true := decide_eq_true (by rcases hK with h | h <;> omega)
  have k3 : (K == 3) = false := beq_eq_false_iff_ne.2 (by rcases hK with h | h <;> omega)
  have k4 : (K == 4) = false := beq_eq_false_iff_ne.2 (by rcases hK with h | h <;> omega)
  clear hK hF
  go_wp2_with fail
  refine HCT.out.mono ?_
  rintro e2 w3 ⟨v3, rfl, hr, hb⟩
  obtain ⟨A18, c18, rfl, hl18, hC18⟩ := Kd.R_reads hr
  have HC18 := ak hC18
  have n1_ := ak (O8.below HO1.out hb)
  have n0_ := ak (below_step HBq.out hb)
  clear HBq HO1 hb hr hC18 HCT y0 z2 z3 z4 z5 z6 z7 z8 z9
  have HBq := n0_
  have HO1 := n1_
  clear n0_ n1_
  have y0 := pw_cell_below HBq.out q0
  have hcell := fun (W : World) (h : Below w0.heap.size w0 W) => pw_cell_below h q0
  have HCE := Lib.hid hcell
  clear hcell y0 hl18
  go_wp2_with ((with_reducible refine gate_builtin (b := .append) (xs := #[.tmp 19, .tmp 22]) rfl ?_); at_builtin; refine ap8 (w0 := w0) (b := w0.heap.size) (xs := p0) (ys := pb) rfl rfl rfl rfl HO1.out HC18.out HBq.out HBq.out.size (by have := HZ.out; omega) ?_; intro v4 w4 ho hb; clear HO1 HBq; have HO1 := ak ho; have HBq := ak hb; have y0 := HCE.out _ hb; clear ho hb)
  obtain ⟨pf, hpf⟩ : ∃ pf, p0 ++ pb = pf := ⟨_, rfl⟩
  have hsl := HSL.out
  have hse : sealP K F k s e i t c L bo T O M P R = pf ++ tl (sumOf pf) := by unfold sealP; rw [HBD.out, hpf]
  have HSX := Lib.hid hse
  rw [hse] at hsl
  have hpl : pf.length < 2000 := by rw [List.length_append] at hsl; omega
  have hpb : By pf := by rw [← hpf, ← HBD.out]; exact bodyP_by HBY.out
  rw [hpf] at HO1
  obtain ⟨A20, c20, rfl, hl20, hC20⟩ := O8.reads HO1.out
  have HSE := Lib.hid (show Calls Tryd.prog 19 #[.slice A20 pf.length c20] w4 _ from precentorref01_Seal.calls 100000 A20 c20 pf _ w4 hC20 hl20 (CrcPlain.ref_seal (byt_by hpb) (by omega) (by omega)))
  clear hl20 hC20 hpl hpb hsl hse HSL hpf
  skip
  refine HSE.out.mono ?_
  rintro e9 w9 ⟨v9, rfl, hr, hb⟩
  go_wp2_with fail
  go_ret
  exact ⟨_, rfl, by rw [HSX.out]; exact Kd.R_mono (Kd.R_lower hr (below_step HB0.out HBq.out).size) (fun _ _ => trivial), below_step (below_step HB0.out HBq.out) hb⟩
 ·
  obtain ⟨p2, hp2⟩ : ∃ p, enc 8 O = p := ⟨_, rfl⟩
  have HP2 := Lib.hid (show precentorref02_Put.f 20 O 8 = some p2 from by rw [rput_is (by omega), put_good ⟨Or.inr (Or.inr rfl), by omega, by show O ≤ 4611686018427387904; omega⟩ (by omega)]; exact congrArg some ‹_›)
  have HPL := Lib.hid (show p2.length = 8 by rw [← hp2]; exact enc_length 8 O)
  have HBD := Lib.hid (show bodyP 3 F k s e i t c L bo T O M P R = p0 ++ [T] ++ p2 ++ [M] by unfold bodyP; rw [HH0.out, if_pos rfl, enc1 (by omega) (by omega), enc1 (by omega) (by omega), hp2]; simp)
  have HZ := Lib.hid (show p0.length + p2.length + 2 ≤ 2000 by have h1 := HPL0.out; have h2 := HPL.out; omega)
  have HCE := Lib.hid (fun (W : World) (h : Below w0.heap.size w0 W) => (⟨pw_cell_below h q0, pw_cell_below h q10, pw_cell_below h q11, pw_cell_below h q12⟩ : _ ∧ _ ∧ _ ∧ _))
  clear hp2 hF hO
  have z10 := pw_cell_below HBq.out q10
  go_wp2_with ((with_reducible refine gate_builtin (b := .append) (xs := #[.tmp 27, .tmp 31]) rfl ?_); at_builtin; refine ap8 (w0 := w0) (b := w0.heap.size) (xs := p0) (ys := [T]) rfl rfl rfl rfl (O8.below HO1.out (below_alloc (Below.refl _ _) _)) (Kd.C_lit8 (blk_new _ _) [T] (by simp) rfl) (below_alloc HBq.out _) (below_alloc HBq.out _).size (by have := HZ.out; simp; omega) ?_; intro v4 w4 ho hb; clear HO1 HBq y0 z10; have HO1 := ak ho; have HBq := ak hb; obtain ⟨y0, z10, z11, z12⟩ := HCE.out _ hb; clear ho hb)
  refine (precentorref02_Put.calls 20 O 8 p2 w4 HP2.out).mono ?_
  rintro e2 w5 ⟨v5, rfl, hr, hb⟩
  obtain ⟨A18, c18, rfl, hl18, hC18⟩ := Kd.R_reads hr
  have HC18 := ak hC18
  have n1_ := ak (O8.below HO1.out hb)
  have n0_ := ak (below_step HBq.out hb)
  clear HBq HO1 hb hr hC18 hl18 y0 z10 z11 z12
  have HBq := n0_
  have HO1 := n1_
  clear n0_ n1_
  go_upto_region 10 with ((with_reducible refine gate_builtin (b := .append) (xs := #[.tmp 33, .tmp 36]) rfl ?_); at_builtin; refine ap8 (w0 := w0) (b := w0.heap.size) (xs := p0 ++ [T]) (ys := p2) rfl rfl rfl rfl HO1.out HC18.out HBq.out HBq.out.size (by have := HZ.out; simp; omega) ?_; intro v6 w6 ho hb; clear HO1 HBq; have HO1 := ak ho; have HBq := ak hb; obtain ⟨y0, z10, z11, z12⟩ := HCE.out _ hb; clear ho hb)
  go_wp2_with ((with_reducible refine gate_builtin (b := .append) (xs := #[.tmp 38, .tmp 42]) rfl ?_); at_builtin; refine ap8 (w0 := w0) (b := w0.heap.size) (xs := p0 ++ [T] ++ p2) (ys := [M]) rfl rfl rfl rfl (O8.below HO1.out (below_alloc (Below.refl _ _) _)) (Kd.C_lit8 (blk_new _ _) [M] (by simp) rfl) (below_alloc HBq.out _) (below_alloc HBq.out _).size (by have := HZ.out; simp; omega) ?_; intro v8 w8 ho hb; clear HO1 HBq y0 z10 z11 z12; have HO1 := ak ho; have HBq := ak hb; obtain ⟨y0, z10, z11, z12⟩ := HCE.out _ hb; clear ho hb)
  obtain ⟨pf, hpf⟩ : ∃ pf, p0 ++ [T] ++ p2 ++ [M] = pf := ⟨_, rfl⟩
  have hsl := HSL.out
  have hse : sealP 3 F k s e i t c L bo T O M P R = pf ++ tl (sumOf pf) := by unfold sealP; rw [HBD.out, hpf]
  have HSX := Lib.hid hse
  rw [hse] at hsl
  have hpl : pf.length < 2000 := by rw [List.length_append] at hsl; omega
  have hpb : By pf := by rw [← hpf, ← HBD.out]; exact bodyP_by HBY.out
  rw [hpf] at HO1
  obtain ⟨A20, c20, rfl, hl20, hC20⟩ := O8.reads HO1.out
  have HSE := Lib.hid (show Calls Tryd.prog 19 #[.slice A20 pf.length c20] w8 _ from precentorref01_Seal.calls 100000 A20 c20 pf _ w8 hC20 hl20 (CrcPlain.ref_seal (byt_by hpb) (by omega) (by omega)))
  clear hl20 hC20 hpl hpb hsl hse HSL hpf
  skip
  refine HSE.out.mono ?_
  rintro e9 w9 ⟨v9, rfl, hr, hb⟩
  go_wp2_with fail
  go_ret
  exact ⟨_, rfl, by rw [HSX.out]; exact Kd.R_mono (Kd.R_lower hr (below_step HB0.out HBq.out).size) (fun _ _ => trivial), below_step (below_step HB0.out HBq.out) hb⟩
 ·
  obtain ⟨p1, hp1⟩ : ∃ p, enc 8 P = p := ⟨_, rfl⟩
  obtain ⟨p2, hp2⟩ : ∃ p, flat 8 R = p := ⟨_, rfl⟩
  have HP1 := Lib.hid (show precentorref02_Put.f 20 P 8 = some p1 from by rw [rput_is (by omega), put_good ⟨Or.inr (Or.inr rfl), by omega, by show P ≤ 4611686018427387904; omega⟩ (by omega)]; exact congrArg some ‹_›)
  have hfa : Fa R 8 := fun x hx => ⟨Or.inr (Or.inr rfl), hRx x hx⟩
  have HP2 := Lib.hid (show precentorref02_PutRow.f 20000 R 8 = some p2 by rw [rputrow_is HRL.out (by have := HRL.out; omega), putrow_is HRL.out (by have := HRL.out; omega), if_pos hfa, hp2])
  have HPL := Lib.hid (show p1.length = 8 ∧ p2.length ≤ 512 from ⟨by rw [← hp1]; exact enc_length 8 P, by rw [← hp2, flat_length]; show 8 * R.length ≤ 512; omega⟩)
  have HBD := Lib.hid (show bodyP 4 F k s e i t c L bo T O M P R = p0 ++ p1 ++ p2 by unfold bodyP; rw [HH0.out, if_neg (by omega), if_pos rfl, hp1, hp2]; simp)
  have HZ := Lib.hid (show p0.length + p1.length + p2.length ≤ 2000 by have h1 := HPL0.out; obtain ⟨h2, h3⟩ := HPL.out; omega)
  have HCE := Lib.hid (fun (W : World) (h : Below w0.heap.size w0 W) => (⟨pw_cell_below h q0, pw_cell_below h q13, pw_cell_below h q14⟩ : _ ∧ _ ∧ _))
  clear hp1 hp2 hfa hF hP hRl hRx
  have z13 := pw_cell_below HBq.out q13
  go_wp2_with fail
  refine (precentorref02_Put.calls 20 P 8 p1 w2 HP1.out).mono ?_
  rintro e2 w5 ⟨v5, rfl, hr, hb⟩
  obtain ⟨A18, c18, rfl, hl18, hC18⟩ := Kd.R_reads hr
  have HC18 := ak hC18
  have n1_ := ak (O8.below HO1.out hb)
  have n0_ := ak (below_step HBq.out hb)
  clear HBq HO1 hb hr hC18 hl18 y0 z13
  have HBq := n0_
  have HO1 := n1_
  clear n0_ n1_
  go_wp2_with ((with_reducible refine gate_builtin (b := .append) (xs := #[.tmp 47, .tmp 50]) rfl ?_); at_builtin; refine ap8 (w0 := w0) (b := w0.heap.size) (xs := p0) (ys := p1) rfl rfl rfl rfl HO1.out HC18.out HBq.out HBq.out.size (by have := HZ.out; omega) ?_; intro v6 w6 ho hb; clear HO1 HBq; have HO1 := ak ho; have HBq := ak hb; obtain ⟨y0, z13, z14⟩ := HCE.out _ hb; clear ho hb)
  refine (precentorref02_PutRow.calls 20000 A14 c14 R 8 p2 w6 (Kd.C_below HR14.out HBq.out) HC14.out HP2.out).mono ?_
  rintro e2 w7 ⟨v7, rfl, hr, hb⟩
  obtain ⟨A19, c19, rfl, hl19, hC19⟩ := Kd.R_reads hr
  have HC19 := ak hC19
  have n1_ := ak (O8.below HO1.out hb)
  have n0_ := ak (below_step HBq.out hb)
  clear HBq HO1 hb hr hC19 hl19 y0 z13 z14
  have HBq := n0_
  have HO1 := n1_
  clear n0_ n1_
  go_wp2_with ((with_reducible refine gate_builtin (b := .append) (xs := #[.tmp 52, .tmp 55]) rfl ?_); at_builtin; refine ap8 (w0 := w0) (b := w0.heap.size) (xs := p0 ++ p1) (ys := p2) rfl rfl rfl rfl HO1.out HC19.out HBq.out HBq.out.size (by have := HZ.out; simp; omega) ?_; intro v8 w8 ho hb; clear HO1 HBq; have HO1 := ak ho; have HBq := ak hb; clear ho hb)
  obtain ⟨pf, hpf⟩ : ∃ pf, p0 ++ p1 ++ p2 = pf := ⟨_, rfl⟩
  have hsl := HSL.out
  have hse : sealP 4 F k s e i t c L bo T O M P R = pf ++ tl (sumOf pf) := by unfold sealP; rw [HBD.out, hpf]
  have HSX := Lib.hid hse
  rw [hse] at hsl
  have hpl : pf.length < 2000 := by rw [List.length_append] at hsl; omega
  have hpb : By pf := by rw [← hpf, ← HBD.out]; exact bodyP_by HBY.out
  rw [hpf] at HO1
  obtain ⟨A20, c20, rfl, hl20, hC20⟩ := O8.reads HO1.out
  have HSE := Lib.hid (show Calls Tryd.prog 19 #[.slice A20 pf.length c20] w8 _ from precentorref01_Seal.calls 100000 A20 c20 pf _ w8 hC20 hl20 (CrcPlain.ref_seal (byt_by hpb) (by omega) (by omega)))
  clear hl20 hC20 hpl hpb hsl hse HSL hpf
  skip
  refine HSE.out.mono ?_
  rintro e9 w9 ⟨v9, rfl, hr, hb⟩
  go_wp2_with fail
  go_ret
  exact ⟨_, rfl, by rw [HSX.out]; exact Kd.R_mono (Kd.R_lower hr (below_step HB0.out HBq.out).size) (fun _ _ => trivial), below_step (below_step HB0.out HBq.out) hb⟩
set_option maxRecDepth 100000 in
set_option maxHeartbeats 4000000 in
theorem precentorref04_Bytes.no (K F k s e i t c : Int) (A8 : Option Addr) (c8 : Nat) (L : List Int) (A9 : Option Addr) (c9 : Nat) (bo : List Int) (T O M P : Int) (A14 : Option Addr) (c14 : Nat) (R : List Int) (w : World) (h8 : Kd.C (Kd.int .i64) w A8 L.length L) (l8 : L.length ≤ c8) (h9 : Kd.C (Kd.int .u8) w A9 bo.length bo) (l9 : bo.length ≤ c9) (h14 : Kd.C (Kd.int .i64) w A14 R.length R) (l14 : R.length ≤ c14) (hL : L.length < 10000) (hR : R.length < 10000) (hm : mayP K F (mayB k s e i t c L bo.length) (bareB k s e i t c L bo) T O M P R = false) :
  Calls Tryd.prog 18 #[.agg #[.int .i64 K, .int .i64 F, .int .i64 k, .int .i64 s, .int .i64 e, .int .i64 i, .int .i64 t, .int .i64 c, .slice A8 L.length c8, .slice A9 bo.length c9, .int .i64 T, .int .i64 O, .int .i64 M, .int .i64 P, .slice A14 R.length c14]] w (fun e' w' => ∃ v : Value, e' = .returned v ∧ Kd.R (Kd.int .u8) 5 w' w.heap.size (fun _ => True) v [] ∧ Below w.heap.size w w') := by
 obtain ⟨w0, hw0, hB0, hs0, X0⟩ := boxed15 w (.int .i64 K) (.int .i64 F) (.int .i64 k) (.int .i64 s) (.int .i64 e) (.int .i64 i) (.int .i64 t) (.int .i64 c) (.slice A8 L.length c8) (.slice A9 bo.length c9) (.int .i64 T) (.int .i64 O) (.int .i64 M) (.int .i64 P) (.slice A14 R.length c14)
 obtain ⟨⟨q0, q1, q2, q3, q4, q5, q6, q7, q8, q9, q10, q11, q12, q13, q14⟩, _⟩ := cells15 X0
 have HB0 := ak hB0
 have HMAY := Lib.hid (show Calls Tryd.prog 14 #[.agg #[.int .i64 K, .int .i64 F, .int .i64 k, .int .i64 s, .int .i64 e, .int .i64 i, .int .i64 t, .int .i64 c, .slice A8 L.length c8, .slice A9 bo.length c9, .int .i64 T, .int .i64 O, .int .i64 M, .int .i64 P, .slice A14 R.length c14]] w0 _ from precentorref04_May.calls 10010 K F k s e i t c A8 c8 L A9 c9 bo T O M P A14 c14 R false w0 (Kd.C_below h8 hB0) l8 (Kd.C_below h9 hB0) l9 (Kd.C_below h14 hB0) l14 ((rmayP_is _ _ _ _ _ _ _ _ _ _ _ _ _ _ _ hL hR _ (Nat.le_refl _)).trans (by rw [hm])))
 clear X0 hB0 h8 h9 h14 hL hR hm l8 l9 l14 hs0
 go_enter Tryd.func18, Tryd.ntmps18
 go_wp2_with fail
 refine HMAY.out.mono ?_
 rintro e1 w1 ⟨rfl, hb⟩
 clear hw0 q0 q1 q2 q3 q4 q5 q6 q7 q8 q9 q10 q11 q12 q13 q14
 go_wp2_with fail
 go_ret
 exact ⟨_, rfl, Kd.R_nil _ _ _ _ _, below_step HB0.out hb⟩
def precentorref04_Bytes.f (n : Nat) (K F k s e i t c : Int) (L bo : List Int) (T O M P : Int) (R : List Int) : Option (List Int) :=
 if bo.all (fun c => decide (0 ≤ c ∧ c ≤ 255)) = true ∧ L.length < 10000 ∧ bo.length < 100000000 ∧ R.length < 10000 then some (if mayP K F (mayB k s e i t c L bo.length) (bareB k s e i t c L bo) T O M P R = true then sealP K F k s e i t c L bo T O M P R else []) else none
theorem rbytes4_is {K F k s e i t c : Int} {L bo : List Int} {T O M P : Int} {R : List Int} (hbo : By bo) (hL : L.length < 10000) (hbl : bo.length < 100000000) (hR : R.length < 10000) (n : Nat) :
  precentorref04_Bytes.f n K F k s e i t c L bo T O M P R = some (if mayP K F (mayB k s e i t c L bo.length) (bareB k s e i t c L bo) T O M P R = true then sealP K F k s e i t c L bo T O M P R else []) := if_pos ⟨List.all_eq_true.2 fun x hx => decide_eq_true (hbo x hx), hL, hbl, hR⟩
theorem precentorref04_Bytes.mono : ∀ K F k s e i t c L bo T O M P R n, LeO (precentorref04_Bytes.f n K F k s e i t c L bo T O M P R) (precentorref04_Bytes.f (n + 1) K F k s e i t c L bo T O M P R) := fun _ _ _ _ _ _ _ _ _ _ _ _ _ _ _ _ => fun _ h => h
theorem precentorref04_Bytes.calls (n : Nat) (K F k s e i t c : Int) (A8 : Option Addr) (c8 : Nat) (L : List Int) (A9 : Option Addr) (c9 : Nat) (bo : List Int) (T O M P : Int) (A14 : Option Addr) (c14 : Nat) (R : List Int) (r : List Int) (w : World) (h8 : Kd.C (Kd.int .i64) w A8 L.length L) (l8 : L.length ≤ c8) (h9 : Kd.C (Kd.int .u8) w A9 bo.length bo) (l9 : bo.length ≤ c9) (h14 : Kd.C (Kd.int .i64) w A14 R.length R) (l14 : R.length ≤ c14) (h : precentorref04_Bytes.f n K F k s e i t c L bo T O M P R = some r) :
  Calls Tryd.prog 18 #[.agg #[.int .i64 K, .int .i64 F, .int .i64 k, .int .i64 s, .int .i64 e, .int .i64 i, .int .i64 t, .int .i64 c, .slice A8 L.length c8, .slice A9 bo.length c9, .int .i64 T, .int .i64 O, .int .i64 M, .int .i64 P, .slice A14 R.length c14]] w (fun e' w' => ∃ v : Value, e' = .returned v ∧ Kd.R (Kd.int .u8) 5 w' w.heap.size (fun _ => True) v r ∧ Below w.heap.size w w') := by
 unfold precentorref04_Bytes.f at h
 split at h
 ·
  rename_i hc
  have hby : By bo := fun c hm => of_decide_eq_true (List.all_eq_true.1 hc.1 c hm)
  obtain rfl := Option.some.inj h
  cases hm : mayP K F (mayB k s e i t c L bo.length) (bareB k s e i t c L bo) T O M P R
  ·
   rw [if_neg Bool.false_ne_true]; exact precentorref04_Bytes.no K F k s e i t c A8 c8 L A9 c9 bo T O M P A14 c14 R w h8 l8 h9 l9 h14 l14 hc.2.1 hc.2.2.2 hm
  ·
   rw [if_pos rfl]; exact precentorref04_Bytes.yes K F k s e i t c A8 c8 L A9 c9 bo T O M P A14 c14 R w h8 l8 h9 l9 h14 l14 hby hc.2.1 hc.2.2.1 hc.2.2.2 hm
 ·
  cases h
end Go.Proofs.YtieolhhokepkjaaDoor.Print
