/- A packet's bytes, and that each call gives just them. Conditions stand in each theorem. -/
import Derived.Test.YtieolhhokepkjaaDoorPP
import Derived.Test.YtieolhhokepkjaaDoorHandPM
import Derived.Test.YtieolhhokepkjaaDoorHandK
import Derived.Deep.Light
namespace Go.Proofs.YtieolhhokepkjaaDoor.Print
set_option linter.unusedVariables false
set_option linter.unusedSimpArgs false
open Go.RowKit Go.Proofs.YtieolhhokepkjaaDoorW.PrintWords Go.Proofs.YtieolhhokepkjaaDoorW.PrintLast Go.Proofs.YtieolhhokepkjaaDoorW.PrintMore Go.Proofs.YtieolhhokepkjaaDoor.NumPlain Go.Proofs.YtieolhhokepkjaaDoor.Crc
theorem C_rows4 {w : World} {g : Nat} {t : TypeId} {A1 A2 A3 A4 : Option Addr} {c1 c2 c3 c4 : Nat} {p1 p2 p3 p4 : List Int} (h : w.heap[g]? = some (.cells #[.slice A1 p1.length c1, .slice A2 p2.length c2, .slice A3 p3.length c3, .slice A4 p4.length c4] t (0, 0)))
  (l1 : p1.length ≤ c1) (h1 : Kd.C (Kd.int .u8) w A1 p1.length p1) (l2 : p2.length ≤ c2) (h2 : Kd.C (Kd.int .u8) w A2 p2.length p2) (l3 : p3.length ≤ c3) (h3 : Kd.C (Kd.int .u8) w A3 p3.length p3) (l4 : p4.length ≤ c4) (h4 : Kd.C (Kd.int .u8) w A4 p4.length p4) :
  Kd.C (Kd.slice 5 (Kd.int .u8)) w (some ⟨g, 0, none⟩) 4 [p1, p2, p3, p4] := by
 refine ⟨rfl, by omega, fun _ => ⟨_, rfl, fun j p hp => ?_⟩⟩
 have hk : ∀ (i : Nat) (v : Value), #[.slice A1 p1.length c1, .slice A2 p2.length c2, .slice A3 p3.length c3, .slice A4 p4.length c4][i]? = some v → ∀ (j' : Nat) (u : Value), [v][j']? = some u → w.cell? ((⟨g, 0, none⟩ : Addr).add (i * 1 + j')) = some u := by
  intro i v hv j' u hu
  have hj : j' = 0 := by
   have := (List.getElem?_eq_some_iff.1 hu).1
   simp at this
   exact this
  subst hj
  simp at hu
  subst hu
  rw [show ((⟨g, 0, none⟩ : Addr).add (i * 1 + 0)) = ⟨g, i, none⟩ by simp [Addr.add]; omega, blk_cell h]
  exact hv
 rcases j with _ | _ | _ | _ | j
 ·
  simp at hp; subst hp; exact ⟨_, rfl, ⟨A1, c1, rfl, l1, h1⟩, hk 0 _ rfl⟩
 ·
  simp at hp; subst hp; exact ⟨_, rfl, ⟨A2, c2, rfl, l2, h2⟩, hk 1 _ rfl⟩
 ·
  simp at hp; subst hp; exact ⟨_, rfl, ⟨A3, c3, rfl, l3, h3⟩, hk 2 _ rfl⟩
 ·
  simp at hp; subst hp; exact ⟨_, rfl, ⟨A4, c4, rfl, l4, h4⟩, hk 3 _ rfl⟩
 ·
  simp at hp
def pkt_Bytes.f (K F k s e i t c : Int) (L bo : List Int) (T O M P : Int) (R : List Int) : Option (List Int) :=
 if (Lit.int .i64 k).wf = true ∧ L.length < 10000 ∧ bo.length < 100000000 ∧ R.length < 10000 then some (if mayP K F (mayB k s e i t c L bo.length) (bareB k s e i t c L bo) T O M P R = true then bodyP K F k s e i t c L bo T O M P R ++ tl (sumOf (bodyP K F k s e i t c L bo T O M P R)) else []) else none
theorem mayP_kinds {K F : Int} {it ba : Bool} {T O M P : Int} {R : List Int} (h : mayP K F it ba T O M P R = true) :
  (0 ≤ F ∧ F ≤ 63) ∧ (((K = 1 ∨ K = 2) ∧ it = true) ∨ (K = 3 ∧ (0 ≤ T ∧ T ≤ 63) ∧ (1 ≤ O ∧ O ≤ 4611686018427387904) ∧ 1 ≤ M ∧ M ≤ 64) ∨ (K = 4 ∧ (0 ≤ P ∧ P ≤ 4611686018427387904) ∧ R.length ≤ 64 ∧ ∀ x ∈ R, 0 ≤ x ∧ x ≤ 4611686018427387904)) := by
 unfold mayP wi each wi at h
 rw [Bool.and_eq_true, decide_eq_true_eq] at h
 refine ⟨h.1, ?_⟩
 have h := h.2
 by_cases h1 : K = 1 ∨ K = 2
 ·
  rw [if_pos h1, Bool.and_eq_true] at h; exact Or.inl ⟨h1, h.1⟩
 rw [if_neg h1] at h
 by_cases h3 : K = 3
 ·
  rw [if_pos h3] at h
  simp only [Bool.and_eq_true, decide_eq_true_eq] at h
  exact Or.inr (Or.inl ⟨h3, h.2.1, h.2.2.1, h.2.2.2.1⟩)
 rw [if_neg h3] at h
 by_cases h4 : K = 4
 ·
  rw [if_pos h4] at h
  simp only [Bool.and_eq_true, decide_eq_true_eq, List.all_eq_true] at h
  exact Or.inr (Or.inr ⟨h4, h.2.2.2.2.2.1, by omega, h.1⟩)
 ·
  rw [if_neg h4] at h; cases h
theorem lim2_small {l : List Int} (h : l.length ≤ 1000000000) : lim2 l := by unfold lim2; omega
theorem seal_is {l : List Int} (h : l.length ≤ 1000000000) : crc_Seal.f l = some (l ++ tl (sumOf l)) := if_pos (lim2_small h)
set_option maxRecDepth 100000 in
set_option maxHeartbeats 4000000 in
theorem pkt_Bytes.yes (K F k s e i t c : Int) (A8 : Option Addr) (c8 : Nat) (L : List Int) (A9 : Option Addr) (c9 : Nat) (bo : List Int) (T O M P : Int) (A14 : Option Addr) (c14 : Nat) (R : List Int) (w : World) (h8 : Kd.C (Kd.int .i64) w A8 L.length L) (l8 : L.length ≤ c8) (h9 : Kd.C (Kd.int .u8) w A9 bo.length bo) (l9 : bo.length ≤ c9) (h14 : Kd.C (Kd.int .i64) w A14 R.length R) (l14 : R.length ≤ c14) (hG : GB w) (hw : (Lit.int .i64 k).wf = true) (hL : L.length < 10000) (hbo : bo.length < 100000000) (hR : R.length < 10000) (hm : mayP K F (mayB k s e i t c L bo.length) (bareB k s e i t c L bo) T O M P R = true) :
  Calls Tryd.prog 17 #[.agg #[.int .i64 K, .int .i64 F, .int .i64 k, .int .i64 s, .int .i64 e, .int .i64 i, .int .i64 t, .int .i64 c, .slice A8 L.length c8, .slice A9 bo.length c9, .int .i64 T, .int .i64 O, .int .i64 M, .int .i64 P, .slice A14 R.length c14]] w (fun e' w' => ∃ v0_ : Value, e' = .returned v0_ ∧ Kd.R (Kd.int .u8) 5 w' w.heap.size (fun _ => True) v0_ (bodyP K F k s e i t c L bo T O M P R ++ tl (sumOf (bodyP K F k s e i t c L bo T O M P R))) ∧ Below w.heap.size w w') := by
 obtain ⟨hF, hK⟩ := mayP_kinds hm
 obtain ⟨w0, hw0, hB0, hs0, X0⟩ := boxed15 w (.int .i64 K) (.int .i64 F) (.int .i64 k) (.int .i64 s) (.int .i64 e) (.int .i64 i) (.int .i64 t) (.int .i64 c) (.slice A8 L.length c8) (.slice A9 bo.length c9) (.int .i64 T) (.int .i64 O) (.int .i64 M) (.int .i64 P) (.slice A14 R.length c14)
 have HX := ak X0
 obtain ⟨⟨q0, q1, q2, q3, q4, q5, q6, q7, q8, q9, q10, q11, q12, q13, q14⟩, _⟩ := cells15 X0
 have HB0 := ak hB0
 have HG := Lib.hid (GB.below hG hB0)
 have HMAY := Lib.hid (show Calls Tryd.prog 13 #[.agg #[.int .i64 K, .int .i64 F, .int .i64 k, .int .i64 s, .int .i64 e, .int .i64 i, .int .i64 t, .int .i64 c, .slice A8 L.length c8, .slice A9 bo.length c9, .int .i64 T, .int .i64 O, .int .i64 M, .int .i64 P, .slice A14 R.length c14]] w0 _ from pkt_May.calls 10000 K F k s e i t c A8 c8 L A9 c9 bo T O M P A14 c14 R true w0 (Kd.C_below h8 hB0) l8 (Kd.C_below h9 hB0) l9 (Kd.C_below h14 hB0) l14 (by rw [pmay_is _ _ _ _ _ _ _ _ _ _ _ _ _ _ _ hw hL hR, hm]))
 have HR8 := ak (Kd.C_below h8 hB0)
 have HR9 := ak (Kd.C_below h9 hB0)
 have HR14 := ak (Kd.C_below h14 hB0)
 have HL := Lib.hid hL
 have HBO := Lib.hid hbo
 have HRL := Lib.hid hR
 have HMM := Lib.hid hm
 have HC8 := Lib.hid l8
 have HC9 := Lib.hid l9
 have HC14 := Lib.hid l14
 have HKW := Lib.hid hw
 clear X0 hB0 hG h8 h9 h14 hL hbo hR hm l8 l9 l14 hw hs0
 go_enter Tryd.func17, Tryd.ntmps17
 go_wp2_with fail
 refine HMAY.out.mono ?_
 rintro e1 w1 ⟨rfl, hb⟩
 have HBq := ak hb
 clear hb hw0
 have y0 := pw_cell_below HBq.out q0
 have y1 := pw_cell_below HBq.out q1
 go_upto_region 4 with fail
 have HC0 := ak (Kd.C_lit8 (blk_new w1 (Obj.cells #[.int .u8 165, .int .u8 K, .int .u8 F] 5)) [165, K, F] (by simp) rfl)
 have HO0 := ak (O8.lit (blk_new w1 (Obj.cells #[.int .u8 165, .int .u8 K, .int .u8 F] 5)) HBq.out.size [165, K, F] (by simp) rfl)
 have n0_ := ak (below_alloc HBq.out (Obj.cells #[.int .u8 165, .int .u8 K, .int .u8 F] 5))
 clear y0 y1 HBq
 have HBq := n0_
 clear n0_
 generalize hg2_ : w1.alloc (Obj.cells #[.int .u8 165, .int .u8 K, .int .u8 F] 5) = w2 at *
 clear hg2_
 generalize w1.heap.size = g2 at *
 have y0 := pw_cell_below HBq.out q0
 obtain ⟨p0, hp0⟩ : ∃ p : List Int, [165, K, F] = p := ⟨_, rfl⟩
 have HP0 := Lib.hid hp0
 have HPL0 := Lib.hid (show p0.length = 3 by rw [← hp0]; rfl)
 have HH0 := Lib.hid (show [165, K % 256, F % 256] = p0 by rw [← hp0, Int.emod_eq_of_lt (show 0 ≤ K by omega) (by omega), Int.emod_eq_of_lt (show 0 ≤ F by omega) (by omega)])
 have HC0' := ak (show Kd.C (Kd.int .u8) w2 (some ⟨g2, 0, none⟩) p0.length p0 by rw [← hp0]; exact HC0.out)
 have HO0' := ak (show O8 w2 w0.heap.size (.slice (some ⟨g2, 0, none⟩) 3 3) p0 by rw [← hp0]; exact HO0.out)
 clear HC0 HO0 hp0
 have HC0 := HC0'
 have HO0 := HO0'
 clear HC0' HO0'
 rcases hK with ⟨hK, hit⟩ | ⟨rfl, hT, hO, hM⟩ | ⟨rfl, hP, hRl, hRx⟩
 ·
  have HIB := Lib.hid (show item_Bytes.f k s e i t c L bo = some (bytesOf k s e i t c L bo) from (if_pos ⟨HKW.out, HL.out, HBO.out⟩).trans (by rw [hit, if_pos rfl]))
  obtain ⟨pb, hpb⟩ : ∃ p, bytesOf k s e i t c L bo = p := ⟨_, rfl⟩
  have HPB := Lib.hid (show pb.length ≤ 1100 by rw [← hpb]; exact (bytes_len hit).2)
  have HBD := Lib.hid (show bodyP K F k s e i t c L bo T O M P R = p0 ++ pb by unfold bodyP; rw [HH0.out, if_neg (by rcases hK with h | h <;> omega), if_neg (by rcases hK with h | h <;> omega), hpb])
  rw [hpb] at HIB
  have z2 := pw_cell_below HBq.out q2
  have z3 := pw_cell_below HBq.out q3
  have z4 := pw_cell_below HBq.out q4
  have z5 := pw_cell_below HBq.out q5
  have z6 := pw_cell_below HBq.out q6
  have z7 := pw_cell_below HBq.out q7
  have z8 := pw_cell_below HBq.out q8
  have z9 := pw_cell_below HBq.out q9
  have HCT := Lib.hid (show Calls Tryd.prog 40 #[.agg #[.int .i64 k, .int .i64 s, .int .i64 e, .int .i64 i, .int .i64 t, .int .i64 c, .slice A8 L.length c8, .slice A9 bo.length c9]] w2 _ from item_Bytes.calls k s e i t c A8 c8 L A9 c9 bo pb w2 (Kd.C_below HR8.out HBq.out) HC8.out (Kd.C_below HR9.out HBq.out) HC9.out (GB.below HG.out HBq.out) HIB.out)
  clear hpb hit
  have k3 : (K == 3) = false := beq_eq_false_iff_ne.2 (by rcases hK with h | h <;> omega)
  have k4 : (K == 4) = false := beq_eq_false_iff_ne.2 (by rcases hK with h | h <;> omega)
  clear hK hF
  go_wp2_with fail
  refine HCT.out.mono ?_
  rintro e2 w3 ⟨v3, rfl, hr, hb⟩
  obtain ⟨A18, c18, rfl, hl18, hC18⟩ := Kd.R_reads hr
  have HC18 := ak hC18
  have HO1 := ak (O8.below HO0.out hb)
  have n0_ := ak (below_step HBq.out hb)
  clear HBq hb hr hC18 HCT k3 k4 y0 z2 z3 z4 z5 z6 z7 z8 z9
  have HBq := n0_
  clear n0_
  have HZ := Lib.hid (show p0.length + pb.length ≤ 2000 by have h1 := HPL0.out; have h2 := HPB.out; omega)
  go_wp2_with ((with_reducible refine gate_builtin (b := .append) (xs := #[.tmp 16, .tmp 19]) rfl ?_); at_builtin; refine ap8 (w0 := w0) (b := w0.heap.size) (xs := p0) (ys := pb) rfl rfl rfl rfl HO1.out HC18.out HBq.out HBq.out.size (by have := HZ.out; omega) ?_; intro v4 w4 ho hb; have HO' := ak ho; have HB4 := ak hb; clear ho hb)
  have HZ := Lib.hid (show (p0 ++ pb).length ≤ 2000 by have := HZ.out; simp; omega)
  obtain ⟨pf, hpf⟩ : ∃ pf, p0 ++ pb = pf := ⟨_, rfl⟩
  rw [hpf] at HO' HZ HBD
  obtain ⟨A20, c20, rfl, hl20, hC20⟩ := O8.reads HO'.out
  have HC20 := ak hC20
  have HL20 := Lib.hid hl20
  clear hC20 hl20 hpf
  have HSL := Lib.hid (show Calls Tryd.prog 41 #[.slice A20 pf.length c20] w4 _ from crc_Seal.calls A20 c20 pf _ w4 HC20.out HL20.out (seal_is (by have := HZ.out; omega)))
  skip
  refine HSL.out.mono ?_
  rintro e9 w9 ⟨v9, rfl, hr, hb⟩
  go_wp2_with fail
  go_ret
  exact ⟨_, rfl, by rw [HBD.out]; exact Kd.R_mono (Kd.R_lower hr (below_step HB0.out HB4.out).size) (fun _ _ => trivial), below_step (below_step HB0.out HB4.out) hb⟩
 ·
  obtain ⟨p1, hp1⟩ : ∃ p, enc 1 T = p := ⟨_, rfl⟩
  obtain ⟨p2, hp2⟩ : ∃ p, enc 8 O = p := ⟨_, rfl⟩
  obtain ⟨p3, hp3⟩ : ∃ p, enc 1 M = p := ⟨_, rfl⟩
  have HP1 := Lib.hid (show num_Put.f 20 T 1 = some p1 by rw [← hp1]; exact put1 (by omega))
  have HP2 := Lib.hid (show num_Put.f 20 O 8 = some p2 by rw [← hp2]; exact put8 (by omega))
  have HP3 := Lib.hid (show num_Put.f 20 M 1 = some p3 by rw [← hp3]; exact put1 (by omega))
  have HPL := Lib.hid (show p1.length = 1 ∧ p2.length = 8 ∧ p3.length = 1 from ⟨by rw [← hp1]; rfl, by rw [← hp2]; rfl, by rw [← hp3]; rfl⟩)
  have HBD := Lib.hid (show bodyP 3 F k s e i t c L bo T O M P R = p0 ++ p1 ++ p2 ++ p3 by unfold bodyP; rw [HH0.out, if_pos rfl, hp1, hp2, hp3]; simp)
  have HL0 := Lib.hid (show p0.length ≤ 3 by rw [HPL0.out]; decide)
  have HLQ := Lib.hid (show (3 : Nat) = p0.length from HPL0.out.symm)
  clear hp1 hp2 hp3 hT hO hM hF
  go_upto_region 7 with fail
  refine start_ (n := 13) (S := fun w' => w'.cell? ⟨w.heap.size, 10, none⟩ = some (.int .i64 T) ∧ w'.cell? ⟨w.heap.size, 11, none⟩ = some (.int .i64 O) ∧ w'.cell? ⟨w.heap.size, 12, none⟩ = some (.int .i64 M)) (ds := []) #[false, false, false, false, false, false, false, false, false, false, false, false, false] (by kernel_rfl) rfl rfl ⟨pw_cell_below (below_drew1 HBq.out) q10, pw_cell_below (below_drew1 HBq.out) q11, pw_cell_below (below_drew1 HBq.out) q12⟩ (fun hHeld => ?_)
  have n0_ := ak (below_drew1 HBq.out)
  have n1_ := ak (Kd.C_below HC0.out (below_drew1 (Below.refl _ _)))
  clear HBq HC0
  have HBq := n0_
  have HC0 := n1_
  clear n0_ n1_
  generalize hw3_ : w2.drew = w3 at *
  clear hw3_
  refine pure_ (i := 0) (N := some 23) (v := ?_) (a' := ?_) #[true, false, false, false, false, false, false, false, false, false, false, false, false] rfl rfl (by kernel_rfl) (fun _ _ _ h => h) (Or.inl ⟨by rfl, ?_⟩) ?_ ?_
  rotate_left
  ·
   intro w'
   go_simp
   with_reducible rfl
  rotate_left
  ·
   simp only [Act.put, sq1, sq2, sq3, i64_w, i32_w]
   rfl
  refine pure_ (i := 1) (N := some 24) (v := ?_) (a' := ?_) #[true, true, false, false, false, false, false, false, false, false, false, false, false] rfl rfl (by kernel_rfl) (fun _ _ _ h => h) (Or.inl ⟨by rfl, ?_⟩) ?_ ?_
  rotate_left
  ·
   intro w'
   go_simp
   with_reducible rfl
  rotate_left
  ·
   simp only [Act.put, sq1, sq2, sq3, i64_w, i32_w]
   rfl
  refine pure_ (i := 4) (N := some 27) (v := ?_) (a' := ?_) #[true, true, false, false, true, false, false, false, false, false, false, false, false] rfl rfl (by kernel_rfl) (fun _ _ _ h => h) (Or.inl ⟨by rfl, ?_⟩) ?_ ?_
  rotate_left
  ·
   intro w'
   go_simp
   with_reducible rfl
  rotate_left
  ·
   simp only [Act.put, sq1, sq2, sq3, i64_w, i32_w]
   rfl
  refine pure_ (i := 7) (N := some 30) (v := ?_) (a' := ?_) #[true, true, false, false, true, false, false, true, false, false, false, false, false] rfl rfl (by kernel_rfl) (fun _ _ _ h => h) (Or.inl ⟨by rfl, ?_⟩) ?_ ?_
  rotate_left
  ·
   intro w'
   go_simp
   with_reducible rfl
  rotate_left
  ·
   simp only [Act.put, sq1, sq2, sq3, i64_w, i32_w]
   rfl
  refine take_ (i := 2) (N := some 25) (v := ?_) (a' := ?_) #[true, true, true, false, true, false, false, true, false, false, false, false, false] rfl rfl (by kernel_rfl) (fun _ _ _ h => h) (Or.inl ⟨by rfl, ?_⟩) hHeld ?_ ?_
  rotate_left
  ·
   rintro w' ⟨s0, s1, s2⟩
   go_simp
   with_reducible rfl
  rotate_left
  ·
   simp only [Act.put, sq1, sq2, sq3, i64_w, i32_w]
   rfl
  refine take_ (i := 5) (N := some 28) (v := ?_) (a' := ?_) #[true, true, true, false, true, true, false, true, false, false, false, false, false] rfl rfl (by kernel_rfl) (fun _ _ _ h => h) (Or.inl ⟨by rfl, ?_⟩) hHeld ?_ ?_
  rotate_left
  ·
   rintro w' ⟨s0, s1, s2⟩
   go_simp
   with_reducible rfl
  rotate_left
  ·
   simp only [Act.put, sq1, sq2, sq3, i64_w, i32_w]
   rfl
  refine take_ (i := 8) (N := some 31) (v := ?_) (a' := ?_) #[true, true, true, false, true, true, false, true, true, false, false, false, false] rfl rfl (by kernel_rfl) (fun _ _ _ h => h) (Or.inl ⟨by rfl, ?_⟩) hHeld ?_ ?_
  rotate_left
  ·
   rintro w' ⟨s0, s1, s2⟩
   go_simp
   with_reducible rfl
  rotate_left
  ·
   simp only [Act.put, sq1, sq2, sq3, i64_w, i32_w]
   rfl
  refine one_ (i := 3) (N := some 26) #[true, true, true, true, true, true, false, true, true, false, false, false, false] rfl rfl (by kernel_rfl) (by decide) (fun K hK => ?_)
  refine goes_ Tryd.func38 (by kernel_rfl) rfl #[.int .i64 T, .int .i64 1] (by rfl) rfl rfl (by simp only [List.map_toArray, List.map_cons, List.map_nil]; rfl) ?_
  with_reducible refine (num_Put.calls 20 T 1 p1 w3 (GB.below HG.out HBq.out) HP1.out).mono ?_
  rintro e0 w4 ⟨v1, rfl, hr, hb⟩
  refine ⟨_, rfl, ?_⟩
  obtain ⟨A21, c21, rfl, hl1, hC1⟩ := Kd.R_reads hr
  have HC1 := ak hC1
  have HL1 := Lib.hid hl1
  clear hr hC1 hl1
  have n1_ := ak (Kd.C_below HC0.out hb)
  clear HC0
  have HC0 := n1_
  clear n1_
  have n0_ := ak (below_step HBq.out hb)
  clear HBq hb
  have HBq := n0_
  clear n0_
  refine hK.out _ _ ⟨pw_cell_below HBq.out q10, pw_cell_below HBq.out q11, pw_cell_below HBq.out q12⟩ (fun hHeld => ?_)
  clear hK K
  refine norm_ (a' := ?_) ?_ ?_
  rotate_left
  ·
   show Act.put _ (some 26) _ = _
   simp only [Act.put, sq1, sq2, sq3, i64_w, i32_w]
   rfl
  refine one_ (i := 6) (N := some 29) #[true, true, true, true, true, true, true, true, true, false, false, false, false] rfl rfl (by kernel_rfl) (by decide) (fun K hK => ?_)
  refine goes_ Tryd.func38 (by kernel_rfl) rfl #[.int .i64 O, .int .i64 8] (by rfl) rfl rfl (by simp only [List.map_toArray, List.map_cons, List.map_nil]; rfl) ?_
  with_reducible refine (num_Put.calls 20 O 8 p2 w4 (GB.below HG.out HBq.out) HP2.out).mono ?_
  rintro e0 w5 ⟨v2, rfl, hr, hb⟩
  refine ⟨_, rfl, ?_⟩
  obtain ⟨A22, c22, rfl, hl2, hC2⟩ := Kd.R_reads hr
  have HC2 := ak hC2
  have HL2 := Lib.hid hl2
  clear hr hC2 hl2
  have n1_ := ak (Kd.C_below HC0.out hb)
  clear HC0
  have HC0 := n1_
  clear n1_
  have n1_ := ak (Kd.C_below HC1.out hb)
  clear HC1
  have HC1 := n1_
  clear n1_
  have n0_ := ak (below_step HBq.out hb)
  clear HBq hb
  have HBq := n0_
  clear n0_
  refine hK.out _ _ ⟨pw_cell_below HBq.out q10, pw_cell_below HBq.out q11, pw_cell_below HBq.out q12⟩ (fun hHeld => ?_)
  clear hK K
  refine norm_ (a' := ?_) ?_ ?_
  rotate_left
  ·
   show Act.put _ (some 29) _ = _
   simp only [Act.put, sq1, sq2, sq3, i64_w, i32_w]
   rfl
  refine one_ (i := 9) (N := some 32) #[true, true, true, true, true, true, true, true, true, true, false, false, false] rfl rfl (by kernel_rfl) (by decide) (fun K hK => ?_)
  refine goes_ Tryd.func38 (by kernel_rfl) rfl #[.int .i64 M, .int .i64 1] (by rfl) rfl rfl (by simp only [List.map_toArray, List.map_cons, List.map_nil]; rfl) ?_
  with_reducible refine (num_Put.calls 20 M 1 p3 w5 (GB.below HG.out HBq.out) HP3.out).mono ?_
  rintro e0 w6 ⟨v3, rfl, hr, hb⟩
  refine ⟨_, rfl, ?_⟩
  obtain ⟨A23, c23, rfl, hl3, hC3⟩ := Kd.R_reads hr
  have HC3 := ak hC3
  have HL3 := Lib.hid hl3
  clear hr hC3 hl3
  have n1_ := ak (Kd.C_below HC0.out hb)
  clear HC0
  have HC0 := n1_
  clear n1_
  have n1_ := ak (Kd.C_below HC1.out hb)
  clear HC1
  have HC1 := n1_
  clear n1_
  have n1_ := ak (Kd.C_below HC2.out hb)
  clear HC2
  have HC2 := n1_
  clear n1_
  have n0_ := ak (below_step HBq.out hb)
  clear HBq hb
  have HBq := n0_
  clear n0_
  refine hK.out _ _ ⟨pw_cell_below HBq.out q10, pw_cell_below HBq.out q11, pw_cell_below HBq.out q12⟩ (fun hHeld => ?_)
  clear hK K
  refine norm_ (a' := ?_) ?_ ?_
  rotate_left
  ·
   show Act.put _ (some 32) _ = _
   simp only [Act.put, sq1, sq2, sq3, i64_w, i32_w]
   rfl
  refine one_ (i := 10) (N := some 33) #[true, true, true, true, true, true, true, true, true, true, true, false, false] rfl rfl (by kernel_rfl) (by decide) (fun K hK => ?_)
  refine value_ (w1 := ?_) (v := ?_) (by rfl) rfl ?_ ?_
  rotate_left 2
  ·
   go_simp
   constructor
   ·
    rfl
   ·
    rfl
  have HNB := ak (blk_new w6 (Obj.cells #[.slice (some ⟨g2, 0, none⟩) 3 3, .slice A21 p1.length c21, .slice A22 p2.length c22, .slice A23 p3.length c23] 23))
  have n1_ := ak (Kd.C_alloc HC0.out (Obj.cells #[.slice (some ⟨g2, 0, none⟩) 3 3, .slice A21 p1.length c21, .slice A22 p2.length c22, .slice A23 p3.length c23] 23))
  clear HC0
  have HC0 := n1_
  clear n1_
  have n1_ := ak (Kd.C_alloc HC1.out (Obj.cells #[.slice (some ⟨g2, 0, none⟩) 3 3, .slice A21 p1.length c21, .slice A22 p2.length c22, .slice A23 p3.length c23] 23))
  clear HC1
  have HC1 := n1_
  clear n1_
  have n1_ := ak (Kd.C_alloc HC2.out (Obj.cells #[.slice (some ⟨g2, 0, none⟩) 3 3, .slice A21 p1.length c21, .slice A22 p2.length c22, .slice A23 p3.length c23] 23))
  clear HC2
  have HC2 := n1_
  clear n1_
  have n1_ := ak (Kd.C_alloc HC3.out (Obj.cells #[.slice (some ⟨g2, 0, none⟩) 3 3, .slice A21 p1.length c21, .slice A22 p2.length c22, .slice A23 p3.length c23] 23))
  clear HC3
  have HC3 := n1_
  clear n1_
  have n0_ := ak (below_alloc HBq.out (Obj.cells #[.slice (some ⟨g2, 0, none⟩) 3 3, .slice A21 p1.length c21, .slice A22 p2.length c22, .slice A23 p3.length c23] 23))
  clear HBq
  have HBq := n0_
  clear n0_
  generalize hgl_ : w6.alloc (Obj.cells #[.slice (some ⟨g2, 0, none⟩) 3 3, .slice A21 p1.length c21, .slice A22 p2.length c22, .slice A23 p3.length c23] 23) = w7 at *
  clear hgl_
  generalize w6.heap.size = g7 at HNB ⊢
  have HNC := ak (show w7.heap[g7]? = some (.cells #[.slice (some ⟨g2, 0, none⟩) p0.length 3, .slice A21 p1.length c21, .slice A22 p2.length c22, .slice A23 p3.length c23] 23 (0, 0)) by rw [HPL0.out]; exact HNB.out)
  refine hK.out _ _ ⟨pw_cell_below HBq.out q10, pw_cell_below HBq.out q11, pw_cell_below HBq.out q12⟩ (fun hHeld => ?_)
  clear hK K
  refine norm_ (a' := ?_) ?_ ?_
  rotate_left
  ·
   show Act.put _ (some 33) _ = _
   simp only [Act.put, sq1, sq2, sq3, i64_w, i32_w]
   rfl
  refine one_ (i := 11) (N := some 34) #[true, true, true, true, true, true, true, true, true, true, true, true, false] rfl rfl (by kernel_rfl) (by decide) (fun K hK => ?_)
  have HCT := Lib.hid (show Calls Tryd.prog 37 #[.slice (some ⟨g7, 0, none⟩) 4 4] w7 _ from slices_Concat.is (some ⟨g7, 0, none⟩) 4 [p0, p1, p2, p3] w7 (C_rows4 HNC.out HL0.out HC0.out HL1.out HC1.out HL2.out HC2.out HL3.out HC3.out) (by obtain ⟨h1, h2, h3⟩ := HPL.out; have := HPL0.out; simp [h1, h2, h3]; omega))
  refine goes_ Tryd.func37 (by kernel_rfl) rfl #[.slice (some ⟨g7, 0, none⟩) 4 4] (by rfl) rfl rfl (by simp only [List.map_toArray, List.map_cons, List.map_nil]; rfl) ?_
  with_reducible refine (HCT.out).mono ?_
  rintro e0 w8 ⟨v8, rfl, ho, hb⟩
  refine ⟨_, rfl, ?_⟩
  have HO := ak (O8.lower (b' := w0.heap.size) ho HBq.out.size)
  clear ho
  have n0_ := ak (below_step HBq.out hb)
  clear HBq hb
  have HBq := n0_
  clear n0_
  refine hK.out _ _ ⟨pw_cell_below HBq.out q10, pw_cell_below HBq.out q11, pw_cell_below HBq.out q12⟩ (fun hHeld => ?_)
  clear hK K
  refine norm_ (a' := ?_) ?_ ?_
  rotate_left
  ·
   show Act.put _ (some 34) _ = _
   simp only [Act.put, sq1, sq2, sq3, i64_w, i32_w]
   rfl
  refine pure_ (i := 12) (N := some 3) (v := ?_) (a' := ?_) #[true, true, true, true, true, true, true, true, true, true, true, true, true] rfl rfl (by kernel_rfl) (fun _ _ _ h => h) (Or.inl ⟨by rfl, ?_⟩) ?_ ?_
  rotate_left
  ·
   intro w'
   go_simp
   with_reducible rfl
  rotate_left
  ·
   simp only [Act.put, sq1, sq2, sq3, i64_w, i32_w]
   rfl
  refine done_ (by kernel_rfl) ?_
  clear hHeld
  have HO' := ak (show O8 w8 w0.heap.size v8 (p0 ++ p1 ++ p2 ++ p3) by have := HO.out; simpa using this)
  have HZ := Lib.hid (show (p0 ++ p1 ++ p2 ++ p3).length ≤ 2000 by have h0 := HPL0.out; obtain ⟨h1, h2, h3⟩ := HPL.out; simp [h0, h1, h2, h3])
  obtain ⟨pf, hpf⟩ : ∃ pf, p0 ++ p1 ++ p2 ++ p3 = pf := ⟨_, rfl⟩
  rw [hpf] at HO' HZ HBD
  obtain ⟨A20, c20, rfl, hl20, hC20⟩ := O8.reads HO'.out
  have HC20 := ak hC20
  have HL20 := Lib.hid hl20
  have HB4 := HBq
  clear hC20 hl20 hpf
  clear y0
  go_wp2_with fail
  have HSL := Lib.hid (show Calls Tryd.prog 41 #[.slice A20 pf.length c20] w8 _ from crc_Seal.calls A20 c20 pf _ w8 HC20.out HL20.out (seal_is (by have := HZ.out; omega)))
  skip
  refine HSL.out.mono ?_
  rintro e9 w9 ⟨v9, rfl, hr, hb⟩
  go_wp2_with fail
  go_ret
  exact ⟨_, rfl, by rw [HBD.out]; exact Kd.R_mono (Kd.R_lower hr (below_step HB0.out HB4.out).size) (fun _ _ => trivial), below_step (below_step HB0.out HB4.out) hb⟩
 ·
  obtain ⟨p1, hp1⟩ : ∃ p, enc 8 P = p := ⟨_, rfl⟩
  obtain ⟨p2, hp2⟩ : ∃ p, flat 8 R = p := ⟨_, rfl⟩
  have HP1 := Lib.hid (show num_Put.f 20 P 8 = some p1 by rw [← hp1]; exact put8 (by omega))
  have hfa : Fa R 8 := fun x hx => ⟨Or.inr (Or.inr rfl), hRx x hx⟩
  have HPR := Lib.hid (show num_PutRow.f (R.length + 10) R 8 = some p2 by rw [putrow_is HRL.out (Nat.le_refl _), if_pos hfa, hp2])
  have HPL := Lib.hid (show p1.length = 8 ∧ p2.length ≤ 512 from ⟨by rw [← hp1]; rfl, by rw [← hp2, flat_length, show Int.toNat 8 = 8 from rfl]; omega⟩)
  have HBD := Lib.hid (show bodyP 4 F k s e i t c L bo T O M P R = p0 ++ p1 ++ p2 by unfold bodyP; rw [HH0.out, if_neg (by decide), if_pos rfl, hp1, hp2]; simp)
  have HL0 := Lib.hid (show p0.length ≤ 3 by rw [HPL0.out]; decide)
  clear hp1 hp2 hP hRl hRx hF hfa
  go_upto_region 9 with fail
  refine start_ (n := 10) (S := fun w' => w'.cell? ⟨w.heap.size, 13, none⟩ = some (.int .i64 P) ∧ w'.cell? ⟨w.heap.size, 14, none⟩ = some (.slice A14 R.length c14)) (ds := []) #[false, false, false, false, false, false, false, false, false, false] (by kernel_rfl) rfl rfl ⟨pw_cell_below (below_drew1 HBq.out) q13, pw_cell_below (below_drew1 HBq.out) q14⟩ (fun hHeld => ?_)
  have n0_ := ak (below_drew1 HBq.out)
  have n1_ := ak (Kd.C_below HC0.out (below_drew1 (Below.refl _ _)))
  clear HBq HC0
  have HBq := n0_
  have HC0 := n1_
  clear n0_ n1_
  generalize hw3_ : w2.drew = w3 at *
  clear hw3_
  refine pure_ (i := 0) (N := some 37) (v := ?_) (a' := ?_) #[true, false, false, false, false, false, false, false, false, false] rfl rfl (by kernel_rfl) (fun _ _ _ h => h) (Or.inl ⟨by rfl, ?_⟩) ?_ ?_
  rotate_left
  ·
   intro w'
   go_simp
   with_reducible rfl
  rotate_left
  ·
   simp only [Act.put, sq1, sq2, sq3, i64_w, i32_w]
   rfl
  refine pure_ (i := 1) (N := some 38) (v := ?_) (a' := ?_) #[true, true, false, false, false, false, false, false, false, false] rfl rfl (by kernel_rfl) (fun _ _ _ h => h) (Or.inl ⟨by rfl, ?_⟩) ?_ ?_
  rotate_left
  ·
   intro w'
   go_simp
   with_reducible rfl
  rotate_left
  ·
   simp only [Act.put, sq1, sq2, sq3, i64_w, i32_w]
   rfl
  refine pure_ (i := 4) (N := some 41) (v := ?_) (a' := ?_) #[true, true, false, false, true, false, false, false, false, false] rfl rfl (by kernel_rfl) (fun _ _ _ h => h) (Or.inl ⟨by rfl, ?_⟩) ?_ ?_
  rotate_left
  ·
   intro w'
   go_simp
   with_reducible rfl
  rotate_left
  ·
   simp only [Act.put, sq1, sq2, sq3, i64_w, i32_w]
   rfl
  refine take_ (i := 2) (N := some 39) (v := ?_) (a' := ?_) #[true, true, true, false, true, false, false, false, false, false] rfl rfl (by kernel_rfl) (fun _ _ _ h => h) (Or.inl ⟨by rfl, ?_⟩) hHeld ?_ ?_
  rotate_left
  ·
   rintro w' ⟨s0, s1⟩
   go_simp
   with_reducible rfl
  rotate_left
  ·
   simp only [Act.put, sq1, sq2, sq3, i64_w, i32_w]
   rfl
  refine take_ (i := 5) (N := some 42) (v := ?_) (a' := ?_) #[true, true, true, false, true, true, false, false, false, false] rfl rfl (by kernel_rfl) (fun _ _ _ h => h) (Or.inl ⟨by rfl, ?_⟩) hHeld ?_ ?_
  rotate_left
  ·
   rintro w' ⟨s0, s1⟩
   go_simp
   with_reducible rfl
  rotate_left
  ·
   simp only [Act.put, sq1, sq2, sq3, i64_w, i32_w]
   rfl
  refine one_ (i := 3) (N := some 40) #[true, true, true, true, true, true, false, false, false, false] rfl rfl (by kernel_rfl) (by decide) (fun K hK => ?_)
  refine goes_ Tryd.func38 (by kernel_rfl) rfl #[.int .i64 P, .int .i64 8] (by rfl) rfl rfl (by simp only [List.map_toArray, List.map_cons, List.map_nil]; rfl) ?_
  with_reducible refine (num_Put.calls 20 P 8 p1 w3 (GB.below HG.out HBq.out) HP1.out).mono ?_
  rintro e0 w4 ⟨v1, rfl, hr, hb⟩
  refine ⟨_, rfl, ?_⟩
  obtain ⟨A21, c21, rfl, hl1, hC1⟩ := Kd.R_reads hr
  have HC1 := ak hC1
  have HL1 := Lib.hid hl1
  clear hr hC1 hl1
  have n1_ := ak (Kd.C_below HC0.out hb)
  clear HC0
  have HC0 := n1_
  clear n1_
  have n0_ := ak (below_step HBq.out hb)
  clear HBq hb
  have HBq := n0_
  clear n0_
  refine hK.out _ _ ⟨pw_cell_below HBq.out q13, pw_cell_below HBq.out q14⟩ (fun hHeld => ?_)
  clear hK K
  refine norm_ (a' := ?_) ?_ ?_
  rotate_left
  ·
   show Act.put _ (some 40) _ = _
   simp only [Act.put, sq1, sq2, sq3, i64_w, i32_w]
   rfl
  refine one_ (i := 6) (N := some 43) #[true, true, true, true, true, true, true, false, false, false] rfl rfl (by kernel_rfl) (by decide) (fun K hK => ?_)
  refine goes_ Tryd.func39 (by kernel_rfl) rfl #[.slice A14 R.length c14, .int .i64 8] (by rfl) rfl rfl (by simp only [List.map_toArray, List.map_cons, List.map_nil]; rfl) ?_
  with_reducible refine (num_PutRow.calls (R.length + 10) A14 c14 R 8 p2 w4 (Kd.C_below HR14.out HBq.out) HC14.out (GB.below HG.out HBq.out) HPR.out).mono ?_
  rintro e0 w5 ⟨v2, rfl, hr, hb⟩
  refine ⟨_, rfl, ?_⟩
  obtain ⟨A22, c22, rfl, hl2, hC2⟩ := Kd.R_reads hr
  have HC2 := ak hC2
  have HL2 := Lib.hid hl2
  clear hr hC2 hl2
  have n1_ := ak (Kd.C_below HC0.out hb)
  clear HC0
  have HC0 := n1_
  clear n1_
  have n1_ := ak (Kd.C_below HC1.out hb)
  clear HC1
  have HC1 := n1_
  clear n1_
  have n0_ := ak (below_step HBq.out hb)
  clear HBq hb
  have HBq := n0_
  clear n0_
  refine hK.out _ _ ⟨pw_cell_below HBq.out q13, pw_cell_below HBq.out q14⟩ (fun hHeld => ?_)
  clear hK K
  refine norm_ (a' := ?_) ?_ ?_
  rotate_left
  ·
   show Act.put _ (some 43) _ = _
   simp only [Act.put, sq1, sq2, sq3, i64_w, i32_w]
   rfl
  refine one_ (i := 7) (N := some 44) #[true, true, true, true, true, true, true, true, false, false] rfl rfl (by kernel_rfl) (by decide) (fun K hK => ?_)
  refine value_ (w1 := ?_) (v := ?_) (by rfl) rfl ?_ ?_
  rotate_left 2
  ·
   go_simp
   constructor
   ·
    rfl
   ·
    rfl
  have HNB := ak (blk_new w5 (Obj.cells #[.slice (some ⟨g2, 0, none⟩) 3 3, .slice A21 p1.length c21, .slice A22 p2.length c22] 23))
  have n1_ := ak (Kd.C_alloc HC0.out (Obj.cells #[.slice (some ⟨g2, 0, none⟩) 3 3, .slice A21 p1.length c21, .slice A22 p2.length c22] 23))
  clear HC0
  have HC0 := n1_
  clear n1_
  have n1_ := ak (Kd.C_alloc HC1.out (Obj.cells #[.slice (some ⟨g2, 0, none⟩) 3 3, .slice A21 p1.length c21, .slice A22 p2.length c22] 23))
  clear HC1
  have HC1 := n1_
  clear n1_
  have n1_ := ak (Kd.C_alloc HC2.out (Obj.cells #[.slice (some ⟨g2, 0, none⟩) 3 3, .slice A21 p1.length c21, .slice A22 p2.length c22] 23))
  clear HC2
  have HC2 := n1_
  clear n1_
  have n0_ := ak (below_alloc HBq.out (Obj.cells #[.slice (some ⟨g2, 0, none⟩) 3 3, .slice A21 p1.length c21, .slice A22 p2.length c22] 23))
  clear HBq
  have HBq := n0_
  clear n0_
  generalize hgl_ : w5.alloc (Obj.cells #[.slice (some ⟨g2, 0, none⟩) 3 3, .slice A21 p1.length c21, .slice A22 p2.length c22] 23) = w7 at *
  clear hgl_
  generalize w5.heap.size = g7 at HNB ⊢
  have HNC := ak (show w7.heap[g7]? = some (.cells #[.slice (some ⟨g2, 0, none⟩) p0.length 3, .slice A21 p1.length c21, .slice A22 p2.length c22] 23 (0, 0)) by rw [HPL0.out]; exact HNB.out)
  refine hK.out _ _ ⟨pw_cell_below HBq.out q13, pw_cell_below HBq.out q14⟩ (fun hHeld => ?_)
  clear hK K
  refine norm_ (a' := ?_) ?_ ?_
  rotate_left
  ·
   show Act.put _ (some 44) _ = _
   simp only [Act.put, sq1, sq2, sq3, i64_w, i32_w]
   rfl
  refine one_ (i := 8) (N := some 45) #[true, true, true, true, true, true, true, true, true, false] rfl rfl (by kernel_rfl) (by decide) (fun K hK => ?_)
  have HCT := Lib.hid (show Calls Tryd.prog 37 #[.slice (some ⟨g7, 0, none⟩) 3 3] w7 _ from slices_Concat.is (some ⟨g7, 0, none⟩) 3 [p0, p1, p2] w7 (C_rows3 HNC.out HL0.out HC0.out HL1.out HC1.out HL2.out HC2.out) (by obtain ⟨h1, h2⟩ := HPL.out; have := HPL0.out; simp; omega))
  refine goes_ Tryd.func37 (by kernel_rfl) rfl #[.slice (some ⟨g7, 0, none⟩) 3 3] (by rfl) rfl rfl (by simp only [List.map_toArray, List.map_cons, List.map_nil]; rfl) ?_
  with_reducible refine (HCT.out).mono ?_
  rintro e0 w8 ⟨v8, rfl, ho, hb⟩
  refine ⟨_, rfl, ?_⟩
  have HO := ak (O8.lower (b' := w0.heap.size) ho HBq.out.size)
  clear ho
  have n0_ := ak (below_step HBq.out hb)
  clear HBq hb
  have HBq := n0_
  clear n0_
  refine hK.out _ _ ⟨pw_cell_below HBq.out q13, pw_cell_below HBq.out q14⟩ (fun hHeld => ?_)
  clear hK K
  refine norm_ (a' := ?_) ?_ ?_
  rotate_left
  ·
   show Act.put _ (some 45) _ = _
   simp only [Act.put, sq1, sq2, sq3, i64_w, i32_w]
   rfl
  refine pure_ (i := 9) (N := some 3) (v := ?_) (a' := ?_) #[true, true, true, true, true, true, true, true, true, true] rfl rfl (by kernel_rfl) (fun _ _ _ h => h) (Or.inl ⟨by rfl, ?_⟩) ?_ ?_
  rotate_left
  ·
   intro w'
   go_simp
   with_reducible rfl
  rotate_left
  ·
   simp only [Act.put, sq1, sq2, sq3, i64_w, i32_w]
   rfl
  refine done_ (by kernel_rfl) ?_
  clear hHeld
  have HO' := ak (show O8 w8 w0.heap.size v8 (p0 ++ p1 ++ p2) by have := HO.out; simpa using this)
  have HZ := Lib.hid (show (p0 ++ p1 ++ p2).length ≤ 2000 by have h0 := HPL0.out; obtain ⟨h1, h2⟩ := HPL.out; simp [h0, h1]; omega)
  obtain ⟨pf, hpf⟩ : ∃ pf, p0 ++ p1 ++ p2 = pf := ⟨_, rfl⟩
  rw [hpf] at HO' HZ HBD
  obtain ⟨A20, c20, rfl, hl20, hC20⟩ := O8.reads HO'.out
  have HC20 := ak hC20
  have HL20 := Lib.hid hl20
  have HB4 := HBq
  clear hC20 hl20 hpf
  clear y0
  go_wp2_with fail
  have HSL := Lib.hid (show Calls Tryd.prog 41 #[.slice A20 pf.length c20] w8 _ from crc_Seal.calls A20 c20 pf _ w8 HC20.out HL20.out (seal_is (by have := HZ.out; omega)))
  skip
  refine HSL.out.mono ?_
  rintro e9 w9 ⟨v9, rfl, hr, hb⟩
  go_wp2_with fail
  go_ret
  exact ⟨_, rfl, by rw [HBD.out]; exact Kd.R_mono (Kd.R_lower hr (below_step HB0.out HB4.out).size) (fun _ _ => trivial), below_step (below_step HB0.out HB4.out) hb⟩
theorem pkt_Bytes.no (K F k s e i t c : Int) (A8 : Option Addr) (c8 : Nat) (L : List Int) (A9 : Option Addr) (c9 : Nat) (bo : List Int) (T O M P : Int) (A14 : Option Addr) (c14 : Nat) (R : List Int) (w : World) (h8 : Kd.C (Kd.int .i64) w A8 L.length L) (l8 : L.length ≤ c8) (h9 : Kd.C (Kd.int .u8) w A9 bo.length bo) (l9 : bo.length ≤ c9) (h14 : Kd.C (Kd.int .i64) w A14 R.length R) (l14 : R.length ≤ c14) (hw : (Lit.int .i64 k).wf = true) (hL : L.length < 10000) (hR : R.length < 10000) (hm : mayP K F (mayB k s e i t c L bo.length) (bareB k s e i t c L bo) T O M P R = false) :
  Calls Tryd.prog 17 #[.agg #[.int .i64 K, .int .i64 F, .int .i64 k, .int .i64 s, .int .i64 e, .int .i64 i, .int .i64 t, .int .i64 c, .slice A8 L.length c8, .slice A9 bo.length c9, .int .i64 T, .int .i64 O, .int .i64 M, .int .i64 P, .slice A14 R.length c14]] w (fun e' w' => ∃ v0_ : Value, e' = .returned v0_ ∧ Kd.R (Kd.int .u8) 5 w' w.heap.size (fun _ => True) v0_ [] ∧ Below w.heap.size w w') := by
 obtain ⟨w0, hw0, hB0, hs0, X0⟩ := boxed15 w (.int .i64 K) (.int .i64 F) (.int .i64 k) (.int .i64 s) (.int .i64 e) (.int .i64 i) (.int .i64 t) (.int .i64 c) (.slice A8 L.length c8) (.slice A9 bo.length c9) (.int .i64 T) (.int .i64 O) (.int .i64 M) (.int .i64 P) (.slice A14 R.length c14)
 obtain ⟨⟨q0, q1, q2, q3, q4, q5, q6, q7, q8, q9, q10, q11, q12, q13, q14⟩, _⟩ := cells15 X0
 have HB0 := ak hB0
 have HMAY := Lib.hid (show Calls Tryd.prog 13 #[.agg #[.int .i64 K, .int .i64 F, .int .i64 k, .int .i64 s, .int .i64 e, .int .i64 i, .int .i64 t, .int .i64 c, .slice A8 L.length c8, .slice A9 bo.length c9, .int .i64 T, .int .i64 O, .int .i64 M, .int .i64 P, .slice A14 R.length c14]] w0 _ from pkt_May.calls 10000 K F k s e i t c A8 c8 L A9 c9 bo T O M P A14 c14 R false w0 (Kd.C_below h8 hB0) l8 (Kd.C_below h9 hB0) l9 (Kd.C_below h14 hB0) l14 (by rw [pmay_is _ _ _ _ _ _ _ _ _ _ _ _ _ _ _ hw hL hR, hm]))
 clear X0 hB0 h8 h9 h14 hL hR hm l8 l9 l14 hw hs0
 go_enter Tryd.func17, Tryd.ntmps17
 go_wp2_with fail
 refine HMAY.out.mono ?_
 rintro e1 w1 ⟨rfl, hb⟩
 have HBq := ak hb
 clear hb hw0
 go_wp2_with fail
 go_ret
 exact ⟨_, rfl, Kd.R_nil _ _ _ _ _, below_step HB0.out HBq.out⟩
theorem pkt_Bytes.calls (a0_0 a0_1 a0_2 a0_3 a0_4 a0_5 a0_6 a0_7 : Int) (A0_8 : Option Addr) (c0_8 : Nat) (l0_8 : List Int) (A0_9 : Option Addr) (c0_9 : Nat) (l0_9 : List Int) (a0_10 a0_11 a0_12 a0_13 : Int) (A0_14 : Option Addr) (c0_14 : Nat) (l0_14 : List Int) (r : List Int) (w : World) (hr0_8 : Kd.C (Kd.int .i64) w A0_8 l0_8.length l0_8) (hc0_8 : l0_8.length ≤ c0_8) (hr0_9 : Kd.C (Kd.int .u8) w A0_9 l0_9.length l0_9) (hc0_9 : l0_9.length ≤ c0_9) (hr0_14 : Kd.C (Kd.int .i64) w A0_14 l0_14.length l0_14) (hc0_14 : l0_14.length ≤ c0_14) (hG : GB w)
  (h : pkt_Bytes.f a0_0 a0_1 a0_2 a0_3 a0_4 a0_5 a0_6 a0_7 l0_8 l0_9 a0_10 a0_11 a0_12 a0_13 l0_14 = some r) :
  Calls Tryd.prog 17 #[.agg #[.int .i64 a0_0, .int .i64 a0_1, .int .i64 a0_2, .int .i64 a0_3, .int .i64 a0_4, .int .i64 a0_5, .int .i64 a0_6, .int .i64 a0_7, .slice A0_8 l0_8.length c0_8, .slice A0_9 l0_9.length c0_9, .int .i64 a0_10, .int .i64 a0_11, .int .i64 a0_12, .int .i64 a0_13, .slice A0_14 l0_14.length c0_14]] w fun e w' => ∃ v0_ : Value, e = .returned (v0_) ∧ Kd.R (Kd.int .u8) 5 w' w.heap.size (fun _ => True) v0_ r ∧ Below w.heap.size w w' := by
 unfold pkt_Bytes.f at h
 split at h
 ·
  rename_i hc
  have h := Option.some.inj h
  cases hm : mayP a0_0 a0_1 (mayB a0_2 a0_3 a0_4 a0_5 a0_6 a0_7 l0_8 l0_9.length) (bareB a0_2 a0_3 a0_4 a0_5 a0_6 a0_7 l0_8 l0_9) a0_10 a0_11 a0_12 a0_13 l0_14
  ·
   rw [hm, if_neg Bool.false_ne_true] at h
   subst h
   exact pkt_Bytes.no _ _ _ _ _ _ _ _ _ _ _ _ _ _ _ _ _ _ _ _ _ w hr0_8 hc0_8 hr0_9 hc0_9 hr0_14 hc0_14 hc.1 hc.2.1 hc.2.2.2 hm
  ·
   rw [hm, if_pos rfl] at h
   subst h
   exact pkt_Bytes.yes _ _ _ _ _ _ _ _ _ _ _ _ _ _ _ _ _ _ _ _ _ w hr0_8 hc0_8 hr0_9 hc0_9 hr0_14 hc0_14 hG hc.1 hc.2.1 hc.2.2.1 hc.2.2.2 hm
 ·
  cases h
end Go.Proofs.YtieolhhokepkjaaDoor.Print
