/- The packet that the document reads of bytes: each call of precentorref04.Read gives just what pkt.Read gives. Conditions stand in each theorem. -/
import Derived.Test.YtieolhhokepkjaaDoorPTa
namespace Go.Proofs.YtieolhhokepkjaaDoor.Print
set_option linter.unusedVariables false
set_option linter.unusedSimpArgs false
open Go.RowKit Go.Proofs.YtieolhhokepkjaaDoorW.PrintWords Go.Proofs.YtieolhhokepkjaaDoorW.PrintLast Go.Proofs.YtieolhhokepkjaaDoorW.PrintMore Go.Proofs.YtieolhhokepkjaaDoor.NumPlain Go.Proofs.YtieolhhokepkjaaDoor.Crc
/-- The packet's box, and the rows it holds. -/
structure RT4 (w1 : World) (g : Nat) (K F : Int) (p : PK) (B8 : Option Addr) (d8 : Nat) (B9 : Option Addr) (d9 : Nat) (B14 : Option Addr) (d14 : Nat) (W : World) : Prop where
 x : W.heap[g]? = some (.cells #[.int .i64 K, .int .i64 F, .int .i64 p.k, .int .i64 p.s, .int .i64 p.e, .int .i64 p.i, .int .i64 p.t, .int .i64 p.c, .slice B8 p.L.length d8, .slice B9 p.bo.length d9, .int .i64 p.T, .int .i64 p.O, .int .i64 p.M, .int .i64 p.P, .slice B14 p.R.length d14] 27 (0, 0))
 hg : w1.heap.size ≤ g
 r8 : Kd.R (Kd.int .i64) 3 W w1.heap.size (fun _ => True) (.slice B8 p.L.length d8) p.L
 r9 : Kd.R (Kd.int .u8) 5 W w1.heap.size (fun _ => True) (.slice B9 p.bo.length d9) p.bo
 r14 : Kd.R (Kd.int .i64) 3 W w1.heap.size (fun _ => True) (.slice B14 p.R.length d14) p.R
 hb : Below w1.heap.size w1 W
def RT4e (w1 : World) (g : Nat) (K F : Int) (p : PK) (W : World) : Prop := ∃ B8 d8 B9 d9 B14 d14, RT4 w1 g K F p B8 d8 B9 d9 B14 d14 W
theorem RT4.below {w1 W W1 : World} {g : Nat} {K F : Int} {p : PK} {B8 : Option Addr} {d8 : Nat} {B9 : Option Addr} {d9 : Nat} {B14 : Option Addr} {d14 : Nat} (h : RT4 w1 g K F p B8 d8 B9 d9 B14 d14 W) (hb : Below W.heap.size W W1) : RT4 w1 g K F p B8 d8 B9 d9 B14 d14 W1 :=
 ⟨blk_below h.x hb, h.hg, Kd.R_below h.r8 hb, Kd.R_below h.r9 hb, Kd.R_below h.r14 hb, below_step h.hb hb⟩
/-- The packet's box changes, and nothing else. -/
theorem RT4.mv {w1 W W1 : World} {g : Nat} {K F : Int} {p q : PK} {B8 : Option Addr} {d8 : Nat} {B9 : Option Addr} {d9 : Nat} {B14 : Option Addr} {d14 : Nat} {D8 : Option Addr} {e8 : Nat} {D9 : Option Addr} {e9 : Nat} {D14 : Option Addr} {e14 : Nat} (h : RT4 w1 g K F p B8 d8 B9 d9 B14 d14 W) (hm : Mv W W1 (fun k => k = g)) (hx : W1.heap[g]? = some (.cells #[.int .i64 K, .int .i64 F, .int .i64 q.k, .int .i64 q.s, .int .i64 q.e, .int .i64 q.i, .int .i64 q.t, .int .i64 q.c, .slice D8 q.L.length e8, .slice D9 q.bo.length e9, .int .i64 q.T, .int .i64 q.O, .int .i64 q.M, .int .i64 q.P, .slice D14 q.R.length e14] 27 (0, 0)))
  (r8 : Kd.R (Kd.int .i64) 3 W w1.heap.size (fun _ => True) (.slice D8 q.L.length e8) q.L) (r9 : Kd.R (Kd.int .u8) 5 W w1.heap.size (fun _ => True) (.slice D9 q.bo.length e9) q.bo) (r14 : Kd.R (Kd.int .i64) 3 W w1.heap.size (fun _ => True) (.slice D14 q.R.length e14) q.R) : RT4 w1 g K F q D8 e8 D9 e9 D14 e14 W1 :=
 ⟨hx, h.hg, Kd.R_mono (Kd.R_kept (Kd.R_types r8 h.x (by decide)) hm.kept (fun k hk he => hk.2 he)) (fun _ _ => trivial), Kd.R_mono (Kd.R_kept (Kd.R_types r9 h.x (by decide)) hm.kept (fun k hk he => hk.2 he)) (fun _ _ => trivial), Kd.R_mono (Kd.R_kept (Kd.R_types r14 h.x (by decide)) hm.kept (fun k hk he => hk.2 he)) (fun _ _ => trivial),
  Mv.to h.hb hm (fun k hk => by have := h.hg; omega) h.hb.size⟩
theorem RT4.put {w1 W : World} {g : Nat} {K F : Int} {p q : PK} {B8 : Option Addr} {d8 : Nat} {B9 : Option Addr} {d9 : Nat} {B14 : Option Addr} {d14 : Nat} {D8 : Option Addr} {e8 : Nat} {D9 : Option Addr} {e9 : Nat} {D14 : Option Addr} {e14 : Nat} (h : RT4 w1 g K F p B8 d8 B9 d9 B14 d14 W) (j : Nat) (v : Value) (hx : (#[.int .i64 K, .int .i64 F, .int .i64 p.k, .int .i64 p.s, .int .i64 p.e, .int .i64 p.i, .int .i64 p.t, .int .i64 p.c, .slice B8 p.L.length d8, .slice B9 p.bo.length d9, .int .i64 p.T, .int .i64 p.O, .int .i64 p.M, .int .i64 p.P, .slice B14 p.R.length d14] : Array Value).setIfInBounds j v = #[.int .i64 K, .int .i64 F, .int .i64 q.k, .int .i64 q.s, .int .i64 q.e, .int .i64 q.i, .int .i64 q.t, .int .i64 q.c, .slice D8 q.L.length e8, .slice D9 q.bo.length e9, .int .i64 q.T, .int .i64 q.O, .int .i64 q.M, .int .i64 q.P, .slice D14 q.R.length e14])
  (r8 : Kd.R (Kd.int .i64) 3 W w1.heap.size (fun _ => True) (.slice D8 q.L.length e8) q.L) (r9 : Kd.R (Kd.int .u8) 5 W w1.heap.size (fun _ => True) (.slice D9 q.bo.length e9) q.bo) (r14 : Kd.R (Kd.int .i64) 3 W w1.heap.size (fun _ => True) (.slice D14 q.R.length e14) q.R) : RT4 w1 g K F q D8 e8 D9 e9 D14 e14 (W.setCell ⟨g, j, none⟩ v) :=
 have hk0 : Mv W W (fun k => k = g) := Mv.below (Below.refl _ W) _
 h.mv (hk0.setCell (p := ⟨g, j, none⟩) (Or.inl rfl) v) (blk_put h.x j v hx) r8 r9 r14
theorem RT4.item {w1 W : World} {g : Nat} {K F : Int} {p : PK} {B8 : Option Addr} {d8 : Nat} {B9 : Option Addr} {d9 : Nat} {B14 : Option Addr} {d14 : Nat} {D8 : Option Addr} {e8 : Nat} {D9 : Option Addr} {e9 : Nat} (h : RT4 w1 g K F p B8 d8 B9 d9 B14 d14 W) (k s e i t c : Int) (L bo : List Int) (r8 : Kd.R (Kd.int .i64) 3 W w1.heap.size (fun _ => True) (.slice D8 L.length e8) L) (r9 : Kd.R (Kd.int .u8) 5 W w1.heap.size (fun _ => True) (.slice D9 bo.length e9) bo) :
  ∃ W' : World, ((((((((W.setCell ⟨g, 2, none⟩ (.int .i64 k)).setCell ⟨g, 3, none⟩ (.int .i64 s)).setCell ⟨g, 4, none⟩ (.int .i64 e)).setCell ⟨g, 5, none⟩ (.int .i64 i)).setCell ⟨g, 6, none⟩ (.int .i64 t)).setCell ⟨g, 7, none⟩ (.int .i64 c)).setCell ⟨g, 8, none⟩ (.slice D8 L.length e8)).setCell ⟨g, 9, none⟩ (.slice D9 bo.length e9)) = W' ∧ RT4 w1 g K F ⟨k, s, e, i, t, c, L, bo, p.T, p.O, p.M, p.P, p.R⟩ D8 e8 D9 e9 B14 d14 W' := by
 have hk0 : Mv W W (fun k => k = g) := Mv.below (Below.refl _ W) _
 have h0 := blk_put h.x 2 (.int .i64 k) (cs' := #[.int .i64 K, .int .i64 F, .int .i64 k, .int .i64 p.s, .int .i64 p.e, .int .i64 p.i, .int .i64 p.t, .int .i64 p.c, .slice B8 p.L.length d8, .slice B9 p.bo.length d9, .int .i64 p.T, .int .i64 p.O, .int .i64 p.M, .int .i64 p.P, .slice B14 p.R.length d14]) rfl
 have m0 := hk0.setCell (p := ⟨g, 2, none⟩) (Or.inl rfl) (.int .i64 k)
 have h1 := blk_put h0 3 (.int .i64 s) (cs' := #[.int .i64 K, .int .i64 F, .int .i64 k, .int .i64 s, .int .i64 p.e, .int .i64 p.i, .int .i64 p.t, .int .i64 p.c, .slice B8 p.L.length d8, .slice B9 p.bo.length d9, .int .i64 p.T, .int .i64 p.O, .int .i64 p.M, .int .i64 p.P, .slice B14 p.R.length d14]) rfl
 have m1 := m0.setCell (p := ⟨g, 3, none⟩) (Or.inl rfl) (.int .i64 s)
 have h2 := blk_put h1 4 (.int .i64 e) (cs' := #[.int .i64 K, .int .i64 F, .int .i64 k, .int .i64 s, .int .i64 e, .int .i64 p.i, .int .i64 p.t, .int .i64 p.c, .slice B8 p.L.length d8, .slice B9 p.bo.length d9, .int .i64 p.T, .int .i64 p.O, .int .i64 p.M, .int .i64 p.P, .slice B14 p.R.length d14]) rfl
 have m2 := m1.setCell (p := ⟨g, 4, none⟩) (Or.inl rfl) (.int .i64 e)
 have h3 := blk_put h2 5 (.int .i64 i) (cs' := #[.int .i64 K, .int .i64 F, .int .i64 k, .int .i64 s, .int .i64 e, .int .i64 i, .int .i64 p.t, .int .i64 p.c, .slice B8 p.L.length d8, .slice B9 p.bo.length d9, .int .i64 p.T, .int .i64 p.O, .int .i64 p.M, .int .i64 p.P, .slice B14 p.R.length d14]) rfl
 have m3 := m2.setCell (p := ⟨g, 5, none⟩) (Or.inl rfl) (.int .i64 i)
 have h4 := blk_put h3 6 (.int .i64 t) (cs' := #[.int .i64 K, .int .i64 F, .int .i64 k, .int .i64 s, .int .i64 e, .int .i64 i, .int .i64 t, .int .i64 p.c, .slice B8 p.L.length d8, .slice B9 p.bo.length d9, .int .i64 p.T, .int .i64 p.O, .int .i64 p.M, .int .i64 p.P, .slice B14 p.R.length d14]) rfl
 have m4 := m3.setCell (p := ⟨g, 6, none⟩) (Or.inl rfl) (.int .i64 t)
 have h5 := blk_put h4 7 (.int .i64 c) (cs' := #[.int .i64 K, .int .i64 F, .int .i64 k, .int .i64 s, .int .i64 e, .int .i64 i, .int .i64 t, .int .i64 c, .slice B8 p.L.length d8, .slice B9 p.bo.length d9, .int .i64 p.T, .int .i64 p.O, .int .i64 p.M, .int .i64 p.P, .slice B14 p.R.length d14]) rfl
 have m5 := m4.setCell (p := ⟨g, 7, none⟩) (Or.inl rfl) (.int .i64 c)
 have h6 := blk_put h5 8 (.slice D8 L.length e8) (cs' := #[.int .i64 K, .int .i64 F, .int .i64 k, .int .i64 s, .int .i64 e, .int .i64 i, .int .i64 t, .int .i64 c, .slice D8 L.length e8, .slice B9 p.bo.length d9, .int .i64 p.T, .int .i64 p.O, .int .i64 p.M, .int .i64 p.P, .slice B14 p.R.length d14]) rfl
 have m6 := m5.setCell (p := ⟨g, 8, none⟩) (Or.inl rfl) (.slice D8 L.length e8)
 have h7 := blk_put h6 9 (.slice D9 bo.length e9) (cs' := #[.int .i64 K, .int .i64 F, .int .i64 k, .int .i64 s, .int .i64 e, .int .i64 i, .int .i64 t, .int .i64 c, .slice D8 L.length e8, .slice D9 bo.length e9, .int .i64 p.T, .int .i64 p.O, .int .i64 p.M, .int .i64 p.P, .slice B14 p.R.length d14]) rfl
 have m7 := m6.setCell (p := ⟨g, 9, none⟩) (Or.inl rfl) (.slice D9 bo.length e9)
 exact ⟨_, rfl, h.mv m7 h7 r8 r9 h.r14⟩
theorem boxed8 (w : World) : ∃ w0 : World, w.alloc (Obj.cells #[.int .i64 0, .int .i64 0, .int .i64 0, .int .i64 0, .int .i64 0, .int .i64 0, .slice none 0 0, .slice none 0 0] 25) = w0 ∧ Below w.heap.size w w0 ∧ w0.heap[w.heap.size]? = some (.cells #[.int .i64 0, .int .i64 0, .int .i64 0, .int .i64 0, .int .i64 0, .int .i64 0, .slice none 0 0, .slice none 0 0] 25 (0, 0)) :=
 ⟨_, rfl, below_alloc (Below.refl _ _) _, blk_new w _⟩
theorem PRead.some_ {w w1 W W' : World} {g : Nat} {K F : Int} {p : PK} {B8 : Option Addr} {d8 : Nat} {B9 : Option Addr} {d9 : Nat} {B14 : Option Addr} {d14 : Nat} (h : RT4 w1 g K F p B8 d8 B9 d9 B14 d14 W) (hs : w.heap.size ≤ w1.heap.size) {o : Array Value} (hx : W.heap[w.heap.size]? = some (.cells o 27 (0, 0))) (hm : Mv W W' (fun k => k = w.heap.size)) (hB : Below w.heap.size w W') :
  PRead w (tell16 (some (K, F, p)) 0) (.returned (.tuple #[.agg #[.int .i64 K, .int .i64 F, .int .i64 p.k, .int .i64 p.s, .int .i64 p.e, .int .i64 p.i, .int .i64 p.t, .int .i64 p.c, .slice B8 p.L.length d8, .slice B9 p.bo.length d9, .int .i64 p.T, .int .i64 p.O, .int .i64 p.M, .int .i64 p.P, .slice B14 p.R.length d14], .int .i64 0])) W' :=
 ⟨_, _, _, rfl, Kd.R_mono (Kd.R_kept (Kd.R_types (Kd.R_lower h.r8 hs) hx (by decide)) hm.kept (fun k hk he => hk.2 he)) (fun _ _ => trivial), Kd.R_mono (Kd.R_kept (Kd.R_types (Kd.R_lower h.r9 hs) hx (by decide)) hm.kept (fun k hk he => hk.2 he)) (fun _ _ => trivial), Kd.R_mono (Kd.R_kept (Kd.R_types (Kd.R_lower h.r14 hs) hx (by decide)) hm.kept (fun k hk he => hk.2 he)) (fun _ _ => trivial), hB⟩
set_option maxRecDepth 100000 in
set_option maxHeartbeats 4000000 in
theorem precentorref04_Read.bad (A0 : Option Addr) (c0 : Nat) (l0 : List Int) (w : World) (hr0 : Kd.C (Kd.int .u8) w A0 l0.length l0) (hc0 : l0.length ≤ c0) (hb : By l0) (hl : l0.length < 5000) (ho : (openS l0).2 ≠ 0) : Calls Tryd.prog 12 #[.slice A0 l0.length c0] w (PRead w (tell16 none (openS l0).2)) := by
 obtain ⟨w0, hw0, hB0, hs0, X0⟩ := boxed15 w (.int .i64 0) (.int .i64 0) (.int .i64 0) (.int .i64 0) (.int .i64 0) (.int .i64 0) (.int .i64 0) (.int .i64 0) (.slice none 0 0) (.slice none 0 0) (.int .i64 0) (.int .i64 0) (.int .i64 0) (.int .i64 0) (.slice none 0 0)
 have HB := ak hB0
 have HX := ak X0
 have HL := Lib.hid hl
 have HY := Lib.hid hb
 have hop := open_by hb
 have HR0 := ak (Kd.C_below hr0 hB0)
 have HC0 := Lib.hid hc0
 obtain ⟨cc, eo, hco⟩ : ∃ c e, openS l0 = (c, e) := ⟨_, _, rfl⟩
 rw [hco] at hop
 have HOP := Lib.hid hop
 have HCT := Lib.hid (show Calls Tryd.prog 25 #[.slice A0 l0.length c0] w0 _ from precentorref01_Open.calls (10 * l0.length + 1) A0 c0 l0 cc eo w0 HR0.out hc0 (by rw [CrcPlain.ref_open (byt_by hb) (by omega) (Nat.le_refl _), open_is (by omega), hco]))
 clear hr0 hc0 hb hl hB0 hs0 X0 hop
 rw [hco] at ho ⊢
 have he : (eo == 0) = false := beq_eq_false_iff_ne.2 ho
 have he2 : (eo != 0) = true := bne_iff_ne.2 ho
 clear ho hco
 go_enter Tryd.func12, Tryd.ntmps12
 go_wp2_with fail
 refine HCT.out.mono ?_
 rintro e_ w1 ⟨v1, rfl, hr, hb⟩
 obtain ⟨A1, c1, rfl, hc1, hC1⟩ := Kd.R_reads hr
 have n0_ := ak (below_step HB.out hb)
 have n1_ := ak (blk_below HX.out hb)
 have n2_ := ak (Kd.C_below HR0.out hb)
 have HS := Lib.hid (show w.heap.size < w1.heap.size from Nat.lt_of_lt_of_le (by rw [← hw0]; simp) hb.size)
 clear HB HX HR0 HCT hb hr hw0
 have HB := n0_
 have HX := n1_
 have HR0 := n2_
 clear n0_ n1_ n2_
 clear hc1 hC1
 obtain ⟨⟨q0, q1, q2, q3, q4, q5, q6, q7, q8, q9, q10, q11, q12, q13, q14⟩, ⟨f0, f1, f2, f3, f4, f5, f6, f7, f8, f9, f10, f11, f12, f13, f14⟩⟩ := cells15 HX.out
 go_wp2_with fail
 clear q0 f0 q1 f1 q2 f2 q3 f3 q4 f4 q5 f5 q6 f6 q7 f7 q8 f8 q9 f9 q10 f10 q11 f11 q12 f12 q13 f13 q14 f14
 obtain ⟨W', hW', x4, hmv⟩ := box15 HX.out (.int .i64 0) (.int .i64 0) (.int .i64 0) (.int .i64 0) (.int .i64 0) (.int .i64 0) (.int .i64 0) (.int .i64 0) (.slice none 0 0) (.slice none 0 0) (.int .i64 0) (.int .i64 0) (.int .i64 0) (.int .i64 0) (.slice none 0 0)
 rw [hW']
 clear hW'
 have hB' : Below w.heap.size w W' := Mv.to HB.out hmv (fun k hk => by omega) (Below.size HB.out)
 obtain ⟨⟨y0, y1, y2, y3, y4, y5, y6, y7, y8, y9, y10, y11, y12, y13, y14⟩, _⟩ := cells15 x4
 exact bodyPost_ret (v := .tuple #[.agg #[.int .i64 0, .int .i64 0, .int .i64 0, .int .i64 0, .int .i64 0, .int .i64 0, .int .i64 0, .int .i64 0, .slice none 0 0, .slice none 0 0, .int .i64 0, .int .i64 0, .int .i64 0, .int .i64 0, .slice none 0 0], .int .i64 eo]) (by simp [results, Tryd.results12, go_sem, y0, y1, y2, y3, y4, y5, y6, y7, y8, y9, y10, y11, y12, y13, y14]) rfl (PRead.none_ _ hB')
set_option maxRecDepth 100000 in
set_option maxHeartbeats 4000000 in
theorem precentorref04_Read.short (A0 : Option Addr) (c0 : Nat) (l0 : List Int) (w : World) (hr0 : Kd.C (Kd.int .u8) w A0 l0.length l0) (hc0 : l0.length ≤ c0) (hb : By l0) (hl : l0.length < 5000) (ho : (openS l0).2 = 0) (h3 : (openS l0).1.length < 3) : Calls Tryd.prog 12 #[.slice A0 l0.length c0] w (PRead w (tell16 none 2)) := by
 obtain ⟨w0, hw0, hB0, hs0, X0⟩ := boxed15 w (.int .i64 0) (.int .i64 0) (.int .i64 0) (.int .i64 0) (.int .i64 0) (.int .i64 0) (.int .i64 0) (.int .i64 0) (.slice none 0 0) (.slice none 0 0) (.int .i64 0) (.int .i64 0) (.int .i64 0) (.int .i64 0) (.slice none 0 0)
 have HB := ak hB0
 have HX := ak X0
 have HL := Lib.hid hl
 have HY := Lib.hid hb
 have hop := open_by hb
 have HR0 := ak (Kd.C_below hr0 hB0)
 have HC0 := Lib.hid hc0
 obtain ⟨cc, eo, hco⟩ : ∃ c e, openS l0 = (c, e) := ⟨_, _, rfl⟩
 rw [hco] at hop
 have HOP := Lib.hid hop
 have HCT := Lib.hid (show Calls Tryd.prog 25 #[.slice A0 l0.length c0] w0 _ from precentorref01_Open.calls (10 * l0.length + 1) A0 c0 l0 cc eo w0 HR0.out hc0 (by rw [CrcPlain.ref_open (byt_by hb) (by omega) (Nat.le_refl _), open_is (by omega), hco]))
 clear hr0 hc0 hb hl hB0 hs0 X0 hop
 rw [hco] at ho h3
 obtain rfl : eo = 0 := ho
 have h3 : cc.length < 3 := h3
 clear hco
 go_enter Tryd.func12, Tryd.ntmps12
 go_wp2_with fail
 refine HCT.out.mono ?_
 rintro e_ w1 ⟨v1, rfl, hr, hb⟩
 obtain ⟨A1, c1, rfl, hc1, hC1⟩ := Kd.R_reads hr
 have n0_ := ak (below_step HB.out hb)
 have n1_ := ak (blk_below HX.out hb)
 have n2_ := ak (Kd.C_below HR0.out hb)
 have HS := Lib.hid (show w.heap.size < w1.heap.size from Nat.lt_of_lt_of_le (by rw [← hw0]; simp) hb.size)
 clear HB HX HR0 HCT hb hr hw0
 have HB := n0_
 have HX := n1_
 have HR0 := n2_
 clear n0_ n1_ n2_
 have a1 : decide ((cc.length : Int) < 3) = true := decide_eq_true (by omega)
 have a2 : decide (cc.length < 3) = true := decide_eq_true h3
 clear hc1 hC1 h3
 obtain ⟨⟨q0, q1, q2, q3, q4, q5, q6, q7, q8, q9, q10, q11, q12, q13, q14⟩, ⟨f0, f1, f2, f3, f4, f5, f6, f7, f8, f9, f10, f11, f12, f13, f14⟩⟩ := cells15 HX.out
 go_wp2_with fail
 clear q0 f0 q1 f1 q2 f2 q3 f3 q4 f4 q5 f5 q6 f6 q7 f7 q8 f8 q9 f9 q10 f10 q11 f11 q12 f12 q13 f13 q14 f14
 obtain ⟨W', hW', x4, hmv⟩ := box15 HX.out (.int .i64 0) (.int .i64 0) (.int .i64 0) (.int .i64 0) (.int .i64 0) (.int .i64 0) (.int .i64 0) (.int .i64 0) (.slice none 0 0) (.slice none 0 0) (.int .i64 0) (.int .i64 0) (.int .i64 0) (.int .i64 0) (.slice none 0 0)
 rw [hW']
 clear hW'
 have hB' : Below w.heap.size w W' := Mv.to HB.out hmv (fun k hk => by omega) (Below.size HB.out)
 obtain ⟨⟨y0, y1, y2, y3, y4, y5, y6, y7, y8, y9, y10, y11, y12, y13, y14⟩, _⟩ := cells15 x4
 exact bodyPost_ret (v := .tuple #[.agg #[.int .i64 0, .int .i64 0, .int .i64 0, .int .i64 0, .int .i64 0, .int .i64 0, .int .i64 0, .int .i64 0, .slice none 0 0, .slice none 0 0, .int .i64 0, .int .i64 0, .int .i64 0, .int .i64 0, .slice none 0 0], .int .i64 2]) (by simp [results, Tryd.results12, go_sem, y0, y1, y2, y3, y4, y5, y6, y7, y8, y9, y10, y11, y12, y13, y14]) rfl (PRead.none_ _ hB')
def sndT_ : Code → Code
 | .seq _ b => b
 | c => c
set_option maxRecDepth 100000 in
set_option maxHeartbeats 40000000 in
theorem precentorref04_Read.tail (A0 : Option Addr) (c0 : Nat) (l0 : List Int) (w w1 W : World) (cc : List Int) (g6 : Nat) (kd fr : Int) (p3 : PK) (B8 : Option Addr) (d8 : Nat) (B9 : Option Addr) (d9 : Nat) (B14 : Option Addr) (d14 : Nat) (x1 x4 x5 x7 x8 x9 x10 x11 x12 x13 x14 x15 x16 x17 x18 x19 x20 x21 x22 x23 x24 x25 x26 x27 x28 x29 x30 x31 x32 x33 x34 x35 x36 x37 x38 x39 x40 x41 x42 x43 x44 x45 x46 x47 x48 x49 x50 x51 x52 x53 x54 x55 x56 x57 x58 x59 x60 x61 x62 x63 x64 x65 x66 x67 x68 x69 x70 x71 x72 x73 x74 x75 x76 x77 x78 x79 x80 x81 x82 x83 x84 x85 x86 x87 x88 x89 x90 x91 x92 x93 x94 x95 x96 x97 x98 x99 x100 x101 x102 x103 x104 x105 x106 x107 x108 x109 x110 x111 x112 x113 x114 x115 x116 x117 x118 x119 x120 x121 x122 x123 x124 x125 x126 x127 x128 : Value)
  (hB : Below w.heap.size w w1) (hX : w1.heap[w.heap.size]? = some (.cells #[.int .i64 0, .int .i64 0, .int .i64 0, .int .i64 0, .int .i64 0, .int .i64 0, .int .i64 0, .int .i64 0, .slice none 0 0, .slice none 0 0, .int .i64 0, .int .i64 0, .int .i64 0, .int .i64 0, .slice none 0 0] 27 (0, 0))) (hS : w.heap.size < w1.heap.size) (hR0 : Kd.C (Kd.int .u8) w1 A0 l0.length l0) (hY : By l0)
  (hd : refC l0 cc = if mayP kd fr (mayB p3.k p3.s p3.e p3.i p3.t p3.c p3.L p3.bo.length) (bareB p3.k p3.s p3.e p3.i p3.t p3.c p3.L p3.bo) p3.T p3.O p3.M p3.P p3.R = true ∧ sealP kd fr p3.k p3.s p3.e p3.i p3.t p3.c p3.L p3.bo p3.T p3.O p3.M p3.P p3.R = l0 then tell16 (some (kd, fr, p3)) 0 else tell16 none 2) (hsz : p3.L.length < 10000 ∧ (p3.bo.length < 100000000 ∧ By p3.bo) ∧ p3.R.length < 10000) (hrt : RT4 w1 g6 kd fr p3 B8 d8 B9 d9 B14 d14 W) (ff : Func) (hff : ff = Tryd.f12) :
  Code.wp Tryd.prog (sndT_ (sndT_ (sndT_ (sndT_ (sndT_ (sndT_ (sndT_ (sndT_ (sndT_ (Tryd.f12.body.getD .skip)))))))))) (bodyPost Tryd.prog ff (PRead w (refC l0 cc))) { tmps := #[.slice A0 l0.length c0, x1, .pointer (some ⟨w.heap.size, 0, none⟩), .int .i64 0, x4, x5, .pointer (some ⟨g6, 0, none⟩), x7, x8, x9, x10, x11, x12, x13, x14, x15, x16, x17, x18, x19, x20, x21, x22, x23, x24, x25, x26, x27, x28, x29, x30, x31, x32, x33, x34, x35, x36, x37, x38, x39, x40, x41, x42, x43, x44, x45, x46, x47, x48, x49, x50, x51, x52, x53, x54, x55, x56, x57, x58, x59, x60, x61, x62, x63, x64, x65, x66, x67, x68, x69, x70, x71, x72, x73, x74, x75, x76, x77, x78, x79, x80, x81, x82, x83, x84, x85, x86, x87, x88, x89, x90, x91, x92, x93, x94, x95, x96, x97, x98, x99, x100, x101, x102, x103, x104, x105, x106, x107, x108, x109, x110, x111, x112, x113, x114, x115, x116, x117, x118, x119, x120, x121, x122, x123, x124, x125, x126, x127, x128], defers := [] } W := by
 have HB := ak hB
 have HX := ak hX
 have HS := Lib.hid hS
 have HR0 := ak hR0
 have HY := Lib.hid hY
 have HD2 := Lib.hid hd
 have HSZ := Lib.hid hsz
 have HRT := ak hrt
 clear hB hX hS hR0 hY hd hsz hrt
 have HQQ := Lib.hid hff
 clear hff
 dsimp only [Tryd.f12, Option.getD_some, sndT_]
 obtain ⟨y, hy⟩ : ∃ y, mayP kd fr (mayB p3.k p3.s p3.e p3.i p3.t p3.c p3.L p3.bo.length) (bareB p3.k p3.s p3.e p3.i p3.t p3.c p3.L p3.bo) p3.T p3.O p3.M p3.P p3.R = y := ⟨_, rfl⟩
 have HMY := Lib.hid hy
 rw [hy] at HD2
 obtain ⟨A8, e8, s8, l8, C8⟩ := Kd.R_reads HRT.out.r8
 obtain ⟨A9, e9, s9, l9, C9⟩ := Kd.R_reads HRT.out.r9
 obtain ⟨A14, e14, s14, l14, C14⟩ := Kd.R_reads HRT.out.r14
 obtain ⟨rfl, _, rfl⟩ := Value.slice.inj s8
 obtain ⟨rfl, _, rfl⟩ := Value.slice.inj s9
 obtain ⟨rfl, _, rfl⟩ := Value.slice.inj s14
 have HCT := Lib.hid (show Calls Tryd.prog 14 #[.agg #[.int .i64 kd, .int .i64 fr, .int .i64 p3.k, .int .i64 p3.s, .int .i64 p3.e, .int .i64 p3.i, .int .i64 p3.t, .int .i64 p3.c, .slice B8 p3.L.length d8, .slice B9 p3.bo.length d9, .int .i64 p3.T, .int .i64 p3.O, .int .i64 p3.M, .int .i64 p3.P, .slice B14 p3.R.length d14]] W _ from precentorref04_May.calls 10010 kd fr p3.k p3.s p3.e p3.i p3.t p3.c B8 d8 p3.L B9 d9 p3.bo p3.T p3.O p3.M p3.P B14 d14 p3.R y W C8 l8 C9 l9 C14 l14 ((rmayP_is _ _ _ _ _ _ _ _ _ _ _ _ _ _ _ HSZ.out.1 HSZ.out.2.2 _ (Nat.le_refl _)).trans (by rw [hy])))
 clear hy s8 s9 s14 l8 l9 l14 C8 C9 C14
 obtain ⟨⟨q0, q1, q2, q3, q4, q5, q6, q7, q8, q9, q10, q11, q12, q13, q14⟩, ⟨f0, f1, f2, f3, f4, f5, f6, f7, f8, f9, f10, f11, f12, f13, f14⟩⟩ := cells15 HRT.out.x
 go_wp2_with fail
 refine HCT.out.mono ?_
 rintro e_ w5 ⟨rfl, hb5⟩
 have hn := HRT.out.below hb5
 clear HRT HCT
 have HRT := ak hn
 clear hb5 hn
 clear q0 f0 q1 f1 q2 f2 q3 f3 q4 f4 q5 f5 q6 f6 q7 f7 q8 f8 q9 f9 q10 f10 q11 f11 q12 f12 q13 f13 q14 f14
 go_upto_region 22 with fail
 rename_i K1 h1
 have HKK := Lib.hid h1
 clear h1
 cases y
 ·
  have HD3_ := Lib.hid (show refC l0 cc = tell16 none 2 by rw [HD2.out, if_neg (fun h => Bool.false_ne_true h.1)])
  refine start_ (n := 10) (S := fun w' => True) (ds := []) #[false, false, false, false, false, false, false, false, false, false] (by kernel_rfl) rfl rfl (trivial) (fun hHeld => ?_)
  have hn := HRT.out.below (below_drew1 (Below.refl _ _))
  clear HRT
  have HRT := ak hn
  clear hn
  generalize hw6_ : w5.drew = w6 at *
  clear hw6_
  refine pure_ (i := 0) (N := some 117) (v := ?_) (a' := ?_) #[true, false, false, false, false, false, false, false, false, false] rfl rfl (by kernel_rfl) (fun _ _ _ h => h) (Or.inl ⟨by rfl, ?_⟩) ?_ ?_
  rotate_left
  ·
   intro w'
   go_simp
   with_reducible rfl
  rotate_left
  ·
   simp only [Act.put, sq1, sq2, sq3, i64_w, i32_w]
   rfl
  refine pure_ (i := 1) (N := some 118) (v := ?_) (a' := ?_) #[true, true, false, false, false, false, false, false, false, false] rfl rfl (by kernel_rfl) (fun _ _ _ h => h) (Or.inl ⟨by rfl, ?_⟩) ?_ ?_
  rotate_left
  ·
   intro w'
   go_simp
   with_reducible rfl
  rotate_left
  ·
   simp only [Act.put, sq1, sq2, sq3, i64_w, i32_w]
   rfl
  refine pure_ (i := 2) (N := some 119) (v := ?_) (a' := ?_) #[true, true, true, false, false, false, false, false, false, false] rfl rfl (by kernel_rfl) (fun _ _ _ h => h) (Or.inl ⟨by rfl, ?_⟩) ?_ ?_
  rotate_left
  ·
   intro w'
   go_simp
   with_reducible rfl
  rotate_left
  ·
   simp only [Act.put, sq1, sq2, sq3, i64_w, i32_w]
   rfl
  refine pure_ (i := 3) (N := some 120) (v := undef) (a' := ?_) #[true, true, true, true, false, false, false, false, false, false] rfl rfl (by kernel_rfl) (fun _ _ _ h => h) (Or.inr ⟨by rfl, rfl⟩) ?_ ?_
  rotate_left
  ·
   simp only [Act.put, sq1, sq2, sq3, i64_w, i32_w]
   rfl
  refine pure_ (i := 4) (N := some 121) (v := undef) (a' := ?_) #[true, true, true, true, true, false, false, false, false, false] rfl rfl (by kernel_rfl) (fun _ _ _ h => h) (Or.inr ⟨by rfl, rfl⟩) ?_ ?_
  rotate_left
  ·
   simp only [Act.put, sq1, sq2, sq3, i64_w, i32_w]
   rfl
  refine pure_ (i := 5) (N := some 122) (v := undef) (a' := ?_) #[true, true, true, true, true, true, false, false, false, false] rfl rfl (by kernel_rfl) (fun _ _ _ h => h) (Or.inr ⟨by rfl, rfl⟩) ?_ ?_
  rotate_left
  ·
   simp only [Act.put, sq1, sq2, sq3, i64_w, i32_w]
   rfl
  refine pure_ (i := 6) (N := some 123) (v := undef) (a' := ?_) #[true, true, true, true, true, true, true, false, false, false] rfl rfl (by kernel_rfl) (fun _ _ _ h => h) (Or.inr ⟨by rfl, rfl⟩) ?_ ?_
  rotate_left
  ·
   simp only [Act.put, sq1, sq2, sq3, i64_w, i32_w]
   rfl
  refine pure_ (i := 7) (N := some 124) (v := undef) (a' := ?_) #[true, true, true, true, true, true, true, true, false, false] rfl rfl (by kernel_rfl) (fun _ _ _ h => h) (Or.inr ⟨by rfl, rfl⟩) ?_ ?_
  rotate_left
  ·
   simp only [Act.put, sq1, sq2, sq3, i64_w, i32_w]
   rfl
  refine pure_ (i := 8) (N := some 125) (v := undef) (a' := ?_) #[true, true, true, true, true, true, true, true, true, false] rfl rfl (by kernel_rfl) (fun _ _ _ h => h) (Or.inr ⟨by rfl, rfl⟩) ?_ ?_
  rotate_left
  ·
   simp only [Act.put, sq1, sq2, sq3, i64_w, i32_w]
   rfl
  refine pure_ (i := 9) (N := some 126) (v := ?_) (a' := ?_) #[true, true, true, true, true, true, true, true, true, true] rfl rfl (by kernel_rfl) (fun _ _ _ h => h) (Or.inl ⟨by rfl, ?_⟩) ?_ ?_
  rotate_left
  ·
   intro w'
   go_simp
   with_reducible rfl
  rotate_left
  ·
   simp only [Act.put, sq1, sq2, sq3, i64_w, i32_w]
   rfl
  refine done_ (by kernel_rfl) ?_
  clear hHeld
  refine HKK.out _ _ ?_
  clear HKK
  obtain ⟨⟨z0, z1, z2, z3, z4, z5, z6, z7, z8, z9, z10, z11, z12, z13, z14⟩, ⟨g0, g1, g2, g3, g4, g5, g6, g7, g8, g9, g10, g11, g12, g13, g14⟩⟩ := cells15 (blk_below HX.out HRT.out.hb)
  go_upto_region 23 with fail
  rename_i K2 h2
  have HKK := Lib.hid h2
  clear h2
  go_wp2_with fail
  refine HKK.out _ _ ?_
  clear HKK
  clear z0 g0 z1 g1 z2 g2 z3 g3 z4 g4 z5 g5 z6 g6 z7 g7 z8 g8 z9 g9 z10 g10 z11 g11 z12 g12 z13 g13 z14 g14
  obtain ⟨W', hW', x4, hmv⟩ := box15 (blk_below HX.out HRT.out.hb) (.int .i64 0) (.int .i64 0) (.int .i64 0) (.int .i64 0) (.int .i64 0) (.int .i64 0) (.int .i64 0) (.int .i64 0) (.slice none 0 0) (.slice none 0 0) (.int .i64 0) (.int .i64 0) (.int .i64 0) (.int .i64 0) (.slice none 0 0)
  rw [hW']
  clear hW'
  have hB' : Below w.heap.size w W' := Mv.to (below_step HB.out HRT.out.hb) hmv (fun k hk => by omega) (Below.size (below_step HB.out HRT.out.hb))
  obtain ⟨⟨y0, y1, y2, y3, y4, y5, y6, y7, y8, y9, y10, y11, y12, y13, y14⟩, _⟩ := cells15 x4
  refine wp_ret ?_
  have hff := HQQ.out
  subst hff
  change bodyPost _ _ (PRead w (refC l0 cc)) Exit.ret _ _
  exact bodyPost_ret (v := .tuple #[.agg #[.int .i64 0, .int .i64 0, .int .i64 0, .int .i64 0, .int .i64 0, .int .i64 0, .int .i64 0, .int .i64 0, .slice none 0 0, .slice none 0 0, .int .i64 0, .int .i64 0, .int .i64 0, .int .i64 0, .slice none 0 0], .int .i64 2]) (by simp [results, Tryd.results12, go_sem, y0, y1, y2, y3, y4, y5, y6, y7, y8, y9, y10, y11, y12, y13, y14]) rfl (by rw [HD3_.out]; exact PRead.none_ _ hB')
 ·
  obtain ⟨bb, hbb⟩ : ∃ bb, sealP kd fr p3.k p3.s p3.e p3.i p3.t p3.c p3.L p3.bo p3.T p3.O p3.M p3.P p3.R = bb := ⟨_, rfl⟩
  have hd := HD2.out
  rw [hbb] at hd
  have HD5 := Lib.hid hd
  have HBB := Lib.hid hbb
  clear hd HD2
  have hby : By bb := by rw [← hbb]; exact sealP_by HSZ.out.2.1.2
  obtain ⟨z, hz⟩ : ∃ z, ((strOfNums bb).toList == (strOfNums l0).toList) = z := ⟨_, rfl⟩
  have hzz : z = true ↔ bb = l0 := by rw [← hz, beq_iff_eq]; exact CrcPlain.str_eq (byt_by hby) (byt_by HY.out)
  have HZ := Lib.hid hzz
  clear hzz hby hbb
  skip
  obtain ⟨⟨q0, q1, q2, q3, q4, q5, q6, q7, q8, q9, q10, q11, q12, q13, q14⟩, ⟨f0, f1, f2, f3, f4, f5, f6, f7, f8, f9, f10, f11, f12, f13, f14⟩⟩ := cells15 HRT.out.x
  refine start_ (n := 10) (S := fun w' => w'.cell? ⟨g6, 0, none⟩ = some (.int .i64 kd) ∧ w'.cell? ⟨g6, 1, none⟩ = some (.int .i64 fr) ∧ w'.cell? ⟨g6, 2, none⟩ = some (.int .i64 p3.k) ∧ w'.cell? ⟨g6, 3, none⟩ = some (.int .i64 p3.s) ∧ w'.cell? ⟨g6, 4, none⟩ = some (.int .i64 p3.e) ∧ w'.cell? ⟨g6, 5, none⟩ = some (.int .i64 p3.i) ∧ w'.cell? ⟨g6, 6, none⟩ = some (.int .i64 p3.t) ∧ w'.cell? ⟨g6, 7, none⟩ = some (.int .i64 p3.c) ∧ w'.cell? ⟨g6, 8, none⟩ = some (.slice B8 p3.L.length d8) ∧ w'.cell? ⟨g6, 9, none⟩ = some (.slice B9 p3.bo.length d9) ∧ w'.cell? ⟨g6, 10, none⟩ = some (.int .i64 p3.T) ∧ w'.cell? ⟨g6, 11, none⟩ = some (.int .i64 p3.O) ∧ w'.cell? ⟨g6, 12, none⟩ = some (.int .i64 p3.M) ∧ w'.cell? ⟨g6, 13, none⟩ = some (.int .i64 p3.P) ∧ w'.cell? ⟨g6, 14, none⟩ = some (.slice B14 p3.R.length d14) ∧ (convert 23 9 (.slice A0 l0.length c0)).run Tryd.prog w' = .ok (.string (strOfNums l0)) w') (ds := []) #[false, false, false, false, false, false, false, false, false, false] (by kernel_rfl) rfl rfl ⟨blk_cell (HRT.out.below (below_drew1 (Below.refl _ _))).x 0, blk_cell (HRT.out.below (below_drew1 (Below.refl _ _))).x 1, blk_cell (HRT.out.below (below_drew1 (Below.refl _ _))).x 2, blk_cell (HRT.out.below (below_drew1 (Below.refl _ _))).x 3, blk_cell (HRT.out.below (below_drew1 (Below.refl _ _))).x 4, blk_cell (HRT.out.below (below_drew1 (Below.refl _ _))).x 5, blk_cell (HRT.out.below (below_drew1 (Below.refl _ _))).x 6, blk_cell (HRT.out.below (below_drew1 (Below.refl _ _))).x 7, blk_cell (HRT.out.below (below_drew1 (Below.refl _ _))).x 8, blk_cell (HRT.out.below (below_drew1 (Below.refl _ _))).x 9, blk_cell (HRT.out.below (below_drew1 (Below.refl _ _))).x 10, blk_cell (HRT.out.below (below_drew1 (Below.refl _ _))).x 11, blk_cell (HRT.out.below (below_drew1 (Below.refl _ _))).x 12, blk_cell (HRT.out.below (below_drew1 (Below.refl _ _))).x 13, blk_cell (HRT.out.below (below_drew1 (Below.refl _ _))).x 14, Kd.C_string (P := Tryd.prog) (A := A0) (c := c0) Tryd.underlying23 Tryd.underlying5 Tryd.underlying9 (Kd.C_below HR0.out (HRT.out.below (below_drew1 (Below.refl _ _))).hb)⟩ (fun hHeld => ?_)
  have hn := HRT.out.below (below_drew1 (Below.refl _ _))
  clear HRT
  have HRT := ak hn
  clear hn
  generalize hw6_ : w5.drew = w6 at *
  clear hw6_
  refine pure_ (i := 0) (N := some 117) (v := ?_) (a' := ?_) #[true, false, false, false, false, false, false, false, false, false] rfl rfl (by kernel_rfl) (fun _ _ _ h => h) (Or.inl ⟨by rfl, ?_⟩) ?_ ?_
  rotate_left
  ·
   intro w'
   go_simp
   with_reducible rfl
  rotate_left
  ·
   simp only [Act.put, sq1, sq2, sq3, i64_w, i32_w]
   rfl
  refine pure_ (i := 1) (N := some 118) (v := ?_) (a' := ?_) #[true, true, false, false, false, false, false, false, false, false] rfl rfl (by kernel_rfl) (fun _ _ _ h => h) (Or.inl ⟨by rfl, ?_⟩) ?_ ?_
  rotate_left
  ·
   intro w'
   go_simp
   with_reducible rfl
  rotate_left
  ·
   simp only [Act.put, sq1, sq2, sq3, i64_w, i32_w]
   rfl
  refine pure_ (i := 2) (N := some 119) (v := ?_) (a' := ?_) #[true, true, true, false, false, false, false, false, false, false] rfl rfl (by kernel_rfl) (fun _ _ _ h => h) (Or.inl ⟨by rfl, ?_⟩) ?_ ?_
  rotate_left
  ·
   intro w'
   go_simp
   with_reducible rfl
  rotate_left
  ·
   simp only [Act.put, sq1, sq2, sq3, i64_w, i32_w]
   rfl
  refine pure_ (i := 6) (N := some 123) (v := ?_) (a' := ?_) #[true, true, true, false, false, false, true, false, false, false] rfl rfl (by kernel_rfl) (fun _ _ _ h => h) (Or.inl ⟨by rfl, ?_⟩) ?_ ?_
  rotate_left
  ·
   intro w'
   go_simp
   with_reducible rfl
  rotate_left
  ·
   simp only [Act.put, sq1, sq2, sq3, i64_w, i32_w]
   rfl
  refine take_ (i := 3) (N := some 120) (v := ?_) (a' := ?_) #[true, true, true, true, false, false, true, false, false, false] rfl rfl (by kernel_rfl) (fun _ _ _ h => h) (Or.inl ⟨by rfl, ?_⟩) hHeld ?_ ?_
  rotate_left
  ·
   rintro w' ⟨s0, s1, s2, s3, s4, s5, s6, s7, s8, s9, s10, s11, s12, s13, s14, s15⟩
   go_simp
   with_reducible rfl
  rotate_left
  ·
   simp only [Act.put, sq1, sq2, sq3, i64_w, i32_w]
   rfl
  refine take_ (i := 7) (N := some 124) (v := ?_) (a' := ?_) #[true, true, true, true, false, false, true, true, false, false] rfl rfl (by kernel_rfl) (fun _ _ _ h => h) (Or.inl ⟨by rfl, ?_⟩) hHeld ?_ ?_
  rotate_left
  ·
   rintro w' ⟨s0, s1, s2, s3, s4, s5, s6, s7, s8, s9, s10, s11, s12, s13, s14, s15⟩
   go_simp
   with_reducible rfl
  rotate_left
  ·
   simp only [Act.put, sq1, sq2, sq3, i64_w, i32_w]
   rfl
  refine one_ (i := 4) (N := some 121) #[true, true, true, true, true, false, true, true, false, false] rfl rfl (by kernel_rfl) (by decide) (fun K hK => ?_)
  obtain ⟨A8, e8, s8, l8, C8⟩ := Kd.R_reads HRT.out.r8
  obtain ⟨A9, e9, s9, l9, C9⟩ := Kd.R_reads HRT.out.r9
  obtain ⟨A14, e14, s14, l14, C14⟩ := Kd.R_reads HRT.out.r14
  obtain ⟨rfl, _, rfl⟩ := Value.slice.inj s8
  obtain ⟨rfl, _, rfl⟩ := Value.slice.inj s9
  obtain ⟨rfl, _, rfl⟩ := Value.slice.inj s14
  have HCT := Lib.hid (show Calls Tryd.prog 18 #[.agg #[.int .i64 kd, .int .i64 fr, .int .i64 p3.k, .int .i64 p3.s, .int .i64 p3.e, .int .i64 p3.i, .int .i64 p3.t, .int .i64 p3.c, .slice B8 p3.L.length d8, .slice B9 p3.bo.length d9, .int .i64 p3.T, .int .i64 p3.O, .int .i64 p3.M, .int .i64 p3.P, .slice B14 p3.R.length d14]] w6 _ from precentorref04_Bytes.calls (100100 + 2) kd fr p3.k p3.s p3.e p3.i p3.t p3.c B8 d8 p3.L B9 d9 p3.bo p3.T p3.O p3.M p3.P B14 d14 p3.R bb w6 C8 l8 C9 l9 C14 l14 ((rbytes4_is HSZ.out.2.1.2 HSZ.out.1 HSZ.out.2.1.1 HSZ.out.2.2 _).trans (by rw [if_pos HMY.out, HBB.out])))
  clear s8 s9 s14 l8 l9 l14 C8 C9 C14
  refine goes_ Tryd.func18 (by kernel_rfl) rfl #[.agg #[.int .i64 kd, .int .i64 fr, .int .i64 p3.k, .int .i64 p3.s, .int .i64 p3.e, .int .i64 p3.i, .int .i64 p3.t, .int .i64 p3.c, .slice B8 p3.L.length d8, .slice B9 p3.bo.length d9, .int .i64 p3.T, .int .i64 p3.O, .int .i64 p3.M, .int .i64 p3.P, .slice B14 p3.R.length d14]] (by rfl) rfl rfl (by simp only [List.map_toArray, List.map_cons, List.map_nil]; rfl) ?_
  with_reducible refine (HCT.out).mono ?_
  rintro e0 w7 ⟨v18, rfl, ho, hb⟩
  refine ⟨_, rfl, ?_⟩
  have HO := ak ho
  have hn := HRT.out.below hb
  clear HRT HCT
  have HRT := ak hn
  clear hn hb ho
  refine hK.out _ _ ⟨blk_cell HRT.out.x 0, blk_cell HRT.out.x 1, blk_cell HRT.out.x 2, blk_cell HRT.out.x 3, blk_cell HRT.out.x 4, blk_cell HRT.out.x 5, blk_cell HRT.out.x 6, blk_cell HRT.out.x 7, blk_cell HRT.out.x 8, blk_cell HRT.out.x 9, blk_cell HRT.out.x 10, blk_cell HRT.out.x 11, blk_cell HRT.out.x 12, blk_cell HRT.out.x 13, blk_cell HRT.out.x 14, Kd.C_string (P := Tryd.prog) (A := A0) (c := c0) Tryd.underlying23 Tryd.underlying5 Tryd.underlying9 (Kd.C_below HR0.out HRT.out.hb)⟩ (fun hHeld => ?_)
  clear hK K
  refine norm_ (a' := ?_) ?_ ?_
  rotate_left
  ·
   show Act.put _ (some 121) _ = _
   simp only [Act.put, sq1, sq2, sq3, i64_w, i32_w]
   rfl
  refine one_ (i := 5) (N := some 122) #[true, true, true, true, true, true, true, true, false, false] rfl rfl (by kernel_rfl) (by decide) (fun K hK => ?_)
  have hcv := own_string (P := Tryd.prog) Tryd.underlying23 Tryd.underlying5 Tryd.underlying9 (Kd.own_of_R HO.out)
  refine value_ (w1 := ?_) (v := ?_) (by rfl) rfl ?_ ?_
  rotate_left 2
  ·
   go_simp
   constructor
   ·
    rfl
   ·
    rfl
  clear hcv
  refine hK.out _ _ ⟨blk_cell HRT.out.x 0, blk_cell HRT.out.x 1, blk_cell HRT.out.x 2, blk_cell HRT.out.x 3, blk_cell HRT.out.x 4, blk_cell HRT.out.x 5, blk_cell HRT.out.x 6, blk_cell HRT.out.x 7, blk_cell HRT.out.x 8, blk_cell HRT.out.x 9, blk_cell HRT.out.x 10, blk_cell HRT.out.x 11, blk_cell HRT.out.x 12, blk_cell HRT.out.x 13, blk_cell HRT.out.x 14, Kd.C_string (P := Tryd.prog) (A := A0) (c := c0) Tryd.underlying23 Tryd.underlying5 Tryd.underlying9 (Kd.C_below HR0.out HRT.out.hb)⟩ (fun hHeld => ?_)
  clear hK K
  refine norm_ (a' := ?_) ?_ ?_
  rotate_left
  ·
   show Act.put _ (some 122) _ = _
   simp only [Act.put, sq1, sq2, sq3, i64_w, i32_w]
   rfl
  refine pure_ (i := 8) (N := some 125) (v := ?_) (a' := ?_) #[true, true, true, true, true, true, true, true, true, false] rfl rfl (by kernel_rfl) (fun _ _ _ h => h) (Or.inl ⟨by rfl, ?_⟩) ?_ ?_
  rotate_left
  ·
   intro w'
   go_simp
   with_reducible rfl
  rotate_left
  ·
   simp only [Act.put, sq1, sq2, sq3, i64_w, i32_w]
   rfl
  refine pure_ (i := 9) (N := some 126) (v := ?_) (a' := ?_) #[true, true, true, true, true, true, true, true, true, true] rfl rfl (by kernel_rfl) (fun _ _ _ h => h) (Or.inl ⟨by rfl, ?_⟩) ?_ ?_
  rotate_left
  ·
   intro w'
   go_simp
   with_reducible rfl
  rotate_left
  ·
   simp only [Act.put, sq1, sq2, sq3, i64_w, i32_w]
   rfl
  refine done_ (by kernel_rfl) ?_
  clear hHeld
  refine HKK.out _ _ ?_
  clear HKK
  clear q0 f0 q1 f1 q2 f2 q3 f3 q4 f4 q5 f5 q6 f6 q7 f7 q8 f8 q9 f9 q10 f10 q11 f11 q12 f12 q13 f13 q14 f14
  obtain ⟨⟨q0, q1, q2, q3, q4, q5, q6, q7, q8, q9, q10, q11, q12, q13, q14⟩, ⟨f0, f1, f2, f3, f4, f5, f6, f7, f8, f9, f10, f11, f12, f13, f14⟩⟩ := cells15 HRT.out.x
  obtain ⟨⟨z0, z1, z2, z3, z4, z5, z6, z7, z8, z9, z10, z11, z12, z13, z14⟩, ⟨g0, g1, g2, g3, g4, g5, g6, g7, g8, g9, g10, g11, g12, g13, g14⟩⟩ := cells15 (blk_below HX.out HRT.out.hb)
  cases z
  ·
   skip
   go_upto_region 23 with fail
   rename_i K2 h2
   have HKK := Lib.hid h2
   clear h2
   go_wp2_with fail
   refine HKK.out _ _ ?_
   clear HKK
   clear q0 f0 q1 f1 q2 f2 q3 f3 q4 f4 q5 f5 q6 f6 q7 f7 q8 f8 q9 f9 q10 f10 q11 f11 q12 f12 q13 f13 q14 f14
   clear z0 g0 z1 g1 z2 g2 z3 g3 z4 g4 z5 g5 z6 g6 z7 g7 z8 g8 z9 g9 z10 g10 z11 g11 z12 g12 z13 g13 z14 g14
   have HD3_ := Lib.hid (show refC l0 cc = tell16 none 2 by rw [HD5.out, if_neg (fun h => Bool.false_ne_true (HZ.out.2 h.2))])
   obtain ⟨W', hW', x4, hmv⟩ := box15 (blk_below HX.out HRT.out.hb) (.int .i64 0) (.int .i64 0) (.int .i64 0) (.int .i64 0) (.int .i64 0) (.int .i64 0) (.int .i64 0) (.int .i64 0) (.slice none 0 0) (.slice none 0 0) (.int .i64 0) (.int .i64 0) (.int .i64 0) (.int .i64 0) (.slice none 0 0)
   rw [hW']
   clear hW'
   have hB' : Below w.heap.size w W' := Mv.to (below_step HB.out HRT.out.hb) hmv (fun k hk => by omega) (Below.size (below_step HB.out HRT.out.hb))
   obtain ⟨⟨y0, y1, y2, y3, y4, y5, y6, y7, y8, y9, y10, y11, y12, y13, y14⟩, _⟩ := cells15 x4
   refine wp_ret ?_
   have hff := HQQ.out
   subst hff
   change bodyPost _ _ (PRead w (refC l0 cc)) Exit.ret _ _
   exact bodyPost_ret (v := .tuple #[.agg #[.int .i64 0, .int .i64 0, .int .i64 0, .int .i64 0, .int .i64 0, .int .i64 0, .int .i64 0, .int .i64 0, .slice none 0 0, .slice none 0 0, .int .i64 0, .int .i64 0, .int .i64 0, .int .i64 0, .slice none 0 0], .int .i64 2]) (by simp [results, Tryd.results12, go_sem, y0, y1, y2, y3, y4, y5, y6, y7, y8, y9, y10, y11, y12, y13, y14]) rfl (by rw [HD3_.out]; exact PRead.none_ _ hB')
  ·
   skip
   go_upto_region 24 with fail
   rename_i K2 h2
   have HKK := Lib.hid h2
   clear h2
   go_wp2_with fail
   refine HKK.out _ _ ?_
   clear HKK
   clear q0 f0 q1 f1 q2 f2 q3 f3 q4 f4 q5 f5 q6 f6 q7 f7 q8 f8 q9 f9 q10 f10 q11 f11 q12 f12 q13 f13 q14 f14
   clear z0 g0 z1 g1 z2 g2 z3 g3 z4 g4 z5 g5 z6 g6 z7 g7 z8 g8 z9 g9 z10 g10 z11 g11 z12 g12 z13 g13 z14 g14
   have HD3_ := Lib.hid (show refC l0 cc = tell16 (some (kd, fr, p3)) 0 by rw [HD5.out, if_pos ⟨trivial, HZ.out.1 trivial⟩])
   obtain ⟨W', hW', x4, hmv⟩ := box15 (blk_below HX.out HRT.out.hb) (.int .i64 kd) (.int .i64 fr) (.int .i64 p3.k) (.int .i64 p3.s) (.int .i64 p3.e) (.int .i64 p3.i) (.int .i64 p3.t) (.int .i64 p3.c) (.slice B8 p3.L.length d8) (.slice B9 p3.bo.length d9) (.int .i64 p3.T) (.int .i64 p3.O) (.int .i64 p3.M) (.int .i64 p3.P) (.slice B14 p3.R.length d14)
   rw [hW']
   clear hW'
   have hB' : Below w.heap.size w W' := Mv.to (below_step HB.out HRT.out.hb) hmv (fun k hk => by omega) (Below.size (below_step HB.out HRT.out.hb))
   obtain ⟨⟨y0, y1, y2, y3, y4, y5, y6, y7, y8, y9, y10, y11, y12, y13, y14⟩, _⟩ := cells15 x4
   refine wp_ret ?_
   have hff := HQQ.out
   subst hff
   change bodyPost _ _ (PRead w (refC l0 cc)) Exit.ret _ _
   exact bodyPost_ret (v := .tuple #[.agg #[.int .i64 kd, .int .i64 fr, .int .i64 p3.k, .int .i64 p3.s, .int .i64 p3.e, .int .i64 p3.i, .int .i64 p3.t, .int .i64 p3.c, .slice B8 p3.L.length d8, .slice B9 p3.bo.length d9, .int .i64 p3.T, .int .i64 p3.O, .int .i64 p3.M, .int .i64 p3.P, .slice B14 p3.R.length d14], .int .i64 0]) (by simp [results, Tryd.results12, go_sem, y0, y1, y2, y3, y4, y5, y6, y7, y8, y9, y10, y11, y12, y13, y14]) rfl (by rw [HD3_.out]; exact PRead.some_ HRT.out (Nat.le_of_lt HS.out) (blk_below HX.out HRT.out.hb) hmv hB')
set_option maxRecDepth 100000 in
set_option maxHeartbeats 40000000 in
theorem precentorref04_Read.more (A0 : Option Addr) (c0 : Nat) (l0 : List Int) (w : World) (hr0 : Kd.C (Kd.int .u8) w A0 l0.length l0) (hc0 : l0.length ≤ c0) (hb : By l0) (hl : l0.length < 5000) (ho : (openS l0).2 = 0) (h3 : ¬ (openS l0).1.length < 3) : Calls Tryd.prog 12 #[.slice A0 l0.length c0] w (PRead w (refC l0 (openS l0).1)) := by
 obtain ⟨w0, hw0, hB0, hs0, X0⟩ := boxed15 w (.int .i64 0) (.int .i64 0) (.int .i64 0) (.int .i64 0) (.int .i64 0) (.int .i64 0) (.int .i64 0) (.int .i64 0) (.slice none 0 0) (.slice none 0 0) (.int .i64 0) (.int .i64 0) (.int .i64 0) (.int .i64 0) (.slice none 0 0)
 have HB := ak hB0
 have HX := ak X0
 have HL := Lib.hid hl
 have HY := Lib.hid hb
 have hop := open_by hb
 have HR0 := ak (Kd.C_below hr0 hB0)
 have HC0 := Lib.hid hc0
 obtain ⟨cc, eo, hco⟩ : ∃ c e, openS l0 = (c, e) := ⟨_, _, rfl⟩
 rw [hco] at hop
 have HOP := Lib.hid hop
 have HCT := Lib.hid (show Calls Tryd.prog 25 #[.slice A0 l0.length c0] w0 _ from precentorref01_Open.calls (10 * l0.length + 1) A0 c0 l0 cc eo w0 HR0.out hc0 (by rw [CrcPlain.ref_open (byt_by hb) (by omega) (Nat.le_refl _), open_is (by omega), hco]))
 clear hr0 hc0 hb hl hB0 hs0 X0 hop
 rw [hco] at ho h3 ⊢
 obtain rfl : eo = 0 := ho
 have h3 : ¬ cc.length < 3 := h3
 show Calls _ _ _ _ (PRead w (refC l0 cc))
 clear hco
 go_enter Tryd.func12, Tryd.ntmps12
 go_wp2_with fail
 refine HCT.out.mono ?_
 rintro e_ w1 ⟨v1, rfl, hr, hb⟩
 obtain ⟨A1, c1, rfl, hc1, hC1⟩ := Kd.R_reads hr
 have n0_ := ak (below_step HB.out hb)
 have n1_ := ak (blk_below HX.out hb)
 have n2_ := ak (Kd.C_below HR0.out hb)
 have HS := Lib.hid (show w.heap.size < w1.heap.size from Nat.lt_of_lt_of_le (by rw [← hw0]; simp) hb.size)
 clear HB HX HR0 HCT hb hr hw0
 have HB := n0_
 have HX := n1_
 have HR0 := n2_
 clear n0_ n1_ n2_
 obtain ⟨ad1, rfl, hx1, k0, k1⟩ := row_at hC1 1 (by omega) HOP.out.1
 have k0 : 0 ≤ rd cc 1 := k0
 have k1 : rd cc 1 ≤ 255 := k1
 obtain ⟨ad2, hA2, hx2, j0, j1⟩ := row_at hC1 2 (by omega) HOP.out.1
 obtain rfl := Option.some.inj hA2
 have j0 : 0 ≤ rd cc 2 := j0
 have j1 : rd cc 2 ≤ 255 := j1
 have hx1 : w1.cell? (ad1.add 1) = some (.int .u8 (rd cc 1)) := hx1
 have hx1' : w1.cell? ⟨ad1.block, ad1.off + 1, none⟩ = some (.int .u8 (rd cc 1)) := hx1
 have hx2 : w1.cell? (ad1.add 2) = some (.int .u8 (rd cc 2)) := hx2
 have hx2' : w1.cell? ⟨ad1.block, ad1.off + 2, none⟩ = some (.int .u8 (rd cc 2)) := hx2
 have a1 : decide ((cc.length : Int) < 3) = false := decide_eq_false (by omega)
 have a2 : decide (cc.length < 3) = false := decide_eq_false h3
 have a5 : 1 < cc.length := by omega
 have a6 : 2 < cc.length := by omega
 have a7 : 3 ≤ cc.length := by omega
 have b5 : (1 : Int) < (cc.length : Int) := by omega
 have b6 : (2 : Int) < (cc.length : Int) := by omega
 obtain ⟨B3, d3, sl3, hd3, hC3⟩ := cut_row hC1 hc1 3 (by omega)
 obtain ⟨c3, hc3⟩ : ∃ c3, cc.drop 3 = c3 := ⟨_, rfl⟩
 have hb3 : By c3 := by rw [← hc3]; exact HOP.out.1.drop 3
 have hl3 : c3.length < 5000 := by rw [← hc3, List.length_drop]; have := HOP.out.2; have := HL.out; omega
 obtain ⟨kd, hK⟩ : ∃ kd, rd cc 1 = kd := ⟨_, rfl⟩
 obtain ⟨fr, hF⟩ : ∃ fr, rd cc 2 = fr := ⟨_, rfl⟩
 obtain ⟨pq, hpq⟩ : ∃ pq, candQ kd c3 = pq := ⟨_, rfl⟩
 have HD := Lib.hid (show refC l0 cc = if mayP kd fr (mayB pq.k pq.s pq.e pq.i pq.t pq.c pq.L pq.bo.length) (bareB pq.k pq.s pq.e pq.i pq.t pq.c pq.L pq.bo) pq.T pq.O pq.M pq.P pq.R = true ∧ sealP kd fr pq.k pq.s pq.e pq.i pq.t pq.c pq.L pq.bo pq.T pq.O pq.M pq.P pq.R = l0 then tell16 (some (kd, fr, pq)) 0 else tell16 none 2 by unfold refC; rw [if_neg h3, hK, hF, hc3, hpq])
 have HPQ := Lib.hid hpq
 clear hpq
 rw [hc3] at sl3 hd3 hC3
 have sl3 : ∀ W : World, (Instr.slice 23 (.slice (some ad1) cc.length c1) (some (.int .i64 3)) none none).run Tryd.prog W = .ok (.slice B3 c3.length d3) W := sl3
 rw [hK] at hx1 hx1' k0 k1
 rw [hF] at hx2 hx2' j0 j1
 have kw : wrap64 kd = kd := wrap_id (by omega) (by omega)
 have fw : wrap64 fr = fr := wrap_id (by omega) (by omega)
 have HC3 := ak hC3
 have HD3 := Lib.hid hd3
 have HB3 := Lib.hid hb3
 have HL3 := Lib.hid hl3
 clear hc1 hC1 h3 hd3 hC3 hc3 hb3 hl3 hK hF k0 k1 j0 j1
 go_upto_region 6 with fail
 refine start_ (n := 11) (S := fun w' => w'.cell? (ad1.add 1) = some (.int .u8 kd) ∧ w'.cell? ⟨ad1.block, ad1.off + 1, none⟩ = some (.int .u8 kd) ∧ w'.cell? (ad1.add 2) = some (.int .u8 fr) ∧ w'.cell? ⟨ad1.block, ad1.off + 2, none⟩ = some (.int .u8 fr)) (ds := [10]) #[false, false, false, false, false, false, false, false, false, false, false] (by kernel_rfl) rfl rfl ⟨pw_cell_below (below_drew1 (Below.refl _ _)) hx1, pw_cell_below (below_drew1 (Below.refl _ _)) hx1', pw_cell_below (below_drew1 (Below.refl _ _)) hx2, pw_cell_below (below_drew1 (Below.refl _ _)) hx2'⟩ (fun hHeld => ?_)
 have HBq := ak (below_drew1 (Below.refl w1.heap.size w1))
 generalize hw2_ : w1.drew = w2 at *
 clear hw2_
 refine pure_ (i := 0) (N := some 33) (v := ?_) (a' := ?_) #[true, false, false, false, false, false, false, false, false, false, false] rfl rfl (by kernel_rfl) (fun _ _ _ h => h) (Or.inl ⟨by rfl, ?_⟩) ?_ ?_
 rotate_left
 ·
  intro w'
  go_simp
  with_reducible rfl
 rotate_left
 ·
  simp only [Act.put, sq1, sq2, sq3, i64_w, i32_w]
  rfl
 refine pure_ (i := 1) (N := some 34) (v := ?_) (a' := ?_) #[true, true, false, false, false, false, false, false, false, false, false] rfl rfl (by kernel_rfl) (fun _ _ _ h => h) (Or.inl ⟨by rfl, ?_⟩) ?_ ?_
 rotate_left
 ·
  intro w'
  go_simp
  with_reducible rfl
 rotate_left
 ·
  simp only [Act.put, sq1, sq2, sq3, i64_w, i32_w]
  rfl
 refine pure_ (i := 4) (N := some 37) (v := ?_) (a' := ?_) #[true, true, false, false, true, false, false, false, false, false, false] rfl rfl (by kernel_rfl) (fun _ _ _ h => h) (Or.inl ⟨by rfl, ?_⟩) ?_ ?_
 rotate_left
 ·
  intro w'
  go_simp
  with_reducible rfl
 rotate_left
 ·
  simp only [Act.put, sq1, sq2, sq3, i64_w, i32_w]
  rfl
 refine pure_ (i := 5) (N := some 38) (v := ?_) (a' := ?_) #[true, true, false, false, true, true, false, false, false, false, false] rfl rfl (by kernel_rfl) (fun _ _ _ h => h) (Or.inl ⟨by rfl, ?_⟩) ?_ ?_
 rotate_left
 ·
  intro w'
  go_simp
  with_reducible rfl
 rotate_left
 ·
  simp only [Act.put, sq1, sq2, sq3, i64_w, i32_w]
  rfl
 refine take_ (i := 2) (N := some 35) (v := ?_) (a' := ?_) #[true, true, true, false, true, true, false, false, false, false, false] rfl rfl (by kernel_rfl) (fun _ _ _ h => h) (Or.inl ⟨by rfl, ?_⟩) hHeld ?_ ?_
 rotate_left
 ·
  rintro w' ⟨s0, s1, s2, s3⟩
  go_simp
  with_reducible rfl
 rotate_left
 ·
  simp only [Act.put, sq1, sq2, sq3, i64_w, i32_w]
  rfl
 refine pure_ (i := 3) (N := some 36) (v := ?_) (a' := ?_) #[true, true, true, true, true, true, false, false, false, false, false] rfl rfl (by kernel_rfl) (fun _ _ _ h => h) (Or.inl ⟨by rfl, ?_⟩) ?_ ?_
 rotate_left
 ·
  intro w'
  go_simp
  with_reducible rfl
 rotate_left
 ·
  simp only [Act.put, sq1, sq2, sq3, i64_w, i32_w]
  rfl
 refine take_ (i := 6) (N := some 39) (v := ?_) (a' := ?_) #[true, true, true, true, true, true, true, false, false, false, false] rfl rfl (by kernel_rfl) (fun _ _ _ h => h) (Or.inl ⟨by rfl, ?_⟩) hHeld ?_ ?_
 rotate_left
 ·
  rintro w' ⟨s0, s1, s2, s3⟩
  go_simp
  with_reducible rfl
 rotate_left
 ·
  simp only [Act.put, sq1, sq2, sq3, i64_w, i32_w]
  rfl
 refine pure_ (i := 7) (N := some 40) (v := ?_) (a' := ?_) #[true, true, true, true, true, true, true, true, false, false, false] rfl rfl (by kernel_rfl) (fun _ _ _ h => h) (Or.inl ⟨by rfl, ?_⟩) ?_ ?_
 rotate_left
 ·
  intro w'
  go_simp
  with_reducible rfl
 rotate_left
 ·
  simp only [Act.put, sq1, sq2, sq3, i64_w, i32_w]
  rfl
 refine pure_ (i := 8) (N := some 41) (v := ?_) (a' := ?_) #[true, true, true, true, true, true, true, true, true, false, false] rfl rfl (by kernel_rfl) (fun _ _ _ h => h) (Or.inl ⟨by rfl, ?_⟩) ?_ ?_
 rotate_left
 ·
  intro w'
  go_simp
  with_reducible rfl
 rotate_left
 ·
  simp only [Act.put, sq1, sq2, sq3, i64_w, i32_w]
  rfl
 refine one_ (i := 9) (N := some 6) #[true, true, true, true, true, true, true, true, true, true, false] rfl rfl (by kernel_rfl) (by decide) (fun K hK => ?_)
 refine value_ (w1 := ?_) (v := ?_) (by rfl) rfl ?_ ?_
 rotate_left 2
 ·
  go_simp
  constructor
  ·
   rfl
  ·
   rfl
 have HN := ak (blk_new w2 (Obj.cells #[.int .i64 0, .int .i64 0, .int .i64 0, .int .i64 0, .int .i64 0, .int .i64 0, .int .i64 0, .int .i64 0, .slice none 0 0, .slice none 0 0, .int .i64 0, .int .i64 0, .int .i64 0, .int .i64 0, .slice none 0 0] 27))
 have HGL := Lib.hid (show w1.heap.size ≤ w2.heap.size from HBq.out.size)
 have n0_ := ak (below_alloc HBq.out (Obj.cells #[.int .i64 0, .int .i64 0, .int .i64 0, .int .i64 0, .int .i64 0, .int .i64 0, .int .i64 0, .int .i64 0, .slice none 0 0, .slice none 0 0, .int .i64 0, .int .i64 0, .int .i64 0, .int .i64 0, .slice none 0 0] 27))
 clear HBq
 have HBq := n0_
 clear n0_
 generalize hgl_ : w2.alloc (Obj.cells #[.int .i64 0, .int .i64 0, .int .i64 0, .int .i64 0, .int .i64 0, .int .i64 0, .int .i64 0, .int .i64 0, .slice none 0 0, .slice none 0 0, .int .i64 0, .int .i64 0, .int .i64 0, .int .i64 0, .slice none 0 0] 27) = w3 at *
 clear hgl_
 generalize w2.heap.size = g6 at HN HGL ⊢
 refine hK.out _ _ ⟨pw_cell_below HBq.out hx1, pw_cell_below HBq.out hx1', pw_cell_below HBq.out hx2, pw_cell_below HBq.out hx2'⟩ (fun hHeld => ?_)
 clear hK K
 refine norm_ (a' := ?_) ?_ ?_
 rotate_left
 ·
  show Act.put _ (some 6) _ = _
  simp only [Act.put, sq1, sq2, sq3, i64_w, i32_w]
  rfl
 refine last_ (i := 10) (N := none) #[true, true, true, true, true, true, true, true, true, true, true] rfl rfl (by kernel_rfl) (by decide) (fun K hK => ?_)
 obtain ⟨⟨q0, q1, q2, q3, q4, q5, q6, q7, q8, q9, q10, q11, q12, q13, q14⟩, ⟨f0, f1, f2, f3, f4, f5, f6, f7, f8, f9, f10, f11, f12, f13, f14⟩⟩ := cells15 HN.out
 refine skip_ (w1 := ?_) (by rfl) rfl ?_ ?_
 rotate_left
 ·
  go_simp
  rfl
 clear q0 f0 q1 f1 q2 f2 q3 f3 q4 f4 q5 f5 q6 f6 q7 f7 q8 f8 q9 f9 q10 f10 q11 f11 q12 f12 q13 f13 q14 f14
 refine hK.out _ _ ?_
 clear hK K
 refine done_ (by kernel_rfl) ?_
 clear hHeld
 obtain ⟨p0, hp0⟩ : ∃ p0 : PK, p0 = ⟨0, 0, 0, 0, 0, 0, [], [], 0, 0, 0, 0, []⟩ := ⟨_, rfl⟩
 obtain ⟨W, hW, x7, hmv⟩ := box15 HN.out (.int .i64 kd) (.int .i64 fr) (.int .i64 0) (.int .i64 0) (.int .i64 0) (.int .i64 0) (.int .i64 0) (.int .i64 0) (.slice none 0 0) (.slice none 0 0) (.int .i64 0) (.int .i64 0) (.int .i64 0) (.int .i64 0) (.slice none 0 0)
 rw [hW]
 clear hW
 have hBW : Below w1.heap.size w1 W := Mv.to HBq.out hmv (fun k hk => by have := HGL.out; omega) HBq.out.size
 obtain ⟨B8, d8, B9, d9, B14, d14, hrt⟩ : RT4e w1 g6 kd fr p0 W := ⟨none, 0, none, 0, none, 0, by rw [hp0]; exact x7, HGL.out, by rw [hp0]; exact Kd.R_nil _ _ _ _ _, by rw [hp0]; exact Kd.R_nil _ _ _ _ _, by rw [hp0]; exact Kd.R_nil _ _ _ _ _, hBW⟩
 have HRT := ak hrt
 have HP0 := Lib.hid hp0
 clear hrt hp0 hBW hmv x7 HN HBq HGL hx1 hx1' hx2 hx2' a1 a2 a5 a6 a7 b5 b6 kw fw
 obtain ⟨b, hbb⟩ : ∃ b, decide (kd = 1 ∨ kd = 2) = b := ⟨_, rfl⟩
 obtain ⟨pn, hpn⟩ : ∃ pn : PK, (if kd = 1 ∨ kd = 2 then ⟨(tell9 (takeItem c3)).1, (tell9 (takeItem c3)).2.1, (tell9 (takeItem c3)).2.2.1, (tell9 (takeItem c3)).2.2.2.1, (tell9 (takeItem c3)).2.2.2.2.1, (tell9 (takeItem c3)).2.2.2.2.2.1, (tell9 (takeItem c3)).2.2.2.2.2.2.1, (tell9 (takeItem c3)).2.2.2.2.2.2.2.1, p0.T, p0.O, p0.M, p0.P, p0.R⟩ else p0) = pn := ⟨_, rfl⟩
 have HBB := Lib.hid hbb
 have HPN := Lib.hid hpn
 clear hbb hpn
 go_upto_region 8 with fail
 obtain ⟨⟨q0, q1, q2, q3, q4, q5, q6, q7, q8, q9, q10, q11, q12, q13, q14⟩, ⟨f0, f1, f2, f3, f4, f5, f6, f7, f8, f9, f10, f11, f12, f13, f14⟩⟩ := cells15 HRT.out.x
 go_cut [51] (fun v wc => v = Value.bool b ∧ wc = W)
 case first =>
  by_cases h1 : kd = 1
  ·
   have e1 : (kd == 1) = true := by rw [h1]; rfl
   have HK := Lib.hid (show kd = 1 ∨ kd = 2 from Or.inl h1)
   clear h1
   go_wp2_with fail
   go_meet
   case rel => exact ⟨by rw [← HBB.out, decide_eq_true HK.out], rfl⟩
  have e1 : (kd == 1) = false := beq_eq_false_iff_ne.2 h1
  by_cases h2 : kd = 2
  ·
   have e2 : (kd == 2) = true := by rw [h2]; rfl
   have HK := Lib.hid (show kd = 1 ∨ kd = 2 from Or.inr h2)
   clear h1 h2
   go_wp2_with fail
   go_meet
   case rel => exact ⟨by rw [← HBB.out, decide_eq_true HK.out], rfl⟩
  have e2 : (kd == 2) = false := beq_eq_false_iff_ne.2 h2
  have HK := Lib.hid (show ¬ (kd = 1 ∨ kd = 2) from fun h => h.elim h1 h2)
  clear h1 h2
  go_wp2_with fail
  go_meet
  case rel => exact ⟨by rw [← HBB.out, decide_eq_false HK.out], rfl⟩
 case rest =>
  have hw := hcut.2
  have hv := hcut.1
  subst hv
  rw [hw]
  clear hcut hw q0 f0 q1 f1 q2 f2 q3 f3 q4 f4 q5 f5 q6 f6 q7 f7 q8 f8 q9 f9 q10 f10 q11 f11 q12 f12 q13 f13 q14 f14
  go_upto_if 51 with fail
  go_cut [] (fun wc => Aside0 (RT4e w1 g6 kd fr pn wc))
  case first =>
   cases b
   ·
    go_wp2_with fail
    go_meet
    case rel => exact ⟨_, _, _, _, _, _, by rw [← HPN.out, if_neg (fun h => by have := HBB.out; rw [decide_eq_true h] at this; cases this)]; exact HRT.out⟩
   ·
    have hb := of_decide_eq_true HBB.out
    have hpn : _ = pn := (if_pos hb).symm.trans HPN.out
    clear HPN
    have HPN := Lib.hid hpn
    clear hpn
    obtain ⟨m1, m2, m3, m4, m5, m6, m7, m8, m9, hm⟩ : ∃ m1 m2 m3 m4 m5 m6 m7 m8 m9, tell9 (takeItem c3) = (m1, m2, m3, m4, m5, m6, m7, m8, m9) := ⟨_, _, _, _, _, _, _, _, _, rfl⟩
    have hpn := HPN.out
    rw [hm] at hpn
    have HPN2 := Lib.hid hpn
    clear hpn HPN
    have HCT := Lib.hid (show Calls Tryd.prog 26 #[.slice B3 c3.length d3] W _ from precentorref03_Take.calls B3 d3 c3 m1 m2 m3 m4 m5 m6 m7 m8 m9 W (Kd.C_below HC3.out HRT.out.hb) HD3.out ((if_pos (okR_of HB3.out HL3.out)).trans (by rw [ref_take_is HB3.out HL3.out, hm])))
    clear hm hb
    go_wp2_with fail
    refine HCT.out.mono ?_
    rintro e_ w5 ⟨v6, v7, rfl, h6, h7, hb5⟩
    obtain ⟨D8, e8, rfl⟩ := Kd.R_slice h6
    obtain ⟨D9, e9, rfl⟩ := Kd.R_slice h7
    have hn := HRT.out.below hb5
    have hz := HRT.out.hb.size
    clear HRT HCT
    have HRT := ak hn
    obtain ⟨u5, hu, hBu, Xu⟩ := boxed8 w5
    obtain ⟨⟨z0, z1, z2, z3, z4, z5, z6, z7⟩, ⟨g0, g1, g2, g3, g4, g5, g6_, g7⟩⟩ := cells8 Xu
    have H6 := ak (Kd.R_lower h6 hz)
    have H7 := ak (Kd.R_lower h7 hz)
    have HBu := ak hBu
    have HXu := ak Xu
    clear hn hb5 hz h6 h7 hBu Xu
    go_upto_region 10 with fail
    clear z0 z1 z2 z3 z4 z5 z6 z7 g0 g1 g2 g3 g4 g5 g6_ g7
    obtain ⟨u6, hu6, x8, hmv⟩ := box8 HXu.out (.int .i64 m1) (.int .i64 m2) (.int .i64 m3) (.int .i64 m4) (.int .i64 m5) (.int .i64 m6) (.slice D8 m7.length e8) (.slice D9 m8.length e9)
    rw [hu6]
    clear hu6 hu
    have hBv : Below w5.heap.size w5 u6 := Mv.to HBu.out hmv (fun k hk => by omega) HBu.out.size
    have hn := HRT.out.below hBv
    have n6_ := ak (Kd.R_mono (Kd.R_below H6.out hBv) (fun _ _ => trivial) : Kd.R (Kd.int .i64) 3 u6 w1.heap.size (fun _ => True) (.slice D8 m7.length e8) m7)
    have n7_ := ak (Kd.R_mono (Kd.R_below H7.out hBv) (fun _ _ => trivial) : Kd.R (Kd.int .u8) 5 u6 w1.heap.size (fun _ => True) (.slice D9 m8.length e9) m8)
    have HX8 := ak x8
    clear HRT H6 H7 hBv hmv HBu HXu x8
    have HRT := ak hn
    clear hn
    generalize w5.heap.size = g8 at *
    obtain ⟨⟨z0, z1, z2, z3, z4, z5, z6, z7⟩, ⟨g0, g1, g2, g3, g4, g5, g6_, g7⟩⟩ := cells8 HX8.out
    obtain ⟨⟨q0, q1, q2, q3, q4, q5, q6, q7, q8, q9, q10, q11, q12, q13, q14⟩, ⟨f0, f1, f2, f3, f4, f5, f6, f7, f8, f9, f10, f11, f12, f13, f14⟩⟩ := cells15 HRT.out.x
    go_wp2_with fail
    obtain ⟨W', hW', hn⟩ := HRT.out.item m1 m2 m3 m4 m5 m6 m7 m8 n6_.out n7_.out
    rw [hW']
    clear hW' z0 z1 z2 z3 z4 z5 z6 z7 g0 g1 g2 g3 g4 g5 g6_ g7 HX8 n6_ n7_ HRT q0 f0 q1 f1 q2 f2 q3 f3 q4 f4 q5 f5 q6 f6 q7 f7 q8 f8 q9 f9 q10 f10 q11 f11 q12 f12 q13 f13 q14 f14
    have HRT := ak hn
    clear hn
    go_meet
    case rel => exact ⟨_, _, _, _, _, _, by rw [← HPN2.out]; exact HRT.out⟩
  case rest =>
   have hrt := hcut
   obtain ⟨B8, d8, B9, d9, B14, d14, hrt⟩ := hrt.out
   clear HRT HBB
   have HRT := ak hrt
   clear hrt hcut
   obtain ⟨W, hW⟩ : ∃ W, W = wc := ⟨_, rfl⟩
   rw [← hW] at HRT ⊢
   clear hW
   have HQ1 := Lib.hid HPN.out
   clear HPN
   obtain ⟨p1, hm⟩ : ∃ m, m = pn := ⟨_, rfl⟩
   rw [← hm] at HRT HQ1
   clear hm
   obtain ⟨b, hbb⟩ : ∃ b, decide (kd = 3 ∧ c3.length = 10) = b := ⟨_, rfl⟩
   obtain ⟨pn, hpn⟩ : ∃ pn : PK, (if kd = 3 ∧ c3.length = 10 then ⟨p1.k, p1.s, p1.e, p1.i, p1.t, p1.c, p1.L, p1.bo, rd c3 0, (tkn (c3.drop 1) 8).1, rd c3 9, p1.P, p1.R⟩ else p1) = pn := ⟨_, rfl⟩
   have HBB := Lib.hid hbb
   have HPN := Lib.hid hpn
   clear hbb hpn
   go_upto_region 11 with fail
   obtain ⟨⟨q0, q1, q2, q3, q4, q5, q6, q7, q8, q9, q10, q11, q12, q13, q14⟩, ⟨f0, f1, f2, f3, f4, f5, f6, f7, f8, f9, f10, f11, f12, f13, f14⟩⟩ := cells15 HRT.out.x
   go_cut [66] (fun v wc => v = Value.bool b ∧ wc = W)
   case first =>
    by_cases h1 : kd = 3
    ·
     have e1 : (kd == 3) = true := by rw [h1]; rfl
     by_cases hl : c3.length = 10
     ·
      skip
      have a0 : ((c3.length : Int) == 10) = true := beq_iff_eq.2 (by omega)
      have a1 : (c3.length == 10) = true := beq_iff_eq.2 hl
      have HK := Lib.hid (show (kd = 3 ∧ c3.length = 10) from ⟨h1, hl⟩)
      clear h1 hl
      go_wp2_with fail
      go_meet
      case rel => exact ⟨by rw [← HBB.out, decide_eq_true HK.out], rfl⟩
     have a0 : ((c3.length : Int) == 10) = false := beq_eq_false_iff_ne.2 (by omega)
     have a1 : (c3.length == 10) = false := beq_eq_false_iff_ne.2 hl
     have HK := Lib.hid (show ¬ (kd = 3 ∧ c3.length = 10) from fun h => hl h.2)
     clear h1 hl
     go_wp2_with fail
     go_meet
     case rel => exact ⟨by rw [← HBB.out, decide_eq_false HK.out], rfl⟩
    have e1 : (kd == 3) = false := beq_eq_false_iff_ne.2 h1
    have HK := Lib.hid (show ¬ (kd = 3 ∧ c3.length = 10) from fun h => h1 h.1)
    clear h1
    go_wp2_with fail
    go_meet
    case rel => exact ⟨by rw [← HBB.out, decide_eq_false HK.out], rfl⟩
   case rest =>
    have hw := hcut.2
    have hv := hcut.1
    subst hv
    rw [hw]
    clear hcut hw q0 f0 q1 f1 q2 f2 q3 f3 q4 f4 q5 f5 q6 f6 q7 f7 q8 f8 q9 f9 q10 f10 q11 f11 q12 f12 q13 f13 q14 f14
    go_upto_if 66 with fail
    go_cut [] (fun wc => Aside0 (RT4e w1 g6 kd fr pn wc))
    case first =>
     cases b
     ·
      go_wp2_with fail
      go_meet
      case rel => exact ⟨_, _, _, _, _, _, by rw [← HPN.out, if_neg (fun h => by have := HBB.out; rw [decide_eq_true h] at this; cases this)]; exact HRT.out⟩
     ·
      have hb := of_decide_eq_true HBB.out
      have hpn : _ = pn := (if_pos hb).symm.trans HPN.out
      clear HPN
      have HPN := Lib.hid hpn
      clear hpn
      have hl3 : c3.length = 10 := hb.2
      obtain ⟨ad3, hA3, hy, y0, y1⟩ := row_at (Kd.C_below HC3.out HRT.out.hb) 0 (by omega) HB3.out
      subst hA3
      obtain ⟨ad4, hA4, hz, z0, z1⟩ := row_at (Kd.C_below HC3.out HRT.out.hb) 9 (by omega) HB3.out
      obtain rfl := Option.some.inj hA4
      obtain ⟨B4, d4, sl4, hd4, hC4⟩ := cut_row HC3.out HD3.out 1 (by omega)
      obtain ⟨c4, hc4⟩ : ∃ c, c3.drop 1 = c := ⟨_, rfl⟩
      have hb4 : By c4 := by rw [← hc4]; exact HB3.out.drop 1
      have hl4 : c4.length < 5000 := by rw [← hc4, List.length_drop]; omega
      have hpn := HPN.out
      rw [hc4] at sl4 hd4 hC4 hpn
      have sl4 : ∀ W : World, (Instr.slice 23 (.slice (some ad3) c3.length d3) (some (.int .i64 1)) none none).run Tryd.prog W = .ok (.slice B4 c4.length d4) W := sl4
      obtain ⟨n, r, q, hq⟩ : ∃ n r q, tkn c4 8 = (n, r, q) := ⟨_, _, _, rfl⟩
      rw [hq] at hpn
      have y0 : 0 ≤ rd c3 0 := y0
      have y1 : rd c3 0 ≤ 255 := y1
      have z0 : 0 ≤ rd c3 9 := z0
      have z1 : rd c3 9 ≤ 255 := z1
      skip
      have hy : World.cell? W (ad3.add 0) = some (.int .u8 (rd c3 0)) := hy
      have hz : World.cell? W (ad3.add 9) = some (.int .u8 (rd c3 9)) := hz
      obtain ⟨x0, hx0⟩ : ∃ x, rd c3 0 = x := ⟨_, rfl⟩
      obtain ⟨x9, hx9⟩ : ∃ x, rd c3 9 = x := ⟨_, rfl⟩
      rw [hx0] at hy y0 y1 hpn
      rw [hx9] at hz z0 z1 hpn
      have HX9 := Lib.hid hx9
      clear hx0 hx9
      have HW0 := Lib.hid (show wrap64 x0 = x0 from wrap_id (by have : 0 ≤ x0 := y0; omega) (by have : x0 ≤ 255 := y1; omega))
      have HW9 := Lib.hid (show wrap64 x9 = x9 from wrap_id (by have : 0 ≤ x9 := z0; omega) (by have : x9 ≤ 255 := z1; omega))
      have HPN2 := Lib.hid hpn
      have HYY := ak hy
      have HZZ := ak hz
      have HCT := Lib.hid (show Calls Tryd.prog 27 #[.slice B4 c4.length d4, .int .i64 8] W _ from precentorref02_Take.calls 20 B4 d4 c4 8 n r q W (Kd.C_below hC4 HRT.out.hb) hd4 (by rw [rtake_is hb4 (by omega) 8 (by omega), tkn_is, hq]))
      have hp0 : 0 < c3.length := by omega
      have hp9 : 9 < c3.length := by omega
      have hp1 : 1 ≤ c3.length := by omega
      have hi0 : (0 : Int) < (c3.length : Int) := by omega
      have hi9 : (9 : Int) < (c3.length : Int) := by omega
      have HCC := Lib.hid hl3
      have HC4 := ak hC4
      clear hb hl3 hy hz y0 y1 z0 z1 hc4 hb4 hl4 hd4 hC4 hpn hq HPN
      go_wp2_with fail
      refine HCT.out.mono ?_
      rintro e_ w5 ⟨v6, rfl, hv6, hb5⟩
      have hn := HRT.out.below hb5
      have n1_ := ak (pw_cell_below hb5 HYY.out)
      have n2_ := ak (pw_cell_below hb5 HZZ.out)
      clear HRT HCT HYY HZZ
      have HRT := ak hn
      have HYY := n1_
      have HZZ := n2_
      clear hb5 hn hv6 n1_ n2_
      obtain ⟨⟨q0, q1, q2, q3, q4, q5, q6, q7, q8, q9, q10, q11, q12, q13, q14⟩, ⟨f0, f1, f2, f3, f4, f5, f6, f7, f8, f9, f10, f11, f12, f13, f14⟩⟩ := cells15 HRT.out.x
      have hy := HYY.out
      have hy' : World.cell? w5 ad3 = some (.int .u8 x0) := by simpa [Addr.add] using hy
      go_upto_region 14 with fail
      clear hy hy' q0 f0 q1 f1 q2 f2 q3 f3 q4 f4 q5 f5 q6 f6 q7 f7 q8 f8 q9 f9 q10 f10 q11 f11 q12 f12 q13 f13 q14 f14
      try rw [HW0.out]
      have hput := HRT.out.put (q := ⟨p1.k, p1.s, p1.e, p1.i, p1.t, p1.c, p1.L, p1.bo, x0, p1.O, p1.M, p1.P, p1.R⟩) 10 (.int .i64 x0) rfl (HRT.out.r8) (HRT.out.r9) (HRT.out.r14)
      clear HRT
      have HRT := ak hput
      clear hput
      generalize w5.setCell ⟨g6, 10, none⟩ (.int .i64 x0) = W2 at *
      obtain ⟨⟨q0, q1, q2, q3, q4, q5, q6, q7, q8, q9, q10, q11, q12, q13, q14⟩, ⟨f0, f1, f2, f3, f4, f5, f6, f7, f8, f9, f10, f11, f12, f13, f14⟩⟩ := cells15 HRT.out.x
      go_upto_region 15 with fail
      clear q0 f0 q1 f1 q2 f2 q3 f3 q4 f4 q5 f5 q6 f6 q7 f7 q8 f8 q9 f9 q10 f10 q11 f11 q12 f12 q13 f13 q14 f14
      have hput := HRT.out.put (q := ⟨p1.k, p1.s, p1.e, p1.i, p1.t, p1.c, p1.L, p1.bo, x0, n, p1.M, p1.P, p1.R⟩) 11 (.int .i64 n) rfl (HRT.out.r8) (HRT.out.r9) (HRT.out.r14)
      clear HRT
      have HRT := ak hput
      clear hput
      generalize W2.setCell ⟨g6, 11, none⟩ (.int .i64 n) = W3 at *
      obtain ⟨⟨q0, q1, q2, q3, q4, q5, q6, q7, q8, q9, q10, q11, q12, q13, q14⟩, ⟨f0, f1, f2, f3, f4, f5, f6, f7, f8, f9, f10, f11, f12, f13, f14⟩⟩ := cells15 HRT.out.x
      obtain ⟨ad5, hA5, hz, _, _⟩ := row_at (Kd.C_below HC3.out HRT.out.hb) 9 (by have := HCC.out; omega) HB3.out
      obtain rfl := Option.some.inj hA5
      have hz : World.cell? W3 (ad3.add 9) = some (.int .u8 (rd c3 9)) := hz
      have hx9 : rd c3 9 = x9 := HX9.out
      rw [hx9] at hz
      have hz' : World.cell? W3 ⟨ad3.block, ad3.off + 9, none⟩ = some (.int .u8 x9) := hz
      clear hx9
      go_wp2_with fail
      clear hz hz' q0 f0 q1 f1 q2 f2 q3 f3 q4 f4 q5 f5 q6 f6 q7 f7 q8 f8 q9 f9 q10 f10 q11 f11 q12 f12 q13 f13 q14 f14
      try rw [HW9.out]
      have hput := HRT.out.put (q := ⟨p1.k, p1.s, p1.e, p1.i, p1.t, p1.c, p1.L, p1.bo, x0, n, x9, p1.P, p1.R⟩) 12 (.int .i64 x9) rfl (HRT.out.r8) (HRT.out.r9) (HRT.out.r14)
      clear HRT
      have HRT := ak hput
      clear hput
      generalize W3.setCell ⟨g6, 12, none⟩ (.int .i64 x9) = W4 at *
      go_meet
      case rel => exact ⟨_, _, _, _, _, _, by rw [← HPN2.out]; exact HRT.out⟩
    case rest =>
     have hrt := hcut
     obtain ⟨B8, d8, B9, d9, B14, d14, hrt⟩ := hrt.out
     clear HRT HBB
     have HRT := ak hrt
     clear hrt hcut
     obtain ⟨W, hW⟩ : ∃ W, W = wc := ⟨_, rfl⟩
     rw [← hW] at HRT ⊢
     clear hW
     have HQ2 := Lib.hid HPN.out
     clear HPN
     obtain ⟨p2, hm⟩ : ∃ m, m = pn := ⟨_, rfl⟩
     rw [← hm] at HRT HQ2
     clear hm
     obtain ⟨b, hbb⟩ : ∃ b, decide (kd = 4 ∧ 8 ≤ c3.length) = b := ⟨_, rfl⟩
     obtain ⟨pn, hpn⟩ : ∃ pn : PK, (if kd = 4 ∧ 8 ≤ c3.length then ⟨p2.k, p2.s, p2.e, p2.i, p2.t, p2.c, p2.L, p2.bo, p2.T, p2.O, p2.M, (tkn c3 8).1, (rowT 8 (c3.drop 8)).1⟩ else p2) = pn := ⟨_, rfl⟩
     have HBB := Lib.hid hbb
     have HPN := Lib.hid hpn
     clear hbb hpn
     go_upto_region 16 with fail
     obtain ⟨⟨q0, q1, q2, q3, q4, q5, q6, q7, q8, q9, q10, q11, q12, q13, q14⟩, ⟨f0, f1, f2, f3, f4, f5, f6, f7, f8, f9, f10, f11, f12, f13, f14⟩⟩ := cells15 HRT.out.x
     go_cut [93] (fun v wc => v = Value.bool b ∧ wc = W)
     case first =>
      by_cases h1 : kd = 4
      ·
       have e1 : (kd == 4) = true := by rw [h1]; rfl
       by_cases hl : 8 ≤ c3.length
       ·
        skip
        have a0 : decide ((c3.length : Int) ≥ 8) = true := decide_eq_true (by omega)
        have a1 : decide (8 ≤ c3.length) = true := decide_eq_true (by omega)
        have a2 : decide (c3.length ≥ 8) = true := decide_eq_true (by omega)
        have a3 : decide ((8 : Int) ≤ (c3.length : Int)) = true := decide_eq_true (by omega)
        have HK := Lib.hid (show (kd = 4 ∧ 8 ≤ c3.length) from ⟨h1, hl⟩)
        clear h1 hl
        go_wp2_with fail
        go_meet
        case rel => exact ⟨by rw [← HBB.out, decide_eq_true HK.out], rfl⟩
       have a0 : decide ((c3.length : Int) ≥ 8) = false := decide_eq_false (by omega)
       have a1 : decide (8 ≤ c3.length) = false := decide_eq_false (by omega)
       have a2 : decide (c3.length ≥ 8) = false := decide_eq_false (by omega)
       have a3 : decide ((8 : Int) ≤ (c3.length : Int)) = false := decide_eq_false (by omega)
       have HK := Lib.hid (show ¬ (kd = 4 ∧ 8 ≤ c3.length) from fun h => hl h.2)
       clear h1 hl
       go_wp2_with fail
       go_meet
       case rel => exact ⟨by rw [← HBB.out, decide_eq_false HK.out], rfl⟩
      have e1 : (kd == 4) = false := beq_eq_false_iff_ne.2 h1
      have HK := Lib.hid (show ¬ (kd = 4 ∧ 8 ≤ c3.length) from fun h => h1 h.1)
      clear h1
      go_wp2_with fail
      go_meet
      case rel => exact ⟨by rw [← HBB.out, decide_eq_false HK.out], rfl⟩
     case rest =>
      have hw := hcut.2
      have hv := hcut.1
      subst hv
      rw [hw]
      clear hcut hw q0 f0 q1 f1 q2 f2 q3 f3 q4 f4 q5 f5 q6 f6 q7 f7 q8 f8 q9 f9 q10 f10 q11 f11 q12 f12 q13 f13 q14 f14
      go_upto_if 93 with fail
      go_cut [] (fun wc => Aside0 (RT4e w1 g6 kd fr pn wc))
      case first =>
       cases b
       ·
        go_wp2_with fail
        go_meet
        case rel => exact ⟨_, _, _, _, _, _, by rw [← HPN.out, if_neg (fun h => by have := HBB.out; rw [decide_eq_true h] at this; cases this)]; exact HRT.out⟩
       ·
        have hb := of_decide_eq_true HBB.out
        have hpn : _ = pn := (if_pos hb).symm.trans HPN.out
        clear HPN
        have HPN := Lib.hid hpn
        clear hpn
        have hl3 : 8 ≤ c3.length := hb.2
        have hk4 : kd = 4 := hb.1
        have hdv : (c3.length : Int) / 8 = Int.tdiv (c3.length : Int) 8 := by rw [Int.tdiv_eq_ediv_of_nonneg (by omega)]
        obtain ⟨m, hm⟩ : ∃ m, Int.tdiv (c3.length : Int) 8 = m := ⟨_, rfl⟩
        have hmv0 : m = (c3.length : Int) / 8 := by rw [← hm, hdv]
        have hmw : wrap64 m = m := wrap_id (by omega) (by have := HL3.out; omega)
        have hmw1 : wrap64 (m - 1) = m - 1 := wrap_id (by omega) (by have := HL3.out; omega)
        obtain ⟨B4, d4, sl4, hd4, hC4⟩ := cut_row HC3.out HD3.out 8 hl3
        obtain ⟨c4, hc4⟩ : ∃ c, c3.drop 8 = c := ⟨_, rfl⟩
        have hb4 : By c4 := by rw [← hc4]; exact HB3.out.drop 8
        have hl4 : c4.length < 5000 := by rw [← hc4, List.length_drop]; have := HL3.out; omega
        have hm4 : (c4.length : Int) / 8 = m - 1 := by rw [← hc4, List.length_drop, hmv0]; omega
        have hpn := HPN.out
        rw [hc4] at sl4 hd4 hC4 hpn
        have sl4 : ∀ W : World, (Instr.slice 23 (.slice B3 c3.length d3) (some (.int .i64 8)) none none).run Tryd.prog W = .ok (.slice B4 c4.length d4) W := sl4
        obtain ⟨n, r, q, hq⟩ : ∃ n r q, tkn c3 8 = (n, r, q) := ⟨_, _, _, rfl⟩
        obtain ⟨L, r2, q2, hrow⟩ : ∃ n r q, rowT 8 c4 = (n, r, q) := ⟨_, _, _, rfl⟩
        rw [hq, hrow] at hpn
        have hT := rrow (W := 8) (Or.inr (Or.inr rfl)) (by decide) hb4 hl4 (m - 1) hm4
        rw [hrow] at hT
        have HPN2 := Lib.hid hpn
        have HT := Lib.hid hT
        have HC4 := ak hC4
        have HD4 := Lib.hid hd4
        have HCT := Lib.hid (show Calls Tryd.prog 27 #[.slice B3 c3.length d3, .int .i64 8] W _ from precentorref02_Take.calls 20 B3 d3 c3 8 n r q W (Kd.C_below HC3.out HRT.out.hb) HD3.out (by rw [rtake_is HB3.out (by have := HL3.out; omega) 8 (by omega), tkn_is, hq]))
        clear hb hk4 hdv hmv0 hc4 hb4 hl4 hm4 hd4 hC4 hpn hq hrow hT HPN
        go_wp2_with fail
        refine HCT.out.mono ?_
        rintro e_ w5 ⟨v6, rfl, hv6, hb5⟩
        have hn := HRT.out.below hb5
        clear HRT HCT
        have HRT := ak hn
        clear hb5 hn hv6
        have hCT : Calls Tryd.prog 28 #[.slice B4 c4.length d4, .int .i64 (m - 1), .int .i64 8] w5 _ := precentorref02_TakeRow.calls _ B4 d4 c4 (m - 1) 8 L r2 q2 w5 (Kd.C_below HC4.out HRT.out.hb) HD4.out HT.out
        have HCT := Lib.hid hCT
        clear hCT
        go_wp2_with fail
        try rw [hmw1]
        refine HCT.out.mono ?_
        rintro e_ w6 ⟨v5, v6, rfl, hr5, hv6, hb6⟩
        obtain ⟨D14, e14, rfl⟩ := Kd.R_slice hr5
        have HO := ak (Kd.R_lower (Kd.R_mono hr5 (fun _ _ => trivial)) HRT.out.hb.size : Kd.R (Kd.int .i64) 3 w6 w1.heap.size (fun _ => True) (.slice D14 L.length e14) L)
        have hn := HRT.out.below hb6
        clear HRT HCT
        have HRT := ak hn
        clear hb6 hn hv6 hr5
        obtain ⟨⟨q0, q1, q2, q3, q4, q5, q6, q7, q8, q9, q10, q11, q12, q13, q14⟩, ⟨f0, f1, f2, f3, f4, f5, f6, f7, f8, f9, f10, f11, f12, f13, f14⟩⟩ := cells15 HRT.out.x
        go_upto_region 20 with fail
        clear q0 f0 q1 f1 q2 f2 q3 f3 q4 f4 q5 f5 q6 f6 q7 f7 q8 f8 q9 f9 q10 f10 q11 f11 q12 f12 q13 f13 q14 f14
        have hmvq : Mv w6 w6 (fun k => k = g6) := Mv.below (Below.refl _ w6) _
        have hmvp := hmvq.setCell (p := ⟨g6, 13, none⟩) (Or.inl rfl) (.int .i64 n)
        have n0_ := ak (Kd.R_mono (Kd.R_kept (Kd.R_types HO.out HRT.out.x (by decide)) hmvp.kept (fun k hk he => hk.2 he)) (fun _ _ => trivial) : Kd.R (Kd.int .i64) 3 (w6.setCell ⟨g6, 13, none⟩ (.int .i64 n)) w1.heap.size (fun _ => True) (.slice D14 L.length e14) L)
        clear hmvq hmvp HO
        have hput := HRT.out.put (q := ⟨p2.k, p2.s, p2.e, p2.i, p2.t, p2.c, p2.L, p2.bo, p2.T, p2.O, p2.M, n, p2.R⟩) 13 (.int .i64 n) rfl (HRT.out.r8) (HRT.out.r9) (HRT.out.r14)
        clear HRT
        have HRT := ak hput
        clear hput
        generalize w6.setCell ⟨g6, 13, none⟩ (.int .i64 n) = W2 at *
        obtain ⟨⟨q0, q1, q2, q3, q4, q5, q6, q7, q8, q9, q10, q11, q12, q13, q14⟩, ⟨f0, f1, f2, f3, f4, f5, f6, f7, f8, f9, f10, f11, f12, f13, f14⟩⟩ := cells15 HRT.out.x
        go_wp2_with fail
        clear q0 f0 q1 f1 q2 f2 q3 f3 q4 f4 q5 f5 q6 f6 q7 f7 q8 f8 q9 f9 q10 f10 q11 f11 q12 f12 q13 f13 q14 f14
        have hput := HRT.out.put (q := ⟨p2.k, p2.s, p2.e, p2.i, p2.t, p2.c, p2.L, p2.bo, p2.T, p2.O, p2.M, n, L⟩) 14 (.slice D14 L.length e14) rfl (HRT.out.r8) (HRT.out.r9) (n0_.out)
        clear HRT
        have HRT := ak hput
        clear hput
        generalize W2.setCell ⟨g6, 14, none⟩ (.slice D14 L.length e14) = W3 at *
        go_meet
        case rel => exact ⟨_, _, _, _, _, _, by rw [← HPN2.out]; exact HRT.out⟩
      case rest =>
       have hrt := hcut
       obtain ⟨B8, d8, B9, d9, B14, d14, hrt⟩ := hrt.out
       clear HRT HBB
       have HRT := ak hrt
       clear hrt hcut
       obtain ⟨W, hW⟩ : ∃ W, W = wc := ⟨_, rfl⟩
       rw [← hW] at HRT ⊢
       clear hW
       have HQ3 := Lib.hid HPN.out
       clear HPN
       obtain ⟨p3, hm⟩ : ∃ m, m = pn := ⟨_, rfl⟩
       rw [← hm] at HRT HQ3
       clear hm
       have hpq : p3 = pq := by
        rw [← HPQ.out, ← HQ3.out, ← HQ2.out, ← HQ1.out, HP0.out]
        unfold candQ itemQ nakQ stabQ
        repeat' split
        all_goals rfl
       have hsz := candQ_small kd HB3.out HL3.out
       rw [HPQ.out, ← hpq] at hsz
       have hd := HD.out
       rw [← hpq] at hd
       refine ‹∀ (a : Act) (w' : World), _ → _› _ _ ?_
       exact precentorref04_Read.tail A0 c0 l0 w w1 W cc g6 kd fr p3 B8 d8 B9 d9 B14 d14 _ _ _ _ _ _ _ _ _ _ _ _ _ _ _ _ _ _ _ _ _ _ _ _ _ _ _ _ _ _ _ _ _ _ _ _ _ _ _ _ _ _ _ _ _ _ _ _ _ _ _ _ _ _ _ _ _ _ _ _ _ _ _ _ _ _ _ _ _ _ _ _ _ _ _ _ _ _ _ _ _ _ _ _ _ _ _ _ _ _ _ _ _ _ _ _ _ _ _ _ _ _ _ _ _ _ _ _ _ _ _ _ _ _ _ _ _ _ _ _ _ _ _ _ _ HB.out HX.out HS.out HR0.out HY.out hd hsz HRT.out _ rfl
theorem precentorref04_Read.is (A0 : Option Addr) (c0 : Nat) (l0 : List Int) (w : World) (hr0 : Kd.C (Kd.int .u8) w A0 l0.length l0) (hc0 : l0.length ≤ c0) (hb : By l0) (hl : l0.length < 5000) : Calls Tryd.prog 12 #[.slice A0 l0.length c0] w (PRead w (readP l0)) := by
 by_cases ho : (openS l0).2 = 0
 ·
  rw [← refC_is hb hl ho]
  by_cases h3 : (openS l0).1.length < 3
  ·
   have h := precentorref04_Read.short A0 c0 l0 w hr0 hc0 hb hl ho h3
   rwa [show refC l0 (openS l0).1 = tell16 none 2 by unfold refC; rw [if_pos h3]]
  ·
   exact precentorref04_Read.more A0 c0 l0 w hr0 hc0 hb hl ho h3
 ·
  have h := precentorref04_Read.bad A0 c0 l0 w hr0 hc0 hb hl ho
  rwa [show readP l0 = tell16 none (openS l0).2 by unfold readP; rw [if_neg ho]]
def precentorref04_Read.f (l : List Int) : Option (Int × Int × Int × Int × Int × Int × Int × Int × List Int × List Int × Int × Int × Int × Int × List Int × Int) := if l.all (fun c => decide (0 ≤ c ∧ c ≤ 255)) = true ∧ l.length < 5000 then some (readP l) else none
theorem precentorref04_Read.calls (A0 : Option Addr) (c0 : Nat) (l0 : List Int) (r1 r2 r3 r4 r5 r6 r7 r8 : Int) (r9 r10 : List Int) (r11 r12 r13 r14 : Int) (r15 : List Int) (r16 : Int) (w : World) (hr0 : Kd.C (Kd.int .u8) w A0 l0.length l0) (hc0 : l0.length ≤ c0) (h : precentorref04_Read.f l0 = some (r1, r2, r3, r4, r5, r6, r7, r8, r9, r10, r11, r12, r13, r14, r15, r16)) :
  Calls Tryd.prog 12 #[.slice A0 l0.length c0] w fun e w' => ∃ v8_ v9_ v14_ : Value, e = .returned (.tuple #[.agg #[.int .i64 r1, .int .i64 r2, .int .i64 r3, .int .i64 r4, .int .i64 r5, .int .i64 r6, .int .i64 r7, .int .i64 r8, v8_, v9_, .int .i64 r11, .int .i64 r12, .int .i64 r13, .int .i64 r14, v14_], .int .i64 r16]) ∧ Kd.R (Kd.int .i64) 3 w' w.heap.size (fun _ => True) v8_ r9 ∧ Kd.R (Kd.int .u8) 5 w' w.heap.size (fun _ => True) v9_ r10 ∧ Kd.R (Kd.int .i64) 3 w' w.heap.size (fun _ => True) v14_ r15 ∧ Below w.heap.size w w' := by
 unfold precentorref04_Read.f at h
 split at h
 ·
  rename_i hc
  have hb : By l0 := fun c hm => of_decide_eq_true (List.all_eq_true.1 hc.1 c hm)
  have hh := precentorref04_Read.is A0 c0 l0 w hr0 hc0 hb hc.2
  unfold PRead at hh
  rw [Option.some.inj h] at hh
  exact hh
 ·
  cases h
end Go.Proofs.YtieolhhokepkjaaDoor.Print
