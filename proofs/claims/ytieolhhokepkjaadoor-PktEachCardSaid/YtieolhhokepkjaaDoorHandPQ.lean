/- What stands behind a packet's head: pkt.rest, and that each call gives just that. Conditions stand in each theorem. -/
import Derived.Test.YtieolhhokepkjaaDoorPP
import Derived.Test.YtieolhhokepkjaaDoorHand9
import Derived.Deep.Light
namespace Go.Proofs.YtieolhhokepkjaaDoor.Print
set_option linter.unusedVariables false
set_option linter.unusedSimpArgs false
open Go.RowKit Go.Proofs.YtieolhhokepkjaaDoorW.PrintWords Go.Proofs.YtieolhhokepkjaaDoorW.PrintLast Go.Proofs.YtieolhhokepkjaaDoorW.PrintMore Go.Proofs.YtieolhhokepkjaaDoor.NumPlain
/-- A packet's parts behind its kind and its sender. -/
structure PK where
 (k s e i t c : Int) (L bo : List Int) (T O M P : Int) (R : List Int)
def tkn (l : List Int) (W : Int) : Int × List Int × Int := (num_Take.f l W).getD (0, [], 1)
theorem tkn_is (l : List Int) (W : Int) : num_Take.f l W = some ((tkn l W).1, (tkn l W).2.1, (tkn l W).2.2) := by
 obtain ⟨p, hp⟩ := take_some l W
 unfold tkn
 rw [hp]; rfl
theorem tkn_by {l : List Int} (hb : By l) (W : Int) : By (tkn l W).2.1 ∧ (tkn l W).2.1.length ≤ l.length := by
 have h0 : By ([] : List Int) := fun _ h => absurd h List.not_mem_nil
 unfold tkn num_Take.f
 split
 ·
  exact ⟨h0, by simp⟩
 ·
  split
  ·
   exact ⟨h0, by simp⟩
  ·
   split
   ·
    exact ⟨h0, by simp⟩
   ·
    exact ⟨hb.drop _, by simp⟩
def itemPK (q : Int × Int × Int × Int × Int × Int × List Int × List Int × Int) : PK := ⟨q.1, q.2.1, q.2.2.1, q.2.2.2.1, q.2.2.2.2.1, q.2.2.2.2.2.1, q.2.2.2.2.2.2.1, q.2.2.2.2.2.2.2.1, 0, 0, 0, 0, []⟩
def nakPK (l : List Int) : PK := ⟨0, 0, 0, 0, 0, 0, [], [], (tkn l 1).1, (tkn (tkn l 1).2.1 8).1, (tkn (tkn (tkn l 1).2.1 8).2.1 1).1, 0, []⟩
def stabPK (l : List Int) : PK := ⟨0, 0, 0, 0, 0, 0, [], [], 0, 0, 0, (tkn l 8).1, (rowT 8 (tkn l 8).2.1).1⟩
def nonePK : PK := ⟨0, 0, 0, 0, 0, 0, [], [], 0, 0, 0, 0, []⟩
/-- An error, unless nothing is left. -/
def endE (q : Int) (l : List Int) : Int := if (q == 0) = true then (if 0 < l.length then 2 else 0) else q
def restP (K : Int) (l : List Int) : PK × Int :=
 if K = 1 ∨ K = 2 then (itemPK (tell9 (takeItem l)), (tell9 (takeItem l)).2.2.2.2.2.2.2.2)
 else if K = 3 then (nakPK l, endE (tkn (tkn (tkn l 1).2.1 8).2.1 1).2.2 (tkn (tkn (tkn l 1).2.1 8).2.1 1).2.1)
 else if K = 4 then (stabPK l, endE (rowT 8 (tkn l 8).2.1).2.2 (rowT 8 (tkn l 8).2.1).2.1)
 else (nonePK, endE 0 l)
/-- What is known behind a call of pkt.rest. -/
def PRest (w : World) (K F : Int) (p : PK) (q : Int) (e' : Ending) (w' : World) : Prop :=
 ∃ (B8 : Option Addr) (d8 : Nat) (B9 : Option Addr) (d9 : Nat) (B14 : Option Addr) (d14 : Nat), e' = .returned (.tuple #[.agg #[.int .i64 K, .int .i64 F, .int .i64 p.k, .int .i64 p.s, .int .i64 p.e, .int .i64 p.i, .int .i64 p.t, .int .i64 p.c, .slice B8 p.L.length d8, .slice B9 p.bo.length d9, .int .i64 p.T, .int .i64 p.O, .int .i64 p.M, .int .i64 p.P, .slice B14 p.R.length d14], .int .i64 q]) ∧
  Kd.R (Kd.int .i64) 3 w' w.heap.size (fun _ => True) (.slice B8 p.L.length d8) p.L ∧ Kd.R (Kd.int .u8) 5 w' w.heap.size (fun _ => True) (.slice B9 p.bo.length d9) p.bo ∧ Kd.R (Kd.int .i64) 3 w' w.heap.size (fun _ => True) (.slice B14 p.R.length d14) p.R ∧ Below w.heap.size w w'
def Qp (w : World) (k : Nat) : Prop := k < w.heap.size ∨ w.heap.size + 2 ≤ k
/-- The two boxes, and what is left of the bytes. -/
structure PT (w W : World) (cs : Array Value) (A : Option Addr) (c : Nat) (l : List Int) : Prop where
 x : W.heap[w.heap.size]? = some (.cells cs 27 (0, 0))
 y : W.heap[w.heap.size + 1]? = some (.cells #[.int .i64 0, .int .i64 0, .int .i64 0, .int .i64 0, .int .i64 0, .int .i64 0, .int .i64 0, .int .i64 0, .slice none 0 0, .slice none 0 0, .int .i64 0, .int .i64 0, .int .i64 0, .int .i64 0, .slice none 0 0] 27 (0, 0))
 f : Kd.F (Kd.int .u8) W (Qp w) A l.length l
 hc : l.length ≤ c
 hb : Below w.heap.size w W
 hs : w.heap.size + 2 ≤ W.heap.size
theorem PT.put {w W : World} {cs cs' : Array Value} {A : Option Addr} {c : Nat} {l : List Int} (h : PT w W cs A c l) (j : Nat) (v : Value) (hcs : cs.setIfInBounds j v = cs') : PT w (W.setCell ⟨w.heap.size, j, none⟩ v) cs' A c l := by
 have hk0 : Mv W W (fun k => k = w.heap.size) := Mv.below (Below.refl _ W) _
 have hk := hk0.setCell (p := ⟨w.heap.size, j, none⟩) (Or.inl rfl) v
 have hs := h.hs
 exact ⟨blk_put h.x j v hcs, blk_kept h.y hk.kept (by omega), Kd.F_kept h.f hk.kept (fun k hq he => by unfold Qp at hq; have := hk.2; omega), h.hc, Mv.to h.hb hk (fun k hk => by omega) h.hb.size, Nat.le_trans h.hs hk.kept.1⟩
theorem PT.below {w W W1 : World} {cs : Array Value} {A : Option Addr} {c : Nat} {l : List Int} (h : PT w W cs A c l) (hb : Below W.heap.size W W1) : PT w W1 cs A c l :=
 ⟨blk_below h.x hb, blk_below h.y hb, Kd.F_below h.f hb, h.hc, below_step h.hb hb, Nat.le_trans h.hs hb.size⟩
theorem PT.take {w W : World} {cs cs' : Array Value} {A : Option Addr} {c : Nat} {l r : List Int} (h : PT w W cs A c l) (hG : GB w) (wd n q : Int) (ht : num_Take.f l wd = some (n, r, q)) (j : Nat) (hcs : cs.setIfInBounds j (.int .i64 n) = cs') :
  Calls Tryd.prog 50 #[.slice A l.length c, .int .i64 wd] W fun e' w1 => ∃ (A1 : Option Addr) (c1 : Nat), e' = .returned (.tuple #[.int .i64 n, .slice A1 r.length c1, .int .i64 q]) ∧ PT w (w1.setCell ⟨w.heap.size, j, none⟩ (.int .i64 n)) cs' A1 c1 r ∧ PT w w1 cs A1 c1 r := by
 refine (num_Take.calls (Qp w) A c l wd n r q W (Kd.V_mk h.hc h.f) (GB.below hG h.hb) ht).mono ?_
 rintro e w1 ⟨v1, rfl, ⟨A1, c1, rfl, hc1, hF1⟩, hb⟩
 have hn : PT w w1 cs A1 c1 r := ⟨blk_below h.x hb, blk_below h.y hb, Kd.F_mono hF1 (fun k hk => by have := h.hs; unfold Qp at *; omega), hc1, below_step h.hb hb, Nat.le_trans h.hs hb.size⟩
 exact ⟨A1, c1, rfl, hn.put j _ hcs, hn⟩
theorem rests0 (w : World) (K F : Int) (A : Option Addr) (c : Nat) (l : List Int) (hF : Kd.F (Kd.int .u8) w (fun k => k < w.heap.size) A l.length l) (hc : l.length ≤ c) : ∃ w0 : World, (w.alloc (Obj.cells #[.int .i64 K, .int .i64 F, .int .i64 0, .int .i64 0, .int .i64 0, .int .i64 0, .int .i64 0, .int .i64 0, .slice none 0 0, .slice none 0 0, .int .i64 0, .int .i64 0, .int .i64 0, .int .i64 0, .slice none 0 0] 27)).alloc (Obj.cells #[.int .i64 0, .int .i64 0, .int .i64 0, .int .i64 0, .int .i64 0, .int .i64 0, .int .i64 0, .int .i64 0, .slice none 0 0, .slice none 0 0, .int .i64 0, .int .i64 0, .int .i64 0, .int .i64 0, .slice none 0 0] 27) = w0 ∧ PT w w0 #[.int .i64 K, .int .i64 F, .int .i64 0, .int .i64 0, .int .i64 0, .int .i64 0, .int .i64 0, .int .i64 0, .slice none 0 0, .slice none 0 0, .int .i64 0, .int .i64 0, .int .i64 0, .int .i64 0, .slice none 0 0] A c l := by
 have hb := below_alloc (below_alloc (Below.refl w.heap.size w) (Obj.cells #[.int .i64 K, .int .i64 F, .int .i64 0, .int .i64 0, .int .i64 0, .int .i64 0, .int .i64 0, .int .i64 0, .slice none 0 0, .slice none 0 0, .int .i64 0, .int .i64 0, .int .i64 0, .int .i64 0, .slice none 0 0] 27)) (Obj.cells #[.int .i64 0, .int .i64 0, .int .i64 0, .int .i64 0, .int .i64 0, .int .i64 0, .int .i64 0, .int .i64 0, .slice none 0 0, .slice none 0 0, .int .i64 0, .int .i64 0, .int .i64 0, .int .i64 0, .slice none 0 0] 27)
 exact ⟨_, rfl, blk_alloc (blk_new w _) _, by have := blk_new (w.alloc (Obj.cells #[.int .i64 K, .int .i64 F, .int .i64 0, .int .i64 0, .int .i64 0, .int .i64 0, .int .i64 0, .int .i64 0, .slice none 0 0, .slice none 0 0, .int .i64 0, .int .i64 0, .int .i64 0, .int .i64 0, .slice none 0 0] 27)) (Obj.cells #[.int .i64 0, .int .i64 0, .int .i64 0, .int .i64 0, .int .i64 0, .int .i64 0, .int .i64 0, .int .i64 0, .slice none 0 0, .slice none 0 0, .int .i64 0, .int .i64 0, .int .i64 0, .int .i64 0, .slice none 0 0] 27); simpa using this, Kd.F_mono (Kd.F_below hF hb) (fun k hk => Or.inl hk), hc, hb, by simp⟩
set_option maxRecDepth 100000 in
set_option maxHeartbeats 4000000 in
theorem pkt_rest.other (K : Int) (F : Int) (A0 : Option Addr) (c0 : Nat) (l0 : List Int) (w : World) (hr0 : Kd.C (Kd.int .u8) w A0 l0.length l0) (hc0 : l0.length ≤ c0) (hb : By l0) (hl : l0.length < 10000) (hG : GB w) (hK : ¬ (K = 1 ∨ K = 2 ∨ K = 3 ∨ K = 4)) :
  Calls Tryd.prog 24 #[.agg #[.int .i64 K, .int .i64 F, .int .i64 0, .int .i64 0, .int .i64 0, .int .i64 0, .int .i64 0, .int .i64 0, .slice none 0 0, .slice none 0 0, .int .i64 0, .int .i64 0, .int .i64 0, .int .i64 0, .slice none 0 0], .slice A0 l0.length c0] w (PRest w K F nonePK (endE 0 l0)) := by
 have k1 : (K == 1) = false := beq_eq_false_iff_ne.2 (by omega)
 have k2 : (K == 2) = false := beq_eq_false_iff_ne.2 (by omega)
 have k3 : (K == 3) = false := beq_eq_false_iff_ne.2 (by omega)
 have k4 : (K == 4) = false := beq_eq_false_iff_ne.2 (by omega)
 obtain ⟨w0, hw0, hP⟩ := rests0 w K F A0 c0 l0 (Kd.C_F (Kd.heap_int .u8) hr0) hc0
 have HP := ak hP
 have HG := Lib.hid hG
 have HY := Lib.hid hb
 have HL := Lib.hid hl
 obtain ⟨⟨q0, q1, q2, q3, q4, q5, q6, q7, q8, q9, q10, q11, q12, q13, q14⟩, ⟨f0, f1, f2, f3, f4, f5, f6, f7, f8, f9, f10, f11, f12, f13, f14⟩⟩ := cells15 HP.out.x
 clear hr0 hc0 hb hl hG hP
 clear hK
 obtain ⟨⟨z0, z1, z2, z3, z4, z5, z6, z7, z8, z9, z10, z11, z12, z13, z14⟩, ⟨g0, g1, g2, g3, g4, g5, g6, g7, g8, g9, g10, g11, g12, g13, g14⟩⟩ := cells15 HP.out.y
 by_cases hn : 0 < l0.length
 ·
  have hE := Lib.hid (show endE 0 l0 = 2 by unfold endE; rw [if_pos (by rfl), if_pos hn])
  have a1 : decide (0 < (l0.length : Int)) = true := decide_eq_true (by omega)
  have a2 : decide ((l0.length : Int) > 0) = true := decide_eq_true (by omega)
  have a3 : decide (0 < l0.length) = true := decide_eq_true hn
  clear hn
  go_enter Tryd.func24, Tryd.ntmps24
  go_wp2_with fail
  obtain ⟨W', hW', x4, hmv⟩ := box15 HP.out.y (.int .i64 K) (.int .i64 F) (.int .i64 0) (.int .i64 0) (.int .i64 0) (.int .i64 0) (.int .i64 0) (.int .i64 0) (.slice none 0 0) (.slice none 0 0) (.int .i64 0) (.int .i64 0) (.int .i64 0) (.int .i64 0) (.slice none 0 0)
  rw [hW']
  clear hW'
  clear q0 f0 q1 f1 q2 f2 q3 f3 q4 f4 q5 f5 q6 f6 q7 f7 q8 f8 q9 f9 q10 f10 q11 f11 q12 f12 q13 f13 q14 f14
  clear z0 g0 z1 g1 z2 g2 z3 g3 z4 g4 z5 g5 z6 g6 z7 g7 z8 g8 z9 g9 z10 g10 z11 g11 z12 g12 z13 g13 z14 g14
  have hB' : Below w.heap.size w W' := Mv.to HP.out.hb hmv (fun k hk => by omega) HP.out.hb.size
  obtain ⟨⟨y0, y1, y2, y3, y4, y5, y6, y7, y8, y9, y10, y11, y12, y13, y14⟩, _⟩ := cells15 x4
  exact bodyPost_ret (v := .tuple #[.agg #[.int .i64 K, .int .i64 F, .int .i64 0, .int .i64 0, .int .i64 0, .int .i64 0, .int .i64 0, .int .i64 0, .slice none 0 0, .slice none 0 0, .int .i64 0, .int .i64 0, .int .i64 0, .int .i64 0, .slice none 0 0], .int .i64 2]) (by simp [results, Tryd.results24, go_sem, y0, y1, y2, y3, y4, y5, y6, y7, y8, y9, y10, y11, y12, y13, y14]) rfl (by rw [hE.out]; exact ⟨_, _, _, _, _, _, rfl, Kd.R_nil _ _ _ _ _, Kd.R_nil _ _ _ _ _, Kd.R_nil _ _ _ _ _, hB'⟩)
 ·
  have hE := Lib.hid (show endE 0 l0 = 0 by unfold endE; rw [if_pos (by rfl), if_neg hn])
  have a1 : decide (0 < (l0.length : Int)) = false := decide_eq_false (by omega)
  have a2 : decide ((l0.length : Int) > 0) = false := decide_eq_false (by omega)
  have a3 : decide (0 < l0.length) = false := decide_eq_false hn
  clear hn
  go_enter Tryd.func24, Tryd.ntmps24
  go_wp2_with fail
  obtain ⟨W', hW', x4, hmv⟩ := box15 HP.out.y (.int .i64 K) (.int .i64 F) (.int .i64 0) (.int .i64 0) (.int .i64 0) (.int .i64 0) (.int .i64 0) (.int .i64 0) (.slice none 0 0) (.slice none 0 0) (.int .i64 0) (.int .i64 0) (.int .i64 0) (.int .i64 0) (.slice none 0 0)
  rw [hW']
  clear hW'
  clear q0 f0 q1 f1 q2 f2 q3 f3 q4 f4 q5 f5 q6 f6 q7 f7 q8 f8 q9 f9 q10 f10 q11 f11 q12 f12 q13 f13 q14 f14
  clear z0 g0 z1 g1 z2 g2 z3 g3 z4 g4 z5 g5 z6 g6 z7 g7 z8 g8 z9 g9 z10 g10 z11 g11 z12 g12 z13 g13 z14 g14
  have hB' : Below w.heap.size w W' := Mv.to HP.out.hb hmv (fun k hk => by omega) HP.out.hb.size
  obtain ⟨⟨y0, y1, y2, y3, y4, y5, y6, y7, y8, y9, y10, y11, y12, y13, y14⟩, _⟩ := cells15 x4
  exact bodyPost_ret (v := .tuple #[.agg #[.int .i64 K, .int .i64 F, .int .i64 0, .int .i64 0, .int .i64 0, .int .i64 0, .int .i64 0, .int .i64 0, .slice none 0 0, .slice none 0 0, .int .i64 0, .int .i64 0, .int .i64 0, .int .i64 0, .slice none 0 0], .int .i64 0]) (by simp [results, Tryd.results24, go_sem, y0, y1, y2, y3, y4, y5, y6, y7, y8, y9, y10, y11, y12, y13, y14]) rfl (by rw [hE.out]; exact ⟨_, _, _, _, _, _, rfl, Kd.R_nil _ _ _ _ _, Kd.R_nil _ _ _ _ _, Kd.R_nil _ _ _ _ _, hB'⟩)
set_option maxRecDepth 100000 in
set_option maxHeartbeats 4000000 in
theorem pkt_rest.nak (F : Int) (A0 : Option Addr) (c0 : Nat) (l0 : List Int) (w : World) (hr0 : Kd.C (Kd.int .u8) w A0 l0.length l0) (hc0 : l0.length ≤ c0) (hb : By l0) (hl : l0.length < 10000) (hG : GB w) :
  Calls Tryd.prog 24 #[.agg #[.int .i64 3, .int .i64 F, .int .i64 0, .int .i64 0, .int .i64 0, .int .i64 0, .int .i64 0, .int .i64 0, .slice none 0 0, .slice none 0 0, .int .i64 0, .int .i64 0, .int .i64 0, .int .i64 0, .slice none 0 0], .slice A0 l0.length c0] w (PRest w 3 F (nakPK l0) (endE (tkn (tkn (tkn l0 1).2.1 8).2.1 1).2.2 (tkn (tkn (tkn l0 1).2.1 8).2.1 1).2.1)) := by
 obtain ⟨w0, hw0, hP⟩ := rests0 w 3 F A0 c0 l0 (Kd.C_F (Kd.heap_int .u8) hr0) hc0
 have HP := ak hP
 have HG := Lib.hid hG
 have HY := Lib.hid hb
 have HL := Lib.hid hl
 obtain ⟨⟨q0, q1, q2, q3, q4, q5, q6, q7, q8, q9, q10, q11, q12, q13, q14⟩, ⟨f0, f1, f2, f3, f4, f5, f6, f7, f8, f9, f10, f11, f12, f13, f14⟩⟩ := cells15 HP.out.x
 clear hr0 hc0 hb hl hG hP
 obtain ⟨n1, r1, e1, h1⟩ : ∃ n r q, tkn l0 1 = (n, r, q) := ⟨_, _, _, rfl⟩
 obtain ⟨n2, r2, e2, h2⟩ : ∃ n r q, tkn r1 8 = (n, r, q) := ⟨_, _, _, rfl⟩
 obtain ⟨n3, r3, e3, h3⟩ : ∃ n r q, tkn r2 1 = (n, r, q) := ⟨_, _, _, rfl⟩
 have HN := Lib.hid (show nakPK l0 = ⟨0, 0, 0, 0, 0, 0, [], [], n1, n2, n3, 0, []⟩ by unfold nakPK; rw [h1]; simp only []; rw [h2]; simp only []; rw [h3])
 have HE := Lib.hid (show endE (tkn (tkn (tkn l0 1).2.1 8).2.1 1).2.2 (tkn (tkn (tkn l0 1).2.1 8).2.1 1).2.1 = endE e3 r3 by rw [h1]; simp only []; rw [h2]; simp only []; rw [h3])
 have HT1 := Lib.hid (show num_Take.f l0 1 = some (n1, r1, e1) by rw [tkn_is, h1])
 have HT2 := Lib.hid (show num_Take.f r1 8 = some (n2, r2, e2) by rw [tkn_is, h2])
 have HT3 := Lib.hid (show num_Take.f r2 1 = some (n3, r3, e3) by rw [tkn_is, h3])
 clear h1 h2 h3
 have HT := Lib.hid (HP.out.take (cs' := #[.int .i64 3, .int .i64 F, .int .i64 0, .int .i64 0, .int .i64 0, .int .i64 0, .int .i64 0, .int .i64 0, .slice none 0 0, .slice none 0 0, .int .i64 n1, .int .i64 0, .int .i64 0, .int .i64 0, .slice none 0 0]) HG.out 1 n1 e1 HT1.out 10 rfl)
 go_enter Tryd.func24, Tryd.ntmps24
 go_wp2_with fail
 refine HT.out.mono ?_
 rintro e_ w1 ⟨A1, c1, rfl, hP, hP'⟩
 clear HT HP q0 f0 q1 f1 q2 f2 q3 f3 q4 f4 q5 f5 q6 f6 q7 f7 q8 f8 q9 f9 q10 f10 q11 f11 q12 f12 q13 f13 q14 f14
 have HP := ak hP
 obtain ⟨⟨q0, q1, q2, q3, q4, q5, q6, q7, q8, q9, q10, q11, q12, q13, q14⟩, ⟨f0, f1, f2, f3, f4, f5, f6, f7, f8, f9, f10, f11, f12, f13, f14⟩⟩ := cells15 hP'.x
 have HT := Lib.hid (HP.out.take (cs' := #[.int .i64 3, .int .i64 F, .int .i64 0, .int .i64 0, .int .i64 0, .int .i64 0, .int .i64 0, .int .i64 0, .slice none 0 0, .slice none 0 0, .int .i64 n1, .int .i64 n2, .int .i64 0, .int .i64 0, .slice none 0 0]) HG.out 8 n2 e2 HT2.out 11 rfl)
 clear hP hP' hw0
 go_wp2_with fail
 refine HT.out.mono ?_
 rintro e_ w2 ⟨A2, c2, rfl, hP, hP'⟩
 clear HT HP q0 f0 q1 f1 q2 f2 q3 f3 q4 f4 q5 f5 q6 f6 q7 f7 q8 f8 q9 f9 q10 f10 q11 f11 q12 f12 q13 f13 q14 f14
 have HP := ak hP
 obtain ⟨⟨q0, q1, q2, q3, q4, q5, q6, q7, q8, q9, q10, q11, q12, q13, q14⟩, ⟨f0, f1, f2, f3, f4, f5, f6, f7, f8, f9, f10, f11, f12, f13, f14⟩⟩ := cells15 hP'.x
 have HT := Lib.hid (HP.out.take (cs' := #[.int .i64 3, .int .i64 F, .int .i64 0, .int .i64 0, .int .i64 0, .int .i64 0, .int .i64 0, .int .i64 0, .slice none 0 0, .slice none 0 0, .int .i64 n1, .int .i64 n2, .int .i64 n3, .int .i64 0, .slice none 0 0]) HG.out 1 n3 e3 HT3.out 12 rfl)
 clear hP hP'
 go_wp2_with fail
 refine HT.out.mono ?_
 rintro e_ w3 ⟨A3, c3, rfl, hP, hP'⟩
 clear HT HP q0 f0 q1 f1 q2 f2 q3 f3 q4 f4 q5 f5 q6 f6 q7 f7 q8 f8 q9 f9 q10 f10 q11 f11 q12 f12 q13 f13 q14 f14
 have HP := ak hP
 obtain ⟨⟨q0, q1, q2, q3, q4, q5, q6, q7, q8, q9, q10, q11, q12, q13, q14⟩, ⟨f0, f1, f2, f3, f4, f5, f6, f7, f8, f9, f10, f11, f12, f13, f14⟩⟩ := cells15 hP'.x
 clear hP hP' HT1 HT2 HT3
 go_upto_region 14 with fail
 clear q0 f0 q1 f1 q2 f2 q3 f3 q4 f4 q5 f5 q6 f6 q7 f7 q8 f8 q9 f9 q10 f10 q11 f11 q12 f12 q13 f13 q14 f14
 obtain ⟨⟨q0, q1, q2, q3, q4, q5, q6, q7, q8, q9, q10, q11, q12, q13, q14⟩, ⟨f0, f1, f2, f3, f4, f5, f6, f7, f8, f9, f10, f11, f12, f13, f14⟩⟩ := cells15 HP.out.x
 obtain ⟨⟨z0, z1, z2, z3, z4, z5, z6, z7, z8, z9, z10, z11, z12, z13, z14⟩, ⟨g0, g1, g2, g3, g4, g5, g6, g7, g8, g9, g10, g11, g12, g13, g14⟩⟩ := cells15 HP.out.y
 generalize hg3_ : w3.setCell ⟨w.heap.size, 12, none⟩ (.int .i64 n3) = w4 at *
 clear hg3_
 by_cases hq : (e3 == 0) = true
 ·
  obtain rfl := eq_of_beq hq
  by_cases hn : 0 < r3.length
  ·
   have hE := Lib.hid (show endE 0 r3 = 2 by unfold endE; rw [if_pos (by rfl), if_pos hn])
   have a1 : decide (0 < (r3.length : Int)) = true := decide_eq_true (by omega)
   have a2 : decide ((r3.length : Int) > 0) = true := decide_eq_true (by omega)
   have a3 : decide (0 < r3.length) = true := decide_eq_true hn
   clear hn hq
   go_wp2_with fail
   obtain ⟨W', hW', x4, hmv⟩ := box15 HP.out.y (.int .i64 3) (.int .i64 F) (.int .i64 0) (.int .i64 0) (.int .i64 0) (.int .i64 0) (.int .i64 0) (.int .i64 0) (.slice none 0 0) (.slice none 0 0) (.int .i64 n1) (.int .i64 n2) (.int .i64 n3) (.int .i64 0) (.slice none 0 0)
   rw [hW']
   clear hW'
   clear q0 f0 q1 f1 q2 f2 q3 f3 q4 f4 q5 f5 q6 f6 q7 f7 q8 f8 q9 f9 q10 f10 q11 f11 q12 f12 q13 f13 q14 f14
   clear z0 g0 z1 g1 z2 g2 z3 g3 z4 g4 z5 g5 z6 g6 z7 g7 z8 g8 z9 g9 z10 g10 z11 g11 z12 g12 z13 g13 z14 g14
   have hB' : Below w.heap.size w W' := Mv.to HP.out.hb hmv (fun k hk => by omega) HP.out.hb.size
   obtain ⟨⟨y0, y1, y2, y3, y4, y5, y6, y7, y8, y9, y10, y11, y12, y13, y14⟩, _⟩ := cells15 x4
   exact bodyPost_ret (v := .tuple #[.agg #[.int .i64 3, .int .i64 F, .int .i64 0, .int .i64 0, .int .i64 0, .int .i64 0, .int .i64 0, .int .i64 0, .slice none 0 0, .slice none 0 0, .int .i64 n1, .int .i64 n2, .int .i64 n3, .int .i64 0, .slice none 0 0], .int .i64 2]) (by simp [results, Tryd.results24, go_sem, y0, y1, y2, y3, y4, y5, y6, y7, y8, y9, y10, y11, y12, y13, y14]) rfl (by rw [HN.out, HE.out, hE.out]; exact ⟨_, _, _, _, _, _, rfl, Kd.R_nil _ _ _ _ _, Kd.R_nil _ _ _ _ _, Kd.R_nil _ _ _ _ _, hB'⟩)
  ·
   have hE := Lib.hid (show endE 0 r3 = 0 by unfold endE; rw [if_pos (by rfl), if_neg hn])
   have a1 : decide (0 < (r3.length : Int)) = false := decide_eq_false (by omega)
   have a2 : decide ((r3.length : Int) > 0) = false := decide_eq_false (by omega)
   have a3 : decide (0 < r3.length) = false := decide_eq_false hn
   clear hn hq
   go_wp2_with fail
   obtain ⟨W', hW', x4, hmv⟩ := box15 HP.out.y (.int .i64 3) (.int .i64 F) (.int .i64 0) (.int .i64 0) (.int .i64 0) (.int .i64 0) (.int .i64 0) (.int .i64 0) (.slice none 0 0) (.slice none 0 0) (.int .i64 n1) (.int .i64 n2) (.int .i64 n3) (.int .i64 0) (.slice none 0 0)
   rw [hW']
   clear hW'
   clear q0 f0 q1 f1 q2 f2 q3 f3 q4 f4 q5 f5 q6 f6 q7 f7 q8 f8 q9 f9 q10 f10 q11 f11 q12 f12 q13 f13 q14 f14
   clear z0 g0 z1 g1 z2 g2 z3 g3 z4 g4 z5 g5 z6 g6 z7 g7 z8 g8 z9 g9 z10 g10 z11 g11 z12 g12 z13 g13 z14 g14
   have hB' : Below w.heap.size w W' := Mv.to HP.out.hb hmv (fun k hk => by omega) HP.out.hb.size
   obtain ⟨⟨y0, y1, y2, y3, y4, y5, y6, y7, y8, y9, y10, y11, y12, y13, y14⟩, _⟩ := cells15 x4
   exact bodyPost_ret (v := .tuple #[.agg #[.int .i64 3, .int .i64 F, .int .i64 0, .int .i64 0, .int .i64 0, .int .i64 0, .int .i64 0, .int .i64 0, .slice none 0 0, .slice none 0 0, .int .i64 n1, .int .i64 n2, .int .i64 n3, .int .i64 0, .slice none 0 0], .int .i64 0]) (by simp [results, Tryd.results24, go_sem, y0, y1, y2, y3, y4, y5, y6, y7, y8, y9, y10, y11, y12, y13, y14]) rfl (by rw [HN.out, HE.out, hE.out]; exact ⟨_, _, _, _, _, _, rfl, Kd.R_nil _ _ _ _ _, Kd.R_nil _ _ _ _ _, Kd.R_nil _ _ _ _ _, hB'⟩)
 ·
  have hE := Lib.hid (show endE e3 r3 = e3 by unfold endE; rw [if_neg hq])
  have hq := Bool.eq_false_iff.2 hq
  go_wp2_with fail
  obtain ⟨W', hW', x4, hmv⟩ := box15 HP.out.y (.int .i64 3) (.int .i64 F) (.int .i64 0) (.int .i64 0) (.int .i64 0) (.int .i64 0) (.int .i64 0) (.int .i64 0) (.slice none 0 0) (.slice none 0 0) (.int .i64 n1) (.int .i64 n2) (.int .i64 n3) (.int .i64 0) (.slice none 0 0)
  rw [hW']
  clear hW'
  clear q0 f0 q1 f1 q2 f2 q3 f3 q4 f4 q5 f5 q6 f6 q7 f7 q8 f8 q9 f9 q10 f10 q11 f11 q12 f12 q13 f13 q14 f14
  clear z0 g0 z1 g1 z2 g2 z3 g3 z4 g4 z5 g5 z6 g6 z7 g7 z8 g8 z9 g9 z10 g10 z11 g11 z12 g12 z13 g13 z14 g14
  have hB' : Below w.heap.size w W' := Mv.to HP.out.hb hmv (fun k hk => by omega) HP.out.hb.size
  obtain ⟨⟨y0, y1, y2, y3, y4, y5, y6, y7, y8, y9, y10, y11, y12, y13, y14⟩, _⟩ := cells15 x4
  exact bodyPost_ret (v := .tuple #[.agg #[.int .i64 3, .int .i64 F, .int .i64 0, .int .i64 0, .int .i64 0, .int .i64 0, .int .i64 0, .int .i64 0, .slice none 0 0, .slice none 0 0, .int .i64 n1, .int .i64 n2, .int .i64 n3, .int .i64 0, .slice none 0 0], .int .i64 e3]) (by simp [results, Tryd.results24, go_sem, y0, y1, y2, y3, y4, y5, y6, y7, y8, y9, y10, y11, y12, y13, y14]) rfl (by rw [HN.out, HE.out, hE.out]; exact ⟨_, _, _, _, _, _, rfl, Kd.R_nil _ _ _ _ _, Kd.R_nil _ _ _ _ _, Kd.R_nil _ _ _ _ _, hB'⟩)
set_option maxRecDepth 100000 in
set_option maxHeartbeats 4000000 in
theorem pkt_rest.stab (F : Int) (A0 : Option Addr) (c0 : Nat) (l0 : List Int) (w : World) (hr0 : Kd.C (Kd.int .u8) w A0 l0.length l0) (hc0 : l0.length ≤ c0) (hb : By l0) (hl : l0.length < 10000) (hG : GB w) :
  Calls Tryd.prog 24 #[.agg #[.int .i64 4, .int .i64 F, .int .i64 0, .int .i64 0, .int .i64 0, .int .i64 0, .int .i64 0, .int .i64 0, .slice none 0 0, .slice none 0 0, .int .i64 0, .int .i64 0, .int .i64 0, .int .i64 0, .slice none 0 0], .slice A0 l0.length c0] w (PRest w 4 F (stabPK l0) (endE (rowT 8 (tkn l0 8).2.1).2.2 (rowT 8 (tkn l0 8).2.1).2.1)) := by
 obtain ⟨w0, hw0, hP⟩ := rests0 w 4 F A0 c0 l0 (Kd.C_F (Kd.heap_int .u8) hr0) hc0
 have HP := ak hP
 have HG := Lib.hid hG
 have HY := Lib.hid hb
 have HL := Lib.hid hl
 obtain ⟨⟨q0, q1, q2, q3, q4, q5, q6, q7, q8, q9, q10, q11, q12, q13, q14⟩, ⟨f0, f1, f2, f3, f4, f5, f6, f7, f8, f9, f10, f11, f12, f13, f14⟩⟩ := cells15 HP.out.x
 clear hr0 hc0 hb hl hG hP
 obtain ⟨n1, r1, e1, h1⟩ : ∃ n r q, tkn l0 8 = (n, r, q) := ⟨_, _, _, rfl⟩
 have hb1 := tkn_by HY.out 8
 rw [h1] at hb1
 have hl1 : r1.length < 10000 := Nat.lt_of_le_of_lt hb1.2 HL.out
 have hdv : Int.tdiv (r1.length : Int) 8 = (r1.length : Int) / 8 := Int.tdiv_eq_ediv_of_nonneg (by omega)
 have hrow := rowT_is (W := 8) (by omega) hb1.1 hl1
 obtain ⟨R, r2, e2, h2⟩ : ∃ n r q, rowT 8 r1 = (n, r, q) := ⟨_, _, _, rfl⟩
 rw [h2, ← hdv] at hrow
 obtain ⟨m, hm⟩ : ∃ m, Int.tdiv (r1.length : Int) 8 = m := ⟨_, rfl⟩
 have hmw : wrap64 m = m := by rw [← hm, hdv]; exact wrap_id (by omega) (by omega)
 rw [hm] at hrow
 have HN := Lib.hid (show stabPK l0 = ⟨0, 0, 0, 0, 0, 0, [], [], 0, 0, 0, n1, R⟩ by unfold stabPK; rw [h1]; simp only []; rw [h2])
 have HE := Lib.hid (show endE (rowT 8 (tkn l0 8).2.1).2.2 (rowT 8 (tkn l0 8).2.1).2.1 = endE e2 r2 by rw [h1]; simp only []; rw [h2])
 have HT1 := Lib.hid (show num_Take.f l0 8 = some (n1, r1, e1) by rw [tkn_is, h1])
 have HROW := Lib.hid hrow
 clear h1 h2 hrow hdv hb1 hl1
 have HT := Lib.hid (HP.out.take (cs' := #[.int .i64 4, .int .i64 F, .int .i64 0, .int .i64 0, .int .i64 0, .int .i64 0, .int .i64 0, .int .i64 0, .slice none 0 0, .slice none 0 0, .int .i64 0, .int .i64 0, .int .i64 0, .int .i64 n1, .slice none 0 0]) HG.out 8 n1 e1 HT1.out 13 rfl)
 go_enter Tryd.func24, Tryd.ntmps24
 go_wp2_with fail
 refine HT.out.mono ?_
 rintro e_ w1 ⟨A1, c1, rfl, hP, hP'⟩
 clear HT HP q0 f0 q1 f1 q2 f2 q3 f3 q4 f4 q5 f5 q6 f6 q7 f7 q8 f8 q9 f9 q10 f10 q11 f11 q12 f12 q13 f13 q14 f14
 have HP := ak hP
 obtain ⟨⟨q0, q1, q2, q3, q4, q5, q6, q7, q8, q9, q10, q11, q12, q13, q14⟩, ⟨f0, f1, f2, f3, f4, f5, f6, f7, f8, f9, f10, f11, f12, f13, f14⟩⟩ := cells15 hP'.x
 clear hP hP' hw0
 have HT := Lib.hid (num_TakeRow.calls (r1.length + 3) (Qp w) A1 c1 r1 m 8 R r2 e2 (w1.setCell ⟨w.heap.size, 13, none⟩ (.int .i64 n1)) (Kd.V_mk HP.out.hc HP.out.f) (GB.below HG.out HP.out.hb) HROW.out)
 go_wp2_with fail
 refine HT.out.mono ?_
 rintro e_ w2 ⟨v0, v1, rfl, hr, ⟨A2, c2, rfl, hc2, hF2⟩, hb⟩
 obtain ⟨B1, d1, rfl⟩ := Kd.R_slice hr
 have hn : PT w w2 #[.int .i64 4, .int .i64 F, .int .i64 0, .int .i64 0, .int .i64 0, .int .i64 0, .int .i64 0, .int .i64 0, .slice none 0 0, .slice none 0 0, .int .i64 0, .int .i64 0, .int .i64 0, .int .i64 n1, .slice none 0 0] A2 c2 r2 := ⟨blk_below HP.out.x hb, blk_below HP.out.y hb, Kd.F_mono hF2 (fun k hk => by have h1 := HP.out.hs; have h2 := hk.1; unfold Qp at *; omega), hc2, below_step HP.out.hb hb, Nat.le_trans HP.out.hs hb.size⟩
 have hr1 := Kd.R_types (Kd.R_lower (Kd.R_mono hr (fun _ _ => trivial : ∀ k, _ → (fun _ => True) k)) HP.out.hb.size) hn.x (by decide)
 have HR := ak (Kd.R_far hr1 (p := ⟨w.heap.size, 14, none⟩) (fun k hk => hk.2) (.slice B1 R.length d1))
 clear q0 f0 q1 f1 q2 f2 q3 f3 q4 f4 q5 f5 q6 f6 q7 f7 q8 f8 q9 f9 q10 f10 q11 f11 q12 f12 q13 f13 q14 f14
 obtain ⟨⟨q0, q1, q2, q3, q4, q5, q6, q7, q8, q9, q10, q11, q12, q13, q14⟩, ⟨f0, f1, f2, f3, f4, f5, f6, f7, f8, f9, f10, f11, f12, f13, f14⟩⟩ := cells15 hn.x
 have hP := hn.put (cs' := #[.int .i64 4, .int .i64 F, .int .i64 0, .int .i64 0, .int .i64 0, .int .i64 0, .int .i64 0, .int .i64 0, .slice none 0 0, .slice none 0 0, .int .i64 0, .int .i64 0, .int .i64 0, .int .i64 n1, .slice B1 R.length d1]) 14 (.slice B1 R.length d1) rfl
 clear HT HP hr hr1 hb hF2 hc2 hn
 have HP := ak hP
 clear hP
 go_upto_region 14 with fail
 clear q0 f0 q1 f1 q2 f2 q3 f3 q4 f4 q5 f5 q6 f6 q7 f7 q8 f8 q9 f9 q10 f10 q11 f11 q12 f12 q13 f13 q14 f14
 obtain ⟨⟨q0, q1, q2, q3, q4, q5, q6, q7, q8, q9, q10, q11, q12, q13, q14⟩, ⟨f0, f1, f2, f3, f4, f5, f6, f7, f8, f9, f10, f11, f12, f13, f14⟩⟩ := cells15 HP.out.x
 obtain ⟨⟨z0, z1, z2, z3, z4, z5, z6, z7, z8, z9, z10, z11, z12, z13, z14⟩, ⟨g0, g1, g2, g3, g4, g5, g6, g7, g8, g9, g10, g11, g12, g13, g14⟩⟩ := cells15 HP.out.y
 generalize hg3_ : w2.setCell ⟨w.heap.size, 14, none⟩ (.slice B1 R.length d1) = w4 at *
 clear HT1 HROW hm hmw
 by_cases hq : (e2 == 0) = true
 ·
  obtain rfl := eq_of_beq hq
  by_cases hn : 0 < r2.length
  ·
   have hE := Lib.hid (show endE 0 r2 = 2 by unfold endE; rw [if_pos (by rfl), if_pos hn])
   have a1 : decide (0 < (r2.length : Int)) = true := decide_eq_true (by omega)
   have a2 : decide ((r2.length : Int) > 0) = true := decide_eq_true (by omega)
   have a3 : decide (0 < r2.length) = true := decide_eq_true hn
   clear hn hq
   go_wp2_with fail
   obtain ⟨W', hW', x4, hmv⟩ := box15 HP.out.y (.int .i64 4) (.int .i64 F) (.int .i64 0) (.int .i64 0) (.int .i64 0) (.int .i64 0) (.int .i64 0) (.int .i64 0) (.slice none 0 0) (.slice none 0 0) (.int .i64 0) (.int .i64 0) (.int .i64 0) (.int .i64 n1) (.slice B1 R.length d1)
   rw [hW']
   clear hW'
   clear q0 f0 q1 f1 q2 f2 q3 f3 q4 f4 q5 f5 q6 f6 q7 f7 q8 f8 q9 f9 q10 f10 q11 f11 q12 f12 q13 f13 q14 f14
   clear z0 g0 z1 g1 z2 g2 z3 g3 z4 g4 z5 g5 z6 g6 z7 g7 z8 g8 z9 g9 z10 g10 z11 g11 z12 g12 z13 g13 z14 g14
   have hB' : Below w.heap.size w W' := Mv.to HP.out.hb hmv (fun k hk => by omega) HP.out.hb.size
   obtain ⟨⟨y0, y1, y2, y3, y4, y5, y6, y7, y8, y9, y10, y11, y12, y13, y14⟩, _⟩ := cells15 x4
   exact bodyPost_ret (v := .tuple #[.agg #[.int .i64 4, .int .i64 F, .int .i64 0, .int .i64 0, .int .i64 0, .int .i64 0, .int .i64 0, .int .i64 0, .slice none 0 0, .slice none 0 0, .int .i64 0, .int .i64 0, .int .i64 0, .int .i64 n1, .slice B1 R.length d1], .int .i64 2]) (by simp [results, Tryd.results24, go_sem, y0, y1, y2, y3, y4, y5, y6, y7, y8, y9, y10, y11, y12, y13, y14]) rfl (by rw [HN.out, HE.out, hE.out]; exact ⟨_, _, _, _, _, _, rfl, Kd.R_nil _ _ _ _ _, Kd.R_nil _ _ _ _ _, Kd.R_mono (Kd.R_kept (Kd.R_types HR.out HP.out.y (by decide)) hmv.kept (fun k hk he => hk.2 he)) (fun _ _ => trivial), hB'⟩)
  ·
   have hE := Lib.hid (show endE 0 r2 = 0 by unfold endE; rw [if_pos (by rfl), if_neg hn])
   have a1 : decide (0 < (r2.length : Int)) = false := decide_eq_false (by omega)
   have a2 : decide ((r2.length : Int) > 0) = false := decide_eq_false (by omega)
   have a3 : decide (0 < r2.length) = false := decide_eq_false hn
   clear hn hq
   go_wp2_with fail
   obtain ⟨W', hW', x4, hmv⟩ := box15 HP.out.y (.int .i64 4) (.int .i64 F) (.int .i64 0) (.int .i64 0) (.int .i64 0) (.int .i64 0) (.int .i64 0) (.int .i64 0) (.slice none 0 0) (.slice none 0 0) (.int .i64 0) (.int .i64 0) (.int .i64 0) (.int .i64 n1) (.slice B1 R.length d1)
   rw [hW']
   clear hW'
   clear q0 f0 q1 f1 q2 f2 q3 f3 q4 f4 q5 f5 q6 f6 q7 f7 q8 f8 q9 f9 q10 f10 q11 f11 q12 f12 q13 f13 q14 f14
   clear z0 g0 z1 g1 z2 g2 z3 g3 z4 g4 z5 g5 z6 g6 z7 g7 z8 g8 z9 g9 z10 g10 z11 g11 z12 g12 z13 g13 z14 g14
   have hB' : Below w.heap.size w W' := Mv.to HP.out.hb hmv (fun k hk => by omega) HP.out.hb.size
   obtain ⟨⟨y0, y1, y2, y3, y4, y5, y6, y7, y8, y9, y10, y11, y12, y13, y14⟩, _⟩ := cells15 x4
   exact bodyPost_ret (v := .tuple #[.agg #[.int .i64 4, .int .i64 F, .int .i64 0, .int .i64 0, .int .i64 0, .int .i64 0, .int .i64 0, .int .i64 0, .slice none 0 0, .slice none 0 0, .int .i64 0, .int .i64 0, .int .i64 0, .int .i64 n1, .slice B1 R.length d1], .int .i64 0]) (by simp [results, Tryd.results24, go_sem, y0, y1, y2, y3, y4, y5, y6, y7, y8, y9, y10, y11, y12, y13, y14]) rfl (by rw [HN.out, HE.out, hE.out]; exact ⟨_, _, _, _, _, _, rfl, Kd.R_nil _ _ _ _ _, Kd.R_nil _ _ _ _ _, Kd.R_mono (Kd.R_kept (Kd.R_types HR.out HP.out.y (by decide)) hmv.kept (fun k hk he => hk.2 he)) (fun _ _ => trivial), hB'⟩)
 ·
  have hE := Lib.hid (show endE e2 r2 = e2 by unfold endE; rw [if_neg hq])
  have hq := Bool.eq_false_iff.2 hq
  go_wp2_with fail
  obtain ⟨W', hW', x4, hmv⟩ := box15 HP.out.y (.int .i64 4) (.int .i64 F) (.int .i64 0) (.int .i64 0) (.int .i64 0) (.int .i64 0) (.int .i64 0) (.int .i64 0) (.slice none 0 0) (.slice none 0 0) (.int .i64 0) (.int .i64 0) (.int .i64 0) (.int .i64 n1) (.slice B1 R.length d1)
  rw [hW']
  clear hW'
  clear q0 f0 q1 f1 q2 f2 q3 f3 q4 f4 q5 f5 q6 f6 q7 f7 q8 f8 q9 f9 q10 f10 q11 f11 q12 f12 q13 f13 q14 f14
  clear z0 g0 z1 g1 z2 g2 z3 g3 z4 g4 z5 g5 z6 g6 z7 g7 z8 g8 z9 g9 z10 g10 z11 g11 z12 g12 z13 g13 z14 g14
  have hB' : Below w.heap.size w W' := Mv.to HP.out.hb hmv (fun k hk => by omega) HP.out.hb.size
  obtain ⟨⟨y0, y1, y2, y3, y4, y5, y6, y7, y8, y9, y10, y11, y12, y13, y14⟩, _⟩ := cells15 x4
  exact bodyPost_ret (v := .tuple #[.agg #[.int .i64 4, .int .i64 F, .int .i64 0, .int .i64 0, .int .i64 0, .int .i64 0, .int .i64 0, .int .i64 0, .slice none 0 0, .slice none 0 0, .int .i64 0, .int .i64 0, .int .i64 0, .int .i64 n1, .slice B1 R.length d1], .int .i64 e2]) (by simp [results, Tryd.results24, go_sem, y0, y1, y2, y3, y4, y5, y6, y7, y8, y9, y10, y11, y12, y13, y14]) rfl (by rw [HN.out, HE.out, hE.out]; exact ⟨_, _, _, _, _, _, rfl, Kd.R_nil _ _ _ _ _, Kd.R_nil _ _ _ _ _, Kd.R_mono (Kd.R_kept (Kd.R_types HR.out HP.out.y (by decide)) hmv.kept (fun k hk he => hk.2 he)) (fun _ _ => trivial), hB'⟩)
set_option maxRecDepth 100000 in
set_option maxHeartbeats 4000000 in
theorem pkt_rest.item (K : Int) (F : Int) (A0 : Option Addr) (c0 : Nat) (l0 : List Int) (w : World) (hr0 : Kd.C (Kd.int .u8) w A0 l0.length l0) (hc0 : l0.length ≤ c0) (hb : By l0) (hl : l0.length < 10000) (hG : GB w) (hK : K = 1 ∨ K = 2) :
  Calls Tryd.prog 24 #[.agg #[.int .i64 K, .int .i64 F, .int .i64 0, .int .i64 0, .int .i64 0, .int .i64 0, .int .i64 0, .int .i64 0, .slice none 0 0, .slice none 0 0, .int .i64 0, .int .i64 0, .int .i64 0, .int .i64 0, .slice none 0 0], .slice A0 l0.length c0] w (PRest w K F (itemPK (tell9 (takeItem l0))) (tell9 (takeItem l0)).2.2.2.2.2.2.2.2) := by
 obtain ⟨w0, hw0, hP⟩ := rests0 w K F A0 c0 l0 (Kd.C_F (Kd.heap_int .u8) hr0) hc0
 have HP := ak hP
 have HG := Lib.hid hG
 have HY := Lib.hid hb
 have HL := Lib.hid hl
 obtain ⟨⟨q0, q1, q2, q3, q4, q5, q6, q7, q8, q9, q10, q11, q12, q13, q14⟩, ⟨f0, f1, f2, f3, f4, f5, f6, f7, f8, f9, f10, f11, f12, f13, f14⟩⟩ := cells15 HP.out.x
 clear hr0 hc0 hb hl hG hP
 obtain ⟨⟨m1, m2, m3, m4, m5, m6, m7, m8, ce⟩, hm⟩ : ∃ p, tell9 (takeItem l0) = p := ⟨_, rfl⟩
 have HT := Lib.hid (show Calls Tryd.prog 49 #[.slice A0 l0.length c0] w0 _ from item_Take.calls A0 c0 l0 m1 m2 m3 m4 m5 m6 m7 m8 ce w0 (Kd.F_now HP.out.f) HP.out.hc (GB.below HG.out HP.out.hb) ((if_pos (okL_by HY.out HL.out)).trans (by rw [hm])))
 rw [hm]
 clear hm
 have kk : (K == 1) = true ∨ ((K == 1) = false ∧ (K == 2) = true) := by rcases hK with rfl | rfl; exact Or.inl rfl; exact Or.inr ⟨rfl, rfl⟩
 clear hK
 have HS := Lib.hid HP.out.hb.size
 rcases kk with k1 | ⟨k1, k2⟩
 ·
  skip
  go_enter Tryd.func24, Tryd.ntmps24
  go_wp2_with fail
  refine HT.out.mono ?_
  rintro e_ w1 ⟨v6, v7, rfl, h6, h7, hb⟩
  obtain ⟨B6, d6, rfl⟩ := Kd.R_slice h6
  obtain ⟨B7, d7, rfl⟩ := Kd.R_slice h7
  have hn := HP.out.below hb
  clear HT HP hw0 q0 f0 q1 f1 q2 f2 q3 f3 q4 f4 q5 f5 q6 f6 q7 f7 q8 f8 q9 f9 q10 f10 q11 f11 q12 f12 q13 f13 q14 f14
  have HP := ak hn
  obtain ⟨⟨q0, q1, q2, q3, q4, q5, q6, q7, q8, q9, q10, q11, q12, q13, q14⟩, ⟨f0, f1, f2, f3, f4, f5, f6, f7, f8, f9, f10, f11, f12, f13, f14⟩⟩ := cells15 hn.x
  skip
  skip
  go_upto_region 6 with fail
  clear q0 f0 q1 f1 q2 f2 q3 f3 q4 f4 q5 f5 q6 f6 q7 f7 q8 f8 q9 f9 q10 f10 q11 f11 q12 f12 q13 f13 q14 f14
  have hn0 := hn.put (cs' := #[.int .i64 K, .int .i64 F, .int .i64 m1, .int .i64 0, .int .i64 0, .int .i64 0, .int .i64 0, .int .i64 0, .slice none 0 0, .slice none 0 0, .int .i64 0, .int .i64 0, .int .i64 0, .int .i64 0, .slice none 0 0]) 2 (.int .i64 m1) rfl
  have hn1 := hn0.put (cs' := #[.int .i64 K, .int .i64 F, .int .i64 m1, .int .i64 m2, .int .i64 0, .int .i64 0, .int .i64 0, .int .i64 0, .slice none 0 0, .slice none 0 0, .int .i64 0, .int .i64 0, .int .i64 0, .int .i64 0, .slice none 0 0]) 3 (.int .i64 m2) rfl
  have hn2 := hn1.put (cs' := #[.int .i64 K, .int .i64 F, .int .i64 m1, .int .i64 m2, .int .i64 m3, .int .i64 0, .int .i64 0, .int .i64 0, .slice none 0 0, .slice none 0 0, .int .i64 0, .int .i64 0, .int .i64 0, .int .i64 0, .slice none 0 0]) 4 (.int .i64 m3) rfl
  have hn3 := hn2.put (cs' := #[.int .i64 K, .int .i64 F, .int .i64 m1, .int .i64 m2, .int .i64 m3, .int .i64 m4, .int .i64 0, .int .i64 0, .slice none 0 0, .slice none 0 0, .int .i64 0, .int .i64 0, .int .i64 0, .int .i64 0, .slice none 0 0]) 5 (.int .i64 m4) rfl
  have hn4 := hn3.put (cs' := #[.int .i64 K, .int .i64 F, .int .i64 m1, .int .i64 m2, .int .i64 m3, .int .i64 m4, .int .i64 m5, .int .i64 0, .slice none 0 0, .slice none 0 0, .int .i64 0, .int .i64 0, .int .i64 0, .int .i64 0, .slice none 0 0]) 6 (.int .i64 m5) rfl
  have hn5 := hn4.put (cs' := #[.int .i64 K, .int .i64 F, .int .i64 m1, .int .i64 m2, .int .i64 m3, .int .i64 m4, .int .i64 m5, .int .i64 m6, .slice none 0 0, .slice none 0 0, .int .i64 0, .int .i64 0, .int .i64 0, .int .i64 0, .slice none 0 0]) 7 (.int .i64 m6) rfl
  have hn6 := hn5.put (cs' := #[.int .i64 K, .int .i64 F, .int .i64 m1, .int .i64 m2, .int .i64 m3, .int .i64 m4, .int .i64 m5, .int .i64 m6, .slice B6 m7.length d6, .slice none 0 0, .int .i64 0, .int .i64 0, .int .i64 0, .int .i64 0, .slice none 0 0]) 8 (.slice B6 m7.length d6) rfl
  have hn7 := hn6.put (cs' := #[.int .i64 K, .int .i64 F, .int .i64 m1, .int .i64 m2, .int .i64 m3, .int .i64 m4, .int .i64 m5, .int .i64 m6, .slice B6 m7.length d6, .slice B7 m8.length d7, .int .i64 0, .int .i64 0, .int .i64 0, .int .i64 0, .slice none 0 0]) 9 (.slice B7 m8.length d7) rfl
  have hmv0 : Mv w1 w1 (fun k => k = w.heap.size) := Mv.below (Below.refl _ w1) _
  have hmv1 := hmv0.setCell (p := ⟨w.heap.size, 2, none⟩) (Or.inl rfl) (.int .i64 m1)
  have hmv2 := hmv1.setCell (p := ⟨w.heap.size, 3, none⟩) (Or.inl rfl) (.int .i64 m2)
  have hmv3 := hmv2.setCell (p := ⟨w.heap.size, 4, none⟩) (Or.inl rfl) (.int .i64 m3)
  have hmv4 := hmv3.setCell (p := ⟨w.heap.size, 5, none⟩) (Or.inl rfl) (.int .i64 m4)
  have hmv5 := hmv4.setCell (p := ⟨w.heap.size, 6, none⟩) (Or.inl rfl) (.int .i64 m5)
  have hmv6 := hmv5.setCell (p := ⟨w.heap.size, 7, none⟩) (Or.inl rfl) (.int .i64 m6)
  have hmv7 := hmv6.setCell (p := ⟨w.heap.size, 8, none⟩) (Or.inl rfl) (.slice B6 m7.length d6)
  have hmv8 := hmv7.setCell (p := ⟨w.heap.size, 9, none⟩) (Or.inl rfl) (.slice B7 m8.length d7)
  have HR6 := ak (Kd.R_kept (Kd.R_types (Kd.R_types (Kd.R_lower h6 HS.out) hn.x (by decide)) hn.y (by decide)) hmv8.kept (fun k hk he => hk.1.2 he))
  have HR7 := ak (Kd.R_kept (Kd.R_types (Kd.R_types (Kd.R_lower h7 HS.out) hn.x (by decide)) hn.y (by decide)) hmv8.kept (fun k hk he => hk.1.2 he))
  clear HP
  have HP := ak hn7
  clear h6 h7 hb hn hn0 hn1 hn2 hn3 hn4 hn5 hn6 hn7 hmv0 hmv1 hmv2 hmv3 hmv4 hmv5 hmv6 hmv7 hmv8
  generalize hg4_ : ((((((((w1.setCell ⟨w.heap.size, 2, none⟩ (.int .i64 m1)).setCell ⟨w.heap.size, 3, none⟩ (.int .i64 m2)).setCell ⟨w.heap.size, 4, none⟩ (.int .i64 m3)).setCell ⟨w.heap.size, 5, none⟩ (.int .i64 m4)).setCell ⟨w.heap.size, 6, none⟩ (.int .i64 m5)).setCell ⟨w.heap.size, 7, none⟩ (.int .i64 m6)).setCell ⟨w.heap.size, 8, none⟩ (.slice B6 m7.length d6)).setCell ⟨w.heap.size, 9, none⟩ (.slice B7 m8.length d7)) = w4 at *
  clear hg4_
  obtain ⟨⟨q0, q1, q2, q3, q4, q5, q6, q7, q8, q9, q10, q11, q12, q13, q14⟩, ⟨f0, f1, f2, f3, f4, f5, f6, f7, f8, f9, f10, f11, f12, f13, f14⟩⟩ := cells15 HP.out.x
  obtain ⟨⟨z0, z1, z2, z3, z4, z5, z6, z7, z8, z9, z10, z11, z12, z13, z14⟩, ⟨g0, g1, g2, g3, g4, g5, g6, g7, g8, g9, g10, g11, g12, g13, g14⟩⟩ := cells15 HP.out.y
  go_wp2_with fail
  obtain ⟨W', hW', x4, hmv⟩ := box15 HP.out.y (.int .i64 K) (.int .i64 F) (.int .i64 m1) (.int .i64 m2) (.int .i64 m3) (.int .i64 m4) (.int .i64 m5) (.int .i64 m6) (.slice B6 m7.length d6) (.slice B7 m8.length d7) (.int .i64 0) (.int .i64 0) (.int .i64 0) (.int .i64 0) (.slice none 0 0)
  rw [hW']
  clear hW'
  clear q0 f0 q1 f1 q2 f2 q3 f3 q4 f4 q5 f5 q6 f6 q7 f7 q8 f8 q9 f9 q10 f10 q11 f11 q12 f12 q13 f13 q14 f14
  clear z0 g0 z1 g1 z2 g2 z3 g3 z4 g4 z5 g5 z6 g6 z7 g7 z8 g8 z9 g9 z10 g10 z11 g11 z12 g12 z13 g13 z14 g14
  have hB' : Below w.heap.size w W' := Mv.to HP.out.hb hmv (fun k hk => by omega) HP.out.hb.size
  obtain ⟨⟨y0, y1, y2, y3, y4, y5, y6, y7, y8, y9, y10, y11, y12, y13, y14⟩, _⟩ := cells15 x4
  exact bodyPost_ret (v := .tuple #[.agg #[.int .i64 K, .int .i64 F, .int .i64 m1, .int .i64 m2, .int .i64 m3, .int .i64 m4, .int .i64 m5, .int .i64 m6, .slice B6 m7.length d6, .slice B7 m8.length d7, .int .i64 0, .int .i64 0, .int .i64 0, .int .i64 0, .slice none 0 0], .int .i64 ce]) (by simp [results, Tryd.results24, go_sem, y0, y1, y2, y3, y4, y5, y6, y7, y8, y9, y10, y11, y12, y13, y14]) rfl ⟨_, _, _, _, _, _, rfl, Kd.R_mono (Kd.R_kept HR6.out hmv.kept (fun k hk he => hk.2 he)) (fun _ _ => trivial), Kd.R_mono (Kd.R_kept HR7.out hmv.kept (fun k hk he => hk.2 he)) (fun _ _ => trivial), Kd.R_nil _ _ _ _ _, hB'⟩
 ·
  skip
  go_enter Tryd.func24, Tryd.ntmps24
  go_wp2_with fail
  refine HT.out.mono ?_
  rintro e_ w1 ⟨v6, v7, rfl, h6, h7, hb⟩
  obtain ⟨B6, d6, rfl⟩ := Kd.R_slice h6
  obtain ⟨B7, d7, rfl⟩ := Kd.R_slice h7
  have hn := HP.out.below hb
  clear HT HP hw0 q0 f0 q1 f1 q2 f2 q3 f3 q4 f4 q5 f5 q6 f6 q7 f7 q8 f8 q9 f9 q10 f10 q11 f11 q12 f12 q13 f13 q14 f14
  have HP := ak hn
  obtain ⟨⟨q0, q1, q2, q3, q4, q5, q6, q7, q8, q9, q10, q11, q12, q13, q14⟩, ⟨f0, f1, f2, f3, f4, f5, f6, f7, f8, f9, f10, f11, f12, f13, f14⟩⟩ := cells15 hn.x
  skip
  skip
  go_upto_region 6 with fail
  clear q0 f0 q1 f1 q2 f2 q3 f3 q4 f4 q5 f5 q6 f6 q7 f7 q8 f8 q9 f9 q10 f10 q11 f11 q12 f12 q13 f13 q14 f14
  have hn0 := hn.put (cs' := #[.int .i64 K, .int .i64 F, .int .i64 m1, .int .i64 0, .int .i64 0, .int .i64 0, .int .i64 0, .int .i64 0, .slice none 0 0, .slice none 0 0, .int .i64 0, .int .i64 0, .int .i64 0, .int .i64 0, .slice none 0 0]) 2 (.int .i64 m1) rfl
  have hn1 := hn0.put (cs' := #[.int .i64 K, .int .i64 F, .int .i64 m1, .int .i64 m2, .int .i64 0, .int .i64 0, .int .i64 0, .int .i64 0, .slice none 0 0, .slice none 0 0, .int .i64 0, .int .i64 0, .int .i64 0, .int .i64 0, .slice none 0 0]) 3 (.int .i64 m2) rfl
  have hn2 := hn1.put (cs' := #[.int .i64 K, .int .i64 F, .int .i64 m1, .int .i64 m2, .int .i64 m3, .int .i64 0, .int .i64 0, .int .i64 0, .slice none 0 0, .slice none 0 0, .int .i64 0, .int .i64 0, .int .i64 0, .int .i64 0, .slice none 0 0]) 4 (.int .i64 m3) rfl
  have hn3 := hn2.put (cs' := #[.int .i64 K, .int .i64 F, .int .i64 m1, .int .i64 m2, .int .i64 m3, .int .i64 m4, .int .i64 0, .int .i64 0, .slice none 0 0, .slice none 0 0, .int .i64 0, .int .i64 0, .int .i64 0, .int .i64 0, .slice none 0 0]) 5 (.int .i64 m4) rfl
  have hn4 := hn3.put (cs' := #[.int .i64 K, .int .i64 F, .int .i64 m1, .int .i64 m2, .int .i64 m3, .int .i64 m4, .int .i64 m5, .int .i64 0, .slice none 0 0, .slice none 0 0, .int .i64 0, .int .i64 0, .int .i64 0, .int .i64 0, .slice none 0 0]) 6 (.int .i64 m5) rfl
  have hn5 := hn4.put (cs' := #[.int .i64 K, .int .i64 F, .int .i64 m1, .int .i64 m2, .int .i64 m3, .int .i64 m4, .int .i64 m5, .int .i64 m6, .slice none 0 0, .slice none 0 0, .int .i64 0, .int .i64 0, .int .i64 0, .int .i64 0, .slice none 0 0]) 7 (.int .i64 m6) rfl
  have hn6 := hn5.put (cs' := #[.int .i64 K, .int .i64 F, .int .i64 m1, .int .i64 m2, .int .i64 m3, .int .i64 m4, .int .i64 m5, .int .i64 m6, .slice B6 m7.length d6, .slice none 0 0, .int .i64 0, .int .i64 0, .int .i64 0, .int .i64 0, .slice none 0 0]) 8 (.slice B6 m7.length d6) rfl
  have hn7 := hn6.put (cs' := #[.int .i64 K, .int .i64 F, .int .i64 m1, .int .i64 m2, .int .i64 m3, .int .i64 m4, .int .i64 m5, .int .i64 m6, .slice B6 m7.length d6, .slice B7 m8.length d7, .int .i64 0, .int .i64 0, .int .i64 0, .int .i64 0, .slice none 0 0]) 9 (.slice B7 m8.length d7) rfl
  have hmv0 : Mv w1 w1 (fun k => k = w.heap.size) := Mv.below (Below.refl _ w1) _
  have hmv1 := hmv0.setCell (p := ⟨w.heap.size, 2, none⟩) (Or.inl rfl) (.int .i64 m1)
  have hmv2 := hmv1.setCell (p := ⟨w.heap.size, 3, none⟩) (Or.inl rfl) (.int .i64 m2)
  have hmv3 := hmv2.setCell (p := ⟨w.heap.size, 4, none⟩) (Or.inl rfl) (.int .i64 m3)
  have hmv4 := hmv3.setCell (p := ⟨w.heap.size, 5, none⟩) (Or.inl rfl) (.int .i64 m4)
  have hmv5 := hmv4.setCell (p := ⟨w.heap.size, 6, none⟩) (Or.inl rfl) (.int .i64 m5)
  have hmv6 := hmv5.setCell (p := ⟨w.heap.size, 7, none⟩) (Or.inl rfl) (.int .i64 m6)
  have hmv7 := hmv6.setCell (p := ⟨w.heap.size, 8, none⟩) (Or.inl rfl) (.slice B6 m7.length d6)
  have hmv8 := hmv7.setCell (p := ⟨w.heap.size, 9, none⟩) (Or.inl rfl) (.slice B7 m8.length d7)
  have HR6 := ak (Kd.R_kept (Kd.R_types (Kd.R_types (Kd.R_lower h6 HS.out) hn.x (by decide)) hn.y (by decide)) hmv8.kept (fun k hk he => hk.1.2 he))
  have HR7 := ak (Kd.R_kept (Kd.R_types (Kd.R_types (Kd.R_lower h7 HS.out) hn.x (by decide)) hn.y (by decide)) hmv8.kept (fun k hk he => hk.1.2 he))
  clear HP
  have HP := ak hn7
  clear h6 h7 hb hn hn0 hn1 hn2 hn3 hn4 hn5 hn6 hn7 hmv0 hmv1 hmv2 hmv3 hmv4 hmv5 hmv6 hmv7 hmv8
  generalize hg4_ : ((((((((w1.setCell ⟨w.heap.size, 2, none⟩ (.int .i64 m1)).setCell ⟨w.heap.size, 3, none⟩ (.int .i64 m2)).setCell ⟨w.heap.size, 4, none⟩ (.int .i64 m3)).setCell ⟨w.heap.size, 5, none⟩ (.int .i64 m4)).setCell ⟨w.heap.size, 6, none⟩ (.int .i64 m5)).setCell ⟨w.heap.size, 7, none⟩ (.int .i64 m6)).setCell ⟨w.heap.size, 8, none⟩ (.slice B6 m7.length d6)).setCell ⟨w.heap.size, 9, none⟩ (.slice B7 m8.length d7)) = w4 at *
  clear hg4_
  obtain ⟨⟨q0, q1, q2, q3, q4, q5, q6, q7, q8, q9, q10, q11, q12, q13, q14⟩, ⟨f0, f1, f2, f3, f4, f5, f6, f7, f8, f9, f10, f11, f12, f13, f14⟩⟩ := cells15 HP.out.x
  obtain ⟨⟨z0, z1, z2, z3, z4, z5, z6, z7, z8, z9, z10, z11, z12, z13, z14⟩, ⟨g0, g1, g2, g3, g4, g5, g6, g7, g8, g9, g10, g11, g12, g13, g14⟩⟩ := cells15 HP.out.y
  go_wp2_with fail
  obtain ⟨W', hW', x4, hmv⟩ := box15 HP.out.y (.int .i64 K) (.int .i64 F) (.int .i64 m1) (.int .i64 m2) (.int .i64 m3) (.int .i64 m4) (.int .i64 m5) (.int .i64 m6) (.slice B6 m7.length d6) (.slice B7 m8.length d7) (.int .i64 0) (.int .i64 0) (.int .i64 0) (.int .i64 0) (.slice none 0 0)
  rw [hW']
  clear hW'
  clear q0 f0 q1 f1 q2 f2 q3 f3 q4 f4 q5 f5 q6 f6 q7 f7 q8 f8 q9 f9 q10 f10 q11 f11 q12 f12 q13 f13 q14 f14
  clear z0 g0 z1 g1 z2 g2 z3 g3 z4 g4 z5 g5 z6 g6 z7 g7 z8 g8 z9 g9 z10 g10 z11 g11 z12 g12 z13 g13 z14 g14
  have hB' : Below w.heap.size w W' := Mv.to HP.out.hb hmv (fun k hk => by omega) HP.out.hb.size
  obtain ⟨⟨y0, y1, y2, y3, y4, y5, y6, y7, y8, y9, y10, y11, y12, y13, y14⟩, _⟩ := cells15 x4
  exact bodyPost_ret (v := .tuple #[.agg #[.int .i64 K, .int .i64 F, .int .i64 m1, .int .i64 m2, .int .i64 m3, .int .i64 m4, .int .i64 m5, .int .i64 m6, .slice B6 m7.length d6, .slice B7 m8.length d7, .int .i64 0, .int .i64 0, .int .i64 0, .int .i64 0, .slice none 0 0], .int .i64 ce]) (by simp [results, Tryd.results24, go_sem, y0, y1, y2, y3, y4, y5, y6, y7, y8, y9, y10, y11, y12, y13, y14]) rfl ⟨_, _, _, _, _, _, rfl, Kd.R_mono (Kd.R_kept HR6.out hmv.kept (fun k hk he => hk.2 he)) (fun _ _ => trivial), Kd.R_mono (Kd.R_kept HR7.out hmv.kept (fun k hk he => hk.2 he)) (fun _ _ => trivial), Kd.R_nil _ _ _ _ _, hB'⟩
theorem pkt_rest.is (K : Int) (F : Int) (A0 : Option Addr) (c0 : Nat) (l0 : List Int) (w : World) (hr0 : Kd.C (Kd.int .u8) w A0 l0.length l0) (hc0 : l0.length ≤ c0) (hb : By l0) (hl : l0.length < 10000) (hG : GB w) :
  Calls Tryd.prog 24 #[.agg #[.int .i64 K, .int .i64 F, .int .i64 0, .int .i64 0, .int .i64 0, .int .i64 0, .int .i64 0, .int .i64 0, .slice none 0 0, .slice none 0 0, .int .i64 0, .int .i64 0, .int .i64 0, .int .i64 0, .slice none 0 0], .slice A0 l0.length c0] w (PRest w K F (restP K l0).1 (restP K l0).2) := by
 unfold restP
 by_cases h1 : K = 1 ∨ K = 2
 ·
  rw [if_pos h1]; exact pkt_rest.item K F A0 c0 l0 w hr0 hc0 hb hl hG h1
 rw [if_neg h1]
 by_cases h3 : K = 3
 ·
  subst h3; rw [if_pos rfl]; exact pkt_rest.nak F A0 c0 l0 w hr0 hc0 hb hl hG
 rw [if_neg h3]
 by_cases h4 : K = 4
 ·
  subst h4; rw [if_pos rfl]; exact pkt_rest.stab F A0 c0 l0 w hr0 hc0 hb hl hG
 rw [if_neg h4]; exact pkt_rest.other K F A0 c0 l0 w hr0 hc0 hb hl hG (by omega)
end Go.Proofs.YtieolhhokepkjaaDoor.Print
