/- The packet that bytes are, and that each call of pkt.Read gives just that. Conditions stand in each theorem. -/
import Derived.Test.YtieolhhokepkjaaDoorHandPQ
import Derived.Test.YtieolhhokepkjaaDoorHandPB
import Derived.Deep.Light
namespace Go.Proofs.YtieolhhokepkjaaDoor.Print
set_option linter.unusedVariables false
set_option linter.unusedSimpArgs false
open Go.RowKit Go.Proofs.YtieolhhokepkjaaDoorW.PrintWords Go.Proofs.YtieolhhokepkjaaDoorW.PrintLast Go.Proofs.YtieolhhokepkjaaDoorW.PrintMore Go.Proofs.YtieolhhokepkjaaDoor.NumPlain Go.Proofs.YtieolhhokepkjaaDoor.Crc
/-- The packet of bytes whose sum is taken off. -/
def readC (c : List Int) : Option (Int × Int × PK) :=
 if c.length < 3 then none else if rd c 0 = 165 then (if (restP (rd c 1) (c.drop 3)).2 = 0 then
  (if mayP (rd c 1) (rd c 2) (mayB (restP (rd c 1) (c.drop 3)).1.k (restP (rd c 1) (c.drop 3)).1.s (restP (rd c 1) (c.drop 3)).1.e (restP (rd c 1) (c.drop 3)).1.i (restP (rd c 1) (c.drop 3)).1.t (restP (rd c 1) (c.drop 3)).1.c (restP (rd c 1) (c.drop 3)).1.L (restP (rd c 1) (c.drop 3)).1.bo.length) (bareB (restP (rd c 1) (c.drop 3)).1.k (restP (rd c 1) (c.drop 3)).1.s (restP (rd c 1) (c.drop 3)).1.e (restP (rd c 1) (c.drop 3)).1.i (restP (rd c 1) (c.drop 3)).1.t (restP (rd c 1) (c.drop 3)).1.c (restP (rd c 1) (c.drop 3)).1.L (restP (rd c 1) (c.drop 3)).1.bo) (restP (rd c 1) (c.drop 3)).1.T (restP (rd c 1) (c.drop 3)).1.O (restP (rd c 1) (c.drop 3)).1.M (restP (rd c 1) (c.drop 3)).1.P (restP (rd c 1) (c.drop 3)).1.R = true
  then some (rd c 1, rd c 2, (restP (rd c 1) (c.drop 3)).1) else none) else none) else none
def tell16 (o : Option (Int × Int × PK)) (q : Int) : Int × Int × Int × Int × Int × Int × Int × Int × List Int × List Int × Int × Int × Int × Int × List Int × Int := match o with
 | none => (0, 0, 0, 0, 0, 0, 0, 0, [], [], 0, 0, 0, 0, [], q)
 | some (K, F, p) => (K, F, p.k, p.s, p.e, p.i, p.t, p.c, p.L, p.bo, p.T, p.O, p.M, p.P, p.R, q)
def openS (l : List Int) : List Int × Int := if l.length < 4 then ([], 2) else if l.drop (l.length - 4) = tl (sumOf (l.take (l.length - 4))) then (l.take (l.length - 4), 0) else ([], 3)
def readP (l : List Int) : Int × Int × Int × Int × Int × Int × Int × Int × List Int × List Int × Int × Int × Int × Int × List Int × Int :=
 if (openS l).2 = 0 then (match readC (openS l).1 with | none => tell16 none 2 | some x => tell16 (some x) 0) else tell16 none (openS l).2
/-- What is known behind a call of pkt.Read. -/
def PRead (w : World) (x : Int × Int × Int × Int × Int × Int × Int × Int × List Int × List Int × Int × Int × Int × Int × List Int × Int) (e' : Ending) (w' : World) : Prop :=
 ∃ v8_ v9_ v14_ : Value, e' = .returned (.tuple #[.agg #[.int .i64 x.1, .int .i64 x.2.1, .int .i64 x.2.2.1, .int .i64 x.2.2.2.1, .int .i64 x.2.2.2.2.1, .int .i64 x.2.2.2.2.2.1, .int .i64 x.2.2.2.2.2.2.1, .int .i64 x.2.2.2.2.2.2.2.1, v8_, v9_, .int .i64 x.2.2.2.2.2.2.2.2.2.2.1, .int .i64 x.2.2.2.2.2.2.2.2.2.2.2.1, .int .i64 x.2.2.2.2.2.2.2.2.2.2.2.2.1, .int .i64 x.2.2.2.2.2.2.2.2.2.2.2.2.2.1, v14_], .int .i64 x.2.2.2.2.2.2.2.2.2.2.2.2.2.2.2]) ∧
  Kd.R (Kd.int .i64) 3 w' w.heap.size (fun _ => True) v8_ x.2.2.2.2.2.2.2.2.1 ∧ Kd.R (Kd.int .u8) 5 w' w.heap.size (fun _ => True) v9_ x.2.2.2.2.2.2.2.2.2.1 ∧ Kd.R (Kd.int .i64) 3 w' w.heap.size (fun _ => True) v14_ x.2.2.2.2.2.2.2.2.2.2.2.2.2.2.1 ∧ Below w.heap.size w w'
theorem PRead.none_ {w w' : World} (q : Int) (h : Below w.heap.size w w') : PRead w (tell16 none q) (.returned (.tuple #[.agg #[.int .i64 0, .int .i64 0, .int .i64 0, .int .i64 0, .int .i64 0, .int .i64 0, .int .i64 0, .int .i64 0, .slice none 0 0, .slice none 0 0, .int .i64 0, .int .i64 0, .int .i64 0, .int .i64 0, .slice none 0 0], .int .i64 q])) w' :=
 ⟨_, _, _, rfl, Kd.R_nil _ _ _ _ _, Kd.R_nil _ _ _ _ _, Kd.R_nil _ _ _ _ _, h⟩
theorem reads0 (w : World) : ∃ w0 : World, (w.alloc (Obj.cells #[.int .i64 0, .int .i64 0, .int .i64 0, .int .i64 0, .int .i64 0, .int .i64 0, .int .i64 0, .int .i64 0, .slice none 0 0, .slice none 0 0, .int .i64 0, .int .i64 0, .int .i64 0, .int .i64 0, .slice none 0 0] 27)).alloc (Obj.cells #[.int .i64 0, .int .i64 0, .int .i64 0, .int .i64 0, .int .i64 0, .int .i64 0, .int .i64 0, .int .i64 0, .slice none 0 0, .slice none 0 0, .int .i64 0, .int .i64 0, .int .i64 0, .int .i64 0, .slice none 0 0] 27) = w0 ∧ Below w.heap.size w w0 ∧ w0.heap.size = w.heap.size + 2 ∧
  w0.heap[w.heap.size]? = some (.cells #[.int .i64 0, .int .i64 0, .int .i64 0, .int .i64 0, .int .i64 0, .int .i64 0, .int .i64 0, .int .i64 0, .slice none 0 0, .slice none 0 0, .int .i64 0, .int .i64 0, .int .i64 0, .int .i64 0, .slice none 0 0] 27 (0, 0)) ∧ w0.heap[w.heap.size + 1]? = some (.cells #[.int .i64 0, .int .i64 0, .int .i64 0, .int .i64 0, .int .i64 0, .int .i64 0, .int .i64 0, .int .i64 0, .slice none 0 0, .slice none 0 0, .int .i64 0, .int .i64 0, .int .i64 0, .int .i64 0, .slice none 0 0] 27 (0, 0)) :=
 ⟨_, rfl, below_alloc (below_alloc (Below.refl _ _) _) _, by simp, blk_alloc (blk_new w _) _, by have := blk_new (w.alloc (Obj.cells #[.int .i64 0, .int .i64 0, .int .i64 0, .int .i64 0, .int .i64 0, .int .i64 0, .int .i64 0, .int .i64 0, .slice none 0 0, .slice none 0 0, .int .i64 0, .int .i64 0, .int .i64 0, .int .i64 0, .slice none 0 0] 27)) (Obj.cells #[.int .i64 0, .int .i64 0, .int .i64 0, .int .i64 0, .int .i64 0, .int .i64 0, .int .i64 0, .int .i64 0, .slice none 0 0, .slice none 0 0, .int .i64 0, .int .i64 0, .int .i64 0, .int .i64 0, .slice none 0 0] 27); simpa using this⟩
theorem open_is {l : List Int} (h : l.length ≤ 1000000000) : crc_Open.f l = some ((openS l).1, (openS l).2) := (if_pos (lim2_small h)).trans rfl
theorem open_by {l : List Int} (hb : By l) : By (openS l).1 ∧ (openS l).1.length ≤ l.length := by
 have h0 : By ([] : List Int) := fun _ h => absurd h List.not_mem_nil
 unfold openS
 split
 ·
  exact ⟨h0, by simp⟩
 ·
  split
  ·
   exact ⟨hb.take _, by rw [List.length_take]; omega⟩
  ·
   exact ⟨h0, by simp⟩
theorem cut_row {w : World} {A : Option Addr} {c : Nat} {xs : List Int} (h : Kd.C (Kd.int .u8) w A xs.length xs) (hc : xs.length ≤ c) (m : Nat) (hm : m ≤ xs.length) : ∃ (B : Option Addr) (d : Nat),
  (∀ W : World, (Instr.slice 23 (.slice A xs.length c) (some (.int .i64 (m : Int))) none none).run Tryd.prog W = .ok (.slice B (xs.drop m).length d) W) ∧ (xs.drop m).length ≤ d ∧ Kd.C (Kd.int .u8) w B (xs.drop m).length (xs.drop m) := by
 obtain ⟨i5, hi5, hz5, hs5, _⟩ := info_parts info5
 refine ⟨_, c - m, fun W => ?_, ?_, Kd.C_drop h hm hc⟩
 ·
  have := cut_from (P := Tryd.prog) 23 5 .i64 Tryd.underlying23 hi5 1 hs5 A xs.length c (m : Int) (by omega) (by omega) W
  rw [Int.toNat_natCast] at this
  rw [this, List.length_drop]; rfl
 ·
  rw [List.length_drop]; omega
theorem rowT_short {W : Int} (hW : 0 < W) {l : List Int} (hb : By l) (hl : l.length < 10000) : (rowT W l).1.length ≤ l.length := by
 have hd : (l.length : Int) / W ≤ l.length := Int.ediv_le_self _ (by omega)
 obtain ⟨q, hq, hn⟩ := takerow_some (W := W) (m := (l.length : Int) / W) (l := l) (k := l.length + 3) (by omega) hb hl (Nat.le_refl _)
 unfold rowT
 rw [hq]; exact hn
theorem restP_ok (K : Int) {l : List Int} (hb : By l) (hl : l.length < 5000) : (Lit.int .i64 (restP K l).1.k).wf = true ∧ (restP K l).1.L.length < 10000 ∧ (restP K l).1.R.length < 10000 := by
 have z : (Lit.int .i64 0).wf = true := by decide
 unfold restP
 split
 ·
  unfold itemPK
  cases ht : takeItem l with
  | none => exact ⟨z, by decide, by decide⟩
  | some p =>
   obtain ⟨a1, a2, a3, a4, a5, a6, a7, a8⟩ := p
   have hm := (take_inv hb (by omega) ht).1
   have h1 := mayB_head hm
   have h2 := may_len hm
   exact ⟨wf_kind h1.1.1 h1.1.2, by show a7.length < 10000; omega, by show (0 : Nat) < 10000; decide⟩
 ·
  split
  ·
   exact ⟨z, by show (0 : Nat) < 10000; decide, by show (0 : Nat) < 10000; decide⟩
  ·
   split
   ·
    have h1 := tkn_by hb 8
    have h2 := rowT_short (W := 8) (by omega) h1.1 (by omega)
    exact ⟨z, by show (0 : Nat) < 10000; decide, by show (rowT 8 (tkn l 8).2.1).1.length < 10000; omega⟩
   ·
    exact ⟨z, by show (0 : Nat) < 10000; decide, by show (0 : Nat) < 10000; decide⟩
theorem row_at {w : World} {A : Option Addr} {l : List Int} (h : Kd.C (Kd.int .u8) w A l.length l) (j : Nat) (hj : j < l.length) (hb : By l) :
  ∃ ad, A = some ad ∧ w.cell? (ad.add j) = some (.int .u8 (rd l (j : Int))) ∧ 0 ≤ rd l (j : Int) ∧ rd l (j : Int) ≤ 255 := by
 obtain ⟨ad, hA, hk⟩ := Kd.at_int h (j : Int) (by omega) (by omega)
 have := hb (rd l (j : Int)) (by
  unfold rd
  rw [List.getD_eq_getElem?_getD, List.getElem?_eq_getElem (show Int.toNat (j : Int) < l.length by simp; omega)]
  exact List.getElem_mem _)
 rw [Int.toNat_natCast] at hk
 exact ⟨ad, hA, hk, this.1, by have := this.2; omega⟩
set_option maxRecDepth 100000 in
set_option maxHeartbeats 4000000 in
theorem pkt_Read.bad (A0 : Option Addr) (c0 : Nat) (l0 : List Int) (w : World) (hr0 : Kd.C (Kd.int .u8) w A0 l0.length l0) (hc0 : l0.length ≤ c0) (hb : By l0) (hl : l0.length < 5000) (hG : GB w) (ho : (openS l0).2 ≠ 0) : Calls Tryd.prog 11 #[.slice A0 l0.length c0] w (PRead w (tell16 none (openS l0).2)) := by
 obtain ⟨w0, hw0, hB0, hs0, X0, Y0⟩ := reads0 w
 have HB := ak hB0
 have HX := ak X0
 have HYB := ak Y0
 have HG := Lib.hid hG
 have HL := Lib.hid hl
 have HY := Lib.hid hb
 have hop := open_by hb
 obtain ⟨cc, eo, hco⟩ : ∃ c e, openS l0 = (c, e) := ⟨_, _, rfl⟩
 rw [hco] at hop
 have HOP := Lib.hid hop
 have HCT := Lib.hid (show Calls Tryd.prog 23 #[.slice A0 l0.length c0] w0 _ from crc_Open.calls A0 c0 l0 cc eo w0 (Kd.C_below hr0 hB0) hc0 (by rw [open_is (by omega), hco]))
 clear hr0 hc0 hb hl hG hB0 hs0 X0 Y0 hop
 rw [hco] at ho ⊢
 have he : (eo == 0) = false := beq_eq_false_iff_ne.2 ho
 clear ho hco
 go_enter Tryd.func11, Tryd.ntmps11
 go_wp2_with fail
 refine wp_scope_fwd 0 rfl ?_
 go_wp2_with fail
 refine HCT.out.mono ?_
 rintro e_ w1 ⟨v1, rfl, hr, hb⟩
 obtain ⟨A1, c1, rfl, hc1, hC1⟩ := Kd.R_reads hr
 have n0_ := ak (below_step HB.out hb)
 have n1_ := ak (blk_below HX.out hb)
 have n2_ := ak (blk_below HYB.out hb)
 clear HB HX HYB HCT hb hr hw0
 have HB := n0_
 have HX := n1_
 have HYB := n2_
 clear n0_ n1_ n2_
 clear hc1 hC1
 go_wp2_with fail
 go_step3
 refine ⟨rfl, ?_⟩
 obtain ⟨⟨q0, q1, q2, q3, q4, q5, q6, q7, q8, q9, q10, q11, q12, q13, q14⟩, ⟨f0, f1, f2, f3, f4, f5, f6, f7, f8, f9, f10, f11, f12, f13, f14⟩⟩ := cells15 HX.out
 go_wp2_with fail
 clear q0 f0 q1 f1 q2 f2 q3 f3 q4 f4 q5 f5 q6 f6 q7 f7 q8 f8 q9 f9 q10 f10 q11 f11 q12 f12 q13 f13 q14 f14
 rw [Exit.noGoto_ret]
 obtain ⟨W', hW', x4, hmv⟩ := box15 HX.out (.int .i64 0) (.int .i64 0) (.int .i64 0) (.int .i64 0) (.int .i64 0) (.int .i64 0) (.int .i64 0) (.int .i64 0) (.slice none 0 0) (.slice none 0 0) (.int .i64 0) (.int .i64 0) (.int .i64 0) (.int .i64 0) (.slice none 0 0)
 rw [hW']
 clear hW'
 have hB' : Below w.heap.size w W' := Mv.to HB.out hmv (fun k hk => by omega) HB.out.size
 obtain ⟨⟨y0, y1, y2, y3, y4, y5, y6, y7, y8, y9, y10, y11, y12, y13, y14⟩, _⟩ := cells15 x4
 exact bodyPost_ret (v := .tuple #[.agg #[.int .i64 0, .int .i64 0, .int .i64 0, .int .i64 0, .int .i64 0, .int .i64 0, .int .i64 0, .int .i64 0, .slice none 0 0, .slice none 0 0, .int .i64 0, .int .i64 0, .int .i64 0, .int .i64 0, .slice none 0 0], .int .i64 eo]) (by simp [results, Tryd.results11, go_sem, y0, y1, y2, y3, y4, y5, y6, y7, y8, y9, y10, y11, y12, y13, y14]) rfl (PRead.none_ _ hB')
set_option maxRecDepth 100000 in
set_option maxHeartbeats 4000000 in
theorem pkt_Read.short (A0 : Option Addr) (c0 : Nat) (l0 : List Int) (w : World) (hr0 : Kd.C (Kd.int .u8) w A0 l0.length l0) (hc0 : l0.length ≤ c0) (hb : By l0) (hl : l0.length < 5000) (hG : GB w) (ho : (openS l0).2 = 0) (h3 : (openS l0).1.length < 3) : Calls Tryd.prog 11 #[.slice A0 l0.length c0] w (PRead w (tell16 none 2)) := by
 obtain ⟨w0, hw0, hB0, hs0, X0, Y0⟩ := reads0 w
 have HB := ak hB0
 have HX := ak X0
 have HYB := ak Y0
 have HG := Lib.hid hG
 have HL := Lib.hid hl
 have HY := Lib.hid hb
 have hop := open_by hb
 obtain ⟨cc, eo, hco⟩ : ∃ c e, openS l0 = (c, e) := ⟨_, _, rfl⟩
 rw [hco] at hop
 have HOP := Lib.hid hop
 have HCT := Lib.hid (show Calls Tryd.prog 23 #[.slice A0 l0.length c0] w0 _ from crc_Open.calls A0 c0 l0 cc eo w0 (Kd.C_below hr0 hB0) hc0 (by rw [open_is (by omega), hco]))
 clear hr0 hc0 hb hl hG hB0 hs0 X0 Y0 hop
 rw [hco] at ho h3
 obtain rfl : eo = 0 := ho
 have h3 := h3
 clear hco
 go_enter Tryd.func11, Tryd.ntmps11
 go_wp2_with fail
 refine wp_scope_fwd 0 rfl ?_
 go_wp2_with fail
 refine HCT.out.mono ?_
 rintro e_ w1 ⟨v1, rfl, hr, hb⟩
 obtain ⟨A1, c1, rfl, hc1, hC1⟩ := Kd.R_reads hr
 have n0_ := ak (below_step HB.out hb)
 have n1_ := ak (blk_below HX.out hb)
 have n2_ := ak (blk_below HYB.out hb)
 clear HB HX HYB HCT hb hr hw0
 have HB := n0_
 have HX := n1_
 have HYB := n2_
 clear n0_ n1_ n2_
 have a1 : decide ((cc.length : Int) < 3) = true := decide_eq_true (by omega)
 have a2 : decide (cc.length < 3) = true := decide_eq_true (by omega)
 clear hc1 hC1 h3
 go_wp2_with fail
 go_step3
 refine ⟨rfl, ?_⟩
 obtain ⟨⟨q0, q1, q2, q3, q4, q5, q6, q7, q8, q9, q10, q11, q12, q13, q14⟩, ⟨f0, f1, f2, f3, f4, f5, f6, f7, f8, f9, f10, f11, f12, f13, f14⟩⟩ := cells15 HX.out
 go_wp2_with fail
 clear q0 f0 q1 f1 q2 f2 q3 f3 q4 f4 q5 f5 q6 f6 q7 f7 q8 f8 q9 f9 q10 f10 q11 f11 q12 f12 q13 f13 q14 f14
 rw [Exit.noGoto_ret]
 obtain ⟨W', hW', x4, hmv⟩ := box15 HX.out (.int .i64 0) (.int .i64 0) (.int .i64 0) (.int .i64 0) (.int .i64 0) (.int .i64 0) (.int .i64 0) (.int .i64 0) (.slice none 0 0) (.slice none 0 0) (.int .i64 0) (.int .i64 0) (.int .i64 0) (.int .i64 0) (.slice none 0 0)
 rw [hW']
 clear hW'
 have hB' : Below w.heap.size w W' := Mv.to HB.out hmv (fun k hk => by omega) HB.out.size
 obtain ⟨⟨y0, y1, y2, y3, y4, y5, y6, y7, y8, y9, y10, y11, y12, y13, y14⟩, _⟩ := cells15 x4
 exact bodyPost_ret (v := .tuple #[.agg #[.int .i64 0, .int .i64 0, .int .i64 0, .int .i64 0, .int .i64 0, .int .i64 0, .int .i64 0, .int .i64 0, .slice none 0 0, .slice none 0 0, .int .i64 0, .int .i64 0, .int .i64 0, .int .i64 0, .slice none 0 0], .int .i64 2]) (by simp [results, Tryd.results11, go_sem, y0, y1, y2, y3, y4, y5, y6, y7, y8, y9, y10, y11, y12, y13, y14]) rfl (PRead.none_ _ hB')
set_option maxRecDepth 100000 in
set_option maxHeartbeats 4000000 in
theorem pkt_Read.mark (A0 : Option Addr) (c0 : Nat) (l0 : List Int) (w : World) (hr0 : Kd.C (Kd.int .u8) w A0 l0.length l0) (hc0 : l0.length ≤ c0) (hb : By l0) (hl : l0.length < 5000) (hG : GB w) (ho : (openS l0).2 = 0) (h3 : ¬ (openS l0).1.length < 3 ∧ rd (openS l0).1 0 ≠ 165) : Calls Tryd.prog 11 #[.slice A0 l0.length c0] w (PRead w (tell16 none 2)) := by
 obtain ⟨w0, hw0, hB0, hs0, X0, Y0⟩ := reads0 w
 have HB := ak hB0
 have HX := ak X0
 have HYB := ak Y0
 have HG := Lib.hid hG
 have HL := Lib.hid hl
 have HY := Lib.hid hb
 have hop := open_by hb
 obtain ⟨cc, eo, hco⟩ : ∃ c e, openS l0 = (c, e) := ⟨_, _, rfl⟩
 rw [hco] at hop
 have HOP := Lib.hid hop
 have HCT := Lib.hid (show Calls Tryd.prog 23 #[.slice A0 l0.length c0] w0 _ from crc_Open.calls A0 c0 l0 cc eo w0 (Kd.C_below hr0 hB0) hc0 (by rw [open_is (by omega), hco]))
 clear hr0 hc0 hb hl hG hB0 hs0 X0 Y0 hop
 rw [hco] at ho h3
 obtain rfl : eo = 0 := ho
 have h3 := h3
 clear hco
 go_enter Tryd.func11, Tryd.ntmps11
 go_wp2_with fail
 refine wp_scope_fwd 0 rfl ?_
 go_wp2_with fail
 refine HCT.out.mono ?_
 rintro e_ w1 ⟨v1, rfl, hr, hb⟩
 obtain ⟨A1, c1, rfl, hc1, hC1⟩ := Kd.R_reads hr
 have n0_ := ak (below_step HB.out hb)
 have n1_ := ak (blk_below HX.out hb)
 have n2_ := ak (blk_below HYB.out hb)
 clear HB HX HYB HCT hb hr hw0
 have HB := n0_
 have HX := n1_
 have HYB := n2_
 clear n0_ n1_ n2_
 have h3' : ¬ cc.length < 3 := h3.1
 have hm : rd cc 0 ≠ 165 := h3.2
 obtain ⟨ad, rfl, hx, hx0, hx1⟩ := row_at hC1 0 (by omega) HOP.out.1
 have hx : w1.cell? (ad.add 0) = some (.int .u8 (rd cc 0)) := hx
 have hx' : w1.cell? ad = some (.int .u8 (rd cc 0)) := by simpa [Addr.add] using hx
 have a1 : decide ((cc.length : Int) < 3) = false := decide_eq_false (by omega)
 have a2 : decide (cc.length < 3) = false := decide_eq_false h3'
 have a3 : 0 < cc.length := by omega
 generalize rd cc 0 = m0 at *
 have a4 : (m0 == 165) = false := beq_eq_false_iff_ne.2 hm
 clear hc1 hC1 h3 h3' hm hx0 hx1
 go_wp2_with fail
 go_step3
 refine ⟨rfl, ?_⟩
 obtain ⟨⟨q0, q1, q2, q3, q4, q5, q6, q7, q8, q9, q10, q11, q12, q13, q14⟩, ⟨f0, f1, f2, f3, f4, f5, f6, f7, f8, f9, f10, f11, f12, f13, f14⟩⟩ := cells15 HX.out
 go_wp2_with fail
 clear q0 f0 q1 f1 q2 f2 q3 f3 q4 f4 q5 f5 q6 f6 q7 f7 q8 f8 q9 f9 q10 f10 q11 f11 q12 f12 q13 f13 q14 f14
 rw [Exit.noGoto_ret]
 obtain ⟨W', hW', x4, hmv⟩ := box15 HX.out (.int .i64 0) (.int .i64 0) (.int .i64 0) (.int .i64 0) (.int .i64 0) (.int .i64 0) (.int .i64 0) (.int .i64 0) (.slice none 0 0) (.slice none 0 0) (.int .i64 0) (.int .i64 0) (.int .i64 0) (.int .i64 0) (.slice none 0 0)
 rw [hW']
 clear hW'
 have hB' : Below w.heap.size w W' := Mv.to HB.out hmv (fun k hk => by omega) HB.out.size
 obtain ⟨⟨y0, y1, y2, y3, y4, y5, y6, y7, y8, y9, y10, y11, y12, y13, y14⟩, _⟩ := cells15 x4
 exact bodyPost_ret (v := .tuple #[.agg #[.int .i64 0, .int .i64 0, .int .i64 0, .int .i64 0, .int .i64 0, .int .i64 0, .int .i64 0, .int .i64 0, .slice none 0 0, .slice none 0 0, .int .i64 0, .int .i64 0, .int .i64 0, .int .i64 0, .slice none 0 0], .int .i64 2]) (by simp [results, Tryd.results11, go_sem, y0, y1, y2, y3, y4, y5, y6, y7, y8, y9, y10, y11, y12, y13, y14]) rfl (PRead.none_ _ hB')
set_option maxRecDepth 100000 in
set_option maxHeartbeats 4000000 in
theorem pkt_Read.more (A0 : Option Addr) (c0 : Nat) (l0 : List Int) (w : World) (hr0 : Kd.C (Kd.int .u8) w A0 l0.length l0) (hc0 : l0.length ≤ c0) (hb : By l0) (hl : l0.length < 5000) (hG : GB w) (ho : (openS l0).2 = 0) (h3 : ¬ (openS l0).1.length < 3) (hm : rd (openS l0).1 0 = 165) : Calls Tryd.prog 11 #[.slice A0 l0.length c0] w (PRead w (readP l0)) := by
 obtain ⟨w0, hw0, hB0, hs0, X0, Y0⟩ := reads0 w
 have HB := ak hB0
 have HX := ak X0
 have HYB := ak Y0
 have HG := Lib.hid hG
 have HL := Lib.hid hl
 have HY := Lib.hid hb
 have hop := open_by hb
 obtain ⟨cc, eo, hco⟩ : ∃ c e, openS l0 = (c, e) := ⟨_, _, rfl⟩
 rw [hco] at hop
 have HOP := Lib.hid hop
 have HCT := Lib.hid (show Calls Tryd.prog 23 #[.slice A0 l0.length c0] w0 _ from crc_Open.calls A0 c0 l0 cc eo w0 (Kd.C_below hr0 hB0) hc0 (by rw [open_is (by omega), hco]))
 clear hr0 hc0 hb hl hG hB0 hs0 X0 Y0 hop
 have HP := Lib.hid (show readP l0 = (match readC cc with | none => tell16 none 2 | some x => tell16 (some x) 0) by unfold readP; rw [if_pos ho, hco])
 rw [hco] at ho h3 hm
 obtain rfl : eo = 0 := ho
 have h3 : ¬ cc.length < 3 := h3
 have hm : rd cc 0 = 165 := hm
 clear hco
 go_enter Tryd.func11, Tryd.ntmps11
 go_wp2_with fail
 refine wp_scope_fwd 0 rfl ?_
 go_wp2_with fail
 refine HCT.out.mono ?_
 rintro e_ w1 ⟨v1, rfl, hr, hb⟩
 obtain ⟨A1, c1, rfl, hc1, hC1⟩ := Kd.R_reads hr
 have n0_ := ak (below_step HB.out hb)
 have n1_ := ak (blk_below HX.out hb)
 have n2_ := ak (blk_below HYB.out hb)
 clear HB HX HYB HCT hb hr hw0
 have HB := n0_
 have HX := n1_
 have HYB := n2_
 clear n0_ n1_ n2_
 obtain ⟨ad, rfl, hx, _, _⟩ := row_at hC1 0 (by omega) HOP.out.1
 obtain ⟨ad1, hA1, hx1, k0, k1⟩ := row_at hC1 1 (by omega) HOP.out.1
 obtain rfl := Option.some.inj hA1
 have k0 : 0 ≤ rd cc 1 := k0
 have k1 : rd cc 1 ≤ 255 := k1
 obtain ⟨ad2, hA2, hx2, j0, j1⟩ := row_at hC1 2 (by omega) HOP.out.1
 obtain rfl := Option.some.inj hA2
 have j0 : 0 ≤ rd cc 2 := j0
 have j1 : rd cc 2 ≤ 255 := j1
 have hx : w1.cell? (ad.add 0) = some (.int .u8 (rd cc 0)) := hx
 rw [hm] at hx
 have hx' : w1.cell? ad = some (.int .u8 165) := by simpa [Addr.add] using hx
 have hx1 : w1.cell? (ad.add 1) = some (.int .u8 (rd cc 1)) := hx1
 have hx1' : w1.cell? ⟨ad.block, ad.off + 1, none⟩ = some (.int .u8 (rd cc 1)) := hx1
 have hx2 : w1.cell? (ad.add 2) = some (.int .u8 (rd cc 2)) := hx2
 have hx2' : w1.cell? ⟨ad.block, ad.off + 2, none⟩ = some (.int .u8 (rd cc 2)) := hx2
 have a1 : decide ((cc.length : Int) < 3) = false := decide_eq_false (by omega)
 have a2 : decide (cc.length < 3) = false := decide_eq_false h3
 have a3 : 0 < cc.length := by omega
 have a5 : 1 < cc.length := by omega
 have a6 : 2 < cc.length := by omega
 have a7 : 3 ≤ cc.length := by omega
 have b5 : (1 : Int) < (cc.length : Int) := by omega
 have b6 : (2 : Int) < (cc.length : Int) := by omega
 obtain ⟨B3, d3, sl3, hd3, hC3⟩ := cut_row hC1 hc1 3 (by omega)
 obtain ⟨c3, hc3⟩ : ∃ c3, cc.drop 3 = c3 := ⟨_, rfl⟩
 have hb3 : By c3 := by rw [← hc3]; exact HOP.out.1.drop 3
 have hl3 : c3.length < 5000 := by rw [← hc3, List.length_drop]; have := HOP.out.2; have := HL.out; omega
 obtain ⟨kd, hK⟩ : ∃ kd, rd cc 1 = kd := ⟨_, rfl⟩
 obtain ⟨fr, hF⟩ : ∃ fr, rd cc 2 = fr := ⟨_, rfl⟩
 obtain ⟨pk, q, hpq⟩ : ∃ pk q, restP kd c3 = (pk, q) := ⟨_, _, rfl⟩
 have hR : ∀ (w : World), Kd.C (Kd.int .u8) w B3 c3.length c3 → GB w → Calls Tryd.prog 24 #[.agg #[.int .i64 kd, .int .i64 fr, .int .i64 0, .int .i64 0, .int .i64 0, .int .i64 0, .int .i64 0, .int .i64 0, .slice none 0 0, .slice none 0 0, .int .i64 0, .int .i64 0, .int .i64 0, .int .i64 0, .slice none 0 0], .slice B3 c3.length d3] w (PRest w kd fr pk q) := fun w hC hG => by
  have h := pkt_rest.is kd fr B3 d3 c3 w hC (by rw [← hc3]; exact hd3) hb3 (by omega) hG
  rw [hpq] at h; exact h
 have HR := Lib.hid hR
 have hkw := restP_ok kd hb3 hl3
 rw [hpq] at hkw
 have HKW := Lib.hid hkw
 clear hkw
 have HD := Lib.hid (show readC cc = if q = 0 then (if mayP kd fr (mayB pk.k pk.s pk.e pk.i pk.t pk.c pk.L pk.bo.length) (bareB pk.k pk.s pk.e pk.i pk.t pk.c pk.L pk.bo) pk.T pk.O pk.M pk.P pk.R = true then some (kd, fr, pk) else none) else none by unfold readC; rw [if_neg h3, if_pos hm, hK, hF, hc3, hpq])
 rw [hc3] at sl3 hd3 hC3
 have sl3 : ∀ W : World, (Instr.slice 23 (.slice (some ad) cc.length c1) (some (.int .i64 3)) none none).run Tryd.prog W = .ok (.slice B3 c3.length d3) W := sl3
 rw [hK] at hx1 hx1' k0 k1
 rw [hF] at hx2 hx2' j0 j1
 have kw : wrap64 kd = kd := wrap_id (by omega) (by omega)
 have fw : wrap64 fr = fr := wrap_id (by omega) (by omega)
 have HC3 := ak hC3
 have HKB := Lib.hid (show 0 ≤ kd ∧ kd ≤ 255 from ⟨k0, k1⟩)
 clear hc1 hC1 h3 hm hd3 hC3 hc3 hb3 hl3 hK hF hpq hR k0 k1 j0 j1
 go_upto_region 6 with fail
 refine start_ (n := 17) (S := fun w' => w'.cell? (ad.add 1) = some (.int .u8 kd) ∧ w'.cell? ⟨ad.block, ad.off + 1, none⟩ = some (.int .u8 kd) ∧ w'.cell? (ad.add 2) = some (.int .u8 fr) ∧ w'.cell? ⟨ad.block, ad.off + 2, none⟩ = some (.int .u8 fr)) (ds := [15]) #[false, false, false, false, false, false, false, false, false, false, false, false, false, false, false, false, false] (by kernel_rfl) rfl rfl ⟨pw_cell_below (below_drew1 (Below.refl _ _)) hx1, pw_cell_below (below_drew1 (Below.refl _ _)) hx1, pw_cell_below (below_drew1 (Below.refl _ _)) hx2, pw_cell_below (below_drew1 (Below.refl _ _)) hx2⟩ (fun hHeld => ?_)
 have HBq := ak (below_drew1 (Below.refl w1.heap.size w1))
 generalize hw2_ : w1.drew = w2 at *
 clear hw2_
 refine pure_ (i := 0) (N := some 23) (v := ?_) (a' := ?_) #[true, false, false, false, false, false, false, false, false, false, false, false, false, false, false, false, false] rfl rfl (by kernel_rfl) (fun _ _ _ h => h) (Or.inl ⟨by rfl, ?_⟩) ?_ ?_
 rotate_left
 ·
  intro w'
  go_simp
  with_reducible rfl
 rotate_left
 ·
  simp only [Act.put, sq1, sq2, sq3, i64_w, i32_w]
  rfl
 refine pure_ (i := 1) (N := some 24) (v := ?_) (a' := ?_) #[true, true, false, false, false, false, false, false, false, false, false, false, false, false, false, false, false] rfl rfl (by kernel_rfl) (fun _ _ _ h => h) (Or.inl ⟨by rfl, ?_⟩) ?_ ?_
 rotate_left
 ·
  intro w'
  go_simp
  with_reducible rfl
 rotate_left
 ·
  simp only [Act.put, sq1, sq2, sq3, i64_w, i32_w]
  rfl
 refine pure_ (i := 4) (N := some 27) (v := ?_) (a' := ?_) #[true, true, false, false, true, false, false, false, false, false, false, false, false, false, false, false, false] rfl rfl (by kernel_rfl) (fun _ _ _ h => h) (Or.inl ⟨by rfl, ?_⟩) ?_ ?_
 rotate_left
 ·
  intro w'
  go_simp
  with_reducible rfl
 rotate_left
 ·
  simp only [Act.put, sq1, sq2, sq3, i64_w, i32_w]
  rfl
 refine pure_ (i := 5) (N := some 28) (v := ?_) (a' := ?_) #[true, true, false, false, true, true, false, false, false, false, false, false, false, false, false, false, false] rfl rfl (by kernel_rfl) (fun _ _ _ h => h) (Or.inl ⟨by rfl, ?_⟩) ?_ ?_
 rotate_left
 ·
  intro w'
  go_simp
  with_reducible rfl
 rotate_left
 ·
  simp only [Act.put, sq1, sq2, sq3, i64_w, i32_w]
  rfl
 refine pure_ (i := 9) (N := some 32) (v := ?_) (a' := ?_) #[true, true, false, false, true, true, false, false, false, true, false, false, false, false, false, false, false] rfl rfl (by kernel_rfl) (fun _ _ _ h => h) (Or.inl ⟨by rfl, ?_⟩) ?_ ?_
 rotate_left
 ·
  intro w'
  go_simp
  with_reducible rfl
 rotate_left
 ·
  simp only [Act.put, sq1, sq2, sq3, i64_w, i32_w]
  rfl
 refine pure_ (i := 10) (N := some 33) (v := ?_) (a' := ?_) #[true, true, false, false, true, true, false, false, false, true, true, false, false, false, false, false, false] rfl rfl (by kernel_rfl) (fun _ _ _ h => h) (Or.inl ⟨by rfl, ?_⟩) ?_ ?_
 rotate_left
 ·
  intro w'
  go_simp
  with_reducible rfl
 rotate_left
 ·
  simp only [Act.put, sq1, sq2, sq3, i64_w, i32_w]
  rfl
 refine take_ (i := 2) (N := some 25) (v := ?_) (a' := ?_) #[true, true, true, false, true, true, false, false, false, true, true, false, false, false, false, false, false] rfl rfl (by kernel_rfl) (fun _ _ _ h => h) (Or.inl ⟨by rfl, ?_⟩) hHeld ?_ ?_
 rotate_left
 ·
  rintro w' ⟨s0, s1, s2, s3⟩
  go_simp
  with_reducible rfl
 rotate_left
 ·
  simp only [Act.put, sq1, sq2, sq3, i64_w, i32_w]
  rfl
 refine pure_ (i := 3) (N := some 26) (v := ?_) (a' := ?_) #[true, true, true, true, true, true, false, false, false, true, true, false, false, false, false, false, false] rfl rfl (by kernel_rfl) (fun _ _ _ h => h) (Or.inl ⟨by rfl, ?_⟩) ?_ ?_
 rotate_left
 ·
  intro w'
  go_simp
  with_reducible rfl
 rotate_left
 ·
  simp only [Act.put, sq1, sq2, sq3, i64_w, i32_w]
  rfl
 refine take_ (i := 6) (N := some 29) (v := ?_) (a' := ?_) #[true, true, true, true, true, true, true, false, false, true, true, false, false, false, false, false, false] rfl rfl (by kernel_rfl) (fun _ _ _ h => h) (Or.inl ⟨by rfl, ?_⟩) hHeld ?_ ?_
 rotate_left
 ·
  rintro w' ⟨s0, s1, s2, s3⟩
  go_simp
  with_reducible rfl
 rotate_left
 ·
  simp only [Act.put, sq1, sq2, sq3, i64_w, i32_w]
  rfl
 refine pure_ (i := 7) (N := some 30) (v := ?_) (a' := ?_) #[true, true, true, true, true, true, true, true, false, true, true, false, false, false, false, false, false] rfl rfl (by kernel_rfl) (fun _ _ _ h => h) (Or.inl ⟨by rfl, ?_⟩) ?_ ?_
 rotate_left
 ·
  intro w'
  go_simp
  with_reducible rfl
 rotate_left
 ·
  simp only [Act.put, sq1, sq2, sq3, i64_w, i32_w]
  rfl
 refine pure_ (i := 8) (N := some 31) (v := ?_) (a' := ?_) #[true, true, true, true, true, true, true, true, true, true, true, false, false, false, false, false, false] rfl rfl (by kernel_rfl) (fun _ _ _ h => h) (Or.inl ⟨by rfl, ?_⟩) ?_ ?_
 rotate_left
 ·
  intro w'
  go_simp
  with_reducible rfl
 rotate_left
 ·
  simp only [Act.put, sq1, sq2, sq3, i64_w, i32_w]
  rfl
 refine one_ (i := 11) (N := some 34) #[true, true, true, true, true, true, true, true, true, true, true, true, false, false, false, false, false] rfl rfl (by kernel_rfl) (by decide) (fun K hK => ?_)
 have HCT := Lib.hid (HR.out w2 (Kd.C_below HC3.out HBq.out) (GB.below HG.out (below_step HB.out HBq.out)))
 refine goes_ Tryd.func24 (by kernel_rfl) rfl #[.agg #[.int .i64 kd, .int .i64 fr, .int .i64 0, .int .i64 0, .int .i64 0, .int .i64 0, .int .i64 0, .int .i64 0, .slice none 0 0, .slice none 0 0, .int .i64 0, .int .i64 0, .int .i64 0, .int .i64 0, .slice none 0 0], .slice B3 c3.length d3] (by rfl) rfl rfl (by simp only [List.map_toArray, List.map_cons, List.map_nil]; rfl) ?_
 with_reducible refine (HCT.out).mono ?_
 rintro e0 w3 ⟨B8, d8, B9, d9, B14, d14, rfl, ho8, ho9, ho14, hb⟩
 refine ⟨_, rfl, ?_⟩
 have H8 := ak ho8
 have H9 := ak ho9
 have H14 := ak ho14
 have HS2 := Lib.hid HBq.out.size
 have n0_ := ak (below_step HBq.out hb)
 clear HBq hb ho8 ho9 ho14
 have HBq := n0_
 clear n0_
 refine hK.out _ _ ⟨pw_cell_below HBq.out hx1, pw_cell_below HBq.out hx1, pw_cell_below HBq.out hx2, pw_cell_below HBq.out hx2⟩ (fun hHeld => ?_)
 clear hK K
 refine norm_ (a' := ?_) ?_ ?_
 rotate_left
 ·
  show Act.put _ (some 34) _ = _
  simp only [Act.put, sq1, sq2, sq3, i64_w, i32_w]
  rfl
 refine pure_ (i := 12) (N := some 22) (v := ?_) (a' := ?_) #[true, true, true, true, true, true, true, true, true, true, true, true, true, false, false, false, false] rfl rfl (by kernel_rfl) (fun _ _ _ h => h) (Or.inl ⟨by rfl, ?_⟩) ?_ ?_
 rotate_left
 ·
  intro w'
  go_simp
  with_reducible rfl
 rotate_left
 ·
  simp only [Act.put, sq1, sq2, sq3, i64_w, i32_w]
  rfl
 refine pure_ (i := 13) (N := some 35) (v := ?_) (a' := ?_) #[true, true, true, true, true, true, true, true, true, true, true, true, true, true, false, false, false] rfl rfl (by kernel_rfl) (fun _ _ _ h => h) (Or.inl ⟨by rfl, ?_⟩) ?_ ?_
 rotate_left
 ·
  intro w'
  go_simp
  with_reducible rfl
 rotate_left
 ·
  simp only [Act.put, sq1, sq2, sq3, i64_w, i32_w]
  rfl
 refine pure_ (i := 14) (N := some 36) (v := ?_) (a' := ?_) #[true, true, true, true, true, true, true, true, true, true, true, true, true, true, true, false, false] rfl rfl (by kernel_rfl) (fun _ _ _ h => h) (Or.inl ⟨by rfl, ?_⟩) ?_ ?_
 rotate_left
 ·
  intro w'
  go_simp
  with_reducible rfl
 rotate_left
 ·
  simp only [Act.put, sq1, sq2, sq3, i64_w, i32_w]
  rfl
 refine last_ (i := 15) (N := none) #[true, true, true, true, true, true, true, true, true, true, true, true, true, true, true, true, false] rfl rfl (by kernel_rfl) (by decide) (fun K hK => ?_)
 obtain ⟨⟨q0, q1, q2, q3, q4, q5, q6, q7, q8, q9, q10, q11, q12, q13, q14⟩, ⟨f0, f1, f2, f3, f4, f5, f6, f7, f8, f9, f10, f11, f12, f13, f14⟩⟩ := cells15 (blk_below HYB.out HBq.out)
 refine skip_ (w1 := ?_) (by rfl) rfl ?_ ?_
 rotate_left
 ·
  go_simp
  rfl
 clear q0 f0 q1 f1 q2 f2 q3 f3 q4 f4 q5 f5 q6 f6 q7 f7 q8 f8 q9 f9 q10 f10 q11 f11 q12 f12 q13 f13 q14 f14
 refine hK.out _ _ ?_
 clear hK K
 refine pure_ (i := 16) (N := some 5) (v := ?_) (a' := ?_) #[true, true, true, true, true, true, true, true, true, true, true, true, true, true, true, true, true] rfl rfl (by kernel_rfl) (fun _ _ _ h => h) (Or.inl ⟨by rfl, ?_⟩) ?_ ?_
 rotate_left
 ·
  intro w'
  go_simp
  with_reducible rfl
 rotate_left
 ·
  simp only [Act.put, sq1, sq2, sq3, i64_w, i32_w]
  rfl
 refine done_ (by kernel_rfl) ?_
 clear hHeld
 obtain ⟨W, hW, x7, hmv⟩ := box15 (blk_below HYB.out HBq.out) (.int .i64 kd) (.int .i64 fr) (.int .i64 pk.k) (.int .i64 pk.s) (.int .i64 pk.e) (.int .i64 pk.i) (.int .i64 pk.t) (.int .i64 pk.c) (.slice B8 pk.L.length d8) (.slice B9 pk.bo.length d9) (.int .i64 pk.T) (.int .i64 pk.O) (.int .i64 pk.M) (.int .i64 pk.P) (.slice B14 pk.R.length d14)
 rw [hW]
 clear hW
 have hBW : Below w.heap.size w W := Mv.to (below_step HB.out HBq.out) hmv (fun k hk => by omega) (below_step HB.out HBq.out).size
 have hxx : W.heap[w.heap.size]? = some (.cells #[.int .i64 0, .int .i64 0, .int .i64 0, .int .i64 0, .int .i64 0, .int .i64 0, .int .i64 0, .int .i64 0, .slice none 0 0, .slice none 0 0, .int .i64 0, .int .i64 0, .int .i64 0, .int .i64 0, .slice none 0 0] 27 (0, 0)) := blk_kept (blk_below HX.out HBq.out) hmv.kept (by omega)
 have HSW := Lib.hid (show w.heap.size ≤ w2.heap.size from Nat.le_trans HB.out.size HS2.out)
 have n8_ := ak (Kd.R_kept (Kd.R_types (Kd.R_types (Kd.R_lower H8.out HSW.out) (blk_below HYB.out HBq.out) (by decide)) (blk_below HX.out HBq.out) (by decide)) hmv.kept (fun k hk he => hk.1.2 he))
 have n9_ := ak (Kd.R_kept (Kd.R_types (Kd.R_types (Kd.R_lower H9.out HSW.out) (blk_below HYB.out HBq.out) (by decide)) (blk_below HX.out HBq.out) (by decide)) hmv.kept (fun k hk he => hk.1.2 he))
 have n14_ := ak (Kd.R_kept (Kd.R_types (Kd.R_types (Kd.R_lower H14.out HSW.out) (blk_below HYB.out HBq.out) (by decide)) (blk_below HX.out HBq.out) (by decide)) hmv.kept (fun k hk he => hk.1.2 he))
 have HX2 := ak hxx
 have HY2 := ak x7
 have HBW := ak hBW
 clear HX HYB HB H8 H9 H14 hmv hxx x7 hBW HBq HC3 HR hx hx' hx1 hx1' hx2 hx2' sl3 HS2 HSW
 have H8 := n8_
 have H9 := n9_
 have H14 := n14_
 clear n8_ n9_ n14_
 have HX := HX2
 have HYB := HY2
 have HB := HBW
 clear HX2 HY2 HBW
 by_cases hq : q = 0
 rotate_left
 ·
  have HN := Lib.hid (show readP l0 = tell16 none 2 by rw [HP.out, HD.out, if_neg hq])
  have hqf : (q == 0) = false := beq_eq_false_iff_ne.2 hq
  clear hq
  obtain ⟨⟨q0, q1, q2, q3, q4, q5, q6, q7, q8, q9, q10, q11, q12, q13, q14⟩, ⟨f0, f1, f2, f3, f4, f5, f6, f7, f8, f9, f10, f11, f12, f13, f14⟩⟩ := cells15 HX.out
  go_wp2_with fail
  go_step3
  go_wp2_with fail
  clear q0 f0 q1 f1 q2 f2 q3 f3 q4 f4 q5 f5 q6 f6 q7 f7 q8 f8 q9 f9 q10 f10 q11 f11 q12 f12 q13 f13 q14 f14
  change bodyPost _ _ (PRead w (readP l0)) Exit.ret _ _
  obtain ⟨W', hW', x4, hmv⟩ := box15 HX.out (.int .i64 0) (.int .i64 0) (.int .i64 0) (.int .i64 0) (.int .i64 0) (.int .i64 0) (.int .i64 0) (.int .i64 0) (.slice none 0 0) (.slice none 0 0) (.int .i64 0) (.int .i64 0) (.int .i64 0) (.int .i64 0) (.slice none 0 0)
  rw [hW']
  clear hW'
  have hB' : Below w.heap.size w W' := Mv.to HB.out hmv (fun k hk => by omega) HB.out.size
  obtain ⟨⟨y0, y1, y2, y3, y4, y5, y6, y7, y8, y9, y10, y11, y12, y13, y14⟩, _⟩ := cells15 x4
  exact bodyPost_ret (v := .tuple #[.agg #[.int .i64 0, .int .i64 0, .int .i64 0, .int .i64 0, .int .i64 0, .int .i64 0, .int .i64 0, .int .i64 0, .slice none 0 0, .slice none 0 0, .int .i64 0, .int .i64 0, .int .i64 0, .int .i64 0, .slice none 0 0], .int .i64 2]) (by simp [results, Tryd.results11, go_sem, y0, y1, y2, y3, y4, y5, y6, y7, y8, y9, y10, y11, y12, y13, y14]) rfl (by rw [HN.out]; exact PRead.none_ _ hB')
 subst hq
 skip
 obtain ⟨b, hb⟩ : ∃ b, mayP kd fr (mayB pk.k pk.s pk.e pk.i pk.t pk.c pk.L pk.bo.length) (bareB pk.k pk.s pk.e pk.i pk.t pk.c pk.L pk.bo) pk.T pk.O pk.M pk.P pk.R = b := ⟨_, rfl⟩
 have HBM := Lib.hid hb
 obtain ⟨A8, e8, s8, l8, C8⟩ := Kd.R_reads H8.out
 obtain ⟨A9, e9, s9, l9, C9⟩ := Kd.R_reads H9.out
 obtain ⟨A14, e14, s14, l14, C14⟩ := Kd.R_reads H14.out
 obtain ⟨rfl, _, rfl⟩ := Value.slice.inj s8
 obtain ⟨rfl, _, rfl⟩ := Value.slice.inj s9
 obtain ⟨rfl, _, rfl⟩ := Value.slice.inj s14
 have HCT := Lib.hid (show Calls Tryd.prog 13 #[.agg #[.int .i64 kd, .int .i64 fr, .int .i64 pk.k, .int .i64 pk.s, .int .i64 pk.e, .int .i64 pk.i, .int .i64 pk.t, .int .i64 pk.c, .slice B8 pk.L.length d8, .slice B9 pk.bo.length d9, .int .i64 pk.T, .int .i64 pk.O, .int .i64 pk.M, .int .i64 pk.P, .slice B14 pk.R.length d14]] W _ from pkt_May.calls 10000 kd fr pk.k pk.s pk.e pk.i pk.t pk.c B8 d8 pk.L B9 d9 pk.bo pk.T pk.O pk.M pk.P B14 d14 pk.R b W C8 l8 C9 l9 C14 l14 (by rw [pmay_is _ _ _ _ _ _ _ _ _ _ _ _ _ _ _ HKW.out.1 HKW.out.2.1 HKW.out.2.2, hb]))
 clear hb s8 s9 s14 l8 l9 l14 C8 C9 C14
 obtain ⟨⟨z0, z1, z2, z3, z4, z5, z6, z7, z8, z9, z10, z11, z12, z13, z14⟩, ⟨g0, g1, g2, g3, g4, g5, g6, g7, g8, g9, g10, g11, g12, g13, g14⟩⟩ := cells15 HYB.out
 go_wp2_with fail
 refine HCT.out.mono ?_
 rintro e_ w5 ⟨rfl, hb⟩
 have n8_ := ak (Kd.R_below H8.out hb)
 have n9_ := ak (Kd.R_below H9.out hb)
 have n14_ := ak (Kd.R_below H14.out hb)
 have n0_ := ak (below_step HB.out hb)
 have n1_ := ak (blk_below HX.out hb)
 have n2_ := ak (blk_below HYB.out hb)
 clear HB HX HYB HCT hb H8 H9 H14 z0 g0 z1 g1 z2 g2 z3 g3 z4 g4 z5 g5 z6 g6 z7 g7 z8 g8 z9 g9 z10 g10 z11 g11 z12 g12 z13 g13 z14 g14
 have HB := n0_
 have HX := n1_
 have HYB := n2_
 have H8 := n8_
 have H9 := n9_
 have H14 := n14_
 clear n0_ n1_ n2_ n8_ n9_ n14_
 cases b
 ·
  have HN := Lib.hid (show readP l0 = tell16 none 2 by rw [HP.out, HD.out, if_pos trivial, if_neg (by rw [HBM.out]; exact Bool.false_ne_true)])
  obtain ⟨⟨q0, q1, q2, q3, q4, q5, q6, q7, q8, q9, q10, q11, q12, q13, q14⟩, ⟨f0, f1, f2, f3, f4, f5, f6, f7, f8, f9, f10, f11, f12, f13, f14⟩⟩ := cells15 HX.out
  go_wp2_with fail
  go_step3
  go_wp2_with fail
  clear q0 f0 q1 f1 q2 f2 q3 f3 q4 f4 q5 f5 q6 f6 q7 f7 q8 f8 q9 f9 q10 f10 q11 f11 q12 f12 q13 f13 q14 f14
  change bodyPost _ _ (PRead w (readP l0)) Exit.ret _ _
  obtain ⟨W', hW', x4, hmv⟩ := box15 HX.out (.int .i64 0) (.int .i64 0) (.int .i64 0) (.int .i64 0) (.int .i64 0) (.int .i64 0) (.int .i64 0) (.int .i64 0) (.slice none 0 0) (.slice none 0 0) (.int .i64 0) (.int .i64 0) (.int .i64 0) (.int .i64 0) (.slice none 0 0)
  rw [hW']
  clear hW'
  have hB' : Below w.heap.size w W' := Mv.to HB.out hmv (fun k hk => by omega) HB.out.size
  obtain ⟨⟨y0, y1, y2, y3, y4, y5, y6, y7, y8, y9, y10, y11, y12, y13, y14⟩, _⟩ := cells15 x4
  exact bodyPost_ret (v := .tuple #[.agg #[.int .i64 0, .int .i64 0, .int .i64 0, .int .i64 0, .int .i64 0, .int .i64 0, .int .i64 0, .int .i64 0, .slice none 0 0, .slice none 0 0, .int .i64 0, .int .i64 0, .int .i64 0, .int .i64 0, .slice none 0 0], .int .i64 2]) (by simp [results, Tryd.results11, go_sem, y0, y1, y2, y3, y4, y5, y6, y7, y8, y9, y10, y11, y12, y13, y14]) rfl (by rw [HN.out]; exact PRead.none_ _ hB')
 ·
  have HN := Lib.hid (show readP l0 = tell16 (some (kd, fr, pk)) 0 by rw [HP.out, HD.out, if_pos trivial, if_pos HBM.out])
  obtain ⟨⟨z0, z1, z2, z3, z4, z5, z6, z7, z8, z9, z10, z11, z12, z13, z14⟩, ⟨g0, g1, g2, g3, g4, g5, g6, g7, g8, g9, g10, g11, g12, g13, g14⟩⟩ := cells15 HYB.out
  obtain ⟨⟨q0, q1, q2, q3, q4, q5, q6, q7, q8, q9, q10, q11, q12, q13, q14⟩, ⟨f0, f1, f2, f3, f4, f5, f6, f7, f8, f9, f10, f11, f12, f13, f14⟩⟩ := cells15 HX.out
  go_wp2_with fail
  clear q0 f0 q1 f1 q2 f2 q3 f3 q4 f4 q5 f5 q6 f6 q7 f7 q8 f8 q9 f9 q10 f10 q11 f11 q12 f12 q13 f13 q14 f14
  clear z0 g0 z1 g1 z2 g2 z3 g3 z4 g4 z5 g5 z6 g6 z7 g7 z8 g8 z9 g9 z10 g10 z11 g11 z12 g12 z13 g13 z14 g14
  change bodyPost _ _ (PRead w (readP l0)) Exit.ret _ _
  obtain ⟨W', hW', x4, hmv⟩ := box15 HX.out (.int .i64 kd) (.int .i64 fr) (.int .i64 pk.k) (.int .i64 pk.s) (.int .i64 pk.e) (.int .i64 pk.i) (.int .i64 pk.t) (.int .i64 pk.c) (.slice B8 pk.L.length d8) (.slice B9 pk.bo.length d9) (.int .i64 pk.T) (.int .i64 pk.O) (.int .i64 pk.M) (.int .i64 pk.P) (.slice B14 pk.R.length d14)
  rw [hW']
  clear hW'
  have hB' : Below w.heap.size w W' := Mv.to HB.out hmv (fun k hk => by omega) HB.out.size
  obtain ⟨⟨y0, y1, y2, y3, y4, y5, y6, y7, y8, y9, y10, y11, y12, y13, y14⟩, _⟩ := cells15 x4
  exact bodyPost_ret (v := .tuple #[.agg #[.int .i64 kd, .int .i64 fr, .int .i64 pk.k, .int .i64 pk.s, .int .i64 pk.e, .int .i64 pk.i, .int .i64 pk.t, .int .i64 pk.c, .slice B8 pk.L.length d8, .slice B9 pk.bo.length d9, .int .i64 pk.T, .int .i64 pk.O, .int .i64 pk.M, .int .i64 pk.P, .slice B14 pk.R.length d14], .int .i64 0]) (by simp [results, Tryd.results11, go_sem, y0, y1, y2, y3, y4, y5, y6, y7, y8, y9, y10, y11, y12, y13, y14]) rfl (by rw [HN.out]; exact ⟨_, _, _, rfl, Kd.R_mono (Kd.R_kept (Kd.R_types H8.out HX.out (by decide)) hmv.kept (fun k hk he => hk.2 he)) (fun _ _ => trivial), Kd.R_mono (Kd.R_kept (Kd.R_types H9.out HX.out (by decide)) hmv.kept (fun k hk he => hk.2 he)) (fun _ _ => trivial), Kd.R_mono (Kd.R_kept (Kd.R_types H14.out HX.out (by decide)) hmv.kept (fun k hk he => hk.2 he)) (fun _ _ => trivial), hB'⟩)
def pkt_Read.f (l : List Int) : Option (Int × Int × Int × Int × Int × Int × Int × Int × List Int × List Int × Int × Int × Int × Int × List Int × Int) := if l.all (fun c => decide (0 ≤ c ∧ c ≤ 255)) = true ∧ l.length < 5000 then some (readP l) else none
theorem pkt_Read.is (A0 : Option Addr) (c0 : Nat) (l0 : List Int) (w : World) (hr0 : Kd.C (Kd.int .u8) w A0 l0.length l0) (hc0 : l0.length ≤ c0) (hb : By l0) (hl : l0.length < 5000) (hG : GB w) : Calls Tryd.prog 11 #[.slice A0 l0.length c0] w (PRead w (readP l0)) := by
 by_cases ho : (openS l0).2 = 0
 ·
  by_cases h3 : (openS l0).1.length < 3
  ·
   have h := pkt_Read.short A0 c0 l0 w hr0 hc0 hb hl hG ho h3
   rwa [show readP l0 = tell16 none 2 by unfold readP readC; rw [if_pos ho, if_pos h3]]
  ·
   by_cases hm : rd (openS l0).1 0 = 165
   ·
    exact pkt_Read.more A0 c0 l0 w hr0 hc0 hb hl hG ho h3 hm
   ·
    have h := pkt_Read.mark A0 c0 l0 w hr0 hc0 hb hl hG ho ⟨h3, hm⟩
    rwa [show readP l0 = tell16 none 2 by unfold readP readC; rw [if_pos ho, if_neg h3, if_neg hm]]
 ·
  have h := pkt_Read.bad A0 c0 l0 w hr0 hc0 hb hl hG ho
  rwa [show readP l0 = tell16 none (openS l0).2 by unfold readP; rw [if_neg ho]]
theorem pkt_Read.calls (A0 : Option Addr) (c0 : Nat) (l0 : List Int) (r1 r2 r3 r4 r5 r6 r7 r8 : Int) (r9 r10 : List Int) (r11 r12 r13 r14 : Int) (r15 : List Int) (r16 : Int) (w : World) (hr0 : Kd.C (Kd.int .u8) w A0 l0.length l0) (hc0 : l0.length ≤ c0) (hG : GB w) (h : pkt_Read.f l0 = some (r1, r2, r3, r4, r5, r6, r7, r8, r9, r10, r11, r12, r13, r14, r15, r16)) :
  Calls Tryd.prog 11 #[.slice A0 l0.length c0] w fun e w' => ∃ v8_ v9_ v14_ : Value, e = .returned (.tuple #[.agg #[.int .i64 r1, .int .i64 r2, .int .i64 r3, .int .i64 r4, .int .i64 r5, .int .i64 r6, .int .i64 r7, .int .i64 r8, v8_, v9_, .int .i64 r11, .int .i64 r12, .int .i64 r13, .int .i64 r14, v14_], .int .i64 r16]) ∧ Kd.R (Kd.int .i64) 3 w' w.heap.size (fun _ => True) v8_ r9 ∧ Kd.R (Kd.int .u8) 5 w' w.heap.size (fun _ => True) v9_ r10 ∧ Kd.R (Kd.int .i64) 3 w' w.heap.size (fun _ => True) v14_ r15 ∧ Below w.heap.size w w' := by
 unfold pkt_Read.f at h
 split at h
 ·
  rename_i hc
  have hb : By l0 := fun c hm => of_decide_eq_true (List.all_eq_true.1 hc.1 c hm)
  have hh := pkt_Read.is A0 c0 l0 w hr0 hc0 hb hc.2 hG
  unfold PRead at hh
  rw [Option.some.inj h] at hh
  exact hh
 ·
  cases h
end Go.Proofs.YtieolhhokepkjaaDoor.Print
