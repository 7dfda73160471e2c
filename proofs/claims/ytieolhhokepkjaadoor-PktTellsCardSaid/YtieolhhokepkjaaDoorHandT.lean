/- The item of bytes by the document, and that a call does just what its Lean function says. Conditions stand in each theorem. -/
import Derived.Test.YtieolhhokepkjaaDoorHandB
import Derived.Test.YtieolhhokepkjaaDoorHand9
import Derived.Deep.Light
namespace Go.Proofs.YtieolhhokepkjaaDoor.Print
set_option linter.unusedVariables false
set_option linter.unusedSimpArgs false
open Go.RowKit Go.Proofs.YtieolhhokepkjaaDoorW.PrintWords Go.Proofs.YtieolhhokepkjaaDoorW.PrintLast Go.Proofs.YtieolhhokepkjaaDoorW.PrintMore Go.Proofs.YtieolhhokepkjaaDoor.NumPlain
/-- Rows that are cut. -/
theorem sl_from {w : World} {A : Option Addr} {c : Nat} {xs : List Int} (h : Kd.C (Kd.int .u8) w A xs.length xs) (hc : xs.length ≤ c) (m : Nat) (hm : m ≤ xs.length) : ∃ (B : Option Addr) (d : Nat),
  (∀ W : World, (Instr.slice 23 (.slice A xs.length c) (some (.int .i64 (m : Int))) none none).run Tryd.prog W = .ok (.slice B (xs.drop m).length d) W) ∧ (xs.drop m).length ≤ d ∧ Kd.C (Kd.int .u8) w B (xs.drop m).length (xs.drop m) := by
 obtain ⟨i5, hi5, hz5, hs5, _⟩ := info_parts info5
 refine ⟨_, c - m, fun W => ?_, ?_, Kd.C_drop h hm hc⟩
 ·
  have := cut_from (P := Tryd.prog) 23 5 .i64 Tryd.underlying23 hi5 1 hs5 A xs.length c (m : Int) (by omega) (by omega) W
  rw [Int.toNat_natCast] at this
  rw [this, List.length_drop]; rfl
 ·
  rw [List.length_drop]; omega
theorem sl_mid {w : World} {A : Option Addr} {c : Nat} {xs : List Int} (h : Kd.C (Kd.int .u8) w A xs.length xs) (hc : xs.length ≤ c) (lo hi : Nat) (h1 : lo ≤ hi) (h2 : hi ≤ xs.length) : ∃ (B : Option Addr) (d : Nat),
  (∀ W : World, (Instr.slice 23 (.slice A xs.length c) (some (.int .i64 (lo : Int))) (some (.int .i64 (hi : Int))) none).run Tryd.prog W = .ok (.slice B ((xs.take hi).drop lo).length d) W) ∧ ((xs.take hi).drop lo).length ≤ d ∧ Kd.C (Kd.int .u8) w B ((xs.take hi).drop lo).length ((xs.take hi).drop lo) := by
 obtain ⟨i5, hi5, hz5, hs5, _⟩ := info_parts info5
 refine ⟨_, c - lo, fun W => ?_, ?_, Kd.C_mid h h1 h2 hc⟩
 ·
  have := cut_mid (P := Tryd.prog) 23 5 .i64 .i64 Tryd.underlying23 hi5 1 hs5 A xs.length c (lo : Int) (hi : Int) (by omega) (by omega) (by omega) hc W
  rw [Int.toNat_natCast, Int.toNat_natCast] at this
  rw [this, List.length_drop, List.length_take, Nat.min_eq_left h2]; rfl
 ·
  rw [List.length_drop, List.length_take]; omega
def m0 : RMid := ⟨true, 0, 0, 0, [], [], []⟩
def cand1 (k : Int) (c : List Int) (m : RMid) : RMid := if k = 1 ∧ 2 ≤ c.length then { m with i := rd c 0, t := rd c 1, bo := c.drop 2 } else m
def cand2 (k : Int) (c : List Int) (m : RMid) : RMid := if k = 2 ∧ 1 ≤ c.length then { m with i := rd c 0, L := (rowT 1 (c.drop 1)).1 } else m
def cand4 (k : Int) (c : List Int) (m : RMid) : RMid := if k = 4 ∧ 1 ≤ c.length then { m with i := rd c 0 } else m
def cand5 (k : Int) (c : List Int) (m : RMid) : RMid := if k = 5 then { m with c := ((num_Take.f c 8).getD (0, [], 1)).1 } else m
def cand6 (k : Int) (c : List Int) (m : RMid) : RMid := if k = 6 then { m with L := (rowT 8 c).1 } else m
def candM (k : Int) (c : List Int) : RMid := cand6 k c (cand5 k c (cand4 k c (cand2 k c (cand1 k c m0))))
def refItem (k s e : Int) (m : RMid) (l : List Int) : Option (Int × Int × Int × Int × Int × Int × List Int × List Int) :=
 if (mayB k s e m.i m.t m.c m.L m.bo.length && ((strOfNums (bytesOf k s e m.i m.t m.c m.L m.bo)).toList == (strOfNums l).toList)) = true then some (k, s, e, m.i, m.t, m.c, m.L, m.bo) else none
def refTake (l : List Int) : Option (Int × Int × Int × Int × Int × Int × List Int × List Int) :=
 if l.length < 17 then none else (match rowS 8 2 ((l.take 17).drop 1) with | none => none | some (xs, r) => refItem (l.headD 0) (rd xs 0) (rd xs 1) (candM (l.headD 0) (l.drop 17)) l)
/-- What is known of the two boxes: the result's, and the item's that is tried. -/
structure RT (w : World) (g : Nat) (k s e : Int) (m : RMid) (B1 : Option Addr) (d1 : Nat) (B2 : Option Addr) (d2 : Nat) (W : World) : Prop where
 x2 : W.heap[w.heap.size]? = some (.cells #[.int .i64 0, .int .i64 0, .int .i64 0, .int .i64 0, .int .i64 0, .int .i64 0, .slice none 0 0, .slice none 0 0] 25 (0, 0))
 x7 : W.heap[g]? = some (.cells #[.int .i64 k, .int .i64 s, .int .i64 e, .int .i64 m.i, .int .i64 m.t, .int .i64 m.c, .slice B1 m.L.length d1, .slice B2 m.bo.length d2] 25 (0, 0))
 hg : w.heap.size < g
 r1 : Kd.R (Kd.int .i64) 3 W w.heap.size (fun _ => True) (.slice B1 m.L.length d1) m.L
 r2 : Kd.R (Kd.int .u8) 5 W w.heap.size (fun _ => True) (.slice B2 m.bo.length d2) m.bo
 hb : Below w.heap.size w W
def RTe (w : World) (g : Nat) (k s e : Int) (m : RMid) (W : World) : Prop := ∃ B1 d1 B2 d2, RT w g k s e m B1 d1 B2 d2 W
theorem RT.below {w W W1 : World} {g : Nat} {k s e : Int} {m : RMid} {B1 B2 : Option Addr} {d1 d2 : Nat} (h : RT w g k s e m B1 d1 B2 d2 W) (hb : Below W.heap.size W W1) : RT w g k s e m B1 d1 B2 d2 W1 :=
 ⟨blk_below h.x2 hb, blk_below h.x7 hb, h.hg, Kd.R_below h.r1 hb, Kd.R_below h.r2 hb, below_step h.hb hb⟩
/-- A field of the item is written. -/
theorem RT.put {w W : World} {g : Nat} {k s e : Int} {m m' : RMid} {B1 B2 B1' B2' : Option Addr} {d1 d2 d1' d2' : Nat} (h : RT w g k s e m B1 d1 B2 d2 W) (j : Nat) (v : Value)
  (hx : (#[.int .i64 k, .int .i64 s, .int .i64 e, .int .i64 m.i, .int .i64 m.t, .int .i64 m.c, .slice B1 m.L.length d1, .slice B2 m.bo.length d2] : Array Value).setIfInBounds j v = #[.int .i64 k, .int .i64 s, .int .i64 e, .int .i64 m'.i, .int .i64 m'.t, .int .i64 m'.c, .slice B1' m'.L.length d1', .slice B2' m'.bo.length d2'])
  (h1 : Kd.R (Kd.int .i64) 3 W w.heap.size (fun _ => True) (.slice B1' m'.L.length d1') m'.L) (h2 : Kd.R (Kd.int .u8) 5 W w.heap.size (fun _ => True) (.slice B2' m'.bo.length d2') m'.bo) : RT w g k s e m' B1' d1' B2' d2' (W.setCell ⟨g, j, none⟩ v) := by
 have hk0 : Mv W W (fun k => k = g) := Mv.below (Below.refl _ W) _
 have hk := hk0.setCell (p := ⟨g, j, none⟩) (Or.inl rfl) v
 have hgg := h.hg
 exact ⟨blk_kept h.x2 hk.kept (by omega), blk_put h.x7 j v hx, h.hg, Kd.R_mono (Kd.R_kept (Kd.R_types h1 h.x7 (by decide)) hk.kept (fun k hk he => hk.2 he)) (fun _ hk => hk.1), Kd.R_mono (Kd.R_kept (Kd.R_types h2 h.x7 (by decide)) hk.kept (fun k hk he => hk.2 he)) (fun _ hk => hk.1), Mv.to h.hb hk (fun k hk => by omega) h.hb.size⟩
theorem rrow {W : Int} (hW : Wd W) (h0 : 0 < W) {l : List Int} (hb : By l) (hl : l.length < 5000) (m : Int) (hm : (l.length : Int) / W = m) :
  precentorref02_TakeRow.f (l.length + 20) l m W = some ((rowT W l).1, (rowT W l).2.1, (rowT W l).2.2) := by
 subst hm
 have hn : 0 ≤ (l.length : Int) / W := Int.ediv_nonneg (by go_light; omega) (by go_light; omega)
 have hd : (l.length : Int) / W ≤ l.length := Int.ediv_le_self _ (by go_light; omega)
 rw [rtakerow_is hb hl (by go_light; omega) W (Nat.le_refl _), ← rowT_is h0 hb (by go_light; omega), takerow_good hW hn (by go_light; omega) hb (by go_light; omega) (by go_light; omega), takerow_good hW hn (by go_light; omega) hb (by go_light; omega) (by go_light; omega)]
theorem rtake8 {l : List Int} (hb : By l) (hl : l.length < 5000) : precentorref02_Take.f 20 l 8 = some (((num_Take.f l 8).getD (0, [], 1)).1, ((num_Take.f l 8).getD (0, [], 1)).2.1, ((num_Take.f l 8).getD (0, [], 1)).2.2) := by
 rw [rtake_is hb (by go_light; omega) 8 (by go_light; omega)]
 exact take8_is l
theorem at_rd {w : World} {A : Option Addr} {l : List Int} (h : Kd.C (Kd.int .u8) w A l.length l) (j : Nat) (hj : j < l.length) (hb : By l) :
  ∃ ad, A = some ad ∧ w.cell? (ad.add j) = some (.int .u8 (rd l (j : Int))) ∧ 0 ≤ rd l (j : Int) ∧ rd l (j : Int) ≤ 255 := by
 obtain ⟨ad, hA, hk⟩ := Kd.at_int h (j : Int) (by go_light; omega) (by go_light; omega)
 have := hb (rd l (j : Int)) (by
  unfold rd
  rw [List.getD_eq_getElem?_getD, List.getElem?_eq_getElem (show Int.toNat (j : Int) < l.length by simp; omega)]
  exact List.getElem_mem _)
 rw [Int.toNat_natCast] at hk
 exact ⟨ad, hA, hk, this.1, by have := this.2; omega⟩
theorem build0 (W : World) : (Instr.buildSlice 23 0 #[]).run Tryd.prog W = .ok (.slice (some ⟨W.heap.size, 0, none⟩) 0 0) (W.alloc (.cells #[] 5)) := by
 have h : Sem.run Tryd.prog (pure (#[] : Array Value)) (W.alloc (Obj.cells #[] 5)) = Result.ok #[] (W.alloc (Obj.cells #[] 5)) := rfl
 simp [go_sem, Tryd.underlying23, info5, h]
theorem rowT_len {W : Int} (hW : 0 < W) {l : List Int} (hb : By l) (hl : l.length < 10000) : (rowT W l).1.length ≤ l.length := by
 have hd : (l.length : Int) / W ≤ l.length := Int.ediv_le_self _ (by go_light; omega)
 obtain ⟨q, hq, hn⟩ := takerow_some (W := W) (m := (l.length : Int) / W) (l := l) (k := l.length + 3) (by go_light; omega) hb hl (Nat.le_refl _)
 unfold rowT
 rw [hq]; exact hn
theorem cand_len (k : Int) {c : List Int} (hb : By c) (hl : c.length < 5000) : (candM k c).L.length < 5000 ∧ (candM k c).bo.length < 5000 := by
 have h0 : m0.L.length < 5000 ∧ m0.bo.length < 5000 := ⟨by decide, by decide⟩
 have h8 := rowT_len (W := 8) (by decide) hb (by go_light; omega)
 have hd : (c.drop 1).length ≤ c.length := by rw [List.length_drop]; omega
 have h1 := rowT_len (W := 1) (by decide) (hb.drop 1) (by go_light; omega)
 have a1 : ∀ m : RMid, m.L.length < 5000 ∧ m.bo.length < 5000 → (cand1 k c m).L.length < 5000 ∧ (cand1 k c m).bo.length < 5000 := fun m h => by
  unfold cand1; split
  ·
   exact ⟨h.1, by show (c.drop 2).length < 5000; rw [List.length_drop]; omega⟩
  ·
   exact h
 have a2 : ∀ m : RMid, m.L.length < 5000 ∧ m.bo.length < 5000 → (cand2 k c m).L.length < 5000 ∧ (cand2 k c m).bo.length < 5000 := fun m h => by
  unfold cand2; split
  ·
   exact ⟨by show (rowT 1 (c.drop 1)).1.length < 5000; omega, h.2⟩
  ·
   exact h
 have a4 : ∀ m : RMid, m.L.length < 5000 ∧ m.bo.length < 5000 → (cand4 k c m).L.length < 5000 ∧ (cand4 k c m).bo.length < 5000 := fun m h => by
  unfold cand4; split <;> exact h
 have a5 : ∀ m : RMid, m.L.length < 5000 ∧ m.bo.length < 5000 → (cand5 k c m).L.length < 5000 ∧ (cand5 k c m).bo.length < 5000 := fun m h => by
  unfold cand5; split <;> exact h
 have a6 : ∀ m : RMid, m.L.length < 5000 ∧ m.bo.length < 5000 → (cand6 k c m).L.length < 5000 ∧ (cand6 k c m).bo.length < 5000 := fun m h => by
  unfold cand6; split
  ·
   exact ⟨by show (rowT 8 c).1.length < 5000; omega, h.2⟩
  ·
   exact h
 exact a6 _ (a5 _ (a4 _ (a2 _ (a1 _ h0))))
set_option maxRecDepth 100000 in
set_option maxHeartbeats 4000000 in
theorem precentorref03_Take.is (A0 : Option Addr) (c0 : Nat) (l0 : List Int) (w : World) (hr0 : Kd.C (Kd.int .u8) w A0 l0.length l0) (hc0 : l0.length ≤ c0) (hb : By l0) (hl : l0.length < 5000) :
  Calls Tryd.prog 26 #[.slice A0 l0.length c0] w (TakePost w (refTake l0)) := by
 have HR0 := ak hr0
 have HY := Lib.hid hb
 have HL := Lib.hid hl
 have HC0 := Lib.hid hc0
 obtain ⟨w0, hw0, hB0, hs0, X0⟩ := boxed1 w (.int .i64 0) (.int .i64 0) (.int .i64 0) (.int .i64 0) (.int .i64 0) (.int .i64 0) (.slice none 0 0) (.slice none 0 0)
 have HB0 := ak hB0
 by_cases h17 : l0.length < 17
 ·
  have HM := Lib.hid (show refTake l0 = none by unfold refTake; rw [if_pos h17])
  have a1 : decide ((l0.length : Int) < 17) = true := decide_eq_true (by omega)
  have a2 : decide (l0.length < 17) = true := decide_eq_true h17
  have HX := ak X0
  obtain ⟨⟨q0, q1, q2, q3, q4, q5, q6, q7⟩, ⟨p0, p1, p2, p3, p4, p5, p6, p7⟩⟩ := cells8 X0
  clear hr0 hc0 hb hl hB0 hs0 X0 h17
  go_enter Tryd.func26, Tryd.ntmps26
  go_wp2_with fail
  obtain ⟨W', hW', z4, hmv⟩ := box8 HX.out (.int .i64 0) (.int .i64 0) (.int .i64 0) (.int .i64 0) (.int .i64 0) (.int .i64 0) (.slice none 0 0) (.slice none 0 0)
  rw [hW']
  clear hW'
  have hB' : Below w.heap.size w W' := Mv.to HB0.out hmv (fun k hk => by omega) HB0.out.size
  obtain ⟨⟨y0, y1, y2, y3, y4, y5, y6, y7⟩, _⟩ := cells8 z4
  exact bodyPost_ret (v := .tuple #[.agg #[.int .i64 0, .int .i64 0, .int .i64 0, .int .i64 0, .int .i64 0, .int .i64 0, .slice none 0 0, .slice none 0 0], .int .i64 2]) (by simp [results, Tryd.results26, go_sem, y0, y1, y2, y3, y4, y5, y6, y7]) rfl (by rw [HM.out]; exact TakePost.none_ hB')
 ·
  obtain ⟨A1, c1, sl1, hc1, hC1⟩ := sl_mid hr0 hc0 1 17 (by omega) (by omega)
  have a1 : decide ((l0.length : Int) < 17) = false := decide_eq_false (by omega)
  have a2 : decide (l0.length < 17) = false := decide_eq_false h17
  obtain ⟨y, hy⟩ : ∃ y, (l0.take 17).drop 1 = y := ⟨_, rfl⟩
  have hyl : y.length = 16 := by rw [← hy, List.length_drop, List.length_take]; omega
  have hyb : By y := by rw [← hy]; exact (hb.take 17).drop 1
  rw [hy] at sl1 hc1 hC1
  have sl1 : ∀ W : World, (Instr.slice 23 (.slice A0 l0.length c0) (some (.int .i64 1)) (some (.int .i64 17)) none).run Tryd.prog W = .ok (.slice A1 y.length c1) W := sl1
  have htr : precentorref02_TakeRow.f 100 y 2 8 = _ := rtakerow_is hyb (by omega) (by omega) 8 (by omega)
  rw [takerow_good (W := 8) (Or.inr (Or.inr rfl)) (by omega) (by omega) hyb (by omega) (by omega), show Int.toNat 2 = 2 from rfl] at htr
  cases hrow : rowS 8 2 y with
  | none =>
   rw [hrow] at htr
   have HM := Lib.hid (show refTake l0 = none by unfold refTake; rw [if_neg h17, hy, hrow])
   have HTK := Lib.hid (precentorref02_TakeRow.calls 100 A1 c1 y 2 8 [] [] 2 w0 (Kd.C_below hC1 hB0) hc1 htr)
   have HX := ak X0
   clear hr0 hc0 hb hl hB0 hs0 X0 h17 hC1 hc1 hyl hyb htr hrow hy
   go_enter Tryd.func26, Tryd.ntmps26
   go_wp2_with fail
   refine HTK.out.mono ?_
   rintro e w2 ⟨v0, v1, rfl, hr, hv, hb⟩
   have z2 := blk_below HX.out hb
   have HB2 := ak (below_step HB0.out hb)
   obtain ⟨⟨q0, q1, q2, q3, q4, q5, q6, q7⟩, ⟨p0, p1, p2, p3, p4, p5, p6, p7⟩⟩ := cells8 z2
   clear hb hr hv
   go_wp2_with fail
   obtain ⟨W', hW', z4, hmv⟩ := box8 z2 (.int .i64 0) (.int .i64 0) (.int .i64 0) (.int .i64 0) (.int .i64 0) (.int .i64 0) (.slice none 0 0) (.slice none 0 0)
   rw [hW']
   clear hW'
   have hB' : Below w.heap.size w W' := Mv.to HB2.out hmv (fun k hk => by omega) HB2.out.size
   obtain ⟨⟨y0, y1, y2, y3, y4, y5, y6, y7⟩, _⟩ := cells8 z4
   exact bodyPost_ret (v := .tuple #[.agg #[.int .i64 0, .int .i64 0, .int .i64 0, .int .i64 0, .int .i64 0, .int .i64 0, .slice none 0 0, .slice none 0 0], .int .i64 2]) (by simp [results, Tryd.results26, go_sem, y0, y1, y2, y3, y4, y5, y6, y7]) rfl (by rw [HM.out]; exact TakePost.none_ hB')
  | some xr =>
   obtain ⟨xs, r⟩ := xr
   have hx2 := (rowS_is (Or.inr (Or.inr rfl)) 2 y xs r hyb hrow).1
   rw [hrow] at htr
   obtain ⟨A2, c2, sl2, hc2, hC2⟩ := sl_from hr0 hc0 17 (by omega)
   obtain ⟨cc, hcc⟩ : ∃ cc, l0.drop 17 = cc := ⟨_, rfl⟩
   rw [hcc] at sl2 hc2 hC2
   have sl2 : ∀ W : World, (Instr.slice 23 (.slice A0 l0.length c0) (some (.int .i64 17)) none none).run Tryd.prog W = .ok (.slice A2 cc.length c2) W := sl2
   obtain ⟨ad, hA, hk0⟩ := Kd.at_int hr0 0 (by omega) (by omega)
   have hkk : l0.headD 0 = rd l0 0 := by cases l0 <;> rfl
   have hkb := hb (rd l0 0) (by
    unfold rd
    rw [List.getD_eq_getElem?_getD, List.getElem?_eq_getElem (show Int.toNat 0 < l0.length by simp; omega)]
    exact List.getElem_mem _)
   obtain ⟨k, hk⟩ : ∃ k, rd l0 0 = k := ⟨_, rfl⟩
   rw [hk] at hk0 hkk hkb
   rw [show Int.toNat 0 = 0 from rfl] at hk0
   subst hA
   have hk1 : w.cell? ad = some (.int .u8 k) := by have := hk0; simpa [Addr.add] using this
   have hkw : wrap64 k = k := by unfold wrap64; omega
   have hlp : 0 < l0.length := by omega
   have HM := Lib.hid (show refTake l0 = refItem k (rd xs 0) (rd xs 1) (candM k cc) l0 by unfold refTake; rw [if_neg h17, hy, hrow, hkk, hcc])
   have HTK := Lib.hid (precentorref02_TakeRow.calls 100 A1 c1 y 2 8 xs r 0 w0 (Kd.C_below hC1 hB0) hc1 htr)
   have HX := ak X0
   have HX2 := Lib.hid hx2
   have HCC := Lib.hid (show By cc by rw [← hcc]; exact hb.drop 17)
   have HCL := Lib.hid (show cc.length < 5000 by rw [← hcc, List.length_drop]; omega)
   have HC2 := ak hC2
   have HD2 := Lib.hid hc2
   have HKB := Lib.hid hkb
   have HKW := Lib.hid hkw
   have hk0' := pw_cell_below hB0 hk0
   have hk1' := pw_cell_below hB0 hk1
   clear hr0 hc0 hb hl hB0 X0 h17 hC1 hc1 hyl hyb htr hrow hy hkk hk hcc hC2 hc2 hk0 hk1 hkw
   go_enter Tryd.func26, Tryd.ntmps26
   go_wp2_with fail
   refine HTK.out.mono ?_
   rintro e w2 ⟨v0, v1, rfl, hr, hv, hb⟩
   obtain ⟨g, cap, rfl, hg1, hg2, _⟩ := Kd.R_form hr (by rw [hx2]; omega)
   have q0 := (Kd.R_celln 0 hr 0 (by omega) (by rw [hx2]; omega)).1
   have q1 := (Kd.R_celln 0 hr 1 (by omega) (by rw [hx2]; omega)).1
   change World.cell? _ _ = some (Value.int .i64 (rd xs 0)) at q0
   change World.cell? _ ⟨g, 1, none⟩ = some (Value.int .i64 (rd xs 1)) at q1
   rw [show Int.toNat 0 = 0 from rfl] at q0
   have q2 := pw_cell_below hb hk0'
   have q3 := pw_cell_below hb hk1'
   have Z2 := ak (blk_below HX.out hb)
   have HB2 := ak (below_step HB0.out hb)
   have hs2 : w.heap.size + 1 ≤ w2.heap.size := by have := hb.size; omega
   rw [hx2]
   generalize rd xs 0 = s at *
   generalize rd xs 1 = e at *
   clear hb hr hg1 hg2 hx2 hs0 hv hk0' hk1'
   go_wp2_with fail
   refine start_ (n := 13) (S := fun w' => w'.cell? ⟨g, 0, none⟩ = some (.int .i64 s) ∧ w'.cell? ⟨g, 1, none⟩ = some (.int .i64 e) ∧ w'.cell? (ad.add 0) = some (.int .u8 k) ∧ w'.cell? ad = some (.int .u8 k)) (ds := [12]) #[false, false, false, false, false, false, false, false, false, false, false, false, false] (by kernel_rfl) rfl rfl ⟨pw_cell_below (below_drew1 (Below.refl _ _)) q0, pw_cell_below (below_drew1 (Below.refl _ _)) q1, pw_cell_below (below_drew1 (Below.refl _ _)) q2, pw_cell_below (below_drew1 (Below.refl _ _)) q3⟩ (fun hHeld => ?_)
   have HBq := ak (below_drew1 (Below.refl w2.heap.size w2))
   generalize hw3_ : w2.drew = w3 at *
   clear hw3_
   refine pure_ (i := 0) (N := some 33) (v := ?_) (a' := ?_) #[true, false, false, false, false, false, false, false, false, false, false, false, false] rfl rfl (by kernel_rfl) (fun _ _ _ h => h) (Or.inl ⟨by rfl, ?_⟩) ?_ ?_
   rotate_left
   ·
    intro w'
    go_simp
    with_reducible rfl
   rotate_left
   ·
    simp only [Act.put, sq1, sq2, sq3, i64_w, i32_w]
    rfl
   refine pure_ (i := 1) (N := some 34) (v := ?_) (a' := ?_) #[true, true, false, false, false, false, false, false, false, false, false, false, false] rfl rfl (by kernel_rfl) (fun _ _ _ h => h) (Or.inl ⟨by rfl, ?_⟩) ?_ ?_
   rotate_left
   ·
    intro w'
    go_simp
    with_reducible rfl
   rotate_left
   ·
    simp only [Act.put, sq1, sq2, sq3, i64_w, i32_w]
    rfl
   refine pure_ (i := 4) (N := some 37) (v := ?_) (a' := ?_) #[true, true, false, false, true, false, false, false, false, false, false, false, false] rfl rfl (by kernel_rfl) (fun _ _ _ h => h) (Or.inl ⟨by rfl, ?_⟩) ?_ ?_
   rotate_left
   ·
    intro w'
    go_simp
    with_reducible rfl
   rotate_left
   ·
    simp only [Act.put, sq1, sq2, sq3, i64_w, i32_w]
    rfl
   refine pure_ (i := 5) (N := some 38) (v := ?_) (a' := ?_) #[true, true, false, false, true, true, false, false, false, false, false, false, false] rfl rfl (by kernel_rfl) (fun _ _ _ h => h) (Or.inl ⟨by rfl, ?_⟩) ?_ ?_
   rotate_left
   ·
    intro w'
    go_simp
    with_reducible rfl
   rotate_left
   ·
    simp only [Act.put, sq1, sq2, sq3, i64_w, i32_w]
    rfl
   refine pure_ (i := 7) (N := some 40) (v := ?_) (a' := ?_) #[true, true, false, false, true, true, false, true, false, false, false, false, false] rfl rfl (by kernel_rfl) (fun _ _ _ h => h) (Or.inl ⟨by rfl, ?_⟩) ?_ ?_
   rotate_left
   ·
    intro w'
    go_simp
    with_reducible rfl
   rotate_left
   ·
    simp only [Act.put, sq1, sq2, sq3, i64_w, i32_w]
    rfl
   refine pure_ (i := 8) (N := some 41) (v := ?_) (a' := ?_) #[true, true, false, false, true, true, false, true, true, false, false, false, false] rfl rfl (by kernel_rfl) (fun _ _ _ h => h) (Or.inl ⟨by rfl, ?_⟩) ?_ ?_
   rotate_left
   ·
    intro w'
    go_simp
    with_reducible rfl
   rotate_left
   ·
    simp only [Act.put, sq1, sq2, sq3, i64_w, i32_w]
    rfl
   refine take_ (i := 2) (N := some 35) (v := ?_) (a' := ?_) #[true, true, true, false, true, true, false, true, true, false, false, false, false] rfl rfl (by kernel_rfl) (fun _ _ _ h => h) (Or.inl ⟨by rfl, ?_⟩) hHeld ?_ ?_
   rotate_left
   ·
    rintro w' ⟨s0, s1, s2, s3⟩
    go_simp
    with_reducible rfl
   rotate_left
   ·
    simp only [Act.put, sq1, sq2, sq3, i64_w, i32_w]
    rfl
   refine pure_ (i := 3) (N := some 36) (v := ?_) (a' := ?_) #[true, true, true, true, true, true, false, true, true, false, false, false, false] rfl rfl (by kernel_rfl) (fun _ _ _ h => h) (Or.inl ⟨by rfl, ?_⟩) ?_ ?_
   rotate_left
   ·
    intro w'
    go_simp
    with_reducible rfl
   rotate_left
   ·
    simp only [Act.put, sq1, sq2, sq3, i64_w, i32_w]
    rfl
   refine take_ (i := 6) (N := some 39) (v := ?_) (a' := ?_) #[true, true, true, true, true, true, true, true, true, false, false, false, false] rfl rfl (by kernel_rfl) (fun _ _ _ h => h) (Or.inl ⟨by rfl, ?_⟩) hHeld ?_ ?_
   rotate_left
   ·
    rintro w' ⟨s0, s1, s2, s3⟩
    go_simp
    with_reducible rfl
   rotate_left
   ·
    simp only [Act.put, sq1, sq2, sq3, i64_w, i32_w]
    rfl
   refine take_ (i := 9) (N := some 42) (v := ?_) (a' := ?_) #[true, true, true, true, true, true, true, true, true, true, false, false, false] rfl rfl (by kernel_rfl) (fun _ _ _ h => h) (Or.inl ⟨by rfl, ?_⟩) hHeld ?_ ?_
   rotate_left
   ·
    rintro w' ⟨s0, s1, s2, s3⟩
    go_simp
    with_reducible rfl
   rotate_left
   ·
    simp only [Act.put, sq1, sq2, sq3, i64_w, i32_w]
    rfl
   refine pure_ (i := 10) (N := some 43) (v := ?_) (a' := ?_) #[true, true, true, true, true, true, true, true, true, true, true, false, false] rfl rfl (by kernel_rfl) (fun _ _ _ h => h) (Or.inl ⟨by rfl, ?_⟩) ?_ ?_
   rotate_left
   ·
    intro w'
    go_simp
    with_reducible rfl
   rotate_left
   ·
    simp only [Act.put, sq1, sq2, sq3, i64_w, i32_w]
    rfl
   refine one_ (i := 11) (N := some 7) #[true, true, true, true, true, true, true, true, true, true, true, true, false] rfl rfl (by kernel_rfl) (by decide) (fun K hK => ?_)
   refine value_ (w1 := ?_) (v := ?_) (by rfl) rfl ?_ ?_
   rotate_left 2
   ·
    go_simp
    constructor
    ·
     rfl
    ·
     rfl
   have HN := ak (blk_new w3 (Obj.cells #[.int .i64 0, .int .i64 0, .int .i64 0, .int .i64 0, .int .i64 0, .int .i64 0, .slice none 0 0, .slice none 0 0] 25))
   have HGL := Lib.hid (show w2.heap.size ≤ w3.heap.size from HBq.out.size)
   have n0_ := ak (below_alloc HBq.out (Obj.cells #[.int .i64 0, .int .i64 0, .int .i64 0, .int .i64 0, .int .i64 0, .int .i64 0, .slice none 0 0, .slice none 0 0] 25))
   clear HBq
   have HBq := n0_
   clear n0_
   generalize hgl_ : w3.alloc (Obj.cells #[.int .i64 0, .int .i64 0, .int .i64 0, .int .i64 0, .int .i64 0, .int .i64 0, .slice none 0 0, .slice none 0 0] 25) = w4 at *
   clear hgl_
   generalize w3.heap.size = g7 at HN HGL ⊢
   refine hK.out _ _ ⟨pw_cell_below HBq.out q0, pw_cell_below HBq.out q1, pw_cell_below HBq.out q2, pw_cell_below HBq.out q3⟩ (fun hHeld => ?_)
   clear hK K
   refine norm_ (a' := ?_) ?_ ?_
   rotate_left
   ·
    show Act.put _ (some 7) _ = _
    simp only [Act.put, sq1, sq2, sq3, i64_w, i32_w]
    rfl
   refine last_ (i := 12) (N := none) #[true, true, true, true, true, true, true, true, true, true, true, true, true] rfl rfl (by kernel_rfl) (by decide) (fun K hK => ?_)
   obtain ⟨⟨a0, a3, a4, a5, a6, a7, a8, a9⟩, ⟨b0, b1, b2, b3, b4, b5, b6, b7⟩⟩ := cells8 HN.out
   refine skip_ (w1 := ?_) (by rfl) rfl ?_ ?_
   rotate_left
   ·
    go_simp
    rfl
   clear a0 a3 a4 a5 a6 a7 a8 a9 b0 b1 b2 b3 b4 b5 b6 b7
   refine hK.out _ _ ?_
   clear hK K
   refine done_ (by kernel_rfl) ?_
   clear hHeld
   obtain ⟨W, hW, z7, hmv⟩ := box8 HN.out (.int .i64 (wrap64 k)) (.int .i64 s) (.int .i64 e) (.int .i64 0) (.int .i64 0) (.int .i64 0) (.slice none 0 0) (.slice none 0 0)
   rw [hW]
   clear hW
   rw [HKW.out] at z7
   have hB' : Below w2.heap.size w2 W := Mv.to HBq.out hmv (fun k hk => by have := HGL.out; go_light; omega) HBq.out.size
   obtain ⟨B1, d1, B2, d2, hrt⟩ : RTe w g7 k s e m0 W := ⟨none, 0, none, 0, blk_below Z2.out hB', z7, by have := HGL.out; go_light; omega, Kd.R_nil _ _ _ _ _, Kd.R_nil _ _ _ _ _, below_step HB2.out hB'⟩
   have HRT := ak hrt
   clear hrt hB' hmv z7 HN HBq q0 q1 q2 q3
   obtain ⟨m, hm⟩ : ∃ m, m = m0 := ⟨_, rfl⟩
   rw [← hm] at HRT
   have HM0 := Lib.hid hm
   clear hm
   obtain ⟨b, hbb⟩ : ∃ b, (decide (k = 1) && decide (2 ≤ cc.length)) = b := ⟨_, rfl⟩
   obtain ⟨mn, hmn⟩ : ∃ mn, cand1 k cc m = mn := ⟨_, rfl⟩
   have HBB := Lib.hid hbb
   have HMN := Lib.hid hmn
   clear hbb hmn
   go_upto_region 8 with fail
   obtain ⟨⟨z0, z1, z2, z3, z4, z5, z6, z7⟩, ⟨f0, f1, f2, f3, f4, f5, f6, f7⟩⟩ := cells8 HRT.out.x7
   go_cut [53] (fun v wc => v = Value.bool b ∧ wc = W)
   case first =>
    by_cases hk : k = 1
    ·
     have HK := Lib.hid hk
     have e1 : (k == 1) = true := by rw [hk]; rfl
     clear hk
     by_cases hl : 2 ≤ cc.length
     ·
      have HLN := Lib.hid hl
      have g1 : decide ((cc.length : Int) ≥ 2) = true := decide_eq_true (by go_light; omega)
      have g2 : decide (2 ≤ cc.length) = true := decide_eq_true (by go_light; omega)
      have g3 : decide (cc.length ≥ 2) = true := decide_eq_true (by go_light; omega)
      have g4 : decide ((2 : Int) ≤ (cc.length : Int)) = true := decide_eq_true (by go_light; omega)
      clear hl
      go_wp2_with fail
      go_meet
      case rel => exact ⟨by rw [← HBB.out, decide_eq_true HK.out, decide_eq_true HLN.out]; rfl, rfl⟩
     ·
      have HLN := Lib.hid hl
      have g1 : decide ((cc.length : Int) ≥ 2) = false := decide_eq_false (by go_light; omega)
      have g2 : decide (2 ≤ cc.length) = false := decide_eq_false (by go_light; omega)
      have g3 : decide (cc.length ≥ 2) = false := decide_eq_false (by go_light; omega)
      have g4 : decide ((2 : Int) ≤ (cc.length : Int)) = false := decide_eq_false (by go_light; omega)
      clear hl
      go_wp2_with fail
      go_meet
      case rel => exact ⟨by rw [← HBB.out, decide_eq_true HK.out, decide_eq_false HLN.out]; rfl, rfl⟩
    ·
     have HK := Lib.hid hk
     have e1 : (k == 1) = false := beq_eq_false_iff_ne.2 hk
     clear hk
     go_wp2_with fail
     go_meet
     case rel => exact ⟨by rw [← HBB.out, decide_eq_false HK.out, Bool.false_and], rfl⟩
   case rest =>
    have hw := hcut.2
    have hv := hcut.1
    subst hv
    rw [hw]
    clear hcut hw z0 z1 z2 z3 z4 z5 z6 z7 f0 f1 f2 f3 f4 f5 f6 f7
    go_upto_if 53 with fail
    go_cut [8] (fun v8 wc => v8 = Value.slice A2 cc.length c2 ∧ Aside0 (RTe w g7 k s e mn wc))
    case first =>
     cases b
     ·
      go_wp2_with fail
      go_meet
      case rel => exact ⟨rfl, ⟨_, _, _, _, by rw [← HMN.out, show cand1 k cc m = m by unfold cand1; exact if_neg (fun h => by have := HBB.out; simp [h] at this)]; exact HRT.out⟩⟩
     ·
      have hb := HBB.out
      simp only [Bool.and_eq_true, decide_eq_true_eq] at hb
      obtain ⟨ad2, hA2, hx, hx0, hx1⟩ := at_rd HC2.out 0 (by go_light; omega) HCC.out
      subst hA2
      have hx : w.cell? (ad2.add 0) = some (.int .u8 (rd cc 0)) := hx
      have hx0 : 0 ≤ rd cc 0 := hx0
      have hx1 : rd cc 0 ≤ 255 := hx1
      obtain ⟨ad3, hA3, hy, hy0, hy1⟩ := at_rd HC2.out 1 (by go_light; omega) HCC.out
      obtain rfl : ad2 = ad3 := Option.some.inj hA3
      have hy : w.cell? (ad2.add 1) = some (.int .u8 (rd cc 1)) := hy
      have hy0 : 0 ≤ rd cc 1 := hy0
      have hy1 : rd cc 1 ≤ 255 := hy1
      obtain ⟨B3, d3, sl3, hd3, hC3⟩ := sl_from HC2.out HD2.out 2 (by go_light; omega)
      obtain ⟨bo, hbo⟩ : ∃ bo, cc.drop 2 = bo := ⟨_, rfl⟩
      have hbl : bo.length < 5000 := by rw [← hbo, List.length_drop]; have := HCL.out; go_light; omega
      have HMX := Lib.hid (show (⟨m.is, rd cc 0, rd cc 1, m.c, m.L, bo, m.left⟩ : RMid) = mn by rw [← HMN.out, ← hbo]; unfold cand1; rw [if_pos hb])
      rw [hbo] at sl3 hd3 hC3
      have sl3 : ∀ W : World, (Instr.slice 23 (.slice (some ad2) cc.length c2) (some (.int .i64 2)) none none).run Tryd.prog W = .ok (.slice B3 bo.length d3) W := sl3
      have hlp : 2 ≤ cc.length := hb.2
      have hlp0 : 0 < cc.length := by go_light; omega
      have hlp1 : 1 < cc.length := by go_light; omega
      generalize rd cc 0 = x0 at *
      generalize rd cc 1 = x1 at *
      have HW0 := Lib.hid (show wrap64 x0 = x0 by unfold wrap64; go_light; omega)
      have HW1 := Lib.hid (show wrap64 x1 = x1 by unfold wrap64; go_light; omega)
      have HX := ak hx
      have HYY := ak hy
      have HC3 := ak hC3
      have HBL := Lib.hid hbl
      clear hx hx0 hx1 hy hy0 hy1 hC3 hd3 hbo hb hbl
      have hx := pw_cell_below HRT.out.hb HX.out
      have hx' : World.cell? W ad2 = some (.int .u8 x0) := by simpa [Addr.add] using hx
      have hy := pw_cell_below HRT.out.hb HYY.out
      have hy' : World.cell? W ⟨ad2.block, ad2.off + 1, none⟩ = some (.int .u8 x1) := hy
      obtain ⟨⟨z0, z1, z2, z3, z4, z5, z6, z7⟩, ⟨f0, f1, f2, f3, f4, f5, f6, f7⟩⟩ := cells8 HRT.out.x7
      go_upto_region 10 with fail
      clear hx hx' hy hy' z0 z1 z2 z3 z4 z5 z6 z7 f0 f1 f2 f3 f4 f5 f6 f7
      have hput := HRT.out.put (m' := ⟨m.is, x0, m.t, m.c, m.L, m.bo, m.left⟩) 3 (.int .i64 x0) rfl (HRT.out.r1) (HRT.out.r2)
      clear HRT
      have HRT := ak hput
      clear hput
      generalize W.setCell ⟨g7, 3, none⟩ (.int .i64 x0) = W1 at *
      have hx := pw_cell_below HRT.out.hb HX.out
      have hx' : World.cell? W1 ad2 = some (.int .u8 x0) := by simpa [Addr.add] using hx
      have hy := pw_cell_below HRT.out.hb HYY.out
      have hy' : World.cell? W1 ⟨ad2.block, ad2.off + 1, none⟩ = some (.int .u8 x1) := hy
      obtain ⟨⟨z0, z1, z2, z3, z4, z5, z6, z7⟩, ⟨f0, f1, f2, f3, f4, f5, f6, f7⟩⟩ := cells8 HRT.out.x7
      go_upto_region 11 with fail
      clear hx hx' hy hy' z0 z1 z2 z3 z4 z5 z6 z7 f0 f1 f2 f3 f4 f5 f6 f7
      have hput := HRT.out.put (m' := ⟨m.is, x0, x1, m.c, m.L, m.bo, m.left⟩) 4 (.int .i64 x1) rfl (HRT.out.r1) (HRT.out.r2)
      clear HRT
      have HRT := ak hput
      clear hput
      generalize W1.setCell ⟨g7, 4, none⟩ (.int .i64 x1) = W2 at *
      have HC4 := ak (Kd.C_below HC3.out HRT.out.hb)
      have hbs : ∀ W : World, (Instr.buildSlice 23 0 #[]).run Tryd.prog W = .ok (.slice (some ⟨W.heap.size, 0, none⟩) 0 0) (W.alloc (.cells #[] 5)) := build0
      go_wp2_with ((with_reducible refine gate_builtin (b := .append) (xs := #[.tmp 64, .tmp 66]) rfl ?_); at_builtin; refine ap8 (w0 := W2) (b := W2.heap.size) (xs := []) (ys := bo) rfl rfl rfl rfl (O8.lit (blk_new W2 _) (Nat.le_refl _) [] (by simp) rfl) (Kd.C_below HC4.out (below_alloc (Below.refl _ _) _)) (below_alloc (Below.refl _ _) _) (below_alloc (Below.refl _ _) _).size (by have := HBL.out; simp; go_light; omega) ?_; intro v1 w1 ho hb; obtain ⟨B5, d5, rfl⟩ := Kd.R_slice ho.out; have HO := ak ho; have hn := HRT.out.below hb; have HS := Lib.hid HRT.out.hb.size; clear HRT; have HRT := ak hn; clear hb hn ho; obtain ⟨⟨z0, z1, z2, z3, z4, z5, z6, z7⟩, ⟨f0, f1, f2, f3, f4, f5, f6, f7⟩⟩ := cells8 HRT.out.x7)
      clear z0 z1 z2 z3 z4 z5 z6 z7 f0 f1 f2 f3 f4 f5 f6 f7
      have hput := HRT.out.put (m' := ⟨m.is, x0, x1, m.c, m.L, bo, m.left⟩) 7 (.slice B5 bo.length d5) rfl (HRT.out.r1) (Kd.R_lower (Kd.R_mono HO.out (fun _ _ => trivial)) HS.out)
      clear HRT
      have HRT := ak hput
      clear hput
      generalize w1.setCell ⟨g7, 7, none⟩ (.slice B5 bo.length d5) = W3 at *
      go_meet
      case rel => exact ⟨rfl, ⟨_, _, _, _, by rw [← HMX.out]; exact HRT.out⟩⟩
    case rest =>
     obtain ⟨hv, hrt⟩ := hcut
     subst hv
     obtain ⟨B1, d1, B2, d2, hrt⟩ := hrt.out
     clear HRT HBB
     have HRT := ak hrt
     clear hrt
     obtain ⟨W, hW⟩ : ∃ W, W = wc := ⟨_, rfl⟩
     rw [← hW] at HRT ⊢
     clear hW
     have HQ1 := Lib.hid HMN.out
     clear HMN
     obtain ⟨m, hm⟩ : ∃ m, m = mn := ⟨_, rfl⟩
     rw [← hm] at HRT HQ1
     clear hm
     refine ‹∀ (a : Act) (w' : World), _ → _› _ _ ?_
     go_light
     obtain ⟨b, hbb⟩ : ∃ b, (decide (k = 2) && decide (1 ≤ cc.length)) = b := ⟨_, rfl⟩
     obtain ⟨mn, hmn⟩ : ∃ mn, cand2 k cc m = mn := ⟨_, rfl⟩
     have HBB := Lib.hid hbb
     have HMN := Lib.hid hmn
     clear hbb hmn
     go_upto_region 12 with fail
     obtain ⟨⟨z0, z1, z2, z3, z4, z5, z6, z7⟩, ⟨f0, f1, f2, f3, f4, f5, f6, f7⟩⟩ := cells8 HRT.out.x7
     go_cut [76] (fun v wc => v = Value.bool b ∧ wc = W)
     case first =>
      by_cases hk : k = 2
      ·
       have HK := Lib.hid hk
       have e1 : (k == 2) = true := by rw [hk]; rfl
       clear hk
       by_cases hl : 1 ≤ cc.length
       ·
        have HLN := Lib.hid hl
        have g1 : decide ((cc.length : Int) ≥ 1) = true := decide_eq_true (by go_light; omega)
        have g2 : decide (1 ≤ cc.length) = true := decide_eq_true (by go_light; omega)
        have g3 : decide (cc.length ≥ 1) = true := decide_eq_true (by go_light; omega)
        have g4 : decide ((1 : Int) ≤ (cc.length : Int)) = true := decide_eq_true (by go_light; omega)
        clear hl
        go_wp2_with fail
        go_meet
        case rel => exact ⟨by rw [← HBB.out, decide_eq_true HK.out, decide_eq_true HLN.out]; rfl, rfl⟩
       ·
        have HLN := Lib.hid hl
        have g1 : decide ((cc.length : Int) ≥ 1) = false := decide_eq_false (by go_light; omega)
        have g2 : decide (1 ≤ cc.length) = false := decide_eq_false (by go_light; omega)
        have g3 : decide (cc.length ≥ 1) = false := decide_eq_false (by go_light; omega)
        have g4 : decide ((1 : Int) ≤ (cc.length : Int)) = false := decide_eq_false (by go_light; omega)
        clear hl
        go_wp2_with fail
        go_meet
        case rel => exact ⟨by rw [← HBB.out, decide_eq_true HK.out, decide_eq_false HLN.out]; rfl, rfl⟩
      ·
       have HK := Lib.hid hk
       have e1 : (k == 2) = false := beq_eq_false_iff_ne.2 hk
       clear hk
       go_wp2_with fail
       go_meet
       case rel => exact ⟨by rw [← HBB.out, decide_eq_false HK.out, Bool.false_and], rfl⟩
     case rest =>
      have hw := hcut.2
      have hv := hcut.1
      subst hv
      rw [hw]
      clear hcut hw z0 z1 z2 z3 z4 z5 z6 z7 f0 f1 f2 f3 f4 f5 f6 f7
      go_upto_if 76 with fail
      go_cut [8] (fun v8 wc => v8 = Value.slice A2 cc.length c2 ∧ Aside0 (RTe w g7 k s e mn wc))
      case first =>
       cases b
       ·
        go_wp2_with fail
        go_meet
        case rel => exact ⟨rfl, ⟨_, _, _, _, by rw [← HMN.out, show cand2 k cc m = m by unfold cand2; exact if_neg (fun h => by have := HBB.out; simp [h] at this)]; exact HRT.out⟩⟩
       ·
        have hb := HBB.out
        simp only [Bool.and_eq_true, decide_eq_true_eq] at hb
        obtain ⟨ad2, hA2, hx, hx0, hx1⟩ := at_rd HC2.out 0 (by go_light; omega) HCC.out
        subst hA2
        have hx : w.cell? (ad2.add 0) = some (.int .u8 (rd cc 0)) := hx
        have hx0 : 0 ≤ rd cc 0 := hx0
        have hx1 : rd cc 0 ≤ 255 := hx1
        obtain ⟨B3, d3, sl3, hd3, hC3⟩ := sl_from HC2.out HD2.out 1 (by go_light; omega)
        obtain ⟨c3, hc3⟩ : ∃ c3, cc.drop 1 = c3 := ⟨_, rfl⟩
        obtain ⟨⟨L, r, q0⟩, hrow⟩ : ∃ p, rowT 1 c3 = p := ⟨_, rfl⟩
        have hbc : By c3 := by rw [← hc3]; exact HCC.out.drop 1
        have hcl : c3.length + 1 = cc.length := by rw [← hc3, List.length_drop]; go_light; omega
        obtain ⟨n, hn⟩ : ∃ n, wrap64 ((cc.length : Int) - 1) = n := ⟨_, rfl⟩
        have hn2 : (cc.length : Int) - 1 = n := by rw [← hn]; unfold wrap64; have := HCL.out; go_light; omega
        have hT := rrow (W := 1) (Or.inl rfl) (by decide) hbc (by have := HCL.out; go_light; omega) n (by rw [Int.ediv_one]; go_light; omega)
        rw [hrow] at hT
        have HMX := Lib.hid (show (⟨m.is, rd cc 0, m.t, m.c, L, m.bo, m.left⟩ : RMid) = mn by rw [← HMN.out]; unfold cand2; rw [if_pos hb, hc3, hrow])
        rw [hc3] at sl3 hd3 hC3
        have sl3 : ∀ W : World, (Instr.slice 23 (.slice (some ad2) cc.length c2) (some (.int .i64 1)) none none).run Tryd.prog W = .ok (.slice B3 c3.length d3) W := sl3
        have hlp0 : 0 < cc.length := by go_light; omega
        have HT := Lib.hid hT
        have HC3 := ak hC3
        have HD3 := Lib.hid hd3
        have HN2 := Lib.hid hn2
        have HNW := Lib.hid (show wrap64 n = n by rw [← hn2]; rw [← hn2] at hn; exact hn)
        generalize rd cc 0 = x0 at *
        have HX := ak hx
        clear hx hx0 hx1 hC3 hd3 hc3 hb hT hrow hbc hcl hn2 hn
        have hx := pw_cell_below HRT.out.hb HX.out
        have hx' : World.cell? W ad2 = some (.int .u8 x0) := by simpa [Addr.add] using hx
        obtain ⟨⟨z0, z1, z2, z3, z4, z5, z6, z7⟩, ⟨f0, f1, f2, f3, f4, f5, f6, f7⟩⟩ := cells8 HRT.out.x7
        go_upto_region 14 with fail
        clear hx hx' z0 z1 z2 z3 z4 z5 z6 z7 f0 f1 f2 f3 f4 f5 f6 f7
        have hput := HRT.out.put (m' := ⟨m.is, x0, m.t, m.c, m.L, m.bo, m.left⟩) 3 (.int .i64 x0) rfl (HRT.out.r1) (HRT.out.r2)
        clear HRT
        have HRT := ak hput
        clear hput
        generalize W.setCell ⟨g7, 3, none⟩ (.int .i64 x0) = W1 at *
        have hCT : Calls Tryd.prog 28 #[.slice B3 c3.length d3, .int .i64 n, .int .i64 1] W1 _ := precentorref02_TakeRow.calls _ B3 d3 c3 n 1 L r q0 W1 (Kd.C_below HC3.out HRT.out.hb) HD3.out HT.out
        have HCT := Lib.hid hCT
        clear hCT
        have hn2 := HN2.out
        go_wp2_with fail
        try rw [HNW.out]
        refine HCT.out.mono ?_
        rintro e_ w5 ⟨v5, v6, rfl, hr5, hv6, hb5⟩
        obtain ⟨B5, d5, rfl⟩ := Kd.R_slice hr5
        have HO := ak hr5
        have hn := HRT.out.below hb5
        have HS := Lib.hid HRT.out.hb.size
        clear HRT HCT
        have HRT := ak hn
        clear hb5 hn hr5 hv6
        obtain ⟨⟨z0, z1, z2, z3, z4, z5, z6, z7⟩, ⟨f0, f1, f2, f3, f4, f5, f6, f7⟩⟩ := cells8 HRT.out.x7
        go_wp2_with fail
        clear z0 z1 z2 z3 z4 z5 z6 z7 f0 f1 f2 f3 f4 f5 f6 f7
        have hput := HRT.out.put (m' := ⟨m.is, x0, m.t, m.c, L, m.bo, m.left⟩) 6 (.slice B5 L.length d5) rfl (Kd.R_lower (Kd.R_mono HO.out (fun _ _ => trivial)) HS.out) (HRT.out.r2)
        clear HRT
        have HRT := ak hput
        clear hput
        generalize w5.setCell ⟨g7, 6, none⟩ (.slice B5 L.length d5) = W3 at *
        go_meet
        case rel => exact ⟨rfl, ⟨_, _, _, _, by rw [← HMX.out]; exact HRT.out⟩⟩
      case rest =>
       obtain ⟨hv, hrt⟩ := hcut
       subst hv
       obtain ⟨B1, d1, B2, d2, hrt⟩ := hrt.out
       clear HRT HBB
       have HRT := ak hrt
       clear hrt
       obtain ⟨W, hW⟩ : ∃ W, W = wc := ⟨_, rfl⟩
       rw [← hW] at HRT ⊢
       clear hW
       have HQ2 := Lib.hid HMN.out
       clear HMN
       obtain ⟨m, hm⟩ : ∃ m, m = mn := ⟨_, rfl⟩
       rw [← hm] at HRT HQ2
       clear hm
       refine ‹∀ (a : Act) (w' : World), _ → _› _ _ ?_
       go_light
       obtain ⟨b, hbb⟩ : ∃ b, (decide (k = 4) && decide (1 ≤ cc.length)) = b := ⟨_, rfl⟩
       obtain ⟨mn, hmn⟩ : ∃ mn, cand4 k cc m = mn := ⟨_, rfl⟩
       have HBB := Lib.hid hbb
       have HMN := Lib.hid hmn
       clear hbb hmn
       go_upto_region 16 with fail
       obtain ⟨⟨z0, z1, z2, z3, z4, z5, z6, z7⟩, ⟨f0, f1, f2, f3, f4, f5, f6, f7⟩⟩ := cells8 HRT.out.x7
       go_cut [101] (fun v wc => v = Value.bool b ∧ wc = W)
       case first =>
        by_cases hk : k = 4
        ·
         have HK := Lib.hid hk
         have e1 : (k == 4) = true := by rw [hk]; rfl
         clear hk
         by_cases hl : 1 ≤ cc.length
         ·
          have HLN := Lib.hid hl
          have g1 : decide ((cc.length : Int) ≥ 1) = true := decide_eq_true (by go_light; omega)
          have g2 : decide (1 ≤ cc.length) = true := decide_eq_true (by go_light; omega)
          have g3 : decide (cc.length ≥ 1) = true := decide_eq_true (by go_light; omega)
          have g4 : decide ((1 : Int) ≤ (cc.length : Int)) = true := decide_eq_true (by go_light; omega)
          clear hl
          go_wp2_with fail
          go_meet
          case rel => exact ⟨by rw [← HBB.out, decide_eq_true HK.out, decide_eq_true HLN.out]; rfl, rfl⟩
         ·
          have HLN := Lib.hid hl
          have g1 : decide ((cc.length : Int) ≥ 1) = false := decide_eq_false (by go_light; omega)
          have g2 : decide (1 ≤ cc.length) = false := decide_eq_false (by go_light; omega)
          have g3 : decide (cc.length ≥ 1) = false := decide_eq_false (by go_light; omega)
          have g4 : decide ((1 : Int) ≤ (cc.length : Int)) = false := decide_eq_false (by go_light; omega)
          clear hl
          go_wp2_with fail
          go_meet
          case rel => exact ⟨by rw [← HBB.out, decide_eq_true HK.out, decide_eq_false HLN.out]; rfl, rfl⟩
        ·
         have HK := Lib.hid hk
         have e1 : (k == 4) = false := beq_eq_false_iff_ne.2 hk
         clear hk
         go_wp2_with fail
         go_meet
         case rel => exact ⟨by rw [← HBB.out, decide_eq_false HK.out, Bool.false_and], rfl⟩
       case rest =>
        have hw := hcut.2
        have hv := hcut.1
        subst hv
        rw [hw]
        clear hcut hw z0 z1 z2 z3 z4 z5 z6 z7 f0 f1 f2 f3 f4 f5 f6 f7
        go_upto_if 101 with fail
        go_cut [8] (fun v8 wc => v8 = Value.slice A2 cc.length c2 ∧ Aside0 (RTe w g7 k s e mn wc))
        case first =>
         cases b
         ·
          go_wp2_with fail
          go_meet
          case rel => exact ⟨rfl, ⟨_, _, _, _, by rw [← HMN.out, show cand4 k cc m = m by unfold cand4; exact if_neg (fun h => by have := HBB.out; simp [h] at this)]; exact HRT.out⟩⟩
         ·
          have hb := HBB.out
          simp only [Bool.and_eq_true, decide_eq_true_eq] at hb
          obtain ⟨ad2, hA2, hx, hx0, hx1⟩ := at_rd HC2.out 0 (by go_light; omega) HCC.out
          subst hA2
          have hx : w.cell? (ad2.add 0) = some (.int .u8 (rd cc 0)) := hx
          have hx0 : 0 ≤ rd cc 0 := hx0
          have hx1 : rd cc 0 ≤ 255 := hx1
          have HMX := Lib.hid (show (⟨m.is, rd cc 0, m.t, m.c, m.L, m.bo, m.left⟩ : RMid) = mn by rw [← HMN.out]; unfold cand4; rw [if_pos hb])
          have hlp0 : 0 < cc.length := by go_light; omega
          generalize rd cc 0 = x0 at *
          have HX := ak hx
          clear hx hx0 hx1 hb
          have hx := pw_cell_below HRT.out.hb HX.out
          have hx' : World.cell? W ad2 = some (.int .u8 x0) := by simpa [Addr.add] using hx
          obtain ⟨⟨z0, z1, z2, z3, z4, z5, z6, z7⟩, ⟨f0, f1, f2, f3, f4, f5, f6, f7⟩⟩ := cells8 HRT.out.x7
          go_wp2_with fail
          clear hx hx' z0 z1 z2 z3 z4 z5 z6 z7 f0 f1 f2 f3 f4 f5 f6 f7
          have hput := HRT.out.put (m' := ⟨m.is, x0, m.t, m.c, m.L, m.bo, m.left⟩) 3 (.int .i64 x0) rfl (HRT.out.r1) (HRT.out.r2)
          clear HRT
          have HRT := ak hput
          clear hput
          generalize W.setCell ⟨g7, 3, none⟩ (.int .i64 x0) = W3 at *
          go_meet
          case rel => exact ⟨rfl, ⟨_, _, _, _, by rw [← HMX.out]; exact HRT.out⟩⟩
        case rest =>
         obtain ⟨hv, hrt⟩ := hcut
         subst hv
         obtain ⟨B1, d1, B2, d2, hrt⟩ := hrt.out
         clear HRT HBB
         have HRT := ak hrt
         clear hrt
         obtain ⟨W, hW⟩ : ∃ W, W = wc := ⟨_, rfl⟩
         rw [← hW] at HRT ⊢
         clear hW
         have HQ4 := Lib.hid HMN.out
         clear HMN
         obtain ⟨m, hm⟩ : ∃ m, m = mn := ⟨_, rfl⟩
         rw [← hm] at HRT HQ4
         clear hm
         refine ‹∀ (a : Act) (w' : World), _ → _› _ _ ?_
         go_light
         obtain ⟨b, hbb⟩ : ∃ b, (decide (k = 5)) = b := ⟨_, rfl⟩
         obtain ⟨mn, hmn⟩ : ∃ mn, cand5 k cc m = mn := ⟨_, rfl⟩
         have HBB := Lib.hid hbb
         have HMN := Lib.hid hmn
         clear hbb hmn
         go_upto_region 18 with fail
         obtain ⟨⟨z0, z1, z2, z3, z4, z5, z6, z7⟩, ⟨f0, f1, f2, f3, f4, f5, f6, f7⟩⟩ := cells8 HRT.out.x7
         go_cut [109] (fun v wc => v = Value.bool b ∧ wc = W)
         case first =>
          by_cases hk : k = 5
          ·
           have HK := Lib.hid hk
           have e1 : (k == 5) = true := by rw [hk]; rfl
           clear hk
           go_wp2_with fail
           go_meet
           case rel => exact ⟨by rw [← HBB.out, decide_eq_true HK.out], rfl⟩
          ·
           have HK := Lib.hid hk
           have e1 : (k == 5) = false := beq_eq_false_iff_ne.2 hk
           clear hk
           go_wp2_with fail
           go_meet
           case rel => exact ⟨by rw [← HBB.out, decide_eq_false HK.out], rfl⟩
         case rest =>
          have hw := hcut.2
          have hv := hcut.1
          subst hv
          rw [hw]
          clear hcut hw z0 z1 z2 z3 z4 z5 z6 z7 f0 f1 f2 f3 f4 f5 f6 f7
          go_upto_if 109 with fail
          go_cut [8] (fun v8 wc => v8 = Value.slice A2 cc.length c2 ∧ Aside0 (RTe w g7 k s e mn wc))
          case first =>
           cases b
           ·
            go_wp2_with fail
            go_meet
            case rel => exact ⟨rfl, ⟨_, _, _, _, by rw [← HMN.out, show cand5 k cc m = m by unfold cand5; exact if_neg (fun h => by have := HBB.out; simp [h] at this)]; exact HRT.out⟩⟩
           ·
            have hb := HBB.out
            simp only [Bool.and_eq_true, decide_eq_true_eq] at hb
            have hT := rtake8 HCC.out HCL.out
            have hmx : (⟨m.is, m.i, m.t, ((num_Take.f cc 8).getD (0, [], 1)).1, m.L, m.bo, m.left⟩ : RMid) = mn := by rw [← HMN.out]; unfold cand5; rw [if_pos hb]
            generalize (num_Take.f cc 8).getD (0, [], 1) = pp at hT hmx
            obtain ⟨n, r, q0⟩ := pp
            have HMX := Lib.hid hmx
            have hCT : Calls Tryd.prog 27 #[.slice A2 cc.length c2, .int .i64 8] W _ := precentorref02_Take.calls _ A2 c2 cc 8 n r q0 W (Kd.C_below HC2.out HRT.out.hb) HD2.out hT
            have HCT := Lib.hid hCT
            clear hCT hT hmx hb
            go_wp2_with fail
            refine HCT.out.mono ?_
            rintro e_ w5 ⟨v6, rfl, hv6, hb5⟩
            have hn := HRT.out.below hb5
            clear HRT HCT
            have HRT := ak hn
            clear hb5 hn hv6
            obtain ⟨⟨z0, z1, z2, z3, z4, z5, z6, z7⟩, ⟨f0, f1, f2, f3, f4, f5, f6, f7⟩⟩ := cells8 HRT.out.x7
            go_wp2_with fail
            clear z0 z1 z2 z3 z4 z5 z6 z7 f0 f1 f2 f3 f4 f5 f6 f7
            have hput := HRT.out.put (m' := ⟨m.is, m.i, m.t, n, m.L, m.bo, m.left⟩) 5 (.int .i64 n) rfl (HRT.out.r1) (HRT.out.r2)
            clear HRT
            have HRT := ak hput
            clear hput
            generalize w5.setCell ⟨g7, 5, none⟩ (.int .i64 n) = W3 at *
            go_meet
            case rel => exact ⟨rfl, ⟨_, _, _, _, by rw [← HMX.out]; exact HRT.out⟩⟩
          case rest =>
           obtain ⟨hv, hrt⟩ := hcut
           subst hv
           obtain ⟨B1, d1, B2, d2, hrt⟩ := hrt.out
           clear HRT HBB
           have HRT := ak hrt
           clear hrt
           obtain ⟨W, hW⟩ : ∃ W, W = wc := ⟨_, rfl⟩
           rw [← hW] at HRT ⊢
           clear hW
           have HQ5 := Lib.hid HMN.out
           clear HMN
           obtain ⟨m, hm⟩ : ∃ m, m = mn := ⟨_, rfl⟩
           rw [← hm] at HRT HQ5
           clear hm
           refine ‹∀ (a : Act) (w' : World), _ → _› _ _ ?_
           go_light
           obtain ⟨b, hbb⟩ : ∃ b, (decide (k = 6)) = b := ⟨_, rfl⟩
           obtain ⟨mn, hmn⟩ : ∃ mn, cand6 k cc m = mn := ⟨_, rfl⟩
           have HBB := Lib.hid hbb
           have HMN := Lib.hid hmn
           clear hbb hmn
           go_upto_region 21 with fail
           obtain ⟨⟨z0, z1, z2, z3, z4, z5, z6, z7⟩, ⟨f0, f1, f2, f3, f4, f5, f6, f7⟩⟩ := cells8 HRT.out.x7
           go_cut [120] (fun v wc => v = Value.bool b ∧ wc = W)
           case first =>
            by_cases hk : k = 6
            ·
             have HK := Lib.hid hk
             have e1 : (k == 6) = true := by rw [hk]; rfl
             clear hk
             go_wp2_with fail
             go_meet
             case rel => exact ⟨by rw [← HBB.out, decide_eq_true HK.out], rfl⟩
            ·
             have HK := Lib.hid hk
             have e1 : (k == 6) = false := beq_eq_false_iff_ne.2 hk
             clear hk
             go_wp2_with fail
             go_meet
             case rel => exact ⟨by rw [← HBB.out, decide_eq_false HK.out], rfl⟩
           case rest =>
            have hw := hcut.2
            have hv := hcut.1
            subst hv
            rw [hw]
            clear hcut hw z0 z1 z2 z3 z4 z5 z6 z7 f0 f1 f2 f3 f4 f5 f6 f7
            go_upto_if 120 with fail
            go_cut [8] (fun v8 wc => v8 = Value.slice A2 cc.length c2 ∧ Aside0 (RTe w g7 k s e mn wc))
            case first =>
             cases b
             ·
              go_wp2_with fail
              go_meet
              case rel => exact ⟨rfl, ⟨_, _, _, _, by rw [← HMN.out, show cand6 k cc m = m by unfold cand6; exact if_neg (fun h => by have := HBB.out; simp [h] at this)]; exact HRT.out⟩⟩
             ·
              have hb := HBB.out
              simp only [Bool.and_eq_true, decide_eq_true_eq] at hb
              obtain ⟨⟨L, r, q0⟩, hrow⟩ : ∃ p, rowT 8 cc = p := ⟨_, rfl⟩
              have hdv : (cc.length : Int) / 8 = Int.tdiv (cc.length : Int) 8 := by rw [Int.tdiv_eq_ediv_of_nonneg (by go_light; omega)]
              obtain ⟨n, hn⟩ : ∃ n, Int.tdiv (cc.length : Int) 8 = n := ⟨_, rfl⟩
              have hdn : (cc.length : Int) / 8 = n := hdv.trans hn
              have hT := rrow (W := 8) (Or.inr (Or.inr rfl)) (by decide) HCC.out HCL.out n hdn
              rw [hrow] at hT
              have hw8 : wrap64 n = n := by unfold wrap64; have := HCL.out; go_light; omega
              have HMX := Lib.hid (show (⟨m.is, m.i, m.t, m.c, L, m.bo, m.left⟩ : RMid) = mn by rw [← HMN.out]; unfold cand6; rw [if_pos hb, hrow])
              have hCT : Calls Tryd.prog 28 #[.slice A2 cc.length c2, .int .i64 n, .int .i64 8] W _ := precentorref02_TakeRow.calls _ A2 c2 cc n 8 L r q0 W (Kd.C_below HC2.out HRT.out.hb) HD2.out hT
              have HCT := Lib.hid hCT
              clear hCT hT hb hrow hdv
              go_wp2_with fail
              try rw [HNW.out]
              refine HCT.out.mono ?_
              rintro e_ w5 ⟨v5, v6, rfl, hr5, hv6, hb5⟩
              obtain ⟨B5, d5, rfl⟩ := Kd.R_slice hr5
              have HO := ak hr5
              have hn := HRT.out.below hb5
              have HS := Lib.hid HRT.out.hb.size
              clear HRT HCT
              have HRT := ak hn
              clear hb5 hn hr5 hv6
              obtain ⟨⟨z0, z1, z2, z3, z4, z5, z6, z7⟩, ⟨f0, f1, f2, f3, f4, f5, f6, f7⟩⟩ := cells8 HRT.out.x7
              go_wp2_with fail
              clear z0 z1 z2 z3 z4 z5 z6 z7 f0 f1 f2 f3 f4 f5 f6 f7
              have hput := HRT.out.put (m' := ⟨m.is, m.i, m.t, m.c, L, m.bo, m.left⟩) 6 (.slice B5 L.length d5) rfl (Kd.R_lower (Kd.R_mono HO.out (fun _ _ => trivial)) HS.out) (HRT.out.r2)
              clear HRT
              have HRT := ak hput
              clear hput
              generalize w5.setCell ⟨g7, 6, none⟩ (.slice B5 L.length d5) = W3 at *
              go_meet
              case rel => exact ⟨rfl, ⟨_, _, _, _, by rw [← HMX.out]; exact HRT.out⟩⟩
            case rest =>
             obtain ⟨hv, hrt⟩ := hcut
             subst hv
             obtain ⟨B1, d1, B2, d2, hrt⟩ := hrt.out
             clear HRT HBB
             have HRT := ak hrt
             clear hrt
             obtain ⟨W, hW⟩ : ∃ W, W = wc := ⟨_, rfl⟩
             rw [← hW] at HRT ⊢
             clear hW
             have HQ6 := Lib.hid HMN.out
             clear HMN
             obtain ⟨m, hm⟩ : ∃ m, m = mn := ⟨_, rfl⟩
             rw [← hm] at HRT HQ6
             clear hm
             refine ‹∀ (a : Act) (w' : World), _ → _› _ _ ?_
             go_light
             have hmc : candM k cc = m := by rw [← HQ6.out, ← HQ5.out, ← HQ4.out, ← HQ2.out, ← HQ1.out, HM0.out]; rfl
             have hln := cand_len k HCC.out HCL.out
             rw [hmc] at hln
             have HMF := Lib.hid (show refTake l0 = refItem k s e m l0 by rw [HM.out, hmc])
             have HLN := Lib.hid hln
             clear hmc hln HQ6 HQ5 HQ4 HQ2 HQ1 HM0 HM
             obtain ⟨y, hy⟩ : ∃ y, mayB k s e m.i m.t m.c m.L m.bo.length = y := ⟨_, rfl⟩
             have HMY := Lib.hid hy
             have hw5 : ∃ A5 c5, Value.slice B1 m.L.length d1 = .slice A5 m.L.length c5 ∧ m.L.length ≤ c5 ∧ Kd.C (Kd.int .i64) W A5 m.L.length m.L := Kd.R_reads HRT.out.r1
             obtain ⟨A5, c5, hs5, hl5, hC5⟩ := hw5
             obtain ⟨rfl, _, rfl⟩ := Value.slice.inj hs5
             have hCT : Calls Tryd.prog 33 #[.agg #[.int .i64 k, .int .i64 s, .int .i64 e, .int .i64 m.i, .int .i64 m.t, .int .i64 m.c, .slice B1 m.L.length d1, .slice B2 m.bo.length d2]] W _ := precentorref03_May.is k s e m.i m.t m.c B1 d1 m.L B2 d2 m.bo W hC5 hl5 (by have := HLN.out; go_light; omega) y hy
             have HCT := Lib.hid hCT
             clear hCT hC5 hl5 hs5 hy
             obtain ⟨⟨z0, z1, z2, z3, z4, z5, z6, z7⟩, ⟨f0, f1, f2, f3, f4, f5, f6, f7⟩⟩ := cells8 HRT.out.x7
             go_wp2_with fail
             refine HCT.out.mono ?_
             rintro e_ w5 ⟨rfl, hb5⟩
             have hn := HRT.out.below hb5
             clear HRT HCT
             have HRT := ak hn
             clear hb5 hn
             clear z0 z1 z2 z3 z4 z5 z6 z7 f0 f1 f2 f3 f4 f5 f6 f7
             go_upto_region 25 with fail
             rename_i K1 h1
             have HK := Lib.hid h1
             clear h1
             cases y
             ·
              have HMF := Lib.hid (show refTake l0 = none by rw [HMF.out]; unfold refItem; rw [HMY.out]; rfl)
              refine start_ (n := 10) (S := fun w' => True) (ds := []) #[false, false, false, false, false, false, false, false, false, false] (by kernel_rfl) rfl rfl (trivial) (fun hHeld => ?_)
              have hn := HRT.out.below (below_drew1 (Below.refl _ _))
              clear HRT
              have HRT := ak hn
              clear hn
              generalize hw6_ : w5.drew = w6 at *
              clear hw6_
              refine pure_ (i := 0) (N := some 134) (v := ?_) (a' := ?_) #[true, false, false, false, false, false, false, false, false, false] rfl rfl (by kernel_rfl) (fun _ _ _ h => h) (Or.inl ⟨by rfl, ?_⟩) ?_ ?_
              rotate_left
              ·
               intro w'
               go_simp
               with_reducible rfl
              rotate_left
              ·
               simp only [Act.put, sq1, sq2, sq3, i64_w, i32_w]
               rfl
              refine pure_ (i := 1) (N := some 135) (v := ?_) (a' := ?_) #[true, true, false, false, false, false, false, false, false, false] rfl rfl (by kernel_rfl) (fun _ _ _ h => h) (Or.inl ⟨by rfl, ?_⟩) ?_ ?_
              rotate_left
              ·
               intro w'
               go_simp
               with_reducible rfl
              rotate_left
              ·
               simp only [Act.put, sq1, sq2, sq3, i64_w, i32_w]
               rfl
              refine pure_ (i := 2) (N := some 136) (v := ?_) (a' := ?_) #[true, true, true, false, false, false, false, false, false, false] rfl rfl (by kernel_rfl) (fun _ _ _ h => h) (Or.inl ⟨by rfl, ?_⟩) ?_ ?_
              rotate_left
              ·
               intro w'
               go_simp
               with_reducible rfl
              rotate_left
              ·
               simp only [Act.put, sq1, sq2, sq3, i64_w, i32_w]
               rfl
              refine pure_ (i := 3) (N := some 137) (v := undef) (a' := ?_) #[true, true, true, true, false, false, false, false, false, false] rfl rfl (by kernel_rfl) (fun _ _ _ h => h) (Or.inr ⟨by rfl, rfl⟩) ?_ ?_
              rotate_left
              ·
               simp only [Act.put, sq1, sq2, sq3, i64_w, i32_w]
               rfl
              refine pure_ (i := 4) (N := some 138) (v := undef) (a' := ?_) #[true, true, true, true, true, false, false, false, false, false] rfl rfl (by kernel_rfl) (fun _ _ _ h => h) (Or.inr ⟨by rfl, rfl⟩) ?_ ?_
              rotate_left
              ·
               simp only [Act.put, sq1, sq2, sq3, i64_w, i32_w]
               rfl
              refine pure_ (i := 5) (N := some 139) (v := undef) (a' := ?_) #[true, true, true, true, true, true, false, false, false, false] rfl rfl (by kernel_rfl) (fun _ _ _ h => h) (Or.inr ⟨by rfl, rfl⟩) ?_ ?_
              rotate_left
              ·
               simp only [Act.put, sq1, sq2, sq3, i64_w, i32_w]
               rfl
              refine pure_ (i := 6) (N := some 140) (v := undef) (a' := ?_) #[true, true, true, true, true, true, true, false, false, false] rfl rfl (by kernel_rfl) (fun _ _ _ h => h) (Or.inr ⟨by rfl, rfl⟩) ?_ ?_
              rotate_left
              ·
               simp only [Act.put, sq1, sq2, sq3, i64_w, i32_w]
               rfl
              refine pure_ (i := 7) (N := some 141) (v := undef) (a' := ?_) #[true, true, true, true, true, true, true, true, false, false] rfl rfl (by kernel_rfl) (fun _ _ _ h => h) (Or.inr ⟨by rfl, rfl⟩) ?_ ?_
              rotate_left
              ·
               simp only [Act.put, sq1, sq2, sq3, i64_w, i32_w]
               rfl
              refine pure_ (i := 8) (N := some 142) (v := undef) (a' := ?_) #[true, true, true, true, true, true, true, true, true, false] rfl rfl (by kernel_rfl) (fun _ _ _ h => h) (Or.inr ⟨by rfl, rfl⟩) ?_ ?_
              rotate_left
              ·
               simp only [Act.put, sq1, sq2, sq3, i64_w, i32_w]
               rfl
              refine pure_ (i := 9) (N := some 143) (v := ?_) (a' := ?_) #[true, true, true, true, true, true, true, true, true, true] rfl rfl (by kernel_rfl) (fun _ _ _ h => h) (Or.inl ⟨by rfl, ?_⟩) ?_ ?_
              rotate_left
              ·
               intro w'
               go_simp
               with_reducible rfl
              rotate_left
              ·
               simp only [Act.put, sq1, sq2, sq3, i64_w, i32_w]
               rfl
              refine done_ (by kernel_rfl) ?_
              clear hHeld
              refine HK.out _ _ ?_
              clear HK
              obtain ⟨⟨p0, p1, p2, p3, p4, p5, p6, p7⟩, ⟨r0, r1, r2, r3, r4, r5, r6, r7⟩⟩ := cells8 HRT.out.x2
              go_upto_region 26 with fail
              rename_i K2 h2
              have HK := Lib.hid h2
              clear h2
              go_wp2_with fail
              refine HK.out _ _ ?_
              clear HK
              clear p0 p1 p2 p3 p4 p5 p6 p7 r0 r1 r2 r3 r4 r5 r6 r7
              try clear z0 z1 z2 z3 z4 z5 z6 z7 f0 f1 f2 f3 f4 f5 f6 f7
              obtain ⟨W', hW', z4, hmv⟩ := box8 HRT.out.x2 (.int .i64 0) (.int .i64 0) (.int .i64 0) (.int .i64 0) (.int .i64 0) (.int .i64 0) (.slice none 0 0) (.slice none 0 0)
              rw [hW']
              clear hW'
              have hB' : Below w.heap.size w W' := Mv.to HRT.out.hb hmv (fun k hk => by go_light; omega) HRT.out.hb.size
              obtain ⟨⟨y0, y1, y2, y3, y4, y5, y6, y7⟩, _⟩ := cells8 z4
              refine wp_ret ?_
              change bodyPost _ _ (TakePost w (refTake l0)) Exit.ret _ _
              exact bodyPost_ret (v := .tuple #[.agg #[.int .i64 0, .int .i64 0, .int .i64 0, .int .i64 0, .int .i64 0, .int .i64 0, .slice none 0 0, .slice none 0 0], .int .i64 2]) (by simp [results, Tryd.results26, go_sem, y0, y1, y2, y3, y4, y5, y6, y7]) rfl (by rw [HMF.out]; exact TakePost.none_ hB')
             ·
              obtain ⟨bb, hbb⟩ : ∃ bb, bytesOf k s e m.i m.t m.c m.L m.bo = bb := ⟨_, rfl⟩
              obtain ⟨z, hz⟩ : ∃ z, ((strOfNums bb).toList == (strOfNums l0).toList) = z := ⟨_, rfl⟩
              have HMF := Lib.hid (show refTake l0 = if z = true then some (k, s, e, m.i, m.t, m.c, m.L, m.bo) else none by rw [HMF.out]; unfold refItem; rw [HMY.out, hbb, hz, Bool.true_and])
              have HBB := Lib.hid hbb
              clear hbb
              obtain ⟨⟨z0, z1, z2, z3, z4, z5, z6, z7⟩, ⟨f0, f1, f2, f3, f4, f5, f6, f7⟩⟩ := cells8 HRT.out.x7
              refine start_ (n := 10) (S := fun w' => w'.cell? ⟨g7, 0, none⟩ = some (.int .i64 k) ∧ w'.cell? ⟨g7, 1, none⟩ = some (.int .i64 s) ∧ w'.cell? ⟨g7, 2, none⟩ = some (.int .i64 e) ∧ w'.cell? ⟨g7, 3, none⟩ = some (.int .i64 m.i) ∧ w'.cell? ⟨g7, 4, none⟩ = some (.int .i64 m.t) ∧ w'.cell? ⟨g7, 5, none⟩ = some (.int .i64 m.c) ∧ w'.cell? ⟨g7, 6, none⟩ = some (.slice B1 m.L.length d1) ∧ w'.cell? ⟨g7, 7, none⟩ = some (.slice B2 m.bo.length d2) ∧ (convert 23 9 (.slice (some ad) l0.length c0)).run Tryd.prog w' = .ok (.string (strOfNums l0)) w') (ds := []) #[false, false, false, false, false, false, false, false, false, false] (by kernel_rfl) rfl rfl ⟨blk_cell (HRT.out.below (below_drew1 (Below.refl _ _))).x7 0, blk_cell (HRT.out.below (below_drew1 (Below.refl _ _))).x7 1, blk_cell (HRT.out.below (below_drew1 (Below.refl _ _))).x7 2, blk_cell (HRT.out.below (below_drew1 (Below.refl _ _))).x7 3, blk_cell (HRT.out.below (below_drew1 (Below.refl _ _))).x7 4, blk_cell (HRT.out.below (below_drew1 (Below.refl _ _))).x7 5, blk_cell (HRT.out.below (below_drew1 (Below.refl _ _))).x7 6, blk_cell (HRT.out.below (below_drew1 (Below.refl _ _))).x7 7, Kd.C_string (P := Tryd.prog) (A := some ad) (c := c0) Tryd.underlying23 Tryd.underlying5 Tryd.underlying9 (Kd.C_below HR0.out (HRT.out.below (below_drew1 (Below.refl _ _))).hb)⟩ (fun hHeld => ?_)
              have hn := HRT.out.below (below_drew1 (Below.refl _ _))
              clear HRT
              have HRT := ak hn
              clear hn
              generalize hw6_ : w5.drew = w6 at *
              clear hw6_
              refine pure_ (i := 0) (N := some 134) (v := ?_) (a' := ?_) #[true, false, false, false, false, false, false, false, false, false] rfl rfl (by kernel_rfl) (fun _ _ _ h => h) (Or.inl ⟨by rfl, ?_⟩) ?_ ?_
              rotate_left
              ·
               intro w'
               go_simp
               with_reducible rfl
              rotate_left
              ·
               simp only [Act.put, sq1, sq2, sq3, i64_w, i32_w]
               rfl
              refine pure_ (i := 1) (N := some 135) (v := ?_) (a' := ?_) #[true, true, false, false, false, false, false, false, false, false] rfl rfl (by kernel_rfl) (fun _ _ _ h => h) (Or.inl ⟨by rfl, ?_⟩) ?_ ?_
              rotate_left
              ·
               intro w'
               go_simp
               with_reducible rfl
              rotate_left
              ·
               simp only [Act.put, sq1, sq2, sq3, i64_w, i32_w]
               rfl
              refine pure_ (i := 2) (N := some 136) (v := ?_) (a' := ?_) #[true, true, true, false, false, false, false, false, false, false] rfl rfl (by kernel_rfl) (fun _ _ _ h => h) (Or.inl ⟨by rfl, ?_⟩) ?_ ?_
              rotate_left
              ·
               intro w'
               go_simp
               with_reducible rfl
              rotate_left
              ·
               simp only [Act.put, sq1, sq2, sq3, i64_w, i32_w]
               rfl
              refine pure_ (i := 6) (N := some 140) (v := ?_) (a' := ?_) #[true, true, true, false, false, false, true, false, false, false] rfl rfl (by kernel_rfl) (fun _ _ _ h => h) (Or.inl ⟨by rfl, ?_⟩) ?_ ?_
              rotate_left
              ·
               intro w'
               go_simp
               with_reducible rfl
              rotate_left
              ·
               simp only [Act.put, sq1, sq2, sq3, i64_w, i32_w]
               rfl
              refine take_ (i := 3) (N := some 137) (v := ?_) (a' := ?_) #[true, true, true, true, false, false, true, false, false, false] rfl rfl (by kernel_rfl) (fun _ _ _ h => h) (Or.inl ⟨by rfl, ?_⟩) hHeld ?_ ?_
              rotate_left
              ·
               rintro w' ⟨s0, s1, s2, s3, s4, s5, s6, s7, s8⟩
               go_simp
               with_reducible rfl
              rotate_left
              ·
               simp only [Act.put, sq1, sq2, sq3, i64_w, i32_w]
               rfl
              refine take_ (i := 7) (N := some 141) (v := ?_) (a' := ?_) #[true, true, true, true, false, false, true, true, false, false] rfl rfl (by kernel_rfl) (fun _ _ _ h => h) (Or.inl ⟨by rfl, ?_⟩) hHeld ?_ ?_
              rotate_left
              ·
               rintro w' ⟨s0, s1, s2, s3, s4, s5, s6, s7, s8⟩
               go_simp
               with_reducible rfl
              rotate_left
              ·
               simp only [Act.put, sq1, sq2, sq3, i64_w, i32_w]
               rfl
              refine one_ (i := 4) (N := some 138) #[true, true, true, true, true, false, true, true, false, false] rfl rfl (by kernel_rfl) (by decide) (fun K hK => ?_)
              obtain ⟨A5, c5, hs5, hl5, hC5⟩ := (show ∃ A5 c5, Value.slice B1 m.L.length d1 = .slice A5 m.L.length c5 ∧ m.L.length ≤ c5 ∧ Kd.C (Kd.int .i64) w6 A5 m.L.length m.L from Kd.R_reads HRT.out.r1)
              obtain ⟨A6, c6, hs6, hl6, hC6⟩ := (show ∃ A6 c6, Value.slice B2 m.bo.length d2 = .slice A6 m.bo.length c6 ∧ m.bo.length ≤ c6 ∧ Kd.C (Kd.int .u8) w6 A6 m.bo.length m.bo from Kd.R_reads HRT.out.r2)
              obtain ⟨rfl, _, rfl⟩ := Value.slice.inj hs5
              obtain ⟨rfl, _, rfl⟩ := Value.slice.inj hs6
              have HCT := Lib.hid (show Calls Tryd.prog 21 #[.agg #[.int .i64 k, .int .i64 s, .int .i64 e, .int .i64 m.i, .int .i64 m.t, .int .i64 m.c, .slice B1 m.L.length d1, .slice B2 m.bo.length d2]] w6 (BytesPost w6 bb) from by have h := precentorref03_Bytes.is k s e m.i m.t m.c B1 d1 m.L B2 d2 m.bo w6 hC5 hl5 hC6 hl6 (by have := HLN.out; go_light; omega) (by have := HLN.out; go_light; omega); rw [if_pos HMY.out, HBB.out] at h; exact h)
              clear hs5 hs6 hl5 hl6 hC5 hC6
              refine goes_ Tryd.func21 (by kernel_rfl) rfl #[.agg #[.int .i64 k, .int .i64 s, .int .i64 e, .int .i64 m.i, .int .i64 m.t, .int .i64 m.c, .slice B1 m.L.length d1, .slice B2 m.bo.length d2]] (by rfl) rfl rfl (by simp only [List.map_toArray, List.map_cons, List.map_nil]; rfl) ?_
              with_reducible refine (HCT.out).mono ?_
              rintro e0 w7 ⟨v18, rfl, ho, hb⟩
              refine ⟨_, rfl, ?_⟩
              have HO := ak ho.out
              have hn := HRT.out.below hb
              clear HRT HCT
              have HRT := ak hn
              clear hn hb ho
              refine hK.out _ _ ⟨blk_cell HRT.out.x7 0, blk_cell HRT.out.x7 1, blk_cell HRT.out.x7 2, blk_cell HRT.out.x7 3, blk_cell HRT.out.x7 4, blk_cell HRT.out.x7 5, blk_cell HRT.out.x7 6, blk_cell HRT.out.x7 7, Kd.C_string (P := Tryd.prog) (A := some ad) (c := c0) Tryd.underlying23 Tryd.underlying5 Tryd.underlying9 (Kd.C_below HR0.out HRT.out.hb)⟩ (fun hHeld => ?_)
              clear hK K
              refine norm_ (a' := ?_) ?_ ?_
              rotate_left
              ·
               show Act.put _ (some 138) _ = _
               simp only [Act.put, sq1, sq2, sq3, i64_w, i32_w]
               rfl
              refine one_ (i := 5) (N := some 139) #[true, true, true, true, true, true, true, true, false, false] rfl rfl (by kernel_rfl) (by decide) (fun K hK => ?_)
              have hcv := own_string (P := Tryd.prog) Tryd.underlying23 Tryd.underlying5 Tryd.underlying9 (Kd.own_of_R HO.out)
              refine value_ (w1 := ?_) (v := ?_) (by rfl) rfl ?_ ?_
              rotate_left 2
              ·
               go_simp
               constructor
               ·
                rfl
               ·
                rfl
              clear hcv
              refine hK.out _ _ ⟨blk_cell HRT.out.x7 0, blk_cell HRT.out.x7 1, blk_cell HRT.out.x7 2, blk_cell HRT.out.x7 3, blk_cell HRT.out.x7 4, blk_cell HRT.out.x7 5, blk_cell HRT.out.x7 6, blk_cell HRT.out.x7 7, Kd.C_string (P := Tryd.prog) (A := some ad) (c := c0) Tryd.underlying23 Tryd.underlying5 Tryd.underlying9 (Kd.C_below HR0.out HRT.out.hb)⟩ (fun hHeld => ?_)
              clear hK K
              refine norm_ (a' := ?_) ?_ ?_
              rotate_left
              ·
               show Act.put _ (some 139) _ = _
               simp only [Act.put, sq1, sq2, sq3, i64_w, i32_w]
               rfl
              refine pure_ (i := 8) (N := some 142) (v := ?_) (a' := ?_) #[true, true, true, true, true, true, true, true, true, false] rfl rfl (by kernel_rfl) (fun _ _ _ h => h) (Or.inl ⟨by rfl, ?_⟩) ?_ ?_
              rotate_left
              ·
               intro w'
               go_simp
               with_reducible rfl
              rotate_left
              ·
               simp only [Act.put, sq1, sq2, sq3, i64_w, i32_w]
               rfl
              refine pure_ (i := 9) (N := some 143) (v := ?_) (a' := ?_) #[true, true, true, true, true, true, true, true, true, true] rfl rfl (by kernel_rfl) (fun _ _ _ h => h) (Or.inl ⟨by rfl, ?_⟩) ?_ ?_
              rotate_left
              ·
               intro w'
               go_simp
               with_reducible rfl
              rotate_left
              ·
               simp only [Act.put, sq1, sq2, sq3, i64_w, i32_w]
               rfl
              refine done_ (by kernel_rfl) ?_
              clear hHeld
              refine HK.out _ _ ?_
              clear HK
              clear z0 z1 z2 z3 z4 z5 z6 z7 f0 f1 f2 f3 f4 f5 f6 f7
              obtain ⟨⟨z0, z1, z2, z3, z4, z5, z6, z7⟩, ⟨f0, f1, f2, f3, f4, f5, f6, f7⟩⟩ := cells8 HRT.out.x7
              obtain ⟨⟨p0, p1, p2, p3, p4, p5, p6, p7⟩, ⟨r0, r1, r2, r3, r4, r5, r6, r7⟩⟩ := cells8 HRT.out.x2
              cases z
              ·
               skip
               go_upto_region 26 with fail
               rename_i K2 h2
               have HK := Lib.hid h2
               clear h2
               go_wp2_with fail
               refine HK.out _ _ ?_
               clear HK
               clear p0 p1 p2 p3 p4 p5 p6 p7 r0 r1 r2 r3 r4 r5 r6 r7
               have HMF := Lib.hid (show refTake l0 = none by rw [HMF.out]; rfl)
               try clear z0 z1 z2 z3 z4 z5 z6 z7 f0 f1 f2 f3 f4 f5 f6 f7
               obtain ⟨W', hW', z4, hmv⟩ := box8 HRT.out.x2 (.int .i64 0) (.int .i64 0) (.int .i64 0) (.int .i64 0) (.int .i64 0) (.int .i64 0) (.slice none 0 0) (.slice none 0 0)
               rw [hW']
               clear hW'
               have hB' : Below w.heap.size w W' := Mv.to HRT.out.hb hmv (fun k hk => by go_light; omega) HRT.out.hb.size
               obtain ⟨⟨y0, y1, y2, y3, y4, y5, y6, y7⟩, _⟩ := cells8 z4
               refine wp_ret ?_
               change bodyPost _ _ (TakePost w (refTake l0)) Exit.ret _ _
               exact bodyPost_ret (v := .tuple #[.agg #[.int .i64 0, .int .i64 0, .int .i64 0, .int .i64 0, .int .i64 0, .int .i64 0, .slice none 0 0, .slice none 0 0], .int .i64 2]) (by simp [results, Tryd.results26, go_sem, y0, y1, y2, y3, y4, y5, y6, y7]) rfl (by rw [HMF.out]; exact TakePost.none_ hB')
              ·
               skip
               go_upto_region 27 with fail
               rename_i K2 h2
               have HK := Lib.hid h2
               clear h2
               go_wp2_with fail
               refine HK.out _ _ ?_
               clear HK
               clear p0 p1 p2 p3 p4 p5 p6 p7 r0 r1 r2 r3 r4 r5 r6 r7
               have HMF := Lib.hid (show refTake l0 = some (k, s, e, m.i, m.t, m.c, m.L, m.bo) by rw [HMF.out]; rfl)
               try clear z0 z1 z2 z3 z4 z5 z6 z7 f0 f1 f2 f3 f4 f5 f6 f7
               obtain ⟨W', hW', z4, hmv⟩ := box8 HRT.out.x2 (.int .i64 k) (.int .i64 s) (.int .i64 e) (.int .i64 m.i) (.int .i64 m.t) (.int .i64 m.c) (.slice B1 m.L.length d1) (.slice B2 m.bo.length d2)
               rw [hW']
               clear hW'
               have hB' : Below w.heap.size w W' := Mv.to HRT.out.hb hmv (fun k hk => by go_light; omega) HRT.out.hb.size
               obtain ⟨⟨y0, y1, y2, y3, y4, y5, y6, y7⟩, _⟩ := cells8 z4
               refine wp_ret ?_
               change bodyPost _ _ (TakePost w (refTake l0)) Exit.ret _ _
               exact bodyPost_ret (v := .tuple #[.agg #[.int .i64 k, .int .i64 s, .int .i64 e, .int .i64 m.i, .int .i64 m.t, .int .i64 m.c, .slice B1 m.L.length d1, .slice B2 m.bo.length d2], .int .i64 0]) (by simp [results, Tryd.results26, go_sem, y0, y1, y2, y3, y4, y5, y6, y7]) rfl (by rw [HMF.out]; exact ⟨_, _, rfl, Kd.R_mono (Kd.R_kept (Kd.R_types HRT.out.r1 HRT.out.x2 (by decide)) hmv.kept (fun k hk he => hk.2 he)) (fun _ _ => trivial), Kd.R_mono (Kd.R_kept (Kd.R_types HRT.out.r2 HRT.out.x2 (by decide)) hmv.kept (fun k hk he => hk.2 he)) (fun _ _ => trivial), hB'⟩)
def okR (l : List Int) : Bool := l.all (fun c => decide (0 ≤ c ∧ c ≤ 255)) && decide (l.length < 5000)
theorem okR_is {l : List Int} (h : okR l = true) : By l ∧ l.length < 5000 := by
 unfold okR at h
 rw [Bool.and_eq_true, List.all_eq_true] at h
 exact ⟨fun c hc => of_decide_eq_true (h.1 c hc), of_decide_eq_true h.2⟩
def precentorref03_Take.f (l : List Int) : Option (Int × Int × Int × Int × Int × Int × List Int × List Int × Int) := if okR l = true then some (tell9 (refTake l)) else none
theorem precentorref03_Take.calls (A0 : Option Addr) (c0 : Nat) (l0 : List Int) (r1 r2 r3 r4 r5 r6 : Int) (r7 r8 : List Int) (r9 : Int) (w : World) (hr0 : Kd.C (Kd.int .u8) w A0 l0.length l0) (hc0 : l0.length ≤ c0) (h : precentorref03_Take.f l0 = some (r1, r2, r3, r4, r5, r6, r7, r8, r9)) :
  Calls Tryd.prog 26 #[.slice A0 l0.length c0] w fun e w' => ∃ v6_ v7_ : Value, e = .returned (.tuple #[.agg #[.int .i64 r1, .int .i64 r2, .int .i64 r3, .int .i64 r4, .int .i64 r5, .int .i64 r6, v6_, v7_], .int .i64 r9]) ∧ Kd.R (Kd.int .i64) 3 w' w.heap.size (fun _ => True) v6_ r7 ∧ Kd.R (Kd.int .u8) 5 w' w.heap.size (fun _ => True) v7_ r8 ∧ Below w.heap.size w w' := by
 unfold precentorref03_Take.f at h
 by_cases ho : okR l0 = true
 ·
  rw [if_pos ho] at h
  obtain ⟨hb, hl⟩ := okR_is ho
  have hc := precentorref03_Take.is A0 c0 l0 w hr0 hc0 hb hl
  unfold TakePost at hc
  rw [Option.some.inj h] at hc
  exact hc
 ·
  rw [if_neg ho] at h; cases h
end Go.Proofs.YtieolhhokepkjaaDoor.Print
