/- What item.Take gives: the item of bytes, if they are one; and that a call does just that. Conditions stand in each theorem. -/
import Derived.Test.YtieolhhokepkjaaDoorHand7b
namespace Go.Proofs.YtieolhhokepkjaaDoor.Print
set_option linter.unusedVariables false
set_option linter.unusedSimpArgs false
open Go.RowKit Go.Proofs.YtieolhhokepkjaaDoorW.PrintWords Go.Proofs.YtieolhhokepkjaaDoorW.PrintLast Go.Proofs.YtieolhhokepkjaaDoorW.PrintMore Go.Proofs.YtieolhhokepkjaaDoor.NumPlain
theorem GB.pos {w : World} (h : GB w) : 0 < w.heap.size := World.block_lt_of_cell? w _ (h 0 (by decide))
/-- The item that bytes are. -/
def itemOf (k s e : Int) (m : RMid) : Option (Int × Int × Int × Int × Int × Int × List Int × List Int) :=
 if (m.is && (decide (m.left.length = 0) && mayB k s e m.i m.t m.c m.L m.bo.length)) = true then some (k, s, e, m.i, m.t, m.c, m.L, m.bo) else none
def takeItem (l : List Int) : Option (Int × Int × Int × Int × Int × Int × List Int × List Int) :=
 if 0 < l.length then (match rowS 8 2 (l.drop 1) with | none => none | some (xs, r) => itemOf (l.headD 0) (rd xs 0) (rd xs 1) (restM (l.headD 0) r)) else none
def tell9 : Option (Int × Int × Int × Int × Int × Int × List Int × List Int) → Int × Int × Int × Int × Int × Int × List Int × List Int × Int
 | none => (0, 0, 0, 0, 0, 0, [], [], 2)
 | some (a, b, c, d, e, f, L, bo) => (a, b, c, d, e, f, L, bo, 0)
def okL (l : List Int) : Bool := l.all (fun c => decide (0 ≤ c ∧ c ≤ 255)) && decide (l.length < 10000)
theorem okL_is {l : List Int} (h : okL l = true) : By l ∧ l.length < 10000 := by
 unfold okL at h
 rw [Bool.and_eq_true, List.all_eq_true] at h
 exact ⟨fun c hc => of_decide_eq_true (h.1 c hc), of_decide_eq_true h.2⟩
def TakeG (w : World) (m : RMid) (g : Nat) (B1 : Option Addr) (d1 : Nat) (B2 : Option Addr) (d2 : Nat) (w' : World) : Prop :=
 w'.heap[g]? = some (.cells #[.int .i64 0, .int .i64 0, .int .i64 0, .int .i64 0, .int .i64 0, .int .i64 0, .slice none 0 0, .slice none 0 0] 25 (0, 0)) ∧ w.heap.size < g ∧ w'.heap[w.heap.size]? = some (.cells #[.int .i64 0, .int .i64 0, .int .i64 0, .int .i64 0, .int .i64 0, .int .i64 0, .slice none 0 0, .slice none 0 0] 25 (0, 0)) ∧
  Kd.R (Kd.int .i64) 3 w' w.heap.size (fun _ => True) (.slice B1 m.L.length d1) m.L ∧ Kd.R (Kd.int .u8) 5 w' w.heap.size (fun _ => True) (.slice B2 m.bo.length d2) m.bo ∧ Below w.heap.size w w'
def item_Take.f (l : List Int) : Option (Int × Int × Int × Int × Int × Int × List Int × List Int × Int) := if okL l = true then some (tell9 (takeItem l)) else none
/-- What is known behind a call of item.Take. -/
def TakePost (w : World) (o : Option (Int × Int × Int × Int × Int × Int × List Int × List Int)) (e' : Ending) (w' : World) : Prop :=
 ∃ v6_ v7_ : Value, e' = .returned (.tuple #[.agg #[.int .i64 (tell9 o).1, .int .i64 (tell9 o).2.1, .int .i64 (tell9 o).2.2.1, .int .i64 (tell9 o).2.2.2.1, .int .i64 (tell9 o).2.2.2.2.1, .int .i64 (tell9 o).2.2.2.2.2.1, v6_, v7_], .int .i64 (tell9 o).2.2.2.2.2.2.2.2]) ∧
  Kd.R (Kd.int .i64) 3 w' w.heap.size (fun _ => True) v6_ (tell9 o).2.2.2.2.2.2.1 ∧ Kd.R (Kd.int .u8) 5 w' w.heap.size (fun _ => True) v7_ (tell9 o).2.2.2.2.2.2.2.1 ∧ Below w.heap.size w w'
theorem TakePost.none_ {w w' : World} (h : Below w.heap.size w w') : TakePost w none (.returned (.tuple #[.agg #[.int .i64 0, .int .i64 0, .int .i64 0, .int .i64 0, .int .i64 0, .int .i64 0, .slice none 0 0, .slice none 0 0], .int .i64 2])) w' :=
 ⟨_, _, rfl, Kd.R_nil _ _ _ _ _, Kd.R_nil _ _ _ _ _, h⟩
def RestPost2 (w : World) (k s e : Int) (m : RMid) (ok : Bool) (e' : Ending) (w' : World) : Prop :=
 ∃ (B1 : Option Addr) (d1 : Nat) (B2 : Option Addr) (d2 : Nat), e' = .returned (.tuple #[.agg #[.int .i64 k, .int .i64 s, .int .i64 e, .int .i64 m.i, .int .i64 m.t, .int .i64 m.c, .slice B1 m.L.length d1, .slice B2 m.bo.length d2], .bool ok]) ∧
  Kd.R (Kd.int .i64) 3 w' w.heap.size (fun _ => True) (.slice B1 m.L.length d1) m.L ∧ Kd.R (Kd.int .u8) 5 w' w.heap.size (fun _ => True) (.slice B2 m.bo.length d2) m.bo ∧ Below w.heap.size w w'
theorem item_rest.ok (k s e : Int) (A0 : Option Addr) (c0 : Nat) (l0 : List Int) (m : RMid) (hm : restM k l0 = m) (ok : Bool) (hok : (m.is && (decide (m.left.length = 0) && mayB k s e m.i m.t m.c m.L m.bo.length)) = ok) (hc0 : l0.length ≤ c0) (hb : By l0) (hl : l0.length < 10000) (hw : (Lit.int .i64 k).wf = true)
  (w : World) (hF : Kd.F (Kd.int .u8) w (fun k => k < w.heap.size) A0 l0.length l0) (hG : GB w) :
  Calls Tryd.prog 61 #[.agg #[.int .i64 k, .int .i64 s, .int .i64 e, .int .i64 0, .int .i64 0, .int .i64 0, .slice none 0 0, .slice none 0 0], .slice A0 l0.length c0] w (RestPost2 w k s e m ok) := by
 subst hm hok
 exact (item_rest.is k s e A0 c0 l0 w hF hc0 hb hl hG hG.pos hw).mono fun _ _ h => h
set_option maxRecDepth 100000 in
set_option maxHeartbeats 4000000 in
theorem item_Take.is (A0 : Option Addr) (c0 : Nat) (l0 : List Int) (w : World) (hr0 : Kd.C (Kd.int .u8) w A0 l0.length l0) (hc0 : l0.length ≤ c0) (hG : GB w) (hb : By l0) (hl : l0.length < 10000) :
  Calls Tryd.prog 49 #[.slice A0 l0.length c0] w (TakePost w (takeItem l0)) := by
 have h0 := hG.pos
 have hF := Kd.C_F (Kd.heap_int .u8) hr0
 have HBX := fun (o : Obj) => below_alloc (Below.refl w.heap.size w) o
 have X0 := blk_new w (Obj.cells #[.int .i64 0, .int .i64 0, .int .i64 0, .int .i64 0, .int .i64 0, .int .i64 0, .slice none 0 0, .slice none 0 0] 25)
 have HT := Lib.hid (num_Take.calls (fun k => k < w.heap.size) A0 c0 l0 1 _ _ _ (w.alloc (Obj.cells #[.int .i64 0, .int .i64 0, .int .i64 0, .int .i64 0, .int .i64 0, .int .i64 0, .slice none 0 0, .slice none 0 0] 25)) (Kd.V_mk hc0 (Kd.F_below hF (HBX _))) (GB.below hG (HBX _)) (take1_is hb))
 have HG := Lib.hid hG
 have HB0 := ak (HBX (Obj.cells #[.int .i64 0, .int .i64 0, .int .i64 0, .int .i64 0, .int .i64 0, .int .i64 0, .slice none 0 0, .slice none 0 0] 25))
 have HX0 := ak X0
 have HY := Lib.hid hb
 have HL := Lib.hid hl
 clear hr0 hc0 hG hF HBX X0 hb hl
 rcases l0 with _ | ⟨k, l1⟩
 ·
  rw [show takeItem [] = none from rfl]
  go_enter Tryd.func49, Tryd.ntmps49
  go_wp2_with fail
  refine HT.out.mono ?_
  rintro e w1 ⟨v1, rfl, hv, hb⟩
  obtain ⟨A1, c1, rfl, _, _⟩ := hv
  have z2 := blk_below HX0.out hb
  have HB1 := ak (below_step HB0.out hb)
  obtain ⟨⟨q0, q1, q2, q3, q4, q5, q6, q7⟩, ⟨p0, p1, p2, p3, p4, p5, p6, p7⟩⟩ := cells8 z2
  clear hb
  go_wp2_with fail
  obtain ⟨W', hW', z4, hmv⟩ := box8 z2 (.int .i64 0) (.int .i64 0) (.int .i64 0) (.int .i64 0) (.int .i64 0) (.int .i64 0) (.slice none 0 0) (.slice none 0 0)
  rw [hW']
  clear hW'
  have hB' : Below w.heap.size w W' := Mv.to HB1.out hmv (fun k hk => by omega) HB1.out.size
  obtain ⟨⟨y0, y1, y2, y3, y4, y5, y6, y7⟩, _⟩ := cells8 z4
  exact bodyPost_ret (v := .tuple #[.agg #[.int .i64 0, .int .i64 0, .int .i64 0, .int .i64 0, .int .i64 0, .int .i64 0, .slice none 0 0, .slice none 0 0], .int .i64 2]) (by simp [results, Tryd.results49, go_sem, y0, y1, y2, y3, y4, y5, y6, y7]) rfl (TakePost.none_ hB')
 ·
  have hl1 : l1.length < 10000 := by have := HL.out; simp at this; omega
  have hb1 : By l1 := fun c hc => HY.out c (List.mem_cons_of_mem _ hc)
  have htr := takerow_good (W := 8) (m := 2) (l := l1) (k := l1.length + 3) (Or.inr (Or.inr rfl)) (by omega) (by omega) hb1 hl1 (Nat.le_refl _)
  have hk := HY.out k (List.mem_cons_self)
  rw [show Int.toNat 2 = 2 from rfl] at htr
  cases hrow : rowS 8 2 l1 with
  | none =>
   have HM := Lib.hid (show takeItem (k :: l1) = none by unfold takeItem; rw [if_pos (by simp), show (k :: l1).drop 1 = l1 from rfl, hrow])
   rw [hrow] at htr
   have HTR := Lib.hid htr
   clear htr hrow
   go_enter Tryd.func49, Tryd.ntmps49
   go_wp2_with fail
   refine HT.out.mono ?_
   rintro e w1 ⟨v1, rfl, hv, hb⟩
   obtain ⟨A1, c1, rfl, hc1, hF1⟩ := hv
   have z2 := blk_below HX0.out hb
   have HTK := Lib.hid (num_TakeRow.calls (l1.length + 3) _ A1 c1 l1 2 8 [] [] 2 w1 (Kd.V_mk hc1 hF1) (GB.below HG.out (below_step HB0.out hb)) HTR.out)
   have Z2 := ak z2
   have HB1 := ak (below_step HB0.out hb)
   clear hb hF1 hc1 z2
   go_wp2_with fail
   refine HTK.out.mono ?_
   rintro e w2 ⟨v0, v1, rfl, hr, hv, hb⟩
   obtain ⟨B1, d1, rfl⟩ := Kd.R_slice hr
   obtain ⟨A2, c2, rfl, _, _⟩ := hv
   have z2 := blk_below Z2.out hb
   have HB2 := ak (below_step HB1.out hb)
   obtain ⟨⟨q0, q1, q2, q3, q4, q5, q6, q7⟩, ⟨p0, p1, p2, p3, p4, p5, p6, p7⟩⟩ := cells8 z2
   clear hb hr
   go_wp2_with fail
   rw [HM.out]
   obtain ⟨W', hW', z4, hmv⟩ := box8 z2 (.int .i64 0) (.int .i64 0) (.int .i64 0) (.int .i64 0) (.int .i64 0) (.int .i64 0) (.slice none 0 0) (.slice none 0 0)
   rw [hW']
   clear hW'
   have hB' : Below w.heap.size w W' := Mv.to HB2.out hmv (fun k hk => by omega) HB2.out.size
   obtain ⟨⟨y0, y1, y2, y3, y4, y5, y6, y7⟩, _⟩ := cells8 z4
   exact bodyPost_ret (v := .tuple #[.agg #[.int .i64 0, .int .i64 0, .int .i64 0, .int .i64 0, .int .i64 0, .int .i64 0, .slice none 0 0, .slice none 0 0], .int .i64 2]) (by simp [results, Tryd.results49, go_sem, y0, y1, y2, y3, y4, y5, y6, y7]) rfl (TakePost.none_ hB')
  | some xr =>
   obtain ⟨xs, r⟩ := xr
   obtain ⟨hx2, hfa, hfl, hbr⟩ := rowS_is (Or.inr (Or.inr rfl)) 2 l1 xs r hb1 hrow
   have hrl : r.length < 10000 := by rw [hfl, List.length_append] at hl1; omega
   have HM := Lib.hid (show takeItem (k :: l1) = itemOf k (rd xs 0) (rd xs 1) (restM k r) by unfold takeItem; rw [if_pos (by simp), show (k :: l1).drop 1 = l1 from rfl, hrow]; rfl)
   rw [hrow] at htr
   have HTR := Lib.hid htr
   have HBR := Lib.hid hbr
   have HX2 := Lib.hid hx2
   have HKW := Lib.hid (show (Lit.int .i64 k).wf = true by simp [Lit.wf, IntKind.min, IntKind.max, IntKind.bits, IntKind.signed]; omega)
   clear htr hrow hfa hfl hbr hl1 hb1 hk
   go_enter Tryd.func49, Tryd.ntmps49
   go_wp2_with fail
   refine HT.out.mono ?_
   rintro e w1 ⟨v1, rfl, hv, hb⟩
   obtain ⟨A1, c1, rfl, hc1, hF1⟩ := hv
   have z2 := blk_below HX0.out hb
   have HTK := Lib.hid (num_TakeRow.calls (l1.length + 3) _ A1 c1 l1 2 8 xs r 0 w1 (Kd.V_mk hc1 hF1) (GB.below HG.out (below_step HB0.out hb)) HTR.out)
   have Z1 := ak z2
   have HB1 := ak (below_step HB0.out hb)
   have hsz : w.heap.size + 1 ≤ w1.heap.size := by have := hb.size; simp at this; omega
   clear hb hF1 hc1 z2
   go_wp2_with fail
   refine HTK.out.mono ?_
   rintro e w2 ⟨v0, v1, rfl, hr, hv, hb⟩
   obtain ⟨g, cap, rfl, hg1, hg2, _⟩ := Kd.R_form hr (by rw [hx2]; omega)
   obtain ⟨A2, c2, rfl, hc2, hF2⟩ := hv
   have q0 := (Kd.R_celln 0 hr 0 (by omega) (by rw [hx2]; omega)).1
   have q1 := (Kd.R_celln 0 hr 1 (by omega) (by rw [hx2]; omega)).1
   change World.cell? _ _ = some (Value.int .i64 (rd xs 0)) at q0
   change World.cell? _ ⟨g, 1, none⟩ = some (Value.int .i64 (rd xs 1)) at q1
   rw [show Int.toNat 0 = 0 from rfl] at q0
   have Z2 := ak (blk_below Z1.out hb)
   have HB2 := ak (below_step HB1.out hb)
   have HF2 := ak (Kd.F_mono (Kd.F_bound hF2) (ok' := fun k => k < w2.heap.size) (fun k hk => hk.2))
   have HC2 := Lib.hid hc2
   have hs2 : w.heap.size + 1 ≤ w2.heap.size := Nat.le_trans hsz hb.size
   rw [hx2]
   generalize rd xs 0 = s at *
   generalize rd xs 1 = e at *
   obtain ⟨m, hm⟩ : ∃ m, restM k r = m := ⟨_, rfl⟩
   obtain ⟨ok, hok⟩ : ∃ ok, (m.is && (decide (m.left.length = 0) && mayB k s e m.i m.t m.c m.L m.bo.length)) = ok := ⟨_, rfl⟩
   have HREST := Lib.hid (item_rest.ok k s e A2 c2 r m hm ok hok hc2 HBR.out hrl HKW.out)
   have HM2 := Lib.hid (show takeItem (k :: l1) = itemOf k s e m by rw [HM.out, hm])
   have HOK := Lib.hid hok
   clear hb hr hF2 hc2 hg1 hg2 hsz hx2 hm hok
   go_wp2_with fail
   refine start_ (n := 16) (S := fun w' => w'.cell? ⟨g, 0, none⟩ = some (.int .i64 s) ∧ w'.cell? ⟨g, 1, none⟩ = some (.int .i64 e)) (ds := [14]) #[false, false, false, false, false, false, false, false, false, false, false, false, false, false, false, false] (by kernel_rfl) rfl rfl ⟨pw_cell_below (below_drew1 (Below.refl _ _)) q0, pw_cell_below (below_drew1 (Below.refl _ _)) q1⟩ (fun hHeld => ?_)
   have HBq := ak (below_drew1 (Below.refl w2.heap.size w2))
   generalize hw3_ : w2.drew = w3 at *
   clear hw3_
   refine pure_ (i := 0) (N := some 28) (v := ?_) (a' := ?_) #[true, false, false, false, false, false, false, false, false, false, false, false, false, false, false, false] rfl rfl (by kernel_rfl) (fun _ _ _ h => h) (Or.inl ⟨by rfl, ?_⟩) ?_ ?_
   rotate_left
   ·
    intro w'
    go_simp
    with_reducible rfl
   rotate_left
   ·
    simp only [Act.put, sq1, sq2, sq3, i64_w, i32_w]
    rfl
   refine pure_ (i := 1) (N := some 29) (v := ?_) (a' := ?_) #[true, true, false, false, false, false, false, false, false, false, false, false, false, false, false, false] rfl rfl (by kernel_rfl) (fun _ _ _ h => h) (Or.inl ⟨by rfl, ?_⟩) ?_ ?_
   rotate_left
   ·
    intro w'
    go_simp
    with_reducible rfl
   rotate_left
   ·
    simp only [Act.put, sq1, sq2, sq3, i64_w, i32_w]
    rfl
   refine pure_ (i := 2) (N := some 30) (v := ?_) (a' := ?_) #[true, true, true, false, false, false, false, false, false, false, false, false, false, false, false, false] rfl rfl (by kernel_rfl) (fun _ _ _ h => h) (Or.inl ⟨by rfl, ?_⟩) ?_ ?_
   rotate_left
   ·
    intro w'
    go_simp
    with_reducible rfl
   rotate_left
   ·
    simp only [Act.put, sq1, sq2, sq3, i64_w, i32_w]
    rfl
   refine pure_ (i := 4) (N := some 32) (v := ?_) (a' := ?_) #[true, true, true, false, true, false, false, false, false, false, false, false, false, false, false, false] rfl rfl (by kernel_rfl) (fun _ _ _ h => h) (Or.inl ⟨by rfl, ?_⟩) ?_ ?_
   rotate_left
   ·
    intro w'
    go_simp
    with_reducible rfl
   rotate_left
   ·
    simp only [Act.put, sq1, sq2, sq3, i64_w, i32_w]
    rfl
   refine pure_ (i := 5) (N := some 33) (v := ?_) (a' := ?_) #[true, true, true, false, true, true, false, false, false, false, false, false, false, false, false, false] rfl rfl (by kernel_rfl) (fun _ _ _ h => h) (Or.inl ⟨by rfl, ?_⟩) ?_ ?_
   rotate_left
   ·
    intro w'
    go_simp
    with_reducible rfl
   rotate_left
   ·
    simp only [Act.put, sq1, sq2, sq3, i64_w, i32_w]
    rfl
   refine pure_ (i := 8) (N := some 36) (v := ?_) (a' := ?_) #[true, true, true, false, true, true, false, false, true, false, false, false, false, false, false, false] rfl rfl (by kernel_rfl) (fun _ _ _ h => h) (Or.inl ⟨by rfl, ?_⟩) ?_ ?_
   rotate_left
   ·
    intro w'
    go_simp
    with_reducible rfl
   rotate_left
   ·
    simp only [Act.put, sq1, sq2, sq3, i64_w, i32_w]
    rfl
   refine take_ (i := 3) (N := some 31) (v := ?_) (a' := ?_) #[true, true, true, true, true, true, false, false, true, false, false, false, false, false, false, false] rfl rfl (by kernel_rfl) (fun _ _ _ h => h) (Or.inl ⟨by rfl, ?_⟩) hHeld ?_ ?_
   rotate_left
   ·
    rintro w' ⟨s0, s1⟩
    go_simp
    with_reducible rfl
   rotate_left
   ·
    simp only [Act.put, sq1, sq2, sq3, i64_w, i32_w]
    rfl
   refine take_ (i := 6) (N := some 34) (v := ?_) (a' := ?_) #[true, true, true, true, true, true, true, false, true, false, false, false, false, false, false, false] rfl rfl (by kernel_rfl) (fun _ _ _ h => h) (Or.inl ⟨by rfl, ?_⟩) hHeld ?_ ?_
   rotate_left
   ·
    rintro w' ⟨s0, s1⟩
    go_simp
    with_reducible rfl
   rotate_left
   ·
    simp only [Act.put, sq1, sq2, sq3, i64_w, i32_w]
    rfl
   refine pure_ (i := 7) (N := some 35) (v := ?_) (a' := ?_) #[true, true, true, true, true, true, true, true, true, false, false, false, false, false, false, false] rfl rfl (by kernel_rfl) (fun _ _ _ h => h) (Or.inl ⟨by rfl, ?_⟩) ?_ ?_
   rotate_left
   ·
    intro w'
    go_simp
    with_reducible rfl
   rotate_left
   ·
    simp only [Act.put, sq1, sq2, sq3, i64_w, i32_w]
    rfl
   refine join_ (σ := Nat × Option Addr × Nat × Option Addr × Nat) 2 #[true, true, true, true, true, true, true, true, true, true, true, true, true, true, false, false] (fun s_ => [(7, .pointer (some ⟨s_.1, 0, none⟩)), (37, .tuple #[.agg #[.int .i64 k, .int .i64 s, .int .i64 e, .int .i64 m.i, .int .i64 m.t, .int .i64 m.c, .slice s_.2.1 m.L.length s_.2.2.1, .slice s_.2.2.2.1 m.bo.length s_.2.2.2.2], .bool ok]), (27, .tuple #[.agg #[.int .i64 k, .int .i64 s, .int .i64 e, .int .i64 m.i, .int .i64 m.t, .int .i64 m.c, .slice s_.2.1 m.L.length s_.2.2.1, .slice s_.2.2.2.1 m.bo.length s_.2.2.2.2], .bool ok]), (38, .agg #[.int .i64 k, .int .i64 s, .int .i64 e, .int .i64 m.i, .int .i64 m.t, .int .i64 m.c, .slice s_.2.1 m.L.length s_.2.2.1, .slice s_.2.2.2.1 m.bo.length s_.2.2.2.2]), (39, .bool ok)]) (fun s_ w2_ => (w2_.cell? ⟨g, 0, none⟩ = some (.int .i64 s) ∧ w2_.cell? ⟨g, 1, none⟩ = some (.int .i64 e)) ∧ TakeG w m s_.1 s_.2.1 s_.2.2.1 s_.2.2.2.1 s_.2.2.2.2 w2_) ?_ ?_
   rotate_left
   ·
    intro hCont
    refine two_ (i := 9) (j := 13) (Ni := some 37) (Nj := some 7) #[true, true, true, true, true, true, true, true, true, true, false, false, false, false, false, false] #[true, true, true, true, true, true, true, true, true, false, false, false, false, true, false, false] rfl rfl rfl rfl (by kernel_rfl) (by decide) (by decide) (fun K hK => ?_) (fun K hK => ?_)
    ·
     skip
     refine goes_ Tryd.func61 (by kernel_rfl) rfl #[.agg #[.int .i64 k, .int .i64 s, .int .i64 e, .int .i64 0, .int .i64 0, .int .i64 0, .slice none 0 0, .slice none 0 0], .slice A2 r.length c2] (by rfl) rfl rfl (by simp only [List.map_toArray, List.map_cons, List.map_nil]; rfl) ?_
     with_reducible refine (HREST.out w3 (Kd.F_mono (Kd.F_below HF2.out HBq.out) (fun _ hk => Nat.lt_of_lt_of_le hk HBq.out.size)) (GB.below HG.out (below_step HB2.out HBq.out))).mono ?_
     rintro e0 w4 ⟨B3, d3, B4, d4, rfl, hR1, hR2, hbw⟩
     refine ⟨_, rfl, ?_⟩
     have HR1 := ak hR1
     have HR2 := ak hR2
     have HLE := Lib.hid (HBq.out.size)
     have n0_ := ak (below_step HBq.out hbw)
     clear HBq hbw hR1 hR2
     have HBq := n0_
     clear n0_
     refine hK.out _ _ ⟨pw_cell_below HBq.out q0, pw_cell_below HBq.out q1⟩ (fun hHeld => ?_)
     clear hK K
     refine norm_ (a' := ?_) ?_ ?_
     rotate_left
     ·
      show Act.put _ (some 37) _ = _
      simp only [Act.put, sq1, sq2, sq3, i64_w, i32_w]
      rfl
     refine pure_ (i := 10) (N := some 27) (v := ?_) (a' := ?_) #[true, true, true, true, true, true, true, true, true, true, true, false, false, false, false, false] rfl rfl (by kernel_rfl) (fun _ _ _ h => h) (Or.inl ⟨by rfl, ?_⟩) ?_ ?_
     rotate_left
     ·
      intro w'
      go_simp
      with_reducible rfl
     rotate_left
     ·
      simp only [Act.put, sq1, sq2, sq3, i64_w, i32_w]
      rfl
     refine pure_ (i := 11) (N := some 38) (v := ?_) (a' := ?_) #[true, true, true, true, true, true, true, true, true, true, true, true, false, false, false, false] rfl rfl (by kernel_rfl) (fun _ _ _ h => h) (Or.inl ⟨by rfl, ?_⟩) ?_ ?_
     rotate_left
     ·
      intro w'
      go_simp
      with_reducible rfl
     rotate_left
     ·
      simp only [Act.put, sq1, sq2, sq3, i64_w, i32_w]
      rfl
     refine pure_ (i := 12) (N := some 39) (v := ?_) (a' := ?_) #[true, true, true, true, true, true, true, true, true, true, true, true, true, false, false, false] rfl rfl (by kernel_rfl) (fun _ _ _ h => h) (Or.inl ⟨by rfl, ?_⟩) ?_ ?_
     rotate_left
     ·
      intro w'
      go_simp
      with_reducible rfl
     rotate_left
     ·
      simp only [Act.put, sq1, sq2, sq3, i64_w, i32_w]
      rfl
     refine one_ (i := 13) (N := some 7) #[true, true, true, true, true, true, true, true, true, true, true, true, true, true, false, false] rfl rfl (by kernel_rfl) (by decide) (fun K hK => ?_)
     refine value_ (w1 := ?_) (v := ?_) (by rfl) rfl ?_ ?_
     rotate_left 2
     ·
      go_simp
      constructor
      ·
       rfl
      ·
       rfl
     have HN := ak (blk_new w4 (Obj.cells #[.int .i64 0, .int .i64 0, .int .i64 0, .int .i64 0, .int .i64 0, .int .i64 0, .slice none 0 0, .slice none 0 0] 25))
     have HGL := Lib.hid (show w.heap.size < w4.heap.size from Nat.lt_of_lt_of_le hs2 HBq.out.size)
     have n0_ := ak (below_alloc HBq.out (Obj.cells #[.int .i64 0, .int .i64 0, .int .i64 0, .int .i64 0, .int .i64 0, .int .i64 0, .slice none 0 0, .slice none 0 0] 25))
     clear HBq
     have HBq := n0_
     clear n0_
     have n1_ := ak (Kd.R_alloc HR1.out (Obj.cells #[.int .i64 0, .int .i64 0, .int .i64 0, .int .i64 0, .int .i64 0, .int .i64 0, .slice none 0 0, .slice none 0 0] 25))
     have n2_ := ak (Kd.R_alloc HR2.out (Obj.cells #[.int .i64 0, .int .i64 0, .int .i64 0, .int .i64 0, .int .i64 0, .int .i64 0, .slice none 0 0, .slice none 0 0] 25))
     clear HR1 HR2
     have HR1 := n1_
     have HR2 := n2_
     clear n1_ n2_
     generalize hgl_ : w4.alloc (Obj.cells #[.int .i64 0, .int .i64 0, .int .i64 0, .int .i64 0, .int .i64 0, .int .i64 0, .slice none 0 0, .slice none 0 0] 25) = w6 at *
     clear hgl_
     generalize w4.heap.size = g7 at HN HGL ⊢
     refine hK.out _ _ ⟨pw_cell_below HBq.out q0, pw_cell_below HBq.out q1⟩ (fun hHeld => ?_)
     clear hK K
     refine norm_ (a' := ?_) ?_ ?_
     rotate_left
     ·
      show Act.put _ (some 7) _ = _
      simp only [Act.put, sq1, sq2, sq3, i64_w, i32_w]
      rfl
     exact norm_ (by simp only [putAll, Act.put, sq1, sq2, sq3]) (hCont (g7, B3, d3, B4, d4) _ ⟨hHeld, HN.out, HGL.out, blk_below Z2.out HBq.out, Kd.R_lower HR1.out (by have := HLE.out; omega), Kd.R_lower HR2.out (by have := HLE.out; omega), below_step HB2.out HBq.out⟩)
    ·
     skip
     refine value_ (w1 := ?_) (v := ?_) (by rfl) rfl ?_ ?_
     rotate_left 2
     ·
      go_simp
      constructor
      ·
       rfl
      ·
       rfl
     have HN := ak (blk_new w3 (Obj.cells #[.int .i64 0, .int .i64 0, .int .i64 0, .int .i64 0, .int .i64 0, .int .i64 0, .slice none 0 0, .slice none 0 0] 25))
     have HGL := Lib.hid (show w.heap.size < w3.heap.size from Nat.lt_of_lt_of_le hs2 HBq.out.size)
     have n0_ := ak (below_alloc HBq.out (Obj.cells #[.int .i64 0, .int .i64 0, .int .i64 0, .int .i64 0, .int .i64 0, .int .i64 0, .slice none 0 0, .slice none 0 0] 25))
     clear HBq
     have HBq := n0_
     clear n0_
     generalize hgl_ : w3.alloc (Obj.cells #[.int .i64 0, .int .i64 0, .int .i64 0, .int .i64 0, .int .i64 0, .int .i64 0, .slice none 0 0, .slice none 0 0] 25) = w5 at *
     clear hgl_
     generalize w3.heap.size = g7 at HN HGL ⊢
     refine hK.out _ _ ⟨pw_cell_below HBq.out q0, pw_cell_below HBq.out q1⟩ (fun hHeld => ?_)
     clear hK K
     refine norm_ (a' := ?_) ?_ ?_
     rotate_left
     ·
      show Act.put _ (some 7) _ = _
      simp only [Act.put, sq1, sq2, sq3, i64_w, i32_w]
      rfl
     refine one_ (i := 9) (N := some 37) #[true, true, true, true, true, true, true, true, true, true, false, false, false, true, false, false] rfl rfl (by kernel_rfl) (by decide) (fun K hK => ?_)
     refine goes_ Tryd.func61 (by kernel_rfl) rfl #[.agg #[.int .i64 k, .int .i64 s, .int .i64 e, .int .i64 0, .int .i64 0, .int .i64 0, .slice none 0 0, .slice none 0 0], .slice A2 r.length c2] (by rfl) rfl rfl (by simp only [List.map_toArray, List.map_cons, List.map_nil]; rfl) ?_
     with_reducible refine (HREST.out w5 (Kd.F_mono (Kd.F_below HF2.out HBq.out) (fun _ hk => Nat.lt_of_lt_of_le hk HBq.out.size)) (GB.below HG.out (below_step HB2.out HBq.out))).mono ?_
     rintro e0 w6 ⟨B3, d3, B4, d4, rfl, hR1, hR2, hbw⟩
     refine ⟨_, rfl, ?_⟩
     have HR1 := ak hR1
     have HR2 := ak hR2
     have HLE := Lib.hid (HBq.out.size)
     have n1_ := ak (blk_below HN.out hbw)
     clear HN
     have HN := n1_
     clear n1_
     have n0_ := ak (below_step HBq.out hbw)
     clear HBq hbw hR1 hR2
     have HBq := n0_
     clear n0_
     refine hK.out _ _ ⟨pw_cell_below HBq.out q0, pw_cell_below HBq.out q1⟩ (fun hHeld => ?_)
     clear hK K
     refine norm_ (a' := ?_) ?_ ?_
     rotate_left
     ·
      show Act.put _ (some 37) _ = _
      simp only [Act.put, sq1, sq2, sq3, i64_w, i32_w]
      rfl
     refine pure_ (i := 10) (N := some 27) (v := ?_) (a' := ?_) #[true, true, true, true, true, true, true, true, true, true, true, false, false, true, false, false] rfl rfl (by kernel_rfl) (fun _ _ _ h => h) (Or.inl ⟨by rfl, ?_⟩) ?_ ?_
     rotate_left
     ·
      intro w'
      go_simp
      with_reducible rfl
     rotate_left
     ·
      simp only [Act.put, sq1, sq2, sq3, i64_w, i32_w]
      rfl
     refine pure_ (i := 11) (N := some 38) (v := ?_) (a' := ?_) #[true, true, true, true, true, true, true, true, true, true, true, true, false, true, false, false] rfl rfl (by kernel_rfl) (fun _ _ _ h => h) (Or.inl ⟨by rfl, ?_⟩) ?_ ?_
     rotate_left
     ·
      intro w'
      go_simp
      with_reducible rfl
     rotate_left
     ·
      simp only [Act.put, sq1, sq2, sq3, i64_w, i32_w]
      rfl
     refine pure_ (i := 12) (N := some 39) (v := ?_) (a' := ?_) #[true, true, true, true, true, true, true, true, true, true, true, true, true, true, false, false] rfl rfl (by kernel_rfl) (fun _ _ _ h => h) (Or.inl ⟨by rfl, ?_⟩) ?_ ?_
     rotate_left
     ·
      intro w'
      go_simp
      with_reducible rfl
     rotate_left
     ·
      simp only [Act.put, sq1, sq2, sq3, i64_w, i32_w]
      rfl
     exact norm_ (by simp only [putAll, Act.put, sq1, sq2, sq3]) (hCont (g7, B3, d3, B4, d4) _ ⟨hHeld, HN.out, HGL.out, blk_below Z2.out HBq.out, Kd.R_lower HR1.out (by have := HLE.out; omega), Kd.R_lower HR2.out (by have := HLE.out; omega), below_step HB2.out HBq.out⟩)
   rintro ⟨g7, B3, d3, B4, d4⟩ w7 ⟨hS_, hD_⟩
   have hHeld := hS_
   have HD := ak hD_
   clear hS_ hD_
   refine norm_ (a' := ?_) ?_ ?_
   rotate_left
   ·
    simp only [putAll, Act.put, sq1, sq2, sq3]
    rfl
   refine last_ (i := 14) (N := none) #[true, true, true, true, true, true, true, true, true, true, true, true, true, true, true, false] rfl rfl (by kernel_rfl) (by decide) (fun K hK => ?_)
   obtain ⟨⟨a0, a1, a2, a3, a4, a5, a6, a7⟩, ⟨b0, b1, b2, b3, b4, b5, b6, b7⟩⟩ := cells8 HD.out.1
   refine skip_ (w1 := ?_) (by rfl) rfl ?_ ?_
   rotate_left
   ·
    go_simp
    rfl
   clear a0 a1 a2 a3 a4 a5 a6 a7 b0 b1 b2 b3 b4 b5 b6 b7
   refine hK.out _ _ ?_
   clear hK K
   refine pure_ (i := 15) (N := some 8) (v := ?_) (a' := ?_) #[true, true, true, true, true, true, true, true, true, true, true, true, true, true, true, true] rfl rfl (by kernel_rfl) (fun _ _ _ h => h) (Or.inl ⟨by rfl, ?_⟩) ?_ ?_
   rotate_left
   ·
    intro w'
    go_simp
    with_reducible rfl
   rotate_left
   ·
    simp only [Act.put, sq1, sq2, sq3, i64_w, i32_w]
    rfl
   refine done_ (by kernel_rfl) ?_
   clear hHeld
   have hlt := HD.out.2.1
   obtain ⟨W7, hW7, z7, hm7⟩ := box8 HD.out.1 (.int .i64 k) (.int .i64 s) (.int .i64 e) (.int .i64 m.i) (.int .i64 m.t) (.int .i64 m.c) (.slice B3 m.L.length d3) (.slice B4 m.bo.length d4)
   rw [hW7]
   clear hW7
   have zr := blk_kept HD.out.2.2.1 hm7.kept (by omega)
   have HB7 := ak (Mv.to HD.out.2.2.2.2.2 hm7 (fun k hk => by omega) HD.out.2.2.2.2.2.size)
   have HR1 := ak (Kd.R_kept (Kd.R_types HD.out.2.2.2.1 HD.out.1 (by decide)) hm7.kept (fun k hk he => hk.2 he))
   have HR2 := ak (Kd.R_kept (Kd.R_types HD.out.2.2.2.2.1 HD.out.1 (by decide)) hm7.kept (fun k hk he => hk.2 he))
   have HZR := ak zr
   obtain ⟨⟨y0, y1, y2, y3, y4, y5, y6, y7⟩, _⟩ := cells8 z7
   obtain ⟨⟨q2, q3, q4, q5, q6, q7, q8, q9⟩, ⟨p0, p1, p2, p3, p4, p5, p6, p7⟩⟩ := cells8 zr
   clear zr z7 q0 q1
   cases ok
   ·
    go_wp2_with fail
    rw [HM2.out, show itemOf k s e m = none by unfold itemOf; rw [HOK.out]; rfl]
    clear y0 y1 y2 y3 y4 y5 y6 y7
    obtain ⟨W', hW', z4, hmv⟩ := box8 HZR.out (.int .i64 0) (.int .i64 0) (.int .i64 0) (.int .i64 0) (.int .i64 0) (.int .i64 0) (.slice none 0 0) (.slice none 0 0)
    rw [hW']
    clear hW'
    have hB' : Below w.heap.size w W' := Mv.to HB7.out hmv (fun k hk => by omega) HB7.out.size
    obtain ⟨⟨y0, y1, y2, y3, y4, y5, y6, y7⟩, _⟩ := cells8 z4
    exact bodyPost_ret (v := .tuple #[.agg #[.int .i64 0, .int .i64 0, .int .i64 0, .int .i64 0, .int .i64 0, .int .i64 0, .slice none 0 0, .slice none 0 0], .int .i64 2]) (by simp [results, Tryd.results49, go_sem, y0, y1, y2, y3, y4, y5, y6, y7]) rfl (TakePost.none_ hB')
   ·
    go_wp2_with fail
    rw [HM2.out, show itemOf k s e m = some (k, s, e, m.i, m.t, m.c, m.L, m.bo) by unfold itemOf; rw [HOK.out]; rfl]
    clear y0 y1 y2 y3 y4 y5 y6 y7
    obtain ⟨W', hW', z4, hmv⟩ := box8 HZR.out (.int .i64 k) (.int .i64 s) (.int .i64 e) (.int .i64 m.i) (.int .i64 m.t) (.int .i64 m.c) (.slice B3 m.L.length d3) (.slice B4 m.bo.length d4)
    rw [hW']
    clear hW'
    have hB' : Below w.heap.size w W' := Mv.to HB7.out hmv (fun k hk => by omega) HB7.out.size
    obtain ⟨⟨y0, y1, y2, y3, y4, y5, y6, y7⟩, _⟩ := cells8 z4
    exact bodyPost_ret (v := .tuple #[.agg #[.int .i64 k, .int .i64 s, .int .i64 e, .int .i64 m.i, .int .i64 m.t, .int .i64 m.c, .slice B3 m.L.length d3, .slice B4 m.bo.length d4], .int .i64 0]) (by simp [results, Tryd.results49, go_sem, y0, y1, y2, y3, y4, y5, y6, y7]) rfl ⟨_, _, rfl,
     Kd.R_mono (Kd.R_kept (Kd.R_types HR1.out HZR.out (by decide)) hmv.kept (fun k hk he => hk.2 he)) (fun _ _ => trivial), Kd.R_mono (Kd.R_kept (Kd.R_types HR2.out HZR.out (by decide)) hmv.kept (fun k hk he => hk.2 he)) (fun _ _ => trivial), hB'⟩
theorem item_Take.calls (A0 : Option Addr) (c0 : Nat) (l0 : List Int) (r1 r2 r3 r4 r5 r6 : Int) (r7 r8 : List Int) (r9 : Int) (w : World) (hr0 : Kd.C (Kd.int .u8) w A0 l0.length l0) (hc0 : l0.length ≤ c0) (hG : GB w) (h : item_Take.f l0 = some (r1, r2, r3, r4, r5, r6, r7, r8, r9)) :
  Calls Tryd.prog 49 #[.slice A0 l0.length c0] w fun e w' => ∃ v6_ v7_ : Value, e = .returned (.tuple #[.agg #[.int .i64 r1, .int .i64 r2, .int .i64 r3, .int .i64 r4, .int .i64 r5, .int .i64 r6, v6_, v7_], .int .i64 r9]) ∧ Kd.R (Kd.int .i64) 3 w' w.heap.size (fun _ => True) v6_ r7 ∧ Kd.R (Kd.int .u8) 5 w' w.heap.size (fun _ => True) v7_ r8 ∧ Below w.heap.size w w' := by
 unfold item_Take.f at h
 by_cases ho : okL l0 = true
 ·
  rw [if_pos ho] at h
  obtain ⟨hb, hl⟩ := okL_is ho
  have hc := item_Take.is A0 c0 l0 w hr0 hc0 hG hb hl
  unfold TakePost at hc
  rw [Option.some.inj h] at hc
  exact hc
 ·
  rw [if_neg ho] at h; cases h
end Go.Proofs.YtieolhhokepkjaaDoor.Print
