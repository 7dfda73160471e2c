/- What stands behind an item's head: item.rest. Conditions stand in each theorem. -/
import Derived.Test.YtieolhhokepkjaaDoorHand6
import Derived.Test.YtieolhhokepkjaaDoorHand5
import Derived.Test.YtieolhhokepkjaaDoorNumRef
import Derived.IntWalk
namespace Go.Proofs.YtieolhhokepkjaaDoor.Print
set_option linter.unusedVariables false
set_option linter.unusedSimpArgs false
open Go.RowKit Go.Proofs.YtieolhhokepkjaaDoorW.PrintWords Go.Proofs.YtieolhhokepkjaaDoorW.PrintLast Go.Proofs.YtieolhhokepkjaaDoorW.PrintMore Go.Proofs.YtieolhhokepkjaaDoor.NumPlain
theorem GB.kept {w w1 : World} {S : Nat → Prop} (h : GB w) (hk : Kept w w1 S) (h0 : ¬ S 0) : GB w1 := fun j hj => cell_kept (h j hj) hk h0
/-- What is read shared, in a world that kept its blocks. -/
theorem V8.kept {w w1 : World} {N N' : Nat} {Q S : Nat → Prop} {v : Value} {l : List Int} (h : Kd.V (Kd.int .u8) 5 w N Q v l) (hk : Kept w w1 S) (hs : ∀ k, Q k → ¬ S k) : Kd.V (Kd.int .u8) 5 w1 N' Q v l :=
 Kd.V_map h (fun A hF => Kd.F_mono (Kd.F_kept hF hk hs) (fun _ hk => hk))
/-- From one world to another one: blocks that are in S may turn, and new ones; nothing else. -/
structure Mv (W w : World) (S : Nat → Prop) : Prop where
 kept : Kept W w S
 os : w.os = W.os
 tape : w.tape = W.tape
 out : w.output = W.output
theorem Mv.below {W w : World} (h : Below W.heap.size W w) (S : Nat → Prop) : Mv W w S := ⟨Kept.of_below h S, h.os, h.tape, h.output⟩
theorem Mv.setCell {W w : World} {S : Nat → Prop} (h : Mv W w S) {p : Addr} (hp : S p.block ∨ W.heap.size ≤ p.block) (u : Value) : Mv W (w.setCell p u) S := ⟨Kept.setCell h.kept hp u, h.os, h.tape, h.out⟩
theorem Mv.to {b : Nat} {w0 W w : World} {S : Nat → Prop} (hb : Below b w0 W) (h : Mv W w S) (hs : ∀ k, S k → b ≤ k) (hw : b ≤ W.heap.size) : Below b w0 w :=
 hb.trans ⟨h.os, h.tape, h.out, h.kept.1, fun k hk => h.kept.2 k (by omega) (fun h2 => by have := hs k h2; omega)⟩
/-- What a closure that takes numbers off leaves: a cell of the item's box, what is behind it, and all other blocks. -/
def Took (W : World) (g2 g3 : Nat) (cs : Array Value) (Q : Nat → Prop) (r : List Int) (ok : Bool) (e : Ending) (w1 : World) : Prop :=
 ∃ (A : Option Addr) (c : Nat), e = .returned (.bool ok) ∧ w1.heap[g2]? = some (.cells cs 25 (0, 0)) ∧ w1.heap[g3]? = some (.cells #[.slice A r.length c] 23 (0, 0)) ∧ Kd.V (Kd.int .u8) 5 w1 w1.heap.size Q (.slice A r.length c) r ∧ Mv W w1 (fun k => k = g2 ∨ k = g3)
theorem took_mk {W w1 : World} {g2 g3 : Nat} {cs : Array Value} {z : Value} {j : Nat} {Q : Nat → Prop} {A : Option Addr} {c : Nat} {r : List Int} {ok : Bool} {x : Value} (h2 : W.heap[g2]? = some (.cells cs 25 (0, 0))) (h3 : W.heap[g3]? = some (.cells #[z] 23 (0, 0))) (hne : g2 ≠ g3)
  (hb : Below W.heap.size W w1) (hV : Kd.V (Kd.int .u8) 5 w1 W.heap.size Q (.slice A r.length c) r) (hQ2 : ∀ k, Q k → k ≠ g2 ∧ k ≠ g3) :
  Took W g2 g3 (cs.setIfInBounds j x) Q r ok (.returned (.bool ok)) ((w1.setCell ⟨g2, j, none⟩ x).setCell ⟨g3, 0, none⟩ (.slice A r.length c)) := by
 have k2 := blk_below h2 hb
 have k3 := blk_below h3 hb
 refine ⟨A, c, rfl, blk_far (blk_set k2 j x) hne _, blk_put (blk_far k3 (p := ⟨g2, j, none⟩) (fun h => hne h.symm) x) 0 _ rfl, ?_, ((Mv.below hb _).setCell (Or.inl (Or.inl rfl)) _).setCell (Or.inl (Or.inr rfl)) _⟩
 exact V8.kept (S := fun k => k = g2 ∨ k = g3) hV ((Kept.refl w1 _).setCell (Or.inl (Or.inl rfl)) _ |>.setCell (Or.inl (Or.inr rfl)) _) (fun k hk h => by rcases h with h | h; exact (hQ2 k hk).1 h; exact (hQ2 k hk).2 h)
theorem take1_is {l : List Int} (hb : By l) : num_Take.f l 1 = some (l.headD 0, l.drop 1, if 0 < l.length then 0 else 2) := by
 rcases l with _ | ⟨x, l⟩
 ·
  rfl
 ·
  have hx := hb x (List.mem_cons_self)
  rw [take_good (Or.inl rfl) hb]
  unfold takeS
  have hv : val (List.take (Int.toNat 1) (x :: l)) = x := by simp [val]
  rw [if_neg (by simp; omega), hv, if_neg (by unfold most; omega)]
  rfl
theorem rest1.is {W : World} {g2 g3 : Nat} {cs : Array Value} {j : Nat} {Q : Nat → Prop} {A : Option Addr} {c : Nat} {l : List Int} {z : Value} (h2 : W.heap[g2]? = some (.cells cs 25 (0, 0))) (h3 : W.heap[g3]? = some (.cells #[.slice A l.length c] 23 (0, 0))) (hne : g2 ≠ g3) (hj : cs[j]? = some z)
  (hV : Kd.V (Kd.int .u8) 5 W W.heap.size Q (.slice A l.length c) l) (hQ2 : ∀ k, Q k → k ≠ g2 ∧ k ≠ g3) (hQ : ∀ k, W.heap.size ≤ k → Q k) (hG : GB W) (hb : By l) (ok : Bool) (hok : decide (0 < l.length) = ok) :
  Calls Tryd.prog 74 #[.pointer (some ⟨g2, j, none⟩), .pointer (some ⟨g3, 0, none⟩)] W (Took W g2 g3 (cs.setIfInBounds j (.int .i64 (l.headD 0))) Q (l.drop 1) ok) := by
 have x3 : W.cell? ⟨g3, 0, none⟩ = some (.slice A l.length c) := blk_cell h3 0
 have hE : ((if 0 < l.length then (0 : Int) else 2) == 0) = ok := by rw [← hok]; by_cases h : 0 < l.length <;> simp [h]
 have HT := Lib.hid (num_Take.calls Q A c l 1 _ _ _ W hV hG (take1_is hb))
 have H2 := ak h2
 have H3 := ak h3
 have HJ := Lib.hid hj
 clear h2 h3 hV hG hb hok hj
 generalize l.headD 0 = x at *
 generalize l.drop 1 = r at *
 generalize (if 0 < l.length then (0 : Int) else 2) = q at *
 have HE := Lib.hid hE
 clear hE
 go_enter Tryd.func74, Tryd.ntmps74
 go_wp2_with fail
 refine HT.out.mono ?_
 rintro e w1 ⟨v1, rfl, hv, hb⟩
 obtain ⟨A1, c1, rfl, hl1, hF1⟩ := hv
 have y2 := pw_cell_below hb ((blk_cell H2.out j).trans HJ.out)
 have y3 := pw_cell_below hb ((blk_cell H3.out 0).trans (show _ = some (Value.slice A l.length c) from rfl))
 have f2 := blk_frozen (blk_below H2.out hb) j
 have f3 := blk_frozen (blk_below H3.out hb) 0
 have HB := ak hb
 have HF := ak (Kd.V_mk (e := 5) (base := W.heap.size) hl1 (Kd.F_mono hF1 (fun k hk => hk.elim id (hQ k))))
 clear hb hF1 hl1
 go_wp2_with fail
 go_ret
 rw [HE.out]
 exact took_mk H2.out H3.out hne HB.out HF.out hQ2
/-- What a closure that takes a row off leaves. -/
def TookRow (W : World) (g2 g3 : Nat) (cs : Array Value) (Q : Nat → Prop) (L r : List Int) (ok : Bool) (e : Ending) (w1 : World) : Prop :=
 ∃ (B : Option Addr) (d : Nat), Took W g2 g3 (cs.setIfInBounds 6 (.slice B L.length d)) Q r ok e w1 ∧ Kd.R (Kd.int .i64) 3 w1 W.heap.size (fun k => W.heap.size ≤ k) (.slice B L.length d) L
set_option maxRecDepth 100000 in
theorem rest2_1.is {W : World} {g2 g3 : Nat} {cs : Array Value} {Q : Nat → Prop} {A : Option Addr} {c : Nat} {l L r : List Int} {q : Int} {k : Nat} {z : Value} (h2 : W.heap[g2]? = some (.cells cs 25 (0, 0))) (h3 : W.heap[g3]? = some (.cells #[.slice A l.length c] 23 (0, 0))) (hne : g2 ≠ g3) (hj : cs[6]? = some z)
  (hV : Kd.V (Kd.int .u8) 5 W W.heap.size Q (.slice A l.length c) l) (hQ2 : ∀ k, Q k → k ≠ g2 ∧ k ≠ g3) (hQ : ∀ k, W.heap.size ≤ k → Q k) (hG : GB W) (ok : Bool) (hok : (q == 0) = ok) (hT : num_TakeRow.f k l ((l.length : Int) / 1) 1 = some (L, r, q)) :
  Calls Tryd.prog 75 #[.int .i64 1, .pointer (some ⟨g3, 0, none⟩), .pointer (some ⟨g2, 0, none⟩)] W (TookRow W g2 g3 cs Q L r ok) := by
 have x3 : W.cell? ⟨g3, 0, none⟩ = some (.slice A l.length c) := blk_cell h3 0
 have HT := Lib.hid (num_TakeRow.calls k Q A c l _ 1 _ _ _ W.drew (Kd.V_drew hV) hG hT)
 have H2 := ak h2
 have H3 := ak h3
 have HJ := Lib.hid hj
 have HE := Lib.hid hok
 have hm0 : l.length ≤ 9223372036854775807 := Kd.C_max (Kd.F_now (Kd.V_at hV).2.2)
 have hdv : wrap64 (l.length : Int) = (l.length : Int) / 1 := by unfold wrap64; omega
 have HD := Lib.hid hdv
 clear h2 h3 hV hG hok hj hT hdv
 go_enter Tryd.func75, Tryd.ntmps75
 go_wp2_with fail
 refine start_ (n := 14) (S := fun w' => w'.cell? ⟨g3, 0, none⟩ = some (.slice A l.length c)) (ds := []) #[false, false, false, false, false, false, false, false, false, false, false, false, false, false] (by kernel_rfl) rfl rfl (x3) (fun hHeld => ?_)
 refine pure_ (i := 3) (N := some 12) (v := ?_) (a' := ?_) #[false, false, false, true, false, false, false, false, false, false, false, false, false, false] rfl rfl (by kernel_rfl) (fun _ _ _ h => h) (Or.inl ⟨by rfl, ?_⟩) ?_ ?_
 rotate_left
 ·
  intro w'
  go_simp
  with_reducible rfl
 rotate_left
 ·
  simp only [Act.put, sq1, sq2, sq3, i64_w, i32_w]
  rfl
 refine pure_ (i := 5) (N := some 14) (v := ?_) (a' := ?_) #[false, false, false, true, false, true, false, false, false, false, false, false, false, false] rfl rfl (by kernel_rfl) (fun _ _ _ h => h) (Or.inl ⟨by rfl, ?_⟩) ?_ ?_
 rotate_left
 ·
  intro w'
  go_simp
  with_reducible rfl
 rotate_left
 ·
  simp only [Act.put, sq1, sq2, sq3, i64_w, i32_w]
  rfl
 refine take_ (i := 0) (N := some 9) (v := ?_) (a' := ?_) #[true, false, false, true, false, true, false, false, false, false, false, false, false, false] rfl rfl (by kernel_rfl) (fun _ _ _ h => h) (Or.inl ⟨by rfl, ?_⟩) hHeld ?_ ?_
 rotate_left
 ·
  intro w' s0
  go_simp
  with_reducible rfl
 rotate_left
 ·
  simp only [Act.put, sq1, sq2, sq3, i64_w, i32_w]
  rfl
 refine take_ (i := 1) (N := some 10) (v := ?_) (a' := ?_) #[true, true, false, true, false, true, false, false, false, false, false, false, false, false] rfl rfl (by kernel_rfl) (fun _ _ _ h => h) (Or.inl ⟨by rfl, ?_⟩) hHeld ?_ ?_
 rotate_left
 ·
  intro w' s0
  go_simp
  with_reducible rfl
 rotate_left
 ·
  simp only [Act.put, sq1, sq2, sq3, i64_w, i32_w]
  rfl
 refine pure_ (i := 2) (N := some 11) (v := ?_) (a' := ?_) #[true, true, true, true, false, true, false, false, false, false, false, false, false, false] rfl rfl (by kernel_rfl) (fun _ _ _ h => h) (Or.inl ⟨by rfl, ?_⟩) ?_ ?_
 rotate_left
 ·
  intro w'
  go_simp
  with_reducible rfl
 rotate_left
 ·
  simp only [Act.put, sq1, sq2, sq3, i64_w, i32_w]
  rfl
 refine pure_ (i := 4) (N := some 13) (v := ?_) (a' := ?_) #[true, true, true, true, true, true, false, false, false, false, false, false, false, false] rfl rfl (by kernel_rfl) (fun _ _ _ h => h) (Or.inl ⟨by rfl, ?_⟩) ?_ ?_
 rotate_left
 ·
  intro w'
  go_simp
  with_reducible rfl
 rotate_left
 ·
  simp only [Act.put, sq1, sq2, sq3, i64_w, i32_w]
  rfl
 refine one_ (i := 6) (N := some 15) #[true, true, true, true, true, true, true, false, false, false, false, false, false, false] rfl rfl (by kernel_rfl) (by decide) (fun K hK => ?_)
 refine goes_ Tryd.func51 (by kernel_rfl) rfl #[.slice A l.length c, .int .i64 (wrap64 (l.length : Int)), .int .i64 1] (by rfl) rfl rfl (by simp only [List.map_toArray, List.map_cons, List.map_nil]; rfl) ?_
 rw [HD.out]
 with_reducible refine (HT.out).mono ?_
 rintro e0 w1 ⟨v0, v1, rfl, hr, hv, hb⟩
 refine ⟨_, rfl, ?_⟩
 have HB := ak hb
 have HR := ak hr
 have HV := ak hv
 clear hb hr hv
 refine hK.out _ _ (pw_cell_below HB.out x3) (fun hHeld => ?_)
 clear hK K
 refine norm_ (a' := ?_) ?_ ?_
 rotate_left
 ·
  show Act.put _ (some 15) _ = _
  simp only [Act.put, sq1, sq2, sq3, i64_w, i32_w]
  rfl
 refine pure_ (i := 7) (N := some 8) (v := ?_) (a' := ?_) #[true, true, true, true, true, true, true, true, false, false, false, false, false, false] rfl rfl (by kernel_rfl) (fun _ _ _ h => h) (Or.inl ⟨by rfl, ?_⟩) ?_ ?_
 rotate_left
 ·
  intro w'
  go_simp
  with_reducible rfl
 rotate_left
 ·
  simp only [Act.put, sq1, sq2, sq3, i64_w, i32_w]
  rfl
 refine pure_ (i := 8) (N := some 16) (v := ?_) (a' := ?_) #[true, true, true, true, true, true, true, true, true, false, false, false, false, false] rfl rfl (by kernel_rfl) (fun _ _ _ h => h) (Or.inl ⟨by rfl, ?_⟩) ?_ ?_
 rotate_left
 ·
  intro w'
  go_simp
  with_reducible rfl
 rotate_left
 ·
  simp only [Act.put, sq1, sq2, sq3, i64_w, i32_w]
  rfl
 refine pure_ (i := 9) (N := some 17) (v := ?_) (a' := ?_) #[true, true, true, true, true, true, true, true, true, true, false, false, false, false] rfl rfl (by kernel_rfl) (fun _ _ _ h => h) (Or.inl ⟨by rfl, ?_⟩) ?_ ?_
 rotate_left
 ·
  intro w'
  go_simp
  with_reducible rfl
 rotate_left
 ·
  simp only [Act.put, sq1, sq2, sq3, i64_w, i32_w]
  rfl
 refine pure_ (i := 10) (N := some 18) (v := ?_) (a' := ?_) #[true, true, true, true, true, true, true, true, true, true, true, false, false, false] rfl rfl (by kernel_rfl) (fun _ _ _ h => h) (Or.inl ⟨by rfl, ?_⟩) ?_ ?_
 rotate_left
 ·
  intro w'
  go_simp
  with_reducible rfl
 rotate_left
 ·
  simp only [Act.put, sq1, sq2, sq3, i64_w, i32_w]
  rfl
 refine pure_ (i := 11) (N := some 5) (v := ?_) (a' := ?_) #[true, true, true, true, true, true, true, true, true, true, true, true, false, false] rfl rfl (by kernel_rfl) (fun _ _ _ h => h) (Or.inl ⟨by rfl, ?_⟩) ?_ ?_
 rotate_left
 ·
  intro w'
  go_simp
  with_reducible rfl
 rotate_left
 ·
  simp only [Act.put, sq1, sq2, sq3, i64_w, i32_w]
  rfl
 refine pure_ (i := 12) (N := some 6) (v := ?_) (a' := ?_) #[true, true, true, true, true, true, true, true, true, true, true, true, true, false] rfl rfl (by kernel_rfl) (fun _ _ _ h => h) (Or.inl ⟨by rfl, ?_⟩) ?_ ?_
 rotate_left
 ·
  intro w'
  go_simp
  with_reducible rfl
 rotate_left
 ·
  simp only [Act.put, sq1, sq2, sq3, i64_w, i32_w]
  rfl
 refine pure_ (i := 13) (N := some 7) (v := ?_) (a' := ?_) #[true, true, true, true, true, true, true, true, true, true, true, true, true, true] rfl rfl (by kernel_rfl) (fun _ _ _ h => h) (Or.inl ⟨by rfl, ?_⟩) ?_ ?_
 rotate_left
 ·
  intro w'
  go_simp
  with_reducible rfl
 rotate_left
 ·
  simp only [Act.put, sq1, sq2, sq3, i64_w, i32_w]
  rfl
 refine done_ (by kernel_rfl) ?_
 clear hHeld
 obtain ⟨B, d, rfl⟩ := Kd.R_slice HR.out
 obtain ⟨A1, c1, rfl, hl1, hF1⟩ := HV.out
 have hb := HB.out
 have y2 := pw_cell_below hb ((blk_cell (blk_drew H2.out) 6).trans HJ.out)
 have y3 := pw_cell_below hb ((blk_cell (blk_drew H3.out) 0).trans (show _ = some (Value.slice A l.length c) from rfl))
 have f2 := blk_frozen (blk_below (blk_drew H2.out) hb) 6
 have f3 := blk_frozen (blk_below (blk_drew H3.out) hb) 0
 have HB2 := ak (show Below W.heap.size W w1 from below_step (below_drew1 (Below.refl _ _)) hb)
 have HF := ak (Kd.V_mk (e := 5) (base := W.heap.size) hl1 (Kd.F_mono hF1 (fun k hk => hk.1.elim id (hQ k))))
 have hlt2 := blk_lt H2.out
 have hlt3 := blk_lt H3.out
 clear hb hF1 hl1 HV HB
 go_wp2_with fail
 go_ret
 rw [HE.out]
 exact ⟨B, d, took_mk H2.out H3.out hne HB2.out HF.out hQ2, Kd.R_far (Kd.R_far HR.out (fun k hk => Nat.ne_of_gt (Nat.lt_of_lt_of_le hlt2 hk)) _) (fun k hk => Nat.ne_of_gt (Nat.lt_of_lt_of_le hlt3 hk)) _⟩
set_option maxRecDepth 100000 in
theorem rest2_8.is {W : World} {g2 g3 : Nat} {cs : Array Value} {Q : Nat → Prop} {A : Option Addr} {c : Nat} {l L r : List Int} {q : Int} {k : Nat} {z : Value} (h2 : W.heap[g2]? = some (.cells cs 25 (0, 0))) (h3 : W.heap[g3]? = some (.cells #[.slice A l.length c] 23 (0, 0))) (hne : g2 ≠ g3) (hj : cs[6]? = some z)
  (hV : Kd.V (Kd.int .u8) 5 W W.heap.size Q (.slice A l.length c) l) (hQ2 : ∀ k, Q k → k ≠ g2 ∧ k ≠ g3) (hQ : ∀ k, W.heap.size ≤ k → Q k) (hG : GB W) (ok : Bool) (hok : (q == 0) = ok) (hT : num_TakeRow.f k l ((l.length : Int) / 8) 8 = some (L, r, q)) :
  Calls Tryd.prog 75 #[.int .i64 8, .pointer (some ⟨g3, 0, none⟩), .pointer (some ⟨g2, 0, none⟩)] W (TookRow W g2 g3 cs Q L r ok) := by
 have x3 : W.cell? ⟨g3, 0, none⟩ = some (.slice A l.length c) := blk_cell h3 0
 have HT := Lib.hid (num_TakeRow.calls k Q A c l _ 8 _ _ _ W.drew (Kd.V_drew hV) hG hT)
 have H2 := ak h2
 have H3 := ak h3
 have HJ := Lib.hid hj
 have HE := Lib.hid hok
 have hm0 : l.length ≤ 9223372036854775807 := Kd.C_max (Kd.F_now (Kd.V_at hV).2.2)
 have hdv : wrap64 ((l.length : Int) / 8) = (l.length : Int) / 8 := by unfold wrap64; omega
 have HD := Lib.hid hdv
 clear h2 h3 hV hG hok hj hT hdv
 go_enter Tryd.func75, Tryd.ntmps75
 go_wp2_with fail
 refine start_ (n := 14) (S := fun w' => w'.cell? ⟨g3, 0, none⟩ = some (.slice A l.length c)) (ds := []) #[false, false, false, false, false, false, false, false, false, false, false, false, false, false] (by kernel_rfl) rfl rfl (x3) (fun hHeld => ?_)
 refine pure_ (i := 3) (N := some 12) (v := ?_) (a' := ?_) #[false, false, false, true, false, false, false, false, false, false, false, false, false, false] rfl rfl (by kernel_rfl) (fun _ _ _ h => h) (Or.inl ⟨by rfl, ?_⟩) ?_ ?_
 rotate_left
 ·
  intro w'
  go_simp
  with_reducible rfl
 rotate_left
 ·
  simp only [Act.put, sq1, sq2, sq3, i64_w, i32_w]
  rfl
 refine pure_ (i := 5) (N := some 14) (v := ?_) (a' := ?_) #[false, false, false, true, false, true, false, false, false, false, false, false, false, false] rfl rfl (by kernel_rfl) (fun _ _ _ h => h) (Or.inl ⟨by rfl, ?_⟩) ?_ ?_
 rotate_left
 ·
  intro w'
  go_simp
  with_reducible rfl
 rotate_left
 ·
  simp only [Act.put, sq1, sq2, sq3, i64_w, i32_w]
  rfl
 refine take_ (i := 0) (N := some 9) (v := ?_) (a' := ?_) #[true, false, false, true, false, true, false, false, false, false, false, false, false, false] rfl rfl (by kernel_rfl) (fun _ _ _ h => h) (Or.inl ⟨by rfl, ?_⟩) hHeld ?_ ?_
 rotate_left
 ·
  intro w' s0
  go_simp
  with_reducible rfl
 rotate_left
 ·
  simp only [Act.put, sq1, sq2, sq3, i64_w, i32_w]
  rfl
 refine take_ (i := 1) (N := some 10) (v := ?_) (a' := ?_) #[true, true, false, true, false, true, false, false, false, false, false, false, false, false] rfl rfl (by kernel_rfl) (fun _ _ _ h => h) (Or.inl ⟨by rfl, ?_⟩) hHeld ?_ ?_
 rotate_left
 ·
  intro w' s0
  go_simp
  with_reducible rfl
 rotate_left
 ·
  simp only [Act.put, sq1, sq2, sq3, i64_w, i32_w]
  rfl
 refine pure_ (i := 2) (N := some 11) (v := ?_) (a' := ?_) #[true, true, true, true, false, true, false, false, false, false, false, false, false, false] rfl rfl (by kernel_rfl) (fun _ _ _ h => h) (Or.inl ⟨by rfl, ?_⟩) ?_ ?_
 rotate_left
 ·
  intro w'
  go_simp
  with_reducible rfl
 rotate_left
 ·
  simp only [Act.put, sq1, sq2, sq3, i64_w, i32_w]
  rfl
 refine pure_ (i := 4) (N := some 13) (v := ?_) (a' := ?_) #[true, true, true, true, true, true, false, false, false, false, false, false, false, false] rfl rfl (by kernel_rfl) (fun _ _ _ h => h) (Or.inl ⟨by rfl, ?_⟩) ?_ ?_
 rotate_left
 ·
  intro w'
  go_simp
  with_reducible rfl
 rotate_left
 ·
  simp only [Act.put, sq1, sq2, sq3, i64_w, i32_w]
  rfl
 refine one_ (i := 6) (N := some 15) #[true, true, true, true, true, true, true, false, false, false, false, false, false, false] rfl rfl (by kernel_rfl) (by decide) (fun K hK => ?_)
 refine goes_ Tryd.func51 (by kernel_rfl) rfl #[.slice A l.length c, .int .i64 (wrap64 ((l.length : Int) / 8)), .int .i64 8] (by rfl) rfl rfl (by simp only [List.map_toArray, List.map_cons, List.map_nil]; rfl) ?_
 rw [HD.out]
 with_reducible refine (HT.out).mono ?_
 rintro e0 w1 ⟨v0, v1, rfl, hr, hv, hb⟩
 refine ⟨_, rfl, ?_⟩
 have HB := ak hb
 have HR := ak hr
 have HV := ak hv
 clear hb hr hv
 refine hK.out _ _ (pw_cell_below HB.out x3) (fun hHeld => ?_)
 clear hK K
 refine norm_ (a' := ?_) ?_ ?_
 rotate_left
 ·
  show Act.put _ (some 15) _ = _
  simp only [Act.put, sq1, sq2, sq3, i64_w, i32_w]
  rfl
 refine pure_ (i := 7) (N := some 8) (v := ?_) (a' := ?_) #[true, true, true, true, true, true, true, true, false, false, false, false, false, false] rfl rfl (by kernel_rfl) (fun _ _ _ h => h) (Or.inl ⟨by rfl, ?_⟩) ?_ ?_
 rotate_left
 ·
  intro w'
  go_simp
  with_reducible rfl
 rotate_left
 ·
  simp only [Act.put, sq1, sq2, sq3, i64_w, i32_w]
  rfl
 refine pure_ (i := 8) (N := some 16) (v := ?_) (a' := ?_) #[true, true, true, true, true, true, true, true, true, false, false, false, false, false] rfl rfl (by kernel_rfl) (fun _ _ _ h => h) (Or.inl ⟨by rfl, ?_⟩) ?_ ?_
 rotate_left
 ·
  intro w'
  go_simp
  with_reducible rfl
 rotate_left
 ·
  simp only [Act.put, sq1, sq2, sq3, i64_w, i32_w]
  rfl
 refine pure_ (i := 9) (N := some 17) (v := ?_) (a' := ?_) #[true, true, true, true, true, true, true, true, true, true, false, false, false, false] rfl rfl (by kernel_rfl) (fun _ _ _ h => h) (Or.inl ⟨by rfl, ?_⟩) ?_ ?_
 rotate_left
 ·
  intro w'
  go_simp
  with_reducible rfl
 rotate_left
 ·
  simp only [Act.put, sq1, sq2, sq3, i64_w, i32_w]
  rfl
 refine pure_ (i := 10) (N := some 18) (v := ?_) (a' := ?_) #[true, true, true, true, true, true, true, true, true, true, true, false, false, false] rfl rfl (by kernel_rfl) (fun _ _ _ h => h) (Or.inl ⟨by rfl, ?_⟩) ?_ ?_
 rotate_left
 ·
  intro w'
  go_simp
  with_reducible rfl
 rotate_left
 ·
  simp only [Act.put, sq1, sq2, sq3, i64_w, i32_w]
  rfl
 refine pure_ (i := 11) (N := some 5) (v := ?_) (a' := ?_) #[true, true, true, true, true, true, true, true, true, true, true, true, false, false] rfl rfl (by kernel_rfl) (fun _ _ _ h => h) (Or.inl ⟨by rfl, ?_⟩) ?_ ?_
 rotate_left
 ·
  intro w'
  go_simp
  with_reducible rfl
 rotate_left
 ·
  simp only [Act.put, sq1, sq2, sq3, i64_w, i32_w]
  rfl
 refine pure_ (i := 12) (N := some 6) (v := ?_) (a' := ?_) #[true, true, true, true, true, true, true, true, true, true, true, true, true, false] rfl rfl (by kernel_rfl) (fun _ _ _ h => h) (Or.inl ⟨by rfl, ?_⟩) ?_ ?_
 rotate_left
 ·
  intro w'
  go_simp
  with_reducible rfl
 rotate_left
 ·
  simp only [Act.put, sq1, sq2, sq3, i64_w, i32_w]
  rfl
 refine pure_ (i := 13) (N := some 7) (v := ?_) (a' := ?_) #[true, true, true, true, true, true, true, true, true, true, true, true, true, true] rfl rfl (by kernel_rfl) (fun _ _ _ h => h) (Or.inl ⟨by rfl, ?_⟩) ?_ ?_
 rotate_left
 ·
  intro w'
  go_simp
  with_reducible rfl
 rotate_left
 ·
  simp only [Act.put, sq1, sq2, sq3, i64_w, i32_w]
  rfl
 refine done_ (by kernel_rfl) ?_
 clear hHeld
 obtain ⟨B, d, rfl⟩ := Kd.R_slice HR.out
 obtain ⟨A1, c1, rfl, hl1, hF1⟩ := HV.out
 have hb := HB.out
 have y2 := pw_cell_below hb ((blk_cell (blk_drew H2.out) 6).trans HJ.out)
 have y3 := pw_cell_below hb ((blk_cell (blk_drew H3.out) 0).trans (show _ = some (Value.slice A l.length c) from rfl))
 have f2 := blk_frozen (blk_below (blk_drew H2.out) hb) 6
 have f3 := blk_frozen (blk_below (blk_drew H3.out) hb) 0
 have HB2 := ak (show Below W.heap.size W w1 from below_step (below_drew1 (Below.refl _ _)) hb)
 have HF := ak (Kd.V_mk (e := 5) (base := W.heap.size) hl1 (Kd.F_mono hF1 (fun k hk => hk.1.elim id (hQ k))))
 have hlt2 := blk_lt H2.out
 have hlt3 := blk_lt H3.out
 clear hb hF1 hl1 HV HB
 go_wp2_with fail
 go_ret
 rw [HE.out]
 exact ⟨B, d, took_mk H2.out H3.out hne HB2.out HF.out hQ2, Kd.R_far (Kd.R_far HR.out (fun k hk => Nat.ne_of_gt (Nat.lt_of_lt_of_le hlt2 hk)) _) (fun k hk => Nat.ne_of_gt (Nat.lt_of_lt_of_le hlt3 hk)) _⟩
end Go.Proofs.YtieolhhokepkjaaDoor.Print
namespace Go.Proofs.YtieolhhokepkjaaDoor.Print
set_option linter.unusedVariables false
set_option linter.unusedSimpArgs false
open Go.RowKit Go.Proofs.YtieolhhokepkjaaDoorW.PrintWords Go.Proofs.YtieolhhokepkjaaDoorW.PrintLast Go.Proofs.YtieolhhokepkjaaDoorW.PrintMore Go.Proofs.YtieolhhokepkjaaDoor.NumPlain
/-- What is taken off the bytes behind an item's head: does it hold, index, total, count, the row, the body, and what is left. -/
structure RMid where
 is : Bool
 i : Int
 t : Int
 c : Int
 L : List Int
 bo : List Int
 left : List Int
def rowT (W : Int) (l : List Int) : List Int × List Int × Int := (num_TakeRow.f (l.length + 3) l ((l.length : Int) / W) W).getD ([], [], 1)
def restM (k : Int) (l : List Int) : RMid :=
 if k = 1 then ⟨decide (1 < l.length), l.headD 0, (l.drop 1).headD 0, 0, [], l.drop 2, []⟩
 else if k = 2 then (if 0 < l.length then ⟨(rowT 1 (l.drop 1)).2.2 == 0, l.headD 0, 0, 0, (rowT 1 (l.drop 1)).1, [], (rowT 1 (l.drop 1)).2.1⟩ else ⟨false, 0, 0, 0, [], [], []⟩)
 else if k = 4 then ⟨decide (0 < l.length), l.headD 0, 0, 0, [], [], l.drop 1⟩
 else if k = 5 then ⟨((num_Take.f l 8).getD (0, [], 1)).2.2 == 0, 0, 0, ((num_Take.f l 8).getD (0, [], 1)).1, [], [], ((num_Take.f l 8).getD (0, [], 1)).2.1⟩
 else if k = 6 then ⟨(rowT 8 l).2.2 == 0, 0, 0, 0, (rowT 8 l).1, [], (rowT 8 l).2.1⟩
 else ⟨true, 0, 0, 0, [], [], l⟩
theorem rowT_is {W : Int} (hW : 0 < W) {l : List Int} (hb : By l) (hl : l.length < 10000) : num_TakeRow.f (l.length + 3) l ((l.length : Int) / W) W = some ((rowT W l).1, (rowT W l).2.1, (rowT W l).2.2) := by
 have hd : (l.length : Int) / W ≤ l.length := Int.ediv_le_self _ (by omega)
 obtain ⟨q, hq, _⟩ := takerow_some (W := W) (m := (l.length : Int) / W) (l := l) (k := l.length + 3) (by omega) hb hl (Nat.le_refl _)
 unfold rowT
 rw [hq]; rfl
theorem take8_is (l : List Int) : num_Take.f l 8 = some (((num_Take.f l 8).getD (0, [], 1)).1, ((num_Take.f l 8).getD (0, [], 1)).2.1, ((num_Take.f l 8).getD (0, [], 1)).2.2) := by
 obtain ⟨p, hp⟩ := take_some l 8
 rw [hp]; rfl
/-- What the switch leaves: the item's box, what is left of the bytes, and the box of the result. -/
def RestMid (w : World) (k s e : Int) (m : RMid) (v8 : Value) (wc : World) : Prop :=
 ∃ (B1 : Option Addr) (d1 : Nat) (B2 : Option Addr) (d2 : Nat) (B3 : Option Addr) (d3 : Nat), v8 = .bool m.is ∧
  wc.heap[w.heap.size]? = some (.cells #[.int .i64 k, .int .i64 s, .int .i64 e, .int .i64 m.i, .int .i64 m.t, .int .i64 m.c, .slice B1 m.L.length d1, .slice B2 m.bo.length d2] 25 (0, 0)) ∧
  wc.heap[w.heap.size + 1]? = some (.cells #[.slice B3 m.left.length d3] 23 (0, 0)) ∧
  wc.heap[w.heap.size + 1 + 1]? = some (.cells #[.int .i64 0, .int .i64 0, .int .i64 0, .int .i64 0, .int .i64 0, .int .i64 0, .slice none 0 0, .slice none 0 0] 25 (0, 0)) ∧
  Kd.R (Kd.int .i64) 3 wc w.heap.size (fun k => w.heap.size + 3 ≤ k) (.slice B1 m.L.length d1) m.L ∧ Kd.R (Kd.int .u8) 5 wc w.heap.size (fun k => w.heap.size + 3 ≤ k) (.slice B2 m.bo.length d2) m.bo ∧ Below w.heap.size w wc
theorem rest0 (w : World) (k s e : Int) (A0 : Option Addr) (n0 c0 : Nat) : ∃ W : World, ((w.alloc (Obj.cells #[.int .i64 k, .int .i64 s, .int .i64 e, .int .i64 0, .int .i64 0, .int .i64 0, .slice none 0 0, .slice none 0 0] 25)).alloc (Obj.cells #[.slice A0 n0 c0] 23)).alloc (Obj.cells #[.int .i64 0, .int .i64 0, .int .i64 0, .int .i64 0, .int .i64 0, .int .i64 0, .slice none 0 0, .slice none 0 0] 25) = W ∧ W.heap.size = w.heap.size + 3 ∧ Below w.heap.size w W ∧
  W.heap[w.heap.size]? = some (Obj.cells #[.int .i64 k, .int .i64 s, .int .i64 e, .int .i64 0, .int .i64 0, .int .i64 0, .slice none 0 0, .slice none 0 0] 25) ∧ W.heap[w.heap.size + 1]? = some (Obj.cells #[.slice A0 n0 c0] 23) ∧ W.heap[w.heap.size + 1 + 1]? = some (Obj.cells #[.int .i64 0, .int .i64 0, .int .i64 0, .int .i64 0, .int .i64 0, .int .i64 0, .slice none 0 0, .slice none 0 0] 25) :=
 ⟨_, rfl, by simp, below_alloc (below_alloc (below_alloc (Below.refl _ _) _) _) _, by repeat (first | (refine blk_new' ?_; simp; done) | apply blk_alloc), by repeat (first | (refine blk_new' ?_; simp; done) | apply blk_alloc), by repeat (first | (refine blk_new' ?_; simp; done) | apply blk_alloc)⟩
/-- Where a row that is left of the bytes may lie: not in the boxes. -/
def Qr (w : World) (k : Nat) : Prop := k < w.heap.size ∨ w.heap.size + 3 ≤ k
structure RSt (w W : World) (cs : Array Value) (A : Option Addr) (c : Nat) (l : List Int) : Prop where
 x2 : W.heap[w.heap.size]? = some (.cells cs 25 (0, 0))
 x3 : W.heap[w.heap.size + 1]? = some (.cells #[.slice A l.length c] 23 (0, 0))
 x4 : W.heap[w.heap.size + 1 + 1]? = some (.cells #[.int .i64 0, .int .i64 0, .int .i64 0, .int .i64 0, .int .i64 0, .int .i64 0, .slice none 0 0, .slice none 0 0] 25 (0, 0))
 hv : Kd.V (Kd.int .u8) 5 W W.heap.size (Qr w) (.slice A l.length c) l
 hb : Below w.heap.size w W
 hG : GB W
 hs : w.heap.size + 3 ≤ W.heap.size
theorem Qr.ne {w : World} (k : Nat) (h : Qr w k) : k ≠ w.heap.size ∧ k ≠ w.heap.size + 1 := by unfold Qr at h; omega
theorem RSt.q {w W : World} {cs : Array Value} {A : Option Addr} {c : Nat} {l : List Int} (h : RSt w W cs A c l) (k : Nat) (hk : W.heap.size ≤ k) : Qr w k := by have := h.hs; unfold Qr; omega
theorem RSt.mv {w W w1 : World} {cs cs' : Array Value} {A A' : Option Addr} {c c' : Nat} {l r : List Int} (h : RSt w W cs A c l) (h0 : 0 < w.heap.size) (y2 : w1.heap[w.heap.size]? = some (.cells cs' 25 (0, 0))) (y3 : w1.heap[w.heap.size + 1]? = some (.cells #[.slice A' r.length c'] 23 (0, 0)))
  (hv : Kd.V (Kd.int .u8) 5 w1 w1.heap.size (Qr w) (.slice A' r.length c') r) (hm : Mv W w1 (fun k => k = w.heap.size ∨ k = w.heap.size + 1)) : RSt w w1 cs' A' c' r :=
 ⟨y2, y3, blk_kept h.x4 hm.kept (by omega), hv, Mv.to h.hb hm (fun k hk => by omega) h.hb.size, GB.kept h.hG hm.kept (by omega), Nat.le_trans h.hs hm.kept.1⟩
theorem RSt.one {w W : World} {cs : Array Value} {A : Option Addr} {c j : Nat} {l : List Int} {z : Value} (h : RSt w W cs A c l) (hj : cs[j]? = some z) (hb : By l) (ok : Bool) (hok : decide (0 < l.length) = ok) (x : Int) (hx : l.headD 0 = x) (r : List Int) (hr : l.drop 1 = r) :
  Calls Tryd.prog 74 #[.pointer (some ⟨w.heap.size, j, none⟩), .pointer (some ⟨w.heap.size + 1, 0, none⟩)] W (Took W w.heap.size (w.heap.size + 1) (cs.setIfInBounds j (.int .i64 x)) (Qr w) r ok) := by
 subst hx hr
 exact rest1.is h.x2 h.x3 (by omega) hj h.hv Qr.ne h.q h.hG hb ok hok
theorem RSt.row1 {w W : World} {cs : Array Value} {A : Option Addr} {c : Nat} {l L r : List Int} {q : Int} {z : Value} (h : RSt w W cs A c l) (hj : cs[6]? = some z) (hb : By l) (hl : l.length < 10000) (hq : rowT 1 l = (L, r, q)) (ok : Bool) (hok : (q == 0) = ok) :
  Calls Tryd.prog 75 #[.int .i64 1, .pointer (some ⟨w.heap.size + 1, 0, none⟩), .pointer (some ⟨w.heap.size, 0, none⟩)] W (TookRow W w.heap.size (w.heap.size + 1) cs (Qr w) L r ok) := by
 have hT := rowT_is (W := 1) (by omega) hb hl
 rw [hq] at hT
 exact rest2_1.is h.x2 h.x3 (by omega) hj h.hv Qr.ne h.q h.hG ok hok hT
theorem RSt.row8 {w W : World} {cs : Array Value} {A : Option Addr} {c : Nat} {l L r : List Int} {q : Int} {z : Value} (h : RSt w W cs A c l) (hj : cs[6]? = some z) (hb : By l) (hl : l.length < 10000) (hq : rowT 8 l = (L, r, q)) (ok : Bool) (hok : (q == 0) = ok) :
  Calls Tryd.prog 75 #[.int .i64 8, .pointer (some ⟨w.heap.size + 1, 0, none⟩), .pointer (some ⟨w.heap.size, 0, none⟩)] W (TookRow W w.heap.size (w.heap.size + 1) cs (Qr w) L r ok) := by
 have hT := rowT_is (W := 8) (by omega) hb hl
 rw [hq] at hT
 exact rest2_8.is h.x2 h.x3 (by omega) hj h.hv Qr.ne h.q h.hG ok hok hT
theorem RSt.below {w W w1 : World} {cs : Array Value} {A : Option Addr} {c : Nat} {l : List Int} (h : RSt w W cs A c l) (hb : Below W.heap.size W w1) : RSt w w1 cs A c l :=
 ⟨blk_below h.x2 hb, blk_below h.x3 hb, blk_below h.x4 hb, Kd.V_map h.hv (fun A hF => Kd.F_mono (Kd.F_below hF hb) (fun _ hk => hk)), below_step h.hb hb, GB.below h.hG hb, Nat.le_trans h.hs hb.size⟩
theorem RSt.set2 {w W : World} {cs : Array Value} {A A' : Option Addr} {c c' : Nat} {l r : List Int} (h : RSt w W cs A c l) (h0 : 0 < w.heap.size) (j : Nat) (v : Value) (hv : Kd.V (Kd.int .u8) 5 W W.heap.size (Qr w) (.slice A' r.length c') r) :
  RSt w ((W.setCell ⟨w.heap.size, j, none⟩ v).setCell ⟨w.heap.size + 1, 0, none⟩ (.slice A' r.length c')) (cs.setIfInBounds j v) A' c' r :=
 h.mv h0 (blk_far (blk_set h.x2 j v) (by show w.heap.size ≠ w.heap.size + 1; omega) _) (blk_put (blk_far h.x3 (p := ⟨w.heap.size, j, none⟩) (by show w.heap.size + 1 ≠ w.heap.size; omega) v) 0 _ rfl)
  (V8.kept (S := fun k => k = w.heap.size ∨ k = w.heap.size + 1) hv ((Kept.refl W _).setCell (Or.inl (Or.inl rfl)) _ |>.setCell (Or.inl (Or.inr rfl)) _) (fun k hk h => by have := Qr.ne k hk; omega))
  (((Mv.below (Below.refl _ W) _).setCell (Or.inl (Or.inl rfl)) _).setCell (Or.inl (Or.inr rfl)) _)
theorem RSt.rows {α : Type} {d : Kd α} {e N : Nat} {w W : World} {v v1 v2 : Value} {xs : List α} {j : Nat} (hN : w.heap.size + 3 ≤ N) (h : d.R e W N (fun k => N ≤ k) v xs) : d.R e ((W.setCell ⟨w.heap.size, j, none⟩ v1).setCell ⟨w.heap.size + 1, 0, none⟩ v2) w.heap.size (fun k => w.heap.size + 3 ≤ k) v xs :=
 Kd.R_far (Kd.R_far (Kd.R_lower (Kd.R_mono h (fun k hk => Nat.le_trans hN hk)) (by omega)) (fun k hk => by show k ≠ w.heap.size; omega) _) (fun k hk => by show k ≠ w.heap.size + 1; omega) _
theorem RSt.fin {w W : World} {k s e : Int} {m : RMid} {A : Option Addr} {c : Nat} {B1 B2 : Option Addr} {d1 d2 : Nat} (h : RSt w W #[.int .i64 k, .int .i64 s, .int .i64 e, .int .i64 m.i, .int .i64 m.t, .int .i64 m.c, .slice B1 m.L.length d1, .slice B2 m.bo.length d2] A c m.left) (v : Value) (hv : v = .bool m.is)
  (h1 : Kd.R (Kd.int .i64) 3 W w.heap.size (fun k => w.heap.size + 3 ≤ k) (.slice B1 m.L.length d1) m.L) (h2 : Kd.R (Kd.int .u8) 5 W w.heap.size (fun k => w.heap.size + 3 ≤ k) (.slice B2 m.bo.length d2) m.bo) : RestMid w k s e m v W :=
 ⟨B1, d1, B2, d2, A, c, hv, h.x2, h.x3, h.x4, h1, h2, h.hb⟩
theorem box8 {W : World} {g t : Nat} {o0 o1 o2 o3 o4 o5 o6 o7 : Value} (h : W.heap[g]? = some (.cells #[o0, o1, o2, o3, o4, o5, o6, o7] t (0, 0))) (v0 v1 v2 v3 v4 v5 v6 v7 : Value) :
  ∃ W', ((((((((W.setCell ⟨g, 0, none⟩ v0).setCell ⟨g, 1, none⟩ v1).setCell ⟨g, 2, none⟩ v2).setCell ⟨g, 3, none⟩ v3).setCell ⟨g, 4, none⟩ v4).setCell ⟨g, 5, none⟩ v5).setCell ⟨g, 6, none⟩ v6).setCell ⟨g, 7, none⟩ v7) = W' ∧
   W'.heap[g]? = some (.cells #[v0, v1, v2, v3, v4, v5, v6, v7] t (0, 0)) ∧ Mv W W' (fun k => k = g) := by
 have h0 := blk_put h 0 v0 (cs' := #[v0, o1, o2, o3, o4, o5, o6, o7]) rfl
 have h1 := blk_put h0 1 v1 (cs' := #[v0, v1, o2, o3, o4, o5, o6, o7]) rfl
 have h2 := blk_put h1 2 v2 (cs' := #[v0, v1, v2, o3, o4, o5, o6, o7]) rfl
 have h3 := blk_put h2 3 v3 (cs' := #[v0, v1, v2, v3, o4, o5, o6, o7]) rfl
 have h4 := blk_put h3 4 v4 (cs' := #[v0, v1, v2, v3, v4, o5, o6, o7]) rfl
 have h5 := blk_put h4 5 v5 (cs' := #[v0, v1, v2, v3, v4, v5, o6, o7]) rfl
 have h6 := blk_put h5 6 v6 (cs' := #[v0, v1, v2, v3, v4, v5, v6, o7]) rfl
 have h7 := blk_put h6 7 v7 (cs' := #[v0, v1, v2, v3, v4, v5, v6, v7]) rfl
 have m0 : Mv W W (fun k => k = g) := Mv.below (Below.refl _ W) _
 have m1 := m0.setCell (p := ⟨g, 0, none⟩) (Or.inl rfl) v0
 have m2 := m1.setCell (p := ⟨g, 1, none⟩) (Or.inl rfl) v1
 have m3 := m2.setCell (p := ⟨g, 2, none⟩) (Or.inl rfl) v2
 have m4 := m3.setCell (p := ⟨g, 3, none⟩) (Or.inl rfl) v3
 have m5 := m4.setCell (p := ⟨g, 4, none⟩) (Or.inl rfl) v4
 have m6 := m5.setCell (p := ⟨g, 5, none⟩) (Or.inl rfl) v5
 have m7 := m6.setCell (p := ⟨g, 6, none⟩) (Or.inl rfl) v6
 have m8 := m7.setCell (p := ⟨g, 7, none⟩) (Or.inl rfl) v7
 exact ⟨_, rfl, h7, m8⟩
def RestPost (w : World) (k s e : Int) (m : RMid) (e' : Ending) (w' : World) : Prop :=
 ∃ (B1 : Option Addr) (d1 : Nat) (B2 : Option Addr) (d2 : Nat), e' = .returned (.tuple #[.agg #[.int .i64 k, .int .i64 s, .int .i64 e, .int .i64 m.i, .int .i64 m.t, .int .i64 m.c, .slice B1 m.L.length d1, .slice B2 m.bo.length d2], .bool (m.is && (decide (m.left.length = 0) && mayB k s e m.i m.t m.c m.L m.bo.length))]) ∧
  Kd.R (Kd.int .i64) 3 w' w.heap.size (fun _ => True) (.slice B1 m.L.length d1) m.L ∧ Kd.R (Kd.int .u8) 5 w' w.heap.size (fun _ => True) (.slice B2 m.bo.length d2) m.bo ∧ Below w.heap.size w w'
set_option maxRecDepth 100000 in
set_option maxHeartbeats 4000000 in
theorem item_rest.is (k s e : Int) (A0 : Option Addr) (c0 : Nat) (l0 : List Int) (w : World) (hF : Kd.F (Kd.int .u8) w (fun k => k < w.heap.size) A0 l0.length l0) (hc0 : l0.length ≤ c0) (hb : By l0) (hl : l0.length < 10000) (hG : GB w) (h0 : 0 < w.heap.size) (hw : (Lit.int .i64 k).wf = true) :
  Calls Tryd.prog 61 #[.agg #[.int .i64 k, .int .i64 s, .int .i64 e, .int .i64 0, .int .i64 0, .int .i64 0, .slice none 0 0, .slice none 0 0], .slice A0 l0.length c0] w (RestPost w k s e (restM k l0)) := by
 have hmf : ∀ (fn : Fn) (first cap : Array Value) (w : World), (Instr.makeFunc fn first cap).run Tryd.prog w = .ok (.func fn first cap) w := fun _ _ _ _ => rfl
 go_enter Tryd.func61, Tryd.ntmps61
 go_upto_block 0 with fail
 clear hmf
 obtain ⟨W, hW, hsz, hB, X2, X3, X4⟩ := rest0 w k s e A0 l0.length c0
 rw [hW]
 clear hW
 have HS := ak (show RSt w W _ A0 c0 l0 from ⟨X2, X3, X4, Kd.V_mk hc0 (Kd.F_mono (Kd.F_below hF hB) (fun k hk => Or.inl hk)), hB, GB.below hG hB, by omega⟩)
 have HY := Lib.hid hb
 have HL := Lib.hid hl
 clear hsz hB X2 X3 X4 hF hc0 hG hb hl
 go_cut [8] (fun v8 wc => Aside0 (RestMid w k s e (restM k l0) v8 wc))
 case first =>
  by_cases k1 : k = 1
  ·
   subst k1
   rcases l0 with _ | ⟨x, l0⟩
   ·
    obtain ⟨r, hr⟩ : ∃ r, ([] : List Int).drop 1 = r := ⟨_, rfl⟩
    have HM := Lib.hid (show restM 1 [] = ⟨false, 0, 0, 0, [], r, []⟩ by rw [← hr]; rfl)
    have HLR := Lib.hid (show r.length < 10000 by rw [← hr]; decide)
    have HR := Lib.hid hr
    clear hr
    go_wp2_with fail
    refine (HS.out.one (j := 3) rfl HY.out false rfl 0 rfl r HR.out).mono ?_
    rintro e w2 ⟨A2, c2, rfl, y2, y3, hv, hm⟩
    have HS2 := ak (HS.out.mv h0 y2 y3 hv hm)
    have z3 := blk_cell y3 0
    clear hv hm y2 y3
    go_wp2_with fail
    refine (slices_Clone_byte_byte.calls A2 c2 r r w2 (Kd.F_now (Kd.V_at HS2.out.hv).2.2) (Kd.V_at HS2.out.hv).2.1 (if_pos (by unfold lim2; have := HLR.out; omega))).mono ?_
    rintro e w3 ⟨v3, rfl, hr3, hb3⟩
    obtain ⟨B3, d3, rfl⟩ := Kd.R_slice hr3
    have HS3 := ak (HS2.out.below hb3)
    have HR3 := ak hr3
    have y5 := blk_cell HS3.out.x2 7
    have y6 := blk_cell HS3.out.x3 0
    have f5 := blk_frozen HS3.out.x2 7
    have f6 := blk_frozen HS3.out.x3 0
    clear hr3 hb3
    go_wp2_with fail
    go_meet
    case rel => exact ⟨by rw [HM.out]; exact RSt.fin (m := ⟨false, 0, 0, 0, [], r, []⟩) (HS3.out.set2 h0 7 (.slice B3 r.length d3) (A' := none) (c' := 0) (r := []) (Kd.V_nil _ _ _ _ _)) _ rfl (Kd.R_nil _ _ _ _ _) (RSt.rows HS2.out.hs HR3.out)⟩
   ·
    obtain ⟨r1, hr1⟩ : ∃ r1, l0 = r1 := ⟨_, rfl⟩
    obtain ⟨x2, hx2⟩ : ∃ x2, l0.headD 0 = x2 := ⟨_, rfl⟩
    obtain ⟨r, hr⟩ : ∃ r, l0.drop 1 = r := ⟨_, rfl⟩
    obtain ⟨q, hq⟩ : ∃ q, decide (0 < l0.length) = q := ⟨_, rfl⟩
    have HM := Lib.hid (show restM 1 (x :: l0) = ⟨q, x, x2, 0, [], r, []⟩ by rw [← hq, ← hx2, ← hr]; unfold restM; rw [if_pos rfl]; simp)
    have HLR := Lib.hid (show r.length < 10000 by rw [← hr, List.length_drop]; have := HL.out; simp at this; omega)
    have HQ := Lib.hid hq
    have HX2 := Lib.hid hx2
    have HR := Lib.hid hr
    clear hr1 hx2 hr hq
    go_wp2_with fail
    refine (HS.out.one (j := 3) rfl HY.out true (by simp) x rfl l0 rfl).mono ?_
    rintro e w1 ⟨A1, c1, rfl, y2, y3, hv, hm⟩
    have HS1 := ak (HS.out.mv h0 y2 y3 hv hm)
    clear hv hm y2 y3
    go_wp2_with fail
    refine (HS1.out.one (j := 4) rfl (fun c hc => HY.out c (List.mem_cons_of_mem _ hc)) q HQ.out x2 HX2.out r HR.out).mono ?_
    rintro e w2 ⟨A2, c2, rfl, y2, y3, hv, hm⟩
    have HS2 := ak (HS1.out.mv h0 y2 y3 hv hm)
    have z3 := blk_cell y3 0
    clear hv hm y2 y3
    go_wp2_with fail
    refine (slices_Clone_byte_byte.calls A2 c2 r r w2 (Kd.F_now (Kd.V_at HS2.out.hv).2.2) (Kd.V_at HS2.out.hv).2.1 (if_pos (by unfold lim2; have := HLR.out; omega))).mono ?_
    rintro e w3 ⟨v3, rfl, hr3, hb3⟩
    obtain ⟨B3, d3, rfl⟩ := Kd.R_slice hr3
    have HS3 := ak (HS2.out.below hb3)
    have HR3 := ak hr3
    have y5 := blk_cell HS3.out.x2 7
    have y6 := blk_cell HS3.out.x3 0
    have f5 := blk_frozen HS3.out.x2 7
    have f6 := blk_frozen HS3.out.x3 0
    clear hr3 hb3
    go_wp2_with fail
    go_meet
    case rel => exact ⟨by rw [HM.out]; exact RSt.fin (m := ⟨q, x, x2, 0, [], r, []⟩) (HS3.out.set2 h0 7 (.slice B3 r.length d3) (A' := none) (c' := 0) (r := []) (Kd.V_nil _ _ _ _ _)) _ rfl (Kd.R_nil _ _ _ _ _) (RSt.rows HS2.out.hs HR3.out)⟩
  by_cases k2 : k = 2
  ·
   subst k2
   rcases l0 with _ | ⟨x, l0⟩
   ·
    obtain ⟨r, hr⟩ : ∃ r, ([] : List Int).drop 1 = r := ⟨_, rfl⟩
    have HM := Lib.hid (show restM 2 [] = ⟨false, 0, 0, 0, [], [], r⟩ by rw [← hr]; rfl)
    have HR := Lib.hid hr
    clear hr
    go_wp2_with fail
    refine (HS.out.one (j := 3) rfl HY.out false rfl 0 rfl r HR.out).mono ?_
    rintro e w2 ⟨A2, c2, rfl, y2, y3, hv, hm⟩
    have HS2 := ak (HS.out.mv h0 y2 y3 hv hm)
    clear hv hm y2 y3
    go_wp2_with fail
    go_meet
    case rel => exact ⟨by rw [HM.out]; exact RSt.fin (m := ⟨false, 0, 0, 0, [], [], r⟩) HS2.out _ rfl (Kd.R_nil _ _ _ _ _) (Kd.R_nil _ _ _ _ _)⟩
   ·
    obtain ⟨⟨L, r, q0⟩, hrow⟩ : ∃ p, rowT 1 l0 = p := ⟨_, rfl⟩
    obtain ⟨q, hq⟩ : ∃ q, (q0 == 0) = q := ⟨_, rfl⟩
    have HM := Lib.hid (show restM 2 (x :: l0) = ⟨q, x, 0, 0, L, [], r⟩ by
     unfold restM; rw [if_neg (by decide), if_pos rfl, if_pos (by simp), show (x :: l0).drop 1 = l0 from rfl, hrow]; simp [hq])
    have HROW := Lib.hid hrow
    have HQ := Lib.hid hq
    clear hrow hq
    go_wp2_with fail
    refine (HS.out.one (j := 3) rfl HY.out true (by simp) x rfl l0 rfl).mono ?_
    rintro e w1 ⟨A1, c1, rfl, y2, y3, hv, hm⟩
    have HS1 := ak (HS.out.mv h0 y2 y3 hv hm)
    clear hv hm y2 y3
    go_wp2_with fail
    refine (HS1.out.row1 rfl (fun c hc => HY.out c (List.mem_cons_of_mem _ hc)) (by have := HL.out; simp at this; omega) HROW.out q HQ.out).mono ?_
    rintro e w2 ⟨B1, d1, ⟨A2, c2, rfl, y2, y3, hv, hm⟩, hr1⟩
    have HS2 := ak (HS1.out.mv h0 y2 y3 hv hm)
    have HR1 := ak hr1
    clear hv hm y2 y3 hr1
    go_wp2_with fail
    go_meet
    case rel => exact ⟨by rw [HM.out]; exact RSt.fin (m := ⟨q, x, 0, 0, L, [], r⟩) HS2.out _ rfl (Kd.R_lower (Kd.R_mono HR1.out (fun k hk => Nat.le_trans HS1.out.hs hk)) HS1.out.hb.size) (Kd.R_nil _ _ _ _ _)⟩
  by_cases k4 : k = 4
  ·
   subst k4
   obtain ⟨x, hx⟩ : ∃ x, l0.headD 0 = x := ⟨_, rfl⟩
   obtain ⟨r, hr⟩ : ∃ r, l0.drop 1 = r := ⟨_, rfl⟩
   obtain ⟨q, hq⟩ : ∃ q, decide (0 < l0.length) = q := ⟨_, rfl⟩
   have HM := Lib.hid (show restM 4 l0 = ⟨q, x, 0, 0, [], [], r⟩ by
    unfold restM; rw [if_neg (by decide), if_neg (by decide), if_pos rfl, hx, hr, hq])
   have HX := Lib.hid hx
   have HR := Lib.hid hr
   have HQ := Lib.hid hq
   clear hx hr hq
   go_wp2_with fail
   refine (HS.out.one (j := 3) rfl HY.out q HQ.out x HX.out r HR.out).mono ?_
   rintro e w2 ⟨A2, c2, rfl, y2, y3, hv, hm⟩
   have HS2 := ak (HS.out.mv h0 y2 y3 hv hm)
   clear hv hm y2 y3
   go_wp2_with fail
   go_meet
   case rel => exact ⟨by rw [HM.out]; exact RSt.fin (m := ⟨q, x, 0, 0, [], [], r⟩) HS2.out _ rfl (Kd.R_nil _ _ _ _ _) (Kd.R_nil _ _ _ _ _)⟩
  by_cases k5 : k = 5
  ·
   subst k5
   have ht := take8_is l0
   have hm0 : restM 5 l0 = ⟨((num_Take.f l0 8).getD (0, [], 1)).2.2 == 0, 0, 0, ((num_Take.f l0 8).getD (0, [], 1)).1, [], [], ((num_Take.f l0 8).getD (0, [], 1)).2.1⟩ := by
    unfold restM; rw [if_neg (by decide), if_neg (by decide), if_neg (by decide), if_pos rfl]
   generalize (num_Take.f l0 8).getD (0, [], 1) = p at *
   obtain ⟨n, r, q0⟩ := p
   obtain ⟨q, hq⟩ : ∃ q, (q0 == 0) = q := ⟨_, rfl⟩
   rw [hq] at hm0
   have HM := Lib.hid hm0
   have HT := Lib.hid ht
   clear hm0 ht
   have z3 := blk_cell HS.out.x3 0
   go_wp2_with fail
   refine (num_Take.calls (Qr w) A0 c0 l0 8 n r q0 W HS.out.hv HS.out.hG HT.out).mono ?_
   rintro e w2 ⟨v1, rfl, hv, hb⟩
   obtain ⟨A1, c1, rfl, hl1, hF1⟩ := hv
   have HS2 := ak (HS.out.below hb)
   have HV := ak (Kd.V_mk (e := 5) (base := w2.heap.size) hl1 (Kd.F_mono hF1 (fun k hk => hk.elim id (HS.out.q k))))
   have y5 := blk_cell HS2.out.x2 5
   have y6 := blk_cell HS2.out.x3 0
   have f5 := blk_frozen HS2.out.x2 5
   have f6 := blk_frozen HS2.out.x3 0
   clear hb hF1 hl1
   go_wp2_with fail
   go_meet
   case rel => exact ⟨by rw [HM.out]; exact RSt.fin (m := ⟨q, 0, 0, n, [], [], r⟩) (HS2.out.set2 h0 5 (.int .i64 n) HV.out) _ rfl (Kd.R_nil _ _ _ _ _) (Kd.R_nil _ _ _ _ _)⟩
  by_cases k6 : k = 6
  ·
   subst k6
   obtain ⟨⟨L, r, q0⟩, hrow⟩ : ∃ p, rowT 8 l0 = p := ⟨_, rfl⟩
   obtain ⟨q, hq⟩ : ∃ q, (q0 == 0) = q := ⟨_, rfl⟩
   have HM := Lib.hid (show restM 6 l0 = ⟨q, 0, 0, 0, L, [], r⟩ by
    unfold restM; rw [if_neg (by decide), if_neg (by decide), if_neg (by decide), if_neg (by decide), if_pos rfl, hrow]; simp [hq])
   have HROW := Lib.hid hrow
   have HQ := Lib.hid hq
   clear hrow hq
   go_wp2_with fail
   refine (HS.out.row8 rfl HY.out HL.out HROW.out q HQ.out).mono ?_
   rintro e w2 ⟨B1, d1, ⟨A2, c2, rfl, y2, y3, hv, hm⟩, hr1⟩
   have HS2 := ak (HS.out.mv h0 y2 y3 hv hm)
   have HR1 := ak hr1
   clear hv hm y2 y3 hr1
   go_wp2_with fail
   go_meet
   case rel => exact ⟨by rw [HM.out]; exact RSt.fin (m := ⟨q, 0, 0, 0, L, [], r⟩) HS2.out _ rfl (Kd.R_lower (Kd.R_mono HR1.out (fun k hk => Nat.le_trans HS.out.hs hk)) HS.out.hb.size) (Kd.R_nil _ _ _ _ _)⟩
  have HM := Lib.hid (show restM k l0 = ⟨true, 0, 0, 0, [], [], l0⟩ by unfold restM; rw [if_neg k1, if_neg k2, if_neg k4, if_neg k5, if_neg k6])
  have b1 : (k == 1) = false := beq_eq_false_iff_ne.2 k1
  have b2 : (k == 2) = false := beq_eq_false_iff_ne.2 k2
  have b4 : (k == 4) = false := beq_eq_false_iff_ne.2 k4
  have b5 : (k == 5) = false := beq_eq_false_iff_ne.2 k5
  have b6 : (k == 6) = false := beq_eq_false_iff_ne.2 k6
  clear k1 k2 k4 k5 k6
  go_wp2_with fail
  go_meet
  case rel => exact ⟨by rw [HM.out]; exact RSt.fin (m := ⟨true, 0, 0, 0, [], [], l0⟩) HS.out _ rfl (Kd.R_nil _ _ _ _ _) (Kd.R_nil _ _ _ _ _)⟩
 case rest =>
  obtain ⟨B1, d1, B2, d2, B3, d3, rfl, y2, y3, y4, hr1, hr2, hb⟩ := hcut.out
  clear hcut HS HY HL
  generalize restM k l0 = m at *
  obtain ⟨is, i, t, c, L, bo, left⟩ := m
  dsimp only at y2 y3 y4 hr1 hr2 hb ⊢
  have HB := ak hb
  have Y2 := ak y2
  have Y3 := ak y3
  have Y4 := ak y4
  have HR1 := ak hr1
  have HR2 := ak hr2
  clear hb hr1 hr2 y2 y3 y4
  cases is
  ·
   go_wp2_with fail
   refine start_ (n := 13) (S := fun w' => w'.cell? ⟨w.heap.size, 0, none⟩ = some (.int .i64 k) ∧ w'.cell? ⟨w.heap.size, 1, none⟩ = some (.int .i64 s) ∧ w'.cell? ⟨w.heap.size, 2, none⟩ = some (.int .i64 e) ∧ w'.cell? ⟨w.heap.size, 3, none⟩ = some (.int .i64 i) ∧ w'.cell? ⟨w.heap.size, 4, none⟩ = some (.int .i64 t) ∧ w'.cell? ⟨w.heap.size, 5, none⟩ = some (.int .i64 c) ∧ w'.cell? ⟨w.heap.size, 6, none⟩ = some (.slice B1 L.length d1) ∧ w'.cell? ⟨w.heap.size, 7, none⟩ = some (.slice B2 bo.length d2) ∧ w'.cell? ⟨w.heap.size + 1, 0, none⟩ = some (.slice B3 left.length d3)) (ds := [11]) #[false, false, false, false, false, false, false, false, false, false, false, false, false] (by kernel_rfl) rfl rfl ⟨(blk_cell (blk_drew Y2.out) 0).trans rfl, (blk_cell (blk_drew Y2.out) 1).trans rfl, (blk_cell (blk_drew Y2.out) 2).trans rfl, (blk_cell (blk_drew Y2.out) 3).trans rfl, (blk_cell (blk_drew Y2.out) 4).trans rfl, (blk_cell (blk_drew Y2.out) 5).trans rfl, (blk_cell (blk_drew Y2.out) 6).trans rfl, (blk_cell (blk_drew Y2.out) 7).trans rfl, (blk_cell (blk_drew Y3.out) 0).trans rfl⟩ (fun hHeld => ?_)
   refine pure_ (i := 1) (N := some 61) (v := ?_) (a' := ?_) #[false, true, false, false, false, false, false, false, false, false, false, false, false] rfl rfl (by kernel_rfl) (fun _ _ _ h => h) (Or.inl ⟨by rfl, ?_⟩) ?_ ?_
   rotate_left
   ·
    intro w'
    go_simp
    with_reducible rfl
   rotate_left
   ·
    simp only [Act.put, sq1, sq2, sq3, i64_w, i32_w]
    rfl
   refine pure_ (i := 2) (N := some 62) (v := ?_) (a' := ?_) #[false, true, true, false, false, false, false, false, false, false, false, false, false] rfl rfl (by kernel_rfl) (fun _ _ _ h => h) (Or.inl ⟨by rfl, ?_⟩) ?_ ?_
   rotate_left
   ·
    intro w'
    go_simp
    with_reducible rfl
   rotate_left
   ·
    simp only [Act.put, sq1, sq2, sq3, i64_w, i32_w]
    rfl
   refine pure_ (i := 3) (N := some 63) (v := undef) (a' := ?_) #[false, true, true, true, false, false, false, false, false, false, false, false, false] rfl rfl (by kernel_rfl) (fun _ _ _ h => h) (Or.inr ⟨by rfl, rfl⟩) ?_ ?_
   rotate_left
   ·
    simp only [Act.put, sq1, sq2, sq3, i64_w, i32_w]
    rfl
   refine pure_ (i := 4) (N := some 64) (v := undef) (a' := ?_) #[false, true, true, true, true, false, false, false, false, false, false, false, false] rfl rfl (by kernel_rfl) (fun _ _ _ h => h) (Or.inr ⟨by rfl, rfl⟩) ?_ ?_
   rotate_left
   ·
    simp only [Act.put, sq1, sq2, sq3, i64_w, i32_w]
    rfl
   refine pure_ (i := 5) (N := some 65) (v := undef) (a' := ?_) #[false, true, true, true, true, true, false, false, false, false, false, false, false] rfl rfl (by kernel_rfl) (fun _ _ _ h => h) (Or.inr ⟨by rfl, rfl⟩) ?_ ?_
   rotate_left
   ·
    simp only [Act.put, sq1, sq2, sq3, i64_w, i32_w]
    rfl
   refine pure_ (i := 6) (N := some 66) (v := ?_) (a' := ?_) #[false, true, true, true, true, true, true, false, false, false, false, false, false] rfl rfl (by kernel_rfl) (fun _ _ _ h => h) (Or.inl ⟨by rfl, ?_⟩) ?_ ?_
   rotate_left
   ·
    intro w'
    go_simp
    with_reducible rfl
   rotate_left
   ·
    simp only [Act.put, sq1, sq2, sq3, i64_w, i32_w]
    rfl
   refine pure_ (i := 7) (N := some 67) (v := ?_) (a' := ?_) #[false, true, true, true, true, true, true, true, false, false, false, false, false] rfl rfl (by kernel_rfl) (fun _ _ _ h => h) (Or.inl ⟨by rfl, ?_⟩) ?_ ?_
   rotate_left
   ·
    intro w'
    go_simp
    with_reducible rfl
   rotate_left
   ·
    simp only [Act.put, sq1, sq2, sq3, i64_w, i32_w]
    rfl
   refine pure_ (i := 8) (N := some 68) (v := undef) (a' := ?_) #[false, true, true, true, true, true, true, true, true, false, false, false, false] rfl rfl (by kernel_rfl) (fun _ _ _ h => h) (Or.inr ⟨by rfl, rfl⟩) ?_ ?_
   rotate_left
   ·
    simp only [Act.put, sq1, sq2, sq3, i64_w, i32_w]
    rfl
   refine pure_ (i := 9) (N := some 69) (v := undef) (a' := ?_) #[false, true, true, true, true, true, true, true, true, true, false, false, false] rfl rfl (by kernel_rfl) (fun _ _ _ h => h) (Or.inr ⟨by rfl, rfl⟩) ?_ ?_
   rotate_left
   ·
    simp only [Act.put, sq1, sq2, sq3, i64_w, i32_w]
    rfl
   refine pure_ (i := 10) (N := some 70) (v := ?_) (a' := ?_) #[false, true, true, true, true, true, true, true, true, true, true, false, false] rfl rfl (by kernel_rfl) (fun _ _ _ h => h) (Or.inl ⟨by rfl, ?_⟩) ?_ ?_
   rotate_left
   ·
    intro w'
    go_simp
    with_reducible rfl
   rotate_left
   ·
    simp only [Act.put, sq1, sq2, sq3, i64_w, i32_w]
    rfl
   refine take_ (i := 0) (N := some 60) (v := ?_) (a' := ?_) #[true, true, true, true, true, true, true, true, true, true, true, false, false] rfl rfl (by kernel_rfl) (fun _ _ _ h => h) (Or.inl ⟨by rfl, ?_⟩) hHeld ?_ ?_
   rotate_left
   ·
    rintro w' ⟨s0, s1, s2, s3, s4, s5, s6, s7, s8⟩
    go_simp
    with_reducible rfl
   rotate_left
   ·
    simp only [Act.put, sq1, sq2, sq3, i64_w, i32_w]
    rfl
   refine last_ (i := 11) (N := none) #[true, true, true, true, true, true, true, true, true, true, true, true, false] rfl rfl (by kernel_rfl) (by decide) (fun K hK => ?_)
   have q0 := (blk_cell (Y4.out) 0).trans (show _ = some (Value.int .i64 0) from rfl)
   have q1 := (blk_cell (Y4.out) 1).trans (show _ = some (Value.int .i64 0) from rfl)
   have q2 := (blk_cell (Y4.out) 2).trans (show _ = some (Value.int .i64 0) from rfl)
   have q3 := (blk_cell (Y4.out) 3).trans (show _ = some (Value.int .i64 0) from rfl)
   have q4 := (blk_cell (Y4.out) 4).trans (show _ = some (Value.int .i64 0) from rfl)
   have q5 := (blk_cell (Y4.out) 5).trans (show _ = some (Value.int .i64 0) from rfl)
   have q6 := (blk_cell (Y4.out) 6).trans (show _ = some (Value.slice none 0 0) from rfl)
   have q7 := (blk_cell (Y4.out) 7).trans (show _ = some (Value.slice none 0 0) from rfl)
   have r0 := blk_frozen (Y4.out) 0
   have r1 := blk_frozen (Y4.out) 1
   have r2 := blk_frozen (Y4.out) 2
   have r3 := blk_frozen (Y4.out) 3
   have r4 := blk_frozen (Y4.out) 4
   have r5 := blk_frozen (Y4.out) 5
   have r6 := blk_frozen (Y4.out) 6
   have r7 := blk_frozen (Y4.out) 7
   refine skip_ (w1 := ?_) (by rfl) rfl ?_ ?_
   rotate_left
   ·
    go_simp
    rfl
   clear q0 q1 q2 q3 q4 q5 q6 q7 r0 r1 r2 r3 r4 r5 r6 r7
   refine hK.out _ _ ?_
   clear hK K
   refine pure_ (i := 12) (N := some 5) (v := ?_) (a' := ?_) #[true, true, true, true, true, true, true, true, true, true, true, true, true] rfl rfl (by kernel_rfl) (fun _ _ _ h => h) (Or.inl ⟨by rfl, ?_⟩) ?_ ?_
   rotate_left
   ·
    intro w'
    go_simp
    with_reducible rfl
   rotate_left
   ·
    simp only [Act.put, sq1, sq2, sq3, i64_w, i32_w]
    rfl
   refine done_ (by kernel_rfl) ?_
   clear hHeld
   obtain ⟨W', hW', z4, hmv⟩ := box8 (Y4.out) (.int .i64 k) (.int .i64 s) (.int .i64 e) (.int .i64 i) (.int .i64 t) (.int .i64 c) (.slice B1 L.length d1) (.slice B2 bo.length d2)
   rw [hW']
   clear hW'
   have hB' : Below w.heap.size w W' := Mv.to HB.out hmv (fun k hk => by omega) HB.out.size
   have c0 := (blk_cell z4 0).trans (show _ = some (Value.int .i64 k) from rfl)
   have c1 := (blk_cell z4 1).trans (show _ = some (Value.int .i64 s) from rfl)
   have c2 := (blk_cell z4 2).trans (show _ = some (Value.int .i64 e) from rfl)
   have c3 := (blk_cell z4 3).trans (show _ = some (Value.int .i64 i) from rfl)
   have c4 := (blk_cell z4 4).trans (show _ = some (Value.int .i64 t) from rfl)
   have c5 := (blk_cell z4 5).trans (show _ = some (Value.int .i64 c) from rfl)
   have c6 := (blk_cell z4 6).trans (show _ = some (Value.slice B1 L.length d1) from rfl)
   have c7 := (blk_cell z4 7).trans (show _ = some (Value.slice B2 bo.length d2) from rfl)
   go_wp2_with fail
   refine bodyPost_ret (v := .tuple #[.agg #[.int .i64 k, .int .i64 s, .int .i64 e, .int .i64 i, .int .i64 t, .int .i64 c, .slice B1 L.length d1, .slice B2 bo.length d2], .bool false]) (by simp [results, Tryd.results61, go_sem, c0, c1, c2, c3, c4, c5, c6, c7]) rfl ⟨B1, d1, B2, d2, by rw [Bool.false_and], Kd.R_mono (Kd.R_drew (Kd.R_kept HR1.out hmv.kept (fun k hk he => by omega))) (fun _ _ => trivial), Kd.R_mono (Kd.R_drew (Kd.R_kept HR2.out hmv.kept (fun k hk he => by omega))) (fun _ _ => trivial), below_drew1 hB'⟩
  ·
   by_cases hl : left.length = 0
   ·
    have HL0 := Lib.hid hl
    have hd1 : ((left.length : Int) == 0) = true := by rw [hl]; rfl
    have hd2 : (left.length == 0) = true := by rw [hl]; rfl
    have hr1 := (Kd.R_reads' HR1.out).2.2
    have hr2 := (Kd.R_reads' HR2.out).2.2
    have HMAY := Lib.hid (fun (r : Bool) (h : item_May.f k s e i t c L bo = some r) => item_May.calls k s e i t c B1 d1 L B2 d2 bo r wc.drew (Kd.C_drew hr1) (Kd.R_reads' HR1.out).2.1 (Kd.C_drew hr2) (Kd.R_reads' HR2.out).2.1 h)
    obtain ⟨q, hq⟩ : ∃ q, mayB k s e i t c L bo.length = q := ⟨_, rfl⟩
    have HMY := Lib.hid (show item_May.f k s e i t c L bo = some q by unfold item_May.f; rw [if_pos hw, hq])
    have HQ := Lib.hid hq
    clear hq
    clear hr1 hr2 hl hw
    go_wp2_with fail
    refine start_ (n := 13) (S := fun w' => w'.cell? ⟨w.heap.size, 0, none⟩ = some (.int .i64 k) ∧ w'.cell? ⟨w.heap.size, 1, none⟩ = some (.int .i64 s) ∧ w'.cell? ⟨w.heap.size, 2, none⟩ = some (.int .i64 e) ∧ w'.cell? ⟨w.heap.size, 3, none⟩ = some (.int .i64 i) ∧ w'.cell? ⟨w.heap.size, 4, none⟩ = some (.int .i64 t) ∧ w'.cell? ⟨w.heap.size, 5, none⟩ = some (.int .i64 c) ∧ w'.cell? ⟨w.heap.size, 6, none⟩ = some (.slice B1 L.length d1) ∧ w'.cell? ⟨w.heap.size, 7, none⟩ = some (.slice B2 bo.length d2) ∧ w'.cell? ⟨w.heap.size + 1, 0, none⟩ = some (.slice B3 left.length d3)) (ds := [11]) #[false, false, false, false, false, false, false, false, false, false, false, false, false] (by kernel_rfl) rfl rfl ⟨(blk_cell (blk_drew Y2.out) 0).trans rfl, (blk_cell (blk_drew Y2.out) 1).trans rfl, (blk_cell (blk_drew Y2.out) 2).trans rfl, (blk_cell (blk_drew Y2.out) 3).trans rfl, (blk_cell (blk_drew Y2.out) 4).trans rfl, (blk_cell (blk_drew Y2.out) 5).trans rfl, (blk_cell (blk_drew Y2.out) 6).trans rfl, (blk_cell (blk_drew Y2.out) 7).trans rfl, (blk_cell (blk_drew Y3.out) 0).trans rfl⟩ (fun hHeld => ?_)
    refine pure_ (i := 1) (N := some 61) (v := ?_) (a' := ?_) #[false, true, false, false, false, false, false, false, false, false, false, false, false] rfl rfl (by kernel_rfl) (fun _ _ _ h => h) (Or.inl ⟨by rfl, ?_⟩) ?_ ?_
    rotate_left
    ·
     intro w'
     go_simp
     with_reducible rfl
    rotate_left
    ·
     simp only [Act.put, sq1, sq2, sq3, i64_w, i32_w]
     rfl
    refine pure_ (i := 2) (N := some 62) (v := ?_) (a' := ?_) #[false, true, true, false, false, false, false, false, false, false, false, false, false] rfl rfl (by kernel_rfl) (fun _ _ _ h => h) (Or.inl ⟨by rfl, ?_⟩) ?_ ?_
    rotate_left
    ·
     intro w'
     go_simp
     with_reducible rfl
    rotate_left
    ·
     simp only [Act.put, sq1, sq2, sq3, i64_w, i32_w]
     rfl
    refine take_ (i := 0) (N := some 60) (v := ?_) (a' := ?_) #[true, true, true, false, false, false, false, false, false, false, false, false, false] rfl rfl (by kernel_rfl) (fun _ _ _ h => h) (Or.inl ⟨by rfl, ?_⟩) hHeld ?_ ?_
    rotate_left
    ·
     rintro w' ⟨s0, s1, s2, s3, s4, s5, s6, s7, s8⟩
     go_simp
     with_reducible rfl
    rotate_left
    ·
     simp only [Act.put, sq1, sq2, sq3, i64_w, i32_w]
     rfl
    refine take_ (i := 3) (N := some 63) (v := ?_) (a' := ?_) #[true, true, true, true, false, false, false, false, false, false, false, false, false] rfl rfl (by kernel_rfl) (fun _ _ _ h => h) (Or.inl ⟨by rfl, ?_⟩) hHeld ?_ ?_
    rotate_left
    ·
     rintro w' ⟨s0, s1, s2, s3, s4, s5, s6, s7, s8⟩
     go_simp
     with_reducible rfl
    rotate_left
    ·
     simp only [Act.put, sq1, sq2, sq3, i64_w, i32_w]
     rfl
    refine pure_ (i := 4) (N := some 64) (v := ?_) (a' := ?_) #[true, true, true, true, true, false, false, false, false, false, false, false, false] rfl rfl (by kernel_rfl) (fun _ _ _ h => h) (Or.inl ⟨by rfl, ?_⟩) ?_ ?_
    rotate_left
    ·
     intro w'
     go_simp
     with_reducible rfl
    rotate_left
    ·
     simp only [Act.put, sq1, sq2, sq3, i64_w, i32_w]
     rfl
    refine pure_ (i := 5) (N := some 65) (v := ?_) (a' := ?_) #[true, true, true, true, true, true, false, false, false, false, false, false, false] rfl rfl (by kernel_rfl) (fun _ _ _ h => h) (Or.inl ⟨by rfl, ?_⟩) ?_ ?_
    rotate_left
    ·
     intro w'
     go_simp
     with_reducible rfl
    rotate_left
    ·
     simp only [Act.put, sq1, sq2, sq3, i64_w, i32_w]
     rfl
    refine pure_ (i := 6) (N := some 66) (v := ?_) (a' := ?_) #[true, true, true, true, true, true, true, false, false, false, false, false, false] rfl rfl (by kernel_rfl) (fun _ _ _ h => h) (Or.inl ⟨by rfl, ?_⟩) ?_ ?_
    rotate_left
    ·
     intro w'
     go_simp
     with_reducible rfl
    rotate_left
    ·
     simp only [Act.put, sq1, sq2, sq3, i64_w, i32_w]
     rfl
    refine pure_ (i := 7) (N := some 67) (v := ?_) (a' := ?_) #[true, true, true, true, true, true, true, true, false, false, false, false, false] rfl rfl (by kernel_rfl) (fun _ _ _ h => h) (Or.inl ⟨by rfl, ?_⟩) ?_ ?_
    rotate_left
    ·
     intro w'
     go_simp
     with_reducible rfl
    rotate_left
    ·
     simp only [Act.put, sq1, sq2, sq3, i64_w, i32_w]
     rfl
    refine take_ (i := 8) (N := some 68) (v := ?_) (a' := ?_) #[true, true, true, true, true, true, true, true, true, false, false, false, false] rfl rfl (by kernel_rfl) (fun _ _ _ h => h) (Or.inl ⟨by rfl, ?_⟩) hHeld ?_ ?_
    rotate_left
    ·
     rintro w' ⟨s0, s1, s2, s3, s4, s5, s6, s7, s8⟩
     go_simp
     with_reducible rfl
    rotate_left
    ·
     simp only [Act.put, sq1, sq2, sq3, i64_w, i32_w]
     rfl
    refine one_ (i := 9) (N := some 69) #[true, true, true, true, true, true, true, true, true, true, false, false, false] rfl rfl (by kernel_rfl) (by decide) (fun K hK => ?_)
    refine goes_ Tryd.func30 (by kernel_rfl) rfl #[.agg #[.int .i64 k, .int .i64 s, .int .i64 e, .int .i64 i, .int .i64 t, .int .i64 c, .slice B1 L.length d1, .slice B2 bo.length d2]] (by rfl) rfl rfl (by simp only [List.map_toArray, List.map_cons, List.map_nil]; rfl) ?_
    with_reducible refine (HMAY.out _ HMY.out).mono ?_
    rintro e0 w1 ⟨rfl, hbw⟩
    refine ⟨_, rfl, ?_⟩
    have HBw := ak hbw
    clear hbw
    refine hK.out _ _ ⟨pw_cell_below HBw.out ((blk_cell (blk_drew Y2.out) 0).trans rfl), pw_cell_below HBw.out ((blk_cell (blk_drew Y2.out) 1).trans rfl), pw_cell_below HBw.out ((blk_cell (blk_drew Y2.out) 2).trans rfl), pw_cell_below HBw.out ((blk_cell (blk_drew Y2.out) 3).trans rfl), pw_cell_below HBw.out ((blk_cell (blk_drew Y2.out) 4).trans rfl), pw_cell_below HBw.out ((blk_cell (blk_drew Y2.out) 5).trans rfl), pw_cell_below HBw.out ((blk_cell (blk_drew Y2.out) 6).trans rfl), pw_cell_below HBw.out ((blk_cell (blk_drew Y2.out) 7).trans rfl), pw_cell_below HBw.out ((blk_cell (blk_drew Y3.out) 0).trans rfl)⟩ (fun hHeld => ?_)
    clear hK K
    refine norm_ (a' := ?_) ?_ ?_
    rotate_left
    ·
     show Act.put _ (some 69) _ = _
     simp only [Act.put, sq1, sq2, sq3, i64_w, i32_w]
     rfl
    refine pure_ (i := 10) (N := some 70) (v := ?_) (a' := ?_) #[true, true, true, true, true, true, true, true, true, true, true, false, false] rfl rfl (by kernel_rfl) (fun _ _ _ h => h) (Or.inl ⟨by rfl, ?_⟩) ?_ ?_
    rotate_left
    ·
     intro w'
     go_simp
     with_reducible rfl
    rotate_left
    ·
     simp only [Act.put, sq1, sq2, sq3, i64_w, i32_w]
     rfl
    refine last_ (i := 11) (N := none) #[true, true, true, true, true, true, true, true, true, true, true, true, false] rfl rfl (by kernel_rfl) (by decide) (fun K hK => ?_)
    have q0 := (blk_cell (blk_below (blk_drew Y4.out) HBw.out) 0).trans (show _ = some (Value.int .i64 0) from rfl)
    have q1 := (blk_cell (blk_below (blk_drew Y4.out) HBw.out) 1).trans (show _ = some (Value.int .i64 0) from rfl)
    have q2 := (blk_cell (blk_below (blk_drew Y4.out) HBw.out) 2).trans (show _ = some (Value.int .i64 0) from rfl)
    have q3 := (blk_cell (blk_below (blk_drew Y4.out) HBw.out) 3).trans (show _ = some (Value.int .i64 0) from rfl)
    have q4 := (blk_cell (blk_below (blk_drew Y4.out) HBw.out) 4).trans (show _ = some (Value.int .i64 0) from rfl)
    have q5 := (blk_cell (blk_below (blk_drew Y4.out) HBw.out) 5).trans (show _ = some (Value.int .i64 0) from rfl)
    have q6 := (blk_cell (blk_below (blk_drew Y4.out) HBw.out) 6).trans (show _ = some (Value.slice none 0 0) from rfl)
    have q7 := (blk_cell (blk_below (blk_drew Y4.out) HBw.out) 7).trans (show _ = some (Value.slice none 0 0) from rfl)
    have r0 := blk_frozen (blk_below (blk_drew Y4.out) HBw.out) 0
    have r1 := blk_frozen (blk_below (blk_drew Y4.out) HBw.out) 1
    have r2 := blk_frozen (blk_below (blk_drew Y4.out) HBw.out) 2
    have r3 := blk_frozen (blk_below (blk_drew Y4.out) HBw.out) 3
    have r4 := blk_frozen (blk_below (blk_drew Y4.out) HBw.out) 4
    have r5 := blk_frozen (blk_below (blk_drew Y4.out) HBw.out) 5
    have r6 := blk_frozen (blk_below (blk_drew Y4.out) HBw.out) 6
    have r7 := blk_frozen (blk_below (blk_drew Y4.out) HBw.out) 7
    refine skip_ (w1 := ?_) (by rfl) rfl ?_ ?_
    rotate_left
    ·
     go_simp
     rfl
    clear q0 q1 q2 q3 q4 q5 q6 q7 r0 r1 r2 r3 r4 r5 r6 r7
    refine hK.out _ _ ?_
    clear hK K
    refine pure_ (i := 12) (N := some 5) (v := ?_) (a' := ?_) #[true, true, true, true, true, true, true, true, true, true, true, true, true] rfl rfl (by kernel_rfl) (fun _ _ _ h => h) (Or.inl ⟨by rfl, ?_⟩) ?_ ?_
    rotate_left
    ·
     intro w'
     go_simp
     with_reducible rfl
    rotate_left
    ·
     simp only [Act.put, sq1, sq2, sq3, i64_w, i32_w]
     rfl
    refine done_ (by kernel_rfl) ?_
    clear hHeld
    obtain ⟨W', hW', z4, hmv⟩ := box8 (blk_below (blk_drew Y4.out) HBw.out) (.int .i64 k) (.int .i64 s) (.int .i64 e) (.int .i64 i) (.int .i64 t) (.int .i64 c) (.slice B1 L.length d1) (.slice B2 bo.length d2)
    rw [hW']
    clear hW'
    have hB' : Below w.heap.size w W' := Mv.to (below_step (below_drew1 HB.out) HBw.out) hmv (fun k hk => by omega) (Nat.le_trans HB.out.size HBw.out.size)
    have c0 := (blk_cell z4 0).trans (show _ = some (Value.int .i64 k) from rfl)
    have c1 := (blk_cell z4 1).trans (show _ = some (Value.int .i64 s) from rfl)
    have c2 := (blk_cell z4 2).trans (show _ = some (Value.int .i64 e) from rfl)
    have c3 := (blk_cell z4 3).trans (show _ = some (Value.int .i64 i) from rfl)
    have c4 := (blk_cell z4 4).trans (show _ = some (Value.int .i64 t) from rfl)
    have c5 := (blk_cell z4 5).trans (show _ = some (Value.int .i64 c) from rfl)
    have c6 := (blk_cell z4 6).trans (show _ = some (Value.slice B1 L.length d1) from rfl)
    have c7 := (blk_cell z4 7).trans (show _ = some (Value.slice B2 bo.length d2) from rfl)
    go_wp2_with fail
    refine bodyPost_ret (v := .tuple #[.agg #[.int .i64 k, .int .i64 s, .int .i64 e, .int .i64 i, .int .i64 t, .int .i64 c, .slice B1 L.length d1, .slice B2 bo.length d2], .bool q]) (by simp [results, Tryd.results61, go_sem, c0, c1, c2, c3, c4, c5, c6, c7]) rfl ⟨B1, d1, B2, d2, by rw [Bool.true_and, show decide (left.length = 0) = true from decide_eq_true HL0.out, Bool.true_and, HQ.out], Kd.R_mono (Kd.R_kept (Kd.R_below HR1.out (below_step (below_drew1 (Below.refl _ _)) HBw.out)) hmv.kept (fun k hk he => by omega)) (fun _ _ => trivial), Kd.R_mono (Kd.R_kept (Kd.R_below HR2.out (below_step (below_drew1 (Below.refl _ _)) HBw.out)) hmv.kept (fun k hk he => by omega)) (fun _ _ => trivial), hB'⟩
   ·
    have hd1 : ((left.length : Int) == 0) = false := beq_eq_false_iff_ne.2 (by omega)
    have hd2 : (left.length == 0) = false := beq_eq_false_iff_ne.2 hl
    go_wp2_with fail
    refine start_ (n := 13) (S := fun w' => w'.cell? ⟨w.heap.size, 0, none⟩ = some (.int .i64 k) ∧ w'.cell? ⟨w.heap.size, 1, none⟩ = some (.int .i64 s) ∧ w'.cell? ⟨w.heap.size, 2, none⟩ = some (.int .i64 e) ∧ w'.cell? ⟨w.heap.size, 3, none⟩ = some (.int .i64 i) ∧ w'.cell? ⟨w.heap.size, 4, none⟩ = some (.int .i64 t) ∧ w'.cell? ⟨w.heap.size, 5, none⟩ = some (.int .i64 c) ∧ w'.cell? ⟨w.heap.size, 6, none⟩ = some (.slice B1 L.length d1) ∧ w'.cell? ⟨w.heap.size, 7, none⟩ = some (.slice B2 bo.length d2) ∧ w'.cell? ⟨w.heap.size + 1, 0, none⟩ = some (.slice B3 left.length d3)) (ds := [11]) #[false, false, false, false, false, false, false, false, false, false, false, false, false] (by kernel_rfl) rfl rfl ⟨(blk_cell (blk_drew Y2.out) 0).trans rfl, (blk_cell (blk_drew Y2.out) 1).trans rfl, (blk_cell (blk_drew Y2.out) 2).trans rfl, (blk_cell (blk_drew Y2.out) 3).trans rfl, (blk_cell (blk_drew Y2.out) 4).trans rfl, (blk_cell (blk_drew Y2.out) 5).trans rfl, (blk_cell (blk_drew Y2.out) 6).trans rfl, (blk_cell (blk_drew Y2.out) 7).trans rfl, (blk_cell (blk_drew Y3.out) 0).trans rfl⟩ (fun hHeld => ?_)
    refine pure_ (i := 1) (N := some 61) (v := ?_) (a' := ?_) #[false, true, false, false, false, false, false, false, false, false, false, false, false] rfl rfl (by kernel_rfl) (fun _ _ _ h => h) (Or.inl ⟨by rfl, ?_⟩) ?_ ?_
    rotate_left
    ·
     intro w'
     go_simp
     with_reducible rfl
    rotate_left
    ·
     simp only [Act.put, sq1, sq2, sq3, i64_w, i32_w]
     rfl
    refine pure_ (i := 2) (N := some 62) (v := ?_) (a' := ?_) #[false, true, true, false, false, false, false, false, false, false, false, false, false] rfl rfl (by kernel_rfl) (fun _ _ _ h => h) (Or.inl ⟨by rfl, ?_⟩) ?_ ?_
    rotate_left
    ·
     intro w'
     go_simp
     with_reducible rfl
    rotate_left
    ·
     simp only [Act.put, sq1, sq2, sq3, i64_w, i32_w]
     rfl
    refine take_ (i := 0) (N := some 60) (v := ?_) (a' := ?_) #[true, true, true, false, false, false, false, false, false, false, false, false, false] rfl rfl (by kernel_rfl) (fun _ _ _ h => h) (Or.inl ⟨by rfl, ?_⟩) hHeld ?_ ?_
    rotate_left
    ·
     rintro w' ⟨s0, s1, s2, s3, s4, s5, s6, s7, s8⟩
     go_simp
     with_reducible rfl
    rotate_left
    ·
     simp only [Act.put, sq1, sq2, sq3, i64_w, i32_w]
     rfl
    refine take_ (i := 3) (N := some 63) (v := ?_) (a' := ?_) #[true, true, true, true, false, false, false, false, false, false, false, false, false] rfl rfl (by kernel_rfl) (fun _ _ _ h => h) (Or.inl ⟨by rfl, ?_⟩) hHeld ?_ ?_
    rotate_left
    ·
     rintro w' ⟨s0, s1, s2, s3, s4, s5, s6, s7, s8⟩
     go_simp
     with_reducible rfl
    rotate_left
    ·
     simp only [Act.put, sq1, sq2, sq3, i64_w, i32_w]
     rfl
    refine pure_ (i := 4) (N := some 64) (v := ?_) (a' := ?_) #[true, true, true, true, true, false, false, false, false, false, false, false, false] rfl rfl (by kernel_rfl) (fun _ _ _ h => h) (Or.inl ⟨by rfl, ?_⟩) ?_ ?_
    rotate_left
    ·
     intro w'
     go_simp
     with_reducible rfl
    rotate_left
    ·
     simp only [Act.put, sq1, sq2, sq3, i64_w, i32_w]
     rfl
    refine pure_ (i := 5) (N := some 65) (v := ?_) (a' := ?_) #[true, true, true, true, true, true, false, false, false, false, false, false, false] rfl rfl (by kernel_rfl) (fun _ _ _ h => h) (Or.inl ⟨by rfl, ?_⟩) ?_ ?_
    rotate_left
    ·
     intro w'
     go_simp
     with_reducible rfl
    rotate_left
    ·
     simp only [Act.put, sq1, sq2, sq3, i64_w, i32_w]
     rfl
    refine pure_ (i := 6) (N := some 66) (v := ?_) (a' := ?_) #[true, true, true, true, true, true, true, false, false, false, false, false, false] rfl rfl (by kernel_rfl) (fun _ _ _ h => h) (Or.inl ⟨by rfl, ?_⟩) ?_ ?_
    rotate_left
    ·
     intro w'
     go_simp
     with_reducible rfl
    rotate_left
    ·
     simp only [Act.put, sq1, sq2, sq3, i64_w, i32_w]
     rfl
    refine pure_ (i := 7) (N := some 67) (v := ?_) (a' := ?_) #[true, true, true, true, true, true, true, true, false, false, false, false, false] rfl rfl (by kernel_rfl) (fun _ _ _ h => h) (Or.inl ⟨by rfl, ?_⟩) ?_ ?_
    rotate_left
    ·
     intro w'
     go_simp
     with_reducible rfl
    rotate_left
    ·
     simp only [Act.put, sq1, sq2, sq3, i64_w, i32_w]
     rfl
    refine pure_ (i := 8) (N := some 68) (v := undef) (a' := ?_) #[true, true, true, true, true, true, true, true, true, false, false, false, false] rfl rfl (by kernel_rfl) (fun _ _ _ h => h) (Or.inr ⟨by rfl, rfl⟩) ?_ ?_
    rotate_left
    ·
     simp only [Act.put, sq1, sq2, sq3, i64_w, i32_w]
     rfl
    refine pure_ (i := 9) (N := some 69) (v := undef) (a' := ?_) #[true, true, true, true, true, true, true, true, true, true, false, false, false] rfl rfl (by kernel_rfl) (fun _ _ _ h => h) (Or.inr ⟨by rfl, rfl⟩) ?_ ?_
    rotate_left
    ·
     simp only [Act.put, sq1, sq2, sq3, i64_w, i32_w]
     rfl
    refine pure_ (i := 10) (N := some 70) (v := ?_) (a' := ?_) #[true, true, true, true, true, true, true, true, true, true, true, false, false] rfl rfl (by kernel_rfl) (fun _ _ _ h => h) (Or.inl ⟨by rfl, ?_⟩) ?_ ?_
    rotate_left
    ·
     intro w'
     go_simp
     with_reducible rfl
    rotate_left
    ·
     simp only [Act.put, sq1, sq2, sq3, i64_w, i32_w]
     rfl
    refine last_ (i := 11) (N := none) #[true, true, true, true, true, true, true, true, true, true, true, true, false] rfl rfl (by kernel_rfl) (by decide) (fun K hK => ?_)
    have q0 := (blk_cell (Y4.out) 0).trans (show _ = some (Value.int .i64 0) from rfl)
    have q1 := (blk_cell (Y4.out) 1).trans (show _ = some (Value.int .i64 0) from rfl)
    have q2 := (blk_cell (Y4.out) 2).trans (show _ = some (Value.int .i64 0) from rfl)
    have q3 := (blk_cell (Y4.out) 3).trans (show _ = some (Value.int .i64 0) from rfl)
    have q4 := (blk_cell (Y4.out) 4).trans (show _ = some (Value.int .i64 0) from rfl)
    have q5 := (blk_cell (Y4.out) 5).trans (show _ = some (Value.int .i64 0) from rfl)
    have q6 := (blk_cell (Y4.out) 6).trans (show _ = some (Value.slice none 0 0) from rfl)
    have q7 := (blk_cell (Y4.out) 7).trans (show _ = some (Value.slice none 0 0) from rfl)
    have r0 := blk_frozen (Y4.out) 0
    have r1 := blk_frozen (Y4.out) 1
    have r2 := blk_frozen (Y4.out) 2
    have r3 := blk_frozen (Y4.out) 3
    have r4 := blk_frozen (Y4.out) 4
    have r5 := blk_frozen (Y4.out) 5
    have r6 := blk_frozen (Y4.out) 6
    have r7 := blk_frozen (Y4.out) 7
    refine skip_ (w1 := ?_) (by rfl) rfl ?_ ?_
    rotate_left
    ·
     go_simp
     rfl
    clear q0 q1 q2 q3 q4 q5 q6 q7 r0 r1 r2 r3 r4 r5 r6 r7
    refine hK.out _ _ ?_
    clear hK K
    refine pure_ (i := 12) (N := some 5) (v := ?_) (a' := ?_) #[true, true, true, true, true, true, true, true, true, true, true, true, true] rfl rfl (by kernel_rfl) (fun _ _ _ h => h) (Or.inl ⟨by rfl, ?_⟩) ?_ ?_
    rotate_left
    ·
     intro w'
     go_simp
     with_reducible rfl
    rotate_left
    ·
     simp only [Act.put, sq1, sq2, sq3, i64_w, i32_w]
     rfl
    refine done_ (by kernel_rfl) ?_
    clear hHeld
    obtain ⟨W', hW', z4, hmv⟩ := box8 (Y4.out) (.int .i64 k) (.int .i64 s) (.int .i64 e) (.int .i64 i) (.int .i64 t) (.int .i64 c) (.slice B1 L.length d1) (.slice B2 bo.length d2)
    rw [hW']
    clear hW'
    have hB' : Below w.heap.size w W' := Mv.to HB.out hmv (fun k hk => by omega) HB.out.size
    have c0 := (blk_cell z4 0).trans (show _ = some (Value.int .i64 k) from rfl)
    have c1 := (blk_cell z4 1).trans (show _ = some (Value.int .i64 s) from rfl)
    have c2 := (blk_cell z4 2).trans (show _ = some (Value.int .i64 e) from rfl)
    have c3 := (blk_cell z4 3).trans (show _ = some (Value.int .i64 i) from rfl)
    have c4 := (blk_cell z4 4).trans (show _ = some (Value.int .i64 t) from rfl)
    have c5 := (blk_cell z4 5).trans (show _ = some (Value.int .i64 c) from rfl)
    have c6 := (blk_cell z4 6).trans (show _ = some (Value.slice B1 L.length d1) from rfl)
    have c7 := (blk_cell z4 7).trans (show _ = some (Value.slice B2 bo.length d2) from rfl)
    go_wp2_with fail
    refine bodyPost_ret (v := .tuple #[.agg #[.int .i64 k, .int .i64 s, .int .i64 e, .int .i64 i, .int .i64 t, .int .i64 c, .slice B1 L.length d1, .slice B2 bo.length d2], .bool false]) (by simp [results, Tryd.results61, go_sem, c0, c1, c2, c3, c4, c5, c6, c7]) rfl ⟨B1, d1, B2, d2, by rw [Bool.true_and, decide_eq_false hl, Bool.false_and], Kd.R_mono (Kd.R_drew (Kd.R_kept HR1.out hmv.kept (fun k hk he => by omega))) (fun _ _ => trivial), Kd.R_mono (Kd.R_drew (Kd.R_kept HR2.out hmv.kept (fun k hk he => by omega))) (fun _ _ => trivial), below_drew1 hB'⟩
end Go.Proofs.YtieolhhokepkjaaDoor.Print
