/- What stands behind an item's head: the closures that take a number and a row off the bytes, and item.rest. Conditions stand in each theorem. -/
import Derived.Test.YtieolhhokepkjaaDoorHand6
import Derived.Test.YtieolhhokepkjaaDoorHand5
import Derived.Test.YtieolhhokepkjaaDoorNumPlain
import Derived.IntWalk
namespace Go.Proofs.YtieolhhokepkjaaDoor.Print
set_option linter.unusedVariables false
set_option linter.unusedSimpArgs false
open Go.RowKit Go.Proofs.YtieolhhokepkjaaDoorW.PrintWords Go.Proofs.YtieolhhokepkjaaDoorW.PrintLast Go.Proofs.YtieolhhokepkjaaDoorW.PrintMore Go.Proofs.YtieolhhokepkjaaDoor.NumPlain

theorem GB.kept {w w1 : World} {S : Nat → Prop} (h : GB w) (hk : Kept w w1 S) (h0 : ¬ S 0) : GB w1 := fun j hj => cell_kept (h j hj) hk h0
/-- What is read shared, in a world that kept its blocks. -/
theorem V8.kept {w w1 : World} {N N' : Nat} {Q S : Nat → Prop} {v : Value} {l : List Int} (h : Kd.V (Kd.int .u8) 5 w N Q v l) (hk : Kept w w1 S) (hs : ∀ k, Q k → ¬ S k) : Kd.V (Kd.int .u8) 5 w1 N' Q v l :=
  Kd.V_map h (fun A hF => Kd.F_mono (Kd.F_kept hF hk hs) (fun _ hk => hk))
/-- From one world to another one: blocks that are in S may turn, and new ones; nothing else. -/
structure Mv (W w : World) (S : Nat → Prop) : Prop where
  kept : Kept W w S
  os : w.os = W.os
  tape : w.tape = W.tape
  out : w.output = W.output
theorem Mv.below {W w : World} (h : Below W.heap.size W w) (S : Nat → Prop) : Mv W w S := ⟨Kept.of_below h S, h.os, h.tape, h.output⟩
theorem Mv.setCell {W w : World} {S : Nat → Prop} (h : Mv W w S) {p : Addr} (hp : S p.block ∨ W.heap.size ≤ p.block) (u : Value) : Mv W (w.setCell p u) S := ⟨Kept.setCell h.kept hp u, h.os, h.tape, h.out⟩
theorem Mv.to {b : Nat} {w0 W w : World} {S : Nat → Prop} (hb : Below b w0 W) (h : Mv W w S) (hs : ∀ k, S k → b ≤ k) (hw : b ≤ W.heap.size) : Below b w0 w :=
  hb.trans ⟨h.os, h.tape, h.out, h.kept.1, fun k hk => h.kept.2 k (by omega) (fun h2 => by have := hs k h2; omega)⟩
/-- What a closure that takes numbers off leaves: a cell of the item's box, what is behind it, and all other blocks. -/
def Took (W : World) (g2 g3 : Nat) (cs : Array Value) (Q : Nat → Prop) (r : List Int) (ok : Bool) (e : Ending) (w1 : World) : Prop :=
  ∃ (A : Option Addr) (c : Nat), e = .returned (.bool ok) ∧ w1.heap[g2]? = some (.cells cs 25 (0, 0)) ∧ w1.heap[g3]? = some (.cells #[.slice A r.length c] 23 (0, 0)) ∧ Kd.V (Kd.int .u8) 5 w1 w1.heap.size Q (.slice A r.length c) r ∧ Mv W w1 (fun k => k = g2 ∨ k = g3)
theorem took_mk {W w1 : World} {g2 g3 : Nat} {cs : Array Value} {z : Value} {j : Nat} {Q : Nat → Prop} {A : Option Addr} {c : Nat} {r : List Int} {ok : Bool} {x : Value} (h2 : W.heap[g2]? = some (.cells cs 25 (0, 0))) (h3 : W.heap[g3]? = some (.cells #[z] 23 (0, 0))) (hne : g2 ≠ g3)
    (hb : Below W.heap.size W w1) (hV : Kd.V (Kd.int .u8) 5 w1 W.heap.size Q (.slice A r.length c) r) (hQ2 : ∀ k, Q k → k ≠ g2 ∧ k ≠ g3) :
    Took W g2 g3 (cs.setIfInBounds j x) Q r ok (.returned (.bool ok)) ((w1.setCell ⟨g2, j, none⟩ x).setCell ⟨g3, 0, none⟩ (.slice A r.length c)) := by
  have k2 := blk_below h2 hb
  have k3 := blk_below h3 hb
  refine ⟨A, c, rfl, blk_far (blk_set k2 j x) hne _, blk_put (blk_far k3 (p := ⟨g2, j, none⟩) (fun h => hne h.symm) x) 0 _ rfl, ?_, ((Mv.below hb _).setCell (Or.inl (Or.inl rfl)) _).setCell (Or.inl (Or.inr rfl)) _⟩
  exact V8.kept (S := fun k => k = g2 ∨ k = g3) hV ((Kept.refl w1 _).setCell (Or.inl (Or.inl rfl)) _ |>.setCell (Or.inl (Or.inr rfl)) _) (fun k hk h => by rcases h with h | h; exact (hQ2 k hk).1 h; exact (hQ2 k hk).2 h)
theorem take1_is {l : List Int} (hb : By l) : num_Take.f l 1 = some (l.headD 0, l.drop 1, if 0 < l.length then 0 else 2) := by
  rcases l with _ | ⟨x, l⟩
  · rfl
  · have hx := hb x (List.mem_cons_self)
    rw [take_good (Or.inl rfl) hb]
    unfold takeS
    have hv : val (List.take (Int.toNat 1) (x :: l)) = x := by simp [val]
    rw [if_neg (by simp; omega), hv, if_neg (by unfold most; omega)]
    rfl
theorem rest1.is {W : World} {g2 g3 : Nat} {cs : Array Value} {j : Nat} {Q : Nat → Prop} {A : Option Addr} {c : Nat} {l : List Int} {z : Value} (h2 : W.heap[g2]? = some (.cells cs 25 (0, 0))) (h3 : W.heap[g3]? = some (.cells #[.slice A l.length c] 23 (0, 0))) (hne : g2 ≠ g3) (hj : cs[j]? = some z)
    (hV : Kd.V (Kd.int .u8) 5 W W.heap.size Q (.slice A l.length c) l) (hQ2 : ∀ k, Q k → k ≠ g2 ∧ k ≠ g3) (hQ : ∀ k, W.heap.size ≤ k → Q k) (hG : GB W) (hb : By l) (ok : Bool) (hok : decide (0 < l.length) = ok) :
    Calls Tryd.prog 74 #[.pointer (some ⟨g2, j, none⟩), .pointer (some ⟨g3, 0, none⟩)] W (Took W g2 g3 (cs.setIfInBounds j (.int .i64 (l.headD 0))) Q (l.drop 1) ok) := by
  have x3 : W.cell? ⟨g3, 0, none⟩ = some (.slice A l.length c) := blk_cell h3 0
  have hE : ((if 0 < l.length then (0 : Int) else 2) == 0) = ok := by rw [← hok]; by_cases h : 0 < l.length <;> simp [h]
  have HT := Lib.hid (num_Take.calls Q A c l 1 _ _ _ W hV hG (take1_is hb))
  have H2 := Aside0.mk h2
  have H3 := Aside0.mk h3
  have HJ := Lib.hid hj
  clear h2 h3 hV hG hb hok hj
  generalize l.headD 0 = x at *
  generalize l.drop 1 = r at *
  generalize (if 0 < l.length then (0 : Int) else 2) = q at *
  have HE := Lib.hid hE
  clear hE
  go_enter Tryd.func74, Tryd.ntmps74
  go_wp2_with fail
  refine HT.out.mono ?_
  rintro e w1 ⟨v1, rfl, hv, hb⟩
  obtain ⟨A1, c1, rfl, hl1, hF1⟩ := hv
  have y2 := pw_cell_below hb ((blk_cell H2.out j).trans HJ.out)
  have y3 := pw_cell_below hb ((blk_cell H3.out 0).trans (show _ = some (Value.slice A l.length c) from rfl))
  have f2 := blk_frozen (blk_below H2.out hb) j
  have f3 := blk_frozen (blk_below H3.out hb) 0
  have HB := Aside0.mk hb
  have HF := Aside0.mk (Kd.V_mk (e := 5) (base := W.heap.size) hl1 (Kd.F_mono hF1 (fun k hk => hk.elim id (hQ k))))
  clear hb hF1 hl1
  go_wp2_with fail
  go_ret
  rw [HE.out]
  exact took_mk H2.out H3.out hne HB.out HF.out hQ2

/-- What a closure that takes a row off leaves. -/
def TookRow (W : World) (g2 g3 : Nat) (cs : Array Value) (Q : Nat → Prop) (L r : List Int) (ok : Bool) (e : Ending) (w1 : World) : Prop :=
  ∃ (B : Option Addr) (d : Nat), Took W g2 g3 (cs.setIfInBounds 6 (.slice B L.length d)) Q r ok e w1 ∧ Kd.R (Kd.int .i64) 3 w1 W.heap.size (fun k => W.heap.size ≤ k) (.slice B L.length d) L
set_option maxRecDepth 100000 in
theorem rest2_1.is {W : World} {g2 g3 : Nat} {cs : Array Value} {Q : Nat → Prop} {A : Option Addr} {c : Nat} {l L r : List Int} {q : Int} {k : Nat} {z : Value} (h2 : W.heap[g2]? = some (.cells cs 25 (0, 0))) (h3 : W.heap[g3]? = some (.cells #[.slice A l.length c] 23 (0, 0))) (hne : g2 ≠ g3) (hj : cs[6]? = some z)
    (hV : Kd.V (Kd.int .u8) 5 W W.heap.size Q (.slice A l.length c) l) (hQ2 : ∀ k, Q k → k ≠ g2 ∧ k ≠ g3) (hQ : ∀ k, W.heap.size ≤ k → Q k) (hG : GB W) (ok : Bool) (hok : (q == 0) = ok) (hT : num_TakeRow.f k l ((l.length : Int) / 1) 1 = some (L, r, q)) :
    Calls Tryd.prog 75 #[.int .i64 1, .pointer (some ⟨g3, 0, none⟩), .pointer (some ⟨g2, 0, none⟩)] W (TookRow W g2 g3 cs Q L r ok) := by
  have x3 : W.cell? ⟨g3, 0, none⟩ = some (.slice A l.length c) := blk_cell h3 0
  have HT := Lib.hid (num_TakeRow.calls k Q A c l _ 1 _ _ _ W.drew (Kd.V_drew hV) hG hT)
  have H2 := Aside0.mk h2
  have H3 := Aside0.mk h3
  have HJ := Lib.hid hj
  have HE := Lib.hid hok
  have hm0 : l.length ≤ 9223372036854775807 := Kd.C_max (Kd.F_now (Kd.V_at hV).2.2)
  have hdv : wrap64 (l.length : Int) = (l.length : Int) / 1 := by unfold wrap64; omega
  have HD := Lib.hid hdv
  clear h2 h3 hV hG hok hj hT hdv
  go_enter Tryd.func75, Tryd.ntmps75
  go_wp2_with fail
  refine start_ (n := 14) (S := fun w' => w'.cell? ⟨g3, 0, none⟩ = some (.slice A l.length c)) (ds := []) #[false, false, false, false, false, false, false, false, false, false, false, false, false, false] (by kernel_rfl) rfl rfl (x3) (fun hHeld => ?_)
  refine pure_ (i := 3) (N := some 12) (v := ?_) (a' := ?_) #[false, false, false, true, false, false, false, false, false, false, false, false, false, false] rfl rfl (by kernel_rfl) (fun _ _ _ h => h) (Or.inl ⟨by rfl, ?_⟩) ?_ ?_
  rotate_left
  · intro w'
    go_simp
    with_reducible rfl
  rotate_left
  · simp only [Act.put, List.setIfInBounds_toArray, List.set_cons_zero, List.set_cons_succ, i64_w, i32_w]
    rfl
  refine pure_ (i := 5) (N := some 14) (v := ?_) (a' := ?_) #[false, false, false, true, false, true, false, false, false, false, false, false, false, false] rfl rfl (by kernel_rfl) (fun _ _ _ h => h) (Or.inl ⟨by rfl, ?_⟩) ?_ ?_
  rotate_left
  · intro w'
    go_simp
    with_reducible rfl
  rotate_left
  · simp only [Act.put, List.setIfInBounds_toArray, List.set_cons_zero, List.set_cons_succ, i64_w, i32_w]
    rfl
  refine take_ (i := 0) (N := some 9) (v := ?_) (a' := ?_) #[true, false, false, true, false, true, false, false, false, false, false, false, false, false] rfl rfl (by kernel_rfl) (fun _ _ _ h => h) (Or.inl ⟨by rfl, ?_⟩) hHeld ?_ ?_
  rotate_left
  · intro w' s0
    go_simp
    with_reducible rfl
  rotate_left
  · simp only [Act.put, List.setIfInBounds_toArray, List.set_cons_zero, List.set_cons_succ, i64_w, i32_w]
    rfl
  refine take_ (i := 1) (N := some 10) (v := ?_) (a' := ?_) #[true, true, false, true, false, true, false, false, false, false, false, false, false, false] rfl rfl (by kernel_rfl) (fun _ _ _ h => h) (Or.inl ⟨by rfl, ?_⟩) hHeld ?_ ?_
  rotate_left
  · intro w' s0
    go_simp
    with_reducible rfl
  rotate_left
  · simp only [Act.put, List.setIfInBounds_toArray, List.set_cons_zero, List.set_cons_succ, i64_w, i32_w]
    rfl
  refine pure_ (i := 2) (N := some 11) (v := ?_) (a' := ?_) #[true, true, true, true, false, true, false, false, false, false, false, false, false, false] rfl rfl (by kernel_rfl) (fun _ _ _ h => h) (Or.inl ⟨by rfl, ?_⟩) ?_ ?_
  rotate_left
  · intro w'
    go_simp
    with_reducible rfl
  rotate_left
  · simp only [Act.put, List.setIfInBounds_toArray, List.set_cons_zero, List.set_cons_succ, i64_w, i32_w]
    rfl
  refine pure_ (i := 4) (N := some 13) (v := ?_) (a' := ?_) #[true, true, true, true, true, true, false, false, false, false, false, false, false, false] rfl rfl (by kernel_rfl) (fun _ _ _ h => h) (Or.inl ⟨by rfl, ?_⟩) ?_ ?_
  rotate_left
  · intro w'
    go_simp
    with_reducible rfl
  rotate_left
  · simp only [Act.put, List.setIfInBounds_toArray, List.set_cons_zero, List.set_cons_succ, i64_w, i32_w]
    rfl
  refine one_ (i := 6) (N := some 15) #[true, true, true, true, true, true, true, false, false, false, false, false, false, false] rfl rfl (by kernel_rfl) (by decide) (fun K hK => ?_)
  refine goes_ Tryd.func51 (by kernel_rfl) rfl #[.slice A l.length c, .int .i64 (wrap64 (l.length : Int)), .int .i64 1] (by rfl) rfl rfl (by simp only [List.map_toArray, List.map_cons, List.map_nil]; rfl) ?_
  rw [HD.out]
  with_reducible refine (HT.out).mono ?_
  rintro e0 w1 ⟨v0, v1, rfl, hr, hv, hb⟩
  refine ⟨_, rfl, ?_⟩
  have HB := Aside0.mk hb
  have HR := Aside0.mk hr
  have HV := Aside0.mk hv
  clear hb hr hv
  refine hK.out _ _ (pw_cell_below HB.out x3) (fun hHeld => ?_)
  clear hK K
  refine norm_ (a' := ?_) ?_ ?_
  rotate_left
  · show Act.put _ (some 15) _ = _
    simp only [Act.put, List.setIfInBounds_toArray, List.set_cons_zero, List.set_cons_succ, i64_w, i32_w]
    rfl
  refine pure_ (i := 7) (N := some 8) (v := ?_) (a' := ?_) #[true, true, true, true, true, true, true, true, false, false, false, false, false, false] rfl rfl (by kernel_rfl) (fun _ _ _ h => h) (Or.inl ⟨by rfl, ?_⟩) ?_ ?_
  rotate_left
  · intro w'
    go_simp
    with_reducible rfl
  rotate_left
  · simp only [Act.put, List.setIfInBounds_toArray, List.set_cons_zero, List.set_cons_succ, i64_w, i32_w]
    rfl
  refine pure_ (i := 8) (N := some 16) (v := ?_) (a' := ?_) #[true, true, true, true, true, true, true, true, true, false, false, false, false, false] rfl rfl (by kernel_rfl) (fun _ _ _ h => h) (Or.inl ⟨by rfl, ?_⟩) ?_ ?_
  rotate_left
  · intro w'
    go_simp
    with_reducible rfl
  rotate_left
  · simp only [Act.put, List.setIfInBounds_toArray, List.set_cons_zero, List.set_cons_succ, i64_w, i32_w]
    rfl
  refine pure_ (i := 9) (N := some 17) (v := ?_) (a' := ?_) #[true, true, true, true, true, true, true, true, true, true, false, false, false, false] rfl rfl (by kernel_rfl) (fun _ _ _ h => h) (Or.inl ⟨by rfl, ?_⟩) ?_ ?_
  rotate_left
  · intro w'
    go_simp
    with_reducible rfl
  rotate_left
  · simp only [Act.put, List.setIfInBounds_toArray, List.set_cons_zero, List.set_cons_succ, i64_w, i32_w]
    rfl
  refine pure_ (i := 10) (N := some 18) (v := ?_) (a' := ?_) #[true, true, true, true, true, true, true, true, true, true, true, false, false, false] rfl rfl (by kernel_rfl) (fun _ _ _ h => h) (Or.inl ⟨by rfl, ?_⟩) ?_ ?_
  rotate_left
  · intro w'
    go_simp
    with_reducible rfl
  rotate_left
  · simp only [Act.put, List.setIfInBounds_toArray, List.set_cons_zero, List.set_cons_succ, i64_w, i32_w]
    rfl
  refine pure_ (i := 11) (N := some 5) (v := ?_) (a' := ?_) #[true, true, true, true, true, true, true, true, true, true, true, true, false, false] rfl rfl (by kernel_rfl) (fun _ _ _ h => h) (Or.inl ⟨by rfl, ?_⟩) ?_ ?_
  rotate_left
  · intro w'
    go_simp
    with_reducible rfl
  rotate_left
  · simp only [Act.put, List.setIfInBounds_toArray, List.set_cons_zero, List.set_cons_succ, i64_w, i32_w]
    rfl
  refine pure_ (i := 12) (N := some 6) (v := ?_) (a' := ?_) #[true, true, true, true, true, true, true, true, true, true, true, true, true, false] rfl rfl (by kernel_rfl) (fun _ _ _ h => h) (Or.inl ⟨by rfl, ?_⟩) ?_ ?_
  rotate_left
  · intro w'
    go_simp
    with_reducible rfl
  rotate_left
  · simp only [Act.put, List.setIfInBounds_toArray, List.set_cons_zero, List.set_cons_succ, i64_w, i32_w]
    rfl
  refine pure_ (i := 13) (N := some 7) (v := ?_) (a' := ?_) #[true, true, true, true, true, true, true, true, true, true, true, true, true, true] rfl rfl (by kernel_rfl) (fun _ _ _ h => h) (Or.inl ⟨by rfl, ?_⟩) ?_ ?_
  rotate_left
  · intro w'
    go_simp
    with_reducible rfl
  rotate_left
  · simp only [Act.put, List.setIfInBounds_toArray, List.set_cons_zero, List.set_cons_succ, i64_w, i32_w]
    rfl
  refine done_ (by kernel_rfl) ?_
  clear hHeld
  obtain ⟨B, d, rfl⟩ := Kd.R_slice HR.out
  obtain ⟨A1, c1, rfl, hl1, hF1⟩ := HV.out
  have hb := HB.out
  have y2 := pw_cell_below hb ((blk_cell (blk_drew H2.out) 6).trans HJ.out)
  have y3 := pw_cell_below hb ((blk_cell (blk_drew H3.out) 0).trans (show _ = some (Value.slice A l.length c) from rfl))
  have f2 := blk_frozen (blk_below (blk_drew H2.out) hb) 6
  have f3 := blk_frozen (blk_below (blk_drew H3.out) hb) 0
  have HB2 := Aside0.mk (show Below W.heap.size W w1 from below_step (below_drew1 (Below.refl _ _)) hb)
  have HF := Aside0.mk (Kd.V_mk (e := 5) (base := W.heap.size) hl1 (Kd.F_mono hF1 (fun k hk => hk.1.elim id (hQ k))))
  have hlt2 := blk_lt H2.out
  have hlt3 := blk_lt H3.out
  clear hb hF1 hl1 HV HB
  go_wp2_with fail
  go_ret
  rw [HE.out]
  exact ⟨B, d, took_mk H2.out H3.out hne HB2.out HF.out hQ2, Kd.R_far (Kd.R_far HR.out (fun k hk => Nat.ne_of_gt (Nat.lt_of_lt_of_le hlt2 hk)) _) (fun k hk => Nat.ne_of_gt (Nat.lt_of_lt_of_le hlt3 hk)) _⟩
set_option maxRecDepth 100000 in
theorem rest2_8.is {W : World} {g2 g3 : Nat} {cs : Array Value} {Q : Nat → Prop} {A : Option Addr} {c : Nat} {l L r : List Int} {q : Int} {k : Nat} {z : Value} (h2 : W.heap[g2]? = some (.cells cs 25 (0, 0))) (h3 : W.heap[g3]? = some (.cells #[.slice A l.length c] 23 (0, 0))) (hne : g2 ≠ g3) (hj : cs[6]? = some z)
    (hV : Kd.V (Kd.int .u8) 5 W W.heap.size Q (.slice A l.length c) l) (hQ2 : ∀ k, Q k → k ≠ g2 ∧ k ≠ g3) (hQ : ∀ k, W.heap.size ≤ k → Q k) (hG : GB W) (ok : Bool) (hok : (q == 0) = ok) (hT : num_TakeRow.f k l ((l.length : Int) / 8) 8 = some (L, r, q)) :
    Calls Tryd.prog 75 #[.int .i64 8, .pointer (some ⟨g3, 0, none⟩), .pointer (some ⟨g2, 0, none⟩)] W (TookRow W g2 g3 cs Q L r ok) := by
  have x3 : W.cell? ⟨g3, 0, none⟩ = some (.slice A l.length c) := blk_cell h3 0
  have HT := Lib.hid (num_TakeRow.calls k Q A c l _ 8 _ _ _ W.drew (Kd.V_drew hV) hG hT)
  have H2 := Aside0.mk h2
  have H3 := Aside0.mk h3
  have HJ := Lib.hid hj
  have HE := Lib.hid hok
  have hm0 : l.length ≤ 9223372036854775807 := Kd.C_max (Kd.F_now (Kd.V_at hV).2.2)
  have hdv : wrap64 ((l.length : Int) / 8) = (l.length : Int) / 8 := by unfold wrap64; omega
  have HD := Lib.hid hdv
  clear h2 h3 hV hG hok hj hT hdv
  go_enter Tryd.func75, Tryd.ntmps75
  go_wp2_with fail
  refine start_ (n := 14) (S := fun w' => w'.cell? ⟨g3, 0, none⟩ = some (.slice A l.length c)) (ds := []) #[false, false, false, false, false, false, false, false, false, false, false, false, false, false] (by kernel_rfl) rfl rfl (x3) (fun hHeld => ?_)
  refine pure_ (i := 3) (N := some 12) (v := ?_) (a' := ?_) #[false, false, false, true, false, false, false, false, false, false, false, false, false, false] rfl rfl (by kernel_rfl) (fun _ _ _ h => h) (Or.inl ⟨by rfl, ?_⟩) ?_ ?_
  rotate_left
  · intro w'
    go_simp
    with_reducible rfl
  rotate_left
  · simp only [Act.put, List.setIfInBounds_toArray, List.set_cons_zero, List.set_cons_succ, i64_w, i32_w]
    rfl
  refine pure_ (i := 5) (N := some 14) (v := ?_) (a' := ?_) #[false, false, false, true, false, true, false, false, false, false, false, false, false, false] rfl rfl (by kernel_rfl) (fun _ _ _ h => h) (Or.inl ⟨by rfl, ?_⟩) ?_ ?_
  rotate_left
  · intro w'
    go_simp
    with_reducible rfl
  rotate_left
  · simp only [Act.put, List.setIfInBounds_toArray, List.set_cons_zero, List.set_cons_succ, i64_w, i32_w]
    rfl
  refine take_ (i := 0) (N := some 9) (v := ?_) (a' := ?_) #[true, false, false, true, false, true, false, false, false, false, false, false, false, false] rfl rfl (by kernel_rfl) (fun _ _ _ h => h) (Or.inl ⟨by rfl, ?_⟩) hHeld ?_ ?_
  rotate_left
  · intro w' s0
    go_simp
    with_reducible rfl
  rotate_left
  · simp only [Act.put, List.setIfInBounds_toArray, List.set_cons_zero, List.set_cons_succ, i64_w, i32_w]
    rfl
  refine take_ (i := 1) (N := some 10) (v := ?_) (a' := ?_) #[true, true, false, true, false, true, false, false, false, false, false, false, false, false] rfl rfl (by kernel_rfl) (fun _ _ _ h => h) (Or.inl ⟨by rfl, ?_⟩) hHeld ?_ ?_
  rotate_left
  · intro w' s0
    go_simp
    with_reducible rfl
  rotate_left
  · simp only [Act.put, List.setIfInBounds_toArray, List.set_cons_zero, List.set_cons_succ, i64_w, i32_w]
    rfl
  refine pure_ (i := 2) (N := some 11) (v := ?_) (a' := ?_) #[true, true, true, true, false, true, false, false, false, false, false, false, false, false] rfl rfl (by kernel_rfl) (fun _ _ _ h => h) (Or.inl ⟨by rfl, ?_⟩) ?_ ?_
  rotate_left
  · intro w'
    go_simp
    with_reducible rfl
  rotate_left
  · simp only [Act.put, List.setIfInBounds_toArray, List.set_cons_zero, List.set_cons_succ, i64_w, i32_w]
    rfl
  refine pure_ (i := 4) (N := some 13) (v := ?_) (a' := ?_) #[true, true, true, true, true, true, false, false, false, false, false, false, false, false] rfl rfl (by kernel_rfl) (fun _ _ _ h => h) (Or.inl ⟨by rfl, ?_⟩) ?_ ?_
  rotate_left
  · intro w'
    go_simp
    with_reducible rfl
  rotate_left
  · simp only [Act.put, List.setIfInBounds_toArray, List.set_cons_zero, List.set_cons_succ, i64_w, i32_w]
    rfl
  refine one_ (i := 6) (N := some 15) #[true, true, true, true, true, true, true, false, false, false, false, false, false, false] rfl rfl (by kernel_rfl) (by decide) (fun K hK => ?_)
  refine goes_ Tryd.func51 (by kernel_rfl) rfl #[.slice A l.length c, .int .i64 (wrap64 ((l.length : Int) / 8)), .int .i64 8] (by rfl) rfl rfl (by simp only [List.map_toArray, List.map_cons, List.map_nil]; rfl) ?_
  rw [HD.out]
  with_reducible refine (HT.out).mono ?_
  rintro e0 w1 ⟨v0, v1, rfl, hr, hv, hb⟩
  refine ⟨_, rfl, ?_⟩
  have HB := Aside0.mk hb
  have HR := Aside0.mk hr
  have HV := Aside0.mk hv
  clear hb hr hv
  refine hK.out _ _ (pw_cell_below HB.out x3) (fun hHeld => ?_)
  clear hK K
  refine norm_ (a' := ?_) ?_ ?_
  rotate_left
  · show Act.put _ (some 15) _ = _
    simp only [Act.put, List.setIfInBounds_toArray, List.set_cons_zero, List.set_cons_succ, i64_w, i32_w]
    rfl
  refine pure_ (i := 7) (N := some 8) (v := ?_) (a' := ?_) #[true, true, true, true, true, true, true, true, false, false, false, false, false, false] rfl rfl (by kernel_rfl) (fun _ _ _ h => h) (Or.inl ⟨by rfl, ?_⟩) ?_ ?_
  rotate_left
  · intro w'
    go_simp
    with_reducible rfl
  rotate_left
  · simp only [Act.put, List.setIfInBounds_toArray, List.set_cons_zero, List.set_cons_succ, i64_w, i32_w]
    rfl
  refine pure_ (i := 8) (N := some 16) (v := ?_) (a' := ?_) #[true, true, true, true, true, true, true, true, true, false, false, false, false, false] rfl rfl (by kernel_rfl) (fun _ _ _ h => h) (Or.inl ⟨by rfl, ?_⟩) ?_ ?_
  rotate_left
  · intro w'
    go_simp
    with_reducible rfl
  rotate_left
  · simp only [Act.put, List.setIfInBounds_toArray, List.set_cons_zero, List.set_cons_succ, i64_w, i32_w]
    rfl
  refine pure_ (i := 9) (N := some 17) (v := ?_) (a' := ?_) #[true, true, true, true, true, true, true, true, true, true, false, false, false, false] rfl rfl (by kernel_rfl) (fun _ _ _ h => h) (Or.inl ⟨by rfl, ?_⟩) ?_ ?_
  rotate_left
  · intro w'
    go_simp
    with_reducible rfl
  rotate_left
  · simp only [Act.put, List.setIfInBounds_toArray, List.set_cons_zero, List.set_cons_succ, i64_w, i32_w]
    rfl
  refine pure_ (i := 10) (N := some 18) (v := ?_) (a' := ?_) #[true, true, true, true, true, true, true, true, true, true, true, false, false, false] rfl rfl (by kernel_rfl) (fun _ _ _ h => h) (Or.inl ⟨by rfl, ?_⟩) ?_ ?_
  rotate_left
  · intro w'
    go_simp
    with_reducible rfl
  rotate_left
  · simp only [Act.put, List.setIfInBounds_toArray, List.set_cons_zero, List.set_cons_succ, i64_w, i32_w]
    rfl
  refine pure_ (i := 11) (N := some 5) (v := ?_) (a' := ?_) #[true, true, true, true, true, true, true, true, true, true, true, true, false, false] rfl rfl (by kernel_rfl) (fun _ _ _ h => h) (Or.inl ⟨by rfl, ?_⟩) ?_ ?_
  rotate_left
  · intro w'
    go_simp
    with_reducible rfl
  rotate_left
  · simp only [Act.put, List.setIfInBounds_toArray, List.set_cons_zero, List.set_cons_succ, i64_w, i32_w]
    rfl
  refine pure_ (i := 12) (N := some 6) (v := ?_) (a' := ?_) #[true, true, true, true, true, true, true, true, true, true, true, true, true, false] rfl rfl (by kernel_rfl) (fun _ _ _ h => h) (Or.inl ⟨by rfl, ?_⟩) ?_ ?_
  rotate_left
  · intro w'
    go_simp
    with_reducible rfl
  rotate_left
  · simp only [Act.put, List.setIfInBounds_toArray, List.set_cons_zero, List.set_cons_succ, i64_w, i32_w]
    rfl
  refine pure_ (i := 13) (N := some 7) (v := ?_) (a' := ?_) #[true, true, true, true, true, true, true, true, true, true, true, true, true, true] rfl rfl (by kernel_rfl) (fun _ _ _ h => h) (Or.inl ⟨by rfl, ?_⟩) ?_ ?_
  rotate_left
  · intro w'
    go_simp
    with_reducible rfl
  rotate_left
  · simp only [Act.put, List.setIfInBounds_toArray, List.set_cons_zero, List.set_cons_succ, i64_w, i32_w]
    rfl
  refine done_ (by kernel_rfl) ?_
  clear hHeld
  obtain ⟨B, d, rfl⟩ := Kd.R_slice HR.out
  obtain ⟨A1, c1, rfl, hl1, hF1⟩ := HV.out
  have hb := HB.out
  have y2 := pw_cell_below hb ((blk_cell (blk_drew H2.out) 6).trans HJ.out)
  have y3 := pw_cell_below hb ((blk_cell (blk_drew H3.out) 0).trans (show _ = some (Value.slice A l.length c) from rfl))
  have f2 := blk_frozen (blk_below (blk_drew H2.out) hb) 6
  have f3 := blk_frozen (blk_below (blk_drew H3.out) hb) 0
  have HB2 := Aside0.mk (show Below W.heap.size W w1 from below_step (below_drew1 (Below.refl _ _)) hb)
  have HF := Aside0.mk (Kd.V_mk (e := 5) (base := W.heap.size) hl1 (Kd.F_mono hF1 (fun k hk => hk.1.elim id (hQ k))))
  have hlt2 := blk_lt H2.out
  have hlt3 := blk_lt H3.out
  clear hb hF1 hl1 HV HB
  go_wp2_with fail
  go_ret
  rw [HE.out]
  exact ⟨B, d, took_mk H2.out H3.out hne HB2.out HF.out hQ2, Kd.R_far (Kd.R_far HR.out (fun k hk => Nat.ne_of_gt (Nat.lt_of_lt_of_le hlt2 hk)) _) (fun k hk => Nat.ne_of_gt (Nat.lt_of_lt_of_le hlt3 hk)) _⟩
end Go.Proofs.YtieolhhokepkjaaDoor.Print
