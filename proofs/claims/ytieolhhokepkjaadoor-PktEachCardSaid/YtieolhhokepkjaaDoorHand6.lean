/- Rows of bytes of the call's own, and what slices.Grow and slices.Concat give of them. Conditions stand in each theorem. -/
import Derived.Test.YtieolhhokepkjaaDoorHand
namespace Go.Proofs.YtieolhhokepkjaaDoor.Print
set_option linter.unusedVariables false
set_option linter.unusedSimpArgs false
open Go.RowKit Go.Proofs.YtieolhhokepkjaaDoorW.PrintWords Go.Proofs.YtieolhhokepkjaaDoorW.PrintLast Go.Proofs.YtieolhhokepkjaaDoorW.PrintMore
/-- A row of bytes of the call's own, made behind block b. -/
def O8 (w : World) (b : Nat) (v : Value) (l : List Int) : Prop := Kd.R (Kd.int .u8) 5 w b (fun k => b ≤ k) v l
theorem O8.of {w : World} {N b : Nat} {ok : Nat → Prop} {v : Value} {l : List Int} (h : Kd.R (Kd.int .u8) 5 w N ok v l) (hb : b ≤ N) : O8 w b v l :=
 Kd.R_lower (Kd.R_mono (Kd.R_bound h) (fun _ hk => Nat.le_trans hb hk.2.1)) hb
theorem O8.lower {w : World} {b b' : Nat} {v : Value} {l : List Int} (h : O8 w b v l) (hb : b' ≤ b) : O8 w b' v l := O8.of h hb
theorem O8.below {W w1 : World} {b : Nat} {v : Value} {l : List Int} (h : O8 W b v l) (hb : Below W.heap.size W w1) : O8 w1 b v l := Kd.R_below h hb
theorem O8.nil (w : World) (b : Nat) : O8 w b (.slice none 0 0) [] := Kd.R_nil _ _ _ _ _
theorem O8.reads {w : World} {b : Nat} {v : Value} {l : List Int} (h : O8 w b v l) : ∃ A c, v = .slice A l.length c ∧ l.length ≤ c ∧ Kd.C (Kd.int .u8) w A l.length l := Kd.R_reads h
theorem O8.out {w : World} {b : Nat} {v : Value} {l : List Int} (h : O8 w b v l) : Kd.R (Kd.int .u8) 5 w b (fun k => b ≤ k) v l := h
theorem Kd.C_lit8 {w : World} {g : Nat} {cs : Array Value} {t : TypeId} (h : w.heap[g]? = some (.cells cs t (0, 0))) (l : List Int) (hl : l.length ≤ 1000) (hc : cs = (l.map (Value.int .u8)).toArray) : Kd.C (Kd.int .u8) w (some ⟨g, 0, none⟩) l.length l := by
 subst hc
 refine ⟨rfl, by omega, fun _ => ⟨_, rfl, fun j p hp => ⟨[.int .u8 p], rfl, rfl, fun i u hu => ?_⟩⟩⟩
 have hi : i = 0 := by
  have := (List.getElem?_eq_some_iff.1 hu).1
  simp at this
  exact this
 subst hi
 simp at hu
 subst hu
 have h1 := blk_cell h j
 rw [show ((⟨g, 0, none⟩ : Addr).add (j * (Kd.int IntKind.u8).sz + 0)) = ⟨g, j, none⟩ by simp [Addr.add, Kd.int, Kd.scalar]; omega, h1]
 simp [hp]
theorem Kd.C_lit64 {w : World} {g : Nat} {cs : Array Value} {t : TypeId} (h : w.heap[g]? = some (.cells cs t (0, 0))) (l : List Int) (hl : l.length ≤ 1000) (hc : cs = (l.map (Value.int .i64)).toArray) : Kd.C (Kd.int .i64) w (some ⟨g, 0, none⟩) l.length l := by
 subst hc
 refine ⟨rfl, by omega, fun _ => ⟨_, rfl, fun j p hp => ⟨[.int .i64 p], rfl, rfl, fun i u hu => ?_⟩⟩⟩
 have hi : i = 0 := by
  have := (List.getElem?_eq_some_iff.1 hu).1
  simp at this
  exact this
 subst hi
 simp at hu
 subst hu
 have h1 := blk_cell h j
 rw [show ((⟨g, 0, none⟩ : Addr).add (j * (Kd.int IntKind.i64).sz + 0)) = ⟨g, j, none⟩ by simp [Addr.add, Kd.int, Kd.scalar]; omega, h1]
 simp [hp]
theorem O8.lit {w : World} {g b : Nat} {cs : Array Value} (h : w.heap[g]? = some (.cells cs 5 (0, 0))) (hb : b ≤ g) (l : List Int) (hl : l.length ≤ 1000) (hc : cs = (l.map (Value.int .u8)).toArray) : O8 w b (.slice (some ⟨g, 0, none⟩) l.length l.length) l := by
 subst hc
 refine Kd.R_of_own ⟨by simp [encs], .inr ⟨g, l.length, (l.map (Value.int .u8)).toArray, rfl, hb, h, Nat.le_refl _, by unfold maxLen; omega, by simp, by simp only [encs, Nat.mul_one]; rw [List.take_of_length_le (by simp)]⟩⟩ (fun k hk => ?_)
 simp [Value.ownBlock] at hk
 omega
/-- The eight cells of a box. -/
theorem cells8 {W : World} {g t : Nat} {v0 v1 v2 v3 v4 v5 v6 v7 : Value} (h : W.heap[g]? = some (.cells #[v0, v1, v2, v3, v4, v5, v6, v7] t (0, 0))) :
  (W.cell? ⟨g, 0, none⟩ = some v0 ∧ W.cell? ⟨g, 1, none⟩ = some v1 ∧ W.cell? ⟨g, 2, none⟩ = some v2 ∧ W.cell? ⟨g, 3, none⟩ = some v3 ∧ W.cell? ⟨g, 4, none⟩ = some v4 ∧ W.cell? ⟨g, 5, none⟩ = some v5 ∧ W.cell? ⟨g, 6, none⟩ = some v6 ∧ W.cell? ⟨g, 7, none⟩ = some v7) ∧
  (W.frozen? ⟨g, 0, none⟩ = false ∧ W.frozen? ⟨g, 1, none⟩ = false ∧ W.frozen? ⟨g, 2, none⟩ = false ∧ W.frozen? ⟨g, 3, none⟩ = false ∧ W.frozen? ⟨g, 4, none⟩ = false ∧ W.frozen? ⟨g, 5, none⟩ = false ∧ W.frozen? ⟨g, 6, none⟩ = false ∧ W.frozen? ⟨g, 7, none⟩ = false) :=
 ⟨⟨blk_cell h 0, blk_cell h 1, blk_cell h 2, blk_cell h 3, blk_cell h 4, blk_cell h 5, blk_cell h 6, blk_cell h 7⟩, ⟨blk_frozen h 0, blk_frozen h 1, blk_frozen h 2, blk_frozen h 3, blk_frozen h 4, blk_frozen h 5, blk_frozen h 6, blk_frozen h 7⟩⟩
section
variable {ops : Array Oper} {rest : List Oper} {o : Oper} {a : Act} {Q : Exit → Act → World → Prop} {Kc : Act → World → Prop} {W w0 : World} {b : Nat} {s x : Operand} {v : Value} {xs ys : List Int} {A : Option Addr} {c : Nat}
/-- append(xs, ys...) of bytes. -/
theorem ap8 (hgd : o.guard = none) (ho : o.op = .call { callee := .builtin .append, args := #[s, x], argTypes := #[23, 23] }) (hs : a.eval s = v) (hx : a.eval x = .slice A ys.length c) (HO : O8 W b v xs) (HC : Kd.C (Kd.int .u8) W A ys.length ys) (HB : Below b w0 W) (hb : b ≤ W.heap.size)
  (hl : xs.length + ys.length ≤ 140737488355328) (h : ∀ v1 w1, O8 w1 b v1 (xs ++ ys) → Below b w0 w1 → wpList Tryd.prog ops Q rest (a.put o.dst v1) w1) : wpList Tryd.prog ops Q (o :: rest) a W :=
 Kd.R_append_rows (Kd.int .u8) b hgd s x 23 5 (.int .u8 0) 1 ho Tryd.underlying23 info5 rfl (by decide) (by omega) v xs ys A ys.length c (fun k => b ≤ k) (fun _ => False) hs hx HO HC (fun _ _ h => h) (fun _ h => h.elim) (fun _ hk => Nat.le_trans hb hk) HB hb (by omega) (fun v1 w1 h1 h2 _ _ => h v1 w1 h1 h2)
theorem ap8_step (hw : Region.wanted o (yielded ops a.tmps) = true) (ho : o.op = .call { callee := .builtin .append, args := #[s, x], argTypes := #[23, 23] }) (hs : a.eval s = v) (hx : a.eval x = .slice A ys.length c) (HO : O8 W b v xs) (HC : Kd.C (Kd.int .u8) W A ys.length ys) (HB : Below b w0 W) (hb : b ≤ W.heap.size)
  (hl : xs.length + ys.length ≤ 140737488355328) (h : ∀ v1 w1, O8 w1 b v1 (xs ++ ys) → Below b w0 w1 → Kc (a.put o.dst v1) w1) : if Region.wanted o (yielded ops a.tmps) = true then Oper.wp Tryd.prog o a W Kc Q else Kc (a.put o.dst undef) W :=
 Kd.R_append_rows_step (Kd.int .u8) b hw s x 23 5 (.int .u8 0) 1 ho Tryd.underlying23 info5 rfl (by decide) (by omega) v xs ys A ys.length c (fun k => b ≤ k) (fun _ => False) hs hx HO HC (fun _ _ h => h) (fun _ h => h.elim) (fun _ hk => Nat.le_trans hb hk) HB hb (by omega) (fun v1 w1 h1 h2 _ _ => h v1 w1 h1 h2)
/-- append(xs, make([]byte, n)...). -/
theorem apz8 {n : Nat} (hgd : o.guard = none) (ho : o.op = .call { callee := .builtin .append, args := #[s, x], argTypes := #[23, 3] }) (hs : a.eval s = v) (hx : a.eval x = .int .i64 n) (HO : O8 W b v xs) (HB : Below b w0 W) (hb : b ≤ W.heap.size)
  (hl : xs.length + n ≤ 140737488355328) (h : ∀ v1 w1, O8 w1 b v1 (xs ++ List.replicate n 0) → Below b w0 w1 → wpList Tryd.prog ops Q rest (a.put o.dst v1) w1) : wpList Tryd.prog ops Q (o :: rest) a W :=
 Kd.R_append_zeros (Kd.int .u8) b hgd s x 23 3 5 (.int .u8 0) 1 ho Tryd.underlying23 Tryd.underlying3 info5 rfl (by decide) (by omega) v xs (0 : Int) (n : Int) (fun k => b ≤ k) hs hx rfl (fun _ hk => Nat.le_trans hb hk) HO (by omega) HB hb (by rw [Int.toNat_natCast]; omega) (fun v1 w1 h1 h2 _ _ => h v1 w1 h1 h2)
end
/-- An item in a box, in a world. -/
theorem boxed1 (w : World) (v0 v1 v2 v3 v4 v5 v6 v7 : Value) : ∃ w0 : World, w.alloc (Obj.cells #[v0, v1, v2, v3, v4, v5, v6, v7] 25) = w0 ∧ Below w.heap.size w w0 ∧ w0.heap.size = w.heap.size + 1 ∧ w0.heap[w.heap.size]? = some (.cells #[v0, v1, v2, v3, v4, v5, v6, v7] 25 (0, 0)) :=
 ⟨_, rfl, below_alloc (Below.refl _ _) _, by simp, blk_new w _⟩
theorem slices_Grow.is (n : Nat) (hn : n ≤ 1000000000) (w : World) :
  Calls Tryd.prog 57 #[.slice none 0 0, .int .i64 n] w fun e w' => ∃ v, e = .returned v ∧ O8 w' w.heap.size v [] ∧ Below w.heap.size w w' := by
 by_cases h0 : 0 < n
 ·
  have HN := Lib.hid h0
  have HB := ak (Below.refl w.heap.size w)
  have hd : decide ((n : Int) > 0) = true := decide_eq_true (by omega)
  have hd' : decide (0 < n) = true := decide_eq_true h0
  go_enter Tryd.func57, Tryd.ntmps57
  go_wp2_with (first | ((with_reducible refine gate_builtin (b := .append) (xs := #[.tmp 20, .tmp 21]) rfl ?_); at_builtin; refine apz8 (n := n) rfl rfl rfl rfl (O8.nil _ w.heap.size) HB.out (Nat.le_refl _) (by simp; omega) ?_; intro v1 w1 ho hb; rw [List.nil_append] at ho; obtain ⟨g, cap, rfl, hg1, hg2, _⟩ := Kd.R_form ho.out (by simpa using h0); rw [List.length_replicate] at ho ⊢; have HO := ak ho; have HB1 := ak hb; clear ho hb))
  go_ret
  exact ⟨_, rfl, by have := Kd.R_take HO.out.out (m := 0) (Nat.zero_le _); rwa [List.take_zero] at this, HB1.out⟩
 ·
  obtain rfl : n = 0 := by omega
  go_enter Tryd.func57, Tryd.ntmps57
  go_wp2_with fail
  go_ret
  exact ⟨_, rfl, O8.nil _ _, Below.refl _ _⟩
theorem flat_step (ll : List (List Int)) (k : Nat) (h : k < ll.length) : (ll.take (k + 1)).flatten = (ll.take k).flatten ++ ll.getD k [] := by
 rw [List.take_succ_eq_append_getElem h, List.flatten_append, List.getD_eq_getElem?_getD, List.getElem?_eq_getElem h]
 simp
theorem flat_le (ll : List (List Int)) (k : Nat) : (ll.take k).flatten.length ≤ ll.flatten.length := by
 have h : (ll.take k).flatten ++ (ll.drop k).flatten = ll.flatten := by rw [← List.flatten_append, List.take_append_drop]
 rw [← h, List.length_append]; omega
set_option maxHeartbeats 2000000 in
theorem slices_Concat.is (A0 : Option Addr) (c0 : Nat) (ll : List (List Int)) (w : World) (hC : Kd.C (Kd.slice 5 (Kd.int .u8)) w A0 ll.length ll) (hl : ll.flatten.length ≤ 1000000000) :
  Calls Tryd.prog 37 #[.slice A0 ll.length c0] w fun e w' => ∃ v, e = .returned v ∧ O8 w' w.heap.size v ll.flatten ∧ Below w.heap.size w w' := by
 have HC := ak hC
 have HL := Lib.hid hl
 have hm0 : ll.length ≤ 9223372036854775807 := Kd.C_max hC
 clear hC hl
 go_enter Tryd.func37, Tryd.ntmps37
 go_wp2_with fail
 go_loop [3, 11] (fun s i => ∃ k : Nat, k ≤ ll.length ∧ i = Value.int .i64 k ∧ s = Value.int .i64 ((ll.take k).flatten.length : Nat)) (fun _ i => ll.length - (intOf i).toNat)
 case atStart => exact ⟨0, Nat.zero_le _, rfl, by simp⟩
 case round =>
  obtain ⟨k, hk, rfl, rfl⟩ := hrel
  have h1 := flat_le ll k
  have hL := HL.out
  by_cases hlt : k < ll.length
  ·
   obtain ⟨ad, cs, rfl, _, hK, hc0⟩ := Kd.C_get HC.out ([] : List Int) (k : Int) (by omega) (by omega)
   obtain ⟨A1, c1, rfl, hl1, _⟩ := hK
   have hc := hc0 0 _ rfl
   rw [Int.toNat_natCast] at hc hl1
   have h2 := flat_le ll (k + 1)
   have h3 := flat_step ll k hlt
   rw [h3, List.length_append] at h2
   have H3 := Lib.hid h3
   clear h3 hc0 hl1
   have hc1 : w.cell? (ad.add k) = some (.slice A1 (ll.getD k []).length c1) := by
    rw [← hc]; congr 1; simp [Addr.add, Kd.slice]
   clear hc
   have hd3 : decide (k < ll.length) = true := decide_eq_true hlt
   generalize hg : (ll.getD k []).length = m at *
   generalize hg2 : (ll.take k).flatten.length = s at *
   have HG := Lib.hid hg
   have HG2 := Lib.hid hg2
   clear hg hg2
   go_wp2_with fail
   go_round
   case rel => exact ⟨k + 1, by omega, by go_num, by rw [H3.out, List.length_append, HG.out, HG2.out]; go_num⟩
   case measure => simp [intOf]; omega
  ·
   obtain rfl : k = ll.length := by omega
   rw [List.take_length]
   have hd3 : decide (ll.length < ll.length) = false := decide_eq_false (by omega)
   obtain ⟨s, hs⟩ : ∃ s, ll.flatten.length = s := ⟨_, rfl⟩
   have hs0 : s ≤ 1000000000 := by rw [← hs]; exact hL
   rw [hs]
   have HS := Lib.hid hs
   clear hs h1 hL
   go_wp2_with fail
   refine (slices_Grow.is s hs0 w).mono ?_
   rintro e w1 ⟨v, rfl, ho, hb⟩
   have HO := ak ho
   have HB := ak hb
   clear ho hb
   go_wp2_with fail
   go_loopw [27, 6] (fun i v wr => ∃ k : Nat, k ≤ ll.length ∧ i = Value.int .i64 k ∧ Aside0 (O8 wr w.heap.size v (ll.take k).flatten) ∧ Aside0 (Below w.heap.size w wr)) (fun i _ _ => ll.length - (intOf i).toNat)
   case atStart => exact ⟨0, Nat.zero_le _, rfl, ⟨by simpa using HO.out⟩, HB⟩
   case round =>
    clear HO HB hd3
    obtain ⟨k, hk, rfl, HO, HB⟩ := hrel
    by_cases hlt : k < ll.length
    ·
     obtain ⟨ad, cs, rfl, _, hK, hc0⟩ := Kd.C_get (Kd.C_below HC.out HB.out) ([] : List Int) (k : Int) (by omega) (by omega)
     obtain ⟨A1, c1, rfl, hl1, hC1⟩ := hK
     have hc := hc0 0 _ rfl
     rw [Int.toNat_natCast] at hc hl1 hC1
     have h3 := flat_step ll k hlt
     have h2 := flat_le ll (k + 1)
     rw [h3, List.length_append] at h2
     have H2 := Lib.hid h2
     have H3 := Lib.hid h3
     have HC1 := ak hC1
     clear h3 hc0 hl1 h2 hC1
     rw [show ad.add (k * (Kd.slice 5 (Kd.int .u8)).sz + 0) = ad.add k by simp [Addr.add, Kd.slice]] at hc
     have hd3 : decide (k < ll.length) = true := decide_eq_true hlt
     generalize ll.getD k [] = y at *
     go_wp2_with (first | ((with_reducible refine gate_builtin (b := .append) (xs := #[.tmp 31, .tmp 32]) rfl ?_); at_builtin; refine ap8 rfl rfl rfl rfl HO.out HC1.out HB.out HB.out.size (by have := H2.out; have := HL.out; omega) ?_; intro v1 w1 ho hb; have HO1 := ak ho; have HB1 := ak hb; clear ho hb))
     refine ⟨⟨k + 1, by omega, by go_num, ⟨by rw [H3.out]; exact HO1.out⟩, HB1⟩, by simp [intOf]; omega⟩
    ·
     obtain rfl : k = ll.length := by omega
     have hd3 : decide (ll.length < ll.length) = false := decide_eq_false (by omega)
     go_wp2_with fail
     go_ret
     exact ⟨_, rfl, by have := HO.out; rwa [List.take_length] at this, HB.out⟩
end Go.Proofs.YtieolhhokepkjaaDoor.Print
