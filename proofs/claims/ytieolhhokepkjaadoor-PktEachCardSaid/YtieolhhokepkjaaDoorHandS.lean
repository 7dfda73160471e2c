/- Which items are the same: the program's and the document's, as one Lean function, and that each call does just that. Conditions stand in each theorem. -/
import Derived.Test.YtieolhhokepkjaaDoorHand6
import Derived.Test.YtieolhhokepkjaaDoorNumRef
namespace Go.Proofs.YtieolhhokepkjaaDoor.Print
set_option linter.unusedVariables false
set_option linter.unusedSimpArgs false
open Go.RowKit Go.Proofs.YtieolhhokepkjaaDoorW.PrintWords Go.Proofs.YtieolhhokepkjaaDoorW.PrintLast Go.Proofs.YtieolhhokepkjaaDoorW.PrintMore Go.Proofs.YtieolhhokepkjaaDoor.NumPlain
theorem eq_loop (b : List Int) : ∀ (k : Nat) (a c d : List Int), a.length = c.length → b.length = d.length → a.length + b.length < 100000 → b.length < k →
  slices_Equal_int_int.l0 k (a ++ b) (c ++ d) ((a.length + b.length : Nat) : Int) a.length = some (decide (b = d)) := by
 induction b with
 | nil =>
  intro k a c d h1 h2 h3 hk
  obtain ⟨k, rfl⟩ : ∃ q, k = q + 1 := ⟨k - 1, by omega⟩
  obtain rfl := List.eq_nil_of_length_eq_zero h2.symm
  simp [slices_Equal_int_int.l0]
 | cons x b ih =>
  intro k a c d h1 h2 h3 hk
  simp only [List.length_cons] at h2 h3 hk
  obtain ⟨k, rfl⟩ : ∃ q, k = q + 1 := ⟨k - 1, by omega⟩
  obtain ⟨y, d, rfl⟩ := List.exists_cons_of_length_eq_add_one h2.symm
  simp only [List.length_cons] at h2
  simp only [slices_Equal_int_int.l0]
  rw [if_pos (by simp; omega), if_pos (by omega), if_pos (by simp; omega), if_pos (by simp; omega), rd_mid, show ((a.length : Nat) : Int) = ((c.length : Nat) : Int) by rw [h1], rd_mid, ← h1, wrap_id (by omega) (by omega)]
  by_cases hxy : x = y
  ·
   subst hxy
   have := ih k (a ++ [x]) (c ++ [x]) d (by simp; omega) (by omega) (by simp; omega) (by omega)
   rw [List.append_assoc, List.append_assoc, List.singleton_append, List.singleton_append, show ((a ++ [x]).length : Int) = (a.length : Int) + 1 by simp, show (a ++ [x]).length + b.length = a.length + (x :: b).length by simp; omega] at this
   rw [if_pos rfl, this]; simp
  ·
   rw [if_neg hxy]; simp [hxy]
theorem equal_is {a b : List Int} (hl : a.length < 10000) : slices_Equal_int_int.f 10000 a b = some (decide (a = b)) := by
 unfold slices_Equal_int_int.f
 by_cases h : (a.length : Int) = b.length
 ·
  rw [if_pos h]
  have := eq_loop a 10000 [] [] b rfl (by omega) (by simp; omega) (by omega)
  simpa using this
 ·
  rw [if_neg h, decide_eq_false (fun h2 => h (by rw [h2]))]
def sameB (k s e i t c : Int) (L bo : List Int) (k' s' e' i' t' c' : Int) (L' bo' : List Int) : Bool :=
 k == k' && (s == s' && (e == e' && (i == i' && (t == t' && (c == c' && (decide (L = L') && ((strOfNums bo).toList == (strOfNums bo').toList)))))))
def item_Same.f (k s e i t c : Int) (L bo : List Int) (k' s' e' i' t' c' : Int) (L' bo' : List Int) : Option Bool := if L.length < 10000 then some (sameB k s e i t c L bo k' s' e' i' t' c' L' bo') else none
def precentorref03_Same.f (k s e i t c : Int) (L bo : List Int) (k' s' e' i' t' c' : Int) (L' bo' : List Int) : Option Bool := item_Same.f k s e i t c L bo k' s' e' i' t' c' L' bo'
/-- Two items in two boxes. -/
theorem boxed2 (w : World) (v0 v1 v2 v3 v4 v5 v6 v7 u0 u1 u2 u3 u4 u5 u6 u7 : Value) : ∃ w0 : World, (w.alloc (Obj.cells #[v0, v1, v2, v3, v4, v5, v6, v7] 25)).alloc (Obj.cells #[u0, u1, u2, u3, u4, u5, u6, u7] 25) = w0 ∧ Below w.heap.size w w0 ∧
  w0.heap[w.heap.size]? = some (.cells #[v0, v1, v2, v3, v4, v5, v6, v7] 25 (0, 0)) ∧ w0.heap[w.heap.size + 1]? = some (.cells #[u0, u1, u2, u3, u4, u5, u6, u7] 25 (0, 0)) :=
 ⟨_, rfl, below_alloc (below_alloc (Below.refl _ _) _) _, blk_alloc (blk_new w _) _, by have := blk_new (w.alloc (Obj.cells #[v0, v1, v2, v3, v4, v5, v6, v7] 25)) (Obj.cells #[u0, u1, u2, u3, u4, u5, u6, u7] 25); simpa using this⟩
set_option maxRecDepth 100000 in
theorem item_Same.is (k s e i t c : Int) (A6 : Option Addr) (c6 : Nat) (L : List Int) (A7 : Option Addr) (c7 : Nat) (bo : List Int) (k' s' e' i' t' c' : Int) (B6 : Option Addr) (d6 : Nat) (L' : List Int) (B7 : Option Addr) (d7 : Nat) (bo' : List Int) (w : World) (q : Bool) (hq : sameB k s e i t c L bo k' s' e' i' t' c' L' bo' = q)
  (h6 : Kd.C (Kd.int .i64) w A6 L.length L) (l6 : L.length ≤ c6) (h7 : Kd.C (Kd.int .u8) w A7 bo.length bo) (l7 : bo.length ≤ c7) (g6 : Kd.C (Kd.int .i64) w B6 L'.length L') (m6 : L'.length ≤ d6) (g7 : Kd.C (Kd.int .u8) w B7 bo'.length bo') (m7 : bo'.length ≤ d7) (hL : L.length < 10000) :
  Calls Tryd.prog 34 #[.agg #[.int .i64 k, .int .i64 s, .int .i64 e, .int .i64 i, .int .i64 t, .int .i64 c, .slice A6 L.length c6, .slice A7 bo.length c7], .agg #[.int .i64 k', .int .i64 s', .int .i64 e', .int .i64 i', .int .i64 t', .int .i64 c', .slice B6 L'.length d6, .slice B7 bo'.length d7]] w fun e w' => e = .returned (.bool q) ∧ Below w.heap.size w w' := by
 obtain ⟨w0, hw0, hB0, X0, Y0⟩ := boxed2 w (.int .i64 k) (.int .i64 s) (.int .i64 e) (.int .i64 i) (.int .i64 t) (.int .i64 c) (.slice A6 L.length c6) (.slice A7 bo.length c7) (.int .i64 k') (.int .i64 s') (.int .i64 e') (.int .i64 i') (.int .i64 t') (.int .i64 c') (.slice B6 L'.length d6) (.slice B7 bo'.length d7)
 obtain ⟨⟨q0, q1, q2, q3, q4, q5, q6, q7⟩, _⟩ := cells8 X0
 obtain ⟨⟨p0, p1, p2, p3, p4, p5, p6, p7⟩, _⟩ := cells8 Y0
 have HB0 := ak hB0
 have HE := Lib.hid (fun r h => slices_Equal_int_int.calls 10000 A6 c6 L B6 d6 L' r w0 (Kd.C_below h6 hB0) l6 (Kd.C_below g6 hB0) m6 h)
 have HR := Lib.hid (equal_is (a := L) (b := L') hL)
 have HF := Lib.hid (fun (m : Nat) => bytes_Equal.calls A7 c7 bo B7 d7 bo' _ (w0.drewN m) (Kd.C_drewN (Kd.C_below h7 hB0) m) l7 (Kd.C_drewN (Kd.C_below g7 hB0) m) m7 rfl)
 clear X0 Y0 hB0 h6 h7 g6 g7 l6 l7 m6 m7 hL
 unfold sameB at hq
 by_cases h0 : k = k'
 ·
  subst h0
  rw [beq_self_eq_true, Bool.true_and] at hq
  by_cases h1 : s = s'
  ·
   subst h1
   rw [beq_self_eq_true, Bool.true_and] at hq
   by_cases h2 : e = e'
   ·
    subst h2
    rw [beq_self_eq_true, Bool.true_and] at hq
    by_cases h3 : i = i'
    ·
     subst h3
     rw [beq_self_eq_true, Bool.true_and] at hq
     by_cases h4 : t = t'
     ·
      subst h4
      rw [beq_self_eq_true, Bool.true_and] at hq
      by_cases h5 : c = c'
      ·
       subst h5
       rw [beq_self_eq_true, Bool.true_and] at hq
       cases hr : decide (L = L')
       ·
        rw [hr] at HR
        rw [hr, Bool.false_and] at hq
        subst hq
        clear hr
        go_enter Tryd.func34, Tryd.ntmps34
        go_wp2_with fail
        refine (HE.out false HR.out).mono ?_
        rintro e w' ⟨rfl, ⟨⟨nq, rfl⟩⟩⟩
        go_wp2_with fail
        go_ret
        exact ⟨rfl, pw_below_drewN HB0.out nq⟩
       ·
        rw [hr] at HR
        rw [hr, Bool.true_and] at hq
        clear hr
        generalize ((strOfNums bo).toList == (strOfNums bo').toList) = z at *
        subst hq
        go_enter Tryd.func34, Tryd.ntmps34
        go_wp2_with fail
        refine (HE.out true HR.out).mono ?_
        rintro e w' ⟨rfl, ⟨⟨nq, rfl⟩⟩⟩
        go_wp2_with fail
        refine (HF.out nq).mono ?_
        rintro e w' ⟨rfl, ⟨⟨nr, rfl⟩⟩⟩
        go_wp2_with fail
        go_ret
        exact ⟨rfl, pw_below_drewN HB0.out _⟩
      ·
       have b5 : (c == c') = false := beq_eq_false_iff_ne.2 h5
       rw [b5, Bool.false_and] at hq
       subst hq
       clear h5
       go_enter Tryd.func34, Tryd.ntmps34
       go_wp2_with fail
       go_ret
       exact ⟨rfl, HB0.out⟩
     ·
      have b4 : (t == t') = false := beq_eq_false_iff_ne.2 h4
      rw [b4, Bool.false_and] at hq
      subst hq
      clear h4
      go_enter Tryd.func34, Tryd.ntmps34
      go_wp2_with fail
      go_ret
      exact ⟨rfl, HB0.out⟩
    ·
     have b3 : (i == i') = false := beq_eq_false_iff_ne.2 h3
     rw [b3, Bool.false_and] at hq
     subst hq
     clear h3
     go_enter Tryd.func34, Tryd.ntmps34
     go_wp2_with fail
     go_ret
     exact ⟨rfl, HB0.out⟩
   ·
    have b2 : (e == e') = false := beq_eq_false_iff_ne.2 h2
    rw [b2, Bool.false_and] at hq
    subst hq
    clear h2
    go_enter Tryd.func34, Tryd.ntmps34
    go_wp2_with fail
    go_ret
    exact ⟨rfl, HB0.out⟩
  ·
   have b1 : (s == s') = false := beq_eq_false_iff_ne.2 h1
   rw [b1, Bool.false_and] at hq
   subst hq
   clear h1
   go_enter Tryd.func34, Tryd.ntmps34
   go_wp2_with fail
   go_ret
   exact ⟨rfl, HB0.out⟩
 ·
  have b0 : (k == k') = false := beq_eq_false_iff_ne.2 h0
  rw [b0, Bool.false_and] at hq
  subst hq
  clear h0
  go_enter Tryd.func34, Tryd.ntmps34
  go_wp2_with fail
  go_ret
  exact ⟨rfl, HB0.out⟩
theorem item_Same.calls (a0_0 a0_1 a0_2 a0_3 a0_4 a0_5 : Int) (A0_6 : Option Addr) (c0_6 : Nat) (l0_6 : List Int) (A0_7 : Option Addr) (c0_7 : Nat) (l0_7 : List Int) (a1_0 a1_1 a1_2 a1_3 a1_4 a1_5 : Int) (A1_6 : Option Addr) (c1_6 : Nat) (l1_6 : List Int) (A1_7 : Option Addr) (c1_7 : Nat) (l1_7 : List Int) (r : Bool) (w : World) (hr0_6 : Kd.C (Kd.int .i64) w A0_6 l0_6.length l0_6) (hc0_6 : l0_6.length ≤ c0_6) (hr0_7 : Kd.C (Kd.int .u8) w A0_7 l0_7.length l0_7) (hc0_7 : l0_7.length ≤ c0_7)
  (hr1_6 : Kd.C (Kd.int .i64) w A1_6 l1_6.length l1_6) (hc1_6 : l1_6.length ≤ c1_6) (hr1_7 : Kd.C (Kd.int .u8) w A1_7 l1_7.length l1_7) (hc1_7 : l1_7.length ≤ c1_7) (h : item_Same.f a0_0 a0_1 a0_2 a0_3 a0_4 a0_5 l0_6 l0_7 a1_0 a1_1 a1_2 a1_3 a1_4 a1_5 l1_6 l1_7 = some r) :
  Calls Tryd.prog 34 #[.agg #[.int .i64 a0_0, .int .i64 a0_1, .int .i64 a0_2, .int .i64 a0_3, .int .i64 a0_4, .int .i64 a0_5, .slice A0_6 l0_6.length c0_6, .slice A0_7 l0_7.length c0_7], .agg #[.int .i64 a1_0, .int .i64 a1_1, .int .i64 a1_2, .int .i64 a1_3, .int .i64 a1_4, .int .i64 a1_5, .slice A1_6 l1_6.length c1_6, .slice A1_7 l1_7.length c1_7]] w fun e w' => e = .returned (.bool r) ∧ Below w.heap.size w w' := by
 unfold item_Same.f at h
 by_cases hl : l0_6.length < 10000
 ·
  rw [if_pos hl] at h
  exact item_Same.is _ _ _ _ _ _ _ _ _ _ _ _ _ _ _ _ _ _ _ _ _ _ _ _ _ r (Option.some.inj h) hr0_6 hc0_6 hr0_7 hc0_7 hr1_6 hc1_6 hr1_7 hc1_7 hl
 ·
  rw [if_neg hl] at h; cases h
set_option maxRecDepth 100000 in
theorem precentorref03_Same.is (k s e i t c : Int) (A6 : Option Addr) (c6 : Nat) (L : List Int) (A7 : Option Addr) (c7 : Nat) (bo : List Int) (k' s' e' i' t' c' : Int) (B6 : Option Addr) (d6 : Nat) (L' : List Int) (B7 : Option Addr) (d7 : Nat) (bo' : List Int) (w : World) (q : Bool) (hq : sameB k s e i t c L bo k' s' e' i' t' c' L' bo' = q)
  (h6 : Kd.C (Kd.int .i64) w A6 L.length L) (l6 : L.length ≤ c6) (h7 : Kd.C (Kd.int .u8) w A7 bo.length bo) (l7 : bo.length ≤ c7) (g6 : Kd.C (Kd.int .i64) w B6 L'.length L') (m6 : L'.length ≤ d6) (g7 : Kd.C (Kd.int .u8) w B7 bo'.length bo') (m7 : bo'.length ≤ d7) (hL : L.length < 10000) :
  Calls Tryd.prog 32 #[.agg #[.int .i64 k, .int .i64 s, .int .i64 e, .int .i64 i, .int .i64 t, .int .i64 c, .slice A6 L.length c6, .slice A7 bo.length c7], .agg #[.int .i64 k', .int .i64 s', .int .i64 e', .int .i64 i', .int .i64 t', .int .i64 c', .slice B6 L'.length d6, .slice B7 bo'.length d7]] w fun e w' => e = .returned (.bool q) ∧ Below w.heap.size w w' := by
 obtain ⟨w0, hw0, hB0, X0, Y0⟩ := boxed2 w (.int .i64 k) (.int .i64 s) (.int .i64 e) (.int .i64 i) (.int .i64 t) (.int .i64 c) (.slice A6 L.length c6) (.slice A7 bo.length c7) (.int .i64 k') (.int .i64 s') (.int .i64 e') (.int .i64 i') (.int .i64 t') (.int .i64 c') (.slice B6 L'.length d6) (.slice B7 bo'.length d7)
 obtain ⟨⟨q0, q1, q2, q3, q4, q5, q6, q7⟩, _⟩ := cells8 X0
 obtain ⟨⟨p0, p1, p2, p3, p4, p5, p6, p7⟩, _⟩ := cells8 Y0
 have HB0 := ak hB0
 have HE := Lib.hid (fun r h => precentorref02_Same.calls 10000 A6 c6 L B6 d6 L' r w0 (Kd.C_below h6 hB0) l6 (Kd.C_below g6 hB0) m6 h)
 have HR := Lib.hid (same_is (a := L) (b := L') hL (show L.length < 10000 from hL))
 have s0 := fun m : Nat => Kd.C_string (P := Tryd.prog) (A := A7) (c := c7) Tryd.underlying23 Tryd.underlying5 Tryd.underlying9 (Kd.C_drewN (Kd.C_below h7 hB0) m)
 have s1 := fun m : Nat => Kd.C_string (P := Tryd.prog) (A := B7) (c := d7) Tryd.underlying23 Tryd.underlying5 Tryd.underlying9 (Kd.C_drewN (Kd.C_below g7 hB0) m)
 clear X0 Y0 hB0 h6 h7 g6 g7 l6 l7 m6 m7 hL
 unfold sameB at hq
 cases hr : decide (L = L')
 ·
  rw [hr] at HR
  simp only [hr, Bool.false_and, Bool.and_false] at hq
  subst hq
  clear hr
  go_enter Tryd.func32, Tryd.ntmps32
  go_wp2_with fail
  refine (HE.out false HR.out).mono ?_
  rintro e w' ⟨rfl, ⟨⟨nq, rfl⟩⟩⟩
  go_wp2_with fail
  go_ret
  exact ⟨rfl, pw_below_drewN HB0.out nq⟩
 ·
  rw [hr] at HR
  simp only [hr, Bool.true_and] at hq
  clear hr
  by_cases h0 : k = k'
  ·
   subst h0
   rw [beq_self_eq_true, Bool.true_and] at hq
   by_cases h1 : s = s'
   ·
    subst h1
    rw [beq_self_eq_true, Bool.true_and] at hq
    by_cases h2 : e = e'
    ·
     subst h2
     rw [beq_self_eq_true, Bool.true_and] at hq
     by_cases h3 : i = i'
     ·
      subst h3
      rw [beq_self_eq_true, Bool.true_and] at hq
      by_cases h4 : t = t'
      ·
       subst h4
       rw [beq_self_eq_true, Bool.true_and] at hq
       by_cases h5 : c = c'
       ·
        subst h5
        rw [beq_self_eq_true, Bool.true_and] at hq
        generalize hz : ((strOfNums bo).toList == (strOfNums bo').toList) = z at *
        subst hq
        have HZ := hz
        go_enter Tryd.func32, Tryd.ntmps32
        go_wp2_with fail
        refine (HE.out true HR.out).mono ?_
        rintro e w' ⟨rfl, ⟨⟨nq, rfl⟩⟩⟩
        go_wp2_with fail
        go_ret
        exact ⟨rfl, pw_below_drewN HB0.out nq⟩
       ·
        have b5 : (c == c') = false := beq_eq_false_iff_ne.2 h5
        rw [b5, Bool.false_and] at hq
        subst hq
        clear h5
        go_enter Tryd.func32, Tryd.ntmps32
        go_wp2_with fail
        refine (HE.out true HR.out).mono ?_
        rintro e w' ⟨rfl, ⟨⟨nq, rfl⟩⟩⟩
        go_wp2_with fail
        go_ret
        exact ⟨rfl, pw_below_drewN HB0.out nq⟩
      ·
       have b4 : (t == t') = false := beq_eq_false_iff_ne.2 h4
       rw [b4, Bool.false_and] at hq
       subst hq
       clear h4
       go_enter Tryd.func32, Tryd.ntmps32
       go_wp2_with fail
       refine (HE.out true HR.out).mono ?_
       rintro e w' ⟨rfl, ⟨⟨nq, rfl⟩⟩⟩
       go_wp2_with fail
       go_ret
       exact ⟨rfl, pw_below_drewN HB0.out nq⟩
     ·
      have b3 : (i == i') = false := beq_eq_false_iff_ne.2 h3
      rw [b3, Bool.false_and] at hq
      subst hq
      clear h3
      go_enter Tryd.func32, Tryd.ntmps32
      go_wp2_with fail
      refine (HE.out true HR.out).mono ?_
      rintro e w' ⟨rfl, ⟨⟨nq, rfl⟩⟩⟩
      go_wp2_with fail
      go_ret
      exact ⟨rfl, pw_below_drewN HB0.out nq⟩
    ·
     have b2 : (e == e') = false := beq_eq_false_iff_ne.2 h2
     rw [b2, Bool.false_and] at hq
     subst hq
     clear h2
     go_enter Tryd.func32, Tryd.ntmps32
     go_wp2_with fail
     refine (HE.out true HR.out).mono ?_
     rintro e w' ⟨rfl, ⟨⟨nq, rfl⟩⟩⟩
     go_wp2_with fail
     go_ret
     exact ⟨rfl, pw_below_drewN HB0.out nq⟩
   ·
    have b1 : (s == s') = false := beq_eq_false_iff_ne.2 h1
    rw [b1, Bool.false_and] at hq
    subst hq
    clear h1
    go_enter Tryd.func32, Tryd.ntmps32
    go_wp2_with fail
    refine (HE.out true HR.out).mono ?_
    rintro e w' ⟨rfl, ⟨⟨nq, rfl⟩⟩⟩
    go_wp2_with fail
    go_ret
    exact ⟨rfl, pw_below_drewN HB0.out nq⟩
  ·
   have b0 : (k == k') = false := beq_eq_false_iff_ne.2 h0
   rw [b0, Bool.false_and] at hq
   subst hq
   clear h0
   go_enter Tryd.func32, Tryd.ntmps32
   go_wp2_with fail
   refine (HE.out true HR.out).mono ?_
   rintro e w' ⟨rfl, ⟨⟨nq, rfl⟩⟩⟩
   go_wp2_with fail
   go_ret
   exact ⟨rfl, pw_below_drewN HB0.out nq⟩
theorem precentorref03_Same.calls (a0_0 a0_1 a0_2 a0_3 a0_4 a0_5 : Int) (A0_6 : Option Addr) (c0_6 : Nat) (l0_6 : List Int) (A0_7 : Option Addr) (c0_7 : Nat) (l0_7 : List Int) (a1_0 a1_1 a1_2 a1_3 a1_4 a1_5 : Int) (A1_6 : Option Addr) (c1_6 : Nat) (l1_6 : List Int) (A1_7 : Option Addr) (c1_7 : Nat) (l1_7 : List Int) (r : Bool) (w : World) (hr0_6 : Kd.C (Kd.int .i64) w A0_6 l0_6.length l0_6) (hc0_6 : l0_6.length ≤ c0_6) (hr0_7 : Kd.C (Kd.int .u8) w A0_7 l0_7.length l0_7) (hc0_7 : l0_7.length ≤ c0_7)
  (hr1_6 : Kd.C (Kd.int .i64) w A1_6 l1_6.length l1_6) (hc1_6 : l1_6.length ≤ c1_6) (hr1_7 : Kd.C (Kd.int .u8) w A1_7 l1_7.length l1_7) (hc1_7 : l1_7.length ≤ c1_7) (h : precentorref03_Same.f a0_0 a0_1 a0_2 a0_3 a0_4 a0_5 l0_6 l0_7 a1_0 a1_1 a1_2 a1_3 a1_4 a1_5 l1_6 l1_7 = some r) :
  Calls Tryd.prog 32 #[.agg #[.int .i64 a0_0, .int .i64 a0_1, .int .i64 a0_2, .int .i64 a0_3, .int .i64 a0_4, .int .i64 a0_5, .slice A0_6 l0_6.length c0_6, .slice A0_7 l0_7.length c0_7], .agg #[.int .i64 a1_0, .int .i64 a1_1, .int .i64 a1_2, .int .i64 a1_3, .int .i64 a1_4, .int .i64 a1_5, .slice A1_6 l1_6.length c1_6, .slice A1_7 l1_7.length c1_7]] w fun e w' => e = .returned (.bool r) ∧ Below w.heap.size w w' := by
 unfold precentorref03_Same.f at h; unfold item_Same.f at h
 by_cases hl : l0_6.length < 10000
 ·
  rw [if_pos hl] at h
  exact precentorref03_Same.is _ _ _ _ _ _ _ _ _ _ _ _ _ _ _ _ _ _ _ _ _ _ _ _ _ r (Option.some.inj h) hr0_6 hc0_6 hr0_7 hc0_7 hr1_6 hc1_6 hr1_7 hc1_7 hl
 ·
  rw [if_neg hl] at h; cases h
end Go.Proofs.YtieolhhokepkjaaDoor.Print
