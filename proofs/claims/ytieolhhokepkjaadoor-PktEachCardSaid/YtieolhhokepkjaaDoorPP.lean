/- Which packets may be and are the same: what the printed functions come to. Conditions stand in each theorem. -/
import Derived.Test.YtieolhhokepkjaaDoorHandS
import Derived.Test.YtieolhhokepkjaaDoorHand5
import Derived.Test.YtieolhhokepkjaaDoorHand7b
import Derived.Test.YtieolhhokepkjaaDoorHand8
import Derived.Test.YtieolhhokepkjaaDoorPrint0
import Derived.Test.YtieolhhokepkjaaDoorBase3
import Derived.Test.YtieolhhokepkjaaDoorItemMore
namespace Go.Proofs.YtieolhhokepkjaaDoor.Print
set_option linter.unusedVariables false
set_option linter.unusedSimpArgs false
open Go.RowKit Go.Proofs.YtieolhhokepkjaaDoorW.PrintWords Go.Proofs.YtieolhhokepkjaaDoorW.PrintLast Go.Proofs.YtieolhhokepkjaaDoorW.PrintMore Go.Proofs.YtieolhhokepkjaaDoor.NumPlain
theorem cells15 {W : World} {g t : Nat} {v0 v1 v2 v3 v4 v5 v6 v7 v8 v9 v10 v11 v12 v13 v14 : Value} (h : W.heap[g]? = some (.cells #[v0, v1, v2, v3, v4, v5, v6, v7, v8, v9, v10, v11, v12, v13, v14] t (0, 0))) :
  (W.cell? ⟨g, 0, none⟩ = some v0 ∧ W.cell? ⟨g, 1, none⟩ = some v1 ∧ W.cell? ⟨g, 2, none⟩ = some v2 ∧ W.cell? ⟨g, 3, none⟩ = some v3 ∧ W.cell? ⟨g, 4, none⟩ = some v4 ∧ W.cell? ⟨g, 5, none⟩ = some v5 ∧ W.cell? ⟨g, 6, none⟩ = some v6 ∧ W.cell? ⟨g, 7, none⟩ = some v7 ∧ W.cell? ⟨g, 8, none⟩ = some v8 ∧ W.cell? ⟨g, 9, none⟩ = some v9 ∧ W.cell? ⟨g, 10, none⟩ = some v10 ∧ W.cell? ⟨g, 11, none⟩ = some v11 ∧ W.cell? ⟨g, 12, none⟩ = some v12 ∧ W.cell? ⟨g, 13, none⟩ = some v13 ∧ W.cell? ⟨g, 14, none⟩ = some v14) ∧
  (W.frozen? ⟨g, 0, none⟩ = false ∧ W.frozen? ⟨g, 1, none⟩ = false ∧ W.frozen? ⟨g, 2, none⟩ = false ∧ W.frozen? ⟨g, 3, none⟩ = false ∧ W.frozen? ⟨g, 4, none⟩ = false ∧ W.frozen? ⟨g, 5, none⟩ = false ∧ W.frozen? ⟨g, 6, none⟩ = false ∧ W.frozen? ⟨g, 7, none⟩ = false ∧ W.frozen? ⟨g, 8, none⟩ = false ∧ W.frozen? ⟨g, 9, none⟩ = false ∧ W.frozen? ⟨g, 10, none⟩ = false ∧ W.frozen? ⟨g, 11, none⟩ = false ∧ W.frozen? ⟨g, 12, none⟩ = false ∧ W.frozen? ⟨g, 13, none⟩ = false ∧ W.frozen? ⟨g, 14, none⟩ = false) :=
 ⟨⟨blk_cell h 0, blk_cell h 1, blk_cell h 2, blk_cell h 3, blk_cell h 4, blk_cell h 5, blk_cell h 6, blk_cell h 7, blk_cell h 8, blk_cell h 9, blk_cell h 10, blk_cell h 11, blk_cell h 12, blk_cell h 13, blk_cell h 14⟩, ⟨blk_frozen h 0, blk_frozen h 1, blk_frozen h 2, blk_frozen h 3, blk_frozen h 4, blk_frozen h 5, blk_frozen h 6, blk_frozen h 7, blk_frozen h 8, blk_frozen h 9, blk_frozen h 10, blk_frozen h 11, blk_frozen h 12, blk_frozen h 13, blk_frozen h 14⟩⟩
theorem boxed15 (w : World) (v0 v1 v2 v3 v4 v5 v6 v7 v8 v9 v10 v11 v12 v13 v14 : Value) : ∃ w0 : World, w.alloc (Obj.cells #[v0, v1, v2, v3, v4, v5, v6, v7, v8, v9, v10, v11, v12, v13, v14] 27) = w0 ∧ Below w.heap.size w w0 ∧ w0.heap.size = w.heap.size + 1 ∧ w0.heap[w.heap.size]? = some (.cells #[v0, v1, v2, v3, v4, v5, v6, v7, v8, v9, v10, v11, v12, v13, v14] 27 (0, 0)) :=
 ⟨_, rfl, below_alloc (Below.refl _ _) _, by simp, blk_new w _⟩
theorem box15 {W : World} {g t : Nat} {o0 o1 o2 o3 o4 o5 o6 o7 o8 o9 o10 o11 o12 o13 o14 : Value} (h : W.heap[g]? = some (.cells #[o0, o1, o2, o3, o4, o5, o6, o7, o8, o9, o10, o11, o12, o13, o14] t (0, 0))) (v0 v1 v2 v3 v4 v5 v6 v7 v8 v9 v10 v11 v12 v13 v14 : Value) :
  ∃ W', ((((((((((((((W.setCell ⟨g, 0, none⟩ v0).setCell ⟨g, 1, none⟩ v1).setCell ⟨g, 2, none⟩ v2).setCell ⟨g, 3, none⟩ v3).setCell ⟨g, 4, none⟩ v4).setCell ⟨g, 5, none⟩ v5).setCell ⟨g, 6, none⟩ v6).setCell ⟨g, 7, none⟩ v7).setCell ⟨g, 8, none⟩ v8).setCell ⟨g, 9, none⟩ v9).setCell ⟨g, 10, none⟩ v10).setCell ⟨g, 11, none⟩ v11).setCell ⟨g, 12, none⟩ v12).setCell ⟨g, 13, none⟩ v13).setCell ⟨g, 14, none⟩ v14 = W' ∧ W'.heap[g]? = some (.cells #[v0, v1, v2, v3, v4, v5, v6, v7, v8, v9, v10, v11, v12, v13, v14] t (0, 0)) ∧ Mv W W' (fun k => k = g) := by
 have h0 := blk_put h 0 v0 (cs' := #[v0, o1, o2, o3, o4, o5, o6, o7, o8, o9, o10, o11, o12, o13, o14]) rfl
 have h1 := blk_put h0 1 v1 (cs' := #[v0, v1, o2, o3, o4, o5, o6, o7, o8, o9, o10, o11, o12, o13, o14]) rfl
 have h2 := blk_put h1 2 v2 (cs' := #[v0, v1, v2, o3, o4, o5, o6, o7, o8, o9, o10, o11, o12, o13, o14]) rfl
 have h3 := blk_put h2 3 v3 (cs' := #[v0, v1, v2, v3, o4, o5, o6, o7, o8, o9, o10, o11, o12, o13, o14]) rfl
 have h4 := blk_put h3 4 v4 (cs' := #[v0, v1, v2, v3, v4, o5, o6, o7, o8, o9, o10, o11, o12, o13, o14]) rfl
 have h5 := blk_put h4 5 v5 (cs' := #[v0, v1, v2, v3, v4, v5, o6, o7, o8, o9, o10, o11, o12, o13, o14]) rfl
 have h6 := blk_put h5 6 v6 (cs' := #[v0, v1, v2, v3, v4, v5, v6, o7, o8, o9, o10, o11, o12, o13, o14]) rfl
 have h7 := blk_put h6 7 v7 (cs' := #[v0, v1, v2, v3, v4, v5, v6, v7, o8, o9, o10, o11, o12, o13, o14]) rfl
 have h8 := blk_put h7 8 v8 (cs' := #[v0, v1, v2, v3, v4, v5, v6, v7, v8, o9, o10, o11, o12, o13, o14]) rfl
 have h9 := blk_put h8 9 v9 (cs' := #[v0, v1, v2, v3, v4, v5, v6, v7, v8, v9, o10, o11, o12, o13, o14]) rfl
 have h10 := blk_put h9 10 v10 (cs' := #[v0, v1, v2, v3, v4, v5, v6, v7, v8, v9, v10, o11, o12, o13, o14]) rfl
 have h11 := blk_put h10 11 v11 (cs' := #[v0, v1, v2, v3, v4, v5, v6, v7, v8, v9, v10, v11, o12, o13, o14]) rfl
 have h12 := blk_put h11 12 v12 (cs' := #[v0, v1, v2, v3, v4, v5, v6, v7, v8, v9, v10, v11, v12, o13, o14]) rfl
 have h13 := blk_put h12 13 v13 (cs' := #[v0, v1, v2, v3, v4, v5, v6, v7, v8, v9, v10, v11, v12, v13, o14]) rfl
 have h14 := blk_put h13 14 v14 (cs' := #[v0, v1, v2, v3, v4, v5, v6, v7, v8, v9, v10, v11, v12, v13, v14]) rfl
 have m0 : Mv W W (fun k => k = g) := Mv.below (Below.refl _ W) _
 have m1 := m0.setCell (p := ⟨g, 0, none⟩) (Or.inl rfl) v0
 have m2 := m1.setCell (p := ⟨g, 1, none⟩) (Or.inl rfl) v1
 have m3 := m2.setCell (p := ⟨g, 2, none⟩) (Or.inl rfl) v2
 have m4 := m3.setCell (p := ⟨g, 3, none⟩) (Or.inl rfl) v3
 have m5 := m4.setCell (p := ⟨g, 4, none⟩) (Or.inl rfl) v4
 have m6 := m5.setCell (p := ⟨g, 5, none⟩) (Or.inl rfl) v5
 have m7 := m6.setCell (p := ⟨g, 6, none⟩) (Or.inl rfl) v6
 have m8 := m7.setCell (p := ⟨g, 7, none⟩) (Or.inl rfl) v7
 have m9 := m8.setCell (p := ⟨g, 8, none⟩) (Or.inl rfl) v8
 have m10 := m9.setCell (p := ⟨g, 9, none⟩) (Or.inl rfl) v9
 have m11 := m10.setCell (p := ⟨g, 10, none⟩) (Or.inl rfl) v10
 have m12 := m11.setCell (p := ⟨g, 11, none⟩) (Or.inl rfl) v11
 have m13 := m12.setCell (p := ⟨g, 12, none⟩) (Or.inl rfl) v12
 have m14 := m13.setCell (p := ⟨g, 13, none⟩) (Or.inl rfl) v13
 have m15 := m14.setCell (p := ⟨g, 14, none⟩) (Or.inl rfl) v14
 exact ⟨_, rfl, h14, m15⟩
/-- Has a packet no item? -/
def bareB (k s e i t c : Int) (L bo : List Int) : Bool := sameB k s e i t c L bo 0 0 0 0 0 0 [] []
def mayP (K F : Int) (it : Bool) (ba : Bool) (T O M P : Int) (R : List Int) : Bool :=
 wi F 0 63 && (if K = 1 ∨ K = 2 then it && (decide (T = 0) && (decide (O = 0) && (decide (M = 0) && (decide (P = 0) && decide (R.length = 0)))))
  else if K = 3 then ba && (wi T 0 63 && (wi O 1 4611686018427387904 && (wi M 1 64 && (decide (P = 0) && decide (R.length = 0)))))
  else if K = 4 then each R 4611686018427387904 && (ba && (decide (T = 0) && (decide (O = 0) && (decide (M = 0) && (wi P 0 4611686018427387904 && wi (R.length : Int) 2 64)))))
  else false)
end Go.Proofs.YtieolhhokepkjaaDoor.Print
namespace Go.Proofs.YtieolhhokepkjaaDoor.Print
open Go.RowKit Go.Proofs.YtieolhhokepkjaaDoorW.PrintWords Go.Proofs.YtieolhhokepkjaaDoorW.PrintLast Go.Proofs.YtieolhhokepkjaaDoorW.PrintMore
attribute [local go_sem] max2_int min2_int max_two min_two max_three min_three max_four min_four
set_option linter.unusedVariables false
set_option linter.unusedSimpArgs false
/-! ### pkt_within: function 29 -/
def pkt_within.f (a0 : Int) (a1 : Int) (a2 : Int) : Option (Bool) := if a0 ≥ a1 then (some (decide (a0 ≤ a2))) else (some false)
set_option maxHeartbeats 8000000 in
set_option maxRecDepth 100000 in
theorem pkt_within.calls (a0 : Int) (a1 : Int) (a2 : Int) (r : Bool) (w : World) (h : pkt_within.f a0 a1 a2 = some r) :
  Calls Tryd.prog 29 #[.int .i64 a0, .int .i64 a1, .int .i64 a2] w fun e w' => e = .returned (.bool r) ∧ Drawn0 w w' := by
 have H : (if a0 ≥ a1 then (some (decide (a0 ≤ a2))) else (some false)) = some r := h
 clear h
 by_cases c4 : a0 ≥ a1
 ·
  rw [if_pos c4] at H
  have c4b0 : decide (a1 ≤ a0) = true := decide_eq_true c4
  clear c4
  obtain rfl := Option.some.inj H
  go_enter Tryd.func29, Tryd.ntmps29
  go_wp2
  go_ret
  exact ⟨by first | rfl | (simp; done) | (simp [*]; done), by repeat (first | exact Drawn0.refl _ | apply Drawn0.step)⟩
 ·
  rw [if_neg c4] at H
  have c4b0 : decide (a1 ≤ a0) = false := decide_eq_false c4
  clear c4
  obtain rfl := Option.some.inj H
  go_enter Tryd.func29, Tryd.ntmps29
  go_wp2
  go_ret
  exact ⟨by first | rfl | (simp; done) | (simp [*]; done), by repeat (first | exact Drawn0.refl _ | apply Drawn0.step)⟩
/-! ### pkt_bare: function 31 -/
def pkt_bare.f (a0_0 : Int) (a0_1 : Int) (a0_2 : Int) (a0_3 : Int) (a0_4 : Int) (a0_5 : Int) (a0_6 : Int) (a0_7 : Int) (l0_8 : List Int) (l0_9 : List Int) (a0_10 : Int) (a0_11 : Int) (a0_12 : Int) (a0_13 : Int) (l0_14 : List Int) : Option (Bool) := (item_Same.f a0_2 a0_3 a0_4 a0_5 a0_6 a0_7 l0_8 l0_9 0 0 0 0 0 0 ([] : List Int) ([] : List Int)).bind fun t102 => (some t102)
set_option maxHeartbeats 8000000 in
set_option maxRecDepth 100000 in
theorem pkt_bare.calls (a0_0 : Int) (a0_1 : Int) (a0_2 : Int) (a0_3 : Int) (a0_4 : Int) (a0_5 : Int) (a0_6 : Int) (a0_7 : Int) (A0_8 : Option Addr) (c0_8 : Nat) (l0_8 : List Int) (A0_9 : Option Addr) (c0_9 : Nat) (l0_9 : List Int) (a0_10 : Int) (a0_11 : Int) (a0_12 : Int) (a0_13 : Int) (A0_14 : Option Addr) (c0_14 : Nat) (l0_14 : List Int) (r : Bool) (w : World) (hr0_8 : Kd.C (Kd.int .i64) w A0_8 l0_8.length l0_8) (hc0_8 : l0_8.length ≤ c0_8) (hr0_9 : Kd.C (Kd.int .u8) w A0_9 l0_9.length l0_9) (hc0_9 : l0_9.length ≤ c0_9) (hr0_14 : Kd.C (Kd.int .i64) w A0_14 l0_14.length l0_14) (hc0_14 : l0_14.length ≤ c0_14) (h : pkt_bare.f a0_0 a0_1 a0_2 a0_3 a0_4 a0_5 a0_6 a0_7 l0_8 l0_9 a0_10 a0_11 a0_12 a0_13 l0_14 = some r) :
  Calls Tryd.prog 31 #[.agg #[.int .i64 a0_0, .int .i64 a0_1, .int .i64 a0_2, .int .i64 a0_3, .int .i64 a0_4, .int .i64 a0_5, .int .i64 a0_6, .int .i64 a0_7, .slice A0_8 l0_8.length c0_8, .slice A0_9 l0_9.length c0_9, .int .i64 a0_10, .int .i64 a0_11, .int .i64 a0_12, .int .i64 a0_13, .slice A0_14 l0_14.length c0_14]] w fun e w' => e = .returned (.bool r) ∧ Below w.heap.size w w' := by
 have hu27 := Tryd.underlying27
 have hu25 := Tryd.underlying25
 have HR0_8 := ak hr0_8
 have HC0_8 := ak hc0_8
 clear hr0_8 hc0_8
 have HR0_9 := ak hr0_9
 have HC0_9 := ak hc0_9
 clear hr0_9 hc0_9
 have HR0_14 := ak hr0_14
 have HC0_14 := ak hc0_14
 clear hr0_14 hc0_14
 have HB := ak (Below.refl w.heap.size w)
 have H : ((item_Same.f a0_2 a0_3 a0_4 a0_5 a0_6 a0_7 l0_8 l0_9 0 0 0 0 0 0 ([] : List Int) ([] : List Int)).bind fun t102 => (some t102)) = some r := h
 clear h
 replace H := Option.bind_eq_some_iff.mp H
 obtain ⟨t102, A20, H⟩ := H
 replace H : (some t102) = some r := H
 have A2 := ak A20
 clear A20
 obtain rfl := Option.some.inj H
 go_enter Tryd.func31, Tryd.ntmps31
 go_wp2_with (first | ((with_reducible refine gate_dst (N := 1) rfl ?_); refine box_event ?hg (N := 1) ?hd (cs := #[.int .i64 a0_0, .int .i64 a0_1, .int .i64 a0_2, .int .i64 a0_3, .int .i64 a0_4, .int .i64 a0_5, .int .i64 a0_6, .int .i64 a0_7, .slice A0_8 l0_8.length c0_8, .slice A0_9 l0_9.length c0_9, .int .i64 a0_10, .int .i64 a0_11, .int .i64 a0_12, .int .i64 a0_13, .slice A0_14 l0_14.length c0_14]) (t := 27) ?hr ?_; (case hd => rfl); (case hg => rfl); (case hr => first | (go_simp; done) | (go_simp; rfl)); intro gb101 hg w3 hbox hb; have n0_ := ak (below_step (by repeat (first | (with_reducible first | exact HB.out | apply below_alloc | apply pw_below_drewN | apply below_drew1) | exact HB.out)) hb); have n1_ := ak (hbox); have n2_ := ak ((by rw [hg]; exact (below_size (by repeat (first | (with_reducible first | exact HB.out | apply below_alloc | apply pw_below_drewN | apply below_drew1) | exact HB.out))) : w.heap.size ≤ gb101)); have n3_ := ak ((by rw [hg]; exact (below_size (by repeat (first | (with_reducible first | exact HB.out | apply below_alloc | apply pw_below_drewN | apply below_drew1) | exact HB.out))) : w.heap.size ≤ gb101)); clear HB; have HB := n0_; have BK101 := n1_; have GW101 := n2_; have GE101 := n3_; clear n0_ n1_ n2_ n3_; clear hb hbox hg; have hcz4_0 : w3.cell? ⟨gb101, 0, none⟩ = some (.int .i64 a0_0) := (blk_cell BK101.out 0).trans rfl; have hcz4_1 : w3.cell? ⟨gb101, 1, none⟩ = some (.int .i64 a0_1) := (blk_cell BK101.out 1).trans rfl; have hcz4_2 : w3.cell? ⟨gb101, 2, none⟩ = some (.int .i64 a0_2) := (blk_cell BK101.out 2).trans rfl; have hcz4_3 : w3.cell? ⟨gb101, 3, none⟩ = some (.int .i64 a0_3) := (blk_cell BK101.out 3).trans rfl; have hcz4_4 : w3.cell? ⟨gb101, 4, none⟩ = some (.int .i64 a0_4) := (blk_cell BK101.out 4).trans rfl; have hcz4_5 : w3.cell? ⟨gb101, 5, none⟩ = some (.int .i64 a0_5) := (blk_cell BK101.out 5).trans rfl; have hcz4_6 : w3.cell? ⟨gb101, 6, none⟩ = some (.int .i64 a0_6) := (blk_cell BK101.out 6).trans rfl; have hcz4_7 : w3.cell? ⟨gb101, 7, none⟩ = some (.int .i64 a0_7) := (blk_cell BK101.out 7).trans rfl; have hcz4_8 : w3.cell? ⟨gb101, 8, none⟩ = some (.slice A0_8 l0_8.length c0_8) := (blk_cell BK101.out 8).trans rfl; have hcz4_9 : w3.cell? ⟨gb101, 9, none⟩ = some (.slice A0_9 l0_9.length c0_9) := (blk_cell BK101.out 9).trans rfl; have hcz4_10 : w3.cell? ⟨gb101, 10, none⟩ = some (.int .i64 a0_10) := (blk_cell BK101.out 10).trans rfl; have hcz4_11 : w3.cell? ⟨gb101, 11, none⟩ = some (.int .i64 a0_11) := (blk_cell BK101.out 11).trans rfl; have hcz4_12 : w3.cell? ⟨gb101, 12, none⟩ = some (.int .i64 a0_12) := (blk_cell BK101.out 12).trans rfl; have hcz4_13 : w3.cell? ⟨gb101, 13, none⟩ = some (.int .i64 a0_13) := (blk_cell BK101.out 13).trans rfl; have hcz4_14 : w3.cell? ⟨gb101, 14, none⟩ = some (.slice A0_14 l0_14.length c0_14) := (blk_cell BK101.out 14).trans rfl; have hfz4_0 := blk_frozen BK101.out 0; have hfz4_1 := blk_frozen BK101.out 1; have hfz4_2 := blk_frozen BK101.out 2; have hfz4_3 := blk_frozen BK101.out 3; have hfz4_4 := blk_frozen BK101.out 4; have hfz4_5 := blk_frozen BK101.out 5; have hfz4_6 := blk_frozen BK101.out 6; have hfz4_7 := blk_frozen BK101.out 7; have hfz4_8 := blk_frozen BK101.out 8; have hfz4_9 := blk_frozen BK101.out 9; have hfz4_10 := blk_frozen BK101.out 10; have hfz4_11 := blk_frozen BK101.out 11; have hfz4_12 := blk_frozen BK101.out 12; have hfz4_13 := blk_frozen BK101.out 13; have hfz4_14 := blk_frozen BK101.out 14) | ((with_reducible refine gate_callee (f := 34) rfl ?_); refine goesL_ (some 6) rfl rfl Tryd.func34 (by kernel_rfl) rfl #[.agg #[.int .i64 a0_2, .int .i64 a0_3, .int .i64 a0_4, .int .i64 a0_5, .int .i64 a0_6, .int .i64 a0_7, .slice A0_8 l0_8.length c0_8, .slice A0_9 l0_9.length c0_9], .agg #[.int .i64 0, .int .i64 0, .int .i64 0, .int .i64 0, .int .i64 0, .int .i64 0, .slice none 0 0, .slice none 0 0]] rfl (by (try simp only [List.map_toArray, List.map_cons, List.map_nil]); first | done | rfl | (simp only [List.length_drop, List.length_take]; rfl)) ?_; (refine (item_Same.calls a0_2 a0_3 a0_4 a0_5 a0_6 a0_7 _ _ l0_8 _ _ l0_9 0 0 0 0 0 0 _ _ ([] : List Int) _ _ ([] : List Int) t102 _ ?side1 ?side2 ?side3 ?side4 ?side5 ?side6 ?side7 ?side8 A2.out).mono ?_); (case side1 => repeat (first | exact (Kd.C_below HR0_8.out HB.out) | (with_reducible refine Kd.C_alloc ?_ _) | (with_reducible refine Kd.C_drewN ?_ _) | (with_reducible refine Kd.C_drew ?_))); (case side2 => exact HC0_8.out); (case side3 => repeat (first | exact (Kd.C_below HR0_9.out HB.out) | (with_reducible refine Kd.C_alloc ?_ _) | (with_reducible refine Kd.C_drewN ?_ _) | (with_reducible refine Kd.C_drew ?_))); (case side4 => exact HC0_9.out); (case side5 => exact Kd.C_nil _ _); (case side6 => exact Nat.le_refl _); (case side7 => exact Kd.C_nil _ _); (case side8 => exact Nat.le_refl _); rintro e w5 ⟨rfl, hb⟩; refine ⟨_, rfl, ?_⟩; have n0_ := ak (blk_below (g := gb101) (o := .cells #[.int .i64 a0_0, .int .i64 a0_1, .int .i64 a0_2, .int .i64 a0_3, .int .i64 a0_4, .int .i64 a0_5, .int .i64 a0_6, .int .i64 a0_7, .slice A0_8 l0_8.length c0_8, .slice A0_9 l0_9.length c0_9, .int .i64 a0_10, .int .i64 a0_11, .int .i64 a0_12, .int .i64 a0_13, .slice A0_14 l0_14.length c0_14] 27 (0, 0)) (by (with_reducible repeat (first | refine blk_drewN ?_ _ | refine blk_drew ?_ | refine blk_alloc ?_ _)); exact BK101.out) hb); have n1_ := ak (below_step (by repeat (first | (with_reducible first | exact HB.out | apply below_alloc | apply pw_below_drewN | apply below_drew1 | refine below_set ?_ GE101.out) | exact HB.out)) hb); clear BK101; clear HB; have BK101 := n0_; have HB := n1_; clear n0_ n1_; (try clear hb); (try clear hb2); (try clear hk); (try clear hi)))
 go_ret
 exact ⟨by first | rfl | (simp [errW_none, errW_some] <;> rfl) | (simp [*, errW_none, errW_some] <;> rfl), by repeat (first | (with_reducible first | exact HB.out | apply below_alloc | apply pw_below_drewN | apply below_drew1 | refine below_set ?_ GE101.out) | exact HB.out)⟩
end Go.Proofs.YtieolhhokepkjaaDoor.Print
namespace Go.Proofs.YtieolhhokepkjaaDoor.Print
set_option linter.unusedVariables false
set_option linter.unusedSimpArgs false
open Go.RowKit Go.Proofs.YtieolhhokepkjaaDoorW.PrintWords Go.Proofs.YtieolhhokepkjaaDoorW.PrintLast Go.Proofs.YtieolhhokepkjaaDoorW.PrintMore Go.Proofs.YtieolhhokepkjaaDoor.NumPlain
theorem bare_is (K F k s e i t c : Int) (L bo : List Int) (T O M P : Int) (R : List Int) (hL : L.length < 10000) : pkt_bare.f K F k s e i t c L bo T O M P R = some (bareB k s e i t c L bo) := by
 unfold pkt_bare.f
 rw [show item_Same.f k s e i t c L bo 0 0 0 0 0 0 [] [] = some (bareB k s e i t c L bo) from if_pos hL]; rfl
theorem len0 (R : List Int) : ((R.length : Int) == 0) = decide (R.length = 0) := by
 rw [Bool.eq_iff_iff, beq_iff_eq, decide_eq_true_eq]; omega
def sameP (K F k s e i t c : Int) (L bo : List Int) (T O M P : Int) (R : List Int) (K' F' k' s' e' i' t' c' : Int) (L' bo' : List Int) (T' O' M' P' : Int) (R' : List Int) : Bool :=
 decide (K = K') && (decide (F = F') && (sameB k s e i t c L bo k' s' e' i' t' c' L' bo' && (decide (T = T') && (decide (O = O') && (decide (M = M') && (decide (P = P') && decide (R = R')))))))
/-- A packet's bytes, as yet without their sum. -/
def bodyP (K F k s e i t c : Int) (L bo : List Int) (T O M P : Int) (R : List Int) : List Int :=
 [165, K % 256, F % 256] ++ (if K = 3 then enc 1 T ++ enc 8 O ++ enc 1 M else if K = 4 then enc 8 P ++ flat 8 R else bytesOf k s e i t c L bo)
end Go.Proofs.YtieolhhokepkjaaDoor.Print
