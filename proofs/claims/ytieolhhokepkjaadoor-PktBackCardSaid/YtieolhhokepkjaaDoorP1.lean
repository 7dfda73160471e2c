/- A packet's box of fifteen cells, and which packets may be and are the same, as plain functions. Conditions stand in each theorem. -/
import Derived.Test.YtieolhhokepkjaaDoorHandS
import Derived.Test.YtieolhhokepkjaaDoorHand5
import Derived.Test.YtieolhhokepkjaaDoorHand7b
import Derived.Test.YtieolhhokepkjaaDoorHand8
namespace Go.Proofs.YtieolhhokepkjaaDoor.Print
set_option linter.unusedVariables false
set_option linter.unusedSimpArgs false
open Go.RowKit Go.Proofs.YtieolhhokepkjaaDoorW.PrintWords Go.Proofs.YtieolhhokepkjaaDoorW.PrintLast Go.Proofs.YtieolhhokepkjaaDoorW.PrintMore Go.Proofs.YtieolhhokepkjaaDoor.NumPlain

theorem cells15 {W : World} {g t : Nat} {v0 v1 v2 v3 v4 v5 v6 v7 v8 v9 v10 v11 v12 v13 v14 : Value} (h : W.heap[g]? = some (.cells #[v0, v1, v2, v3, v4, v5, v6, v7, v8, v9, v10, v11, v12, v13, v14] t (0, 0))) :
    (W.cell? ⟨g, 0, none⟩ = some v0 ∧ W.cell? ⟨g, 1, none⟩ = some v1 ∧ W.cell? ⟨g, 2, none⟩ = some v2 ∧ W.cell? ⟨g, 3, none⟩ = some v3 ∧ W.cell? ⟨g, 4, none⟩ = some v4 ∧ W.cell? ⟨g, 5, none⟩ = some v5 ∧ W.cell? ⟨g, 6, none⟩ = some v6 ∧ W.cell? ⟨g, 7, none⟩ = some v7 ∧ W.cell? ⟨g, 8, none⟩ = some v8 ∧ W.cell? ⟨g, 9, none⟩ = some v9 ∧ W.cell? ⟨g, 10, none⟩ = some v10 ∧ W.cell? ⟨g, 11, none⟩ = some v11 ∧ W.cell? ⟨g, 12, none⟩ = some v12 ∧ W.cell? ⟨g, 13, none⟩ = some v13 ∧ W.cell? ⟨g, 14, none⟩ = some v14) ∧
    (W.frozen? ⟨g, 0, none⟩ = false ∧ W.frozen? ⟨g, 1, none⟩ = false ∧ W.frozen? ⟨g, 2, none⟩ = false ∧ W.frozen? ⟨g, 3, none⟩ = false ∧ W.frozen? ⟨g, 4, none⟩ = false ∧ W.frozen? ⟨g, 5, none⟩ = false ∧ W.frozen? ⟨g, 6, none⟩ = false ∧ W.frozen? ⟨g, 7, none⟩ = false ∧ W.frozen? ⟨g, 8, none⟩ = false ∧ W.frozen? ⟨g, 9, none⟩ = false ∧ W.frozen? ⟨g, 10, none⟩ = false ∧ W.frozen? ⟨g, 11, none⟩ = false ∧ W.frozen? ⟨g, 12, none⟩ = false ∧ W.frozen? ⟨g, 13, none⟩ = false ∧ W.frozen? ⟨g, 14, none⟩ = false) :=
  ⟨⟨blk_cell h 0, blk_cell h 1, blk_cell h 2, blk_cell h 3, blk_cell h 4, blk_cell h 5, blk_cell h 6, blk_cell h 7, blk_cell h 8, blk_cell h 9, blk_cell h 10, blk_cell h 11, blk_cell h 12, blk_cell h 13, blk_cell h 14⟩, ⟨blk_frozen h 0, blk_frozen h 1, blk_frozen h 2, blk_frozen h 3, blk_frozen h 4, blk_frozen h 5, blk_frozen h 6, blk_frozen h 7, blk_frozen h 8, blk_frozen h 9, blk_frozen h 10, blk_frozen h 11, blk_frozen h 12, blk_frozen h 13, blk_frozen h 14⟩⟩
theorem boxed15 (w : World) (v0 v1 v2 v3 v4 v5 v6 v7 v8 v9 v10 v11 v12 v13 v14 : Value) : ∃ w0 : World, w.alloc (Obj.cells #[v0, v1, v2, v3, v4, v5, v6, v7, v8, v9, v10, v11, v12, v13, v14] 27) = w0 ∧ Below w.heap.size w w0 ∧ w0.heap.size = w.heap.size + 1 ∧ w0.heap[w.heap.size]? = some (.cells #[v0, v1, v2, v3, v4, v5, v6, v7, v8, v9, v10, v11, v12, v13, v14] 27 (0, 0)) :=
  ⟨_, rfl, below_alloc (Below.refl _ _) _, by simp, blk_new w _⟩
theorem box15 {W : World} {g t : Nat} {o0 o1 o2 o3 o4 o5 o6 o7 o8 o9 o10 o11 o12 o13 o14 : Value} (h : W.heap[g]? = some (.cells #[o0, o1, o2, o3, o4, o5, o6, o7, o8, o9, o10, o11, o12, o13, o14] t (0, 0))) (v0 v1 v2 v3 v4 v5 v6 v7 v8 v9 v10 v11 v12 v13 v14 : Value) :
    ∃ W', ((((((((((((((W.setCell ⟨g, 0, none⟩ v0).setCell ⟨g, 1, none⟩ v1).setCell ⟨g, 2, none⟩ v2).setCell ⟨g, 3, none⟩ v3).setCell ⟨g, 4, none⟩ v4).setCell ⟨g, 5, none⟩ v5).setCell ⟨g, 6, none⟩ v6).setCell ⟨g, 7, none⟩ v7).setCell ⟨g, 8, none⟩ v8).setCell ⟨g, 9, none⟩ v9).setCell ⟨g, 10, none⟩ v10).setCell ⟨g, 11, none⟩ v11).setCell ⟨g, 12, none⟩ v12).setCell ⟨g, 13, none⟩ v13).setCell ⟨g, 14, none⟩ v14 = W' ∧ W'.heap[g]? = some (.cells #[v0, v1, v2, v3, v4, v5, v6, v7, v8, v9, v10, v11, v12, v13, v14] t (0, 0)) ∧ Mv W W' (fun k => k = g) := by
  have h0 := blk_put h 0 v0 (cs' := #[v0, o1, o2, o3, o4, o5, o6, o7, o8, o9, o10, o11, o12, o13, o14]) rfl
  have h1 := blk_put h0 1 v1 (cs' := #[v0, v1, o2, o3, o4, o5, o6, o7, o8, o9, o10, o11, o12, o13, o14]) rfl
  have h2 := blk_put h1 2 v2 (cs' := #[v0, v1, v2, o3, o4, o5, o6, o7, o8, o9, o10, o11, o12, o13, o14]) rfl
  have h3 := blk_put h2 3 v3 (cs' := #[v0, v1, v2, v3, o4, o5, o6, o7, o8, o9, o10, o11, o12, o13, o14]) rfl
  have h4 := blk_put h3 4 v4 (cs' := #[v0, v1, v2, v3, v4, o5, o6, o7, o8, o9, o10, o11, o12, o13, o14]) rfl
  have h5 := blk_put h4 5 v5 (cs' := #[v0, v1, v2, v3, v4, v5, o6, o7, o8, o9, o10, o11, o12, o13, o14]) rfl
  have h6 := blk_put h5 6 v6 (cs' := #[v0, v1, v2, v3, v4, v5, v6, o7, o8, o9, o10, o11, o12, o13, o14]) rfl
  have h7 := blk_put h6 7 v7 (cs' := #[v0, v1, v2, v3, v4, v5, v6, v7, o8, o9, o10, o11, o12, o13, o14]) rfl
  have h8 := blk_put h7 8 v8 (cs' := #[v0, v1, v2, v3, v4, v5, v6, v7, v8, o9, o10, o11, o12, o13, o14]) rfl
  have h9 := blk_put h8 9 v9 (cs' := #[v0, v1, v2, v3, v4, v5, v6, v7, v8, v9, o10, o11, o12, o13, o14]) rfl
  have h10 := blk_put h9 10 v10 (cs' := #[v0, v1, v2, v3, v4, v5, v6, v7, v8, v9, v10, o11, o12, o13, o14]) rfl
  have h11 := blk_put h10 11 v11 (cs' := #[v0, v1, v2, v3, v4, v5, v6, v7, v8, v9, v10, v11, o12, o13, o14]) rfl
  have h12 := blk_put h11 12 v12 (cs' := #[v0, v1, v2, v3, v4, v5, v6, v7, v8, v9, v10, v11, v12, o13, o14]) rfl
  have h13 := blk_put h12 13 v13 (cs' := #[v0, v1, v2, v3, v4, v5, v6, v7, v8, v9, v10, v11, v12, v13, o14]) rfl
  have h14 := blk_put h13 14 v14 (cs' := #[v0, v1, v2, v3, v4, v5, v6, v7, v8, v9, v10, v11, v12, v13, v14]) rfl
  have m0 : Mv W W (fun k => k = g) := Mv.below (Below.refl _ W) _
  have m1 := m0.setCell (p := ⟨g, 0, none⟩) (Or.inl rfl) v0
  have m2 := m1.setCell (p := ⟨g, 1, none⟩) (Or.inl rfl) v1
  have m3 := m2.setCell (p := ⟨g, 2, none⟩) (Or.inl rfl) v2
  have m4 := m3.setCell (p := ⟨g, 3, none⟩) (Or.inl rfl) v3
  have m5 := m4.setCell (p := ⟨g, 4, none⟩) (Or.inl rfl) v4
  have m6 := m5.setCell (p := ⟨g, 5, none⟩) (Or.inl rfl) v5
  have m7 := m6.setCell (p := ⟨g, 6, none⟩) (Or.inl rfl) v6
  have m8 := m7.setCell (p := ⟨g, 7, none⟩) (Or.inl rfl) v7
  have m9 := m8.setCell (p := ⟨g, 8, none⟩) (Or.inl rfl) v8
  have m10 := m9.setCell (p := ⟨g, 9, none⟩) (Or.inl rfl) v9
  have m11 := m10.setCell (p := ⟨g, 10, none⟩) (Or.inl rfl) v10
  have m12 := m11.setCell (p := ⟨g, 11, none⟩) (Or.inl rfl) v11
  have m13 := m12.setCell (p := ⟨g, 12, none⟩) (Or.inl rfl) v12
  have m14 := m13.setCell (p := ⟨g, 13, none⟩) (Or.inl rfl) v13
  have m15 := m14.setCell (p := ⟨g, 14, none⟩) (Or.inl rfl) v14
  exact ⟨_, rfl, h14, m15⟩
/-- Has a packet no item? -/
def bareB (k s e i t c : Int) (L bo : List Int) : Bool := sameB k s e i t c L bo 0 0 0 0 0 0 [] []
def mayP (K F : Int) (it : Bool) (ba : Bool) (T O M P : Int) (R : List Int) : Bool :=
  wi F 0 63 && (if K = 1 ∨ K = 2 then it && (decide (T = 0) && (decide (O = 0) && (decide (M = 0) && (decide (P = 0) && decide (R.length = 0)))))
    else if K = 3 then ba && (wi T 0 63 && (wi O 1 4611686018427387904 && (wi M 1 64 && (decide (P = 0) && decide (R.length = 0)))))
    else if K = 4 then each R 4611686018427387904 && (ba && (decide (T = 0) && (decide (O = 0) && (decide (M = 0) && (wi P 0 4611686018427387904 && wi (R.length : Int) 2 64)))))
    else false)
end Go.Proofs.YtieolhhokepkjaaDoor.Print
