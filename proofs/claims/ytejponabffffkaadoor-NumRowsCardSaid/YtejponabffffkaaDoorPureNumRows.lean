/- NumRows, the plain law. No condition. -/
import Derived.Test.YtejponabffffkaaDoorSayNumRows
import Derived.Test.YtejponabffffkaaDoorPlain
namespace Go.Proofs.YtejponabffffkaaDoor.NumRowsS
set_option linter.unusedVariables false
set_option linter.unusedSimpArgs false
open Go.RowKit Go.Proofs.YtejponabffffkaaDoor.Print Go.Proofs.YtejponabffffkaaDoor.Opens Go.Proofs.YtejponabffffkaaDoor.Plain
open Go.Proofs.YtejponabffffkaaDoorW.PrintWords Go.Proofs.YtejponabffffkaaDoorW.PrintLast

theorem last {a c t : List Int} {W : Int} (hW : Wd W) (hb : By t) (ha : a.length ≤ 60) (hc : c.length ≤ 60) (ht : t.length ≤ 100) (fa : Fa a W) (fc : Fa c W) {k : Nat} (hk : 800 ≤ k) :
    precentorlaw02_NumRows.l1 (k + 1) a c t true W c.length = some true := by
  have hW8 : W.toNat ≤ 8 ∧ 0 ≤ W ∧ W ≤ 8 := by rcases hW with rfl | rfl | rfl <;> decide
  have l8 : ∀ l : List Int, (flat W l).length ≤ 8 * l.length := fun l => by rw [flat_length]; exact Nat.mul_le_mul_right _ hW8.1
  have la := l8 a
  have lc := l8 c
  simp only [precentorlaw02_NumRows.l1]
  rw [if_neg (by omega), putrow_is (by omega) (by omega), putrow_is (by omega) (by omega), if_pos fa, if_pos fc]
  simp only [Option.bind_some, List.nil_append, List.length_nil, Nat.zero_add]
  rw [if_pos (by omega), if_pos (by omega), takerow_good hW (by omega) (by omega) ((flat_by _ _).append hb) (by simp; omega) (by simp; omega), Int.toNat_natCast, rowS_flat a t fa]
  simp only [Option.bind_some]
  have hmul : W * (a.length : Int) = (flat W a).length := by
    obtain ⟨V, rfl, _, _⟩ := hW.nat
    rw [flat_length, Int.toNat_natCast, Int.natCast_mul]
  rw [hmul, wrap_id (by omega) (by omega), if_pos trivial, if_pos trivial, if_pos trivial, same_is (by omega) (by omega)]
  simp only [Option.bind_some, decide_true, if_true]
  rw [if_pos (by omega), if_pos (by omega), putrow_is (by simp; omega) (by simp; omega), if_pos (show Fa (a ++ c) W from fun x hx => (List.mem_append.1 hx).elim (fa x) (fc x))]
  simp only [Option.bind_some]
  rw [if_pos (by rw [strOfNums_size, strOfNums_size]; omega), str_append, flat_append]
  simp
theorem loop1 {a t : List Int} {W : Int} (hW : Wd W) (hb : By t) (ha : a.length ≤ 60) (ht : t.length ≤ 100) (fa : Fa a W) (q : List Int) :
    ∀ (k : Nat) (p : List Int), p.length + q.length ≤ 60 → Fa p W → q.length + 802 ≤ k → precentorlaw02_NumRows.l1 k a (p ++ q) t true W p.length = some true := by
  induction q with
  | nil =>
    intro k p h1 hp hk
    obtain ⟨k, rfl⟩ : ∃ m, k = m + 1 := ⟨k - 1, by omega⟩
    rw [List.append_nil]
    exact last hW hb ha (by simpa using h1) ht fa hp (by omega)
  | cons x q ih =>
    intro k p h1 hp hk
    simp only [List.length_cons] at h1 hk
    obtain ⟨k, rfl⟩ : ∃ m, k = m + 1 := ⟨k - 1, by omega⟩
    simp only [precentorlaw02_NumRows.l1]
    rw [if_pos (by simp; omega), if_pos (by omega), rd_mid, fits_is]
    simp only [Option.bind_some]
    by_cases hx : Ft x W
    · rw [decide_eq_true hx, if_pos rfl, wrap_id (by omega) (by omega)]
      have := ih k (p ++ [x]) (by simp; omega) (fun y hy => (List.mem_append.1 hy).elim (hp y) (fun h => (List.mem_singleton.1 h) ▸ hx)) (by omega)
      rw [List.append_assoc, List.singleton_append, show ((p ++ [x]).length : Int) = (p.length : Int) + 1 by simp] at this
      exact this
    · rw [decide_eq_false hx, if_neg (by decide)]
theorem loop0 {c t : List Int} {W : Int} (hW : Wd W) (hb : By t) (hc : c.length ≤ 60) (ht : t.length ≤ 100) (q : List Int) :
    ∀ (k : Nat) (p : List Int), p.length + q.length ≤ 60 → Fa p W → q.length + 900 ≤ k → precentorlaw02_NumRows.l0 k (p ++ q) c t true W p.length = some true := by
  induction q with
  | nil =>
    intro k p h1 hp hk
    obtain ⟨k, rfl⟩ : ∃ m, k = m + 1 := ⟨k - 1, by omega⟩
    simp only [precentorlaw02_NumRows.l0]
    rw [List.append_nil, if_neg (by omega)]
    exact loop1 hW hb (by simpa using h1) ht hp c k [] (by simpa using hc) (show Fa [] W from fun x hx => by cases hx) (by omega)
  | cons x q ih =>
    intro k p h1 hp hk
    simp only [List.length_cons] at h1 hk
    obtain ⟨k, rfl⟩ : ∃ m, k = m + 1 := ⟨k - 1, by omega⟩
    simp only [precentorlaw02_NumRows.l0]
    rw [if_pos (by simp; omega), if_pos (by omega), rd_mid, fits_is]
    simp only [Option.bind_some]
    by_cases hx : Ft x W
    · rw [decide_eq_true hx, if_pos rfl, wrap_id (by omega) (by omega)]
      have := ih k (p ++ [x]) (by simp; omega) (fun y hy => (List.mem_append.1 hy).elim (hp y) (fun h => (List.mem_singleton.1 h) ▸ hx)) (by omega)
      rw [List.append_assoc, List.singleton_append, show ((p ++ [x]).length : Int) = (p.length : Int) + 1 by simp] at this
      exact this
    · rw [decide_eq_false hx, if_neg (by decide), putrow_is (by simp; omega) (by simp; omega), if_neg (fun h : Fa (p ++ x :: q) W => hx (h x (by simp)))]
      simp
theorem plain : Pure := by
  rintro ⟨a, c, x, t⟩ ⟨_, _, gx, ⟨_, gt⟩⟩
  dsimp only at *
  have ht := by_of gt
  have hx := wf_u8 gx
  refine ⟨1200, ?_⟩
  simp only [precentorlaw02_NumRows.f, shown_ge (show 20 ≤ 1200 by omega), Option.bind_some]
  by_cases h1 : (a.length : Int) > 60
  · rw [if_pos h1]; simp [precentorlaw02_NumRows.j0]
  · rw [if_neg h1]
    by_cases h2 : (c.length : Int) > 60
    · rw [if_pos h2]; simp [precentorlaw02_NumRows.j0]
    · rw [if_neg h2]
      by_cases h3 : (t.length : Int) > 100
      · rw [decide_eq_true h3]; simp [precentorlaw02_NumRows.j0]
      · rw [decide_eq_false h3]
        obtain ⟨w0, w1, hW⟩ := wide hx.1
        simp only [precentorlaw02_NumRows.j0, Bool.false_eq_true, if_false, Option.bind_some]
        rw [if_pos w0, if_pos (by simpa using w1)]
        exact loop0 hW ht (by omega) (by omega) a 1199 [] (by simp; omega) (show Fa [] _ from fun x hx => by cases hx) (by omega)
end Go.Proofs.YtejponabffffkaaDoor.NumRowsS
