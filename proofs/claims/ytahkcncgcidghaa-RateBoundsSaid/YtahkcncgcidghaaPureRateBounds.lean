/- RateBounds, the plain law. No condition. -/
import Derived.Test.YtahkcncgcidghaaSayRateBounds
import Derived.Test.YtahkcncgcidghaaPlain
namespace Go.Proofs.Ytahkcncgcidghaa.RateBoundsS
set_option linter.unusedVariables false
set_option linter.unusedSimpArgs false
open Go.RowKit Go.Proofs.Ytahkcncgcidghaa.Print Go.Proofs.Ytahkcncgcidghaa.Plain Go.Proofs.Ytahkcncgcidghaa.FloatNat
open Go.Proofs.YtahkcncgcidghaaW.PrintWords Go.Proofs.YtahkcncgcidghaaW.PrintLast Go.Proofs.YtahkcncgcidghaaW.PrintMore

theorem rd_good {xs : List Int} (h : ∀ y ∈ xs, (Lit.int .u8 y).wf = true) (i : Int) : 0 ≤ rd xs i ∧ rd xs i ≤ 255 := by
  unfold rd
  rw [List.getD_eq_getElem?_getD]
  by_cases hi : i.toNat < xs.length
  · rw [List.getElem?_eq_getElem hi, Option.getD_some]
    exact wf_u8 (h _ (List.getElem_mem hi))
  · rw [List.getElem?_eq_none (by omega), Option.getD_none]
    omega
theorem area {i hi : Int} (h0 : 0 ≤ i) (h1 : i ≤ 100) (h2 : 0 ≤ hi) (h3 : hi ≤ 70) : 0 ≤ i * hi ∧ i * hi ≤ 7000 :=
  ⟨Int.mul_nonneg h0 h2, by have := Int.mul_le_mul h1 h3 h2 (by omega : (0 : Int) ≤ 100); omega⟩

/-- A tick behind what was spent. -/
theorem ticked {xs : List Int} {ys : List Bool} {lo hi b spent i now left : Int} {k : Nat} (naks : Int) (h : R now left lo hi b) (hi2 : hi ≤ 70) (hb2 : b ≤ 100) (h0 : 0 ≤ i) (h1 : i ≤ 100) (hs : spent + left ≤ b + i * hi)
    (ih : ∀ now' left', R now' left' lo hi b → spent + left' ≤ b + (i + 1) * hi → precentorlaw11_RateBounds.l0 k xs ys true lo hi b spent (i + 1) now' left' = some true) :
    (rate_Tick.f now left lo hi b naks).bind (fun bt => if bt.2 < wrap64 (left + lo) then (if bt.2 = b then precentorlaw11_RateBounds.l0 k xs ys true lo hi b spent (wrap64 (i + 1)) bt.1 bt.2 else none) else precentorlaw11_RateBounds.l0 k xs ys true lo hi b spent (wrap64 (i + 1)) bt.1 bt.2) = some true := by
  obtain ⟨t1, t2, t3, t4⟩ := tick_right naks h
  obtain ⟨a1, a2, a3, a4, a5, a6, a7, a8, a9⟩ := id h
  have hnext := ih _ _ t1 (by rw [Int.add_mul]; omega)
  rw [tick_val naks h, wrap_id (x := left + lo) (by omega) (by omega), wrap_id (x := i + 1) (by omega) (by omega)]
  simp only [Option.bind_some]
  by_cases c : least (left + refill now lo hi naks) b < left + lo
  · rw [if_pos c, if_pos (t4 c)]; exact hnext
  · rw [if_neg c]; exact hnext

theorem loop {xs : List Int} {ys : List Bool} (hg : ∀ y ∈ xs, (Lit.int .u8 y).wf = true) (hl : xs.length ≤ 100) (hy : ys.length = xs.length) {lo hi b : Int} (hi2 : hi ≤ 70) (hb2 : b ≤ 100) (d : Nat) :
    ∀ (k : Nat) (spent i now left : Int), 0 ≤ i → (xs.length : Int) - i = d → R now left lo hi b → 0 ≤ spent → spent + left ≤ b + i * hi → 2 * d < k →
      precentorlaw11_RateBounds.l0 k xs ys true lo hi b spent i now left = some true := by
  induction d with
  | zero =>
    intro k spent i now left h0 hd _ _ _ hk
    obtain ⟨k, rfl⟩ : ∃ m, k = m + 1 := ⟨k - 1, by omega⟩
    simp only [precentorlaw11_RateBounds.l0]
    rw [if_neg (by omega)]
  | succ d ih =>
    intro k spent i now left h0 hd h hsp hs hk
    obtain ⟨k, rfl⟩ : ∃ m, k = m + 2 := ⟨k - 2, by omega⟩
    obtain ⟨g0, g1⟩ := rd_good hg i
    obtain ⟨a1, a2, a3, a4, a5, a6, a7, a8, a9⟩ := id h
    have har := area h0 (by omega) (by omega) hi2
    have step : ∀ (spent' left' : Int), R now left' lo hi b → 0 ≤ spent' → spent' + left' ≤ b + i * hi → precentorlaw11_RateBounds.j2 (k + 1) xs ys true lo hi b spent' i now left' = some true := by
      intro spent' left' h' hsp' hs'
      have hih := fun now'' left'' (p : R now'' left'' lo hi b) (q : spent' + left'' ≤ b + (i + 1) * hi) => ih k spent' (i + 1) now'' left'' (by omega) (by omega) p hsp' q (by omega)
      obtain ⟨b1, b2, b3, b4, b5, b6, b7, b8, b9⟩ := id h'
      simp only [precentorlaw11_RateBounds.j2]
      rw [wrap_id (x := i * hi) (by omega) (by omega), wrap_id (x := b + i * hi) (by omega) (by omega), if_neg (by omega), if_pos h0, if_pos (by omega)]
      split
      · exact ticked 2 h' hi2 hb2 h0 (by omega) hs' hih
      · exact ticked 0 h' hi2 hb2 h0 (by omega) hs' hih
    simp only [precentorlaw11_RateBounds.l0]
    rw [if_pos (by omega), if_pos h0, cut g0 (by omega), spend_val _ h]
    simp only [Option.bind_some]
    by_cases hn : 0 ≤ rd xs i % 30 ∧ rd xs i % 30 ≤ left
    · rw [if_pos hn]
      simp only [if_true]
      rw [wrap_id (x := spent + rd xs i % 30) (by omega) (by omega)]
      exact step _ _ ⟨a1, a2, a3, a4, a5, a6, a7, by omega, by omega⟩ (by omega) (by omega)
    · rw [if_neg hn]
      simp only [Bool.false_eq_true, if_false]
      exact step _ _ h hsp hs
theorem plain : Pure := by
  rintro ⟨x, y, z⟩ xs ys ⟨wx, wy, wz⟩ ⟨_, hg⟩ _
  obtain ⟨x0, x1⟩ := wf_u8 wx
  obtain ⟨y0, y1⟩ := wf_u8 wy
  obtain ⟨z0, z1⟩ := wf_u8 wz
  simp only at x0 x1 y0 y1 z0 z1
  refine ⟨300, ?_⟩
  simp only [precentorlaw11_RateBounds.f, shown_true, Option.bind_some]
  rw [cut x0 (by omega), cut y0 (by omega), cut z0 (by omega), wrap_id (x := 1 + x % 20) (by omega) (by omega), wrap_id (x := 1 + x % 20 + y % 50) (by omega) (by omega), wrap_id (x := 1 + z % 100) (by omega) (by omega)]
  have key : ∀ lo hi b : Int, precentorlaw11_RateBounds.j0 300 xs ys true lo hi b true = some true := fun lo hi b => by simp [precentorlaw11_RateBounds.j0]
  by_cases hl : (xs.length : Int) > 100
  · rw [if_pos hl]; exact key _ _ _
  · rw [if_neg hl]
    by_cases hy : ys.length = xs.length
    · rw [show ((ys.length : Int) != (xs.length : Int)) = false by simp [hy]]
      simp only [precentorlaw11_RateBounds.j0, Bool.false_eq_true, if_false, rate_Start.f, Option.bind_some]
      exact loop hg (by omega) hy (by omega) (by omega) xs.length 299 0 0 _ _ (by omega) (by omega) ⟨by omega, by omega, by omega, by omega, by omega, by omega, by omega, by omega, by omega⟩ (by omega) (by omega) (by omega)
    · rw [show ((ys.length : Int) != (xs.length : Int)) = true by simp; omega]
      exact key _ _ _
end Go.Proofs.Ytahkcncgcidghaa.RateBoundsS
