/- NumShort, the plain law. No condition. -/
import Derived.Test.YtejponabffffkaaDoorSayNumShort
import Derived.Test.YtejponabffffkaaDoorPlain
namespace Go.Proofs.YtejponabffffkaaDoor.NumShortS
set_option linter.unusedVariables false
set_option linter.unusedSimpArgs false
open Go.RowKit Go.Proofs.YtejponabffffkaaDoor.Print Go.Proofs.YtejponabffffkaaDoor.Opens Go.Proofs.YtejponabffffkaaDoor.Plain
open Go.Proofs.YtejponabffffkaaDoorW.PrintWords Go.Proofs.YtejponabffffkaaDoorW.PrintLast

/-- One round: the law's tests hold of what a take gives. -/
theorem round {t : List Int} (ht : By t) (hl : t.length ≤ 300) (u : Bool) (k : Nat) (i : Int) (h0 : 0 ≤ i) (h3 : i < 3) (r : Option Bool)
    (hnext : precentorlaw02_NumShort.l0 k t u [1, 2, 8] (i + 1) = r) : precentorlaw02_NumShort.l0 (k + 2) t u [1, 2, 8] i = r := by
  have hi : i = 0 ∨ i = 1 ∨ i = 2 := by omega
  have hW : Wd (rd [1, 2, 8] i) := by rcases hi with rfl | rfl | rfl <;> decide
  have h255 : i < 2 → ((rd [1, 2, 8] i = 1 ∧ most (rd [1, 2, 8] i) = 255) ∨ (rd [1, 2, 8] i = 2 ∧ most (rd [1, 2, 8] i) = 65535)) := by
    intro h
    rcases hi with rfl | rfl | rfl
    · exact .inl ⟨rfl, rfl⟩
    · exact .inr ⟨rfl, rfl⟩
    · omega
  have h8 : rd [1, 2, 8] i ≤ 8 ∧ 1 ≤ rd [1, 2, 8] i := by rcases hi with rfl | rfl | rfl <;> decide
  have hlen3 : i < (([1, 2, 8] : List Int).length : Int) := by simpa using h3
  simp only [precentorlaw02_NumShort.l0, precentorlaw02_NumShort.j1]
  rw [wrap_id (x := i + 1) (by omega) (by omega), hnext]
  simp only [if_pos h3, if_pos h0, if_pos hlen3]
  generalize rd [1, 2, 8] i = W at *
  rw [take_good hW ht]
  by_cases hs : (t.length : Int) < W
  · have hn : takeS t W = none := by unfold takeS; rw [if_pos hs]
    rw [hn]
    simp [hs, show ¬ (t.length : Int) ≥ W by omega, show ¬ W ≤ (t.length : Int) by omega]
  · rw [wrap_id (by omega) (by omega)]
    rcases hn : takeS t W with _ | ⟨n, r'⟩
    · have h2 : ¬ i < 2 := by
        intro h
        obtain ⟨V, rfl, hv1, hv8⟩ := hW.nat
        have hv := val_lt V (t.take V) (ht.take _) (by rw [List.length_take]; omega)
        unfold takeS at hn
        rw [if_neg hs] at hn
        rcases h255 h with ⟨e1, e2⟩ | ⟨e1, e2⟩
        · obtain rfl : V = 1 := by omega
          rw [Int.toNat_natCast, if_neg (by omega)] at hn; cases hn
        · obtain rfl : V = 2 := by omega
          rw [Int.toNat_natCast, if_neg (by omega)] at hn; cases hn
      simp [hs, h2, show W ≤ (t.length : Int) by omega]
    · obtain ⟨f1, f2, f3⟩ := takeS_is hW ht hn
      have hr : (r'.length : Int) = t.length - W := by
        have hl := enc_len (n := n) hW
        have : t.length = (enc W.toNat n).length + r'.length := by rw [← List.length_append, ← f2]
        omega
      simp only [Option.bind_some]
      rw [if_neg hs, fits_is, decide_eq_true f1]
      simp [hr, show W ≤ (t.length : Int) by omega]
theorem plain : Pure := by
  intro t ⟨_, gt⟩
  have ht := by_of gt
  refine ⟨400, ?_⟩
  simp only [precentorlaw02_NumShort.f, shown_ge (show 20 ≤ 400 by omega), Option.bind_some]
  by_cases h1 : (t.length : Int) > 300
  · rw [if_pos h1]
  · rw [if_neg h1]
    refine round ht (by omega) true 398 0 (by omega) (by omega) _ (round ht (by omega) true 396 1 (by omega) (by omega) _ (round ht (by omega) true 394 2 (by omega) (by omega) _ ?_))
    simp [precentorlaw02_NumShort.l0]
end Go.Proofs.YtejponabffffkaaDoor.NumShortS
