/- NumSplit, the plain law. No condition. -/
import Derived.Test.YtejponabffffkaaDoorSayNumSplit
import Derived.Test.YtejponabffffkaaDoorPlain
namespace Go.Proofs.YtejponabffffkaaDoor.NumSplitS
set_option linter.unusedVariables false
set_option linter.unusedSimpArgs false
open Go.RowKit Go.Proofs.YtejponabffffkaaDoor.Print Go.Proofs.YtejponabffffkaaDoor.Opens Go.Proofs.YtejponabffffkaaDoor.Plain
open Go.Proofs.YtejponabffffkaaDoorW.PrintWords Go.Proofs.YtejponabffffkaaDoorW.PrintLast

theorem plain : Pure := by
  rintro ⟨b, x, m, n⟩ ⟨⟨_, gb⟩, gx, gm, gn⟩
  dsimp only at *
  have hb := by_of gb
  have hx := wf_u8 gx
  have hm := wf_u8 gm
  have hn := wf_u8 gn
  refine ⟨400, ?_⟩
  simp only [precentorlaw02_NumSplit.f, shown_ge (show 20 ≤ 400 by omega), Option.bind_some]
  by_cases h1 : (b.length : Int) > 300
  · rw [if_pos h1]
  · obtain ⟨w0, w1, hW⟩ := wide hx.1
    rw [if_neg h1, if_pos w0, if_pos (by simpa using w1)]
    generalize rd [1, 2, 8] (Int.tmod x 3) = W at *
    rw [wrap_id (x := m) (by omega) (by omega), wrap_id (x := n) (by omega) (by omega), Int.tmod_eq_emod_of_nonneg hm.1, Int.tmod_eq_emod_of_nonneg hn.1, wrap_id (by omega) (by omega)]
    obtain ⟨p, hp⟩ : ∃ p : Nat, m % 20 = p := ⟨(m % 20).toNat, by omega⟩
    obtain ⟨q, hq⟩ : ∃ q : Nat, n % 20 = q := ⟨(n % 20).toNat, by omega⟩
    have hp20 : p < 20 := by omega
    have hq20 : q < 20 := by omega
    rw [hp, hq, takerow_good hW (by omega) (by omega) hb (by omega) (by omega), takerow_good hW (by omega) (by omega) hb (by omega) (by omega), show ((p : Int) + q).toNat = p + q by omega, Int.toNat_natCast, rowS_add]
    rcases hP : rowS W p b with _ | ⟨xs, r⟩
    · simp
    · obtain ⟨p1, p2, p3, p4⟩ := rowS_is hW p b xs r hb hP
      have hrl : r.length ≤ b.length := by rw [p3, List.length_append]; omega
      simp only [Option.bind_some, if_true]
      rw [takerow_good hW (by omega) (by omega) p4 (by omega) (by omega), Int.toNat_natCast]
      rcases hQ : rowS W q r with _ | ⟨ys, s⟩
      · simp
      · obtain ⟨q1, q2, q3, q4⟩ := rowS_is hW q r ys s p4 hQ
        simp only [Option.bind_some, if_true, List.nil_append, List.length_nil, Nat.zero_add]
        rw [if_pos (by omega), if_pos (by omega), same_is (by simp; omega) (by simp; omega)]
        simp
end Go.Proofs.YtejponabffffkaaDoor.NumSplitS
