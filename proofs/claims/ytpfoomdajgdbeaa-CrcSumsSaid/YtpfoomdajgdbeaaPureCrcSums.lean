/- CrcSums, the plain law. No condition. -/
import Derived.Test.YtpfoomdajgdbeaaSayCrcSums
import Derived.Test.YtpfoomdajgdbeaaCrcPlain
namespace Go.Proofs.Ytpfoomdajgdbeaa.CrcSumsS
set_option linter.unusedVariables false
set_option linter.unusedSimpArgs false
open Go.RowKit Go.Proofs.Ytpfoomdajgdbeaa.Print Go.Proofs.Ytpfoomdajgdbeaa.Opens Go.Proofs.Ytpfoomdajgdbeaa.Crc Go.Proofs.Ytpfoomdajgdbeaa.CrcPlain
open Go.Proofs.YtpfoomdajgdbeaaW.PrintWords Go.Proofs.YtpfoomdajgdbeaaW.PrintLast

def zip3 (a b c : List Int) (n : Nat) : List Int := (List.range n).map fun i => Go.bits .xor .u8 (Go.bits .xor .u8 (a.getD i 0) (b.getD i 0)) (c.getD i 0)
theorem zip3_succ (a b c : List Int) (n : Nat) : zip3 a b c (n + 1) = zip3 a b c n ++ [Go.bits .xor .u8 (Go.bits .xor .u8 (a.getD n 0) (b.getD n 0)) (c.getD n 0)] := by
  unfold zip3; rw [List.range_succ, List.map_append]; rfl
theorem zip3_length (a b c : List Int) (n : Nat) : (zip3 a b c n).length = n := by simp [zip3]
theorem zip3_get (a b c : List Int) (n i : Nat) (h : i < n) : (zip3 a b c n).getD i 0 = Go.bits .xor .u8 (Go.bits .xor .u8 (a.getD i 0) (b.getD i 0)) (c.getD i 0) := by
  unfold zip3; simp [List.getD_eq_getElem?_getD, h]
theorem loop (a b c : List Int) (ha : Byt a) (hb : Byt b) (hc : Byt c) (lb : b.length = a.length) (lc : c.length = a.length) (hl : a.length ≤ 2000) (d : Nat) :
    ∀ (k i : Nat), i + d = a.length → d < k → precentorlaw01_CrcSums.l0 k a b c true (zip3 a b c i) (i : Int) = some true := by
  induction d with
  | zero =>
    intro k i hi hk
    obtain ⟨k, rfl⟩ : ∃ m, k = m + 1 := ⟨k - 1, by omega⟩
    obtain rfl : i = a.length := by omega
    simp only [precentorlaw01_CrcSums.l0]
    have hz : Byt (zip3 a b c a.length) := byt_of_getD (fun i hi => by
      rw [zip3_length] at hi
      rw [zip3_get _ _ _ _ _ hi]
      exact xor8_byt (xor8_byt (getD_byt ha _) (getD_byt hb _)) (getD_byt hc _))
    rw [if_neg (by omega), if_pos trivial, sum_is (by rw [zip3_length]; omega), sum_is (by omega), sum_is (by omega), sum_is (by omega), seal_is (by omega)]
    simp only [Option.bind_some]
    rw [if_pos (sums3 hz ha hb hc (by rw [zip3_length]) (by rw [zip3_length, lb]) (by rw [zip3_length, lc]) (fun i hi => by
      rw [zip3_length] at hi
      rw [zip3_get _ _ _ _ _ hi, xor8_nat (xor8_byt (getD_byt ha _) (getD_byt hb _)) (getD_byt hc _), xor8_nat (getD_byt ha _) (getD_byt hb _)]
      rfl)), sum_is (by rw [List.length_append, tl_length]; omega), sum_seal ha]
    rfl
  | succ d ih =>
    intro k i hi hk
    obtain ⟨k, rfl⟩ : ∃ m, k = m + 1 := ⟨k - 1, by omega⟩
    simp only [precentorlaw01_CrcSums.l0]
    have hw : wrap64 ((i : Int) + 1) = ((i + 1 : Nat) : Int) := by rw [wrap_id (by omega) (by omega)]; rfl
    rw [if_pos (by omega), if_pos (by omega), if_pos (by omega), if_pos (by omega), if_pos (by rw [zip3_length]; omega), hw, rd_nat, rd_nat, rd_nat, ← zip3_succ]
    exact ih k (i + 1) (by omega) (by omega)
theorem plain : Pure := by
  intro a b c g0 g1 g2
  have ha := by_of g0
  have hb := by_of g1
  have hc := by_of g2
  refine ⟨2005, ?_⟩
  simp only [precentorlaw01_CrcSums.f, precentorlaw01_shown.f, Option.bind_some]
  by_cases h : (a.length : Int) > 2000
  · rw [if_pos h]
    simp [precentorlaw01_CrcSums.j0]
  · rw [if_neg h]
    by_cases h1 : (b.length : Int) = (a.length : Int)
    · rw [if_pos h1]
      simp only [precentorlaw01_CrcSums.j0]
      by_cases h2 : (c.length : Int) = (a.length : Int)
      · rw [if_neg (by simp [h2])]
        exact loop a b c ha hb hc (by omega) (by omega) (by omega) a.length _ 0 (by omega) (by omega)
      · rw [if_pos (by simpa using h2)]
    · rw [if_neg h1]
      simp [precentorlaw01_CrcSums.j0]
end Go.Proofs.Ytpfoomdajgdbeaa.CrcSumsS
