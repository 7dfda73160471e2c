/- MeterSums, the plain law. No condition. -/
import Derived.Test.YtkihhkhhmplnlaaSayMeterSums
import Derived.Test.YtkihhkhhmplnlaaPlain
namespace Go.Proofs.Ytkihhkhhmplnlaa.MeterSumsS
set_option linter.unusedVariables false
set_option linter.unusedSimpArgs false
open Go.RowKit Go.Proofs.Ytkihhkhhmplnlaa.Print Go.Proofs.Ytkihhkhhmplnlaa.Plain Go.Proofs.Ytkihhkhhmplnlaa.FloatNat

theorem wf_u32 {n : Int} (h : (Lit.int .u32 n).wf = true) : 0 ≤ n ∧ n ≤ 4294967295 := by
  simpa [Lit.wf, IntKind.min, IntKind.max, IntKind.bits, IntKind.signed] using h
theorem wf_u8 {n : Int} (h : (Lit.int .u8 n).wf = true) : 0 ≤ n ∧ n ≤ 255 := by
  simpa [Lit.wf, IntKind.min, IntKind.max, IntKind.bits, IntKind.signed] using h
theorem rd_good {xs : List S35} (h : ∀ y ∈ xs, good35 y) (i : Int) : 0 ≤ (rd_T35 xs i).f0 ∧ (rd_T35 xs i).f0 ≤ 4294967295 ∧ 0 ≤ (rd_T35 xs i).f1 ∧ (rd_T35 xs i).f1 ≤ 4294967295 := by
  unfold rd_T35
  rw [List.getD_eq_getElem?_getD]
  by_cases hi : i.toNat < xs.length
  · rw [List.getElem?_eq_getElem hi, Option.getD_some]
    have hg := h _ (List.getElem_mem hi)
    have a := wf_u32 hg.1
    have b := wf_u32 hg.2
    omega
  · rw [List.getElem?_eq_none (by omega), Option.getD_none]
    simp [z35]
theorem part {x : Int} (h0 : 0 ≤ x) (h : x ≤ 4294967295) : ∃ a, Int.tmod (wrap64 x) 1048576 = a ∧ 0 ≤ a ∧ a < 1048576 := by
  rw [wrap_id (by omega) (by omega), Int.tmod_eq_emod_of_nonneg h0]
  exact ⟨_, rfl, by omega, by omega⟩
theorem mod_step {i w : Int} (_h0 : 0 ≤ i) (hw : 1 ≤ w) : (i % w + 1 < w → (i + 1) % w = i % w + 1) ∧ (¬ i % w + 1 < w → (i + 1) % w = 0) := by
  have h1 := Int.emod_nonneg i (show w ≠ 0 by omega)
  have h2 := Int.emod_lt_of_pos i (show 0 < w by omega)
  have e : (i + 1) % w = (i % w + 1) % w := by rw [Int.emod_add_emod]
  constructor
  · intro h
    rw [e, Int.emod_eq_of_lt (by omega) h]
  · intro h
    rw [e, show i % w + 1 = w by omega, Int.emod_self]

theorem loop {xs : List S35} (hg : ∀ y ∈ xs, good35 y) (hl : xs.length ≤ 200) {w : Int} (hw : 1 ≤ w) (hw2 : w ≤ 20) (d : Nat) :
    ∀ (k : Nat) (many size i : Int), 0 ≤ i → (xs.length : Int) - i = d → 0 ≤ many → many ≤ i * 1048576 → 0 ≤ size → size ≤ i * 1048576 → 2 * d < k →
      precentorlaw13_MeterSums.l0 k xs true w many size i (i % w) many size = some true := by
  induction d with
  | zero =>
    intro k many size i h0 hd _ _ _ _ hk
    obtain ⟨k, rfl⟩ : ∃ m, k = m + 1 := ⟨k - 1, by omega⟩
    simp only [precentorlaw13_MeterSums.l0]
    rw [if_neg (by omega)]
  | succ d ih =>
    intro k many size i h0 hd hm0 hm hs0 hs hk
    obtain ⟨k, rfl⟩ : ∃ m, k = m + 2 := ⟨k - 2, by omega⟩
    obtain ⟨g1, g2, g3, g4⟩ := rd_good hg i
    obtain ⟨a, ea, a0, a1⟩ := part g1 g2
    obtain ⟨b, eb, b0, b1⟩ := part g3 g4
    have hi1 := Int.emod_nonneg i (show w ≠ 0 by omega)
    have hi2 := Int.emod_lt_of_pos i (show 0 < w by omega)
    obtain ⟨st1, st2⟩ := mod_step h0 hw
    have hr : R (i % w) many size := ⟨by omega, by omega, hm0, by omega, hs0, by omega⟩
    have hr2 : R (i % w) (many + a) (size + b) := ⟨by omega, by omega, by omega, by omega, by omega, by omega⟩
    simp only [precentorlaw13_MeterSums.l0, ea, eb]
    rw [if_pos (by omega), if_pos h0, add_val hr ⟨a0, by omega⟩ ⟨b0, by omega⟩, least_id (by omega), least_id (by omega)]
    simp only [Option.bind_some, tick_eq w hr2]
    unfold precentorref13_Tick.f
    rw [wrap_id (x := i % w + 1) (by omega) (by omega), wrap_id (x := many + a) (by omega) (by omega), wrap_id (x := size + b) (by omega) (by omega), wrap_id (x := i + 1) (by omega) (by omega), Int.tmod_eq_emod_of_nonneg (by omega)]
    by_cases hc : i % w + 1 < w
    · rw [if_pos hc]
      simp only [Option.bind_some]
      have e := st1 hc
      have e0 : ((i + 1) % w == 0) = false := beq_eq_false_iff_ne.2 (by omega)
      rw [if_neg (by omega), e0]
      simp only [bne_self_eq_false, Bool.false_eq_true, if_false, if_true, ← e, precentorlaw13_MeterSums.j1]
      rw [wrap_id (x := i + 1) (by omega) (by omega)]
      exact ih k (many + a) (size + b) (i + 1) (by omega) (by omega) (by omega) (by omega) (by omega) (by omega) (by omega)
    · rw [if_neg hc]
      simp only [Option.bind_some]
      have e := st2 hc
      have e0 : ((i + 1) % w == 0) = true := beq_iff_eq.2 (by omega)
      rw [if_neg (by omega), e0]
      simp only [bne_self_eq_false, Bool.false_eq_true, if_false, if_true, beq_self_eq_true, Bool.not_true, Bool.or_self, precentorlaw13_MeterSums.j1]
      rw [wrap_id (x := i + 1) (by omega) (by omega)]
      have := ih k 0 0 (i + 1) (by omega) (by omega) (by omega) (by omega) (by omega) (by omega) (by omega)
      rw [e] at this
      exact this

theorem plain : Pure := by
  intro xs window hx hwin
  obtain ⟨_, hg⟩ := hx
  obtain ⟨w0, w1⟩ := wf_u8 hwin
  refine ⟨2 * xs.length + 2, ?_⟩
  simp only [precentorlaw13_MeterSums.f, shown_true, Option.bind_some]
  by_cases hl : (xs.length : Int) > 200
  · rw [if_pos hl]
  · rw [if_neg hl, wrap_id (x := window) (by omega) (by omega), Int.tmod_eq_emod_of_nonneg w0, wrap_id (by omega) (by omega)]
    have := loop hg (by omega) (w := 1 + window % 20) (by omega) (by omega) xs.length (2 * xs.length + 2) 0 0 0 (by omega) (by omega) (by omega) (by omega) (by omega) (by omega) (by omega)
    rw [Int.zero_emod] at this
    exact this
end Go.Proofs.Ytkihhkhhmplnlaa.MeterSumsS
