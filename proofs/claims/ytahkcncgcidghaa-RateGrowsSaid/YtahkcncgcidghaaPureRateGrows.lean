/- RateGrows, the plain law. No condition. -/
import Derived.Test.YtahkcncgcidghaaSayRateGrows
import Derived.Test.YtahkcncgcidghaaPlain
namespace Go.Proofs.Ytahkcncgcidghaa.RateGrowsS
set_option linter.unusedVariables false
set_option linter.unusedSimpArgs false
open Go.RowKit Go.Proofs.Ytahkcncgcidghaa.Print Go.Proofs.Ytahkcncgcidghaa.Plain Go.Proofs.Ytahkcncgcidghaa.FloatNat
open Go.Proofs.YtahkcncgcidghaaW.PrintWords Go.Proofs.YtahkcncgcidghaaW.PrintLast Go.Proofs.YtahkcncgcidghaaW.PrintMore

/-- What is known behind j ticks. -/
def Inv (gaps : Bool) (j now left lo hi b : Int) : Prop :=
  R now left lo hi b ∧ (left = b ∨ j ≤ left) ∧ (if gaps = true then now = lo ∨ now ≤ hi - j else now = hi ∨ lo + j ≤ now)
theorem inv_step {gaps : Bool} {j now left lo hi b : Int} (h : Inv gaps j now left lo hi b) : Inv gaps (j + 1) (refill now lo hi (if gaps = true then 1 else 0)) (least (left + refill now lo hi (if gaps = true then 1 else 0)) b) lo hi b := by
  obtain ⟨hr, hl, hn⟩ := h
  have hb := refill_bounds (if gaps = true then 1 else 0) hr
  obtain ⟨t1, _⟩ := tick_right (if gaps = true then 1 else 0) hr
  refine ⟨t1, ?_, ?_⟩
  · obtain ⟨h1, h2, h3, h4, h5, h6, h7, h8, h9⟩ := hr
    generalize refill now lo hi _ = q at *
    unfold least
    split <;> omega
  · obtain ⟨h1, h2, h3, h4, h5, h6, h7, h8, h9⟩ := hr
    cases gaps with
    | true =>
      simp only [if_true] at hn ⊢
      unfold refill greatest
      rw [if_pos (by omega)]
      split <;> omega
    | false =>
      simp only [Bool.false_eq_true, if_false] at hn ⊢
      unfold refill least
      rw [if_neg (by omega)]
      split <;> omega
theorem loop {gaps : Bool} {lo hi b : Int} (hhi : hi ≤ 100) (hb : b ≤ 100) (d : Nat) :
    ∀ (k : Nat) (i now left : Int), 1 ≤ i → 121 - i = d → Inv gaps (i - 1) now left lo hi b → 3 * d < k → precentorlaw11_RateGrows.l0 k gaps true lo hi b i now left = some true := by
  induction d with
  | zero =>
    intro k i now left h0 hd hinv hk
    obtain ⟨k, rfl⟩ : ∃ m, k = m + 1 := ⟨k - 1, by omega⟩
    obtain ⟨⟨h1, h2, h3, h4, h5, h6, h7, h8, h9⟩, hl, hn⟩ := hinv
    simp only [precentorlaw11_RateGrows.l0]
    rw [if_neg (by omega), if_pos trivial, if_pos (by omega)]
    cases gaps with
    | true =>
      simp only [if_true] at hn ⊢
      rw [if_pos (by omega)]
    | false =>
      simp only [Bool.false_eq_true, if_false] at hn ⊢
      rw [show (now == hi) = true from beq_iff_eq.2 (by omega)]
  | succ d ih =>
    intro k i now left h0 hd hinv hk
    obtain ⟨k, rfl⟩ : ∃ m, k = m + 3 := ⟨k - 3, by omega⟩
    have hnext := inv_step hinv
    rw [show i - 1 + 1 = i + 1 - 1 by omega] at hnext
    have hih := ih k (i + 1) _ _ (by omega) (by omega) hnext (by omega)
    obtain ⟨hr, hl, hn⟩ := hinv
    obtain ⟨_, t2, _⟩ := tick_right (if gaps = true then 1 else 0) hr
    obtain ⟨⟨_, _, _, _, _, _, _, _, n9⟩, _⟩ := hnext
    obtain ⟨h1, h2, h3, h4, h5, h6, h7, h8, h9⟩ := id hr
    have hval := tick_val (if gaps = true then 1 else 0) hr
    simp only [precentorlaw11_RateGrows.l0]
    rw [if_pos (by omega)]
    cases gaps with
    | true =>
      simp only [if_true] at hval hih t2 n9 ⊢
      have e : refill now lo hi 1 = if now / 2 < lo then lo else now / 2 := by unfold refill greatest; rw [if_pos (by omega)]
      rw [Int.tdiv_eq_ediv_of_nonneg (by omega), wrap_id (x := now / 2) (by omega) (by omega)]
      simp only [precentorlaw11_RateGrows.j3, precentorlaw11_RateGrows.j4]
      rw [if_neg (show ¬ now / 2 > hi by omega), hval]
      simp only [Option.bind_some]
      rw [wrap_id (x := i + 1) (by omega) (by omega)]
      by_cases c : now / 2 < lo
      · rw [if_pos c] at e
        rw [if_pos c, if_pos e, if_neg (by omega), if_neg (by omega)]; exact hih
      · rw [if_neg c] at e
        rw [if_neg c, if_pos e, if_neg (by omega), if_neg (by omega)]; exact hih
    | false =>
      simp only [Bool.false_eq_true, if_false] at hval hih t2 n9 ⊢
      have e : refill now lo hi 0 = if hi < now + 1 then hi else now + 1 := by unfold refill least; rw [if_neg (by omega)]
      rw [wrap_id (x := now + 1) (by omega) (by omega)]
      simp only [precentorlaw11_RateGrows.j3, precentorlaw11_RateGrows.j4]
      rw [hval]
      simp only [Option.bind_some]
      rw [wrap_id (x := i + 1) (by omega) (by omega)]
      by_cases c : now + 1 > hi
      · rw [if_pos (show hi < now + 1 from c)] at e
        rw [if_pos c, if_neg (show ¬ hi < lo by omega), if_pos e, if_neg (by omega), if_neg (by omega)]; exact hih
      · rw [if_neg (show ¬ hi < now + 1 from c)] at e
        rw [if_neg c, if_neg (show ¬ now + 1 < lo by omega), if_pos e, if_neg (by omega), if_neg (by omega)]; exact hih
theorem plain : Pure := by
  rintro ⟨x, y, z, gaps⟩ ⟨wx, wy, wz, _⟩
  obtain ⟨x0, x1⟩ := wf_u8 wx
  obtain ⟨y0, y1⟩ := wf_u8 wy
  obtain ⟨z0, z1⟩ := wf_u8 wz
  simp only at x0 x1 y0 y1 z0 z1
  refine ⟨400, ?_⟩
  simp only [precentorlaw11_RateGrows.f, shown_true, Option.bind_some]
  rw [cut x0 (by omega), cut y0 (by omega), cut z0 (by omega), wrap_id (x := 1 + x % 30) (by omega) (by omega), wrap_id (x := 1 + x % 30 + y % 70) (by omega) (by omega), wrap_id (x := 1 + z % 100) (by omega) (by omega)]
  have hr : R (1 + x % 30 + y % 70) (1 + z % 100) (1 + x % 30) (1 + x % 30 + y % 70) (1 + z % 100) := ⟨by omega, by omega, by omega, by omega, by omega, by omega, by omega, by omega, by omega⟩
  simp only [rate_Start.f, Option.bind_some]
  rw [spend_val _ hr, if_pos ⟨by omega, by omega⟩, Int.sub_self]
  simp only [Option.bind_some, if_true]
  rw [show ((0 : Int) != 0) = false from rfl]
  simp only [precentorlaw11_RateGrows.j0, precentorlaw11_RateGrows.j1, Bool.false_eq_true, if_false]
  have r0 : ∀ now, 1 + x % 30 ≤ now → now ≤ 1 + x % 30 + y % 70 → R now 0 (1 + x % 30) (1 + x % 30 + y % 70) (1 + z % 100) := fun now p q => ⟨by omega, by omega, by omega, by omega, by omega, p, q, by omega, by omega⟩
  cases gaps with
  | true =>
    simp only [if_true]
    exact loop (by omega) (by omega) 120 398 1 _ _ (by omega) (by omega) ⟨r0 _ (by omega) (by omega), by omega, by simp only [if_true]; omega⟩ (by omega)
  | false =>
    simp only [Bool.false_eq_true, if_false]
    exact loop (by omega) (by omega) 120 398 1 _ _ (by omega) (by omega) ⟨r0 _ (by omega) (by omega), by omega, by simp only [Bool.false_eq_true, if_false]; omega⟩ (by omega)
end Go.Proofs.Ytahkcncgcidghaa.RateGrowsS
