/- What the load's two functions, Add and Tick, give, as Lean functions, and that each call does just that. Condition: the numbers are at most 2^51 in size. -/
import Derived.Test.YtkihhkhhmplnlaaPrint0
import Derived.Test.YtkihhkhhmplnlaaFloat
import Derived.WalkLawsBesides
import Derived.Lib.Hide
namespace Go.Proofs.Ytkihhkhhmplnlaa.Print
set_option linter.unusedVariables false
set_option linter.unusedSimpArgs false
open Go.RowKit Go.Proofs.YtkihhkhhmplnlaaW.PrintWords Go.Proofs.YtkihhkhhmplnlaaW.PrintLast Go.Proofs.YtkihhkhhmplnlaaW.PrintMore
open Go.Proofs.Ytkihhkhhmplnlaa.FloatNat

theorem bcell {W w1 : World} (hb : Below W.heap.size W w1) : (∀ b o, b < W.heap.size → w1.cell? ⟨b, o, none⟩ = W.cell? ⟨b, o, none⟩) ∧ (∀ b o, b < W.heap.size → w1.frozen? ⟨b, o, none⟩ = W.frozen? ⟨b, o, none⟩) :=
  ⟨fun b o h => hb.cell (p := ⟨b, o, none⟩) h, fun b o h => hb.frozen (p := ⟨b, o, none⟩) h⟩
theorem sum_calls (a m b : Int) (w : World) :
    Calls Try.prog 15 #[.agg #[.int .i64 a, .int .i64 m, .int .i64 b]] w fun e w' => e = .returned (.complex .f64 (fw m) (fw b)) ∧ Below w.heap.size w w' := by
  go_enter Try.func15, Try.ntmps15
  go_wp2
  go_ret
  exact ⟨rfl, (Below.refl _ _).alloc (Nat.le_refl _) _⟩
theorem one_calls (x : Int) (w : World) (hx : x.natAbs < 2 ^ 53) :
    Calls Try.prog 17 #[.float .f64 (fw x)] w fun e w' => e = .returned (.int .i64 (least x 1099511627776)) ∧ w = w' := by
  have h40 : fw 1099511627776 = 4787326403894837248 := by decide +kernel
  have hm := fun ts t w => run_min_fw (P := Try.prog) w ts t x 1099511627776 hx (by decide)
  rw [h40] at hm
  have hl : (least x 1099511627776).natAbs < 2 ^ 53 := by unfold least; split <;> omega
  have hc := fun w => run_int_fw (P := Try.prog) w 47 3 (least x 1099511627776) (by rw [Try.underlying47]; rfl) Try.underlying3 hl
  clear h40 hl
  go_enter Try.func17, Try.ntmps17
  go_wp2_with (simp only [hm, hc])
  go_ret
  exact ⟨rfl, rfl⟩
theorem parts_calls (x y : Int) (w : World) (hx : x.natAbs < 2 ^ 53) (hy : y.natAbs < 2 ^ 53) :
    Calls Try.prog 14 #[.complex .f64 (fw x) (fw y)] w fun e w' => e = .returned (.tuple #[.int .i64 (least x 1099511627776), .int .i64 (least y 1099511627776)]) ∧ w = w' := by
  have HX := Lib.hid hx
  have HY := Lib.hid hy
  clear hx hy
  go_enter Try.func14, Try.ntmps14
  go_wp2_with fail
  refine (one_calls x _ HX.out).mono ?_
  rintro e w' ⟨rfl, rfl⟩
  go_wp2_with fail
  refine (one_calls y _ HY.out).mono ?_
  rintro e w' ⟨rfl, rfl⟩
  go_wp2_with fail
  go_ret2
  exact ⟨rfl, rfl⟩

def small (x : Int) : Prop := x.natAbs < 2 ^ 51
instance (x : Int) : Decidable (small x) := inferInstanceAs (Decidable (_ < _))
theorem small53 {x : Int} (h : small x) : x.natAbs < 2 ^ 53 := by unfold small at h; omega
def meter_Tick.f (a m b n : Int) : Option (Int × Int × Int × Int × Int × Bool) :=
  if small m ∧ small b then if wrap64 (a + 1) < n then some (wrap64 (a + 1), m, b, 0, 0, false) else some (0, 0, 0, least m 1099511627776, least b 1099511627776, true) else none
def meter_Add.f (a m b x y : Int) : Option (Int × Int × Int) :=
  if (small m ∧ small b) ∧ small x ∧ small y then some (a, least (m + x) 1099511627776, least (b + y) 1099511627776) else none

theorem meter_Tick.calls (a m b n : Int) (r1 r2 r3 r4 r5 : Int) (r6 : Bool) (w : World) (h : meter_Tick.f a m b n = some (r1, r2, r3, r4, r5, r6)) :
    Calls Try.prog 10 #[.agg #[.int .i64 a, .int .i64 m, .int .i64 b], .int .i64 n] w fun e w' => e = .returned (.tuple #[.agg #[.int .i64 r1, .int .i64 r2, .int .i64 r3], .int .i64 r4, .int .i64 r5, .bool r6]) ∧ Below w.heap.size w w' := by
  unfold meter_Tick.f at h
  by_cases hs : small m ∧ small b
  · rw [if_pos hs] at h
    have HM := Lib.hid hs.1
    have HN := Lib.hid hs.2
    clear hs
    by_cases hc : wrap64 (a + 1) < n
    · rw [if_pos hc] at h
      simp only [Option.some.injEq, Prod.mk.injEq] at h
      obtain ⟨rfl, rfl, rfl, rfl, rfl, rfl⟩ := h
      go_enter Try.func10, Try.ntmps10
      go_wp2_with fail
      refine bodyPost_ret (v := .tuple #[.agg #[.int .i64 (wrap64 (a + 1)), .int .i64 m, .int .i64 b], .int .i64 0, .int .i64 0, .bool false]) (by simp [results, Try.results10, go_sem]) rfl ⟨rfl, ?_⟩
      exact ((Below.refl _ _).alloc (Nat.le_refl _) _).alloc (by simp) _
    · rw [if_neg hc] at h
      simp only [Option.some.injEq, Prod.mk.injEq] at h
      obtain ⟨rfl, rfl, rfl, rfl, rfl, rfl⟩ := h
      go_enter Try.func10, Try.ntmps10
      go_wp2_with fail
      refine (sum_calls _ m b _).mono ?_
      rintro e w' ⟨rfl, hb⟩
      obtain ⟨hc, hf⟩ := bcell hb
      go_wp2_with fail
      refine (parts_calls m b _ (small53 HM.out) (small53 HN.out)).mono ?_
      rintro e w'' ⟨rfl, rfl⟩
      go_wp2_with fail
      refine bodyPost_ret (v := .tuple #[.agg #[.int .i64 0, .int .i64 0, .int .i64 0], .int .i64 (least m 1099511627776), .int .i64 (least b 1099511627776), .bool true]) (by simp [results, Try.results10, go_sem, hc]) rfl ⟨rfl, ?_⟩
      exact ((((((Below.refl _ _).alloc (Nat.le_refl _) _).alloc (by simp) _).trans (hb.mono (by simp; omega))).setCell (by simp) _).setCell (by simp) _).setCell (by simp) _
  · rw [if_neg hs] at h
    exact absurd h (by simp)

theorem meter_Add.calls (a m b x y : Int) (r1 r2 r3 : Int) (w : World) (h : meter_Add.f a m b x y = some (r1, r2, r3)) :
    Calls Try.prog 12 #[.agg #[.int .i64 a, .int .i64 m, .int .i64 b], .int .i64 x, .int .i64 y] w fun e w' => e = .returned (.agg #[.int .i64 r1, .int .i64 r2, .int .i64 r3]) ∧ Below w.heap.size w w' := by
  unfold meter_Add.f at h
  by_cases hs : (small m ∧ small b) ∧ small x ∧ small y
  · rw [if_pos hs] at h
    simp only [Option.some.injEq, Prod.mk.injEq] at h
    obtain ⟨rfl, rfl, rfl⟩ := h
    obtain ⟨⟨h1, h2⟩, h3, h4⟩ := hs
    unfold small at h1 h2 h3 h4
    have hadd := fun t w => run_cadd_fw (P := Try.prog) w t m b x y (by omega) (by omega) (by omega) (by omega)
    have H1 := Lib.hid (show (m + x).natAbs < 2 ^ 53 by omega)
    have H2 := Lib.hid (show (b + y).natAbs < 2 ^ 53 by omega)
    clear h1 h2 h3 h4
    go_enter Try.func12, Try.ntmps12
    go_wp2_with fail
    refine (sum_calls _ m b _).mono ?_
    rintro e w' ⟨rfl, hb⟩
    obtain ⟨hc, hf⟩ := bcell hb
    have e0 : w'.cell? ⟨w.heap.size, 0, none⟩ = some (.int .i64 a) := by simp [hc, go_sem]
    have e1 : w'.cell? ⟨w.heap.size, 1, none⟩ = some (.int .i64 m) := by simp [hc, go_sem]
    have e2 : w'.cell? ⟨w.heap.size, 2, none⟩ = some (.int .i64 b) := by simp [hc, go_sem]
    have e3 : w'.cell? ⟨w.heap.size + 1, 0, none⟩ = some (.int .i64 0) := by simp [hc, go_sem]
    have e4 : w'.cell? ⟨w.heap.size + 1, 1, none⟩ = some (.int .i64 0) := by simp [hc, go_sem]
    have e5 : w'.cell? ⟨w.heap.size + 1, 2, none⟩ = some (.int .i64 0) := by simp [hc, go_sem]
    clear hc
    go_wp2_with (simp only [hadd])
    refine (parts_calls (m + x) (b + y) _ H1.out H2.out).mono ?_
    rintro e w'' ⟨rfl, rfl⟩
    clear hadd
    go_wp2_with fail
    refine bodyPost_ret (v := .agg #[.int .i64 a, .int .i64 (least (m + x) 1099511627776), .int .i64 (least (b + y) 1099511627776)]) (by simp [results, Try.results12, go_sem, e3, e4, e5]) rfl ⟨rfl, ?_⟩
    repeat' (first | refine Below.setCell ?_ (by simp) _)
    exact ((((Below.refl _ _).alloc (Nat.le_refl _) _).alloc (by simp) _).trans (hb.mono (by simp; omega)))
  · rw [if_neg hs] at h
    exact absurd h (by simp)
end Go.Proofs.Ytkihhkhhmplnlaa.Print
