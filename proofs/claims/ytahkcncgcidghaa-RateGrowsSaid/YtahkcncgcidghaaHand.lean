/- What the bucket's two functions, Tick and Spend, give, as Lean functions, and that each call does just that. Condition: the numbers are at most 2^49 in size, what is refilled at least 0. -/
import Derived.Test.YtahkcncgcidghaaPrint0
import Derived.Test.YtahkcncgcidghaaHalf
import Derived.WalkLawsBesides
import Derived.Lib.Hide
namespace Go.Proofs.Ytahkcncgcidghaa.Print
set_option linter.unusedVariables false
set_option linter.unusedSimpArgs false
open Go.RowKit Go.Proofs.YtahkcncgcidghaaW.PrintWords Go.Proofs.YtahkcncgcidghaaW.PrintLast Go.Proofs.YtahkcncgcidghaaW.PrintMore
open Go.Proofs.Ytahkcncgcidghaa.FloatNat

theorem bcell {W w1 : World} (hb : Below W.heap.size W w1) : (∀ b o, b < W.heap.size → w1.cell? ⟨b, o, none⟩ = W.cell? ⟨b, o, none⟩) ∧ (∀ b o, b < W.heap.size → w1.frozen? ⟨b, o, none⟩ = W.frozen? ⟨b, o, none⟩) :=
  ⟨fun b o h => hb.cell (p := ⟨b, o, none⟩) h, fun b o h => hb.frozen (p := ⟨b, o, none⟩) h⟩
theorem both_calls (a b : Int) (w : World) :
    Calls Try.prog 18 #[.agg #[.int .i64 a, .int .i64 b]] w fun e w' => e = .returned (.complex .f64 (fw a) (fw b)) ∧ Below w.heap.size w w' := by
  go_enter Try.func18, Try.ntmps18
  go_wp2
  go_ret
  exact ⟨rfl, (Below.refl _ _).alloc (Nat.le_refl _) _⟩
theorem of_calls (a b : Int) (w : World) (ha : a.natAbs < 2 ^ 53) (hb : b.natAbs < 2 ^ 53) :
    Calls Try.prog 17 #[.complex .f64 (fw a) (fw b)] w fun e w' => e = .returned (.agg #[.int .i64 a, .int .i64 b]) ∧ Below w.heap.size w w' := by
  have h1 := fun w => run_int_fw (P := Try.prog) w 47 3 a (by rw [Try.underlying47]; rfl) Try.underlying3 ha
  have h2 := fun w => run_int_fw (P := Try.prog) w 47 3 b (by rw [Try.underlying47]; rfl) Try.underlying3 hb
  clear ha hb
  go_enter Try.func17, Try.ntmps17
  go_wp2_with (simp only [h1, h2])
  refine bodyPost_ret (v := .agg #[.int .i64 a, .int .i64 b]) (by simp [results, Try.results17, go_sem]) rfl ⟨rfl, ?_⟩
  repeat' (first | refine Below.setCell ?_ (by simp) _)
  exact (Below.refl _ _).alloc (Nat.le_refl _) _
theorem floor_run {x r : Nat} {s : Bool} {m : Nat} {p : Int} (hd : FloatKind.f64.decode x = .number s m p) (he : FloatKind.f64.encode ((FloatKind.f64.decode x).integral .down) = r) (w : World) :
    (callFunc 21 #[.float .f64 x]).run Try.prog w = .ok (.value (.float .f64 r)) w := by
  refine run_extern_fn w Try.func21 (by kernel_rfl) rfl (by kernel_rfl) (e := Extern.MathFloor.toIntegral "math.archFloor" .down) (by kernel_rfl) ?_
  rw [← he]
  delta Extern.MathFloor.toIntegral
  conv => lhs; arg 2; whnf
  rw [hd]
  rfl
theorem floor_calls {x r : Nat} {s : Bool} {m : Nat} {p : Int} (hd : FloatKind.f64.decode x = .number s m p) (he : FloatKind.f64.encode ((FloatKind.f64.decode x).integral .down) = r) (w : World) :
    Calls Try.prog 20 #[.float .f64 x] w fun e w' => e = .returned (.float .f64 r) ∧ w = w' := by
  have h2 := fun w => floor_run hd he w
  clear hd he
  go_enter Try.func20, Try.ntmps20
  go_wp2
  go_ret
  exact ⟨rfl, rfl⟩
theorem half_calls (a : Int) (w : World) (h0 : 0 ≤ a) (h : a < 2 ^ 50) :
    Calls Try.prog 19 #[.float .f64 (fw a)] w fun e w' => e = .returned (.float .f64 (fw (a / 2))) ∧ w = w' := by
  by_cases hz : a = 0
  · subst hz
    have h1 := fun t w => run_half_zero (P := Try.prog) w t
    have h2 := Lib.hid (fun w => floor_calls (x := fw 0) (r := fw 0) (s := false) (m := 0) (p := -1074) (by decide +kernel) (by decide +kernel) w)
    have h3 : fw ((0 : Int) / 2) = fw 0 := by decide +kernel
    rw [h3]
    clear h3 h h0
    generalize fw 0 = z at *
    go_enter Try.func19, Try.ntmps19
    go_wp2_with (simp only [h1])
    refine (h2.out _).mono ?_
    rintro e w' ⟨rfl, rfl⟩
    go_wp2_with fail
    go_ret
    exact ⟨rfl, rfl⟩
  · have h1 := fun t w => run_half (P := Try.prog) w t a (by omega) h
    have hr := read_half a.natAbs (by omega) (by omega)
    have h2 := Lib.hid (fun w => floor_calls (hd := hr) (he := floor_half a (by omega) h) w)
    clear hr h0 h hz
    generalize fw a = x at *
    generalize fw (a / 2) = y at *
    generalize rungHalf a.natAbs = z at *
    go_enter Try.func19, Try.ntmps19
    go_wp2_with (simp only [h1])
    refine (h2.out _).mono ?_
    rintro e w' ⟨rfl, rfl⟩
    go_wp2_with fail
    go_ret
    exact ⟨rfl, rfl⟩

def small (x : Int) : Prop := x.natAbs < 2 ^ 49
instance (x : Int) : Decidable (small x) := inferInstanceAs (Decidable (_ < _))
/-- What is refilled at a tick. -/
def refill (now lo hi naks : Int) : Int := if 0 < naks then greatest (now / 2) lo else least (now + 1) hi
def rate_Tick.f (now left lo hi burst naks : Int) : Option (Int × Int) :=
  if (0 ≤ now ∧ small now ∧ small left) ∧ small lo ∧ small hi ∧ small burst then some (refill now lo hi naks, least (left + refill now lo hi naks) burst) else none
def rate_Spend.f (now left n : Int) : Option (Int × Int × Bool) :=
  if n < 0 then some (now, left, false) else if left < n then some (now, left, false) else if small now ∧ small left ∧ small n then some (now, left - n, true) else none

theorem least_lt {a b : Int} (ha : a.natAbs < 2 ^ 50) (hb : b.natAbs < 2 ^ 50) : (least a b).natAbs < 2 ^ 50 := by unfold least; split <;> omega
theorem greatest_lt {a b : Int} (ha : a.natAbs < 2 ^ 50) (hb : b.natAbs < 2 ^ 50) : (greatest a b).natAbs < 2 ^ 50 := by unfold greatest; split <;> omega
theorem fw_zero : fw 0 = 0 := by decide +kernel
theorem fw_one : fw 1 = 4607182418800017408 := by decide +kernel

theorem rate_Tick.calls (now left lo hi burst naks : Int) (r1 r2 : Int) (w : World) (h : rate_Tick.f now left lo hi burst naks = some (r1, r2)) :
    Calls Try.prog 14 #[.agg #[.int .i64 now, .int .i64 left], .int .i64 lo, .int .i64 hi, .int .i64 burst, .int .i64 naks] w fun e w' => e = .returned (.agg #[.int .i64 r1, .int .i64 r2]) ∧ Below w.heap.size w w' := by
  unfold rate_Tick.f at h
  by_cases hs : (0 ≤ now ∧ small now ∧ small left) ∧ small lo ∧ small hi ∧ small burst
  · rw [if_pos hs] at h
    simp only [Option.some.injEq, Prod.mk.injEq] at h
    obtain ⟨rfl, rfl⟩ := h
    obtain ⟨⟨h0, h1, h2⟩, h3, h4, h5⟩ := hs
    unfold small at h1 h2 h3 h4 h5
    have hone := fun t w => run_fadd_fw (P := Try.prog) w t now 1 (by omega) (by decide)
    rw [fw_one] at hone
    have hmin1 := fun ts t w => run_min_fw (P := Try.prog) w ts t (now + 1) hi (by omega) (by omega)
    have hq : (refill now lo hi naks).natAbs < 2 ^ 50 := by
      unfold refill
      split
      · exact greatest_lt (by omega) (by omega)
      · exact least_lt (by omega) (by omega)
    have hadd := fun t w => run_cadd_fw (P := Try.prog) w t (refill now lo hi naks) left 0 (refill now lo hi naks) (by omega) (by omega) (by decide) (by omega)
    rw [fw_zero, Int.add_zero] at hadd
    have hmin2 := fun ts t w => run_min_fw (P := Try.prog) w ts t (left + refill now lo hi naks) burst (by omega) (by omega)
    have hlast : (least (left + refill now lo hi naks) burst).natAbs < 2 ^ 53 := by unfold least; split <;> omega
    have HL := Lib.hid hlast
    have HQ := Lib.hid hq
    by_cases hn : 0 < naks
    · have hmax := fun ts t w => run_max_fw (P := Try.prog) w ts t (now / 2) lo (by omega) (by omega)
      have HN := Lib.hid h0
      have HN2 := Lib.hid (show now < 2 ^ 50 by omega)
      have e : refill now lo hi naks = greatest (now / 2) lo := by unfold refill; rw [if_pos hn]
      have HE := Lib.hid e
      rw [e] at hadd hmin2
      clear e hlast hq h0 h1 h2 h3 h4 h5
      go_enter Try.func14, Try.ntmps14
      go_wp2_with fail
      refine (both_calls now left _).mono ?_
      rintro e w' ⟨rfl, hb⟩
      obtain ⟨hc, hf⟩ := bcell hb
      go_wp2_with (simp only [hone, hmin1])
      refine (half_calls now _ HN.out HN2.out).mono ?_
      rintro e w' ⟨rfl, rfl⟩
      go_wp2_with (simp only [hmax, hadd, hmin2])
      have hz : w.heap.size + 1 < w'.heap.size := by have := hb.size; simp at this; omega
      have e0 : w'.cell? ⟨w.heap.size + 1, 0, none⟩ = some (.int .i64 0) := by simp [hc, go_sem]
      have e1 : w'.cell? ⟨w.heap.size + 1, 1, none⟩ = some (.int .i64 0) := by simp [hc, go_sem]
      have f0 : w'.frozen? ⟨w.heap.size + 1, 0, none⟩ = false := by simp [hf, go_sem]
      have f1 : w'.frozen? ⟨w.heap.size + 1, 1, none⟩ = false := by simp [hf, go_sem]
      clear hc hf
      refine (of_calls (greatest (now / 2) lo) (least (left + (greatest (now / 2) lo)) burst) _ (by rw [← HE.out]; have := HQ.out; omega) (by rw [← HE.out]; exact HL.out)).mono ?_
      rintro e w2 ⟨rfl, hb2⟩
      obtain ⟨hc2, hf2⟩ := bcell hb2
      have e0' := (hc2 _ 0 hz).trans e0
      have e1' := (hc2 _ 1 hz).trans e1
      have f0' := (hf2 _ 0 hz).trans f0
      have f1' := (hf2 _ 1 hz).trans f1
      clear hc2 hf2 e0 e1 f0 f1
      go_wp2_with fail
      rw [HE.out]
      refine bodyPost_ret (v := .agg #[.int .i64 ((greatest (now / 2) lo)), .int .i64 (least (left + (greatest (now / 2) lo)) burst)]) (by simp [results, Try.results14, go_sem, e0', e1']) rfl ⟨rfl, ?_⟩
      repeat' (first | refine Below.setCell ?_ (by simp) _)
      exact ((((Below.refl _ _).alloc (Nat.le_refl _) _).alloc (by simp) _).trans (hb.mono (by simp; omega))).trans (hb2.mono (by omega))
    · have e : refill now lo hi naks = least (now + 1) hi := by unfold refill; rw [if_neg hn]
      have HE := Lib.hid e
      rw [e] at hadd hmin2
      clear e hlast hq h0 h1 h2 h3 h4 h5
      go_enter Try.func14, Try.ntmps14
      go_wp2_with fail
      refine (both_calls now left _).mono ?_
      rintro e w' ⟨rfl, hb⟩
      obtain ⟨hc, hf⟩ := bcell hb
      go_wp2_with (simp only [hone, hmin1, hadd, hmin2])
      have hz : w.heap.size + 1 < w'.heap.size := by have := hb.size; simp at this; omega
      have e0 : w'.cell? ⟨w.heap.size + 1, 0, none⟩ = some (.int .i64 0) := by simp [hc, go_sem]
      have e1 : w'.cell? ⟨w.heap.size + 1, 1, none⟩ = some (.int .i64 0) := by simp [hc, go_sem]
      have f0 : w'.frozen? ⟨w.heap.size + 1, 0, none⟩ = false := by simp [hf, go_sem]
      have f1 : w'.frozen? ⟨w.heap.size + 1, 1, none⟩ = false := by simp [hf, go_sem]
      clear hc hf
      refine (of_calls (least (now + 1) hi) (least (left + (least (now + 1) hi)) burst) _ (by rw [← HE.out]; have := HQ.out; omega) (by rw [← HE.out]; exact HL.out)).mono ?_
      rintro e w2 ⟨rfl, hb2⟩
      obtain ⟨hc2, hf2⟩ := bcell hb2
      have e0' := (hc2 _ 0 hz).trans e0
      have e1' := (hc2 _ 1 hz).trans e1
      have f0' := (hf2 _ 0 hz).trans f0
      have f1' := (hf2 _ 1 hz).trans f1
      clear hc2 hf2 e0 e1 f0 f1
      go_wp2_with fail
      rw [HE.out]
      refine bodyPost_ret (v := .agg #[.int .i64 ((least (now + 1) hi)), .int .i64 (least (left + (least (now + 1) hi)) burst)]) (by simp [results, Try.results14, go_sem, e0', e1']) rfl ⟨rfl, ?_⟩
      repeat' (first | refine Below.setCell ?_ (by simp) _)
      exact ((((Below.refl _ _).alloc (Nat.le_refl _) _).alloc (by simp) _).trans (hb.mono (by simp; omega))).trans (hb2.mono (by omega))
  · rw [if_neg hs] at h
    exact absurd h (by simp)

theorem rate_Spend.calls (now left n : Int) (r1 r2 : Int) (r3 : Bool) (w : World) (h : rate_Spend.f now left n = some (r1, r2, r3)) :
    Calls Try.prog 10 #[.agg #[.int .i64 now, .int .i64 left], .int .i64 n] w fun e w' => e = .returned (.tuple #[.agg #[.int .i64 r1, .int .i64 r2], .bool r3]) ∧ Below w.heap.size w w' := by
  unfold rate_Spend.f at h
  by_cases h1 : n < 0
  · rw [if_pos h1] at h
    simp only [Option.some.injEq, Prod.mk.injEq] at h
    obtain ⟨rfl, rfl, rfl⟩ := h
    have hd : decide (n < 0) = true := decide_eq_true h1
    go_enter Try.func10, Try.ntmps10
    go_wp2_with fail
    refine bodyPost_ret (v := .tuple #[.agg #[.int .i64 now, .int .i64 left], .bool false]) (by simp [results, Try.results10, go_sem]) rfl ⟨rfl, ?_⟩
    exact ((Below.refl _ _).alloc (Nat.le_refl _) _).alloc (by simp) _
  · rw [if_neg h1] at h
    have hd : decide (n < 0) = false := decide_eq_false h1
    by_cases h2 : left < n
    · rw [if_pos h2] at h
      simp only [Option.some.injEq, Prod.mk.injEq] at h
      obtain ⟨rfl, rfl, rfl⟩ := h
      go_enter Try.func10, Try.ntmps10
      go_wp2_with fail
      refine bodyPost_ret (v := .tuple #[.agg #[.int .i64 now, .int .i64 left], .bool false]) (by simp [results, Try.results10, go_sem]) rfl ⟨rfl, ?_⟩
      exact ((Below.refl _ _).alloc (Nat.le_refl _) _).alloc (by simp) _
    · rw [if_neg h2] at h
      by_cases hs : small now ∧ small left ∧ small n
      · rw [if_pos hs] at h
        simp only [Option.some.injEq, Prod.mk.injEq] at h
        obtain ⟨rfl, rfl, rfl⟩ := h
        obtain ⟨s1, s2, s3⟩ := hs
        unfold small at s1 s2 s3
        have hsub := fun t w => run_csub_fw (P := Try.prog) w t now left 0 n (by omega) (by omega) (by decide) (by omega)
        rw [fw_zero, Int.sub_zero] at hsub
        have S1 := Lib.hid (show now.natAbs < 2 ^ 53 by omega)
        have S2 := Lib.hid (show (left - n).natAbs < 2 ^ 53 by omega)
        clear s1 s2 s3
        go_enter Try.func10, Try.ntmps10
        go_wp2_with fail
        refine (both_calls now left _).mono ?_
        rintro e w' ⟨rfl, hb⟩
        obtain ⟨hc, hf⟩ := bcell hb
        have hz : w.heap.size + 1 < w'.heap.size := by have := hb.size; simp at this; omega
        have e0 : w'.cell? ⟨w.heap.size + 1, 0, none⟩ = some (.int .i64 0) := by simp [hc, go_sem]
        have e1 : w'.cell? ⟨w.heap.size + 1, 1, none⟩ = some (.int .i64 0) := by simp [hc, go_sem]
        have f0 : w'.frozen? ⟨w.heap.size + 1, 0, none⟩ = false := by simp [hf, go_sem]
        have f1 : w'.frozen? ⟨w.heap.size + 1, 1, none⟩ = false := by simp [hf, go_sem]
        clear hc hf
        go_wp2_with (simp only [hsub])
        refine (of_calls now (left - n) _ S1.out S2.out).mono ?_
        rintro e w2 ⟨rfl, hb2⟩
        obtain ⟨hc2, hf2⟩ := bcell hb2
        have e0' := (hc2 _ 0 hz).trans e0
        have e1' := (hc2 _ 1 hz).trans e1
        have f0' := (hf2 _ 0 hz).trans f0
        have f1' := (hf2 _ 1 hz).trans f1
        clear hc2 hf2 e0 e1 f0 f1 hsub
        go_wp2_with fail
        refine bodyPost_ret (v := .tuple #[.agg #[.int .i64 now, .int .i64 (left - n)], .bool true]) (by simp [results, Try.results10, go_sem, e0', e1']) rfl ⟨rfl, ?_⟩
        repeat' (first | refine Below.setCell ?_ (by simp) _)
        exact ((((Below.refl _ _).alloc (Nat.le_refl _) _).alloc (by simp) _).trans (hb.mono (by simp; omega))).trans (hb2.mono (by omega))
      · rw [if_neg hs] at h
        exact absurd h (by simp)
end Go.Proofs.Ytahkcncgcidghaa.Print
