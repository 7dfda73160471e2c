/- A whole number divided by two and rounded down, as floats: what the model's float64 gives. Condition: the number is between 0 and 2^50. -/
import Derived.Test.YtahkcncgcidghaaFloat
namespace Go.Proofs.Ytahkcncgcidghaa.FloatNat
set_option linter.unusedVariables false
set_option linter.unusedSimpArgs false
open Ieee

/-- 2.0 -/
def two : Nat := 4611686018427387904
theorem br1 (a : Nat) : (-1075 : Int) + ((a + 1 : Nat) : Int) - 0 = (a : Int) - 1074 := by omega
theorem ar1h (a q : Nat) (hl : a ≤ 52) (hhi : q < 2 ^ 53) : (a + 1021) * 2 ^ 52 + q ≤ 2047 * 2 ^ 52 := by omega
theorem ar2h (a q : Nat) (hlo : 2 ^ 52 ≤ q) : ¬ ((a + 1021) * 2 ^ 52 + q < 2 ^ 52) := by omega
theorem ar3h (a q : Nat) (hl : a ≤ 52) (hhi : q < 2 ^ 53) : (a + 1021) * 2 ^ 52 + q < 2047 * 2 ^ 52 := by omega
theorem ar4h (a q : Nat) (hlo : 2 ^ 52 ≤ q) (hhi : q < 2 ^ 53) : ((a + 1021) * 2 ^ 52 + q) / 2 ^ 52 = a + 1022 ∧ ((a + 1021) * 2 ^ 52 + q) % 2 ^ 52 = q - 2 ^ 52 := by omega
theorem ar6h (a : Nat) : (-1074 : Int) + ((a + 1022 - 1 : Nat) : Int) = (a : Int) - 53 := by omega
/-- The rung of half a number. -/
def rungHalf (m : Nat) : Nat := (m.log2 + 1021) * 2 ^ 52 + m * 2 ^ (52 - m.log2)
theorem nearest_half (m k : Nat) (h0 : m ≠ 0) (h : m < 2 ^ 53) : double.nearest false (m * 2 ^ k) (-1 - (k : Int)) = rungHalf m := by
  unfold Format.nearest rungHalf
  have h2 : m * 2 ^ k ≠ 0 := Nat.mul_ne_zero h0 (Nat.ne_of_gt (Nat.two_pow_pos k))
  have hl := log2_lt53 h0 h
  rw [if_neg h2, log2_mul_pow m k h0]
  have hlp : double.leastPlace = -1074 := by decide
  have hfb : double.fractionBits = 52 := rfl
  have hbin : double.binade = 2 ^ 52 := rfl
  have hinf : double.infRung = 2047 * 2 ^ 52 := rfl
  have hlast : max (-1 - (k : Int) + ((m.log2 + k : Nat) : Int) - (double.fractionBits : Nat)) double.leastPlace = (m.log2 : Int) - 53 := by
    rw [hlp, hfb]; omega
  dsimp only
  rw [hlast, hlp, hbin, hinf]
  have hk : Toward.even.cut false ((m * 2 ^ k) <<< (-1 - (k : Int) - ((m.log2 : Int) - 53)).toNat) (((m.log2 : Int) - 53) - (-1 - (k : Int))).toNat = m * 2 ^ (52 - m.log2) := by
    by_cases hc : k ≤ 52 - m.log2
    · rw [show (((m.log2 : Int) - 53) - (-1 - (k : Int))).toNat = 0 by omega, cut_zero, Nat.shiftLeft_eq, Nat.mul_assoc, ← Nat.pow_add]
      congr 2; omega
    · rw [show (-1 - (k : Int) - ((m.log2 : Int) - 53)).toNat = 0 by omega, Nat.shiftLeft_zero]
      obtain ⟨d, hd⟩ : ∃ d, k = (52 - m.log2) + d := ⟨k - (52 - m.log2), by omega⟩
      rw [show (((m.log2 : Int) - 53) - (-1 - (k : Int))).toNat = d by omega, hd, Nat.pow_add, ← Nat.mul_assoc]
      exact cut_exact _ _ _ _
  rw [hk]
  clear hk hlast hlp hfb hbin hinf
  have hlo := sig_lo h0 hl
  have hhi := sig_hi h0 hl
  rw [show (((m.log2 : Int) - 53) - -1074).toNat = m.log2 + 1021 by omega]
  generalize m * 2 ^ (52 - m.log2) = q at *
  rw [Nat.min_eq_left (ar1h _ _ hl hhi)]
  rfl

theorem read_half (m : Nat) (h0 : m ≠ 0) (h : m < 2 ^ 53) : double.read (rungHalf m) = .number false (m * 2 ^ (52 - m.log2)) ((m.log2 : Int) - 53) := by
  have hl := log2_lt53 h0 h
  have hlo := sig_lo h0 hl
  have hhi := sig_hi h0 hl
  have hr : rungHalf m < 2 ^ 63 := by
    have := ar3h _ _ hl hhi
    unfold rungHalf; omega
  have hsw : double.signWeight = 2 ^ 63 := rfl
  have hneg : (rungHalf m / double.signWeight % 2 == 1) = false := by
    rw [hsw, Nat.div_eq_of_lt hr]; rfl
  have hmod : rungHalf m % double.signWeight = rungHalf m := by rw [hsw]; exact Nat.mod_eq_of_lt hr
  have hlp : double.leastPlace = -1074 := by decide
  have hbin : double.binade = 2 ^ 52 := rfl
  have hinf : double.infRung = 2047 * 2 ^ 52 := rfl
  unfold Format.read
  simp only [hneg, hmod, hlp, hbin, hinf]
  clear hneg hmod hlp hbin hinf hsw hr
  unfold rungHalf
  generalize m * 2 ^ (52 - m.log2) = q at *
  rw [if_neg (ar2h _ _ hlo), if_pos (ar3h _ _ hl hhi), (ar4h _ _ hlo hhi).1, (ar4h _ _ hlo hhi).2, ar5 _ hlo, ar6h]

theorem read_two : double.read two = .number false (2 ^ 52) (-51) := by decide +kernel
theorem shl54 (m l : Nat) (h : l ≤ 52) : (m * 2 ^ (52 - l)) <<< 54 = 2 ^ 52 * (m * 2 ^ (54 - l)) := by
  rw [Nat.shiftLeft_eq, Nat.mul_comm (2 ^ 52), Nat.mul_assoc, Nat.mul_assoc, ← Nat.pow_add, ← Nat.pow_add, show 52 - l + 54 = 54 - l + 52 by omega]
theorem twice (m l : Nat) (h : l ≤ 52) : 2 * (m * 2 ^ (54 - l)) = m * 2 ^ (55 - l) := by
  rw [show 55 - l = (54 - l) + 1 by omega, Nat.pow_succ, ← Nat.mul_assoc, Nat.mul_comm 2, Nat.mul_assoc, Nat.mul_comm 2]
theorem log52 : Nat.log2 (2 ^ 52) = 52 := by decide +kernel
theorem pos52 : (2 : Nat) ^ 52 ≠ 0 := by decide
theorem pos52' : 0 < (2 : Nat) ^ 52 := by decide
theorem sig_log {m : Nat} (h0 : m ≠ 0) (h : m.log2 ≤ 52) : (m * 2 ^ (52 - m.log2)).log2 = 52 := by
  rw [log2_mul_pow _ _ h0]; omega

/-- Half of a whole number. -/
theorem div_two (n : Int) (h0 : 0 < n) (h : n < 2 ^ 50) : double.div (fw n) two = some (rungHalf n.natAbs) := by
  have hm0 : n.natAbs ≠ 0 := by omega
  have hm : n.natAbs < 2 ^ 53 := by omega
  have hl := log2_lt53 hm0 hm
  unfold Format.div
  rw [read_fw n hm, read_two]
  unfold dat
  rw [if_neg hm0, show decide (n < 0) = false from decide_eq_false (by omega)]
  generalize n.natAbs = m at *
  have hf : double.fractionBits = 52 := rfl
  unfold Datum.quotient
  dsimp only
  rw [if_neg pos52, sig_log hm0 hl, log52, hf, show 52 + 2 + 52 - 52 = 54 from rfl, shl54 m _ hl, Nat.mul_div_cancel_left _ pos52', Nat.mul_mod_right, twice m _ hl]
  have e0 : ((0 : Nat) != 0).toNat = 0 := rfl
  rw [e0, Nat.add_zero]
  show some (double.nearest _ _ _) = _
  rw [show ((m.log2 : Int) - 52 - -51 - ((54 : Nat) : Int) - 1) = -1 - ((55 - m.log2 : Nat) : Int) by omega]
  exact congrArg some (nearest_half m _ hm0 hm)

theorem cut_floor (n d : Nat) (hd : d ≤ n.log2 + 2) : Toward.down.cut false n d = n / 2 ^ d := by
  unfold Toward.cut
  rw [Nat.min_eq_left hd, Nat.one_shiftLeft]
  simp
/-- .. rounded down. -/
theorem floor_half (n : Int) (h0 : 0 < n) (h : n < 2 ^ 50) : FloatKind.f64.encode ((FloatKind.f64.decode (rungHalf n.natAbs)).integral .down) = fw (n / 2) := by
  have hm0 : n.natAbs ≠ 0 := by omega
  have hm : n.natAbs < 2 ^ 53 := by omega
  have hl := log2_lt53 hm0 hm
  have e : FloatKind.f64.decode (rungHalf n.natAbs) = double.read (rungHalf n.natAbs) := rfl
  rw [e, read_half _ hm0 hm]
  simp only [Datum.integral]
  rw [show ((n.natAbs.log2 : Int) - 53).toNat = 0 by omega, Nat.shiftLeft_zero, show (-((n.natAbs.log2 : Int) - 53)).toNat = 53 - n.natAbs.log2 by omega]
  rw [cut_floor _ _ (by rw [sig_log hm0 hl]; omega)]
  have e2 : n.natAbs * 2 ^ (52 - n.natAbs.log2) / 2 ^ (53 - n.natAbs.log2) = n.natAbs / 2 := by
    rw [show 53 - n.natAbs.log2 = (52 - n.natAbs.log2) + 1 by omega, Nat.pow_succ, Nat.mul_comm (2 ^ _) 2, ← Nat.div_div_eq_div_mul, ]
    rw [Nat.div_div_eq_div_mul, Nat.mul_comm 2, ← Nat.div_div_eq_div_mul, Nat.mul_div_cancel _ (Nat.two_pow_pos _)]
  rw [e2]
  unfold fw floatOfInt FloatKind.nearest
  rw [show decide (n / 2 < 0) = false from decide_eq_false (by omega), show (n / 2).natAbs = n.natAbs / 2 by omega]

section
variable {P : Program} (w : World)
theorem run_half (t : TypeId) (n : Int) (h0 : 0 < n) (h : n < 2 ^ 50) : (binOp .quo t (.float .f64 (fw n)) (.float .f64 4611686018427387904)).run P w = .ok (.float .f64 (rungHalf n.natAbs)) w :=
  run_float_arith w .quo t .f64 _ _ _ (div_two n h0 h)
theorem run_half_zero (t : TypeId) : (binOp .quo t (.float .f64 (fw 0)) (.float .f64 4611686018427387904)).run P w = .ok (.float .f64 (fw 0)) w :=
  run_float_arith w .quo t .f64 _ _ _ (by decide +kernel)
theorem run_extern_fn {f : FuncId} {fn : Func} {e : Array Value → Sem Value} (hf : P.funcs[f]? = some fn) (hn : (fn.name == "runtime.NumGoroutine") = false) (hb : fn.body = none) (h1 : (Extern.findNext fn).isNone = true) (h2 : Extern.find fn = some e) {args : Array Value} {v : Value} (hr : (e args).run P w = .ok v w) :
    (callFunc f args).run P w = .ok (.value v) w := by
  have h1' : Extern.findNext fn = none := Option.isNone_iff_eq_none.1 h1
  simp [callFunc, go_sem, hf, beq_eq_false_iff_ne.1 hn, hb, h1', h2, hr]
end
end Go.Proofs.Ytahkcncgcidghaa.FloatNat
