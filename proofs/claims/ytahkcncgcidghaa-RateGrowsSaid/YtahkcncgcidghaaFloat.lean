/- Whole numbers as floats: what the model's float64 gives for whole numbers of at most 2^52 in size. Sum, difference, order and the way back are those of the numbers. No condition beyond the sizes named. -/
import Derived.Laws.ComplexArith
namespace Go.Proofs.Ytahkcncgcidghaa.FloatNat
set_option linter.unusedVariables false
set_option linter.unusedSimpArgs false
open Ieee

/-- The float64 word of a whole number. -/
abbrev fw (n : Int) : Nat := floatOfInt .f64 n

theorem log2_mul_pow (m k : Nat) (h : m ≠ 0) : (m * 2 ^ k).log2 = m.log2 + k := by
  have h2 : m * 2 ^ k ≠ 0 := Nat.mul_ne_zero h (Nat.ne_of_gt (Nat.two_pow_pos k))
  refine (Nat.log2_eq_iff h2).2 ⟨?_, ?_⟩
  · rw [Nat.pow_add]; exact Nat.mul_le_mul_right _ (Nat.log2_self_le h)
  · rw [show m.log2 + k + 1 = (m.log2 + 1) + k by omega, Nat.pow_add]
    exact Nat.mul_lt_mul_of_pos_right Nat.lt_log2_self (Nat.two_pow_pos k)

theorem cut_zero (neg : Bool) (n : Nat) : Toward.even.cut neg n 0 = n := by
  simp [Toward.cut, Nat.mod_one]

/-- A cut that drops zeros alone. -/
theorem cut_exact (way : Toward) (neg : Bool) (n d : Nat) : way.cut neg (n * 2 ^ d) d = n := by
  by_cases hn : n = 0
  · subst hn
    simp [Toward.cut]
    cases way <;> simp
  · have hl : (n * 2 ^ d).log2 = n.log2 + d := log2_mul_pow n d hn
    unfold Toward.cut
    rw [hl, Nat.min_eq_left (by omega), Nat.one_shiftLeft]
    have h0 : 0 < 2 ^ d := Nat.two_pow_pos d
    simp only [Nat.mul_div_cancel _ h0, Nat.mul_mod_left]
    cases way <;> simp <;> omega

def lastOf (m : Nat) : Int := (m.log2 : Int) - 52

theorem log2_lt53 {m : Nat} (h0 : m ≠ 0) (h : m < 2 ^ 53) : m.log2 ≤ 52 := by
  have := (Nat.log2_lt h0).2 h
  omega

/-- The rung of a whole number. -/
def rungOf (m : Nat) : Nat := if m = 0 then 0 else (m.log2 + 1022) * 2 ^ 52 + m * 2 ^ (52 - m.log2)

theorem ar1 (a q : Nat) (hl : a ≤ 52) (hhi : q < 2 ^ 53) : (a + 1022) * 2 ^ 52 + q ≤ 2047 * 2 ^ 52 := by omega
theorem ar2 (a q : Nat) (_hl : a ≤ 52) (hlo : 2 ^ 52 ≤ q) : ¬ ((a + 1022) * 2 ^ 52 + q < 2 ^ 52) := by omega
theorem ar3 (a q : Nat) (hl : a ≤ 52) (hhi : q < 2 ^ 53) : (a + 1022) * 2 ^ 52 + q < 2047 * 2 ^ 52 := by omega
theorem ar4 (a q : Nat) (hlo : 2 ^ 52 ≤ q) (hhi : q < 2 ^ 53) : ((a + 1022) * 2 ^ 52 + q) / 2 ^ 52 = a + 1023 ∧ ((a + 1022) * 2 ^ 52 + q) % 2 ^ 52 = q - 2 ^ 52 := by omega
theorem ar5 (q : Nat) (hlo : 2 ^ 52 ≤ q) : 2 ^ 52 + (q - 2 ^ 52) = q := by omega
theorem ar6 (a : Nat) : (-1074 : Int) + ((a + 1023 - 1 : Nat) : Int) = (a : Int) - 52 := by omega
theorem sig_lo {m : Nat} (h0 : m ≠ 0) (h : m.log2 ≤ 52) : 2 ^ 52 ≤ m * 2 ^ (52 - m.log2) := by
  have := Nat.mul_le_mul_right (2 ^ (52 - m.log2)) (Nat.log2_self_le h0)
  rw [← Nat.pow_add, show m.log2 + (52 - m.log2) = 52 by omega] at this
  exact this
theorem sig_hi {m : Nat} (_h0 : m ≠ 0) (h : m.log2 ≤ 52) : m * 2 ^ (52 - m.log2) < 2 ^ 53 := by
  have := Nat.mul_lt_mul_of_pos_right (@Nat.lt_log2_self m) (Nat.two_pow_pos (52 - m.log2))
  rw [← Nat.pow_add, show m.log2 + 1 + (52 - m.log2) = 53 by omega] at this
  exact this

/-- A whole number, written with k zeros behind and at the place -k: its word. -/
theorem nearest_scaled (neg : Bool) (m k : Nat) (h : m < 2 ^ 53) : double.nearest neg (m * 2 ^ k) (-(k : Int)) = double.word neg (rungOf m) := by
  unfold Format.nearest rungOf
  by_cases h0 : m = 0
  · subst h0; simp
  · have h2 : m * 2 ^ k ≠ 0 := Nat.mul_ne_zero h0 (Nat.ne_of_gt (Nat.two_pow_pos k))
    have hl := log2_lt53 h0 h
    rw [if_neg h2, if_neg h0, log2_mul_pow m k h0]
    have hlp : double.leastPlace = -1074 := by decide
    have hfb : double.fractionBits = 52 := rfl
    have hbin : double.binade = 2 ^ 52 := rfl
    have hinf : double.infRung = 2047 * 2 ^ 52 := rfl
    have hlast : max (-(k : Int) + ((m.log2 + k : Nat) : Int) - (double.fractionBits : Nat)) double.leastPlace = (m.log2 : Int) - 52 := by
      rw [hlp, hfb]; omega
    dsimp only
    rw [hlast, hlp, hbin, hinf]
    have hk : Toward.even.cut neg ((m * 2 ^ k) <<< (-(k : Int) - ((m.log2 : Int) - 52)).toNat) (((m.log2 : Int) - 52) - -(k : Int)).toNat = m * 2 ^ (52 - m.log2) := by
      by_cases hc : k ≤ 52 - m.log2
      · rw [show (((m.log2 : Int) - 52) - -(k : Int)).toNat = 0 by omega, cut_zero, Nat.shiftLeft_eq, Nat.mul_assoc, ← Nat.pow_add]
        congr 2; omega
      · rw [show (-(k : Int) - ((m.log2 : Int) - 52)).toNat = 0 by omega, Nat.shiftLeft_zero]
        obtain ⟨d, hd⟩ : ∃ d, k = (52 - m.log2) + d := ⟨k - (52 - m.log2), by omega⟩
        rw [show (((m.log2 : Int) - 52) - -(k : Int)).toNat = d by omega, hd, Nat.pow_add, ← Nat.mul_assoc]
        exact cut_exact _ _ _ _
    rw [hk]
    clear hk hlast hlp hfb hbin hinf
    have hlo := sig_lo h0 hl
    have hhi := sig_hi h0 hl
    rw [show (((m.log2 : Int) - 52) - -1074).toNat = m.log2 + 1022 by omega]
    generalize m * 2 ^ (52 - m.log2) = q at *
    rw [Nat.min_eq_left]
    exact ar1 _ _ hl hhi

theorem fw_word (n : Int) (h : n.natAbs < 2 ^ 53) : fw n = double.word (n < 0) (rungOf n.natAbs) := by
  have := nearest_scaled (decide (n < 0)) n.natAbs 0 h
  simpa [fw, floatOfInt, FloatKind.nearest, FloatKind.encode, FloatKind.format, Format.write] using this

/-- What a whole number's word reads as. -/
def dat (neg : Bool) (m : Nat) : Datum := if m = 0 then .number neg 0 (-1074) else .number neg (m * 2 ^ (52 - m.log2)) ((m.log2 : Int) - 52)

theorem rung_lt (m : Nat) (h : m < 2 ^ 53) : rungOf m < 2 ^ 63 := by
  unfold rungOf
  split
  · decide
  · rename_i h0
    have hl := log2_lt53 h0 h
    have hhi := sig_hi h0 hl
    have : (m.log2 + 1022) * 2 ^ 52 ≤ 1074 * 2 ^ 52 := by omega
    omega

theorem read_word (neg : Bool) (m : Nat) (h : m < 2 ^ 53) : double.read (double.word neg (rungOf m)) = dat neg m := by
  have hr := rung_lt m h
  have hsw : double.signWeight = 2 ^ 63 := rfl
  have hneg : (double.word neg (rungOf m) / double.signWeight % 2 == 1) = neg := by
    unfold Format.word
    rw [hsw]
    cases neg
    · simp only [Bool.false_eq_true, if_false]
      rw [Nat.div_eq_of_lt hr]; rfl
    · simp only [if_true]
      rw [Nat.add_comm, Nat.add_div_right _ (by decide), Nat.div_eq_of_lt hr]; rfl
  have hmod : double.word neg (rungOf m) % double.signWeight = rungOf m := by
    unfold Format.word
    rw [hsw]
    cases neg
    · simp only [Bool.false_eq_true, if_false]
      exact Nat.mod_eq_of_lt hr
    · simp only [if_true]
      rw [Nat.add_mod_left]; exact Nat.mod_eq_of_lt hr
  have hlp : double.leastPlace = -1074 := by decide
  have hbin : double.binade = 2 ^ 52 := rfl
  have hinf : double.infRung = 2047 * 2 ^ 52 := rfl
  unfold Format.read
  simp only [hneg, hmod, hlp, hbin, hinf]
  clear hneg hmod hlp hbin hinf hsw hr
  unfold dat rungOf
  by_cases h0 : m = 0
  · rw [if_pos h0, if_pos h0]; rfl
  · have hl := log2_lt53 h0 h
    have hlo := sig_lo h0 hl
    have hhi := sig_hi h0 hl
    rw [if_neg h0, if_neg h0]
    generalize m * 2 ^ (52 - m.log2) = q at *
    rw [if_neg (ar2 _ _ hl hlo), if_pos (ar3 _ _ hl hhi), (ar4 _ _ hlo hhi).1, (ar4 _ _ hlo hhi).2, ar5 _ hlo, ar6]

theorem read_fw (n : Int) (h : n.natAbs < 2 ^ 53) : double.read (fw n) = dat (decide (n < 0)) n.natAbs := by
  rw [fw_word n h]; exact read_word _ _ h

/-- Of a datum of a whole number: over any lower place its signed size is the number times a power of two. -/
theorem signed_dat (n : Int) (base : Int) (_h : n.natAbs < 2 ^ 53) :
    ∃ m p, dat (decide (n < 0)) n.natAbs = .number (decide (n < 0)) m p ∧ p ≤ 0 ∧ (base ≤ p → signed (decide (n < 0)) m (p - base).toNat = n * 2 ^ (-base).toNat) := by
  unfold dat
  by_cases h0 : n.natAbs = 0
  · have hn : n = 0 := by omega
    subst hn
    refine ⟨0, -1074, by simp, by omega, fun _ => ?_⟩
    simp [signed]
  · have hl := log2_lt53 h0 _h
    refine ⟨_, _, by rw [if_neg h0], by omega, fun hb => ?_⟩
    unfold signed
    have hs : (n.natAbs * 2 ^ (52 - n.natAbs.log2)) <<< (((n.natAbs.log2 : Int) - 52) - base).toNat = n.natAbs * 2 ^ (-base).toNat := by
      rw [Nat.shiftLeft_eq, Nat.mul_assoc, ← Nat.pow_add]
      congr 2; omega
    rw [hs]
    by_cases hneg : n < 0
    · rw [if_pos (by simpa using hneg)]
      rw [Int.natCast_mul, Int.natCast_pow]
      rw [show ((n.natAbs : Nat) : Int) = -n by omega]
      simp [Int.neg_mul]
    · rw [if_neg (by simpa using hneg)]
      rw [Int.natCast_mul, Int.natCast_pow]
      rw [show ((n.natAbs : Nat) : Int) = n by omega]
      rfl

theorem compare_mul (a b c : Int) (hc : 0 < c) : compare (a * c) (b * c) = compare a b := by
  simp only [compare, compareOfLessAndEq]
  have h1 : a * c < b * c ↔ a < b := Int.mul_lt_mul_right hc
  have h2 : a * c = b * c ↔ a = b := ⟨fun h => Int.eq_of_mul_eq_mul_right (by omega) h, fun h => by rw [h]⟩
  simp only [h1, h2]

theorem order_fw (a b : Int) (ha : a.natAbs < 2 ^ 53) (hb : b.natAbs < 2 ^ 53) : double.order (fw a) (fw b) = some (compare a b) := by
  unfold Format.order
  rw [read_fw a ha, read_fw b hb]
  obtain ⟨m, i, e1, _, _⟩ := signed_dat a 0 ha
  obtain ⟨n, j, e2, _, _⟩ := signed_dat b 0 hb
  obtain ⟨m', i', e1', hi, g1⟩ := signed_dat a (min i j) ha
  obtain ⟨n', j', e2', hj, g2⟩ := signed_dat b (min i j) hb
  rw [e1] at e1'; rw [e2] at e2'
  injection e1' with _ hm1 hi1
  injection e2' with _ hm2 hi2
  subst hm1 hi1 hm2 hi2
  rw [e1, e2]
  simp only [Datum.order]
  rw [g1 (by omega), g2 (by omega)]
  have hp : (0 : Int) < 2 ^ (-(min i j)).toNat := by
    have := Nat.two_pow_pos (-(min i j)).toNat
    exact_mod_cast this
  generalize (2 : Int) ^ (-(min i j)).toNat = c at hp
  congr 1
  exact compare_mul a b c hp

theorem pos_pow (k : Nat) : (0 : Int) < 2 ^ k := by
  have := Nat.two_pow_pos k
  exact_mod_cast this

/-- A signed multiple of a power of two, written: the number's word. -/
theorem write_scaled (neg : Bool) (n : Int) (k : Nat) (h : n.natAbs < 2 ^ 53) (hs : n ≠ 0 → neg = decide (n < 0)) (hz : n = 0 → neg = false) :
    double.write (.number neg (n * 2 ^ k).natAbs (-(k : Int))) = fw n := by
  rw [fw_word n h]
  have e : (n * 2 ^ k).natAbs = n.natAbs * 2 ^ k := by
    rw [Int.natAbs_mul, Int.natAbs_pow]; rfl
  have en : neg = decide (n < 0) := by
    by_cases h0 : n = 0
    · rw [hz h0]; simp [h0]
    · exact hs h0
  rw [e, en]
  exact nearest_scaled _ _ _ h

theorem sum_dat (a b : Int) (sb : Bool) (ha : a.natAbs < 2 ^ 53) (hb : b.natAbs < 2 ^ 53) (hab : (a + b).natAbs < 2 ^ 53) (hsb : b ≠ 0 → sb = decide (b < 0)) :
    ∀ d, dat sb b.natAbs = d → ((dat (decide (a < 0)) a.natAbs).sum d).map double.write = some (fw (a + b)) := by
  rintro d rfl
  obtain ⟨m, i, e1, hi0, _⟩ := signed_dat a 0 ha
  obtain ⟨n, j, e2, hj0, _⟩ := signed_dat b 0 hb
  obtain ⟨m', i', e1', hi, g1⟩ := signed_dat a (min i j) ha
  obtain ⟨n', j', e2', hj, g2⟩ := signed_dat b (min i j) hb
  rw [e1] at e1'; rw [e2] at e2'
  injection e1' with _ hm1 hi1
  injection e2' with _ hm2 hi2
  subst hm1 hi1 hm2 hi2
  have e2s : dat sb b.natAbs = .number sb n j := by
    unfold dat at e2 ⊢
    split at e2 <;> rename_i hz <;> (first | rw [if_pos hz] | rw [if_neg hz]) <;> (injection e2 with _ x y; rw [x, y])
  have g2' : signed sb n (j - min i j).toNat = b * 2 ^ (-(min i j)).toNat := by
    rw [← g2 (by omega)]
    by_cases h0 : b = 0
    · subst h0
      have : n = 0 := by
        unfold dat at e2; simp at e2; exact e2.1.symm
      subst this
      unfold signed; simp
    · rw [hsb h0]
  rw [e1, e2s]
  simp only [Datum.sum, Option.map_some]
  rw [g1 (by omega), g2', ← Int.add_mul]
  have hk : min i j = -(((-(min i j)).toNat : Nat) : Int) := by omega
  generalize hkk : (-(min i j)).toNat = k at *
  have hp := pos_pow k
  congr 1
  rw [hk]
  refine write_scaled _ (a + b) k hab ?_ ?_
  · intro h0
    have hne : (a + b) * 2 ^ k ≠ 0 := Int.mul_ne_zero h0 (by omega)
    rw [if_neg hne]
    congr 1
    exact propext ⟨fun h => by
        rcases Int.lt_or_le (a + b) 0 with h1 | h1
        · exact h1
        · have := Int.mul_nonneg h1 (Int.le_of_lt hp); omega,
      fun h => Int.mul_neg_of_neg_of_pos h hp⟩
  · intro h0
    rw [h0, Int.zero_mul, if_pos rfl]
    by_cases hb0 : b = 0
    · have ha0 : a = 0 := by omega
      simp [ha0]
    · rw [hsb hb0]
      rcases Int.lt_or_le a 0 with h1 | h1
      · have : ¬ b < 0 := by omega
        simp [this]
      · have : ¬ a < 0 := by omega
        simp [this]

theorem add_fw (a b : Int) (ha : a.natAbs < 2 ^ 53) (hb : b.natAbs < 2 ^ 53) (hab : (a + b).natAbs < 2 ^ 53) : double.add (fw a) (fw b) = some (fw (a + b)) := by
  unfold Format.add
  rw [read_fw a ha, read_fw b hb]
  exact sum_dat a b (decide (b < 0)) ha hb hab (fun _ => rfl) _ rfl

theorem sub_fw (a b : Int) (ha : a.natAbs < 2 ^ 53) (hb : b.natAbs < 2 ^ 53) (hab : (a - b).natAbs < 2 ^ 53) : double.sub (fw a) (fw b) = some (fw (a - b)) := by
  unfold Format.sub
  rw [read_fw a ha, read_fw b hb]
  have := sum_dat a (-b) (!decide (b < 0)) ha (by omega) (by omega) (fun h => by
    by_cases hb0 : b < 0
    · have : ¬ 0 < b := by omega
      simp [hb0]; omega
    · simp [hb0]; omega)
  rw [show a - b = a + -b by omega]
  refine this _ ?_
  unfold dat
  rw [show (-b).natAbs = b.natAbs by omega]
  split <;> rfl

theorem toInt_fw (n : Int) (h : n.natAbs < 2 ^ 53) : (double.read (fw n)).toInt .zero = some n := by
  rw [read_fw n h]
  unfold dat
  by_cases h0 : n.natAbs = 0
  · have : n = 0 := by omega
    subst this
    rfl
  · have hl := log2_lt53 h0 h
    rw [if_neg h0]
    simp only [Datum.toInt, Datum.integral]
    rw [show ((n.natAbs.log2 : Int) - 52).toNat = 0 by omega, Nat.shiftLeft_zero, show (-((n.natAbs.log2 : Int) - 52)).toNat = 52 - n.natAbs.log2 by omega, cut_exact]
    unfold signed
    simp only [Nat.shiftLeft_zero]
    by_cases hneg : n < 0
    · simp only [hneg, decide_true, if_true]; congr 1; omega
    · simp only [hneg, decide_false, Bool.false_eq_true, if_false]; congr 1; omega

theorem toIntVal_fw (n : Int) (h : n.natAbs < 2 ^ 53) : floatToIntVal .f64 (fw n) .i64 = some n := by
  unfold floatToIntVal
  have e : (FloatKind.f64.decode (fw n)).toInt .zero = some n := toInt_fw n h
  rw [e]
  simp only
  rw [if_pos]
  have h1 : IntKind.i64.min = -9223372036854775808 := rfl
  have h2 : IntKind.i64.max = 9223372036854775807 := rfl
  rw [h1, h2]
  omega

theorem compare_lt {a b : Int} (h : a < b) : compare a b = .lt := by
  simp only [compare, compareOfLessAndEq]; rw [if_pos h]
theorem compare_gt {a b : Int} (h : b < a) : compare a b = .gt := by
  simp only [compare, compareOfLessAndEq]; rw [if_neg (by omega), if_neg (by omega)]
theorem compare_eq {a b : Int} (h : a = b) : compare a b = .eq := by
  simp only [compare, compareOfLessAndEq]; rw [if_neg (by omega), if_pos h]

/-- min and max of two. -/
def least (a b : Int) : Int := if b < a then b else a
def greatest (a b : Int) : Int := if a < b then b else a

section
variable {P : Program} (w : World)
theorem run_min_fw (ts : Array TypeId) (t : TypeId) (a b : Int) (ha : a.natAbs < 2 ^ 53) (hb : b.natAbs < 2 ^ 53) :
    (Builtin.min_ ts t #[.float .f64 (fw a), .float .f64 (fw b)]).run P w = .ok (.float .f64 (fw (least a b))) w := by
  have ho : FloatKind.f64.format.order (fw a) (fw b) = some (compare a b) := order_fw a b ha hb
  unfold least
  rcases Int.lt_trichotomy a b with h | h | h
  · rw [compare_lt h] at ho
    rw [if_neg (by omega)]
    simp [Builtin.min_, Builtin.min2, ho]
  · rw [compare_eq h] at ho
    subst h
    rw [if_neg (by omega)]
    simp [Builtin.min_, Builtin.min2, ho]
  · rw [compare_gt h] at ho
    rw [if_pos h]
    simp [Builtin.min_, Builtin.min2, ho]
theorem run_max_fw (ts : Array TypeId) (t : TypeId) (a b : Int) (ha : a.natAbs < 2 ^ 53) (hb : b.natAbs < 2 ^ 53) :
    (Builtin.max_ ts t #[.float .f64 (fw a), .float .f64 (fw b)]).run P w = .ok (.float .f64 (fw (greatest a b))) w := by
  have ho : FloatKind.f64.format.order (fw a) (fw b) = some (compare a b) := order_fw a b ha hb
  unfold greatest
  rcases Int.lt_trichotomy a b with h | h | h
  · rw [compare_lt h] at ho
    rw [if_pos h]
    simp [Builtin.max_, Builtin.max2, ho]
  · rw [compare_eq h] at ho
    subst h
    rw [if_neg (by omega)]
    simp [Builtin.max_, Builtin.max2, ho]
  · rw [compare_gt h] at ho
    rw [if_neg (by omega)]
    simp [Builtin.max_, Builtin.max2, ho]
/-- The sum of two complex numbers whose parts are whole. -/
theorem run_cadd_fw (t : TypeId) (a b c d : Int) (ha : a.natAbs < 2 ^ 52) (hb : b.natAbs < 2 ^ 52) (hc : c.natAbs < 2 ^ 52) (hd : d.natAbs < 2 ^ 52) :
    (binOp .add t (.complex .f64 (fw a) (fw b)) (.complex .f64 (fw c) (fw d))).run P w = .ok (.complex .f64 (fw (a + c)) (fw (b + d))) w := by
  refine run_complex_sum w .add (Or.inl rfl) t .f64 _ _ _ _ _ _ ?_
  have h1 : floatBits .add .f64 (fw a) (fw c) = some (fw (a + c)) := add_fw a c (by omega) (by omega) (by omega)
  have h2 : floatBits .add .f64 (fw b) (fw d) = some (fw (b + d)) := add_fw b d (by omega) (by omega) (by omega)
  simp only [cSumBits, h1, h2, Option.bind_some]
theorem run_csub_fw (t : TypeId) (a b c d : Int) (ha : a.natAbs < 2 ^ 52) (hb : b.natAbs < 2 ^ 52) (hc : c.natAbs < 2 ^ 52) (hd : d.natAbs < 2 ^ 52) :
    (binOp .sub t (.complex .f64 (fw a) (fw b)) (.complex .f64 (fw c) (fw d))).run P w = .ok (.complex .f64 (fw (a - c)) (fw (b - d))) w := by
  refine run_complex_sum w .sub (Or.inr rfl) t .f64 _ _ _ _ _ _ ?_
  have h1 : floatBits .sub .f64 (fw a) (fw c) = some (fw (a - c)) := sub_fw a c (by omega) (by omega) (by omega)
  have h2 : floatBits .sub .f64 (fw b) (fw d) = some (fw (b - d)) := sub_fw b d (by omega) (by omega) (by omega)
  simp only [cSumBits, h1, h2, Option.bind_some]
theorem run_fadd_fw (t : TypeId) (a b : Int) (ha : a.natAbs < 2 ^ 52) (hb : b.natAbs < 2 ^ 52) :
    (binOp .add t (.float .f64 (fw a)) (.float .f64 (fw b))).run P w = .ok (.float .f64 (fw (a + b))) w :=
  run_float_arith w .add t .f64 _ _ _ (add_fw a b (by omega) (by omega) (by omega))
theorem run_int_fw (src dst : TypeId) (n : Int) (hs : (P.underlying src).isSome = true) (hd : P.underlying dst = some (.int .i64)) (h : n.natAbs < 2 ^ 53) :
    (convert src dst (.float .f64 (fw n))).run P w = .ok (.int .i64 n) w :=
  run_convert_float_int w src dst .f64 .i64 _ n hs hd (toIntVal_fw n h)
end

end Go.Proofs.Ytahkcncgcidghaa.FloatNat
