/- The sum of 32 bits in plain Lean: what it is, that it is linear, that what is turned in up to four bytes in a row turns the sum, and that sealed bytes have one and the same sum. Condition: bytes are from 0 to 255. -/
import Derived.Laws.Closers25b
namespace Go.Proofs.Ythmgaeecfhmenaa.Crc
set_option linter.unusedVariables false
/-- A bit of a sum's step. -/
def bit1 (s : Int) : Int := if Go.bits .and .u32 s 1 = 1 then Go.bits .xor .u32 (s / 2) 3988292384 else s / 2
def bitN : Nat → Int → Int
  | 0, s => s
  | n + 1, s => bitN n (bit1 s)
/-- A sum with a byte more. -/
def stepS (s c : Int) : Int := bitN 8 (Go.bits .xor .u32 s (c % 4294967296))
def sumS (l : List Int) : Int := l.foldl stepS 4294967295
/-- The sum. -/
def sumOf (l : List Int) : Int := Go.bits .xor .u32 IntKind.u32.max (sumS l)
/-- A sum's bytes, the lowest first. -/
def tl (s : Int) : List Int := [s % 256, s / 256 % 256, s / 65536 % 256, s / 16777216 % 256]

/-! ### on natural numbers -/
def b1 (s : Nat) : Nat := if s % 2 = 1 then (s / 2) ^^^ 3988292384 else s / 2
def bn : Nat → Nat → Nat
  | 0, s => s
  | n + 1, s => bn n (b1 s)
def st (s c : Nat) : Nat := bn 8 (s ^^^ c)
def S (s : Nat) (l : List Nat) : Nat := l.foldl st s
def W : List Nat → Nat
  | [] => 0
  | c :: l => c ^^^ (256 * W l)

theorem xor_div2 (a b : Nat) : (a ^^^ b) / 2 = a / 2 ^^^ b / 2 := by
  have := Nat.xor_div_two_pow (a := a) (b := b) (n := 1)
  simpa using this
theorem xor_mod2 (a b : Nat) : (a ^^^ b) % 2 = (a % 2) ^^^ (b % 2) := by
  have := Nat.xor_mod_two_pow (a := a) (b := b) (n := 1)
  simpa using this
theorem b1_xor (a b : Nat) : b1 (a ^^^ b) = b1 a ^^^ b1 b := by
  unfold b1
  rw [xor_div2, xor_mod2]
  rcases Nat.mod_two_eq_zero_or_one a with ha | ha <;> rcases Nat.mod_two_eq_zero_or_one b with hb | hb <;> rw [ha, hb] <;> simp
  · rw [Nat.xor_assoc]
  · rw [Nat.xor_assoc, Nat.xor_assoc, Nat.xor_comm 3988292384]
  · rw [Nat.xor_assoc, ← Nat.xor_assoc 3988292384, Nat.xor_comm 3988292384 (b / 2), Nat.xor_assoc (b / 2), Nat.xor_self, Nat.xor_zero]
theorem b1_lt {s : Nat} (h : s < 4294967296) : b1 s < 4294967296 := by
  unfold b1
  split
  · exact Nat.xor_lt_two_pow (n := 32) (by omega) (by omega)
  · omega
theorem xor_zero {a b : Nat} (h : a ^^^ b = 0) : a = b := by
  have h1 : (a ^^^ b) ^^^ b = 0 ^^^ b := by rw [h]
  rwa [Nat.xor_assoc, Nat.xor_self, Nat.xor_zero, Nat.zero_xor] at h1
theorem b1_inj {s : Nat} (h : s < 4294967296) (h0 : b1 s = 0) : s = 0 := by
  unfold b1 at h0
  split at h0
  · have := xor_zero h0
    omega
  · omega
theorem bn_xor (n : Nat) : ∀ a b : Nat, bn n (a ^^^ b) = bn n a ^^^ bn n b := by
  induction n with
  | zero => intro a b; rfl
  | succ n ih => intro a b; simp only [bn]; rw [b1_xor, ih]
theorem bn_lt (n : Nat) : ∀ {s : Nat}, s < 4294967296 → bn n s < 4294967296 := by
  induction n with
  | zero => intro s h; exact h
  | succ n ih => intro s h; exact ih (b1_lt h)
theorem bn_zero_inj (n : Nat) : ∀ {s : Nat}, s < 4294967296 → bn n s = 0 → s = 0 := by
  induction n with
  | zero => intro s h h0; exact h0
  | succ n ih => intro s h h0; exact b1_inj h (ih (b1_lt h) h0)
theorem bn_inj (n : Nat) {a b : Nat} (ha : a < 4294967296) (hb : b < 4294967296) (h : bn n a = bn n b) : a = b := by
  have h1 : bn n (a ^^^ b) = 0 := by rw [bn_xor, h, Nat.xor_self]
  exact xor_zero (bn_zero_inj n (Nat.xor_lt_two_pow (n := 32) ha hb) h1)
theorem bn_add (m n : Nat) : ∀ s : Nat, bn (m + n) s = bn n (bn m s) := by
  induction m with
  | zero => intro s; rw [Nat.zero_add]; rfl
  | succ m ih => intro s; rw [Nat.succ_add]; exact ih _
theorem b1_double (x : Nat) : b1 (2 * x) = x := by
  unfold b1
  rw [if_neg (by omega)]
  omega
theorem bn8_low (x : Nat) : bn 8 (256 * x) = x := by
  rw [show 256 * x = 2 * (2 * (2 * (2 * (2 * (2 * (2 * (2 * x))))))) by omega]
  simp only [bn, b1_double]
theorem S_word (l : List Nat) : ∀ s : Nat, S s l = bn (8 * l.length) (s ^^^ W l) := by
  induction l with
  | nil => intro s; simp [S, W, bn]
  | cons c l ih =>
    intro s
    show S (st s c) l = _
    rw [ih, st, show 8 * (c :: l).length = 8 + 8 * l.length by simp; omega, bn_add]
    congr 1
    rw [W, ← Nat.xor_assoc, bn_xor 8 (s ^^^ c), bn8_low]
theorem W_lt : ∀ (l : List Nat), (∀ x ∈ l, x < 256) → l.length ≤ 4 → W l < 256 ^ l.length := by
  intro l
  induction l with
  | nil => intro _ _; simp [W]
  | cons c l ih =>
    intro hb hl
    have h1 := ih (fun x hx => hb x (List.mem_cons_of_mem _ hx)) (by simp at hl; omega)
    have hc := hb c List.mem_cons_self
    have h2 : 256 ^ (c :: l).length = 2 ^ (8 * (c :: l).length) := by rw [show (256 : Nat) = 2 ^ 8 from rfl, ← Nat.pow_mul]
    rw [h2]
    refine Nat.xor_lt_two_pow ?_ ?_
    · exact Nat.lt_of_lt_of_le hc (by rw [show (256 : Nat) = 2 ^ 8 from rfl]; exact Nat.pow_le_pow_right (by decide) (by simp; omega))
    · rw [← h2, List.length_cons, Nat.pow_succ]; omega
theorem W_lt32 {l : List Nat} (hb : ∀ x ∈ l, x < 256) (hl : l.length ≤ 4) : W l < 4294967296 := by
  have h := W_lt l hb hl
  exact Nat.lt_of_lt_of_le h (show 256 ^ l.length ≤ 4294967296 from Nat.pow_le_pow_right (by decide) hl)
theorem W_mod {c X : Nat} (hc : c < 256) : (c ^^^ 256 * X) % 256 = c := by
  have := Nat.xor_mod_two_pow (a := c) (b := 256 * X) (n := 8)
  rw [show (2 : Nat) ^ 8 = 256 from rfl, Nat.mul_mod_right, Nat.xor_zero, Nat.mod_eq_of_lt hc] at this
  exact this
theorem W_div {c X : Nat} (hc : c < 256) : (c ^^^ 256 * X) / 256 = X := by
  have := Nat.xor_div_two_pow (a := c) (b := 256 * X) (n := 8)
  rw [show (2 : Nat) ^ 8 = 256 from rfl, Nat.div_eq_of_lt hc, Nat.zero_xor, Nat.mul_div_cancel_left _ (by decide)] at this
  exact this
theorem W_inj : ∀ {l m : List Nat}, (∀ x ∈ l, x < 256) → (∀ x ∈ m, x < 256) → l.length = m.length → W l = W m → l = m := by
  intro l
  induction l with
  | nil => intro m _ _ hl _; cases m; rfl; simp at hl
  | cons c l ih =>
    intro m hb hm hl h
    cases m with
    | nil => simp at hl
    | cons d m =>
      have hc := hb c List.mem_cons_self
      have hd := hm d List.mem_cons_self
      simp only [W] at h
      have h1 := W_mod (X := W l) hc
      have h2 := W_div (X := W l) hc
      rw [h, W_mod hd] at h1
      rw [h, W_div hd] at h2
      rw [h1, ih (fun x hx => hb x (List.mem_cons_of_mem _ hx)) (fun x hx => hm x (List.mem_cons_of_mem _ hx)) (by simpa using hl) h2.symm]
theorem S_lt (l : List Nat) : ∀ {s : Nat}, (∀ x ∈ l, x < 256) → s < 4294967296 → S s l < 4294967296 := by
  induction l with
  | nil => intro s _ h; exact h
  | cons c l ih =>
    intro s hb h
    exact ih (fun x hx => hb x (List.mem_cons_of_mem _ hx)) (bn_lt 8 (Nat.xor_lt_two_pow (n := 32) h (Nat.lt_trans (hb c List.mem_cons_self) (by decide))))
theorem S_app (s : Nat) (l m : List Nat) : S s (l ++ m) = S (S s l) m := List.foldl_append
theorem S_inj (l : List Nat) : ∀ {s t : Nat}, (∀ x ∈ l, x < 256) → s < 4294967296 → t < 4294967296 → S s l = S t l → s = t := by
  induction l with
  | nil => intro s t _ _ _ h; exact h
  | cons c l ih =>
    intro s t hb hs ht h
    have hc := Nat.lt_trans (hb c List.mem_cons_self) (show 256 < 4294967296 by decide)
    have hx : s ^^^ c < 4294967296 := Nat.xor_lt_two_pow (n := 32) hs hc
    have hy : t ^^^ c < 4294967296 := Nat.xor_lt_two_pow (n := 32) ht hc
    have h1 := ih (fun x hx => hb x (List.mem_cons_of_mem _ hx)) (bn_lt 8 hx) (bn_lt 8 hy) h
    have h2 := bn_inj 8 hx hy h1
    have h3 : (s ^^^ c) ^^^ c = (t ^^^ c) ^^^ c := by rw [h2]
    rwa [Nat.xor_assoc, Nat.xor_self, Nat.xor_zero, Nat.xor_assoc, Nat.xor_self, Nat.xor_zero] at h3
theorem xor_left_inj {s a b : Nat} (h : s ^^^ a = s ^^^ b) : a = b := by
  have h3 : s ^^^ (s ^^^ a) = s ^^^ (s ^^^ b) := by rw [h]
  rwa [← Nat.xor_assoc, Nat.xor_self, Nat.zero_xor, ← Nat.xor_assoc, Nat.xor_self, Nat.zero_xor] at h3
/-- Up to four bytes in a row tell in the sum. -/
theorem S_burst {s : Nat} {w w' q : List Nat} (hs : s < 4294967296) (hw : ∀ x ∈ w, x < 256) (hw' : ∀ x ∈ w', x < 256) (hq : ∀ x ∈ q, x < 256) (hl : w.length = w'.length) (h4 : w.length ≤ 4) (h : S s (w ++ q) = S s (w' ++ q)) : w = w' := by
  rw [S_app, S_app] at h
  have h1 := S_inj q hq (S_lt w hw hs) (S_lt w' hw' hs) h
  rw [S_word, S_word, ← hl] at h1
  have a1 := W_lt32 hw h4
  have a2 := W_lt32 hw' (by omega)
  have h2 := bn_inj _ (Nat.xor_lt_two_pow (n := 32) hs a1) (Nat.xor_lt_two_pow (n := 32) hs a2) h1
  exact W_inj hw hw' hl (xor_left_inj h2)
theorem S_xor3 : ∀ (x a b c : List Nat) (s t u : Nat), a.length = x.length → b.length = x.length → c.length = x.length → (∀ i, i < x.length → x.getD i 0 = a.getD i 0 ^^^ b.getD i 0 ^^^ c.getD i 0) →
    S (s ^^^ t ^^^ u) x = S s a ^^^ S t b ^^^ S u c := by
  intro x
  induction x with
  | nil =>
    intro a b c s t u ha hb hc _
    obtain rfl := List.eq_nil_of_length_eq_zero ha
    obtain rfl := List.eq_nil_of_length_eq_zero hb
    obtain rfl := List.eq_nil_of_length_eq_zero hc
    rfl
  | cons z x ih =>
    intro a b c s t u ha hb hc hx
    cases a with
    | nil => simp at ha
    | cons p a =>
    cases b with
    | nil => simp at hb
    | cons q b =>
    cases c with
    | nil => simp at hc
    | cons r c =>
    have h0 := hx 0 (by simp)
    simp at h0
    have hs : st (s ^^^ t ^^^ u) z = st s p ^^^ st t q ^^^ st u r := by
      unfold st
      rw [← bn_xor, ← bn_xor, h0]
      congr 1
      ac_rfl
    show S (st (s ^^^ t ^^^ u) z) x = S (st s p) a ^^^ S (st t q) b ^^^ S (st u r) c
    rw [hs]
    exact ih a b c _ _ _ (by simpa using ha) (by simpa using hb) (by simpa using hc) (fun i hi => by simpa using hx (i + 1) (by simpa using hi))

/-! ### the bridge -/
def Byt (l : List Int) : Prop := ∀ x ∈ l, 0 ≤ x ∧ x < 256
def nt (l : List Int) : List Nat := l.map Int.toNat
theorem nt_lt {l : List Int} (h : Byt l) : ∀ x ∈ nt l, x < 256 := by
  intro x hx
  obtain ⟨y, hy, rfl⟩ := List.mem_map.1 hx
  have := h y hy
  omega
theorem nt_length (l : List Int) : (nt l).length = l.length := List.length_map _
theorem nt_app (l m : List Int) : nt (l ++ m) = nt l ++ nt m := List.map_append
theorem nt_inj {l m : List Int} (hl : Byt l) (hm : Byt m) (h : nt l = nt m) : l = m := by
  induction l generalizing m with
  | nil => cases m; rfl; simp [nt] at h
  | cons c l ih =>
    cases m with
    | nil => simp [nt] at h
    | cons d m =>
      simp only [nt, List.map_cons, List.cons.injEq] at h
      have h1 := hl c List.mem_cons_self
      have h2 := hm d List.mem_cons_self
      rw [show c = d by omega, ih (fun x hx => hl x (List.mem_cons_of_mem _ hx)) (fun x hx => hm x (List.mem_cons_of_mem _ hx)) h.2]
theorem Byt.app {l m : List Int} (h : Byt l) (k : Byt m) : Byt (l ++ m) := fun x hx => (List.mem_append.1 hx).elim (h x) (k x)
theorem Byt.take {l : List Int} (h : Byt l) (n : Nat) : Byt (l.take n) := fun x hx => h x (List.mem_of_mem_take hx)
theorem Byt.drop {l : List Int} (h : Byt l) (n : Nat) : Byt (l.drop n) := fun x hx => h x (List.mem_of_mem_drop hx)
theorem wrap_u32 (n : Int) : IntKind.u32.wrap n = n % 4294967296 := by simp [IntKind.wrap, IntKind.bits, IntKind.signed]
theorem xor_u32 (a b : Nat) (ha : a < 4294967296) (hb : b < 4294967296) : Go.bits .xor .u32 (a : Int) (b : Int) = ((a ^^^ b : Nat) : Int) := by
  have hx : a ^^^ b < 2 ^ 32 := Nat.xor_lt_two_pow (by omega) (by omega)
  have h1 : (BitVec.ofInt 32 (a : Int)).toNat = a := by rw [BitVec.ofInt_natCast, BitVec.toNat_ofNat]; exact Nat.mod_eq_of_lt (by omega)
  have h2 : (BitVec.ofInt 32 (b : Int)).toNat = b := by rw [BitVec.ofInt_natCast, BitVec.toNat_ofNat]; exact Nat.mod_eq_of_lt (by omega)
  show IntKind.u32.wrap ((BitVec.ofInt 32 (a : Int) ^^^ BitVec.ofInt 32 (b : Int)).toNat : Int) = _
  rw [BitVec.toNat_xor, h1, h2, wrap_u32]
  omega
theorem and_u32 (a b : Nat) (ha : a < 4294967296) (hb : b < 4294967296) : Go.bits .and .u32 (a : Int) (b : Int) = ((a &&& b : Nat) : Int) := by
  have hx : a &&& b < 2 ^ 32 := Nat.and_lt_two_pow _ (by omega)
  have h1 : (BitVec.ofInt 32 (a : Int)).toNat = a := by rw [BitVec.ofInt_natCast, BitVec.toNat_ofNat]; exact Nat.mod_eq_of_lt (by omega)
  have h2 : (BitVec.ofInt 32 (b : Int)).toNat = b := by rw [BitVec.ofInt_natCast, BitVec.toNat_ofNat]; exact Nat.mod_eq_of_lt (by omega)
  show IntKind.u32.wrap ((BitVec.ofInt 32 (a : Int) &&& BitVec.ofInt 32 (b : Int)).toNat : Int) = _
  rw [BitVec.toNat_and, h1, h2, wrap_u32]
  omega
theorem bit1_nat {s : Nat} (h : s < 4294967296) : bit1 (s : Int) = (b1 s : Int) := by
  unfold bit1 b1
  have h1 : Go.bits .and .u32 (s : Int) 1 = ((s % 2 : Nat) : Int) := by
    have := and_u32 s 1 h (by decide)
    rw [Nat.and_one_is_mod] at this
    exact this
  have h2 : Go.bits .xor .u32 ((s : Int) / 2) 3988292384 = (((s / 2) ^^^ 3988292384 : Nat) : Int) := by
    have := xor_u32 (s / 2) 3988292384 (by omega) (by decide)
    rw [← this]
    rfl
  rw [h1, h2]
  by_cases hs : s % 2 = 1
  · rw [if_pos hs, if_pos (by omega)]
  · rw [if_neg hs, if_neg (by omega)]; omega
theorem bitN_nat (n : Nat) : ∀ {s : Nat}, s < 4294967296 → bitN n (s : Int) = (bn n s : Int) := by
  induction n with
  | zero => intro s _; rfl
  | succ n ih => intro s h; simp only [bitN, bn]; rw [bit1_nat h, ih (b1_lt h)]
theorem stepS_nat {s : Nat} {c : Int} (h : s < 4294967296) (h0 : 0 ≤ c) (h1 : c < 256) : stepS (s : Int) c = (st s c.toNat : Int) := by
  unfold stepS st
  have hc : c % 4294967296 = (c.toNat : Int) := by omega
  rw [hc, xor_u32 s c.toNat h (by omega), bitN_nat 8 (Nat.xor_lt_two_pow (n := 32) h (by omega))]
theorem fold_nat (l : List Int) : ∀ {s : Nat}, Byt l → s < 4294967296 → l.foldl stepS (s : Int) = (S s (nt l) : Int) := by
  induction l with
  | nil => intro s _ _; rfl
  | cons c l ih =>
    intro s hb h
    have hc := hb c List.mem_cons_self
    have hst : st s c.toNat < 4294967296 := bn_lt 8 (Nat.xor_lt_two_pow (n := 32) h (by omega))
    show l.foldl stepS (stepS (s : Int) c) = _
    rw [stepS_nat h hc.1 hc.2, ih (fun x hx => hb x (List.mem_cons_of_mem _ hx)) hst]
    rfl
/-- The raw sum as a natural number. -/
def raw (l : List Int) : Nat := S 4294967295 (nt l)
theorem raw_lt {l : List Int} (h : Byt l) : raw l < 4294967296 := S_lt _ (nt_lt h) (by decide)
theorem sumS_nat {l : List Int} (h : Byt l) : sumS l = (raw l : Int) := fold_nat l h (by decide)
theorem sumOf_nat {l : List Int} (h : Byt l) : sumOf l = ((raw l ^^^ 4294967295 : Nat) : Int) := by
  unfold sumOf
  rw [sumS_nat h, show IntKind.u32.max = ((4294967295 : Nat) : Int) from rfl, xor_u32 _ _ (by decide) (raw_lt h), Nat.xor_comm]
theorem ones_lt {l : List Int} (h : Byt l) : raw l ^^^ 4294967295 < 4294967296 := Nat.xor_lt_two_pow (n := 32) (raw_lt h) (by decide)
theorem sumOf_range {l : List Int} (h : Byt l) : 0 ≤ sumOf l ∧ sumOf l < 4294967296 := by
  rw [sumOf_nat h]
  have := ones_lt h
  omega
theorem ones_inj {a b : Nat} (h : a ^^^ 4294967295 = b ^^^ 4294967295) : a = b := by
  rw [Nat.xor_comm a, Nat.xor_comm b] at h
  exact xor_left_inj h
theorem sumOf_inj {l m : List Int} (h : Byt l) (k : Byt m) : sumOf l = sumOf m ↔ raw l = raw m := by
  rw [sumOf_nat h, sumOf_nat k]
  constructor
  · intro e
    exact ones_inj (by omega)
  · intro e
    rw [e]
/-- All bits turned. -/
theorem ones_sub (n : Nat) (h : n < 4294967296) : n ^^^ 4294967295 = 4294967295 - n := by
  rw [show (4294967295 : Nat) = 2 ^ 32 - 1 from rfl]
  apply Nat.eq_of_testBit_eq
  intro i
  rw [Nat.testBit_xor, Nat.testBit_two_pow_sub_one, show 2 ^ 32 - 1 - n = 2 ^ 32 - (n + 1) by omega, Nat.testBit_two_pow_sub_succ h]
  by_cases hi : i < 32
  · simp [hi]
  · simp [hi]
    exact Nat.testBit_lt_two_pow (Nat.lt_of_lt_of_le h (show 4294967296 ≤ 2 ^ i from Nat.pow_le_pow_right (n := 2) (by decide) (show 32 ≤ i by omega)))

/-! ### what the laws ask -/
theorem tl_length (n : Int) : (tl n).length = 4 := rfl
theorem tl_byt (n : Int) (h0 : 0 ≤ n) : Byt (tl n) := by
  intro x hx
  simp only [tl, List.mem_cons, List.not_mem_nil, or_false] at hx
  omega
theorem nt_tl (n : Nat) : nt (tl (n : Int)) = [n % 256, n / 256 % 256, n / 65536 % 256, n / 16777216 % 256] := by
  simp only [nt, tl, List.map_cons, List.map_nil, List.cons.injEq, and_true]
  refine ⟨?_, ?_, ?_, ?_⟩ <;> omega
theorem low_add {c X : Nat} (hc : c < 256) : c ^^^ 256 * X = c + 256 * X := by
  have h1 := W_mod (X := X) hc
  have h2 := W_div (X := X) hc
  omega
theorem W_tl {n : Nat} (h : n < 4294967296) : W (nt (tl (n : Int))) = n := by
  rw [nt_tl]
  simp only [W]
  rw [show 256 * 0 = 0 from rfl, Nat.xor_zero, low_add (by omega), low_add (by omega), low_add (by omega)]
  omega
theorem raw_app (l m : List Int) : raw (l ++ m) = S (raw l) (nt m) := by
  unfold raw
  rw [nt_app, S_app]
def key : Nat := bn 32 4294967295
theorem raw_seal {l : List Int} (h : Byt l) : raw (l ++ tl (sumOf l)) = key := by
  rw [raw_app, S_word, sumOf_nat h, W_tl (ones_lt h), nt_length, tl_length, ← Nat.xor_assoc, Nat.xor_self, Nat.zero_xor]
  rfl
theorem sum_seal {l : List Int} (h : Byt l) : sumOf (l ++ tl (sumOf l)) = 558161692 := by
  rw [sumOf_nat (h.app (tl_byt _ (sumOf_range h).1)), raw_seal h]
  decide +kernel
theorem open_iff {p q : List Int} (hp : Byt p) (hq : Byt q) (h4 : q.length = 4) : q = tl (sumOf p) ↔ raw (p ++ q) = key := by
  constructor
  · rintro rfl
    exact raw_seal hp
  · intro h
    rw [raw_app, S_word, nt_length, h4] at h
    have hw : W (nt q) < 4294967296 := W_lt32 (nt_lt hq) (by rw [nt_length]; omega)
    have h1 := bn_inj 32 (Nat.xor_lt_two_pow (n := 32) (raw_lt hp) hw) (show (4294967295 : Nat) < 4294967296 by decide) h
    have h2 : W (nt q) = raw p ^^^ 4294967295 := by
      rw [← h1, ← Nat.xor_assoc, Nat.xor_self, Nat.zero_xor]
    have hs := (sumOf_range hp).1
    refine nt_inj hq (tl_byt _ hs) (W_inj (nt_lt hq) (nt_lt (tl_byt _ hs)) (by rw [nt_length, nt_length, h4]; rfl) ?_)
    rw [h2, sumOf_nat hp, W_tl (ones_lt hp)]
theorem burst {p w w' q : List Int} (hp : Byt p) (hw : Byt w) (hw' : Byt w') (hq : Byt q) (hl : w.length = w'.length) (h4 : w.length ≤ 4) (h : raw (p ++ (w ++ q)) = raw (p ++ (w' ++ q))) : w = w' := by
  rw [raw_app, raw_app, nt_app, nt_app] at h
  exact nt_inj hw hw' (S_burst (raw_lt hp) (nt_lt hw) (nt_lt hw') (nt_lt hq) (by rw [nt_length, nt_length, hl]) (by rw [nt_length]; exact h4) h)
theorem goes {a b c : List Int} (ha : Byt a) (hb : Byt b) (hc : Byt c) : sumOf (a ++ c) = sumOf (b ++ c) ↔ sumOf a = sumOf b := by
  rw [sumOf_inj (ha.app hc) (hb.app hc), sumOf_inj ha hb, raw_app, raw_app]
  exact ⟨fun h => S_inj _ (nt_lt hc) (raw_lt ha) (raw_lt hb) h, fun h => by rw [h]⟩
theorem sums3 {x a b c : List Int} (hx : Byt x) (ha : Byt a) (hb : Byt b) (hc : Byt c) (la : a.length = x.length) (lb : b.length = x.length) (lc : c.length = x.length)
    (h : ∀ i, i < x.length → (x.getD i 0).toNat = (a.getD i 0).toNat ^^^ (b.getD i 0).toNat ^^^ (c.getD i 0).toNat) :
    sumOf x = Go.bits .xor .u32 (Go.bits .xor .u32 (sumOf a) (sumOf b)) (sumOf c) := by
  have hn : ∀ (l : List Int) (i : Nat), (nt l).getD i 0 = (l.getD i 0).toNat := by
    intro l i
    unfold nt
    rw [List.getD_eq_getElem?_getD, List.getD_eq_getElem?_getD, List.getElem?_map]
    cases l[i]? <;> rfl
  have h1 := S_xor3 (nt x) (nt a) (nt b) (nt c) 4294967295 4294967295 4294967295 (by rw [nt_length, nt_length, la]) (by rw [nt_length, nt_length, lb]) (by rw [nt_length, nt_length, lc])
    (fun i hi => by rw [nt_length] at hi; rw [hn, hn, hn, hn]; exact h i hi)
  rw [Nat.xor_self, Nat.zero_xor] at h1
  have ra := ones_lt ha
  have rb := ones_lt hb
  have rc := ones_lt hc
  rw [sumOf_nat hx, sumOf_nat ha, sumOf_nat hb, sumOf_nat hc, xor_u32 _ _ ra rb, xor_u32 _ _ (Nat.xor_lt_two_pow (n := 32) ra rb) rc]
  congr 1
  show raw x ^^^ _ = _
  rw [show raw x = raw a ^^^ raw b ^^^ raw c from h1]
  generalize (4294967295 : Nat) = n
  have e : raw a ^^^ n ^^^ (raw b ^^^ n) ^^^ (raw c ^^^ n) = raw a ^^^ raw b ^^^ raw c ^^^ n ^^^ (n ^^^ n) := by ac_rfl
  rw [e, Nat.xor_self, Nat.xor_zero]
end Go.Proofs.Ythmgaeecfhmenaa.Crc
