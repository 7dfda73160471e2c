/- What crc's functions give, as Lean functions, and that each call does just that. Conditions stand in each theorem. -/
import Derived.Laws.Closers25b
import Derived.Test.YtieolhhokepkjaaDoorPrint0
import Derived.Test.YtieolhhokepkjaaDoorHand
import Derived.WalkLawsBesides
import Derived.ScopeJumps
import Derived.WalkMore
import Derived.Lib.Hide
import Derived.Handy
import Derived.ChangeKeysEq
import Derived.Lib.SliceRun
namespace Go.Proofs.YtieolhhokepkjaaDoor.Crc
set_option linter.unusedVariables false
/-- A bit of a sum's step. -/
def bit1 (s : Int) : Int := if Go.bits .and .u32 s 1 = 1 then Go.bits .xor .u32 (s / 2) 3988292384 else s / 2
def bitN : Nat → Int → Int
 | 0, s => s
 | n + 1, s => bitN n (bit1 s)
/-- A sum with a byte more. -/
def stepS (s c : Int) : Int := bitN 8 (Go.bits .xor .u32 s (c % 4294967296))
def sumS (l : List Int) : Int := l.foldl stepS 4294967295
/-- The sum. -/
def sumOf (l : List Int) : Int := Go.bits .xor .u32 IntKind.u32.max (sumS l)
/-- A sum's bytes, the lowest first. -/
def tl (s : Int) : List Int := [s % 256, s / 256 % 256, s / 65536 % 256, s / 16777216 % 256]
/-! ### on natural numbers -/
def b1 (s : Nat) : Nat := if s % 2 = 1 then (s / 2) ^^^ 3988292384 else s / 2
def bn : Nat → Nat → Nat
 | 0, s => s
 | n + 1, s => bn n (b1 s)
def st (s c : Nat) : Nat := bn 8 (s ^^^ c)
def S (s : Nat) (l : List Nat) : Nat := l.foldl st s
def W : List Nat → Nat
 | [] => 0
 | c :: l => c ^^^ (256 * W l)
theorem b1_lt {s : Nat} (h : s < 4294967296) : b1 s < 4294967296 := by
 unfold b1
 split
 ·
  exact Nat.xor_lt_two_pow (n := 32) (by omega) (by omega)
 ·
  omega
theorem bn_lt (n : Nat) : ∀ {s : Nat}, s < 4294967296 → bn n s < 4294967296 := by
 induction n with
 | zero => intro s h; exact h
 | succ n ih => intro s h; exact ih (b1_lt h)
theorem S_lt (l : List Nat) : ∀ {s : Nat}, (∀ x ∈ l, x < 256) → s < 4294967296 → S s l < 4294967296 := by
 induction l with
 | nil => intro s _ h; exact h
 | cons c l ih =>
  intro s hb h
  exact ih (fun x hx => hb x (List.mem_cons_of_mem _ hx)) (bn_lt 8 (Nat.xor_lt_two_pow (n := 32) h (Nat.lt_trans (hb c List.mem_cons_self) (by decide))))
/-! ### the bridge -/
def Byt (l : List Int) : Prop := ∀ x ∈ l, 0 ≤ x ∧ x < 256
def nt (l : List Int) : List Nat := l.map Int.toNat
theorem nt_lt {l : List Int} (h : Byt l) : ∀ x ∈ nt l, x < 256 := by
 intro x hx
 obtain ⟨y, hy, rfl⟩ := List.mem_map.1 hx
 have := h y hy
 omega
theorem Byt.take {l : List Int} (h : Byt l) (n : Nat) : Byt (l.take n) := fun x hx => h x (List.mem_of_mem_take hx)
theorem Byt.drop {l : List Int} (h : Byt l) (n : Nat) : Byt (l.drop n) := fun x hx => h x (List.mem_of_mem_drop hx)
theorem wrap_u32 (n : Int) : IntKind.u32.wrap n = n % 4294967296 := by simp [IntKind.wrap, IntKind.bits, IntKind.signed]
theorem xor_u32 (a b : Nat) (ha : a < 4294967296) (hb : b < 4294967296) : Go.bits .xor .u32 (a : Int) (b : Int) = ((a ^^^ b : Nat) : Int) := by
 have hx : a ^^^ b < 2 ^ 32 := Nat.xor_lt_two_pow (by omega) (by omega)
 have h1 : (BitVec.ofInt 32 (a : Int)).toNat = a := by rw [BitVec.ofInt_natCast, BitVec.toNat_ofNat]; exact Nat.mod_eq_of_lt (by omega)
 have h2 : (BitVec.ofInt 32 (b : Int)).toNat = b := by rw [BitVec.ofInt_natCast, BitVec.toNat_ofNat]; exact Nat.mod_eq_of_lt (by omega)
 show IntKind.u32.wrap ((BitVec.ofInt 32 (a : Int) ^^^ BitVec.ofInt 32 (b : Int)).toNat : Int) = _
 rw [BitVec.toNat_xor, h1, h2, wrap_u32]
 omega
theorem and_u32 (a b : Nat) (ha : a < 4294967296) (hb : b < 4294967296) : Go.bits .and .u32 (a : Int) (b : Int) = ((a &&& b : Nat) : Int) := by
 have hx : a &&& b < 2 ^ 32 := Nat.and_lt_two_pow _ (by omega)
 have h1 : (BitVec.ofInt 32 (a : Int)).toNat = a := by rw [BitVec.ofInt_natCast, BitVec.toNat_ofNat]; exact Nat.mod_eq_of_lt (by omega)
 have h2 : (BitVec.ofInt 32 (b : Int)).toNat = b := by rw [BitVec.ofInt_natCast, BitVec.toNat_ofNat]; exact Nat.mod_eq_of_lt (by omega)
 show IntKind.u32.wrap ((BitVec.ofInt 32 (a : Int) &&& BitVec.ofInt 32 (b : Int)).toNat : Int) = _
 rw [BitVec.toNat_and, h1, h2, wrap_u32]
 omega
theorem bit1_nat {s : Nat} (h : s < 4294967296) : bit1 (s : Int) = (b1 s : Int) := by
 unfold bit1 b1
 have h1 : Go.bits .and .u32 (s : Int) 1 = ((s % 2 : Nat) : Int) := by
  have := and_u32 s 1 h (by decide)
  rw [Nat.and_one_is_mod] at this
  exact this
 have h2 : Go.bits .xor .u32 ((s : Int) / 2) 3988292384 = (((s / 2) ^^^ 3988292384 : Nat) : Int) := by
  have := xor_u32 (s / 2) 3988292384 (by omega) (by decide)
  rw [← this]
  rfl
 rw [h1, h2]
 by_cases hs : s % 2 = 1
 ·
  rw [if_pos hs, if_pos (by omega)]
 ·
  rw [if_neg hs, if_neg (by omega)]; omega
theorem bitN_nat (n : Nat) : ∀ {s : Nat}, s < 4294967296 → bitN n (s : Int) = (bn n s : Int) := by
 induction n with
 | zero => intro s _; rfl
 | succ n ih => intro s h; simp only [bitN, bn]; rw [bit1_nat h, ih (b1_lt h)]
theorem stepS_nat {s : Nat} {c : Int} (h : s < 4294967296) (h0 : 0 ≤ c) (h1 : c < 256) : stepS (s : Int) c = (st s c.toNat : Int) := by
 unfold stepS st
 have hc : c % 4294967296 = (c.toNat : Int) := by omega
 rw [hc, xor_u32 s c.toNat h (by omega), bitN_nat 8 (Nat.xor_lt_two_pow (n := 32) h (by omega))]
theorem fold_nat (l : List Int) : ∀ {s : Nat}, Byt l → s < 4294967296 → l.foldl stepS (s : Int) = (S s (nt l) : Int) := by
 induction l with
 | nil => intro s _ _; rfl
 | cons c l ih =>
  intro s hb h
  have hc := hb c List.mem_cons_self
  have hst : st s c.toNat < 4294967296 := bn_lt 8 (Nat.xor_lt_two_pow (n := 32) h (by omega))
  show l.foldl stepS (stepS (s : Int) c) = _
  rw [stepS_nat h hc.1 hc.2, ih (fun x hx => hb x (List.mem_cons_of_mem _ hx)) hst]
  rfl
/-- The raw sum as a natural number. -/
def raw (l : List Int) : Nat := S 4294967295 (nt l)
theorem raw_lt {l : List Int} (h : Byt l) : raw l < 4294967296 := S_lt _ (nt_lt h) (by decide)
theorem sumS_nat {l : List Int} (h : Byt l) : sumS l = (raw l : Int) := fold_nat l h (by decide)
theorem sumOf_nat {l : List Int} (h : Byt l) : sumOf l = ((raw l ^^^ 4294967295 : Nat) : Int) := by
 unfold sumOf
 rw [sumS_nat h, show IntKind.u32.max = ((4294967295 : Nat) : Int) from rfl, xor_u32 _ _ (by decide) (raw_lt h), Nat.xor_comm]
theorem ones_lt {l : List Int} (h : Byt l) : raw l ^^^ 4294967295 < 4294967296 := Nat.xor_lt_two_pow (n := 32) (raw_lt h) (by decide)
theorem sumOf_range {l : List Int} (h : Byt l) : 0 ≤ sumOf l ∧ sumOf l < 4294967296 := by
 rw [sumOf_nat h]
 have := ones_lt h
 omega
/-- All bits turned. -/
theorem ones_sub (n : Nat) (h : n < 4294967296) : n ^^^ 4294967295 = 4294967295 - n := by
 rw [show (4294967295 : Nat) = 2 ^ 32 - 1 from rfl]
 apply Nat.eq_of_testBit_eq
 intro i
 rw [Nat.testBit_xor, Nat.testBit_two_pow_sub_one, show 2 ^ 32 - 1 - n = 2 ^ 32 - (n + 1) by omega, Nat.testBit_two_pow_sub_succ h]
 by_cases hi : i < 32
 ·
  simp [hi]
 ·
  simp [hi]
  exact Nat.testBit_lt_two_pow (Nat.lt_of_lt_of_le h (show 4294967296 ≤ 2 ^ i from Nat.pow_le_pow_right (n := 2) (by decide) (show 32 ≤ i by omega)))
/-! ### what the laws ask -/
theorem tl_length (n : Int) : (tl n).length = 4 := rfl
theorem tl_byt (n : Int) (h0 : 0 ≤ n) : Byt (tl n) := by
 intro x hx
 simp only [tl, List.mem_cons, List.not_mem_nil, or_false] at hx
 omega
def key : Nat := bn 32 4294967295
end Go.Proofs.YtieolhhokepkjaaDoor.Crc
namespace Go.Proofs.YtieolhhokepkjaaDoor.Print
set_option linter.unusedVariables false
set_option linter.unusedSimpArgs false
open Go.RowKit Go.Proofs.YtieolhhokepkjaaDoorW.PrintWords Go.Proofs.YtieolhhokepkjaaDoorW.PrintLast Go.Proofs.YtieolhhokepkjaaDoorW.PrintMore Go.Proofs.YtieolhhokepkjaaDoor.Crc
def crc_step.f (s c : Int) : Option Int := some (bitN 8 (Go.bits .xor .u32 s (c % 4294967296)))
theorem crc_step.same (s c : Int) (r : Int) (w : World) (h : crc_step.f s c = some r) :
  Calls Tryd.prog 60 #[.int .u32 s, .int .u8 c] w fun e w' => e = .returned (.int .u32 r) ∧ w' = w := by
 obtain rfl := Option.some.inj h
 clear h
 go_enter Tryd.func60, Tryd.ntmps60
 go_wp2_with fail
 refine wp_scope_jumps 0 (fun a' w' => ∃ (n : Nat) (s' : Int), n < 8 ∧ bitN (8 - n) s' = bitN 8 (Go.bits .xor .u32 s (c % 4294967296)) ∧ w' = w ∧
  ∃ u4 u6 u7 u8 u9 u10 u11 u12 u13 u14 u15 u16 u17 u18 u19 u20 u21 u22 u23, a' = { tmps := #[.int .u32 s', .int .u8 c, undef, undef, u4, .int .i64 n, u6, u7, u8, u9, u10, u11, u12, u13, u14, u15, u16, u17, u18, u19, u20, u21, u22, u23], defers := [] })
  (fun a' _ => 8 - (intOf (a'.tmps.getD 5 undef)).toNat) rfl ?_ ?_
 ·
  generalize hx : Go.bits .xor .u32 s (c % 4294967296) = x
  have HX := Lib.hid hx
  clear hx
  by_cases hb : Go.bits .and .u32 x 1 = 1
  ·
   have hb2 : (Go.bits .and .u32 x 1 == 1) = true := by rw [hb]; rfl
   have h1 : bit1 x = Go.bits .xor .u32 (x / 2) 3988292384 := if_pos hb
   have H1 := Lib.hid h1
   clear h1 hb
   go_wp2_with fail
   rw [HX.out]
   go_step3
   go_wp2_with fail
   go_step3
   exact ⟨rfl, 1, _, by omega, by rw [← H1.out]; rfl, rfl, _, _, _, _, _, _, _, _, _, _, _, _, _, _, _, _, _, _, _, rfl⟩
  ·
   have hb2 : (Go.bits .and .u32 x 1 == 1) = false := by rw [beq_eq_false_iff_ne]; exact hb
   have h1 : bit1 x = x / 2 := if_neg hb
   have H1 := Lib.hid h1
   clear h1 hb
   go_wp2_with fail
   rw [HX.out]
   go_step3
   go_wp2_with fail
   go_step3
   exact ⟨rfl, 1, _, by omega, by rw [← H1.out]; rfl, rfl, _, _, _, _, _, _, _, _, _, _, _, _, _, _, _, _, _, _, _, rfl⟩
 ·
  rintro a' w' ⟨n, x, hn, hr, rfl, u4, u6, u7, u8, u9, u10, u11, u12, u13, u14, u15, u16, u17, u18, u19, u20, u21, u22, u23, rfl⟩
  have HR := Lib.hid hr
  clear hr
  have hnext : bitN (8 - n) x = bitN (8 - (n + 1)) (bit1 x) := by rw [show 8 - n = (8 - (n + 1)) + 1 by omega]; rfl
  have HN := Lib.hid hnext
  clear hnext
  by_cases hb : Go.bits .and .u32 x 1 = 1
  ·
   have hb2 : (Go.bits .and .u32 x 1 == 1) = true := by rw [hb]; rfl
   have h1 : bit1 x = Go.bits .xor .u32 (x / 2) 3988292384 := if_pos hb
   have H1 := Lib.hid h1
   clear h1 hb
   by_cases h8 : n + 1 < 8
   ·
    have h82 : decide (n + 1 < 8) = true := decide_eq_true h8
    go_wp2_with fail
    go_step3
    refine ⟨rfl, ⟨n + 1, _, h8, ?_, rfl, _, _, _, _, _, _, _, _, _, _, _, _, _, _, _, _, _, _, _, rfl⟩, ?_⟩
    ·
     rw [← H1.out, ← HN.out]; exact HR.out
    ·
     simp [intOf]; omega
   ·
    have h82 : decide (n + 1 < 8) = false := decide_eq_false h8
    obtain rfl : n = 7 := by omega
    have h := HR.out
    rw [HN.out, H1.out] at h
    clear HR HN H1
    have HH := Lib.hid h
    clear h
    go_wp2_with fail
    rw [show ∀ l J Q a w, Exit.jump l J Q .ret a w = Q .ret a w from fun _ _ _ _ _ => by rfl]
    go_ret
    exact ⟨by rw [← HH.out]; rfl, rfl⟩
  ·
   have hb2 : (Go.bits .and .u32 x 1 == 1) = false := by rw [beq_eq_false_iff_ne]; exact hb
   have h1 : bit1 x = x / 2 := if_neg hb
   have H1 := Lib.hid h1
   clear h1 hb
   by_cases h8 : n + 1 < 8
   ·
    have h82 : decide (n + 1 < 8) = true := decide_eq_true h8
    go_wp2_with fail
    go_step3
    refine ⟨rfl, ⟨n + 1, _, h8, ?_, rfl, _, _, _, _, _, _, _, _, _, _, _, _, _, _, _, _, _, _, _, rfl⟩, ?_⟩
    ·
     rw [← H1.out, ← HN.out]; exact HR.out
    ·
     simp [intOf]; omega
   ·
    have h82 : decide (n + 1 < 8) = false := decide_eq_false h8
    obtain rfl : n = 7 := by omega
    have h := HR.out
    rw [HN.out, H1.out] at h
    clear HR HN H1
    have HH := Lib.hid h
    clear h
    go_wp2_with fail
    rw [show ∀ l J Q a w, Exit.jump l J Q .ret a w = Q .ret a w from fun _ _ _ _ _ => by rfl]
    go_ret
    exact ⟨by rw [← HH.out]; rfl, rfl⟩
theorem crc_step.calls (s c : Int) (r : Int) (w : World) (h : crc_step.f s c = some r) :
  Calls Tryd.prog 60 #[.int .u32 s, .int .u8 c] w fun e w' => e = .returned (.int .u32 r) ∧ Drawn0 w w' :=
 (crc_step.same s c r w h).mono fun e w' ⟨h1, h2⟩ => ⟨h1, h2 ▸ Drawn0.refl _⟩
/-- Lengths that no machine reaches are left out. -/
def lim (l : List Int) : Prop := l.length ≤ 4611686018427387904
instance (l : List Int) : Decidable (lim l) := by unfold lim; infer_instance
def crc_Sum.f (l : List Int) : Option Int := if lim l then some (sumOf l) else none
theorem lim_of {l : List Int} {α : Type} {x : α} {r : α} (h : (if lim l then some x else none) = some r) : l.length ≤ 4611686018427387904 ∧ x = r := by
 by_cases hl : lim l
 ·
  rw [if_pos hl] at h; exact ⟨hl, Option.some.inj h⟩
 ·
  rw [if_neg hl] at h; cases h
theorem sumS_step (l : List Int) (k : Nat) (h : k < l.length) : sumS (l.take (k + 1)) = stepS (sumS (l.take k)) (rd l k) := by
 unfold sumS rd
 rw [List.take_succ_eq_append_getElem h, List.foldl_append, List.getD_eq_getElem?_getD, Int.toNat_natCast, List.getElem?_eq_getElem h]
 rfl
theorem crc_Sum.calls (A0 : Option Addr) (c0 : Nat) (l0 : List Int) (r : Int) (w : World) (hr0 : Kd.C (Kd.int .u8) w A0 l0.length l0) (hc0 : l0.length ≤ c0) (h : crc_Sum.f l0 = some r) :
  Calls Tryd.prog 47 #[.slice A0 l0.length c0] w fun e w' => e = .returned (.int .u32 r) ∧ Drawn0 w w' := by
 obtain ⟨hlen, rfl⟩ := lim_of h
 clear h
 unfold sumOf
 have HC := Lib.hid hr0
 clear hr0
 go_enter Tryd.func47, Tryd.ntmps47
 go_wp2_with fail
 go_loop [3, 8] (fun s i => ∃ k : Nat, k ≤ l0.length ∧ i = .int .i64 k ∧ s = .int .u32 (sumS (l0.take k))) (fun _ i => l0.length - (intOf i).toNat)
 case atStart => exact ⟨0, Nat.zero_le _, rfl, rfl⟩
 case round =>
  obtain ⟨k, hk, rfl, rfl⟩ := hrel
  by_cases hlt : k < l0.length
  ·
   obtain ⟨ad, rfl, hc⟩ := Kd.at_int HC.out k (by omega) (by omega)
   rw [Int.toNat_natCast] at hc
   have hs := sumS_step l0 k hlt
   have HS := Lib.hid hs
   clear hs
   generalize sumS (l0.take k) = n at *
   generalize rd l0 k = c at *
   have hlt2 : decide ((k : Int) < l0.length) = true := decide_eq_true (by omega)
   go_wp2_with fail
   refine (crc_step.same n c _ _ rfl).mono ?_
   rintro e w' ⟨rfl, rfl⟩
   go_wp2_with fail
   go_round
   case rel => exact ⟨k + 1, by omega, by go_num, by rw [HS.out]; rfl⟩
   case measure => simp [intOf]; omega
  ·
   have hkl : k = l0.length := by omega
   subst hkl
   rw [List.take_length]
   generalize hn : sumS l0 = n at *
   have HN := Lib.hid hn
   clear hn
   go_wp2_with fail
   go_ret
   exact ⟨by rw [HN.out]; rfl, Drawn0.refl _⟩
theorem crc_tail.own (s : Int) (w : World) :
  Calls Tryd.prog 46 #[.int .u32 s] w fun e w' => e = .returned (.agg #[.int .u8 (s % 256), .int .u8 (s / 256 % 256), .int .u8 (s / 65536 % 256), .int .u8 (s / 16777216 % 256)]) ∧ Below w.heap.size w w' := by
 go_enter Tryd.func46, Tryd.ntmps46
 go_wp2_with fail
 go_rounds 5
 refine bodyPost_ret (v := .agg #[.int .u8 (s % 256), .int .u8 (s / 256 % 256), .int .u8 (s / 65536 % 256), .int .u8 (s / 16777216 % 256)]) (by simp [results, Tryd.results46, go_sem]) rfl ⟨rfl, ?_⟩
 exact ((Below.refl _ _).alloc (Nat.le_refl _) _).alloc (by simp) _
theorem four_C (w : World) (a b c d : Int) (t : TypeId) : Kd.C (Kd.int .u8) ((w.alloc (.cells #[.int .u8 a, .int .u8 b, .int .u8 c, .int .u8 d] t)).drew) (some ⟨w.heap.size, 0, none⟩) 4 [a, b, c, d] := by
 refine Kd.C_drew (Kd.C_of_reads (enc := Value.int .u8) (d := (0 : Int)) (h1 := fun _ => rfl) ⟨rfl, by decide, fun _ => ⟨_, rfl, fun j hj => ?_⟩⟩)
 have h4 : j = 0 ∨ j = 1 ∨ j = 2 ∨ j = 3 := by omega
 rcases h4 with rfl | rfl | rfl | rfl <;> simp [Addr.add, go_sem]
def crc_Seal.f (l : List Int) : Option (List Int) := if lim2 l then some (l ++ tl (sumOf l)) else none
theorem crc_Seal.calls (A0 : Option Addr) (c0 : Nat) (l0 : List Int) (r : List Int) (w : World) (hr0 : Kd.C (Kd.int .u8) w A0 l0.length l0) (hc0 : l0.length ≤ c0) (h : crc_Seal.f l0 = some r) :
  Calls Tryd.prog 41 #[.slice A0 l0.length c0] w fun e w' => ∃ v0_ : Value, e = .returned v0_ ∧ Kd.R (Kd.int .u8) 5 w' w.heap.size (fun k_ => (w.heap.size ≤ k_)) v0_ r ∧ Below w.heap.size w w' := by
 obtain ⟨hlen, rfl⟩ := lim2_of h
 clear h
 have HR0 := ak hr0
 have HS := Lib.hid (show crc_Sum.f l0 = some (sumOf l0) from if_pos (by unfold lim; omega))
 clear hr0
 generalize hs : sumOf l0 = s at *
 have HQ := Lib.hid hs
 clear hs
 go_enter Tryd.func41, Tryd.ntmps41
 go_wp2_with fail
 refine (crc_Sum.calls A0 c0 l0 s _ HR0.out hc0 HS.out).mono ?_
 rintro e w' ⟨rfl, ⟨⟨nq, rfl⟩⟩⟩
 go_wp2_with fail
 refine (crc_tail.own s _).mono ?_
 rintro e wt ⟨rfl, hb⟩
 have HB := ak (below_step (pw_below_drewN (Below.refl w.heap.size w) nq) hb)
 clear hb
 go_wp2_with fail
 refine start_ (n := 5) (S := fun w' => True) (ds := []) #[false, false, false, false, false] (by kernel_rfl) rfl rfl trivial (fun hHeld => ?_)
 have HT := ak (four_C wt (s % 256) (s / 256 % 256) (s / 65536 % 256) (s / 16777216 % 256) 40)
 have n0_ := ak (show Below w.heap.size w (wt.alloc (.cells #[.int .u8 (s % 256), .int .u8 (s / 256 % 256), .int .u8 (s / 65536 % 256), .int .u8 (s / 16777216 % 256)] 40)).drew from below_drew1 (below_alloc HB.out _))
 clear HB
 have HB := n0_
 clear n0_
 generalize hg : wt.heap.size = g at *
 have HG := Lib.hid hg
 clear hg
 generalize (wt.alloc (.cells #[.int .u8 (s % 256), .int .u8 (s / 256 % 256), .int .u8 (s / 65536 % 256), .int .u8 (s / 16777216 % 256)] 40)).drew = w3 at *
 refine pure_ (i := 0) (N := some 7) (v := ?_) (a' := ?_) #[true, false, false, false, false] rfl rfl (by kernel_rfl) (fun _ _ _ h => h) (Or.inl ⟨by rfl, ?_⟩) ?_ ?_
 rotate_left
 ·
  intro w'
  go_simp
  with_reducible rfl
 rotate_left
 ·
  simp only [Act.put, sq1, sq2, sq3, i64_w, i32_w]
  rfl
 refine pure_ (i := 2) (N := some 9) (v := ?_) (a' := ?_) #[true, false, true, false, false] rfl rfl (by kernel_rfl) (fun _ _ _ h => h) (Or.inl ⟨by rfl, ?_⟩) ?_ ?_
 rotate_left
 ·
  intro w'
  go_simp
  with_reducible rfl
 rotate_left
 ·
  simp only [Act.put, sq1, sq2, sq3, i64_w, i32_w]
  rfl
 have HCl := Lib.hid (show slices_Clone_byte_byte.f l0 = some l0 from if_pos hlen)
 refine one_ (i := 1) (N := some 8) #[true, true, true, false, false] rfl rfl (by kernel_rfl) (by decide) (fun K hK => ?_)
 refine goes_ Tryd.func48 (by kernel_rfl) rfl #[.slice A0 l0.length c0] (by rfl) rfl rfl (by (try simp only [List.map_toArray, List.map_cons, List.map_nil]); first | done | rfl) ?_
 refine (slices_Clone_byte_byte.calls A0 c0 l0 l0 _ (Kd.C_below HR0.out HB.out) hc0 HCl.out).mono ?_
 rintro e w4 ⟨v1, rfl, ho, hb⟩
 refine ⟨_, rfl, ?_⟩
 have n0_ := ak (Kd.C_below HT.out hb)
 have n1_ := ak (Kd.R_mono (Kd.R_lower ho (below_size HB.out)) (fun k hk => Nat.le_trans (below_size HB.out) hk))
 have n2_ := ak (below_step HB.out hb)
 clear HT HB hb ho
 have HT := n0_
 have HO := n1_
 have HB := n2_
 clear n0_ n1_ n2_
 refine hK.out _ _ trivial (fun hHeld => ?_)
 clear hK K
 refine norm_ (a' := ?_) ?_ ?_
 rotate_left
 ·
  show Act.put _ (some 8) _ = _
  simp only [Act.put, sq1, sq2, sq3, i64_w, i32_w]
  rfl
 refine one_ (i := 3) (N := some 10) #[true, true, true, true, false] rfl rfl (by kernel_rfl) (by decide) (fun K hK => ?_)
 refine Kd.R_append_rows_step (Kd.int .u8) (w0 := w) w.heap.size (by rfl) (.tmp 8) (.tmp 9) 23 5 (.int .u8 0) 1 rfl Tryd.underlying23 info5 rfl (by decide) (by omega) v1 l0 [s % 256, s / 256 % 256, s / 65536 % 256, s / 16777216 % 256] _ _ _ (fun k_ => w.heap.size ≤ k_) (fun _ => False) rfl rfl ?aO ?aR (fun _ _ h => h) (fun _ h => h.elim) ?aF ?aB ?aS ?aL ?_
 (case aR => exact HT.out)
 (case aB => exact HB.out)
 (case aF => exact (fun k_ hk => Nat.le_trans (below_size HB.out) hk))
 (case aO => exact HO.out)
 (case aS => exact (below_size HB.out))
 (case aL => omega)
 intro v2 w5 ho hb hg hat
 refine hK.out _ _ trivial (fun hHeld => ?_)
 clear hK K
 refine norm_ (a' := ?_) ?_ ?_
 rotate_left
 ·
  show Act.put _ (some 10) _ = _
  simp only [Act.put, sq1, sq2, sq3, i64_w, i32_w]
  rfl
 have n0_ := ak ho
 have n1_ := ak hb
 clear HT HB HO hb ho hg hat
 have HO := n0_
 have HB := n1_
 clear n0_ n1_
 refine pure_ (i := 4) (N := some 2) (v := ?_) (a' := ?_) #[true, true, true, true, true] rfl rfl (by kernel_rfl) (fun _ _ _ h => h) (Or.inl ⟨by rfl, ?_⟩) ?_ ?_
 rotate_left
 ·
  intro w'
  go_simp
  with_reducible rfl
 rotate_left
 ·
  simp only [Act.put, sq1, sq2, sq3, i64_w, i32_w]
  rfl
 refine done_ (by kernel_rfl) ?_
 go_wp2_with fail
 go_ret
 exact ⟨_, rfl, HO.out, HB.out⟩
theorem add_more (ad : Addr) (m j : Nat) (hj : 0 < j) : ad.add (m + j) = ⟨(ad.add m).block, (ad.add m).off + j, none⟩ := by
 unfold Addr.add
 rw [if_neg (by omega)]
 by_cases hm : m = 0
 ·
  subst hm; simp
 ·
  rw [if_neg hm]; simp; omega
theorem run_eq4 {P : Program} (w : World) (t e : TypeId) (ht : P.underlying t = some (.array 4 e)) (he : P.underlying e = some (.int .u8)) {i : TypeInfo} (hi : P.info? e = some i) (hc : P.cellsOf e = 1) (a0 a1 a2 a3 b0 b1 b2 b3 : Int) :
  (Op.equalIn 10000 t (.agg #[.int .u8 a0, .int .u8 a1, .int .u8 a2, .int .u8 a3]) (.agg #[.int .u8 b0, .int .u8 b1, .int .u8 b2, .int .u8 b3])).run P w = .ok (decide ([b0, b1, b2, b3] = [a0, a1, a2, a3])) w := by
 rw [show (10000 : Nat) = 9999 + 1 from rfl, run_equalIn_array w 9999 _ _ ht hi, hc]
 have hr : List.range 4 = [0, 1, 2, 3] := rfl
 have he1 : ∀ (a b : Int) (w : World), (Op.equalIn 9999 e (.int .u8 a) (.int .u8 b)).run P w = .ok (a == b) w := fun a b w => run_equalIn_int (P := P) w 9998 e .u8 .u8 a b he
 have pa : ∀ (x0 x1 x2 x3 : Int) (w : World), (part e #[.int .u8 x0, .int .u8 x1, .int .u8 x2, .int .u8 x3] 0).run P w = .ok (.int .u8 x0) w ∧ (part e #[.int .u8 x0, .int .u8 x1, .int .u8 x2, .int .u8 x3] 1).run P w = .ok (.int .u8 x1) w
   ∧ (part e #[.int .u8 x0, .int .u8 x1, .int .u8 x2, .int .u8 x3] 2).run P w = .ok (.int .u8 x2) w ∧ (part e #[.int .u8 x0, .int .u8 x1, .int .u8 x2, .int .u8 x3] 3).run P w = .ok (.int .u8 x3) w := by
  intro x0 x1 x2 x3 w
  refine ⟨?_, ?_, ?_, ?_⟩ <;> simp [part, isAgg, run_underlying he]
 rw [hr]
 simp only [Op.eqItems, Sem.run_bind, (pa _ _ _ _ _).1, (pa _ _ _ _ _).2.1, (pa _ _ _ _ _).2.2.1, (pa _ _ _ _ _).2.2.2, Result.andThen_ok, he1]
 have hd : decide ([b0, b1, b2, b3] = [a0, a1, a2, a3]) = (a0 == b0 && a1 == b1 && a2 == b2 && a3 == b3) := by
  rw [Bool.eq_iff_iff]
  simp only [decide_eq_true_eq, List.cons.injEq, and_true, Bool.and_eq_true, beq_iff_eq]
  omega
 rw [hd]
 cases h0 : (a0 == b0) <;> cases h1 : (a1 == b1) <;> cases h2 : (a2 == b2) <;> cases h3 : (a3 == b3) <;> simp [pa, he1, h0, h1, h2, h3]
/-- What was sealed; 2: too short; 3: the sum is another. -/
def crc_Open.f (l : List Int) : Option (List Int × Int) := if lim2 l then some (if l.length < 4 then ([], 2) else if l.drop (l.length - 4) = tl (sumOf (l.take (l.length - 4))) then (l.take (l.length - 4), 0) else ([], 3)) else none
theorem crc_Open.calls (A0 : Option Addr) (c0 : Nat) (l0 : List Int) (r1 : List Int) (r2 : Int) (w : World) (hr0 : Kd.C (Kd.int .u8) w A0 l0.length l0) (hc0 : l0.length ≤ c0) (h : crc_Open.f l0 = some (r1, r2)) :
  Calls Tryd.prog 23 #[.slice A0 l0.length c0] w fun e w' => ∃ v0_ : Value, e = .returned (.tuple #[v0_, .int .i64 r2]) ∧ Kd.R (Kd.int .u8) 5 w' w.heap.size (fun k_ => (w.heap.size ≤ k_)) v0_ r1 ∧ Below w.heap.size w w' := by
 obtain ⟨hlen, h⟩ := lim2_of h
 have HR0 := ak hr0
 by_cases h4 : l0.length < 4
 ·
  rw [if_pos h4] at h
  simp only [Prod.mk.injEq] at h
  obtain ⟨rfl, rfl⟩ := h
  have hd : decide ((l0.length : Int) - 4 < 0) = true := decide_eq_true (by omega)
  clear hr0
  go_enter Tryd.func23, Tryd.ntmps23
  go_wp2_with fail
  go_ret2
  exact ⟨_, rfl, Kd.R_nil _ _ _ _ _, Below.refl _ _⟩
 ·
  rw [if_neg h4] at h
  obtain ⟨m, hm⟩ : ∃ m : Nat, l0.length = m + 4 := ⟨l0.length - 4, by omega⟩
  obtain ⟨ad, rfl, _⟩ := Kd.at_int hr0 0 (by omega) (by omega)
  have hcs : ∀ j : Nat, j < 4 → w.cell? (ad.add (m + j)) = some (.int .u8 (rd l0 (m + j : Nat))) := by
   intro j hj
   obtain ⟨ad', he, hc⟩ := Kd.at_int hr0 (m + j : Nat) (by omega) (by omega)
   obtain rfl := Option.some.inj he
   rwa [Int.toNat_natCast] at hc
  rw [show l0.length - 4 = m by omega] at h
  have hd : decide ((m : Int) < 0) = false := decide_eq_false (by omega)
  obtain ⟨i5, hi5, hz5, hs5, _⟩ := info_parts info5
  have hsl1 := cut_to (P := Tryd.prog) 23 5 .i64 Tryd.underlying23 hi5 (some ad) (m + 4) c0 (m : Int) (by omega) (by omega) (by omega)
  have hsl2 := cut_from (P := Tryd.prog) 23 5 .i64 Tryd.underlying23 hi5 1 hs5 (some ad) (m + 4) c0 (m : Int) (by omega) (by omega)
  rw [Int.toNat_natCast] at hsl1 hsl2
  rw [if_neg (by omega), show m + 4 - m = 4 by omega, Option.map_some, Nat.mul_one] at hsl2
  rw [hm] at hc0 hlen ⊢
  have hdrop : l0.drop m = [rd l0 (m : Int), rd l0 ((m + 1 : Nat) : Int), rd l0 ((m + 2 : Nat) : Int), rd l0 ((m + 3 : Nat) : Int)] := by
   apply List.ext_getElem?
   intro i
   rw [List.getElem?_drop]
   by_cases h : i < 4
   ·
    have h4 : i = 0 ∨ i = 1 ∨ i = 2 ∨ i = 3 := by omega
    have hg : ∀ j : Nat, j < l0.length → l0[j]? = some (rd l0 (j : Int)) := fun j hj => by rw [rd, Int.toNat_natCast, List.getD_eq_getElem?_getD, List.getElem?_eq_getElem hj]; rfl
    rcases h4 with rfl | rfl | rfl | rfl <;> rw [hg _ (by omega)] <;> rfl
   ·
    rw [List.getElem?_eq_none (by omega), List.getElem?_eq_none (by simp; omega)]
  have HD := Lib.hid hdrop
  have HM := Lib.hid hm
  have HC := Lib.hid hcs
  have HH := Lib.hid h
  clear hr0 hm hcs h hz5 hs5 h4 hdrop
  have HI := Lib.hid hi5
  clear hi5
  go_enter Tryd.func23, Tryd.ntmps23
  go_wp2_with fail
  have q0 := HC.out 0 (by omega)
  have q1 := HC.out 1 (by omega)
  have q2 := HC.out 2 (by omega)
  have q3 := HC.out 3 (by omega)
  rw [Nat.add_zero] at q0
  rw [add_more ad m 1 (by omega)] at q1
  rw [add_more ad m 2 (by omega)] at q2
  rw [add_more ad m 3 (by omega)] at q3
  have hat := fun w => run_arrayAt (P := Tryd.prog) w 40 5 4 (some (ad.add m)) 4 (c0 - m) Tryd.underlying40 (Nat.le_refl _)
  generalize ad.add m = pm at *
  generalize rd l0 (m : Int) = e0 at *
  generalize rd l0 ((m + 1 : Nat) : Int) = e1 at *
  generalize rd l0 ((m + 2 : Nat) : Int) = e2 at *
  generalize rd l0 ((m + 3 : Nat) : Int) = e3 at *
  have Q0 := Lib.hid q0
  have Q1 := Lib.hid q1
  have Q2 := Lib.hid q2
  have Q3 := Lib.hid q3
  clear q0 q1 q2 q3
  refine start_ (n := 11) (S := fun w' => w'.cell? pm = some (.int .u8 e0) ∧ w'.cell? ⟨pm.block, pm.off + 1, none⟩ = some (.int .u8 e1) ∧ w'.cell? ⟨pm.block, pm.off + 2, none⟩ = some (.int .u8 e2) ∧ w'.cell? ⟨pm.block, pm.off + 3, none⟩ = some (.int .u8 e3)) (ds := []) #[false, false, false, false, false, false, false, false, false, false, false] (by kernel_rfl) rfl rfl ⟨Q0.out, Q1.out, Q2.out, Q3.out⟩ (fun hHeld => ?_)
  refine pure_ (i := 0) (N := some 10) (v := ?_) (a' := ?_) #[true, false, false, false, false, false, false, false, false, false, false] rfl rfl (by kernel_rfl) (fun _ _ _ h => h) (Or.inl ⟨by rfl, ?_⟩) ?_ ?_
  rotate_left
  ·
   intro w'
   go_simp
   with_reducible rfl
  rotate_left
  ·
   simp only [Act.put, sq1, sq2, sq3, i64_w, i32_w]
   rfl
  refine pure_ (i := 1) (N := some 11) (v := ?_) (a' := ?_) #[true, true, false, false, false, false, false, false, false, false, false] rfl rfl (by kernel_rfl) (fun _ _ _ h => h) (Or.inl ⟨by rfl, ?_⟩) ?_ ?_
  rotate_left
  ·
   intro w'
   go_simp
   with_reducible rfl
  rotate_left
  ·
   simp only [Act.put, sq1, sq2, sq3, i64_w, i32_w]
   rfl
  refine pure_ (i := 2) (N := some 12) (v := ?_) (a' := ?_) #[true, true, true, false, false, false, false, false, false, false, false] rfl rfl (by kernel_rfl) (fun _ _ _ h => h) (Or.inl ⟨by rfl, ?_⟩) ?_ ?_
  rotate_left
  ·
   intro w'
   go_simp
   with_reducible rfl
  rotate_left
  ·
   simp only [Act.put, sq1, sq2, sq3, i64_w, i32_w]
   rfl
  refine pure_ (i := 5) (N := some 15) (v := ?_) (a' := ?_) #[true, true, true, false, false, true, false, false, false, false, false] rfl rfl (by kernel_rfl) (fun _ _ _ h => h) (Or.inl ⟨by rfl, ?_⟩) ?_ ?_
  rotate_left
  ·
   intro w'
   go_simp
   with_reducible rfl
  rotate_left
  ·
   simp only [Act.put, sq1, sq2, sq3, i64_w, i32_w]
   rfl
  refine pure_ (i := 6) (N := some 16) (v := ?_) (a' := ?_) #[true, true, true, false, false, true, true, false, false, false, false] rfl rfl (by kernel_rfl) (fun _ _ _ h => h) (Or.inl ⟨by rfl, ?_⟩) ?_ ?_
  rotate_left
  ·
   intro w'
   go_simp
   with_reducible rfl
  rotate_left
  ·
   simp only [Act.put, sq1, sq2, sq3, i64_w, i32_w]
   rfl
  refine pure_ (i := 7) (N := some 17) (v := ?_) (a' := ?_) #[true, true, true, false, false, true, true, true, false, false, false] rfl rfl (by kernel_rfl) (fun _ _ _ h => h) (Or.inl ⟨by rfl, ?_⟩) ?_ ?_
  rotate_left
  ·
   intro w'
   go_simp
   with_reducible rfl
  rotate_left
  ·
   simp only [Act.put, sq1, sq2, sq3, i64_w, i32_w]
   rfl
  refine pure_ (i := 8) (N := some 18) (v := ?_) (a' := ?_) #[true, true, true, false, false, true, true, true, true, false, false] rfl rfl (by kernel_rfl) (fun _ _ _ h => h) (Or.inl ⟨by rfl, ?_⟩) ?_ ?_
  rotate_left
  ·
   intro w'
   go_simp
   with_reducible rfl
  rotate_left
  ·
   simp only [Act.put, sq1, sq2, sq3, i64_w, i32_w]
   rfl
  refine take_ (i := 9) (N := some 19) (v := ?_) (a' := ?_) #[true, true, true, false, false, true, true, true, true, true, false] rfl rfl (by kernel_rfl) (fun _ _ _ h => h) (Or.inl ⟨by rfl, ?_⟩) hHeld ?_ ?_
  rotate_left
  ·
   rintro w' ⟨s0, s1, s2, s3⟩
   go_simp
   with_reducible rfl
  rotate_left
  ·
   simp only [Act.put, sq1, sq2, sq3, i64_w, i32_w]
   rfl
  have HB := ak (below_drew1 (Below.refl w.heap.size w))
  generalize w.drew = w3 at *
  have hlt : (l0.take m).length = m := by rw [List.length_take, HM.out]; omega
  have hcl := Kd.C_take (m := m) HR0.out (by rw [HM.out]; omega)
  generalize l0.take m = lt at *
  have HCL := ak hcl
  clear hcl
  have HS := Lib.hid (show crc_Sum.f lt = some (sumOf lt) from if_pos (by unfold lim; omega))
  have hcall := crc_Sum.calls (some ad) c0 lt (sumOf lt) w3 (Kd.C_below HCL.out HB.out) (by omega) HS.out
  rw [hlt] at hcall
  have HSc := Lib.hid hcall
  clear hcall
  generalize hs : sumOf lt = s at *
  have HQ := Lib.hid hs
  clear hs
  have heq := fun w' => run_eq4 (P := Tryd.prog) w' 40 5 Tryd.underlying40 Tryd.underlying5 HI.out (by kernel_rfl) (s % 256) (s / 256 % 256) (s / 65536 % 256) (s / 16777216 % 256) e0 e1 e2 e3
  generalize hbq : decide ([e0, e1, e2, e3] = [s % 256, s / 256 % 256, s / 65536 % 256, s / 16777216 % 256]) = bq at heq
  have HBQ := Lib.hid hbq
  clear hbq
  refine one_ (i := 3) (N := some 13) #[true, true, true, true, false, true, true, true, true, true, false] rfl rfl (by kernel_rfl) (by decide) (fun K hK => ?_)
  refine goes_ Tryd.func47 (by kernel_rfl) rfl #[.slice (some ad) m c0] (by rfl) rfl rfl (by (try simp only [List.map_toArray, List.map_cons, List.map_nil]); first | done | rfl) ?_
  refine HSc.out.mono ?_
  rintro e w4 ⟨rfl, ⟨⟨nq, rfl⟩⟩⟩
  refine ⟨_, rfl, ?_⟩
  have n0_ := ak (pw_below_drewN HB.out nq)
  clear HB HSc
  have HB := n0_
  clear n0_
  refine hK.out _ _ hHeld (fun hHeld => ?_)
  clear hK K
  refine norm_ (a' := ?_) ?_ ?_
  rotate_left
  ·
   show Act.put _ (some 13) _ = _
   simp only [Act.put, sq1, sq2, sq3, i64_w, i32_w]
   rfl
  generalize w3.drewN nq = w4 at *
  refine one_ (i := 4) (N := some 14) #[true, true, true, true, true, true, true, true, true, true, false] rfl rfl (by kernel_rfl) (by decide) (fun K hK => ?_)
  refine goes_ Tryd.func46 (by kernel_rfl) rfl #[.int .u32 s] (by rfl) rfl rfl (by (try simp only [List.map_toArray, List.map_cons, List.map_nil]); first | done | rfl) ?_
  refine (crc_tail.own s _).mono ?_
  rintro e w5 ⟨rfl, hb⟩
  refine ⟨_, rfl, ?_⟩
  have n0_ := ak (below_step HB.out hb)
  obtain ⟨h0, h1, h2, h3⟩ := hHeld
  have hHeld : w5.cell? pm = some (.int .u8 e0) ∧ w5.cell? ⟨pm.block, pm.off + 1, none⟩ = some (.int .u8 e1) ∧ w5.cell? ⟨pm.block, pm.off + 2, none⟩ = some (.int .u8 e2) ∧ w5.cell? ⟨pm.block, pm.off + 3, none⟩ = some (.int .u8 e3) :=
   ⟨(hb.cell (World.block_lt_of_cell? _ _ h0)).trans h0, (hb.cell (World.block_lt_of_cell? _ _ h1)).trans h1, (hb.cell (World.block_lt_of_cell? _ _ h2)).trans h2, (hb.cell (World.block_lt_of_cell? _ _ h3)).trans h3⟩
  clear HB hb h0 h1 h2 h3
  have HB := n0_
  clear n0_
  refine hK.out _ _ hHeld (fun hHeld => ?_)
  clear hK K
  refine norm_ (a' := ?_) ?_ ?_
  rotate_left
  ·
   show Act.put _ (some 14) _ = _
   simp only [Act.put, sq1, sq2, sq3, i64_w, i32_w]
   rfl
  refine pure_ (i := 10) (N := some 20) (v := ?_) (a' := ?_) #[true, true, true, true, true, true, true, true, true, true, true] rfl rfl (by kernel_rfl) (fun _ _ _ h => h) (Or.inl ⟨by rfl, ?_⟩) ?_ ?_
  rotate_left
  ·
   intro w'
   go_simp
   with_reducible rfl
  rotate_left
  ·
   simp only [Act.put, sq1, sq2, sq3, i64_w, i32_w]
   rfl
  refine done_ (by kernel_rfl) ?_
  cases bq
  ·
   have hne : ¬ (l0.drop m = tl s) := by rw [HD.out]; exact of_decide_eq_false HBQ.out
   have h := HH.out
   rw [if_neg hne] at h
   simp only [Prod.mk.injEq] at h
   obtain ⟨rfl, rfl⟩ := h
   clear HH HBQ hne heq
   go_wp2_with fail
   go_ret2
   exact ⟨_, rfl, Kd.R_nil _ _ _ _ _, HB.out⟩
  ·
   have hne : l0.drop m = tl s := by rw [HD.out]; exact of_decide_eq_true HBQ.out
   have h := HH.out
   rw [if_pos hne] at h
   simp only [Prod.mk.injEq] at h
   obtain ⟨rfl, rfl⟩ := h
   clear HH HBQ hne heq
   have hcl := slices_Clone_byte_byte.calls (some ad) c0 lt lt w5 (Kd.C_below HCL.out HB.out) (by omega) (if_pos (by unfold lim2; omega))
   rw [hlt] at hcl
   have HK := Lib.hid hcl
   clear hcl
   go_wp2_with fail
   refine HK.out.mono ?_
   rintro e w6 ⟨v1, rfl, ho, hb⟩
   have HO := ak (Kd.R_mono (Kd.R_lower ho (below_size HB.out)) (fun k hk => Nat.le_trans (below_size HB.out) hk))
   have HB2 := ak (below_step HB.out hb)
   clear ho hb
   go_wp2_with fail
   go_ret2
   exact ⟨_, rfl, HO.out, HB2.out⟩
end Go.Proofs.YtieolhhokepkjaaDoor.Print
