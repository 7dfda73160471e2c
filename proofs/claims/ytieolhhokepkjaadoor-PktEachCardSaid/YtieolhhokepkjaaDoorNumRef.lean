/- Plain lemmas on numbers as bytes: what the document's answers come to. Conditions stand in each lemma. -/
import Derived.Test.YtieolhhokepkjaaDoorBase1
import Derived.Test.YtieolhhokepkjaaDoorHand
import Derived.Laws.BitsLemmas
import Derived.Lib.Bytes
import Derived.Test.YtieolhhokepkjaaDoorBase2
import Derived.Test.YtieolhhokepkjaaDoorBase3
namespace Go.Proofs.YtieolhhokepkjaaDoor.NumPlain
set_option linter.unusedVariables false
set_option linter.unusedSimpArgs false
open Go.RowKit Go.Proofs.YtieolhhokepkjaaDoor.Print
open Go.Proofs.YtieolhhokepkjaaDoorW.PrintWords Go.Proofs.YtieolhhokepkjaaDoorW.PrintLast Go.Proofs.YtieolhhokepkjaaDoorW.PrintMore
theorem wrap_id {x : Int} (h0 : -9223372036854775808 ≤ x) (h : x ≤ 9223372036854775807) : wrap64 x = x := by
 unfold wrap64; omega
theorem wf_u8 {n : Int} (h : (Lit.int .u8 n).wf = true) : 0 ≤ n ∧ n ≤ 255 := by
 simpa [Lit.wf, IntKind.min, IntKind.max, IntKind.bits, IntKind.signed] using h
theorem u64_wrap (n : Int) : IntKind.u64.wrap n = n % 18446744073709551616 := by simp [IntKind.wrap, IntKind.bits, IntKind.signed]
/-! ### Numbers as bytes -/
/-- Bytes, each of them. -/
def By (l : List Int) : Prop := ∀ c ∈ l, 0 ≤ c ∧ c ≤ 255
theorem By.take {l : List Int} (h : By l) (n : Nat) : By (l.take n) := fun c hc => h c (List.mem_of_mem_take hc)
theorem By.drop {l : List Int} (h : By l) (n : Nat) : By (l.drop n) := fun c hc => h c (List.mem_of_mem_drop hc)
theorem By.append {a b : List Int} (ha : By a) (hb : By b) : By (a ++ b) := fun c hc => (List.mem_append.1 hc).elim (ha c) (hb c)
/-- The number that bytes are, the first one the greatest. -/
def val (l : List Int) : Int := l.foldl (fun n c => n * 256 + c) 0
/-- A number's bytes. -/
def enc : Nat → Int → List Int
 | 0, _ => []
 | W + 1, n => enc W (n / 256) ++ [n % 256]
theorem val_snoc (l : List Int) (c : Int) : val (l ++ [c]) = val l * 256 + c := by unfold val; rw [List.foldl_append]; rfl
theorem enc_length (W : Nat) : ∀ n : Int, (enc W n).length = W := by
 induction W with
 | zero => intro n; rfl
 | succ W ih => intro n; simp [enc, ih]
theorem enc_by (W : Nat) : ∀ n : Int, By (enc W n) := by
 induction W with
 | zero => intro n c hc; cases hc
 | succ W ih =>
  intro n c hc
  rcases List.mem_append.1 hc with hc | hc
  ·
   exact ih _ c hc
  ·
   obtain rfl := List.mem_singleton.1 hc; omega
theorem val_enc (W : Nat) : ∀ n : Int, 0 ≤ n → n < 256 ^ W → val (enc W n) = n := by
 induction W with
 | zero => intro n h0 h; simp at h; unfold enc val; simp; omega
 | succ W ih =>
  intro n h0 h
  have hp : (256 : Int) ^ (W + 1) = 256 ^ W * 256 := Int.pow_succ ..
  rw [enc, val_snoc, ih (n / 256) (by omega) (by omega)]
  omega
theorem snoc_cases (l : List Int) : l = [] ∨ ∃ a c, l = a ++ [c] := by
 rcases List.eq_nil_or_concat l with h | ⟨a, c, h⟩
 ·
  exact .inl h
 ·
  exact .inr ⟨a, c, by rw [h, List.concat_eq_append]⟩
theorem val_lt : ∀ (W : Nat) (l : List Int), By l → l.length = W → 0 ≤ val l ∧ val l < 256 ^ W ∧ enc W (val l) = l := by
 intro W
 induction W with
 | zero => intro l hb hl; obtain rfl := List.eq_nil_of_length_eq_zero hl; exact ⟨Int.le_refl _, by decide, rfl⟩
 | succ W ih =>
  intro l hb hl
  rcases snoc_cases l with rfl | ⟨a, c, rfl⟩
  ·
   cases hl
  ·
   have hla : a.length = W := by simpa using hl
   obtain ⟨h0, h1, h2⟩ := ih a (fun x hx => hb x (List.mem_append_left _ hx)) hla
   have hc := hb c (by simp)
   have hp : (256 : Int) ^ (W + 1) = 256 ^ W * 256 := Int.pow_succ ..
   rw [val_snoc]
   refine ⟨by omega, by omega, ?_⟩
   rw [enc, show (val a * 256 + c) / 256 = val a by omega, show (val a * 256 + c) % 256 = c by omega, h2]
theorem enc_get (W : Nat) : ∀ (n : Int) (i : Nat), i < W → (enc W n).getD i 0 = n / 256 ^ (W - 1 - i) % 256 := by
 induction W with
 | zero => intro n i hi; omega
 | succ W ih =>
  intro n i hi
  rw [enc]
  by_cases h : i < W
  ·
   rw [List.getD_eq_getElem?_getD, List.getElem?_append_left (by rw [enc_length]; exact h), ← List.getD_eq_getElem?_getD, ih _ _ h]
   rw [show W + 1 - 1 - i = (W - 1 - i) + 1 by omega, Int.pow_succ, Int.mul_comm, Int.ediv_ediv_of_nonneg (by omega)]
  ·
   obtain rfl : i = W := by omega
   rw [List.getD_eq_getElem?_getD, List.getElem?_append_right (by rw [enc_length]; omega), enc_length]
   simp
/-- The program's sum of bytes, at most eight. -/
theorem tk_add {n c : Int} (h0 : 0 ≤ n) (h1 : n < 72057594037927936) (hc0 : 0 ≤ c) (hc1 : c ≤ 255) : tk n c = n * 256 + c := by
 unfold tk
 rw [u64_wrap, u64_wrap, Int.emod_eq_of_lt (by omega) (by omega), Int.emod_eq_of_lt hc0 (by omega)]
 exact bits_join .u64 64 (by decide) (fun n h0 h1 => by rw [u64_wrap]; exact Int.emod_eq_of_lt h0 (by simpa using h1)) 8 _ _ (by omega) (by rw [show (2 : Int) ^ 8 = 256 by decide]; omega) (by rw [show (2 : Int) ^ 64 = 18446744073709551616 by decide]; omega) hc0 (by rw [show (2 : Int) ^ 8 = 256 by decide]; omega) (by rw [show (2 : Int) ^ 64 = 18446744073709551616 by decide]; omega)
theorem pow_le8 {W : Nat} (h : W ≤ 7) : (256 : Int) ^ W ≤ 72057594037927936 := by
 rcases W with _ | _ | _ | _ | _ | _ | _ | _ | W <;> first | decide | omega
theorem be_val : ∀ (W : Nat) (l : List Int), By l → l.length = W → W ≤ 8 → be l = val l := by
 intro W
 induction W with
 | zero => intro l hb hl _; obtain rfl := List.eq_nil_of_length_eq_zero hl; rfl
 | succ W ih =>
  intro l hb hl hW
  rcases snoc_cases l with rfl | ⟨a, c, rfl⟩
  ·
   cases hl
  ·
   have hla : a.length = W := by simpa using hl
   have hba : By a := fun x hx => hb x (List.mem_append_left _ hx)
   have hc := hb c (by simp)
   obtain ⟨h0, h1, _⟩ := val_lt W a hba hla
   have e := ih a hba hla (by omega)
   have hp := pow_le8 (W := W) (by omega)
   rw [val_snoc, ← tk_add h0 (by omega) hc.1 hc.2, ← e]
   unfold be; rw [List.foldl_append]; rfl
/-! ### Taking -/
/-- A width. -/
def Wd (W : Int) : Prop := W = 1 ∨ W = 2 ∨ W = 8
instance (W : Int) : Decidable (Wd W) := by unfold Wd; infer_instance
theorem Wd.most {W : Int} (h : Wd W) : 0 < most W := most_pos.2 h
/-- The number at the head, and what is behind it. -/
def takeS (l : List Int) (W : Int) : Option (Int × List Int) :=
 if (l.length : Int) < W then none else if most W < val (l.take W.toNat) then none else some (val (l.take W.toNat), l.drop W.toNat)
theorem take_bad {l : List Int} {W : Int} (h : ¬ Wd W) : num_Take.f l W = some (0, [], 1) := by
 unfold num_Take.f; rw [if_pos (fun hm => h (most_pos.1 hm))]
theorem take_good {l : List Int} {W : Int} (h : Wd W) (hb : By l) : num_Take.f l W = match takeS l W with | none => some (0, [], 2) | some (n, r) => some (n, r, 0) := by
 unfold num_Take.f takeS
 rw [if_neg (fun hm => hm h.most)]
 by_cases hl : (l.length : Int) < W
 ·
  rw [if_pos hl, if_pos hl]
 ·
  rw [if_neg hl, if_neg hl]
  have hW : W.toNat ≤ 8 ∧ 1 ≤ W.toNat := by rcases h with rfl | rfl | rfl <;> decide
  have hlen : (l.take W.toNat).length = W.toNat := by rw [List.length_take]; omega
  rw [be_val W.toNat _ (hb.take _) hlen hW.1]
  split <;> rfl
/-! ### Fitting and putting -/
/-- A number fits a width. -/
def Ft (n W : Int) : Prop := Wd W ∧ 0 ≤ n ∧ n ≤ most W
instance (n W : Int) : Decidable (Ft n W) := by unfold Ft Wd; infer_instance
theorem fits_is (n W : Int) : num_Fits.f n W = some (decide (Ft n W)) := by
 unfold num_Fits.f
 congr 1
 rw [Bool.eq_iff_iff, decide_eq_true_iff, decide_eq_true_iff, most_pos]
 exact Iff.rfl
theorem most_lt {W : Int} (h : Wd W) : most W < 256 ^ W.toNat ∧ most W ≤ 4611686018427387904 ∧ 255 ≤ most W := by
 rcases h with rfl | rfl | rfl <;> decide
theorem Wd.nat {W : Int} (h : Wd W) : ∃ V : Nat, W = V ∧ 1 ≤ V ∧ V ≤ 8 := by
 rcases h with rfl | rfl | rfl
 ·
  exact ⟨1, rfl, by omega, by omega⟩
 ·
  exact ⟨2, rfl, by omega, by omega⟩
 ·
  exact ⟨8, rfl, by omega, by omega⟩
theorem shr_pow (n : Int) (j : Nat) (hj : j ≤ 7) : shr .i64 n (8 * (j : Int)) = n / 256 ^ j := by
 unfold shr
 rw [show (8 * (j : Int)).toNat = 8 * j by omega, show min (8 * j) (IntKind.i64.bits) = 8 * j by simp only [IntKind.bits]; omega, Int.pow_mul]
 rfl
theorem put_loop (W : Nat) (hW1 : 1 ≤ W) (hW : W ≤ 8) (n : Int) (d : Nat) :
  ∀ (k i : Nat), i + d = W → d < k → num_Put.l0 k n W ((enc W n).take i ++ List.replicate d 0) W i = some (enc W n) := by
 induction d with
 | zero =>
  intro k i hi hk
  obtain ⟨k, rfl⟩ : ∃ m, k = m + 1 := ⟨k - 1, by omega⟩
  simp only [num_Put.l0]
  rw [if_neg (by omega), List.take_of_length_le (by rw [enc_length]; omega)]
  simp
 | succ d ih =>
  intro k i hi hk
  obtain ⟨k, rfl⟩ : ∃ m, k = m + 1 := ⟨k - 1, by omega⟩
  have hE := enc_length W n
  simp only [num_Put.l0]
  rw [if_pos (by omega), wrap_id (x := (W : Int) - 1) (by omega) (by omega), wrap_id (x := (W : Int) - 1 - i) (by omega) (by omega), wrap_id (x := 8 * ((W : Int) - 1 - i)) (by omega) (by omega), if_pos (by omega), if_pos (by omega),
   if_pos (by simp [hE]; omega), wrap_id (x := (i : Int) + 1) (by omega) (by omega)]
  rw [show ((W : Int) - 1 - i) = ((W - 1 - i : Nat) : Int) by omega, shr_pow _ _ (by omega), ← enc_get W n i (by omega), Int.toNat_natCast]
  have hset : ((enc W n).take i ++ List.replicate (d + 1) 0).set i ((enc W n).getD i 0) = (enc W n).take (i + 1) ++ List.replicate d 0 := by
   rw [List.set_append_right _ _ (by rw [List.length_take]; omega), List.length_take, Nat.min_eq_left (by omega), Nat.sub_self, List.replicate_succ, List.set_cons_zero, List.take_succ_eq_append_getElem (by omega), List.getD_eq_getElem?_getD, List.getElem?_eq_getElem (by omega), List.append_assoc, List.singleton_append]
   rfl
  rw [hset]
  exact ih k (i + 1) (by omega) (by omega)
theorem put_bad {n W : Int} (h : ¬ Ft n W) (k : Nat) : num_Put.f k n W = some [] := by
 unfold num_Put.f
 rw [fits_is, decide_eq_false h]
 rfl
theorem put_good {n W : Int} (h : Ft n W) {k : Nat} (hk : 9 ≤ k) : num_Put.f k n W = some (enc W.toNat n) := by
 unfold num_Put.f
 rw [fits_is, decide_eq_true h]
 obtain ⟨V, rfl, h1, h8⟩ := h.1.nat
 simp only [Option.bind_some, if_true]
 rw [if_pos (by omega), if_pos (by omega), Int.toNat_natCast, List.length_replicate]
 exact put_loop V h1 h8 n V k 0 (by omega) (by omega)
/-- A row's bytes. -/
def flat (W : Int) (l : List Int) : List Int := l.flatMap (enc W.toNat)
theorem flat_cons (W x : Int) (l : List Int) : flat W (x :: l) = enc W.toNat x ++ flat W l := rfl
theorem flat_length (W : Int) (l : List Int) : (flat W l).length = W.toNat * l.length := by
 induction l with
 | nil => rfl
 | cons x l ih => rw [flat_cons, List.length_append, enc_length, ih, List.length_cons, Nat.mul_add]; omega
theorem rd_mid (a : List Int) (x : Int) (b : List Int) : rd (a ++ x :: b) (a.length : Int) = x := by
 unfold rd; simp
/-- All of them fit. -/
def Fa (l : List Int) (W : Int) : Prop := ∀ x ∈ l, Ft x W
instance (l : List Int) (W : Int) : Decidable (Fa l W) := by unfold Fa; infer_instance
theorem putrow_loop (W : Int) (b : List Int) : ∀ (k : Nat) (a acc : List Int), acc.length + 8 * b.length < 140737488355328 → a.length + b.length < 140737488355328 → b.length + 10 ≤ k →
  num_PutRow.l0 k W acc (a ++ b) ((a ++ b).length : Int) a.length = some (if Fa b W then acc ++ flat W b else []) := by
 induction b with
 | nil =>
  intro k a acc h1 h2 hk
  obtain ⟨k, rfl⟩ : ∃ m, k = m + 1 := ⟨k - 1, by omega⟩
  simp only [num_PutRow.l0]
  rw [if_neg (by simp), if_pos (show Fa [] W from fun x hx => by cases hx)]
  simp [flat]
 | cons x b ih =>
  intro k a acc h1 h2 hk
  simp only [List.length_cons] at h1 h2 hk
  obtain ⟨k, rfl⟩ : ∃ m, k = m + 1 := ⟨k - 1, by omega⟩
  simp only [num_PutRow.l0]
  rw [if_pos (by simp; omega), if_pos (by omega), if_pos (by simp; omega), rd_mid, fits_is]
  simp only [Option.bind_some]
  by_cases hx : Ft x W
  ·
   have hl : (enc W.toNat x).length ≤ 8 := by obtain ⟨V, rfl, _, _⟩ := hx.1.nat; rw [enc_length]; omega
   rw [decide_eq_true hx, if_pos rfl, put_good hx (by omega)]
   simp only [Option.bind_some]
   rw [if_pos (by omega), wrap_id (by omega) (by omega)]
   have := ih k (a ++ [x]) (acc ++ enc W.toNat x) (by rw [List.length_append]; omega) (by simp; omega) (by omega)
   rw [List.append_assoc, List.singleton_append, show ((a ++ [x]).length : Int) = (a.length : Int) + 1 by simp] at this
   rw [this]
   by_cases hb : Fa b W
   ·
    rw [if_pos hb, if_pos (show Fa (x :: b) W from fun y hy => (List.mem_cons.1 hy).elim (fun h => h ▸ hx) (hb y)), flat_cons, List.append_assoc]
   ·
    rw [if_neg hb, if_neg (fun h : Fa (x :: b) W => hb (fun y hy => h y (List.mem_cons_of_mem _ hy)))]
  ·
   rw [decide_eq_false hx, if_neg (by decide), if_neg (fun h : Fa (x :: b) W => hx (h x (List.mem_cons_self ..)))]
theorem putrow_is {W : Int} {l : List Int} {k : Nat} (hl : l.length < 10000) (hk : l.length + 10 ≤ k) : num_PutRow.f k l W = some (if Fa l W then flat W l else []) := by
 have := putrow_loop W l k [] [] (by simp; omega) (by simp; omega) hk
 simpa [num_PutRow.f] using this
/-! ### Taking rows -/
/-- The row at the head, and what is behind it. -/
def rowS (W : Int) : Nat → List Int → Option (List Int × List Int)
 | 0, l => some ([], l)
 | m + 1, l => match takeS l W with
  | none => none
  | some (n, r) => match rowS W m r with
   | none => none
   | some (xs, q) => some (n :: xs, q)
theorem takeS_some {l r : List Int} {W n : Int} (hW : Wd W) (h : takeS l W = some (n, r)) : l = l.take W.toNat ++ r ∧ r = l.drop W.toNat ∧ (W : Int) ≤ l.length ∧ n = val (l.take W.toNat) ∧ n ≤ most W := by
 unfold takeS at h
 split at h
 ·
  cases h
 ·
  split at h
  ·
   cases h
  ·
   simp only [Option.some.injEq, Prod.mk.injEq] at h
   obtain ⟨rfl, rfl⟩ := h
   exact ⟨(List.take_append_drop ..).symm, rfl, by omega, rfl, by omega⟩
theorem takerow_loop {W : Int} (hW : Wd W) : ∀ (L k : Nat) (l acc : List Int) (m i : Int), By l → l.length ≤ L → L + 2 ≤ k → acc.length + L < 17592186044416 → 0 ≤ i → i ≤ m → m ≤ 9223372036854775807 →
  num_TakeRow.l0 k l W acc m i = match rowS W (m - i).toNat l with | none => some ([], [], 2) | some (xs, r) => some (acc ++ xs, r, 0) := by
 intro L
 induction L with
 | zero =>
  intro k l acc m i hb hl hk ha h0 him hm
  obtain ⟨k, rfl⟩ : ∃ q, k = q + 1 := ⟨k - 1, by omega⟩
  simp only [num_TakeRow.l0]
  by_cases hlt : i < m
  ·
   obtain ⟨d, hd⟩ : ∃ d, (m - i).toNat = d + 1 := ⟨(m - i).toNat - 1, by omega⟩
   rw [if_pos hlt, take_good hW hb, hd]
   have hn : takeS l W = none := by
    unfold takeS; rw [if_pos]; rcases hW with rfl | rfl | rfl <;> omega
   simp only [hn, rowS, Option.bind_some]
   rw [if_neg (by decide)]
  ·
   rw [if_neg hlt, show (m - i).toNat = 0 by omega]
   simp [rowS]
 | succ L ih =>
  intro k l acc m i hb hl hk ha h0 him hm
  obtain ⟨k, rfl⟩ : ∃ q, k = q + 1 := ⟨k - 1, by omega⟩
  simp only [num_TakeRow.l0]
  by_cases hlt : i < m
  ·
   obtain ⟨d, hd⟩ : ∃ d, (m - i).toNat = d + 1 := ⟨(m - i).toNat - 1, by omega⟩
   rw [if_pos hlt, take_good hW hb, hd]
   rcases hn : takeS l W with _ | ⟨n, r⟩
   ·
    simp only [hn, rowS, Option.bind_some]
    rw [if_neg (by decide)]
   ·
    obtain ⟨_, hr, hlen, _, _⟩ := takeS_some hW hn
    have hrl : r.length ≤ L := by rw [hr, List.length_drop]; rcases hW with rfl | rfl | rfl <;> simp <;> omega
    simp only [hn, rowS, Option.bind_some]
    rw [if_pos trivial, if_pos (by omega), wrap_id (by omega) (by omega), ih k r (acc ++ [n]) m (i + 1) (hr ▸ hb.drop _) hrl (by omega) (by simp; omega) (by omega) (by omega) hm, show (m - (i + 1)).toNat = d by omega]
    rcases rowS W d r with _ | ⟨xs, q⟩
    ·
     rfl
    ·
     simp
  ·
   rw [if_neg hlt, show (m - i).toNat = 0 by omega]
   simp [rowS]
theorem takerow_bad {W m : Int} (h : ¬ (Wd W ∧ 0 ≤ m)) (l : List Int) {k : Nat} (hk : 1 ≤ k) : num_TakeRow.f k l m W = some ([], [], 1) := by
 obtain ⟨k, rfl⟩ : ∃ q, k = q + 1 := ⟨k - 1, by omega⟩
 unfold num_TakeRow.f num_width.f
 simp only [Option.bind_some]
 by_cases hW : Wd W
 ·
  rw [decide_eq_true hW.most, if_pos rfl, decide_eq_true (show m < 0 from Decidable.byContradiction fun hm => h ⟨hW, by omega⟩)]
  simp [num_TakeRow.j0]
 ·
  rw [decide_eq_false (fun hm => hW (most_pos.1 hm)), if_neg (by decide)]
  simp [num_TakeRow.j0]
theorem takerow_good {W m : Int} {l : List Int} {k : Nat} (hW : Wd W) (h0 : 0 ≤ m) (hm : m ≤ 9223372036854775807) (hb : By l) (hl : l.length < 10000) (hk : l.length + 3 ≤ k) :
  num_TakeRow.f k l m W = match rowS W m.toNat l with | none => some ([], [], 2) | some (xs, r) => some (xs, r, 0) := by
 obtain ⟨k, rfl⟩ : ∃ q, k = q + 1 := ⟨k - 1, by omega⟩
 unfold num_TakeRow.f num_width.f
 simp only [Option.bind_some]
 rw [decide_eq_true hW.most, if_pos rfl, decide_eq_false (by omega)]
 simp only [num_TakeRow.j0, Bool.false_eq_true, if_false]
 have := takerow_loop hW l.length k l [] m 0 hb (Nat.le_refl _) (by omega) (by simp; omega) (by omega) h0 hm
 rw [this, Int.sub_zero]
 rfl
/-! ### What is taken is what was put -/
theorem by_of {l : List Int} (h : ∀ y ∈ l, (Lit.int .u8 y).wf = true) : By l := fun c hc => wf_u8 (h c hc)
theorem take_some (l : List Int) (W : Int) : ∃ p, num_Take.f l W = some p := by
 unfold num_Take.f
 repeat' split
 all_goals exact ⟨_, rfl⟩
theorem takeS_enc {n W : Int} (h : Ft n W) (r : List Int) : takeS (enc W.toNat n ++ r) W = some (n, r) := by
 have hm := most_lt h.1
 have h2 := h.2
 obtain ⟨V, rfl, h1, h8⟩ := h.1.nat
 rw [Int.toNat_natCast] at hm ⊢
 unfold takeS
 rw [if_neg (by rw [List.length_append, enc_length]; omega), Int.toNat_natCast, List.take_append_of_le_length (by rw [enc_length]; omega), List.take_of_length_le (by rw [enc_length]; omega), val_enc V n h2.1 (by omega), if_neg (by omega)]
 rw [List.drop_append_of_le_length (by rw [enc_length]; omega), List.drop_of_length_le (by rw [enc_length]; omega), List.nil_append]
theorem takeS_is {l r : List Int} {W n : Int} (hW : Wd W) (hb : By l) (h : takeS l W = some (n, r)) : Ft n W ∧ l = enc W.toNat n ++ r ∧ By r := by
 obtain ⟨h1, h2, h3, rfl, h5⟩ := takeS_some hW h
 obtain ⟨V, rfl, _, _⟩ := hW.nat
 rw [Int.toNat_natCast] at *
 have hv := val_lt V (l.take V) (hb.take _) (by rw [List.length_take]; omega)
 refine ⟨⟨hW, hv.1, h5⟩, ?_, by rw [h2]; exact hb.drop _⟩
 rw [hv.2.2]; exact h1
theorem rowS_is {W : Int} (hW : Wd W) : ∀ (m : Nat) (l xs r : List Int), By l → rowS W m l = some (xs, r) → xs.length = m ∧ Fa xs W ∧ l = flat W xs ++ r ∧ By r := by
 intro m
 induction m with
 | zero =>
  intro l xs r hb h
  simp only [rowS, Option.some.injEq, Prod.mk.injEq] at h
  obtain ⟨rfl, rfl⟩ := h
  exact ⟨rfl, (show Fa [] W from fun x hx => by cases hx), rfl, hb⟩
 | succ m ih =>
  intro l xs r hb h
  rw [rowS] at h
  rcases hn : takeS l W with _ | ⟨n, q⟩
  ·
   rw [hn] at h; cases h
  ·
   obtain ⟨f1, f2, f3⟩ := takeS_is hW hb hn
   rw [hn] at h
   simp only at h
   rcases hr : rowS W m q with _ | ⟨ys, s⟩
   ·
    rw [hr] at h; cases h
   ·
    rw [hr] at h
    simp only [Option.some.injEq, Prod.mk.injEq] at h
    obtain ⟨rfl, rfl⟩ := h
    obtain ⟨g1, g2, g3, g4⟩ := ih q ys s f3 hr
    exact ⟨by simp [g1], fun y hy => (List.mem_cons.1 hy).elim (fun h => h ▸ f1) (g2 y), by rw [f2, g3, flat_cons, List.append_assoc], g4⟩
theorem rowS_flat {W : Int} : ∀ (xs r : List Int), Fa xs W → rowS W xs.length (flat W xs ++ r) = some (xs, r) := by
 intro xs
 induction xs with
 | nil => intro r h; rfl
 | cons x xs ih =>
  intro r h
  rw [List.length_cons, rowS, flat_cons, List.append_assoc, takeS_enc (h x (List.mem_cons_self ..))]
  simp only
  rw [ih r (fun y hy => h y (List.mem_cons_of_mem _ hy))]
theorem flat_by (W : Int) (l : List Int) : By (flat W l) := fun c hc => by
 obtain ⟨x, _, hx⟩ := List.mem_flatMap.1 hc
 exact enc_by _ _ c hx
theorem takerow_some {W m : Int} {l : List Int} {k : Nat} (hm : m ≤ 9223372036854775807) (hb : By l) (hl : l.length < 10000) (hk : l.length + 3 ≤ k) : ∃ q, num_TakeRow.f k l m W = some q ∧ q.1.length ≤ l.length := by
 by_cases h : Wd W ∧ 0 ≤ m
 ·
  rw [takerow_good h.1 h.2 hm hb hl hk]
  rcases hr : rowS W m.toNat l with _ | ⟨xs, r⟩
  ·
   exact ⟨_, rfl, Nat.zero_le _⟩
  ·
   refine ⟨_, rfl, ?_⟩
   obtain ⟨h1, h2, h3, _⟩ := rowS_is h.1 _ l xs r hb hr
   obtain ⟨V, rfl, hV, _⟩ := h.1.nat
   rw [h3, List.length_append, flat_length]
   rw [Int.toNat_natCast]
   have := Nat.le_mul_of_pos_left xs.length (show 0 < V by omega)
   simp only; omega
 ·
  rw [takerow_bad h l (by omega)]
  exact ⟨_, rfl, Nat.zero_le _⟩
/-- The width that is told by a byte. -/
theorem wide {x : Int} (h0 : 0 ≤ x) : 0 ≤ Int.tmod x 3 ∧ Int.tmod x 3 < 3 ∧ Wd (rd [1, 2, 8] (Int.tmod x 3)) := by
 rw [Int.tmod_eq_emod_of_nonneg h0]
 have h1 := Int.emod_nonneg x (show (3 : Int) ≠ 0 by omega)
 have h2 := Int.emod_lt_of_pos x (show (0 : Int) < 3 by omega)
 refine ⟨h1, h2, ?_⟩
 have : x % 3 = 0 ∨ x % 3 = 1 ∨ x % 3 = 2 := by omega
 rcases this with h | h | h <;> rw [h] <;> decide
/-! ### The order of bytes -/
end Go.Proofs.YtieolhhokepkjaaDoor.NumPlain
namespace Go.Proofs.YtieolhhokepkjaaDoor.NumPlain
set_option linter.unusedVariables false
set_option linter.unusedSimpArgs false
open Go.RowKit Go.Proofs.YtieolhhokepkjaaDoor.Print
open Go.Proofs.YtieolhhokepkjaaDoorW.PrintWords Go.Proofs.YtieolhhokepkjaaDoorW.PrintLast Go.Proofs.YtieolhhokepkjaaDoorW.PrintMore
/-! ### The document's -/
theorem same_loop (b : List Int) : ∀ (k : Nat) (a c d : List Int), a.length = c.length → b.length = d.length → a.length + b.length < 100000 → b.length < k →
  precentorref02_Same.l0 k (a ++ b) (c ++ d) a.length = some (decide (b = d)) := by
 induction b with
 | nil =>
  intro k a c d h1 h2 h3 hk
  obtain ⟨k, rfl⟩ : ∃ q, k = q + 1 := ⟨k - 1, by omega⟩
  obtain rfl := List.eq_nil_of_length_eq_zero h2.symm
  simp [precentorref02_Same.l0]
 | cons x b ih =>
  intro k a c d h1 h2 h3 hk
  simp only [List.length_cons] at h2 h3 hk
  obtain ⟨k, rfl⟩ : ∃ q, k = q + 1 := ⟨k - 1, by omega⟩
  obtain ⟨y, d, rfl⟩ := List.exists_cons_of_length_eq_add_one h2.symm
  simp only [List.length_cons] at h2
  simp only [precentorref02_Same.l0]
  rw [if_pos (by simp; omega), if_pos (by omega), if_pos (by simp; omega), rd_mid, show ((a.length : Nat) : Int) = ((c.length : Nat) : Int) by rw [h1], rd_mid, ← h1, wrap_id (by omega) (by omega)]
  by_cases hxy : x = y
  ·
   subst hxy
   have := ih k (a ++ [x]) (c ++ [x]) d (by simp; omega) (by omega) (by simp; omega) (by omega)
   rw [List.append_assoc, List.append_assoc, List.singleton_append, List.singleton_append, show ((a ++ [x]).length : Int) = (a.length : Int) + 1 by simp] at this
   rw [if_pos rfl, this]; simp
  ·
   rw [if_neg hxy]; simp [hxy]
theorem same_is {a b : List Int} {k : Nat} (hl : a.length < 10000) (hk : a.length < k) : precentorref02_Same.f k a b = some (decide (a = b)) := by
 unfold precentorref02_Same.f
 by_cases h : (a.length : Int) = b.length
 ·
  rw [if_pos h]
  exact same_loop a k [] [] b rfl (by omega) (by simp; omega) hk
 ·
  rw [if_neg h]
  congr 1
  exact (decide_eq_false (fun he => h (by rw [he]))).symm
theorem rmost_is (W : Int) : precentorref02_most.f W = some (if Wd W then most W else -1) := by
 unfold precentorref02_most.f most Wd
 repeat' split
 all_goals first | rfl | (exfalso; omega)
theorem rfits_is (n W : Int) : precentorref02_Fits.f n W = some (decide (Ft n W)) := by
 unfold precentorref02_Fits.f
 rw [rmost_is]
 by_cases h0 : n ≥ 0
 ·
  rw [if_pos h0]
  simp only [Option.bind_some]
  congr 1
  rw [Bool.eq_iff_iff, decide_eq_true_iff, decide_eq_true_iff]
  unfold Ft
  split <;> constructor
  ·
   intro h; exact ⟨by assumption, h0, h⟩
  ·
   intro h; exact h.2.2
  ·
   intro h; omega
  ·
   intro h; exact absurd h.1 (by assumption)
 ·
  rw [if_neg h0, decide_eq_false (fun h : Ft n W => h0 h.2.1)]
theorem rput_loop (W : Nat) : ∀ (k : Nat) (n : Int) (t : List Int), W ≤ 8 → 0 ≤ n → n ≤ 9223372036854775807 → W < k → precentorref02_Put.l0 k n (List.replicate W 0 ++ t) ((W : Int) - 1) = some (enc W n ++ t) := by
 induction W with
 | zero =>
  intro k n t h8 h0 hn hk
  obtain ⟨k, rfl⟩ : ∃ q, k = q + 1 := ⟨k - 1, by omega⟩
  simp [precentorref02_Put.l0, enc]
 | succ W ih =>
  intro k n t h8 h0 hn hk
  obtain ⟨k, rfl⟩ : ∃ q, k = q + 1 := ⟨k - 1, by omega⟩
  simp only [precentorref02_Put.l0]
  rw [if_pos (by omega), if_pos (by omega), if_pos (by simp; omega), Int.tdiv_eq_ediv_of_nonneg h0, Int.tmod_eq_emod_of_nonneg h0, wrap_id (x := n / 256) (by omega) (by omega), show ((W + 1 : Nat) : Int) - 1 = (W : Int) by omega, wrap_id (x := (W : Int) - 1) (by omega) (by omega), Int.toNat_natCast, Int.emod_emod_of_dvd _ (Int.dvd_refl 256)]
  have hset : (List.replicate (W + 1) 0 ++ t).set W (n % 256) = List.replicate W 0 ++ (n % 256 :: t) := by
   rw [List.replicate_succ', List.append_assoc, List.set_append_right _ _ (by simp)]
   simp
  rw [hset, ih k (n / 256) _ (by omega) (by omega) (by omega) (by omega), enc]
  simp
theorem rput_is {n W : Int} {k : Nat} (hk : 9 ≤ k) : precentorref02_Put.f k n W = num_Put.f k n W := by
 by_cases h : Ft n W
 ·
  rw [put_good h hk]
  unfold precentorref02_Put.f
  rw [rfits_is, decide_eq_true h]
  have hm := most_lt h.1
  have h2 := h.2
  obtain ⟨V, rfl, h1, h8⟩ := h.1.nat
  simp only [Option.bind_some, if_true]
  rw [if_pos (by omega), if_pos (by omega), Int.toNat_natCast, wrap_id (by omega) (by omega)]
  have := rput_loop V k n [] h8 h2.1 (by omega) (by omega)
  simpa using this
 ·
  rw [put_bad h]
  unfold precentorref02_Put.f
  rw [rfits_is, decide_eq_false h]
  rfl
theorem take_snoc {l : List Int} {i : Nat} (h : i < l.length) : l.take (i + 1) = l.take i ++ [rd l i] := by
 rw [List.take_succ_eq_append_getElem h]
 unfold rd
 rw [Int.toNat_natCast, List.getD_eq_getElem?_getD, List.getElem?_eq_getElem h]
 rfl
theorem rtake_loop {l : List Int} (hb : By l) (W : Nat) (hW : Wd W) (hl : W ≤ l.length) (hl2 : l.length < 10000) (d : Nat) : ∀ (k i : Nat), i + d = W → d < k →
  precentorref02_Take.l0 k l W (val (l.take i)) i = if most W < val (l.take W) then some (0, [], 2) else some (val (l.take W), l.drop W, 0) := by
 have hm := most_lt hW
 induction d with
 | zero =>
  intro k i hi hk
  obtain ⟨k, rfl⟩ : ∃ q, k = q + 1 := ⟨k - 1, by omega⟩
  obtain rfl : i = W := by omega
  have hv := val_lt i (l.take i) (hb.take _) (by rw [List.length_take]; omega)
  simp only [precentorref02_Take.l0]
  rw [if_neg (by omega), rmost_is, if_pos hW]
  simp only [Option.bind_some]
  rw [u64_wrap, Int.emod_eq_of_lt (by omega) (by omega)]
  by_cases hgt : most i < val (l.take i)
  ·
   rw [if_pos hgt, if_pos hgt]
  ·
   rw [if_neg hgt, if_neg hgt, if_pos (by omega), if_pos (by omega), if_pos (by simp; omega), wrap_id (by omega) (by omega), Int.toNat_natCast]
   rfl
 | succ d ih =>
  intro k i hi hk
  obtain ⟨k, rfl⟩ : ∃ q, k = q + 1 := ⟨k - 1, by omega⟩
  have hW8 : W ≤ 8 := by obtain ⟨V, hV, _, h8⟩ := hW.nat; omega
  have hv := val_lt i (l.take i) (hb.take _) (by rw [List.length_take]; omega)
  have hp := pow_le8 (W := i) (by omega)
  have hc : 0 ≤ rd l i ∧ rd l i ≤ 255 := by
   unfold rd
   rw [Int.toNat_natCast, List.getD_eq_getElem?_getD, List.getElem?_eq_getElem (show i < l.length by omega)]
   exact hb _ (List.getElem_mem _)
  simp only [precentorref02_Take.l0]
  rw [if_pos (by omega), if_pos (by omega), if_pos (by omega), u64_wrap, u64_wrap, u64_wrap, Int.emod_eq_of_lt (a := 256 * _) (by omega) (by omega), Int.emod_eq_of_lt (a := rd l i) (by omega) (by omega), Int.emod_eq_of_lt (by omega) (by omega), wrap_id (by omega) (by omega)]
  have := ih k (i + 1) (by omega) (by omega)
  rw [take_snoc (by omega), val_snoc] at this
  rw [show 256 * val (l.take i) + rd l i = val (l.take i) * 256 + rd l i by omega]
  exact this
theorem rtake_is {l : List Int} (hb : By l) (hl : l.length < 10000) (W : Int) {k : Nat} (hk : 10 ≤ k) : precentorref02_Take.f k l W = num_Take.f l W := by
 unfold precentorref02_Take.f
 rw [rmost_is]
 simp only [Option.bind_some]
 by_cases hW : Wd W
 ·
  have hm := most_lt hW
  rw [if_pos hW, if_neg (by omega), take_good hW hb]
  unfold takeS
  by_cases hlt : (l.length : Int) < W
  ·
   rw [if_pos hlt, if_pos hlt]
  ·
   rw [if_neg hlt, if_neg hlt]
   obtain ⟨V, rfl, h1, h8⟩ := hW.nat
   have := rtake_loop hb V hW (by omega) hl V k 0 (by omega) (by omega)
   rw [Int.toNat_natCast]
   rw [show precentorref02_Take.l0 k l (V : Int) 0 0 = precentorref02_Take.l0 k l (V : Int) (val (l.take 0)) ((0 : Nat) : Int) from rfl, this]
   split <;> rfl
 ·
  rw [if_neg hW, if_pos (by decide), take_bad hW]
theorem rowS_none {W : Int} (hW : Wd W) : ∀ (m : Nat) (l : List Int), (l.length : Int) < W * m → rowS W m l = none := by
 intro m
 induction m with
 | zero => intro l h; simp at h; omega
 | succ m ih =>
  intro l h
  rw [rowS]
  rcases hn : takeS l W with _ | ⟨n, r⟩
  ·
   rfl
  ·
   obtain ⟨_, hr, hlen, _, _⟩ := takeS_some hW hn
   have hrl : (r.length : Int) = l.length - W := by
    obtain ⟨V, rfl, _, _⟩ := hW.nat
    rw [hr, List.length_drop]; omega
   simp only
   rw [ih r (by rw [hrl]; rw [Int.natCast_add, Int.mul_add] at h; omega)]
theorem rtakerow_loop {W : Int} (hW : Wd W) : ∀ (L k : Nat) (l acc : List Int) (m i : Int), By l → l.length ≤ L → L < 10000 → L + 12 ≤ k → acc.length + L < 17592186044416 → 0 ≤ i → i ≤ m → m ≤ 9223372036854775807 →
  precentorref02_TakeRow.l0 k m W acc l i = match rowS W (m - i).toNat l with | none => some ([], [], 2) | some (xs, r) => some (acc ++ xs, r, 0) := by
 intro L
 induction L with
 | zero =>
  intro k l acc m i hb hl h10 hk ha h0 him hm
  obtain ⟨k, rfl⟩ : ∃ q, k = q + 1 := ⟨k - 1, by omega⟩
  simp only [precentorref02_TakeRow.l0]
  by_cases hlt : i < m
  ·
   obtain ⟨d, hd⟩ : ∃ d, (m - i).toNat = d + 1 := ⟨(m - i).toNat - 1, by omega⟩
   rw [if_pos hlt, rtake_is hb (by omega) W (by omega), take_good hW hb, hd]
   have hn : takeS l W = none := by
    unfold takeS; rw [if_pos]; rcases hW with rfl | rfl | rfl <;> omega
   simp only [hn, rowS, Option.bind_some]
   rw [if_neg (by decide)]
  ·
   rw [if_neg hlt, show (m - i).toNat = 0 by omega]
   simp [rowS]
 | succ L ih =>
  intro k l acc m i hb hl h10 hk ha h0 him hm
  obtain ⟨k, rfl⟩ : ∃ q, k = q + 1 := ⟨k - 1, by omega⟩
  simp only [precentorref02_TakeRow.l0]
  by_cases hlt : i < m
  ·
   obtain ⟨d, hd⟩ : ∃ d, (m - i).toNat = d + 1 := ⟨(m - i).toNat - 1, by omega⟩
   rw [if_pos hlt, rtake_is hb (by omega) W (by omega), take_good hW hb, hd]
   rcases hn : takeS l W with _ | ⟨n, r⟩
   ·
    simp only [hn, rowS, Option.bind_some]
    rw [if_neg (by decide)]
   ·
    obtain ⟨_, hr, hlen, _, _⟩ := takeS_some hW hn
    have hrl : r.length ≤ L := by rw [hr, List.length_drop]; rcases hW with rfl | rfl | rfl <;> simp <;> omega
    simp only [hn, rowS, Option.bind_some]
    rw [if_pos trivial, if_pos (by omega), wrap_id (by omega) (by omega), ih k r (acc ++ [n]) m (i + 1) (hr ▸ hb.drop _) hrl (by omega) (by omega) (by simp; omega) (by omega) (by omega) hm, show (m - (i + 1)).toNat = d by omega]
    rcases rowS W d r with _ | ⟨xs, q⟩
    ·
     rfl
    ·
     simp
  ·
   rw [if_neg hlt, show (m - i).toNat = 0 by omega]
   simp [rowS]
theorem rtakerow_is {l : List Int} (hb : By l) (hl : l.length < 5000) {m : Int} (hm : m ≤ 9223372036854775807) (W : Int) {k : Nat} (hk : l.length + 20 ≤ k) :
  precentorref02_TakeRow.f k l m W = num_TakeRow.f k l m W := by
 obtain ⟨k, rfl⟩ : ∃ q, k = q + 2 := ⟨k - 2, by omega⟩
 unfold precentorref02_TakeRow.f
 rw [rmost_is]
 simp only [Option.bind_some]
 by_cases hW : Wd W
 ·
  have hm1 := most_lt hW
  rw [if_pos hW, if_neg (by omega)]
  by_cases h0 : 0 ≤ m
  ·
   rw [takerow_good hW h0 hm hb (by omega) (by omega), decide_eq_false (by omega)]
   obtain ⟨V, rfl, h1, h8⟩ := hW.nat
   have hdiv : 0 ≤ (l.length : Int) / V ∧ (l.length : Int) / V ≤ l.length := ⟨Int.ediv_nonneg (by omega) (by omega), Int.ediv_le_self _ (by omega)⟩
   simp only [precentorref02_TakeRow.j0, Bool.false_eq_true, if_false]
   rw [if_neg (by omega), wrap_id (x := (l.length : Int) / V) (by omega) (by omega), wrap_id (by omega) (by omega)]
   have key : ∀ m' : Int, 0 ≤ m' → m' ≤ 9223372036854775807 → precentorref02_TakeRow.j1 (k + 1) l m' (V : Int) = match rowS V m'.toNat l with | none => some ([], [], 2) | some (xs, r) => some (xs, r, 0) := by
    intro m' h0' hm'
    simp only [precentorref02_TakeRow.j1, Option.bind_some]
    rw [if_pos (by simp; omega)]
    have := rtakerow_loop hW l.length k l [] m' 0 hb (Nat.le_refl _) (by omega) (by omega) (by simp; omega) (by omega) h0' hm'
    rw [List.nil_append, this, Int.sub_zero]
    rfl
   by_cases hgt : m > (l.length : Int) / V
   ·
    rw [if_pos hgt, key _ (by omega) (by omega)]
    have hlt : (l.length : Int) < V * ((l.length : Int) / V + 1) := by
     have e1 := Int.mul_ediv_add_emod (l.length : Int) V
     have e2 := Int.emod_lt_of_pos (l.length : Int) (show (0 : Int) < V by omega)
     rw [Int.mul_add]; omega
    rw [rowS_none hW _ l (by rw [Int.toNat_of_nonneg (by omega)]; exact hlt), rowS_none hW _ l (by
     rw [Int.toNat_of_nonneg h0]
     exact Int.lt_of_lt_of_le hlt (Int.mul_le_mul_of_nonneg_left (by omega) (by omega)))]
   ·
    rw [if_neg hgt, key _ h0 hm]; all_goals rfl
  ·
   rw [takerow_bad (fun h => h0 h.2) l (by omega), decide_eq_true (by omega)]
   simp [precentorref02_TakeRow.j0]
 ·
  rw [if_neg hW, if_pos (by decide), takerow_bad (fun h => hW h.1) l (by omega)]
  simp [precentorref02_TakeRow.j0]
theorem rputrow_loop (W : Int) (b : List Int) : ∀ (k : Nat) (a acc : List Int), acc.length + 8 * b.length < 140737488355328 → a.length + b.length < 140737488355328 → b.length + 10 ≤ k →
  precentorref02_PutRow.l0 k (a ++ b) W acc a.length = some (if Fa b W then acc ++ flat W b else []) := by
 induction b with
 | nil =>
  intro k a acc h1 h2 hk
  obtain ⟨k, rfl⟩ : ∃ m, k = m + 1 := ⟨k - 1, by omega⟩
  simp only [precentorref02_PutRow.l0]
  rw [if_neg (by simp), if_pos (show Fa [] W from fun x hx => by cases hx)]
  simp [flat]
 | cons x b ih =>
  intro k a acc h1 h2 hk
  simp only [List.length_cons] at h1 h2 hk
  obtain ⟨k, rfl⟩ : ∃ m, k = m + 1 := ⟨k - 1, by omega⟩
  simp only [precentorref02_PutRow.l0]
  rw [if_pos (by simp; omega), if_pos (by omega), rd_mid, rfits_is]
  simp only [Option.bind_some]
  by_cases hx : Ft x W
  ·
   have hl : (enc W.toNat x).length ≤ 8 := by obtain ⟨V, rfl, _, _⟩ := hx.1.nat; rw [enc_length]; omega
   rw [decide_eq_true hx, if_pos rfl, rput_is (by omega), put_good hx (by omega)]
   simp only [Option.bind_some]
   rw [if_pos (by omega), wrap_id (by omega) (by omega)]
   have := ih k (a ++ [x]) (acc ++ enc W.toNat x) (by rw [List.length_append]; omega) (by simp; omega) (by omega)
   rw [List.append_assoc, List.singleton_append, show ((a ++ [x]).length : Int) = (a.length : Int) + 1 by simp] at this
   rw [this]
   by_cases hb : Fa b W
   ·
    rw [if_pos hb, if_pos (show Fa (x :: b) W from fun y hy => (List.mem_cons.1 hy).elim (fun h => h ▸ hx) (hb y)), flat_cons, List.append_assoc]
   ·
    rw [if_neg hb, if_neg (fun h : Fa (x :: b) W => hb (fun y hy => h y (List.mem_cons_of_mem _ hy)))]
  ·
   rw [decide_eq_false hx, if_neg (by decide), if_neg (fun h : Fa (x :: b) W => hx (h x (List.mem_cons_self ..)))]
theorem rputrow_is {W : Int} {l : List Int} {k : Nat} (hl : l.length < 10000) (hk : l.length + 10 ≤ k) : precentorref02_PutRow.f k l W = num_PutRow.f k l W := by
 rw [putrow_is hl hk]
 have := rputrow_loop W l k [] [] (by simp; omega) (by simp; omega) hk
 simpa [precentorref02_PutRow.f] using this
end Go.Proofs.YtieolhhokepkjaaDoor.NumPlain
