/- What spoiling, the program's and the document's, comes to in plain Lean. Conditions stand in each lemma. -/
import Derived.Test.YthmgaeecfhmenaaCrc
import Derived.Test.YthmgaeecfhmenaaHand
import Derived.Test.YthmgaeecfhmenaaPrint1
import Derived.Lib.Bytes
namespace Go.Proofs.Ythmgaeecfhmenaa.CrcPlain
set_option linter.unusedVariables false
set_option linter.unusedSimpArgs false
open Go.RowKit Go.Proofs.Ythmgaeecfhmenaa.Print Go.Proofs.Ythmgaeecfhmenaa.Crc
open Go.Proofs.YthmgaeecfhmenaaW.PrintWords Go.Proofs.YthmgaeecfhmenaaW.PrintLast Go.Proofs.YthmgaeecfhmenaaW.PrintMore

theorem wrap_id {x : Int} (h0 : -9223372036854775808 ≤ x) (h : x ≤ 9223372036854775807) : wrap64 x = x := by
  unfold wrap64; omega
theorem wf_u8 {n : Int} (h : (Lit.int .u8 n).wf = true) : 0 ≤ n ∧ n ≤ 255 := by
  simpa [Lit.wf, IntKind.min, IntKind.max, IntKind.bits, IntKind.signed] using h
theorem wf_i64 {n : Int} (h : (Lit.int .i64 n).wf = true) : -9223372036854775808 ≤ n ∧ n ≤ 9223372036854775807 := by
  simpa [Lit.wf, IntKind.min, IntKind.max, IntKind.bits, IntKind.signed] using h
theorem by_of {l : List Int} (h : l.length ≤ maxLen ∧ ∀ y_ ∈ l, (Lit.int .u8 y_).wf = true) : Byt l := fun c hc => by
  have := wf_u8 (h.2 c hc)
  omega
theorem str_eq {l m : List Int} (hl : Byt l) (hm : Byt m) : (strOfNums l).toList = (strOfNums m).toList ↔ l = m := by
  rw [Lib.strOfNums_toList, Lib.strOfNums_toList]
  unfold Lib.bytesOf
  constructor
  · intro h
    induction l generalizing m with
    | nil => cases m; rfl; simp at h
    | cons c l ih =>
      cases m with
      | nil => simp at h
      | cons d m =>
        simp only [List.map_cons, List.cons.injEq] at h
        have h1 := hl c List.mem_cons_self
        have h2 := hm d List.mem_cons_self
        have h3 := congrArg UInt8.toNat h.1
        rw [UInt8.toNat_ofNat', UInt8.toNat_ofNat'] at h3
        rw [show c = d by omega, ih (fun x hx => hl x (List.mem_cons_of_mem _ hx)) (fun x hx => hm x (List.mem_cons_of_mem _ hx)) h.2]
  · intro h; rw [h]
theorem rd_nat (l : List Int) (i : Nat) : rd l (i : Int) = l.getD i 0 := by unfold rd; rw [Int.toNat_natCast]
theorem rd_byt {l : List Int} (h : Byt l) (i : Int) : 0 ≤ rd l i ∧ rd l i < 256 := by
  unfold rd
  rw [List.getD_eq_getElem?_getD]
  cases he : l[i.toNat]? with
  | none => simp
  | some x => exact h x (List.mem_of_getElem? he)

theorem spoil_is {l : List Int} (h : l.length < 140737488355000) (a : Int) (b : List Int) : crc_Spoil.f l a b = some (if 0 ≤ a ∧ a < (l.length : Int) then spo l a.toNat b (spn l a.toNat b) else l) := if_pos h
/-- What spoiling gives, at each place. -/
def spl (l : List Int) (a : Int) (b : List Int) : List Int := if 0 ≤ a ∧ a < (l.length : Int) then spo l a.toNat b (spn l a.toNat b) else l
theorem spl_length (l : List Int) (a : Int) (b : List Int) : (spl l a b).length = l.length := by
  unfold spl; split
  · exact spo_length _ _ _ _
  · rfl
theorem spo_get (l : List Int) (p : Nat) (b : List Int) : ∀ (n i : Nat), p + n ≤ l.length → (spo l p b n).getD i 0 = if p ≤ i ∧ i < p + n then Go.bits .xor .u8 (l.getD i 0) (b.getD (i - p) 0) else l.getD i 0 := by
  intro n
  induction n with
  | zero => intro i _; rw [if_neg (by omega)]; rfl
  | succ n ih =>
    intro i hn
    rw [spo]
    rw [List.getD_eq_getElem?_getD, List.getElem?_set]
    by_cases hi : p + n = i
    · subst hi
      rw [if_pos rfl, if_pos (by rw [spo_length]; omega), Option.getD_some, rd_nat, rd_nat, ih _ (by omega), if_neg (by omega), if_pos (by omega), Nat.add_sub_cancel_left]
    · rw [if_neg hi, ← List.getD_eq_getElem?_getD, ih _ (by omega)]
      by_cases h1 : p ≤ i ∧ i < p + n
      · rw [if_pos h1, if_pos (by omega)]
      · rw [if_neg h1, if_neg (by omega)]
theorem spn_le (l : List Int) (p : Nat) (b : List Int) (hp : p ≤ l.length) : p + spn l p b ≤ l.length ∧ spn l p b ≤ 4 ∧ spn l p b ≤ b.length := by unfold spn; omega
theorem xor_u8 (a b : Nat) (ha : a < 256) (hb : b < 256) : Go.bits .xor .u8 (a : Int) (b : Int) = ((a ^^^ b : Nat) : Int) := by
  have hx : a ^^^ b < 2 ^ 8 := Nat.xor_lt_two_pow (by omega) (by omega)
  have h1 : (BitVec.ofInt 8 (a : Int)).toNat = a := by rw [BitVec.ofInt_natCast, BitVec.toNat_ofNat]; exact Nat.mod_eq_of_lt (by omega)
  have h2 : (BitVec.ofInt 8 (b : Int)).toNat = b := by rw [BitVec.ofInt_natCast, BitVec.toNat_ofNat]; exact Nat.mod_eq_of_lt (by omega)
  show IntKind.u8.wrap ((BitVec.ofInt 8 (a : Int) ^^^ BitVec.ofInt 8 (b : Int)).toNat : Int) = _
  rw [BitVec.toNat_xor, h1, h2, show IntKind.u8.wrap ((a ^^^ b : Nat) : Int) = ((a ^^^ b : Nat) : Int) % 256 by simp [IntKind.wrap, IntKind.bits, IntKind.signed]]
  omega
theorem xor8_nat {x y : Int} (hx : 0 ≤ x ∧ x < 256) (hy : 0 ≤ y ∧ y < 256) : Go.bits .xor .u8 x y = ((x.toNat ^^^ y.toNat : Nat) : Int) := by
  have := xor_u8 x.toNat y.toNat (by omega) (by omega)
  rwa [show ((x.toNat : Nat) : Int) = x by omega, show ((y.toNat : Nat) : Int) = y by omega] at this
theorem xor8_byt {x y : Int} (hx : 0 ≤ x ∧ x < 256) (hy : 0 ≤ y ∧ y < 256) : 0 ≤ Go.bits .xor .u8 x y ∧ Go.bits .xor .u8 x y < 256 := by
  rw [xor8_nat hx hy]
  have : x.toNat ^^^ y.toNat < 2 ^ 8 := Nat.xor_lt_two_pow (by omega) (by omega)
  omega
theorem xor8_twice {x y : Int} (hx : 0 ≤ x ∧ x < 256) (hy : 0 ≤ y ∧ y < 256) : Go.bits .xor .u8 (Go.bits .xor .u8 x y) y = x := by
  rw [xor8_nat (xor8_byt hx hy) hy, xor8_nat hx hy, Int.toNat_natCast, Nat.xor_assoc, Nat.xor_self, Nat.xor_zero]
  omega
theorem xor8_same {x y : Int} (hx : 0 ≤ x ∧ x < 256) (hy : 0 ≤ y ∧ y < 256) (h : Go.bits .xor .u8 x y = x) : y = 0 := by
  rw [xor8_nat hx hy] at h
  have h1 : x.toNat ^^^ y.toNat = x.toNat ^^^ 0 := by rw [Nat.xor_zero]; omega
  have := xor_left_inj h1
  omega
theorem getD_byt {l : List Int} (h : Byt l) (i : Nat) : 0 ≤ l.getD i 0 ∧ l.getD i 0 < 256 := by rw [← rd_nat]; exact rd_byt h _
theorem ext_getD {l m : List Int} (hl : l.length = m.length) (h : ∀ i, i < l.length → l.getD i 0 = m.getD i 0) : l = m := by
  apply List.ext_getElem hl
  intro i h1 h2
  have := h i h1
  rwa [List.getD_eq_getElem?_getD, List.getElem?_eq_getElem h1, List.getD_eq_getElem?_getD, List.getElem?_eq_getElem h2] at this
theorem byt_of_getD {l : List Int} (h : ∀ i, i < l.length → 0 ≤ l.getD i 0 ∧ l.getD i 0 < 256) : Byt l := by
  intro x hx
  obtain ⟨i, hi, rfl⟩ := List.getElem_of_mem hx
  have := h i hi
  rwa [List.getD_eq_getElem?_getD, List.getElem?_eq_getElem hi] at this
theorem spl_get {l : List Int} {a : Int} (b : List Int) (h : 0 ≤ a ∧ a < (l.length : Int)) (i : Nat) : (spl l a b).getD i 0 = if a.toNat ≤ i ∧ i < a.toNat + spn l a.toNat b then Go.bits .xor .u8 (l.getD i 0) (b.getD (i - a.toNat) 0) else l.getD i 0 := by
  unfold spl
  rw [if_pos h, spo_get _ _ _ _ _ (spn_le l a.toNat b (by omega)).1]
theorem spl_byt {l b : List Int} (hl : Byt l) (hb : Byt b) (a : Int) : Byt (spl l a b) := by
  by_cases h : 0 ≤ a ∧ a < (l.length : Int)
  · refine byt_of_getD (fun i _ => ?_)
    rw [spl_get b h]
    split
    · exact xor8_byt (getD_byt hl _) (getD_byt hb _)
    · exact getD_byt hl _
  · unfold spl; rw [if_neg h]; exact hl
theorem spl_twice {l b : List Int} (hl : Byt l) (hb : Byt b) (a : Int) : spl (spl l a b) a b = l := by
  by_cases h : 0 ≤ a ∧ a < (l.length : Int)
  · have h2 : 0 ≤ a ∧ a < ((spl l a b).length : Int) := by rw [spl_length]; exact h
    refine ext_getD (by rw [spl_length, spl_length]) (fun i _ => ?_)
    rw [spl_get b h2, spl_get b h, show spn (spl l a b) a.toNat b = spn l a.toNat b by unfold spn; rw [spl_length]]
    split
    · exact xor8_twice (getD_byt hl _) (getD_byt hb _)
    · rfl
  · have e : spl l a b = l := by unfold spl; rw [if_neg h]
    rw [e, e]

theorem ref_spoil_l0 (l : List Int) (p : Nat) (b : List Int) (hl : l.length < 140737488355000) (hbl : b.length ≤ 9223372036854775807) (hp : (p : Int) ≤ 9223372036854775807) (d : Nat) :
    ∀ (k i : Nat), i + d = 4 → 2 * d + 3 ≤ k → precentorref01_Spoil.l0 k (p : Int) b (spo l p b (min i (spn l p b))) (i : Int) = some (spo l p b (spn l p b)) := by
  have hn : spn l p b = min (min b.length 4) (l.length - p) := rfl
  induction d with
  | zero =>
    intro k i hi hk
    obtain ⟨k, rfl⟩ : ∃ m, k = m + 2 := ⟨k - 2, by omega⟩
    simp only [precentorref01_Spoil.l0]
    rw [if_neg (by omega)]
    simp only [precentorref01_Spoil.j1]
    rw [if_neg (by decide), show min i (spn l p b) = spn l p b by omega]
  | succ d ih =>
    intro k i hi hk
    obtain ⟨k, rfl⟩ : ∃ m, k = m + 2 := ⟨k - 2, by omega⟩
    simp only [precentorref01_Spoil.l0]
    rw [if_pos (by omega)]
    simp only [precentorref01_Spoil.j1, decide_eq_true_eq]
    have hw : wrap64 ((i : Int) + 1) = ((i + 1 : Nat) : Int) := by rw [wrap_id (by omega) (by omega)]; rfl
    by_cases hb : (i : Int) < (b.length : Int)
    · rw [if_pos hb, hw, spo_length, wrap_id (x := (l.length : Int) - i) (by omega) (by omega)]
      by_cases hp2 : (p : Int) < (l.length : Int) - i
      · rw [if_pos hp2, wrap_id (x := (p : Int) + i) (by omega) (by omega), if_pos (by omega), if_pos (by omega), if_pos (by omega), if_pos hb]
        have e1 : min i (spn l p b) = i := by omega
        have e2 : min (i + 1) (spn l p b) = i + 1 := by omega
        have h3 := ih k (i + 1) (by omega) (by omega)
        rw [e2] at h3
        rw [e1, ← h3]
        congr 1
      · rw [if_neg hp2]
        have h3 := ih k (i + 1) (by omega) (by omega)
        rwa [show min (i + 1) (spn l p b) = min i (spn l p b) by omega] at h3
    · rw [if_neg hb, show min i (spn l p b) = spn l p b by omega]
theorem ref_spoil {l b : List Int} (hl : l.length < 140737488355000) (hb : b.length ≤ 9223372036854775807) {a : Int} (ha : a ≤ 9223372036854775807) {k : Nat} (hk : 11 ≤ k) : precentorref01_Spoil.f k l a b = some (spl l a b) := by
  unfold precentorref01_Spoil.f
  simp only [Option.bind_some, List.nil_append, List.length_nil, Nat.zero_add]
  rw [if_pos (by omega)]
  by_cases h0 : a < 0
  · rw [if_pos h0]
    unfold spl
    rw [if_neg (by omega)]
  · rw [if_neg h0]
    obtain ⟨p, rfl⟩ : ∃ p : Nat, a = (p : Int) := ⟨a.toNat, by omega⟩
    have h := ref_spoil_l0 l p b hl hb ha 4 k 0 rfl hk
    rw [Nat.zero_min] at h
    have h2 : precentorref01_Spoil.l0 k (p : Int) b l 0 = some (spo l p b (spn l p b)) := h
    rw [h2]
    congr 1
    unfold spl
    rw [Int.toNat_natCast]
    by_cases h1 : (p : Int) < (l.length : Int)
    · rw [if_pos ⟨by omega, h1⟩]
    · rw [if_neg (by omega), show spn l p b = 0 by unfold spn; omega]
      rfl
end Go.Proofs.Ythmgaeecfhmenaa.CrcPlain
