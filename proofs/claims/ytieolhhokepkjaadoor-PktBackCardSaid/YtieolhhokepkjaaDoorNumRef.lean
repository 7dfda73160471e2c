/- Plain lemmas on numbers as bytes: what the document's answers come to. Conditions stand in each lemma. -/
import Derived.Test.YtieolhhokepkjaaDoorBase2
import Derived.Test.YtieolhhokepkjaaDoorBase3
import Derived.Test.YtieolhhokepkjaaDoorNumPlain
namespace Go.Proofs.YtieolhhokepkjaaDoor.NumPlain
set_option linter.unusedVariables false
set_option linter.unusedSimpArgs false
open Go.RowKit Go.Proofs.YtieolhhokepkjaaDoor.Print
open Go.Proofs.YtieolhhokepkjaaDoorW.PrintWords Go.Proofs.YtieolhhokepkjaaDoorW.PrintLast Go.Proofs.YtieolhhokepkjaaDoorW.PrintMore

/-! ### The document's -/
theorem same_loop (b : List Int) : ∀ (k : Nat) (a c d : List Int), a.length = c.length → b.length = d.length → a.length + b.length < 100000 → b.length < k →
    precentorref02_Same.l0 k (a ++ b) (c ++ d) a.length = some (decide (b = d)) := by
  induction b with
  | nil =>
    intro k a c d h1 h2 h3 hk
    obtain ⟨k, rfl⟩ : ∃ q, k = q + 1 := ⟨k - 1, by omega⟩
    obtain rfl := List.eq_nil_of_length_eq_zero h2.symm
    simp [precentorref02_Same.l0]
  | cons x b ih =>
    intro k a c d h1 h2 h3 hk
    simp only [List.length_cons] at h2 h3 hk
    obtain ⟨k, rfl⟩ : ∃ q, k = q + 1 := ⟨k - 1, by omega⟩
    obtain ⟨y, d, rfl⟩ := List.exists_cons_of_length_eq_add_one h2.symm
    simp only [List.length_cons] at h2
    simp only [precentorref02_Same.l0]
    rw [if_pos (by simp; omega), if_pos (by omega), if_pos (by simp; omega), rd_mid, show ((a.length : Nat) : Int) = ((c.length : Nat) : Int) by rw [h1], rd_mid, ← h1, wrap_id (by omega) (by omega)]
    by_cases hxy : x = y
    · subst hxy
      have := ih k (a ++ [x]) (c ++ [x]) d (by simp; omega) (by omega) (by simp; omega) (by omega)
      rw [List.append_assoc, List.append_assoc, List.singleton_append, List.singleton_append, show ((a ++ [x]).length : Int) = (a.length : Int) + 1 by simp] at this
      rw [if_pos rfl, this]; simp
    · rw [if_neg hxy]; simp [hxy]
theorem same_is {a b : List Int} {k : Nat} (hl : a.length < 10000) (hk : a.length < k) : precentorref02_Same.f k a b = some (decide (a = b)) := by
  unfold precentorref02_Same.f
  by_cases h : (a.length : Int) = b.length
  · rw [if_pos h]
    exact same_loop a k [] [] b rfl (by omega) (by simp; omega) hk
  · rw [if_neg h]
    congr 1
    exact (decide_eq_false (fun he => h (by rw [he]))).symm
theorem rmost_is (W : Int) : precentorref02_most.f W = some (if Wd W then most W else -1) := by
  unfold precentorref02_most.f most Wd
  repeat' split
  all_goals first | rfl | (exfalso; omega)
theorem rfits_is (n W : Int) : precentorref02_Fits.f n W = some (decide (Ft n W)) := by
  unfold precentorref02_Fits.f
  rw [rmost_is]
  by_cases h0 : n ≥ 0
  · rw [if_pos h0]
    simp only [Option.bind_some]
    congr 1
    rw [Bool.eq_iff_iff, decide_eq_true_iff, decide_eq_true_iff]
    unfold Ft
    split <;> constructor
    · intro h; exact ⟨by assumption, h0, h⟩
    · intro h; exact h.2.2
    · intro h; omega
    · intro h; exact absurd h.1 (by assumption)
  · rw [if_neg h0, decide_eq_false (fun h : Ft n W => h0 h.2.1)]
theorem rput_loop (W : Nat) : ∀ (k : Nat) (n : Int) (t : List Int), W ≤ 8 → 0 ≤ n → n ≤ 9223372036854775807 → W < k → precentorref02_Put.l0 k n (List.replicate W 0 ++ t) ((W : Int) - 1) = some (enc W n ++ t) := by
  induction W with
  | zero =>
    intro k n t h8 h0 hn hk
    obtain ⟨k, rfl⟩ : ∃ q, k = q + 1 := ⟨k - 1, by omega⟩
    simp [precentorref02_Put.l0, enc]
  | succ W ih =>
    intro k n t h8 h0 hn hk
    obtain ⟨k, rfl⟩ : ∃ q, k = q + 1 := ⟨k - 1, by omega⟩
    simp only [precentorref02_Put.l0]
    rw [if_pos (by omega), if_pos (by omega), if_pos (by simp; omega), Int.tdiv_eq_ediv_of_nonneg h0, Int.tmod_eq_emod_of_nonneg h0, wrap_id (x := n / 256) (by omega) (by omega), show ((W + 1 : Nat) : Int) - 1 = (W : Int) by omega, wrap_id (x := (W : Int) - 1) (by omega) (by omega), Int.toNat_natCast, Int.emod_emod_of_dvd _ (Int.dvd_refl 256)]
    have hset : (List.replicate (W + 1) 0 ++ t).set W (n % 256) = List.replicate W 0 ++ (n % 256 :: t) := by
      rw [List.replicate_succ', List.append_assoc, List.set_append_right _ _ (by simp)]
      simp
    rw [hset, ih k (n / 256) _ (by omega) (by omega) (by omega) (by omega), enc]
    simp
theorem rput_is {n W : Int} {k : Nat} (hk : 9 ≤ k) : precentorref02_Put.f k n W = num_Put.f k n W := by
  by_cases h : Ft n W
  · rw [put_good h hk]
    unfold precentorref02_Put.f
    rw [rfits_is, decide_eq_true h]
    have hm := most_lt h.1
    have h2 := h.2
    obtain ⟨V, rfl, h1, h8⟩ := h.1.nat
    simp only [Option.bind_some, if_true]
    rw [if_pos (by omega), if_pos (by omega), Int.toNat_natCast, wrap_id (by omega) (by omega)]
    have := rput_loop V k n [] h8 h2.1 (by omega) (by omega)
    simpa using this
  · rw [put_bad h]
    unfold precentorref02_Put.f
    rw [rfits_is, decide_eq_false h]
    rfl
theorem take_snoc {l : List Int} {i : Nat} (h : i < l.length) : l.take (i + 1) = l.take i ++ [rd l i] := by
  rw [List.take_succ_eq_append_getElem h]
  unfold rd
  rw [Int.toNat_natCast, List.getD_eq_getElem?_getD, List.getElem?_eq_getElem h]
  rfl
theorem rtake_loop {l : List Int} (hb : By l) (W : Nat) (hW : Wd W) (hl : W ≤ l.length) (hl2 : l.length < 10000) (d : Nat) : ∀ (k i : Nat), i + d = W → d < k →
    precentorref02_Take.l0 k l W (val (l.take i)) i = if most W < val (l.take W) then some (0, [], 2) else some (val (l.take W), l.drop W, 0) := by
  have hm := most_lt hW
  induction d with
  | zero =>
    intro k i hi hk
    obtain ⟨k, rfl⟩ : ∃ q, k = q + 1 := ⟨k - 1, by omega⟩
    obtain rfl : i = W := by omega
    have hv := val_lt i (l.take i) (hb.take _) (by rw [List.length_take]; omega)
    simp only [precentorref02_Take.l0]
    rw [if_neg (by omega), rmost_is, if_pos hW]
    simp only [Option.bind_some]
    rw [u64_wrap, Int.emod_eq_of_lt (by omega) (by omega)]
    by_cases hgt : most i < val (l.take i)
    · rw [if_pos hgt, if_pos hgt]
    · rw [if_neg hgt, if_neg hgt, if_pos (by omega), if_pos (by omega), if_pos (by simp; omega), wrap_id (by omega) (by omega), Int.toNat_natCast]
      rfl
  | succ d ih =>
    intro k i hi hk
    obtain ⟨k, rfl⟩ : ∃ q, k = q + 1 := ⟨k - 1, by omega⟩
    have hW8 : W ≤ 8 := by obtain ⟨V, hV, _, h8⟩ := hW.nat; omega
    have hv := val_lt i (l.take i) (hb.take _) (by rw [List.length_take]; omega)
    have hp := pow_le8 (W := i) (by omega)
    have hc : 0 ≤ rd l i ∧ rd l i ≤ 255 := by
      unfold rd
      rw [Int.toNat_natCast, List.getD_eq_getElem?_getD, List.getElem?_eq_getElem (show i < l.length by omega)]
      exact hb _ (List.getElem_mem _)
    simp only [precentorref02_Take.l0]
    rw [if_pos (by omega), if_pos (by omega), if_pos (by omega), u64_wrap, u64_wrap, u64_wrap, Int.emod_eq_of_lt (a := 256 * _) (by omega) (by omega), Int.emod_eq_of_lt (a := rd l i) (by omega) (by omega), Int.emod_eq_of_lt (by omega) (by omega), wrap_id (by omega) (by omega)]
    have := ih k (i + 1) (by omega) (by omega)
    rw [take_snoc (by omega), val_snoc] at this
    rw [show 256 * val (l.take i) + rd l i = val (l.take i) * 256 + rd l i by omega]
    exact this
theorem rtake_is {l : List Int} (hb : By l) (hl : l.length < 10000) (W : Int) {k : Nat} (hk : 10 ≤ k) : precentorref02_Take.f k l W = num_Take.f l W := by
  unfold precentorref02_Take.f
  rw [rmost_is]
  simp only [Option.bind_some]
  by_cases hW : Wd W
  · have hm := most_lt hW
    rw [if_pos hW, if_neg (by omega), take_good hW hb]
    unfold takeS
    by_cases hlt : (l.length : Int) < W
    · rw [if_pos hlt, if_pos hlt]
    · rw [if_neg hlt, if_neg hlt]
      obtain ⟨V, rfl, h1, h8⟩ := hW.nat
      have := rtake_loop hb V hW (by omega) hl V k 0 (by omega) (by omega)
      rw [Int.toNat_natCast]
      rw [show precentorref02_Take.l0 k l (V : Int) 0 0 = precentorref02_Take.l0 k l (V : Int) (val (l.take 0)) ((0 : Nat) : Int) from rfl, this]
      split <;> rfl
  · rw [if_neg hW, if_pos (by decide), take_bad hW]
theorem rowS_none {W : Int} (hW : Wd W) : ∀ (m : Nat) (l : List Int), (l.length : Int) < W * m → rowS W m l = none := by
  intro m
  induction m with
  | zero => intro l h; simp at h; omega
  | succ m ih =>
    intro l h
    rw [rowS]
    rcases hn : takeS l W with _ | ⟨n, r⟩
    · rfl
    · obtain ⟨_, hr, hlen, _, _⟩ := takeS_some hW hn
      have hrl : (r.length : Int) = l.length - W := by
        obtain ⟨V, rfl, _, _⟩ := hW.nat
        rw [hr, List.length_drop]; omega
      simp only
      rw [ih r (by rw [hrl]; rw [Int.natCast_add, Int.mul_add] at h; omega)]
theorem rtakerow_loop {W : Int} (hW : Wd W) : ∀ (L k : Nat) (l acc : List Int) (m i : Int), By l → l.length ≤ L → L < 10000 → L + 12 ≤ k → acc.length + L < 17592186044416 → 0 ≤ i → i ≤ m → m ≤ 9223372036854775807 →
    precentorref02_TakeRow.l0 k m W acc l i = match rowS W (m - i).toNat l with | none => some ([], [], 2) | some (xs, r) => some (acc ++ xs, r, 0) := by
  intro L
  induction L with
  | zero =>
    intro k l acc m i hb hl h10 hk ha h0 him hm
    obtain ⟨k, rfl⟩ : ∃ q, k = q + 1 := ⟨k - 1, by omega⟩
    simp only [precentorref02_TakeRow.l0]
    by_cases hlt : i < m
    · obtain ⟨d, hd⟩ : ∃ d, (m - i).toNat = d + 1 := ⟨(m - i).toNat - 1, by omega⟩
      rw [if_pos hlt, rtake_is hb (by omega) W (by omega), take_good hW hb, hd]
      have hn : takeS l W = none := by
        unfold takeS; rw [if_pos]; rcases hW with rfl | rfl | rfl <;> omega
      simp only [hn, rowS, Option.bind_some]
      rw [if_neg (by decide)]
    · rw [if_neg hlt, show (m - i).toNat = 0 by omega]
      simp [rowS]
  | succ L ih =>
    intro k l acc m i hb hl h10 hk ha h0 him hm
    obtain ⟨k, rfl⟩ : ∃ q, k = q + 1 := ⟨k - 1, by omega⟩
    simp only [precentorref02_TakeRow.l0]
    by_cases hlt : i < m
    · obtain ⟨d, hd⟩ : ∃ d, (m - i).toNat = d + 1 := ⟨(m - i).toNat - 1, by omega⟩
      rw [if_pos hlt, rtake_is hb (by omega) W (by omega), take_good hW hb, hd]
      rcases hn : takeS l W with _ | ⟨n, r⟩
      · simp only [hn, rowS, Option.bind_some]
        rw [if_neg (by decide)]
      · obtain ⟨_, hr, hlen, _, _⟩ := takeS_some hW hn
        have hrl : r.length ≤ L := by rw [hr, List.length_drop]; rcases hW with rfl | rfl | rfl <;> simp <;> omega
        simp only [hn, rowS, Option.bind_some]
        rw [if_pos trivial, if_pos (by omega), wrap_id (by omega) (by omega), ih k r (acc ++ [n]) m (i + 1) (hr ▸ hb.drop _) hrl (by omega) (by omega) (by simp; omega) (by omega) (by omega) hm, show (m - (i + 1)).toNat = d by omega]
        rcases rowS W d r with _ | ⟨xs, q⟩
        · rfl
        · simp
    · rw [if_neg hlt, show (m - i).toNat = 0 by omega]
      simp [rowS]
theorem rtakerow_is {l : List Int} (hb : By l) (hl : l.length < 5000) {m : Int} (hm : m ≤ 9223372036854775807) (W : Int) {k : Nat} (hk : l.length + 20 ≤ k) :
    precentorref02_TakeRow.f k l m W = num_TakeRow.f k l m W := by
  obtain ⟨k, rfl⟩ : ∃ q, k = q + 2 := ⟨k - 2, by omega⟩
  unfold precentorref02_TakeRow.f
  rw [rmost_is]
  simp only [Option.bind_some]
  by_cases hW : Wd W
  · have hm1 := most_lt hW
    rw [if_pos hW, if_neg (by omega)]
    by_cases h0 : 0 ≤ m
    · rw [takerow_good hW h0 hm hb (by omega) (by omega), decide_eq_false (by omega)]
      obtain ⟨V, rfl, h1, h8⟩ := hW.nat
      have hdiv : 0 ≤ (l.length : Int) / V ∧ (l.length : Int) / V ≤ l.length := ⟨Int.ediv_nonneg (by omega) (by omega), Int.ediv_le_self _ (by omega)⟩
      simp only [precentorref02_TakeRow.j0, Bool.false_eq_true, if_false]
      rw [if_neg (by omega), wrap_id (x := (l.length : Int) / V) (by omega) (by omega), wrap_id (by omega) (by omega)]
      have key : ∀ m' : Int, 0 ≤ m' → m' ≤ 9223372036854775807 → precentorref02_TakeRow.j1 (k + 1) l m' (V : Int) = match rowS V m'.toNat l with | none => some ([], [], 2) | some (xs, r) => some (xs, r, 0) := by
        intro m' h0' hm'
        simp only [precentorref02_TakeRow.j1, Option.bind_some]
        rw [if_pos (by simp; omega)]
        have := rtakerow_loop hW l.length k l [] m' 0 hb (Nat.le_refl _) (by omega) (by omega) (by simp; omega) (by omega) h0' hm'
        rw [List.nil_append, this, Int.sub_zero]
        rfl
      by_cases hgt : m > (l.length : Int) / V
      · rw [if_pos hgt, key _ (by omega) (by omega)]
        have hlt : (l.length : Int) < V * ((l.length : Int) / V + 1) := by
          have e1 := Int.mul_ediv_add_emod (l.length : Int) V
          have e2 := Int.emod_lt_of_pos (l.length : Int) (show (0 : Int) < V by omega)
          rw [Int.mul_add]; omega
        rw [rowS_none hW _ l (by rw [Int.toNat_of_nonneg (by omega)]; exact hlt), rowS_none hW _ l (by
          rw [Int.toNat_of_nonneg h0]
          exact Int.lt_of_lt_of_le hlt (Int.mul_le_mul_of_nonneg_left (by omega) (by omega)))]
      · rw [if_neg hgt, key _ h0 hm]; rfl
    · rw [takerow_bad (fun h => h0 h.2) l (by omega), decide_eq_true (by omega)]
      simp [precentorref02_TakeRow.j0]
  · rw [if_neg hW, if_pos (by decide), takerow_bad (fun h => hW h.1) l (by omega)]
    simp [precentorref02_TakeRow.j0]
theorem rputrow_loop (W : Int) (b : List Int) : ∀ (k : Nat) (a acc : List Int), acc.length + 8 * b.length < 140737488355328 → a.length + b.length < 140737488355328 → b.length + 10 ≤ k →
    precentorref02_PutRow.l0 k (a ++ b) W acc a.length = some (if Fa b W then acc ++ flat W b else []) := by
  induction b with
  | nil =>
    intro k a acc h1 h2 hk
    obtain ⟨k, rfl⟩ : ∃ m, k = m + 1 := ⟨k - 1, by omega⟩
    simp only [precentorref02_PutRow.l0]
    rw [if_neg (by simp), if_pos (show Fa [] W from fun x hx => by cases hx)]
    simp [flat]
  | cons x b ih =>
    intro k a acc h1 h2 hk
    simp only [List.length_cons] at h1 h2 hk
    obtain ⟨k, rfl⟩ : ∃ m, k = m + 1 := ⟨k - 1, by omega⟩
    simp only [precentorref02_PutRow.l0]
    rw [if_pos (by simp; omega), if_pos (by omega), rd_mid, rfits_is]
    simp only [Option.bind_some]
    by_cases hx : Ft x W
    · have hl : (enc W.toNat x).length ≤ 8 := by obtain ⟨V, rfl, _, _⟩ := hx.1.nat; rw [enc_length]; omega
      rw [decide_eq_true hx, if_pos rfl, rput_is (by omega), put_good hx (by omega)]
      simp only [Option.bind_some]
      rw [if_pos (by omega), wrap_id (by omega) (by omega)]
      have := ih k (a ++ [x]) (acc ++ enc W.toNat x) (by rw [List.length_append]; omega) (by simp; omega) (by omega)
      rw [List.append_assoc, List.singleton_append, show ((a ++ [x]).length : Int) = (a.length : Int) + 1 by simp] at this
      rw [this]
      by_cases hb : Fa b W
      · rw [if_pos hb, if_pos (show Fa (x :: b) W from fun y hy => (List.mem_cons.1 hy).elim (fun h => h ▸ hx) (hb y)), flat_cons, List.append_assoc]
      · rw [if_neg hb, if_neg (fun h : Fa (x :: b) W => hb (fun y hy => h y (List.mem_cons_of_mem _ hy)))]
    · rw [decide_eq_false hx, if_neg (by decide), if_neg (fun h : Fa (x :: b) W => hx (h x (List.mem_cons_self ..)))]
theorem rputrow_is {W : Int} {l : List Int} {k : Nat} (hl : l.length < 10000) (hk : l.length + 10 ≤ k) : precentorref02_PutRow.f k l W = num_PutRow.f k l W := by
  rw [putrow_is hl hk]
  have := rputrow_loop W l k [] [] (by simp; omega) (by simp; omega) hk
  simpa [precentorref02_PutRow.f] using this

end Go.Proofs.YtieolhhokepkjaaDoor.NumPlain
