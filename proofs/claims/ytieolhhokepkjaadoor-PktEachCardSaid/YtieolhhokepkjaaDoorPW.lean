/- BACK and ALIKE of packets, in plain Lean. Conditions stand in each theorem. -/
import Derived.Test.YtieolhhokepkjaaDoorPP
import Derived.Test.YtieolhhokepkjaaDoorPrint3
import Derived.Test.YtieolhhokepkjaaDoorHandPB
import Derived.Test.YtieolhhokepkjaaDoorHandPR
namespace Go.Proofs.YtieolhhokepkjaaDoor.Print
set_option linter.unusedVariables false
set_option linter.unusedSimpArgs false
open Go.RowKit Go.Proofs.YtieolhhokepkjaaDoorW.PrintWords Go.Proofs.YtieolhhokepkjaaDoorW.PrintLast Go.Proofs.YtieolhhokepkjaaDoorW.PrintMore Go.Proofs.YtieolhhokepkjaaDoor.NumPlain Go.Proofs.YtieolhhokepkjaaDoor.Crc
theorem few4_is (K F k s e i t c : Int) (L bo : List Int) (T O M P : Int) (R : List Int) : precentorref04_Few.f K F k s e i t c L bo T O M P R = some (decide (L.length ≤ 80) && decide (bo.length ≤ 1100) && decide (R.length ≤ 80)) := by
 unfold precentorref04_Few.f
 rw [few_is, Option.bind_some]
 generalize (decide (L.length ≤ 80) && decide (bo.length ≤ 1100)) = z
 cases z
 ·
  rw [if_neg Bool.false_ne_true, Bool.false_and]
 ·
  rw [if_pos rfl, Bool.true_and]; exact congrArg some (decide_eq_decide.2 (by omega))
theorem body_len {K F k s e i t c : Int} {L bo : List Int} {T O M P : Int} {R : List Int} :
  (bodyP K F k s e i t c L bo T O M P R).length = if K = 3 then 13 else if K = 4 then 11 + 8 * R.length else 3 + (Print.bytesOf k s e i t c L bo).length := by
 have f8 := flat_length 8 R
 rw [show Int.toNat 8 = 8 from rfl] at f8
 unfold bodyP
 rw [List.length_append]
 split
 ·
  simp [enc_length]
 ·
  split
  ·
   simp [enc_length, f8] <;> omega
  ·
   simp <;> omega
end Go.Proofs.YtieolhhokepkjaaDoor.Print
namespace Go.Proofs.YtieolhhokepkjaaDoor.Print
set_option linter.unusedVariables false
set_option linter.unusedSimpArgs false
open Go.RowKit Go.Proofs.YtieolhhokepkjaaDoorW.PrintWords Go.Proofs.YtieolhhokepkjaaDoorW.PrintLast Go.Proofs.YtieolhhokepkjaaDoorW.PrintMore Go.Proofs.YtieolhhokepkjaaDoor.NumPlain Go.Proofs.YtieolhhokepkjaaDoor.Crc
theorem open_sealed (c : List Int) : openS (c ++ tl (sumOf c)) = (c, 0) := by
 have hlen : (c ++ tl (sumOf c)).length = c.length + 4 := by rw [List.length_append, tl_length]
 unfold openS
 rw [if_neg (by omega), hlen, Nat.add_sub_cancel, List.drop_left, List.take_left, if_pos rfl]
theorem open_inv {l : List Int} (h : (openS l).2 = 0) : l = (openS l).1 ++ tl (sumOf (openS l).1) := by
 unfold openS at h ⊢
 split at h
 ·
  cases h
 ·
  rename_i h4
  split at h
  ·
   rename_i h5
   rw [if_neg h4, if_pos h5]
   show l = l.take (l.length - 4) ++ tl (sumOf (l.take (l.length - 4)))
   rw [← h5, List.take_append_drop]
  ·
   cases h
theorem tkn_enc8 {n : Int} (h0 : 0 ≤ n) (h1 : n ≤ 4611686018427387904) (r : List Int) (hr : By r) : tkn (enc 8 n ++ r) 8 = (n, r, 0) := by
 have := takeS_enc (n := n) (W := 8) ⟨Or.inr (Or.inr rfl), h0, h1⟩ r
 unfold tkn
 rw [take_good (Or.inr (Or.inr rfl)) ((enc_by 8 n).append hr), show enc 8 n = enc (Int.toNat 8) n from rfl, this]; rfl
theorem tkn_enc1 {n : Int} (h0 : 0 ≤ n) (h1 : n ≤ 255) (r : List Int) (hr : By r) : tkn (enc 1 n ++ r) 1 = (n, r, 0) := by
 have := takeS_enc (n := n) (W := 1) ⟨Or.inl rfl, h0, h1⟩ r
 unfold tkn
 rw [take_good (Or.inl rfl) ((enc_by 1 n).append hr), show enc 1 n = enc (Int.toNat 1) n from rfl, this]; rfl
theorem tkn_inv1 {l : List Int} (hb : By l) {n : Int} {r : List Int} (h : tkn l 1 = (n, r, 0)) : l = enc 1 n ++ r := by
 unfold tkn at h
 rw [take_good (Or.inl rfl) hb] at h
 cases hr : takeS l 1 with
 | none => rw [hr] at h; cases h
 | some p =>
  obtain ⟨m, s⟩ := p
  rw [hr] at h
  have h : (m, s, (0 : Int)) = (n, r, 0) := h
  have h1 := (Prod.mk.inj h).1
  have h2 := (Prod.mk.inj (Prod.mk.inj h).2).1
  have := (takeS_is (Or.inl rfl) hb hr).2.1
  rw [this, h2, h1]; rfl
theorem tkn_ok8 {l : List Int} (hb : By l) (h : (tkn l 8).2.1 ≠ []) : l = enc 8 (tkn l 8).1 ++ (tkn l 8).2.1 := by
 unfold tkn at h ⊢
 rw [take_good (Or.inr (Or.inr rfl)) hb] at h ⊢
 cases hr : takeS l 8 with
 | none => rw [hr] at h; exact absurd rfl h
 | some p =>
  obtain ⟨m, s⟩ := p
  exact (takeS_is (Or.inr (Or.inr rfl)) hb hr).2.1
theorem tkn_ok1 {l : List Int} (hb : By l) (h : (tkn l 1).2.1 ≠ []) : l = enc 1 (tkn l 1).1 ++ (tkn l 1).2.1 := by
 unfold tkn at h ⊢
 rw [take_good (Or.inl rfl) hb] at h ⊢
 cases hr : takeS l 1 with
 | none => rw [hr] at h; exact absurd rfl h
 | some p =>
  obtain ⟨m, s⟩ := p
  exact (takeS_is (Or.inl rfl) hb hr).2.1
/-- An item's body, of bytes, is bytes. -/
theorem take_body_by {l : List Int} (hb : By l) (hl : l.length < 10000) {k s e i t c : Int} {L bo : List Int} (h : takeItem l = some (k, s, e, i, t, c, L, bo)) : By bo := by
 obtain ⟨hm, hbb⟩ := take_inv hb hl h
 have hK := mayB_head hm
 by_cases hk : k = 1
 ·
  intro x hx
  refine hb x ?_
  rw [← hbb]
  unfold Print.bytesOf tailOf
  rw [if_pos hk]
  simp [hx]
 ·
  obtain ⟨_, _, h1⟩ := may_is hm
  have : bo.length = 0 := by
   rcases h1 with h | h | h | h | h | h <;> simp_all
  rw [List.length_eq_zero_iff.1 this]
  exact fun _ h => absurd h List.not_mem_nil
theorem endE_zero {q : Int} {l : List Int} (h : endE q l = 0) : q = 0 ∧ l = [] := by
 unfold endE at h
 split at h
 ·
  rename_i hq
  split at h
  ·
   cases h
  ·
   rename_i hl
   exact ⟨eq_of_beq hq, List.length_eq_zero_iff.1 (by omega)⟩
 ·
  rename_i hq
  exact absurd (by rw [h]; rfl) hq
/-- What stands behind a packet's head. -/
def partsP (K : Int) (p : PK) : List Int := if K = 3 then enc 1 p.T ++ enc 8 p.O ++ enc 1 p.M else if K = 4 then enc 8 p.P ++ flat 8 p.R else bytesOf p.k p.s p.e p.i p.t p.c p.L p.bo
theorem bare_zero {k s e i t c : Int} {L bo : List Int} (h : bareB k s e i t c L bo = true) (hb : By bo) : k = 0 ∧ s = 0 ∧ e = 0 ∧ i = 0 ∧ t = 0 ∧ c = 0 ∧ L = [] ∧ bo = [] := by
 have := (same_iff (k := k) (s := s) (e := e) (i := i) (t := t) (c := c) (L := L) (k' := 0) (s' := 0) (e' := 0) (i' := 0) (t' := 0) (c' := 0) (L' := []) hb (fun _ h => absurd h List.not_mem_nil : By [])).1 h
 simpa only [Prod.mk.injEq] using this
/-- Which packets may be. -/
theorem mayP_is {K F k s e i t c : Int} {L bo : List Int} {T O M P : Int} {R : List Int} (h : mayP K F (mayB k s e i t c L bo.length) (bareB k s e i t c L bo) T O M P R = true) :
  (0 ≤ F ∧ F ≤ 63) ∧ (((K = 1 ∨ K = 2) ∧ mayB k s e i t c L bo.length = true ∧ T = 0 ∧ O = 0 ∧ M = 0 ∧ P = 0 ∧ R = []) ∨
   (K = 3 ∧ bareB k s e i t c L bo = true ∧ (0 ≤ T ∧ T ≤ 63) ∧ (1 ≤ O ∧ O ≤ 4611686018427387904) ∧ (1 ≤ M ∧ M ≤ 64) ∧ P = 0 ∧ R = []) ∨
   (K = 4 ∧ bareB k s e i t c L bo = true ∧ T = 0 ∧ O = 0 ∧ M = 0 ∧ (0 ≤ P ∧ P ≤ 4611686018427387904) ∧ (2 ≤ R.length ∧ R.length ≤ 64) ∧ ∀ x ∈ R, 0 ≤ x ∧ x ≤ 4611686018427387904)) := by
 unfold mayP wi each wi at h
 rw [Bool.and_eq_true, decide_eq_true_eq] at h
 refine ⟨h.1, ?_⟩
 have h := h.2
 by_cases h1 : K = 1 ∨ K = 2
 ·
  rw [if_pos h1] at h
  simp only [Bool.and_eq_true, decide_eq_true_eq] at h
  exact Or.inl ⟨h1, h.1, h.2.1, h.2.2.1, h.2.2.2.1, h.2.2.2.2.1, List.length_eq_zero_iff.1 h.2.2.2.2.2⟩
 rw [if_neg h1] at h
 by_cases h3 : K = 3
 ·
  rw [if_pos h3] at h
  simp only [Bool.and_eq_true, decide_eq_true_eq] at h
  exact Or.inr (Or.inl ⟨h3, h.1, h.2.1, h.2.2.1, h.2.2.2.1, h.2.2.2.2.1, List.length_eq_zero_iff.1 h.2.2.2.2.2⟩)
 rw [if_neg h3] at h
 by_cases h4 : K = 4
 ·
  rw [if_pos h4] at h
  simp only [Bool.and_eq_true, decide_eq_true_eq, List.all_eq_true] at h
  exact Or.inr (Or.inr ⟨h4, h.2.1, h.2.2.1, h.2.2.2.1, h.2.2.2.2.1, h.2.2.2.2.2.1, by omega, h.1⟩)
 ·
  rw [if_neg h4] at h; cases h
/-- What stands behind the head says the packet's parts. -/
theorem rest_parts {K F k s e i t c : Int} {L bo : List Int} {T O M P : Int} {R : List Int} (hbo : By bo) (h : mayP K F (mayB k s e i t c L bo.length) (bareB k s e i t c L bo) T O M P R = true) :
  restP K (partsP K ⟨k, s, e, i, t, c, L, bo, T, O, M, P, R⟩) = (⟨k, s, e, i, t, c, L, bo, T, O, M, P, R⟩, 0) := by
 obtain ⟨_, h | h | h⟩ := mayP_is h
 ·
  obtain ⟨h1, hit, rfl, rfl, rfl, rfl, rfl⟩ := h
  unfold restP partsP
  rw [if_pos h1, if_neg (by rcases h1 with h | h <;> omega), if_neg (by rcases h1 with h | h <;> omega)]
  simp only []
  rw [take_bytes hit]; rfl
 ·
  obtain ⟨rfl, hba, hT, hO, hM, rfl, rfl⟩ := h
  obtain ⟨rfl, rfl, rfl, rfl, rfl, rfl, rfl, rfl⟩ := bare_zero hba hbo
  have e1 := tkn_enc1 (n := T) (by omega) (by omega) (enc 8 O ++ enc 1 M) ((enc_by 8 O).append (enc_by 1 M))
  have e2 := tkn_enc8 (n := O) (by omega) (by omega) (enc 1 M) (enc_by 1 M)
  have e3 := tkn_enc1 (n := M) (by omega) (by omega) [] (fun _ h => absurd h List.not_mem_nil)
  rw [List.append_nil] at e3
  unfold restP partsP nakPK
  rw [if_neg (by omega), if_pos rfl, if_pos rfl]
  simp only [List.append_assoc]
  rw [e1]
  simp only []
  rw [e2]
  simp only []
  rw [e3]; rfl
 ·
  obtain ⟨rfl, hba, rfl, rfl, rfl, hP, hR, hRx⟩ := h
  obtain ⟨rfl, rfl, rfl, rfl, rfl, rfl, rfl, rfl⟩ := bare_zero hba hbo
  have e1 := tkn_enc8 (n := P) hP.1 hP.2 (flat 8 R) (flat_by 8 R)
  have e2 := rowT_flat (W := 8) (L := R) (Or.inr (Or.inr rfl)) (fun x hx => ⟨Or.inr (Or.inr rfl), (hRx x hx).1, (hRx x hx).2⟩) (by omega)
  unfold restP partsP stabPK
  rw [if_neg (by omega), if_neg (by omega), if_pos rfl, if_neg (by omega), if_pos rfl]
  simp only []
  rw [e1]
  simp only []
  rw [e2]; rfl
theorem body_parts {K F k s e i t c : Int} {L bo : List Int} {T O M P : Int} {R : List Int} : bodyP K F k s e i t c L bo T O M P R = [165, K % 256, F % 256] ++ partsP K ⟨k, s, e, i, t, c, L, bo, T, O, M, P, R⟩ := rfl
/-- BACK, one way: a packet that may be is read as it was written. -/
theorem read_body {K F k s e i t c : Int} {L bo : List Int} {T O M P : Int} {R : List Int} (hbo : By bo) (h : mayP K F (mayB k s e i t c L bo.length) (bareB k s e i t c L bo) T O M P R = true) :
  readC (bodyP K F k s e i t c L bo T O M P R) = some (K, F, ⟨k, s, e, i, t, c, L, bo, T, O, M, P, R⟩) := by
 have hF := (mayP_is h).1
 have hK : 0 ≤ K ∧ K ≤ 255 := by obtain ⟨_, h | h | h⟩ := mayP_is h <;> omega
 have hr := rest_parts hbo h
 rw [body_parts, Int.emod_eq_of_lt hK.1 (by omega), Int.emod_eq_of_lt hF.1 (by omega)]
 unfold readC
 rw [show rd ([165, K, F] ++ partsP K ⟨k, s, e, i, t, c, L, bo, T, O, M, P, R⟩) 0 = 165 from rfl, show rd ([165, K, F] ++ partsP K ⟨k, s, e, i, t, c, L, bo, T, O, M, P, R⟩) 1 = K from rfl, show rd ([165, K, F] ++ partsP K ⟨k, s, e, i, t, c, L, bo, T, O, M, P, R⟩) 2 = F from rfl,
  show ([165, K, F] ++ partsP K ⟨k, s, e, i, t, c, L, bo, T, O, M, P, R⟩).drop 3 = partsP K ⟨k, s, e, i, t, c, L, bo, T, O, M, P, R⟩ from rfl, hr, if_neg (by simp), if_pos rfl, if_pos rfl]
 simp only []
 rw [if_pos h]
/-- BACK, the other way: what is read may be, and its bytes are those. -/
theorem read_inv {c : List Int} (hb : By c) (hl : c.length < 5000) {K F : Int} {p : PK} (h : readC c = some (K, F, p)) :
  mayP K F (mayB p.k p.s p.e p.i p.t p.c p.L p.bo.length) (bareB p.k p.s p.e p.i p.t p.c p.L p.bo) p.T p.O p.M p.P p.R = true ∧ bodyP K F p.k p.s p.e p.i p.t p.c p.L p.bo p.T p.O p.M p.P p.R = c ∧ By p.bo := by
 unfold readC at h
 by_cases h3 : c.length < 3
 ·
  rw [if_pos h3] at h; cases h
 rw [if_neg h3] at h
 by_cases hm : rd c 0 = 165
 ·
  rw [if_pos hm] at h
  obtain ⟨x0, x1, x2, l, rfl⟩ : ∃ a b d l, c = a :: b :: d :: l := by
   rcases c with _ | ⟨a, _ | ⟨b, _ | ⟨d, l⟩⟩⟩
   ·
    simp at h3
   ·
    simp at h3
   ·
    simp at h3
   ·
    exact ⟨a, b, d, l, rfl⟩
  have hm : x0 = 165 := hm
  subst hm
  have hx1 := hb x1 (by simp)
  have hx2 := hb x2 (by simp)
  have hbl : By l := fun x hx => hb x (by simp [hx])
  have hll : l.length < 5000 := by simp at hl; omega
  rw [show rd (165 :: x1 :: x2 :: l) 1 = x1 from rfl, show rd (165 :: x1 :: x2 :: l) 2 = x2 from rfl, show (165 :: x1 :: x2 :: l).drop 3 = l from rfl] at h
  by_cases hq : (restP x1 l).2 = 0
  ·
   rw [if_pos hq] at h
   split at h
   ·
    rename_i hmay
    simp only [Option.some.injEq, Prod.mk.injEq] at h
    obtain ⟨rfl, rfl, rfl⟩ := h
    have key : partsP x1 (restP x1 l).1 = l ∧ By (restP x1 l).1.bo := by
     obtain ⟨_, hk⟩ := mayP_is hmay
     have hb0 : By ([] : List Int) := fun _ h => absurd h List.not_mem_nil
     clear hmay hb hl
     unfold partsP
     rcases hk with ⟨h1, _⟩ | ⟨h1, _⟩ | ⟨h1, _, _, _, _, _, hRl, _⟩
     ·
      have hv : restP x1 l = (itemPK (tell9 (takeItem l)), (tell9 (takeItem l)).2.2.2.2.2.2.2.2) := by unfold restP; rw [if_pos h1]
      rw [hv] at hq ⊢
      rw [if_neg (by rcases h1 with h | h <;> omega), if_neg (by rcases h1 with h | h <;> omega)]
      cases ht : takeItem l with
      | none => rw [ht] at hq; cases hq
      | some y =>
       obtain ⟨k', s', e', i', t', c', L', bo'⟩ := y
       obtain ⟨hm', hbb⟩ := take_inv hbl (by omega) ht
       exact ⟨hbb, take_body_by hbl (by omega) ht⟩
     ·
      subst h1
      have hv : restP 3 l = (nakPK l, endE (tkn (tkn (tkn l 1).2.1 8).2.1 1).2.2 (tkn (tkn (tkn l 1).2.1 8).2.1 1).2.1) := by unfold restP; rw [if_neg (by omega), if_pos rfl]
      rw [hv] at hq ⊢
      rw [if_pos rfl]
      obtain ⟨hq1, hq2⟩ := endE_zero hq
      have hb1 := (tkn_by hbl 1).1
      have hb2 := (tkn_by hb1 8).1
      have e3 : tkn (tkn (tkn l 1).2.1 8).2.1 1 = ((tkn (tkn (tkn l 1).2.1 8).2.1 1).1, [], 0) := Prod.ext rfl (Prod.ext hq2 hq1)
      have e3' := tkn_inv1 hb2 e3
      have e2 := tkn_ok8 hb1 (by rw [e3']; simp [enc])
      have e1 := tkn_ok1 hbl (by rw [e2]; simp [enc])
      refine ⟨?_, hb0⟩
      show enc 1 (tkn l 1).1 ++ enc 8 (tkn (tkn l 1).2.1 8).1 ++ enc 1 (tkn (tkn (tkn l 1).2.1 8).2.1 1).1 = l
      rw [List.append_nil] at e3'
      rw [List.append_assoc, ← e3', ← e2, ← e1]
     ·
      subst h1
      have hv : restP 4 l = (stabPK l, endE (rowT 8 (tkn l 8).2.1).2.2 (rowT 8 (tkn l 8).2.1).2.1) := by unfold restP; rw [if_neg (by omega), if_neg (by omega), if_pos rfl]
      rw [hv] at hq hRl ⊢
      rw [if_neg (by omega), if_pos rfl]
      obtain ⟨hq1, hq2⟩ := endE_zero hq
      have hb1 := tkn_by hbl 8
      have e2 := rowT_inv (W := 8) (L := (rowT 8 (tkn l 8).2.1).1) (Or.inr (Or.inr rfl)) hb1.1 (by omega) (Prod.ext rfl (Prod.ext hq2 hq1))
      refine ⟨?_, hb0⟩
      show enc 8 (tkn l 8).1 ++ flat 8 (rowT 8 (tkn l 8).2.1).1 = l
      have hne : (tkn l 8).2.1 ≠ [] := by
       intro h0
       have h5 : (rowT 8 (tkn l 8).2.1).1 = [] := by rw [h0]; decide +kernel
       have hRl : 2 ≤ (rowT 8 (tkn l 8).2.1).1.length := hRl.1
       rw [h5] at hRl; simp at hRl
      rw [← e2]
      exact (tkn_ok8 hbl hne).symm
    refine ⟨hmay, ?_, key.2⟩
    obtain ⟨hF, _⟩ := mayP_is hmay
    have : bodyP x1 x2 (restP x1 l).1.k (restP x1 l).1.s (restP x1 l).1.e (restP x1 l).1.i (restP x1 l).1.t (restP x1 l).1.c (restP x1 l).1.L (restP x1 l).1.bo (restP x1 l).1.T (restP x1 l).1.O (restP x1 l).1.M (restP x1 l).1.P (restP x1 l).1.R = [165, x1 % 256, x2 % 256] ++ partsP x1 (restP x1 l).1 := rfl
    rw [this, key.1, Int.emod_eq_of_lt hx1.1 (by omega), Int.emod_eq_of_lt hx2.1 (by omega)]; rfl
   ·
    cases h
  ·
   rw [if_neg hq] at h; cases h
 ·
  rw [if_neg hm] at h; cases h
end Go.Proofs.YtieolhhokepkjaaDoor.Print
namespace Go.Proofs.YtieolhhokepkjaaDoor.Print
set_option linter.unusedVariables false
set_option linter.unusedSimpArgs false
open Go.RowKit Go.Proofs.YtieolhhokepkjaaDoorW.PrintWords Go.Proofs.YtieolhhokepkjaaDoorW.PrintLast Go.Proofs.YtieolhhokepkjaaDoorW.PrintMore Go.Proofs.YtieolhhokepkjaaDoor.NumPlain Go.Proofs.YtieolhhokepkjaaDoor.Crc
theorem tl_is_by (l : List Int) : By (tl (sumOf l)) := fun x hx => by
 simp only [tl, List.mem_cons, List.not_mem_nil, or_false] at hx
 omega
theorem bodyP_by {K F k s e i t c : Int} {L bo : List Int} {T O M P : Int} {R : List Int} (hb : By bo) : By (bodyP K F k s e i t c L bo T O M P R) := by
 have h0 : By [165, K % 256, F % 256] := fun x hx => by
  simp only [List.mem_cons, List.not_mem_nil, or_false] at hx
  omega
 unfold bodyP
 refine h0.append ?_
 split
 ·
  exact ((enc_by 1 T).append (enc_by 8 O)).append (enc_by 1 M)
 ·
  split
  ·
   exact (enc_by 8 P).append (flat_by 8 R)
  ·
   exact by_bytes k s e i t c L hb
/-- A packet's bytes. -/
def sealP (K F k s e i t c : Int) (L bo : List Int) (T O M P : Int) (R : List Int) : List Int := bodyP K F k s e i t c L bo T O M P R ++ tl (sumOf (bodyP K F k s e i t c L bo T O M P R))
theorem sealP_by {K F k s e i t c : Int} {L bo : List Int} {T O M P : Int} {R : List Int} (hb : By bo) : By (sealP K F k s e i t c L bo T O M P R) := (bodyP_by hb).append (tl_is_by _)
theorem sealP_len {K F k s e i t c : Int} {L bo : List Int} {T O M P : Int} {R : List Int} (h : mayP K F (mayB k s e i t c L bo.length) (bareB k s e i t c L bo) T O M P R = true) : (sealP K F k s e i t c L bo T O M P R).length < 2000 ∧ 4 ≤ (sealP K F k s e i t c L bo T O M P R).length := by
 unfold sealP
 rw [List.length_append, tl_length, body_len]
 obtain ⟨_, h | h | h⟩ := mayP_is h
 ·
  have := bytes_len h.2.1
  rw [if_neg (by rcases h.1 with h | h <;> omega), if_neg (by rcases h.1 with h | h <;> omega)]
  omega
 ·
  rw [if_pos h.1]; omega
 ·
  rw [if_neg (by omega), if_pos h.1]; omega
theorem okRead {l : List Int} (hb : By l) (hl : l.length < 5000) : pkt_Read.f l = some (readP l) := if_pos ⟨List.all_eq_true.2 fun x hx => decide_eq_true (hb x hx), hl⟩
/-- A packet that may be is read as it was written. -/
theorem read_seal {K F k s e i t c : Int} {L bo : List Int} {T O M P : Int} {R : List Int} (hbo : By bo) (h : mayP K F (mayB k s e i t c L bo.length) (bareB k s e i t c L bo) T O M P R = true) :
  pkt_Read.f (sealP K F k s e i t c L bo T O M P R) = some (K, F, k, s, e, i, t, c, L, bo, T, O, M, P, R, 0) := by
 rw [okRead (sealP_by hbo) (by have := (sealP_len h).1; omega)]
 unfold readP sealP
 rw [open_sealed]
 simp only []
 rw [if_pos trivial, read_body hbo h]; rfl
/-- What is read may be, and its bytes are those; or it is none. -/
theorem read_cases {l : List Int} (hb : By l) (hl : l.length < 5000) : (∃ (K F : Int) (p : PK), readP l = tell16 (some (K, F, p)) 0 ∧ mayP K F (mayB p.k p.s p.e p.i p.t p.c p.L p.bo.length) (bareB p.k p.s p.e p.i p.t p.c p.L p.bo) p.T p.O p.M p.P p.R = true ∧ sealP K F p.k p.s p.e p.i p.t p.c p.L p.bo p.T p.O p.M p.P p.R = l ∧ By p.bo) ∨ ∃ q : Int, q ≠ 0 ∧ readP l = tell16 none q := by
 unfold readP
 by_cases ho : (openS l).2 = 0
 ·
  rw [if_pos ho]
  have hi := open_inv ho
  have hc := open_by hb
  cases hr : readC (openS l).1 with
  | none => exact Or.inr ⟨2, by decide, rfl⟩
  | some x =>
   obtain ⟨K, F, p⟩ := x
   obtain ⟨h1, h2, h3⟩ := read_inv hc.1 (by omega) hr
   refine Or.inl ⟨K, F, p, rfl, h1, ?_, h3⟩
   unfold sealP
   rw [h2]; exact hi.symm
 ·
  rw [if_neg ho]; exact Or.inr ⟨_, ho, rfl⟩
theorem wf_may {K F k s e i t c : Int} {L bo : List Int} {T O M P : Int} {R : List Int} (hbo : By bo) (h : mayP K F (mayB k s e i t c L bo.length) (bareB k s e i t c L bo) T O M P R = true) : (Lit.int .i64 k).wf = true ∧ L.length < 10000 ∧ bo.length < 100000000 ∧ R.length < 10000 := by
 obtain ⟨_, h | h | h⟩ := mayP_is h
 ·
  obtain ⟨_, hit, _, _, _, _, rfl⟩ := h
  have h1 := mayB_head hit
  have h2 := may_len hit
  exact ⟨wf_kind h1.1.1 h1.1.2, by omega, by omega, by decide⟩
 ·
  obtain ⟨_, hba, _, _, _, _, rfl⟩ := h
  obtain ⟨rfl, rfl, rfl, rfl, rfl, rfl, rfl, rfl⟩ := bare_zero hba hbo
  exact ⟨by decide, by decide, by decide, by decide⟩
 ·
  obtain ⟨_, hba, _, _, _, _, hR, _⟩ := h
  obtain ⟨rfl, rfl, rfl, rfl, rfl, rfl, rfl, rfl⟩ := bare_zero hba hbo
  exact ⟨by decide, by decide, by decide, by omega⟩
theorem sameP_refl (K F k s e i t c : Int) (L bo : List Int) (T O M P : Int) (R : List Int) : sameP K F k s e i t c L bo T O M P R K F k s e i t c L bo T O M P R = true := by
 unfold sameP; rw [same_refl]; simp
theorem sameP_eq {K F k s e i t c : Int} {L bo : List Int} {T O M P : Int} {R : List Int} {K' F' k' s' e' i' t' c' : Int} {L' bo' : List Int} {T' O' M' P' : Int} {R' : List Int} (hb : By bo) (hb' : By bo')
  (h : sameP K F k s e i t c L bo T O M P R K' F' k' s' e' i' t' c' L' bo' T' O' M' P' R' = true) : sealP K F k s e i t c L bo T O M P R = sealP K' F' k' s' e' i' t' c' L' bo' T' O' M' P' R' := by
 unfold sameP at h
 simp only [Bool.and_eq_true, decide_eq_true_eq] at h
 obtain ⟨rfl, rfl, hs, rfl, rfl, rfl, rfl, rfl⟩ := h
 have := (same_iff hb hb').1 hs
 simp only [Prod.mk.injEq] at this
 obtain ⟨rfl, rfl, rfl, rfl, rfl, rfl, rfl, rfl⟩ := this
 rfl
/-- Two that may be are written alike just if they are the same. -/
theorem alike {K F k s e i t c : Int} {L bo : List Int} {T O M P : Int} {R : List Int} {K' F' k' s' e' i' t' c' : Int} {L' bo' : List Int} {T' O' M' P' : Int} {R' : List Int} (hb : By bo) (hb' : By bo')
  (h : mayP K F (mayB k s e i t c L bo.length) (bareB k s e i t c L bo) T O M P R = true) (h' : mayP K' F' (mayB k' s' e' i' t' c' L' bo'.length) (bareB k' s' e' i' t' c' L' bo') T' O' M' P' R' = true) :
  ((strOfNums (sealP K F k s e i t c L bo T O M P R)).toList == (strOfNums (sealP K' F' k' s' e' i' t' c' L' bo' T' O' M' P' R')).toList) = sameP K F k s e i t c L bo T O M P R K' F' k' s' e' i' t' c' L' bo' T' O' M' P' R' := by
 rw [Bool.eq_iff_iff, beq_iff_eq, str_eq (sealP_by hb) (sealP_by hb')]
 constructor
 ·
  intro he
  have h1 := read_seal hb h
  rw [he, read_seal hb' h'] at h1
  have h1 := Option.some.inj h1
  simp only [Prod.mk.injEq] at h1
  obtain ⟨rfl, rfl, rfl, rfl, rfl, rfl, rfl, rfl, rfl, rfl, rfl, rfl, rfl, rfl, rfl, _⟩ := h1
  exact sameP_refl _ _ _ _ _ _ _ _ _ _ _ _ _ _ _
 ·
  exact sameP_eq hb hb'
theorem read_nil : pkt_Read.f [] = some (0, 0, 0, 0, 0, 0, 0, 0, [], [], 0, 0, 0, 0, [], 2) := by kernel_rfl
end Go.Proofs.YtieolhhokepkjaaDoor.Print
