/- PktBack: that its call returns true, for every two packets and bytes. Conditions stand in each theorem. -/
import Derived.Test.YtieolhhokepkjaaDoorPP
import Derived.Test.YtieolhhokepkjaaDoorHandPB
import Derived.Test.YtieolhhokepkjaaDoorHandPR
import Derived.Test.YtieolhhokepkjaaDoorHandPS
namespace Go.Proofs.YtieolhhokepkjaaDoor.Print
set_option linter.unusedVariables false
set_option linter.unusedSimpArgs false
open Go.RowKit Go.Proofs.YtieolhhokepkjaaDoorW.PrintWords Go.Proofs.YtieolhhokepkjaaDoorW.PrintLast Go.Proofs.YtieolhhokepkjaaDoorW.PrintMore Go.Proofs.YtieolhhokepkjaaDoor.NumPlain Go.Proofs.YtieolhhokepkjaaDoor.Crc
theorem few4_is (K F k s e i t c : Int) (L bo : List Int) (T O M P : Int) (R : List Int) : precentorref04_Few.f K F k s e i t c L bo T O M P R = some (decide (L.length ≤ 80) && decide (bo.length ≤ 1100) && decide (R.length ≤ 80)) := by
  unfold precentorref04_Few.f
  rw [few_is, Option.bind_some]
  generalize (decide (L.length ≤ 80) && decide (bo.length ≤ 1100)) = z
  cases z
  · rw [if_neg Bool.false_ne_true, Bool.false_and]
  · rw [if_pos rfl, Bool.true_and]; exact congrArg some (decide_eq_decide.2 (by omega))
theorem body_len {K F k s e i t c : Int} {L bo : List Int} {T O M P : Int} {R : List Int} :
    (bodyP K F k s e i t c L bo T O M P R).length = if K = 3 then 13 else if K = 4 then 11 + 8 * R.length else 3 + (Print.bytesOf k s e i t c L bo).length := by
  have f8 := flat_length 8 R
  rw [show Int.toNat 8 = 8 from rfl] at f8
  unfold bodyP
  rw [List.length_append]
  split
  · simp [enc_length]
  · split
    · simp [enc_length, f8] <;> omega
    · simp <;> omega
end Go.Proofs.YtieolhhokepkjaaDoor.Print
namespace Go.Proofs.YtieolhhokepkjaaDoor.Print
set_option linter.unusedVariables false
set_option linter.unusedSimpArgs false
open Go.RowKit Go.Proofs.YtieolhhokepkjaaDoorW.PrintWords Go.Proofs.YtieolhhokepkjaaDoorW.PrintLast Go.Proofs.YtieolhhokepkjaaDoorW.PrintMore Go.Proofs.YtieolhhokepkjaaDoor.NumPlain Go.Proofs.YtieolhhokepkjaaDoor.Crc
theorem open_sealed (c : List Int) : openS (c ++ tl (sumOf c)) = (c, 0) := by
  have hlen : (c ++ tl (sumOf c)).length = c.length + 4 := by rw [List.length_append, tl_length]
  unfold openS
  rw [if_neg (by omega), hlen, Nat.add_sub_cancel, List.drop_left, List.take_left, if_pos rfl]
theorem open_inv {l : List Int} (h : (openS l).2 = 0) : l = (openS l).1 ++ tl (sumOf (openS l).1) := by
  unfold openS at h ⊢
  split at h
  · cases h
  · rename_i h4
    split at h
    · rename_i h5
      rw [if_neg h4, if_pos h5]
      show l = l.take (l.length - 4) ++ tl (sumOf (l.take (l.length - 4)))
      rw [← h5, List.take_append_drop]
    · cases h
theorem tkn_enc8 {n : Int} (h0 : 0 ≤ n) (h1 : n ≤ 4611686018427387904) (r : List Int) (hr : By r) : tkn (enc 8 n ++ r) 8 = (n, r, 0) := by
  have := takeS_enc (n := n) (W := 8) ⟨Or.inr (Or.inr rfl), h0, h1⟩ r
  unfold tkn
  rw [take_good (Or.inr (Or.inr rfl)) ((enc_by 8 n).append hr), show enc 8 n = enc (Int.toNat 8) n from rfl, this]; rfl
theorem tkn_enc1 {n : Int} (h0 : 0 ≤ n) (h1 : n ≤ 255) (r : List Int) (hr : By r) : tkn (enc 1 n ++ r) 1 = (n, r, 0) := by
  have := takeS_enc (n := n) (W := 1) ⟨Or.inl rfl, h0, h1⟩ r
  unfold tkn
  rw [take_good (Or.inl rfl) ((enc_by 1 n).append hr), show enc 1 n = enc (Int.toNat 1) n from rfl, this]; rfl
theorem tkn_inv8 {l : List Int} (hb : By l) {n : Int} {r : List Int} (h : tkn l 8 = (n, r, 0)) : l = enc 8 n ++ r := by
  unfold tkn at h
  rw [take_good (Or.inr (Or.inr rfl)) hb] at h
  cases hr : takeS l 8 with
  | none => rw [hr] at h; cases h
  | some p =>
    obtain ⟨m, s⟩ := p
    rw [hr] at h
    have h : (m, s, (0 : Int)) = (n, r, 0) := h
    have h1 := (Prod.mk.inj h).1
    have h2 := (Prod.mk.inj (Prod.mk.inj h).2).1
    have := (takeS_is (Or.inr (Or.inr rfl)) hb hr).2.1
    rw [this, h2, h1]; rfl
theorem tkn_inv1 {l : List Int} (hb : By l) {n : Int} {r : List Int} (h : tkn l 1 = (n, r, 0)) : l = enc 1 n ++ r := by
  unfold tkn at h
  rw [take_good (Or.inl rfl) hb] at h
  cases hr : takeS l 1 with
  | none => rw [hr] at h; cases h
  | some p =>
    obtain ⟨m, s⟩ := p
    rw [hr] at h
    have h : (m, s, (0 : Int)) = (n, r, 0) := h
    have h1 := (Prod.mk.inj h).1
    have h2 := (Prod.mk.inj (Prod.mk.inj h).2).1
    have := (takeS_is (Or.inl rfl) hb hr).2.1
    rw [this, h2, h1]; rfl
theorem tkn_ok8 {l : List Int} (hb : By l) (h : (tkn l 8).2.1 ≠ []) : l = enc 8 (tkn l 8).1 ++ (tkn l 8).2.1 := by
  unfold tkn at h ⊢
  rw [take_good (Or.inr (Or.inr rfl)) hb] at h ⊢
  cases hr : takeS l 8 with
  | none => rw [hr] at h; exact absurd rfl h
  | some p =>
    obtain ⟨m, s⟩ := p
    exact (takeS_is (Or.inr (Or.inr rfl)) hb hr).2.1
theorem tkn_ok1 {l : List Int} (hb : By l) (h : (tkn l 1).2.1 ≠ []) : l = enc 1 (tkn l 1).1 ++ (tkn l 1).2.1 := by
  unfold tkn at h ⊢
  rw [take_good (Or.inl rfl) hb] at h ⊢
  cases hr : takeS l 1 with
  | none => rw [hr] at h; exact absurd rfl h
  | some p =>
    obtain ⟨m, s⟩ := p
    exact (takeS_is (Or.inl rfl) hb hr).2.1
/-- An item's body, of bytes, is bytes. -/
theorem take_body_by {l : List Int} (hb : By l) (hl : l.length < 10000) {k s e i t c : Int} {L bo : List Int} (h : takeItem l = some (k, s, e, i, t, c, L, bo)) : By bo := by
  obtain ⟨hm, hbb⟩ := take_inv hb hl h
  have hK := mayB_head hm
  by_cases hk : k = 1
  · intro x hx
    refine hb x ?_
    rw [← hbb]
    unfold Print.bytesOf tailOf
    rw [if_pos hk]
    simp [hx]
  · obtain ⟨_, _, h1⟩ := may_is hm
    have : bo.length = 0 := by
      rcases h1 with h | h | h | h | h | h <;> simp_all
    rw [List.length_eq_zero_iff.1 this]
    exact fun _ h => absurd h List.not_mem_nil
theorem endE_zero {q : Int} {l : List Int} (h : endE q l = 0) : q = 0 ∧ l = [] := by
  unfold endE at h
  split at h
  · rename_i hq
    split at h
    · cases h
    · rename_i hl
      exact ⟨eq_of_beq hq, List.length_eq_zero_iff.1 (by omega)⟩
  · rename_i hq
    exact absurd (by rw [h]; rfl) hq
theorem endE_nil : endE 0 [] = 0 := rfl
/-- What stands behind a packet's head. -/
def partsP (K : Int) (p : PK) : List Int := if K = 3 then enc 1 p.T ++ enc 8 p.O ++ enc 1 p.M else if K = 4 then enc 8 p.P ++ flat 8 p.R else bytesOf p.k p.s p.e p.i p.t p.c p.L p.bo
theorem bare_zero {k s e i t c : Int} {L bo : List Int} (h : bareB k s e i t c L bo = true) (hb : By bo) : k = 0 ∧ s = 0 ∧ e = 0 ∧ i = 0 ∧ t = 0 ∧ c = 0 ∧ L = [] ∧ bo = [] := by
  have := (same_iff (k := k) (s := s) (e := e) (i := i) (t := t) (c := c) (L := L) (k' := 0) (s' := 0) (e' := 0) (i' := 0) (t' := 0) (c' := 0) (L' := []) hb (fun _ h => absurd h List.not_mem_nil : By [])).1 h
  simpa only [Prod.mk.injEq] using this
/-- Which packets may be. -/
theorem mayP_is {K F k s e i t c : Int} {L bo : List Int} {T O M P : Int} {R : List Int} (h : mayP K F (mayB k s e i t c L bo.length) (bareB k s e i t c L bo) T O M P R = true) :
    (0 ≤ F ∧ F ≤ 63) ∧ (((K = 1 ∨ K = 2) ∧ mayB k s e i t c L bo.length = true ∧ T = 0 ∧ O = 0 ∧ M = 0 ∧ P = 0 ∧ R = []) ∨
      (K = 3 ∧ bareB k s e i t c L bo = true ∧ (0 ≤ T ∧ T ≤ 63) ∧ (1 ≤ O ∧ O ≤ 4611686018427387904) ∧ (1 ≤ M ∧ M ≤ 64) ∧ P = 0 ∧ R = []) ∨
      (K = 4 ∧ bareB k s e i t c L bo = true ∧ T = 0 ∧ O = 0 ∧ M = 0 ∧ (0 ≤ P ∧ P ≤ 4611686018427387904) ∧ (2 ≤ R.length ∧ R.length ≤ 64) ∧ ∀ x ∈ R, 0 ≤ x ∧ x ≤ 4611686018427387904)) := by
  unfold mayP wi each wi at h
  rw [Bool.and_eq_true, decide_eq_true_eq] at h
  refine ⟨h.1, ?_⟩
  have h := h.2
  by_cases h1 : K = 1 ∨ K = 2
  · rw [if_pos h1] at h
    simp only [Bool.and_eq_true, decide_eq_true_eq] at h
    exact Or.inl ⟨h1, h.1, h.2.1, h.2.2.1, h.2.2.2.1, h.2.2.2.2.1, List.length_eq_zero_iff.1 h.2.2.2.2.2⟩
  rw [if_neg h1] at h
  by_cases h3 : K = 3
  · rw [if_pos h3] at h
    simp only [Bool.and_eq_true, decide_eq_true_eq] at h
    exact Or.inr (Or.inl ⟨h3, h.1, h.2.1, h.2.2.1, h.2.2.2.1, h.2.2.2.2.1, List.length_eq_zero_iff.1 h.2.2.2.2.2⟩)
  rw [if_neg h3] at h
  by_cases h4 : K = 4
  · rw [if_pos h4] at h
    simp only [Bool.and_eq_true, decide_eq_true_eq, List.all_eq_true] at h
    exact Or.inr (Or.inr ⟨h4, h.2.1, h.2.2.1, h.2.2.2.1, h.2.2.2.2.1, h.2.2.2.2.2.1, by omega, h.1⟩)
  · rw [if_neg h4] at h; cases h
/-- What stands behind the head says the packet's parts. -/
theorem rest_parts {K F k s e i t c : Int} {L bo : List Int} {T O M P : Int} {R : List Int} (hbo : By bo) (h : mayP K F (mayB k s e i t c L bo.length) (bareB k s e i t c L bo) T O M P R = true) :
    restP K (partsP K ⟨k, s, e, i, t, c, L, bo, T, O, M, P, R⟩) = (⟨k, s, e, i, t, c, L, bo, T, O, M, P, R⟩, 0) := by
  obtain ⟨_, h | h | h⟩ := mayP_is h
  · obtain ⟨h1, hit, rfl, rfl, rfl, rfl, rfl⟩ := h
    unfold restP partsP
    rw [if_pos h1, if_neg (by rcases h1 with h | h <;> omega), if_neg (by rcases h1 with h | h <;> omega)]
    simp only []
    rw [take_bytes hit]; rfl
  · obtain ⟨rfl, hba, hT, hO, hM, rfl, rfl⟩ := h
    obtain ⟨rfl, rfl, rfl, rfl, rfl, rfl, rfl, rfl⟩ := bare_zero hba hbo
    have e1 := tkn_enc1 (n := T) (by omega) (by omega) (enc 8 O ++ enc 1 M) ((enc_by 8 O).append (enc_by 1 M))
    have e2 := tkn_enc8 (n := O) (by omega) (by omega) (enc 1 M) (enc_by 1 M)
    have e3 := tkn_enc1 (n := M) (by omega) (by omega) [] (fun _ h => absurd h List.not_mem_nil)
    rw [List.append_nil] at e3
    unfold restP partsP nakPK
    rw [if_neg (by omega), if_pos rfl, if_pos rfl]
    simp only [List.append_assoc]
    rw [e1]
    simp only []
    rw [e2]
    simp only []
    rw [e3]; rfl
  · obtain ⟨rfl, hba, rfl, rfl, rfl, hP, hR, hRx⟩ := h
    obtain ⟨rfl, rfl, rfl, rfl, rfl, rfl, rfl, rfl⟩ := bare_zero hba hbo
    have e1 := tkn_enc8 (n := P) hP.1 hP.2 (flat 8 R) (flat_by 8 R)
    have e2 := rowT_flat (W := 8) (L := R) (Or.inr (Or.inr rfl)) (fun x hx => ⟨Or.inr (Or.inr rfl), (hRx x hx).1, (hRx x hx).2⟩) (by omega)
    unfold restP partsP stabPK
    rw [if_neg (by omega), if_neg (by omega), if_pos rfl, if_neg (by omega), if_pos rfl]
    simp only []
    rw [e1]
    simp only []
    rw [e2]; rfl
theorem body_parts {K F k s e i t c : Int} {L bo : List Int} {T O M P : Int} {R : List Int} : bodyP K F k s e i t c L bo T O M P R = [165, K % 256, F % 256] ++ partsP K ⟨k, s, e, i, t, c, L, bo, T, O, M, P, R⟩ := rfl
/-- BACK, one way: a packet that may be is read as it was written. -/
theorem read_body {K F k s e i t c : Int} {L bo : List Int} {T O M P : Int} {R : List Int} (hbo : By bo) (h : mayP K F (mayB k s e i t c L bo.length) (bareB k s e i t c L bo) T O M P R = true) :
    readC (bodyP K F k s e i t c L bo T O M P R) = some (K, F, ⟨k, s, e, i, t, c, L, bo, T, O, M, P, R⟩) := by
  have hF := (mayP_is h).1
  have hK : 0 ≤ K ∧ K ≤ 255 := by obtain ⟨_, h | h | h⟩ := mayP_is h <;> omega
  have hr := rest_parts hbo h
  rw [body_parts, Int.emod_eq_of_lt hK.1 (by omega), Int.emod_eq_of_lt hF.1 (by omega)]
  unfold readC
  rw [show rd ([165, K, F] ++ partsP K ⟨k, s, e, i, t, c, L, bo, T, O, M, P, R⟩) 0 = 165 from rfl, show rd ([165, K, F] ++ partsP K ⟨k, s, e, i, t, c, L, bo, T, O, M, P, R⟩) 1 = K from rfl, show rd ([165, K, F] ++ partsP K ⟨k, s, e, i, t, c, L, bo, T, O, M, P, R⟩) 2 = F from rfl,
    show ([165, K, F] ++ partsP K ⟨k, s, e, i, t, c, L, bo, T, O, M, P, R⟩).drop 3 = partsP K ⟨k, s, e, i, t, c, L, bo, T, O, M, P, R⟩ from rfl, hr, if_neg (by simp), if_pos rfl, if_pos rfl]
  simp only []
  rw [if_pos h]
/-- BACK, the other way: what is read may be, and its bytes are those. -/
theorem read_inv {c : List Int} (hb : By c) (hl : c.length < 5000) {K F : Int} {p : PK} (h : readC c = some (K, F, p)) :
    mayP K F (mayB p.k p.s p.e p.i p.t p.c p.L p.bo.length) (bareB p.k p.s p.e p.i p.t p.c p.L p.bo) p.T p.O p.M p.P p.R = true ∧ bodyP K F p.k p.s p.e p.i p.t p.c p.L p.bo p.T p.O p.M p.P p.R = c ∧ By p.bo := by
  unfold readC at h
  by_cases h3 : c.length < 3
  · rw [if_pos h3] at h; cases h
  rw [if_neg h3] at h
  by_cases hm : rd c 0 = 165
  · rw [if_pos hm] at h
    obtain ⟨x0, x1, x2, l, rfl⟩ : ∃ a b d l, c = a :: b :: d :: l := by
      rcases c with _ | ⟨a, _ | ⟨b, _ | ⟨d, l⟩⟩⟩
      · simp at h3
      · simp at h3
      · simp at h3
      · exact ⟨a, b, d, l, rfl⟩
    have hm : x0 = 165 := hm
    subst hm
    have hx1 := hb x1 (by simp)
    have hx2 := hb x2 (by simp)
    have hbl : By l := fun x hx => hb x (by simp [hx])
    have hll : l.length < 5000 := by simp at hl; omega
    rw [show rd (165 :: x1 :: x2 :: l) 1 = x1 from rfl, show rd (165 :: x1 :: x2 :: l) 2 = x2 from rfl, show (165 :: x1 :: x2 :: l).drop 3 = l from rfl] at h
    by_cases hq : (restP x1 l).2 = 0
    · rw [if_pos hq] at h
      split at h
      · rename_i hmay
        simp only [Option.some.injEq, Prod.mk.injEq] at h
        obtain ⟨rfl, rfl, rfl⟩ := h
        have key : partsP x1 (restP x1 l).1 = l ∧ By (restP x1 l).1.bo := by
          obtain ⟨_, hk⟩ := mayP_is hmay
          have hb0 : By ([] : List Int) := fun _ h => absurd h List.not_mem_nil
          clear hmay hb hl
          unfold partsP
          rcases hk with ⟨h1, _⟩ | ⟨h1, _⟩ | ⟨h1, _, _, _, _, _, hRl, _⟩
          · have hv : restP x1 l = (itemPK (tell9 (takeItem l)), (tell9 (takeItem l)).2.2.2.2.2.2.2.2) := by unfold restP; rw [if_pos h1]
            rw [hv] at hq ⊢
            rw [if_neg (by rcases h1 with h | h <;> omega), if_neg (by rcases h1 with h | h <;> omega)]
            cases ht : takeItem l with
            | none => rw [ht] at hq; cases hq
            | some y =>
              obtain ⟨k', s', e', i', t', c', L', bo'⟩ := y
              obtain ⟨hm', hbb⟩ := take_inv hbl (by omega) ht
              exact ⟨hbb, take_body_by hbl (by omega) ht⟩
          · subst h1
            have hv : restP 3 l = (nakPK l, endE (tkn (tkn (tkn l 1).2.1 8).2.1 1).2.2 (tkn (tkn (tkn l 1).2.1 8).2.1 1).2.1) := by unfold restP; rw [if_neg (by omega), if_pos rfl]
            rw [hv] at hq ⊢
            rw [if_pos rfl]
            obtain ⟨hq1, hq2⟩ := endE_zero hq
            have hb1 := (tkn_by hbl 1).1
            have hb2 := (tkn_by hb1 8).1
            have e3 : tkn (tkn (tkn l 1).2.1 8).2.1 1 = ((tkn (tkn (tkn l 1).2.1 8).2.1 1).1, [], 0) := Prod.ext rfl (Prod.ext hq2 hq1)
            have e3' := tkn_inv1 hb2 e3
            have e2 := tkn_ok8 hb1 (by rw [e3']; simp [enc])
            have e1 := tkn_ok1 hbl (by rw [e2]; simp [enc])
            refine ⟨?_, hb0⟩
            show enc 1 (tkn l 1).1 ++ enc 8 (tkn (tkn l 1).2.1 8).1 ++ enc 1 (tkn (tkn (tkn l 1).2.1 8).2.1 1).1 = l
            rw [List.append_nil] at e3'
            rw [List.append_assoc, ← e3', ← e2, ← e1]
          · subst h1
            have hv : restP 4 l = (stabPK l, endE (rowT 8 (tkn l 8).2.1).2.2 (rowT 8 (tkn l 8).2.1).2.1) := by unfold restP; rw [if_neg (by omega), if_neg (by omega), if_pos rfl]
            rw [hv] at hq hRl ⊢
            rw [if_neg (by omega), if_pos rfl]
            obtain ⟨hq1, hq2⟩ := endE_zero hq
            have hb1 := tkn_by hbl 8
            have e2 := rowT_inv (W := 8) (L := (rowT 8 (tkn l 8).2.1).1) (Or.inr (Or.inr rfl)) hb1.1 (by omega) (Prod.ext rfl (Prod.ext hq2 hq1))
            refine ⟨?_, hb0⟩
            show enc 8 (tkn l 8).1 ++ flat 8 (rowT 8 (tkn l 8).2.1).1 = l
            have hne : (tkn l 8).2.1 ≠ [] := by
              intro h0
              have h5 : (rowT 8 (tkn l 8).2.1).1 = [] := by rw [h0]; decide +kernel
              have hRl : 2 ≤ (rowT 8 (tkn l 8).2.1).1.length := hRl.1
              rw [h5] at hRl; simp at hRl
            rw [← e2]
            exact (tkn_ok8 hbl hne).symm
        refine ⟨hmay, ?_, key.2⟩
        obtain ⟨hF, _⟩ := mayP_is hmay
        have : bodyP x1 x2 (restP x1 l).1.k (restP x1 l).1.s (restP x1 l).1.e (restP x1 l).1.i (restP x1 l).1.t (restP x1 l).1.c (restP x1 l).1.L (restP x1 l).1.bo (restP x1 l).1.T (restP x1 l).1.O (restP x1 l).1.M (restP x1 l).1.P (restP x1 l).1.R = [165, x1 % 256, x2 % 256] ++ partsP x1 (restP x1 l).1 := rfl
        rw [this, key.1, Int.emod_eq_of_lt hx1.1 (by omega), Int.emod_eq_of_lt hx2.1 (by omega)]; rfl
      · cases h
    · rw [if_neg hq] at h; cases h
  · rw [if_neg hm] at h; cases h
end Go.Proofs.YtieolhhokepkjaaDoor.Print
namespace Go.Proofs.YtieolhhokepkjaaDoor.Print
set_option linter.unusedVariables false
set_option linter.unusedSimpArgs false
open Go.RowKit Go.Proofs.YtieolhhokepkjaaDoorW.PrintWords Go.Proofs.YtieolhhokepkjaaDoorW.PrintLast Go.Proofs.YtieolhhokepkjaaDoorW.PrintMore Go.Proofs.YtieolhhokepkjaaDoor.NumPlain Go.Proofs.YtieolhhokepkjaaDoor.Crc
theorem tl_is_by (l : List Int) : By (tl (sumOf l)) := fun x hx => by
  simp only [tl, List.mem_cons, List.not_mem_nil, or_false] at hx
  omega
theorem bodyP_by {K F k s e i t c : Int} {L bo : List Int} {T O M P : Int} {R : List Int} (hb : By bo) : By (bodyP K F k s e i t c L bo T O M P R) := by
  have h0 : By [165, K % 256, F % 256] := fun x hx => by
    simp only [List.mem_cons, List.not_mem_nil, or_false] at hx
    omega
  unfold bodyP
  refine h0.append ?_
  split
  · exact ((enc_by 1 T).append (enc_by 8 O)).append (enc_by 1 M)
  · split
    · exact (enc_by 8 P).append (flat_by 8 R)
    · exact by_bytes k s e i t c L hb
/-- A packet's bytes. -/
def sealP (K F k s e i t c : Int) (L bo : List Int) (T O M P : Int) (R : List Int) : List Int := bodyP K F k s e i t c L bo T O M P R ++ tl (sumOf (bodyP K F k s e i t c L bo T O M P R))
theorem sealP_by {K F k s e i t c : Int} {L bo : List Int} {T O M P : Int} {R : List Int} (hb : By bo) : By (sealP K F k s e i t c L bo T O M P R) := (bodyP_by hb).append (tl_is_by _)
theorem sealP_len {K F k s e i t c : Int} {L bo : List Int} {T O M P : Int} {R : List Int} (h : mayP K F (mayB k s e i t c L bo.length) (bareB k s e i t c L bo) T O M P R = true) : (sealP K F k s e i t c L bo T O M P R).length < 2000 ∧ 4 ≤ (sealP K F k s e i t c L bo T O M P R).length := by
  unfold sealP
  rw [List.length_append, tl_length, body_len]
  obtain ⟨_, h | h | h⟩ := mayP_is h
  · have := bytes_len h.2.1
    rw [if_neg (by rcases h.1 with h | h <;> omega), if_neg (by rcases h.1 with h | h <;> omega)]
    omega
  · rw [if_pos h.1]; omega
  · rw [if_neg (by omega), if_pos h.1]; omega
theorem okRead {l : List Int} (hb : By l) (hl : l.length < 5000) : pkt_Read.f l = some (readP l) := if_pos ⟨List.all_eq_true.2 fun x hx => decide_eq_true (hb x hx), hl⟩
/-- A packet that may be is read as it was written. -/
theorem read_seal {K F k s e i t c : Int} {L bo : List Int} {T O M P : Int} {R : List Int} (hbo : By bo) (h : mayP K F (mayB k s e i t c L bo.length) (bareB k s e i t c L bo) T O M P R = true) :
    pkt_Read.f (sealP K F k s e i t c L bo T O M P R) = some (K, F, k, s, e, i, t, c, L, bo, T, O, M, P, R, 0) := by
  rw [okRead (sealP_by hbo) (by have := (sealP_len h).1; omega)]
  unfold readP sealP
  rw [open_sealed]
  simp only []
  rw [if_pos trivial, read_body hbo h]; rfl
/-- What is read may be, and its bytes are those; or it is none. -/
theorem read_cases {l : List Int} (hb : By l) (hl : l.length < 5000) : (∃ (K F : Int) (p : PK), readP l = tell16 (some (K, F, p)) 0 ∧ mayP K F (mayB p.k p.s p.e p.i p.t p.c p.L p.bo.length) (bareB p.k p.s p.e p.i p.t p.c p.L p.bo) p.T p.O p.M p.P p.R = true ∧ sealP K F p.k p.s p.e p.i p.t p.c p.L p.bo p.T p.O p.M p.P p.R = l ∧ By p.bo) ∨ ∃ q : Int, q ≠ 0 ∧ readP l = tell16 none q := by
  unfold readP
  by_cases ho : (openS l).2 = 0
  · rw [if_pos ho]
    have hi := open_inv ho
    have hc := open_by hb
    cases hr : readC (openS l).1 with
    | none => exact Or.inr ⟨2, by decide, rfl⟩
    | some x =>
      obtain ⟨K, F, p⟩ := x
      obtain ⟨h1, h2, h3⟩ := read_inv hc.1 (by omega) hr
      refine Or.inl ⟨K, F, p, rfl, h1, ?_, h3⟩
      unfold sealP
      rw [h2]; exact hi.symm
  · rw [if_neg ho]; exact Or.inr ⟨_, ho, rfl⟩
theorem wf_may {K F k s e i t c : Int} {L bo : List Int} {T O M P : Int} {R : List Int} (hbo : By bo) (h : mayP K F (mayB k s e i t c L bo.length) (bareB k s e i t c L bo) T O M P R = true) : (Lit.int .i64 k).wf = true ∧ L.length < 10000 ∧ bo.length < 100000000 ∧ R.length < 10000 := by
  obtain ⟨_, h | h | h⟩ := mayP_is h
  · obtain ⟨_, hit, _, _, _, _, rfl⟩ := h
    have h1 := mayB_head hit
    have h2 := may_len hit
    exact ⟨wf_kind h1.1.1 h1.1.2, by omega, by omega, by decide⟩
  · obtain ⟨_, hba, _, _, _, _, rfl⟩ := h
    obtain ⟨rfl, rfl, rfl, rfl, rfl, rfl, rfl, rfl⟩ := bare_zero hba hbo
    exact ⟨by decide, by decide, by decide, by decide⟩
  · obtain ⟨_, hba, _, _, _, _, hR, _⟩ := h
    obtain ⟨rfl, rfl, rfl, rfl, rfl, rfl, rfl, rfl⟩ := bare_zero hba hbo
    exact ⟨by decide, by decide, by decide, by omega⟩
theorem sameP_refl (K F k s e i t c : Int) (L bo : List Int) (T O M P : Int) (R : List Int) : sameP K F k s e i t c L bo T O M P R K F k s e i t c L bo T O M P R = true := by
  unfold sameP; rw [same_refl]; simp
theorem sameP_eq {K F k s e i t c : Int} {L bo : List Int} {T O M P : Int} {R : List Int} {K' F' k' s' e' i' t' c' : Int} {L' bo' : List Int} {T' O' M' P' : Int} {R' : List Int} (hb : By bo) (hb' : By bo')
    (h : sameP K F k s e i t c L bo T O M P R K' F' k' s' e' i' t' c' L' bo' T' O' M' P' R' = true) : sealP K F k s e i t c L bo T O M P R = sealP K' F' k' s' e' i' t' c' L' bo' T' O' M' P' R' := by
  unfold sameP at h
  simp only [Bool.and_eq_true, decide_eq_true_eq] at h
  obtain ⟨rfl, rfl, hs, rfl, rfl, rfl, rfl, rfl⟩ := h
  have := (same_iff hb hb').1 hs
  simp only [Prod.mk.injEq] at this
  obtain ⟨rfl, rfl, rfl, rfl, rfl, rfl, rfl, rfl⟩ := this
  rfl
/-- Two that may be are written alike just if they are the same. -/
theorem alike {K F k s e i t c : Int} {L bo : List Int} {T O M P : Int} {R : List Int} {K' F' k' s' e' i' t' c' : Int} {L' bo' : List Int} {T' O' M' P' : Int} {R' : List Int} (hb : By bo) (hb' : By bo')
    (h : mayP K F (mayB k s e i t c L bo.length) (bareB k s e i t c L bo) T O M P R = true) (h' : mayP K' F' (mayB k' s' e' i' t' c' L' bo'.length) (bareB k' s' e' i' t' c' L' bo') T' O' M' P' R' = true) :
    ((strOfNums (sealP K F k s e i t c L bo T O M P R)).toList == (strOfNums (sealP K' F' k' s' e' i' t' c' L' bo' T' O' M' P' R')).toList) = sameP K F k s e i t c L bo T O M P R K' F' k' s' e' i' t' c' L' bo' T' O' M' P' R' := by
  rw [Bool.eq_iff_iff, beq_iff_eq, str_eq (sealP_by hb) (sealP_by hb')]
  constructor
  · intro he
    have h1 := read_seal hb h
    rw [he, read_seal hb' h'] at h1
    have h1 := Option.some.inj h1
    simp only [Prod.mk.injEq] at h1
    obtain ⟨rfl, rfl, rfl, rfl, rfl, rfl, rfl, rfl, rfl, rfl, rfl, rfl, rfl, rfl, rfl, _⟩ := h1
    exact sameP_refl _ _ _ _ _ _ _ _ _ _ _ _ _ _ _
  · exact sameP_eq hb hb'
theorem read_nil : pkt_Read.f [] = some (0, 0, 0, 0, 0, 0, 0, 0, [], [], 0, 0, 0, 0, [], 2) := by kernel_rfl
end Go.Proofs.YtieolhhokepkjaaDoor.Print
namespace Go.Proofs.YtieolhhokepkjaaDoor.Print
set_option linter.unusedVariables false
set_option linter.unusedSimpArgs false
open Go.RowKit Go.Proofs.YtieolhhokepkjaaDoorW.PrintWords Go.Proofs.YtieolhhokepkjaaDoorW.PrintLast Go.Proofs.YtieolhhokepkjaaDoorW.PrintMore Go.Proofs.YtieolhhokepkjaaDoor.NumPlain
theorem boxes15 (w : World) (cs ds : Array Value) : ∃ w0 : World, (w.alloc (Obj.cells cs 27)).alloc (Obj.cells ds 27) = w0 ∧ Below w.heap.size w w0 ∧
    w0.heap[w.heap.size]? = some (.cells cs 27 (0, 0)) ∧ w0.heap[w.heap.size + 1]? = some (.cells ds 27 (0, 0)) :=
  ⟨_, rfl, below_alloc (below_alloc (Below.refl _ _) _) _, blk_alloc (blk_new w _) _, by have := blk_new (w.alloc (Obj.cells cs 27)) (Obj.cells ds 27); simpa using this⟩
set_option maxRecDepth 100000 in
set_option maxHeartbeats 4000000 in
theorem precentorref04_Same.is (K F k s e i t c : Int) (A8 : Option Addr) (c8 : Nat) (L : List Int) (A9 : Option Addr) (c9 : Nat) (bo : List Int) (T O M P : Int) (A14 : Option Addr) (c14 : Nat) (R : List Int) (K' F' k' s' e' i' t' c' : Int) (B8 : Option Addr) (d8 : Nat) (L' : List Int) (B9 : Option Addr) (d9 : Nat) (bo' : List Int) (T' O' M' P' : Int) (B14 : Option Addr) (d14 : Nat) (R' : List Int) (w : World) (h8 : Kd.C (Kd.int .i64) w A8 L.length L) (l8 : L.length ≤ c8) (h9 : Kd.C (Kd.int .u8) w A9 bo.length bo) (l9 : bo.length ≤ c9) (h14 : Kd.C (Kd.int .i64) w A14 R.length R) (l14 : R.length ≤ c14) (g8 : Kd.C (Kd.int .i64) w B8 L'.length L') (m8 : L'.length ≤ d8) (g9 : Kd.C (Kd.int .u8) w B9 bo'.length bo') (m9 : bo'.length ≤ d9) (g14 : Kd.C (Kd.int .i64) w B14 R'.length R') (m14 : R'.length ≤ d14) (hL : L.length < 10000) (hR : R.length < 10000) (q : Bool) (hq : sameP K F k s e i t c L bo T O M P R K' F' k' s' e' i' t' c' L' bo' T' O' M' P' R' = q) :
    Calls Tryd.prog 16 #[.agg #[.int .i64 K, .int .i64 F, .int .i64 k, .int .i64 s, .int .i64 e, .int .i64 i, .int .i64 t, .int .i64 c, .slice A8 L.length c8, .slice A9 bo.length c9, .int .i64 T, .int .i64 O, .int .i64 M, .int .i64 P, .slice A14 R.length c14], .agg #[.int .i64 K', .int .i64 F', .int .i64 k', .int .i64 s', .int .i64 e', .int .i64 i', .int .i64 t', .int .i64 c', .slice B8 L'.length d8, .slice B9 bo'.length d9, .int .i64 T', .int .i64 O', .int .i64 M', .int .i64 P', .slice B14 R'.length d14]] w fun e' w' => e' = .returned (.bool q) ∧ Below w.heap.size w w' := by
  obtain ⟨w0, hw0, hB0, X0, Y0⟩ := boxes15 w #[.int .i64 K, .int .i64 F, .int .i64 k, .int .i64 s, .int .i64 e, .int .i64 i, .int .i64 t, .int .i64 c, .slice A8 L.length c8, .slice A9 bo.length c9, .int .i64 T, .int .i64 O, .int .i64 M, .int .i64 P, .slice A14 R.length c14] #[.int .i64 K', .int .i64 F', .int .i64 k', .int .i64 s', .int .i64 e', .int .i64 i', .int .i64 t', .int .i64 c', .slice B8 L'.length d8, .slice B9 bo'.length d9, .int .i64 T', .int .i64 O', .int .i64 M', .int .i64 P', .slice B14 R'.length d14]
  have HB0 := Aside0.mk hB0
  obtain ⟨⟨q0, q1, q2, q3, q4, q5, q6, q7, q8, q9, q10, q11, q12, q13, q14⟩, _⟩ := cells15 X0
  obtain ⟨⟨p0, p1, p2, p3, p4, p5, p6, p7, p8, p9, p10, p11, p12, p13, p14⟩, _⟩ := cells15 Y0
  have HIT := Lib.hid (show Calls Tryd.prog 32 #[.agg #[.int .i64 k, .int .i64 s, .int .i64 e, .int .i64 i, .int .i64 t, .int .i64 c, .slice A8 L.length c8, .slice A9 bo.length c9], .agg #[.int .i64 k', .int .i64 s', .int .i64 e', .int .i64 i', .int .i64 t', .int .i64 c', .slice B8 L'.length d8, .slice B9 bo'.length d9]] w0 _ from precentorref03_Same.calls k s e i t c A8 c8 L A9 c9 bo k' s' e' i' t' c' B8 d8 L' B9 d9 bo' (sameB k s e i t c L bo k' s' e' i' t' c' L' bo') w0 (Kd.C_below h8 hB0) l8 (Kd.C_below h9 hB0) l9 (Kd.C_below g8 hB0) m8 (Kd.C_below g9 hB0) m9 (if_pos hL))
  have HRW := Lib.hid (show ∀ W, Below w0.heap.size w0 W → Calls Tryd.prog 36 #[.slice A14 R.length c14, .slice B14 R'.length d14] W _ from fun W hb => precentorref02_Same.calls 10000 A14 c14 R B14 d14 R' (decide (R = R')) W (Kd.C_below (Kd.C_below h14 hB0) hb) l14 (Kd.C_below (Kd.C_below g14 hB0) hb) m14 (same_is hR hR))
  unfold sameP at hq
  generalize sameB k s e i t c L bo k' s' e' i' t' c' L' bo' = it at *
  obtain ⟨dr, hdr⟩ : ∃ b, decide (R = R') = b := ⟨_, rfl⟩
  rw [hdr] at hq HRW
  clear hB0 X0 Y0 h8 h9 h14 l8 l9 l14 g8 g9 g14 m8 m9 m14 hL hR hdr
  go_enter Tryd.func16, Tryd.ntmps16
  go_wp2_with fail
  refine HIT.out.mono ?_
  rintro e1 w1 ⟨rfl, hb1⟩
  have HCT := Lib.hid (HRW.out w1 hb1)
  have y0 := pw_cell_below hb1 q0
  have y1 := pw_cell_below hb1 q1
  have y10 := pw_cell_below hb1 q10
  have y11 := pw_cell_below hb1 q11
  have y12 := pw_cell_below hb1 q12
  have y13 := pw_cell_below hb1 q13
  have y14 := pw_cell_below hb1 q14
  have z0 := pw_cell_below hb1 p0
  have z1 := pw_cell_below hb1 p1
  have z10 := pw_cell_below hb1 p10
  have z11 := pw_cell_below hb1 p11
  have z12 := pw_cell_below hb1 p12
  have z13 := pw_cell_below hb1 p13
  have z14 := pw_cell_below hb1 p14
  have HB := Aside0.mk (below_step HB0.out hb1)
  clear hb1 HIT HRW hw0 q0 p0 q1 p1 q2 p2 q3 p3 q4 p4 q5 p5 q6 p6 q7 p7 q8 p8 q9 p9 q10 p10 q11 p11 q12 p12 q13 p13 q14 p14
  go_wp2_with fail
  refine HCT.out.mono ?_
  rintro e2 w2 ⟨rfl, ⟨⟨nq, rfl⟩⟩⟩
  clear HCT
  cases it
  · simp only [Bool.and_false, Bool.false_and, Bool.true_and] at hq
    subst hq
    go_wp2_with fail
    go_ret
    exact ⟨rfl, pw_below_drewN HB.out nq⟩
  cases dr
  · simp only [Bool.and_false, Bool.false_and, Bool.true_and] at hq
    subst hq
    go_wp2_with fail
    go_ret
    exact ⟨rfl, pw_below_drewN HB.out nq⟩
  by_cases hK : K = K'
  rotate_left
  · rw [decide_eq_false hK] at hq
    simp only [Bool.and_false, Bool.false_and, Bool.true_and] at hq
    subst hq
    have b : (K == K') = false := beq_eq_false_iff_ne.2 hK
    clear hK
    go_wp2_with fail
    go_ret
    exact ⟨rfl, pw_below_drewN HB.out nq⟩
  rw [decide_eq_true hK] at hq
  subst hK
  by_cases hF : F = F'
  rotate_left
  · rw [decide_eq_false hF] at hq
    simp only [Bool.and_false, Bool.false_and, Bool.true_and] at hq
    subst hq
    have b : (F == F') = false := beq_eq_false_iff_ne.2 hF
    clear hF
    go_wp2_with fail
    go_ret
    exact ⟨rfl, pw_below_drewN HB.out nq⟩
  rw [decide_eq_true hF] at hq
  subst hF
  by_cases hT : T = T'
  rotate_left
  · rw [decide_eq_false hT] at hq
    simp only [Bool.and_false, Bool.false_and, Bool.true_and] at hq
    subst hq
    have b : (T == T') = false := beq_eq_false_iff_ne.2 hT
    clear hT
    go_wp2_with fail
    go_ret
    exact ⟨rfl, pw_below_drewN HB.out nq⟩
  rw [decide_eq_true hT] at hq
  subst hT
  by_cases hO : O = O'
  rotate_left
  · rw [decide_eq_false hO] at hq
    simp only [Bool.and_false, Bool.false_and, Bool.true_and] at hq
    subst hq
    have b : (O == O') = false := beq_eq_false_iff_ne.2 hO
    clear hO
    go_wp2_with fail
    go_ret
    exact ⟨rfl, pw_below_drewN HB.out nq⟩
  rw [decide_eq_true hO] at hq
  subst hO
  by_cases hM : M = M'
  rotate_left
  · rw [decide_eq_false hM] at hq
    simp only [Bool.and_false, Bool.false_and, Bool.true_and] at hq
    subst hq
    have b : (M == M') = false := beq_eq_false_iff_ne.2 hM
    clear hM
    go_wp2_with fail
    go_ret
    exact ⟨rfl, pw_below_drewN HB.out nq⟩
  rw [decide_eq_true hM] at hq
  subst hM
  simp only [Bool.and_true, Bool.true_and] at hq
  have b : (P == P') = q := by rw [← hq, Bool.eq_iff_iff, beq_iff_eq, decide_eq_true_eq]
  clear hq
  go_wp2_with fail
  go_ret
  exact ⟨rfl, pw_below_drewN HB.out nq⟩
def precentorref04_Same.f (n : Nat) (K F k s e i t c : Int) (L bo : List Int) (T O M P : Int) (R : List Int) (K' F' k' s' e' i' t' c' : Int) (L' bo' : List Int) (T' O' M' P' : Int) (R' : List Int) : Option Bool := if L.length < 10000 ∧ R.length < 10000 then some (sameP K F k s e i t c L bo T O M P R K' F' k' s' e' i' t' c' L' bo' T' O' M' P' R') else none
theorem precentorref04_Same.mono : ∀ K F k s e i t c L bo T O M P R K' F' k' s' e' i' t' c' L' bo' T' O' M' P' R' n, LeO (precentorref04_Same.f n K F k s e i t c L bo T O M P R K' F' k' s' e' i' t' c' L' bo' T' O' M' P' R') (precentorref04_Same.f (n + 1) K F k s e i t c L bo T O M P R K' F' k' s' e' i' t' c' L' bo' T' O' M' P' R') := fun _ _ _ _ _ _ _ _ _ _ _ _ _ _ _ _ _ _ _ _ _ _ _ _ _ _ _ _ _ _ _ => fun _ h => h
theorem precentorref04_Same.calls (n : Nat) (K F k s e i t c : Int) (A8 : Option Addr) (c8 : Nat) (L : List Int) (A9 : Option Addr) (c9 : Nat) (bo : List Int) (T O M P : Int) (A14 : Option Addr) (c14 : Nat) (R : List Int) (K' F' k' s' e' i' t' c' : Int) (B8 : Option Addr) (d8 : Nat) (L' : List Int) (B9 : Option Addr) (d9 : Nat) (bo' : List Int) (T' O' M' P' : Int) (B14 : Option Addr) (d14 : Nat) (R' : List Int) (r : Bool) (w : World) (h8 : Kd.C (Kd.int .i64) w A8 L.length L) (l8 : L.length ≤ c8) (h9 : Kd.C (Kd.int .u8) w A9 bo.length bo) (l9 : bo.length ≤ c9) (h14 : Kd.C (Kd.int .i64) w A14 R.length R) (l14 : R.length ≤ c14) (g8 : Kd.C (Kd.int .i64) w B8 L'.length L') (m8 : L'.length ≤ d8) (g9 : Kd.C (Kd.int .u8) w B9 bo'.length bo') (m9 : bo'.length ≤ d9) (g14 : Kd.C (Kd.int .i64) w B14 R'.length R') (m14 : R'.length ≤ d14) (h : precentorref04_Same.f n K F k s e i t c L bo T O M P R K' F' k' s' e' i' t' c' L' bo' T' O' M' P' R' = some r) :
    Calls Tryd.prog 16 #[.agg #[.int .i64 K, .int .i64 F, .int .i64 k, .int .i64 s, .int .i64 e, .int .i64 i, .int .i64 t, .int .i64 c, .slice A8 L.length c8, .slice A9 bo.length c9, .int .i64 T, .int .i64 O, .int .i64 M, .int .i64 P, .slice A14 R.length c14], .agg #[.int .i64 K', .int .i64 F', .int .i64 k', .int .i64 s', .int .i64 e', .int .i64 i', .int .i64 t', .int .i64 c', .slice B8 L'.length d8, .slice B9 bo'.length d9, .int .i64 T', .int .i64 O', .int .i64 M', .int .i64 P', .slice B14 R'.length d14]] w fun e' w' => e' = .returned (.bool r) ∧ Below w.heap.size w w' := by
  unfold precentorref04_Same.f at h
  split at h
  · rename_i hc
    exact precentorref04_Same.is _ _ _ _ _ _ _ _ _ _ _ _ _ _ _ _ _ _ _ _ _ _ _ _ _ _ _ _ _ _ _ _ _ _ _ _ _ _ _ _ _ _ w h8 l8 h9 l9 h14 l14 g8 m8 g9 m9 g14 m14 hc.1 hc.2 r (Option.some.inj h)
  · cases h

end Go.Proofs.YtieolhhokepkjaaDoor.Print
namespace Go.Proofs.YtieolhhokepkjaaDoor.Print
set_option linter.unusedVariables false
set_option linter.unusedSimpArgs false
open Go.RowKit Go.Proofs.YtieolhhokepkjaaDoorW.PrintWords Go.Proofs.YtieolhhokepkjaaDoorW.PrintLast Go.Proofs.YtieolhhokepkjaaDoorW.PrintMore Go.Proofs.YtieolhhokepkjaaDoor.NumPlain Go.Proofs.YtieolhhokepkjaaDoor.Crc
/-- The cells of a packet's box. -/
def Cells15 (g : Nat) (v0 v1 v2 v3 v4 v5 v6 v7 v8 v9 v10 v11 v12 v13 v14 : Value) (w' : World) : Prop := w'.cell? ⟨g, 0, none⟩ = some v0 ∧ w'.cell? ⟨g, 1, none⟩ = some v1 ∧ w'.cell? ⟨g, 2, none⟩ = some v2 ∧ w'.cell? ⟨g, 3, none⟩ = some v3 ∧ w'.cell? ⟨g, 4, none⟩ = some v4 ∧ w'.cell? ⟨g, 5, none⟩ = some v5 ∧ w'.cell? ⟨g, 6, none⟩ = some v6 ∧ w'.cell? ⟨g, 7, none⟩ = some v7 ∧ w'.cell? ⟨g, 8, none⟩ = some v8 ∧ w'.cell? ⟨g, 9, none⟩ = some v9 ∧ w'.cell? ⟨g, 10, none⟩ = some v10 ∧ w'.cell? ⟨g, 11, none⟩ = some v11 ∧ w'.cell? ⟨g, 12, none⟩ = some v12 ∧ w'.cell? ⟨g, 13, none⟩ = some v13 ∧ w'.cell? ⟨g, 14, none⟩ = some v14
theorem Cells15.mk_ {g t : Nat} {v0 v1 v2 v3 v4 v5 v6 v7 v8 v9 v10 v11 v12 v13 v14 : Value} {w' : World} (h : w'.heap[g]? = some (.cells #[v0, v1, v2, v3, v4, v5, v6, v7, v8, v9, v10, v11, v12, v13, v14] t (0, 0))) : Cells15 g v0 v1 v2 v3 v4 v5 v6 v7 v8 v9 v10 v11 v12 v13 v14 w' := (cells15 h).1
open Classical in
noncomputable def precentorlaw04_PktBack.f (kd fr k s e i t c : Int) (L bo : List Int) (T O M P : Int) (R : List Int) (kd' fr' k' s' e' i' t' c' : Int) (L' bo' : List Int) (T' O' M' P' : Int) (R' : List Int) (b : List Int) : Option Bool :=
  if (Lit.int .i64 k).wf = true ∧ (Lit.int .i64 k').wf = true ∧ By bo ∧ By bo' ∧ By b then some true else none
set_option maxRecDepth 100000 in
set_option maxHeartbeats 4000000 in
theorem precentorlaw04_PktBack.is (kd fr k s e i t c : Int) (A8 : Option Addr) (c8 : Nat) (L : List Int) (A9 : Option Addr) (c9 : Nat) (bo : List Int) (T O M P : Int) (A14 : Option Addr) (c14 : Nat) (R : List Int) (kd' fr' k' s' e' i' t' c' : Int) (B8 : Option Addr) (d8 : Nat) (L' : List Int) (B9 : Option Addr) (d9 : Nat) (bo' : List Int) (T' O' M' P' : Int) (B14 : Option Addr) (d14 : Nat) (R' : List Int) (Ab : Option Addr) (cb : Nat) (b : List Int) (w : World) (h8 : Kd.C (Kd.int .i64) w A8 L.length L) (l8 : L.length ≤ c8) (h9 : Kd.C (Kd.int .u8) w A9 bo.length bo) (l9 : bo.length ≤ c9) (h14 : Kd.C (Kd.int .i64) w A14 R.length R) (l14 : R.length ≤ c14) (g8 : Kd.C (Kd.int .i64) w B8 L'.length L') (m8 : L'.length ≤ d8) (g9 : Kd.C (Kd.int .u8) w B9 bo'.length bo') (m9 : bo'.length ≤ d9) (g14 : Kd.C (Kd.int .i64) w B14 R'.length R') (m14 : R'.length ≤ d14) (hb : Kd.C (Kd.int .u8) w Ab b.length b) (lb : b.length ≤ cb) (hG : GB w) (hk : (Lit.int .i64 k).wf = true) (hk' : (Lit.int .i64 k').wf = true) (hbo : By bo) (hbo' : By bo') (hbb : By b) :
    Calls Tryd.prog 5 #[.agg #[.int .i64 kd, .int .i64 fr, .int .i64 k, .int .i64 s, .int .i64 e, .int .i64 i, .int .i64 t, .int .i64 c, .slice A8 L.length c8, .slice A9 bo.length c9, .int .i64 T, .int .i64 O, .int .i64 M, .int .i64 P, .slice A14 R.length c14], .agg #[.int .i64 kd', .int .i64 fr', .int .i64 k', .int .i64 s', .int .i64 e', .int .i64 i', .int .i64 t', .int .i64 c', .slice B8 L'.length d8, .slice B9 bo'.length d9, .int .i64 T', .int .i64 O', .int .i64 M', .int .i64 P', .slice B14 R'.length d14], .slice Ab b.length cb] w fun e' w' => e' = .returned (.bool true) ∧ Below w.heap.size w w' := by
  obtain ⟨w0, hw0, hB0, X0, Y0⟩ := boxes15 w #[.int .i64 kd, .int .i64 fr, .int .i64 k, .int .i64 s, .int .i64 e, .int .i64 i, .int .i64 t, .int .i64 c, .slice A8 L.length c8, .slice A9 bo.length c9, .int .i64 T, .int .i64 O, .int .i64 M, .int .i64 P, .slice A14 R.length c14] #[.int .i64 kd', .int .i64 fr', .int .i64 k', .int .i64 s', .int .i64 e', .int .i64 i', .int .i64 t', .int .i64 c', .slice B8 L'.length d8, .slice B9 bo'.length d9, .int .i64 T', .int .i64 O', .int .i64 M', .int .i64 P', .slice B14 R'.length d14]
  have HB := Aside0.mk hB0
  have HX := Aside0.mk X0
  have HO := Aside0.mk Y0
  have H8 := Aside0.mk (Kd.C_below h8 hB0)
  have H9 := Aside0.mk (Kd.C_below h9 hB0)
  have H14 := Aside0.mk (Kd.C_below h14 hB0)
  have G8 := Aside0.mk (Kd.C_below g8 hB0)
  have G9 := Aside0.mk (Kd.C_below g9 hB0)
  have G14 := Aside0.mk (Kd.C_below g14 hB0)
  have HBR := Aside0.mk (Kd.C_below hb hB0)
  have HG := Lib.hid hG
  have HK := Lib.hid hk
  have HK' := Lib.hid hk'
  have HBO := Lib.hid hbo
  have HBO' := Lib.hid hbo'
  have HBB := Lib.hid hbb
  have HLB := Lib.hid lb
  have HC8 := Lib.hid l8
  have HC9 := Lib.hid l9
  have HC14 := Lib.hid l14
  have GC8 := Lib.hid m8
  have GC9 := Lib.hid m9
  have GC14 := Lib.hid m14
  clear hB0 X0 Y0 h8 h9 h14 g8 g9 g14 hb hG hk hk' hbo hbo' hbb lb l8 l9 l14 m8 m9 m14
  go_enter Tryd.func5, Tryd.ntmps5
  go_wp2_with fail
  refine (show Calls Tryd.prog 9 #[] w0 _ from precentorlaw04_shown.calls true w0 (GB.below HG.out HB.out) rfl).mono ?_
  rintro e_ w1 ⟨rfl, hb⟩
  have n0_ := Aside0.mk (below_step HB.out hb)
  have n1_ := Aside0.mk (blk_below HX.out hb)
  have n2_ := Aside0.mk (blk_below HO.out hb)
  have n3_ := Aside0.mk (Kd.C_below H8.out hb)
  have n4_ := Aside0.mk (Kd.C_below H9.out hb)
  have n5_ := Aside0.mk (Kd.C_below H14.out hb)
  have n6_ := Aside0.mk (Kd.C_below G8.out hb)
  have n7_ := Aside0.mk (Kd.C_below G9.out hb)
  have n8_ := Aside0.mk (Kd.C_below G14.out hb)
  have n9_ := Aside0.mk (Kd.C_below HBR.out hb)
  clear HB HX HO H8 H9 H14 G8 G9 G14 HBR
  have HB := n0_
  have HX := n1_
  have HO := n2_
  have H8 := n3_
  have H9 := n4_
  have H14 := n5_
  have G8 := n6_
  have G9 := n7_
  have G14 := n8_
  have HBR := n9_
  clear n0_ n1_ n2_ n3_ n4_ n5_ n6_ n7_ n8_ n9_
  clear hb hw0
  obtain ⟨⟨q0, q1, q2, q3, q4, q5, q6, q7, q8, q9, q10, q11, q12, q13, q14⟩, ⟨qf0, qf1, qf2, qf3, qf4, qf5, qf6, qf7, qf8, qf9, qf10, qf11, qf12, qf13, qf14⟩⟩ := cells15 HX.out
  obtain ⟨fw, hfw⟩ : ∃ b, (decide (L.length ≤ 80) && decide (bo.length ≤ 1100) && decide (R.length ≤ 80)) = b := ⟨_, rfl⟩
  have HFW := Lib.hid hfw
  have HCT := Lib.hid (show Calls Tryd.prog 10 #[.agg #[.int .i64 kd, .int .i64 fr, .int .i64 k, .int .i64 s, .int .i64 e, .int .i64 i, .int .i64 t, .int .i64 c, .slice A8 L.length c8, .slice A9 bo.length c9, .int .i64 T, .int .i64 O, .int .i64 M, .int .i64 P, .slice A14 R.length c14]] w1 _ from precentorref04_Few.calls kd fr k s e i t c A8 c8 L A9 c9 bo T O M P A14 c14 R fw w1 H8.out HC8.out H9.out HC9.out H14.out HC14.out (by rw [few4_is, hfw]))
  clear hfw
  go_wp2_with fail
  refine HCT.out.mono ?_
  rintro e_ w2 ⟨rfl, hb⟩
  clear HCT q0 qf0 q1 qf1 q2 qf2 q3 qf3 q4 qf4 q5 qf5 q6 qf6 q7 qf7 q8 qf8 q9 qf9 q10 qf10 q11 qf11 q12 qf12 q13 qf13 q14 qf14
  have n0_ := Aside0.mk (below_step HB.out hb)
  have n1_ := Aside0.mk (blk_below HX.out hb)
  have n2_ := Aside0.mk (blk_below HO.out hb)
  have n3_ := Aside0.mk (Kd.C_below H8.out hb)
  have n4_ := Aside0.mk (Kd.C_below H9.out hb)
  have n5_ := Aside0.mk (Kd.C_below H14.out hb)
  have n6_ := Aside0.mk (Kd.C_below G8.out hb)
  have n7_ := Aside0.mk (Kd.C_below G9.out hb)
  have n8_ := Aside0.mk (Kd.C_below G14.out hb)
  have n9_ := Aside0.mk (Kd.C_below HBR.out hb)
  clear HB HX HO H8 H9 H14 G8 G9 G14 HBR
  have HB := n0_
  have HX := n1_
  have HO := n2_
  have H8 := n3_
  have H9 := n4_
  have H14 := n5_
  have G8 := n6_
  have G9 := n7_
  have G14 := n8_
  have HBR := n9_
  clear n0_ n1_ n2_ n3_ n4_ n5_ n6_ n7_ n8_ n9_
  cases fw
  · go_wp2_with fail
    go_ret
    exact ⟨rfl, HB.out⟩
  have hfw := HFW.out
  rw [Bool.and_eq_true, Bool.and_eq_true, decide_eq_true_eq, decide_eq_true_eq, decide_eq_true_eq] at hfw
  clear HFW
  have HFW1 := Lib.hid hfw
  clear hfw
  clear hb
  obtain ⟨⟨p0, p1, p2, p3, p4, p5, p6, p7, p8, p9, p10, p11, p12, p13, p14⟩, ⟨pf0, pf1, pf2, pf3, pf4, pf5, pf6, pf7, pf8, pf9, pf10, pf11, pf12, pf13, pf14⟩⟩ := cells15 HO.out
  obtain ⟨fw, hfw⟩ : ∃ b, (decide (L'.length ≤ 80) && decide (bo'.length ≤ 1100) && decide (R'.length ≤ 80)) = b := ⟨_, rfl⟩
  have HFW := Lib.hid hfw
  have HCT := Lib.hid (show Calls Tryd.prog 10 #[.agg #[.int .i64 kd', .int .i64 fr', .int .i64 k', .int .i64 s', .int .i64 e', .int .i64 i', .int .i64 t', .int .i64 c', .slice B8 L'.length d8, .slice B9 bo'.length d9, .int .i64 T', .int .i64 O', .int .i64 M', .int .i64 P', .slice B14 R'.length d14]] w2 _ from precentorref04_Few.calls kd' fr' k' s' e' i' t' c' B8 d8 L' B9 d9 bo' T' O' M' P' B14 d14 R' fw w2 G8.out GC8.out G9.out GC9.out G14.out GC14.out (by rw [few4_is, hfw]))
  clear hfw
  go_wp2_with fail
  refine HCT.out.mono ?_
  rintro e_ w3 ⟨rfl, hb⟩
  clear HCT p0 pf0 p1 pf1 p2 pf2 p3 pf3 p4 pf4 p5 pf5 p6 pf6 p7 pf7 p8 pf8 p9 pf9 p10 pf10 p11 pf11 p12 pf12 p13 pf13 p14 pf14
  have n0_ := Aside0.mk (below_step HB.out hb)
  have n1_ := Aside0.mk (blk_below HX.out hb)
  have n2_ := Aside0.mk (blk_below HO.out hb)
  have n3_ := Aside0.mk (Kd.C_below H8.out hb)
  have n4_ := Aside0.mk (Kd.C_below H9.out hb)
  have n5_ := Aside0.mk (Kd.C_below H14.out hb)
  have n6_ := Aside0.mk (Kd.C_below G8.out hb)
  have n7_ := Aside0.mk (Kd.C_below G9.out hb)
  have n8_ := Aside0.mk (Kd.C_below G14.out hb)
  have n9_ := Aside0.mk (Kd.C_below HBR.out hb)
  clear HB HX HO H8 H9 H14 G8 G9 G14 HBR
  have HB := n0_
  have HX := n1_
  have HO := n2_
  have H8 := n3_
  have H9 := n4_
  have H14 := n5_
  have G8 := n6_
  have G9 := n7_
  have G14 := n8_
  have HBR := n9_
  clear n0_ n1_ n2_ n3_ n4_ n5_ n6_ n7_ n8_ n9_
  cases fw
  · go_wp2_with fail
    go_ret
    exact ⟨rfl, HB.out⟩
  have hfw := HFW.out
  rw [Bool.and_eq_true, Bool.and_eq_true, decide_eq_true_eq, decide_eq_true_eq, decide_eq_true_eq] at hfw
  clear HFW
  have HFW2 := Lib.hid hfw
  clear hfw
  clear hb
  by_cases hlb : (b.length : Int) > 1300
  · have a1 : decide ((b.length : Int) > 1300) = true := decide_eq_true hlb
    have a2 : decide ((1300 : Int) < (b.length : Int)) = true := decide_eq_true hlb
    have a3 : decide (1300 < b.length) = true := decide_eq_true (by omega)
    clear hlb
    go_wp2_with fail
    go_ret
    exact ⟨rfl, HB.out⟩
  have a1 : decide ((b.length : Int) > 1300) = false := decide_eq_false hlb
  have a2 : decide ((1300 : Int) < (b.length : Int)) = false := decide_eq_false hlb
  have a3 : decide (1300 < b.length) = false := decide_eq_false (by omega)
  have HBL := Lib.hid (show b.length ≤ 1300 by omega)
  clear hlb
  obtain ⟨my, hmy⟩ : ∃ m, mayP kd fr (mayB k s e i t c L bo.length) (bareB k s e i t c L bo) T O M P R = m := ⟨_, rfl⟩
  have HMY := Lib.hid hmy
  obtain ⟨sb, hsb⟩ : ∃ l, (if my = true then sealP kd fr k s e i t c L bo T O M P R else []) = l := ⟨_, rfl⟩
  have HSB := Lib.hid hsb
  obtain ⟨x1, x2, x3, x4, x5, x6, x7, x8, x9, x10, x11, x12, x13, x14, x15, x16, hx⟩ : ∃ x1 x2 x3 x4 x5 x6 x7 x8 x9 x10 x11 x12 x13 x14 x15 x16, (if my = true then (kd, fr, k, s, e, i, t, c, L, bo, T, O, M, P, R, (0 : Int)) else (0, 0, 0, 0, 0, 0, 0, 0, [], [], 0, 0, 0, 0, [], (2 : Int))) = (x1, x2, x3, x4, x5, x6, x7, x8, x9, x10, x11, x12, x13, x14, x15, x16) := ⟨_, _, _, _, _, _, _, _, _, _, _, _, _, _, _, _, rfl⟩
  have HXR := Lib.hid hx
  have HRX := Lib.hid (show pkt_Read.f sb = some (x1, x2, x3, x4, x5, x6, x7, x8, x9, x10, x11, x12, x13, x14, x15, x16) from by
    rw [← hx, ← hsb]
    cases my
    · exact read_nil
    · exact read_seal HBO.out hmy)
  have hBS : pkt_Bytes.f kd fr k s e i t c L bo T O M P R = some sb := (if_pos ⟨HK.out, by have := HFW1.out; omega, by have := HFW1.out; omega, by have := HFW1.out; omega⟩).trans (by rw [hmy, ← hsb]; rfl)
  have HCT := Lib.hid (show Calls Tryd.prog 17 #[.agg #[.int .i64 kd, .int .i64 fr, .int .i64 k, .int .i64 s, .int .i64 e, .int .i64 i, .int .i64 t, .int .i64 c, .slice A8 L.length c8, .slice A9 bo.length c9, .int .i64 T, .int .i64 O, .int .i64 M, .int .i64 P, .slice A14 R.length c14]] w3 _ from pkt_Bytes.calls kd fr k s e i t c A8 c8 L A9 c9 bo T O M P A14 c14 R sb w3 H8.out HC8.out H9.out HC9.out H14.out HC14.out (GB.below HG.out HB.out) hBS)
  clear hmy hsb hx hBS
  obtain ⟨⟨q0, q1, q2, q3, q4, q5, q6, q7, q8, q9, q10, q11, q12, q13, q14⟩, ⟨qf0, qf1, qf2, qf3, qf4, qf5, qf6, qf7, qf8, qf9, qf10, qf11, qf12, qf13, qf14⟩⟩ := cells15 HX.out
  go_wp2_with fail
  clear a1 a2 a3
  refine HCT.out.mono ?_
  rintro e_ w4 ⟨v2, rfl, hr, hb⟩
  obtain ⟨A2, c2, rfl, hl2, hC2⟩ := Kd.R_reads hr
  clear HCT q0 qf0 q1 qf1 q2 qf2 q3 qf3 q4 qf4 q5 qf5 q6 qf6 q7 qf7 q8 qf8 q9 qf9 q10 qf10 q11 qf11 q12 qf12 q13 qf13 q14 qf14
  have n0_ := Aside0.mk (below_step HB.out hb)
  have n1_ := Aside0.mk (blk_below HX.out hb)
  have n2_ := Aside0.mk (blk_below HO.out hb)
  have n3_ := Aside0.mk (Kd.C_below H8.out hb)
  have n4_ := Aside0.mk (Kd.C_below H9.out hb)
  have n5_ := Aside0.mk (Kd.C_below H14.out hb)
  have n6_ := Aside0.mk (Kd.C_below G8.out hb)
  have n7_ := Aside0.mk (Kd.C_below G9.out hb)
  have n8_ := Aside0.mk (Kd.C_below G14.out hb)
  have n9_ := Aside0.mk (Kd.C_below HBR.out hb)
  clear HB HX HO H8 H9 H14 G8 G9 G14 HBR
  have HB := n0_
  have HX := n1_
  have HO := n2_
  have H8 := n3_
  have H9 := n4_
  have H14 := n5_
  have G8 := n6_
  have G9 := n7_
  have G14 := n8_
  have HBR := n9_
  clear n0_ n1_ n2_ n3_ n4_ n5_ n6_ n7_ n8_ n9_
  clear hb hr
  have HC2 := Aside0.mk hC2
  have HL2 := Lib.hid hl2
  clear hC2 hl2
  have HCT := Lib.hid (show Calls Tryd.prog 11 #[.slice A2 sb.length c2] w4 _ from pkt_Read.calls A2 c2 sb _ _ _ _ _ _ _ _ _ _ _ _ _ _ _ _ w4 HC2.out HL2.out (GB.below HG.out HB.out) HRX.out)
  go_wp2_with fail
  refine HCT.out.mono ?_
  rintro e_ w5 ⟨v8, v9, v14, rfl, h8, h9, h14, hb⟩
  obtain ⟨D8, e8, rfl, l8_, C8_⟩ := Kd.R_reads h8
  obtain ⟨D9, e9, rfl, l9_, C9_⟩ := Kd.R_reads h9
  obtain ⟨D14, e14, rfl, l14_, C14_⟩ := Kd.R_reads h14
  clear HCT h8 h9 h14
  have n0_ := Aside0.mk (below_step HB.out hb)
  have n1_ := Aside0.mk (blk_below HX.out hb)
  have n2_ := Aside0.mk (blk_below HO.out hb)
  have n3_ := Aside0.mk (Kd.C_below H8.out hb)
  have n4_ := Aside0.mk (Kd.C_below H9.out hb)
  have n5_ := Aside0.mk (Kd.C_below H14.out hb)
  have n6_ := Aside0.mk (Kd.C_below G8.out hb)
  have n7_ := Aside0.mk (Kd.C_below G9.out hb)
  have n8_ := Aside0.mk (Kd.C_below G14.out hb)
  have n9_ := Aside0.mk (Kd.C_below HBR.out hb)
  have n10_ := Aside0.mk (Kd.C_below HC2.out hb)
  clear HB HX HO H8 H9 H14 G8 G9 G14 HBR HC2
  have HB := n0_
  have HX := n1_
  have HO := n2_
  have H8 := n3_
  have H9 := n4_
  have H14 := n5_
  have G8 := n6_
  have G9 := n7_
  have G14 := n8_
  have HBR := n9_
  have HC2 := n10_
  clear n0_ n1_ n2_ n3_ n4_ n5_ n6_ n7_ n8_ n9_ n10_
  clear hb
  have X8 := Aside0.mk C8_
  have X9 := Aside0.mk C9_
  have X14 := Aside0.mk C14_
  have Xl8 := Lib.hid l8_
  have Xl9 := Lib.hid l9_
  have Xl14 := Lib.hid l14_
  clear C8_ C9_ C14_ l8_ l9_ l14_
  obtain ⟨u1, hu, hBu, hsu, Xu⟩ := boxed15 w5 (.int .i64 0) (.int .i64 0) (.int .i64 0) (.int .i64 0) (.int .i64 0) (.int .i64 0) (.int .i64 0) (.int .i64 0) (.slice none 0 0) (.slice none 0 0) (.int .i64 0) (.int .i64 0) (.int .i64 0) (.int .i64 0) (.slice none 0 0)
  obtain ⟨⟨q0, q1, q2, q3, q4, q5, q6, q7, q8, q9, q10, q11, q12, q13, q14⟩, ⟨qf0, qf1, qf2, qf3, qf4, qf5, qf6, qf7, qf8, qf9, qf10, qf11, qf12, qf13, qf14⟩⟩ := cells15 Xu
  have HBu := Aside0.mk hBu
  have HXu := Aside0.mk Xu
  clear hBu Xu
  go_upto_region 6 with fail
  clear q0 qf0 q1 qf1 q2 qf2 q3 qf3 q4 qf4 q5 qf5 q6 qf6 q7 qf7 q8 qf8 q9 qf9 q10 qf10 q11 qf11 q12 qf12 q13 qf13 q14 qf14
  obtain ⟨w6, hv, Xv, hmv⟩ := box15 HXu.out (.int .i64 x1) (.int .i64 x2) (.int .i64 x3) (.int .i64 x4) (.int .i64 x5) (.int .i64 x6) (.int .i64 x7) (.int .i64 x8) (.slice D8 x9.length e8) (.slice D9 x10.length e9) (.int .i64 x11) (.int .i64 x12) (.int .i64 x13) (.int .i64 x14) (.slice D14 x15.length e14)
  rw [hv]
  clear hv hu
  have hBv : Below w5.heap.size w5 w6 := Mv.to HBu.out hmv (fun k hk => by omega) HBu.out.size
  have HXX := Aside0.mk Xv
  clear Xv HXu HBu hmv hsu
  have n0_ := Aside0.mk (below_step HB.out hBv)
  have n1_ := Aside0.mk (blk_below HX.out hBv)
  have n2_ := Aside0.mk (blk_below HO.out hBv)
  have n3_ := Aside0.mk (Kd.C_below H8.out hBv)
  have n4_ := Aside0.mk (Kd.C_below H9.out hBv)
  have n5_ := Aside0.mk (Kd.C_below H14.out hBv)
  have n6_ := Aside0.mk (Kd.C_below G8.out hBv)
  have n7_ := Aside0.mk (Kd.C_below G9.out hBv)
  have n8_ := Aside0.mk (Kd.C_below G14.out hBv)
  have n9_ := Aside0.mk (Kd.C_below HBR.out hBv)
  have n10_ := Aside0.mk (Kd.C_below HC2.out hBv)
  have n11_ := Aside0.mk (Kd.C_below X8.out hBv)
  have n12_ := Aside0.mk (Kd.C_below X9.out hBv)
  have n13_ := Aside0.mk (Kd.C_below X14.out hBv)
  clear HB HX HO H8 H9 H14 G8 G9 G14 HBR HC2 X8 X9 X14
  have HB := n0_
  have HX := n1_
  have HO := n2_
  have H8 := n3_
  have H9 := n4_
  have H14 := n5_
  have G8 := n6_
  have G9 := n7_
  have G14 := n8_
  have HBR := n9_
  have HC2 := n10_
  have X8 := n11_
  have X9 := n12_
  have X14 := n13_
  clear n0_ n1_ n2_ n3_ n4_ n5_ n6_ n7_ n8_ n9_ n10_ n11_ n12_ n13_
  clear hBv u1
  generalize w5.heap.size = gx at *
  obtain ⟨y1, y2, y3, y4, y5, y6, y7, y8, y9, y10, y11, y12, y13, y14, y15, y16, hy⟩ : ∃ y1 y2 y3 y4 y5 y6 y7 y8 y9 y10 y11 y12 y13 y14 y15 y16, readP b = (y1, y2, y3, y4, y5, y6, y7, y8, y9, y10, y11, y12, y13, y14, y15, y16) := ⟨_, _, _, _, _, _, _, _, _, _, _, _, _, _, _, _, rfl⟩
  have HYR := Lib.hid hy
  have HCT := Lib.hid (show Calls Tryd.prog 11 #[.slice Ab b.length cb] w6 _ from pkt_Read.calls Ab cb b _ _ _ _ _ _ _ _ _ _ _ _ _ _ _ _ w6 HBR.out HLB.out (GB.below HG.out HB.out) (by rw [okRead HBB.out (by have := HBL.out; omega), hy]))
  clear hy
  go_wp2_with fail
  refine HCT.out.mono ?_
  rintro e_ w7 ⟨v8, v9, v14, rfl, h8, h9, h14, hb⟩
  obtain ⟨Z8, f8, rfl, l8_, C8_⟩ := Kd.R_reads h8
  obtain ⟨Z9, f9, rfl, l9_, C9_⟩ := Kd.R_reads h9
  obtain ⟨Z14, f14, rfl, l14_, C14_⟩ := Kd.R_reads h14
  clear HCT h8 h9 h14
  have n0_ := Aside0.mk (below_step HB.out hb)
  have n1_ := Aside0.mk (blk_below HX.out hb)
  have n2_ := Aside0.mk (blk_below HO.out hb)
  have n3_ := Aside0.mk (Kd.C_below H8.out hb)
  have n4_ := Aside0.mk (Kd.C_below H9.out hb)
  have n5_ := Aside0.mk (Kd.C_below H14.out hb)
  have n6_ := Aside0.mk (Kd.C_below G8.out hb)
  have n7_ := Aside0.mk (Kd.C_below G9.out hb)
  have n8_ := Aside0.mk (Kd.C_below G14.out hb)
  have n9_ := Aside0.mk (Kd.C_below HBR.out hb)
  have n10_ := Aside0.mk (Kd.C_below HC2.out hb)
  have n11_ := Aside0.mk (blk_below HXX.out hb)
  have n12_ := Aside0.mk (Kd.C_below X8.out hb)
  have n13_ := Aside0.mk (Kd.C_below X9.out hb)
  have n14_ := Aside0.mk (Kd.C_below X14.out hb)
  clear HB HX HO H8 H9 H14 G8 G9 G14 HBR HC2 HXX X8 X9 X14
  have HB := n0_
  have HX := n1_
  have HO := n2_
  have H8 := n3_
  have H9 := n4_
  have H14 := n5_
  have G8 := n6_
  have G9 := n7_
  have G14 := n8_
  have HBR := n9_
  have HC2 := n10_
  have HXX := n11_
  have X8 := n12_
  have X9 := n13_
  have X14 := n14_
  clear n0_ n1_ n2_ n3_ n4_ n5_ n6_ n7_ n8_ n9_ n10_ n11_ n12_ n13_ n14_
  clear hb
  have Y8 := Aside0.mk C8_
  have Y9 := Aside0.mk C9_
  have Y14 := Aside0.mk C14_
  have Yl8 := Lib.hid l8_
  have Yl9 := Lib.hid l9_
  have Yl14 := Lib.hid l14_
  clear C8_ C9_ C14_ l8_ l9_ l14_
  obtain ⟨u2, hu, hBu, hsu, Xu⟩ := boxed15 w7 (.int .i64 0) (.int .i64 0) (.int .i64 0) (.int .i64 0) (.int .i64 0) (.int .i64 0) (.int .i64 0) (.int .i64 0) (.slice none 0 0) (.slice none 0 0) (.int .i64 0) (.int .i64 0) (.int .i64 0) (.int .i64 0) (.slice none 0 0)
  obtain ⟨⟨q0, q1, q2, q3, q4, q5, q6, q7, q8, q9, q10, q11, q12, q13, q14⟩, ⟨qf0, qf1, qf2, qf3, qf4, qf5, qf6, qf7, qf8, qf9, qf10, qf11, qf12, qf13, qf14⟩⟩ := cells15 Xu
  have HBu := Aside0.mk hBu
  have HXu := Aside0.mk Xu
  clear hBu Xu
  go_upto_region 7 with fail
  clear q0 qf0 q1 qf1 q2 qf2 q3 qf3 q4 qf4 q5 qf5 q6 qf6 q7 qf7 q8 qf8 q9 qf9 q10 qf10 q11 qf11 q12 qf12 q13 qf13 q14 qf14
  obtain ⟨w9, hv, Xv, hmv⟩ := box15 HXu.out (.int .i64 y1) (.int .i64 y2) (.int .i64 y3) (.int .i64 y4) (.int .i64 y5) (.int .i64 y6) (.int .i64 y7) (.int .i64 y8) (.slice Z8 y9.length f8) (.slice Z9 y10.length f9) (.int .i64 y11) (.int .i64 y12) (.int .i64 y13) (.int .i64 y14) (.slice Z14 y15.length f14)
  rw [hv]
  clear hv hu
  have hBv : Below w7.heap.size w7 w9 := Mv.to HBu.out hmv (fun k hk => by omega) HBu.out.size
  have HYY := Aside0.mk Xv
  clear Xv HXu HBu hmv hsu
  have n0_ := Aside0.mk (below_step HB.out hBv)
  have n1_ := Aside0.mk (blk_below HX.out hBv)
  have n2_ := Aside0.mk (blk_below HO.out hBv)
  have n3_ := Aside0.mk (Kd.C_below H8.out hBv)
  have n4_ := Aside0.mk (Kd.C_below H9.out hBv)
  have n5_ := Aside0.mk (Kd.C_below H14.out hBv)
  have n6_ := Aside0.mk (Kd.C_below G8.out hBv)
  have n7_ := Aside0.mk (Kd.C_below G9.out hBv)
  have n8_ := Aside0.mk (Kd.C_below G14.out hBv)
  have n9_ := Aside0.mk (Kd.C_below HBR.out hBv)
  have n10_ := Aside0.mk (Kd.C_below HC2.out hBv)
  have n11_ := Aside0.mk (blk_below HXX.out hBv)
  have n12_ := Aside0.mk (Kd.C_below X8.out hBv)
  have n13_ := Aside0.mk (Kd.C_below X9.out hBv)
  have n14_ := Aside0.mk (Kd.C_below X14.out hBv)
  have n15_ := Aside0.mk (Kd.C_below Y8.out hBv)
  have n16_ := Aside0.mk (Kd.C_below Y9.out hBv)
  have n17_ := Aside0.mk (Kd.C_below Y14.out hBv)
  clear HB HX HO H8 H9 H14 G8 G9 G14 HBR HC2 HXX X8 X9 X14 Y8 Y9 Y14
  have HB := n0_
  have HX := n1_
  have HO := n2_
  have H8 := n3_
  have H9 := n4_
  have H14 := n5_
  have G8 := n6_
  have G9 := n7_
  have G14 := n8_
  have HBR := n9_
  have HC2 := n10_
  have HXX := n11_
  have X8 := n12_
  have X9 := n13_
  have X14 := n14_
  have Y8 := n15_
  have Y9 := n16_
  have Y14 := n17_
  clear n0_ n1_ n2_ n3_ n4_ n5_ n6_ n7_ n8_ n9_ n10_ n11_ n12_ n13_ n14_ n15_ n16_ n17_
  clear hBv u2
  generalize w7.heap.size = gy at *
  go_cut [64] (fun v wc => v = Value.bool false ∧ Aside0 (Below w9.heap.size w9 wc))
  case first =>
    have hcs := read_cases HBB.out (by have := HBL.out; omega)
    rw [HYR.out] at hcs
    rcases hcs with ⟨K2, F2, pk, hpk, hm2, hs2, hb2⟩ | ⟨q, hq, hnn⟩
    · as_aux_lemma =>
        unfold tell16 at hpk
        simp only [Prod.mk.injEq] at hpk
        obtain ⟨rfl, rfl, rfl, rfl, rfl, rfl, rfl, rfl, rfl, rfl, rfl, rfl, rfl, rfl, rfl, rfl⟩ := hpk
        have hwf := wf_may hb2 hm2
        obtain ⟨k2, s2, ee2, i2, t2, cc2, L2, bo2, T2, O2, M2, P2, R2⟩ := pk
        have HM2 := Lib.hid hm2
        have HS2 := Lib.hid hs2
        have HW2 := Lib.hid hwf
        clear hm2 hs2 hwf hb2
        refine start_ (n := 25) (S := fun w' => Cells15 gy (.int .i64 y1) (.int .i64 y2) (.int .i64 k2) (.int .i64 s2) (.int .i64 ee2) (.int .i64 i2) (.int .i64 t2) (.int .i64 cc2) (.slice Z8 L2.length f8) (.slice Z9 bo2.length f9) (.int .i64 T2) (.int .i64 O2) (.int .i64 M2) (.int .i64 P2) (.slice Z14 R2.length f14) w' ∧ (convert 23 9 (.slice Ab b.length cb)).run Tryd.prog w' = .ok (.string (strOfNums b)) w') (ds := []) #[false, false, false, false, false, false, false, false, false, false, false, false, false, false, false, false, false, false, false, false, false, false, false, false, false] (by kernel_rfl) rfl rfl ⟨Cells15.mk_ (blk_below HYY.out (below_drew1 (Below.refl _ _))), Kd.C_string (P := Tryd.prog) (A := Ab) (c := cb) Tryd.underlying23 Tryd.underlying5 Tryd.underlying9 (Kd.C_below HBR.out (below_drew1 (Below.refl _ _)))⟩ (fun hHeld => ?_)
        have HBq := Aside0.mk (below_drew1 (Below.refl w9.heap.size w9))
        generalize hwa_ : w9.drew = wa at *
        clear hwa_
        refine pure_ (i := 0) (N := some 40) (v := ?_) (a' := ?_) #[true, false, false, false, false, false, false, false, false, false, false, false, false, false, false, false, false, false, false, false, false, false, false, false, false] rfl rfl (by kernel_rfl) (fun _ _ _ h => h) (Or.inl ⟨by rfl, ?_⟩) ?_ ?_
        rotate_left
        · intro w'
          go_simp
          with_reducible rfl
        rotate_left
        · simp only [Act.put, List.setIfInBounds_toArray, List.set_cons_zero, List.set_cons_succ, i64_w, i32_w]
          rfl
        refine pure_ (i := 1) (N := some 41) (v := ?_) (a' := ?_) #[true, true, false, false, false, false, false, false, false, false, false, false, false, false, false, false, false, false, false, false, false, false, false, false, false] rfl rfl (by kernel_rfl) (fun _ _ _ h => h) (Or.inl ⟨by rfl, ?_⟩) ?_ ?_
        rotate_left
        · intro w'
          go_simp
          with_reducible rfl
        rotate_left
        · simp only [Act.put, List.setIfInBounds_toArray, List.set_cons_zero, List.set_cons_succ, i64_w, i32_w]
          rfl
        refine pure_ (i := 2) (N := some 42) (v := ?_) (a' := ?_) #[true, true, true, false, false, false, false, false, false, false, false, false, false, false, false, false, false, false, false, false, false, false, false, false, false] rfl rfl (by kernel_rfl) (fun _ _ _ h => h) (Or.inl ⟨by rfl, ?_⟩) ?_ ?_
        rotate_left
        · intro w'
          go_simp
          with_reducible rfl
        rotate_left
        · simp only [Act.put, List.setIfInBounds_toArray, List.set_cons_zero, List.set_cons_succ, i64_w, i32_w]
          rfl
        refine take_ (i := 3) (N := some 43) (v := ?_) (a' := ?_) #[true, true, true, true, false, false, false, false, false, false, false, false, false, false, false, false, false, false, false, false, false, false, false, false, false] rfl rfl (by kernel_rfl) (fun _ _ _ h => h) (Or.inl ⟨by rfl, ?_⟩) hHeld ?_ ?_
        rotate_left
        · rintro w' ⟨⟨s0_, s1_, s2_, s3_, s4_, s5_, s6_, s7_, s8_, s9_, s10_, s11_, s12_, s13_, s14_⟩, s1⟩
          go_simp
          with_reducible rfl
        rotate_left
        · simp only [Act.put, List.setIfInBounds_toArray, List.set_cons_zero, List.set_cons_succ, i64_w, i32_w]
          rfl
        refine one_ (i := 4) (N := some 44) #[true, true, true, true, true, false, false, false, false, false, false, false, false, false, false, false, false, false, false, false, false, false, false, false, false] rfl rfl (by kernel_rfl) (by decide) (fun K hK => ?_)
        have HCT := Lib.hid (show Calls Tryd.prog 13 #[.agg #[.int .i64 y1, .int .i64 y2, .int .i64 k2, .int .i64 s2, .int .i64 ee2, .int .i64 i2, .int .i64 t2, .int .i64 cc2, .slice Z8 L2.length f8, .slice Z9 bo2.length f9, .int .i64 T2, .int .i64 O2, .int .i64 M2, .int .i64 P2, .slice Z14 R2.length f14]] wa _ from pkt_May.calls 10000 y1 y2 k2 s2 ee2 i2 t2 cc2 Z8 f8 L2 Z9 f9 bo2 T2 O2 M2 P2 Z14 f14 R2 true wa (Kd.C_below Y8.out HBq.out) Yl8.out (Kd.C_below Y9.out HBq.out) Yl9.out (Kd.C_below Y14.out HBq.out) Yl14.out (by rw [pmay_is _ _ _ _ _ _ _ _ _ _ _ _ _ _ _ HW2.out.1 HW2.out.2.1 HW2.out.2.2.2, HM2.out]))
        refine goes_ Tryd.func13 (by kernel_rfl) rfl #[.agg #[.int .i64 y1, .int .i64 y2, .int .i64 k2, .int .i64 s2, .int .i64 ee2, .int .i64 i2, .int .i64 t2, .int .i64 cc2, .slice Z8 L2.length f8, .slice Z9 bo2.length f9, .int .i64 T2, .int .i64 O2, .int .i64 M2, .int .i64 P2, .slice Z14 R2.length f14]] (by rfl) rfl rfl (by simp only [List.map_toArray, List.map_cons, List.map_nil]; rfl) ?_
        with_reducible refine (HCT.out).mono ?_
        rintro e0 wb ⟨rfl, hb⟩
        refine ⟨_, rfl, ?_⟩
        have n0_ := Aside0.mk (below_step HBq.out hb)
        clear HBq hb HCT
        have HBq := n0_
        clear n0_
        refine hK.out _ _ ⟨Cells15.mk_ (blk_below HYY.out HBq.out), Kd.C_string (P := Tryd.prog) (A := Ab) (c := cb) Tryd.underlying23 Tryd.underlying5 Tryd.underlying9 (Kd.C_below HBR.out HBq.out)⟩ (fun hHeld => ?_)
        clear hK K
        refine norm_ (a' := ?_) ?_ ?_
        rotate_left
        · show Act.put _ (some 44) _ = _
          simp only [Act.put, List.setIfInBounds_toArray, List.set_cons_zero, List.set_cons_succ, i64_w, i32_w]
          rfl
        refine pure_ (i := 5) (N := some 45) (v := ?_) (a' := ?_) #[true, true, true, true, true, true, false, false, false, false, false, false, false, false, false, false, false, false, false, false, false, false, false, false, false] rfl rfl (by kernel_rfl) (fun _ _ _ h => h) (Or.inl ⟨by rfl, ?_⟩) ?_ ?_
        rotate_left
        · intro w'
          go_simp
          with_reducible rfl
        rotate_left
        · simp only [Act.put, List.setIfInBounds_toArray, List.set_cons_zero, List.set_cons_succ, i64_w, i32_w]
          rfl
        refine pure_ (i := 6) (N := some 46) (v := ?_) (a' := ?_) #[true, true, true, true, true, true, true, false, false, false, false, false, false, false, false, false, false, false, false, false, false, false, false, false, false] rfl rfl (by kernel_rfl) (fun _ _ _ h => h) (Or.inl ⟨by rfl, ?_⟩) ?_ ?_
        rotate_left
        · intro w'
          go_simp
          with_reducible rfl
        rotate_left
        · simp only [Act.put, List.setIfInBounds_toArray, List.set_cons_zero, List.set_cons_succ, i64_w, i32_w]
          rfl
        refine pure_ (i := 10) (N := some 50) (v := ?_) (a' := ?_) #[true, true, true, true, true, true, true, false, false, false, true, false, false, false, false, false, false, false, false, false, false, false, false, false, false] rfl rfl (by kernel_rfl) (fun _ _ _ h => h) (Or.inl ⟨by rfl, ?_⟩) ?_ ?_
        rotate_left
        · intro w'
          go_simp
          with_reducible rfl
        rotate_left
        · simp only [Act.put, List.setIfInBounds_toArray, List.set_cons_zero, List.set_cons_succ, i64_w, i32_w]
          rfl
        refine take_ (i := 7) (N := some 47) (v := ?_) (a' := ?_) #[true, true, true, true, true, true, true, true, false, false, true, false, false, false, false, false, false, false, false, false, false, false, false, false, false] rfl rfl (by kernel_rfl) (fun _ _ _ h => h) (Or.inl ⟨by rfl, ?_⟩) hHeld ?_ ?_
        rotate_left
        · rintro w' ⟨⟨s0_, s1_, s2_, s3_, s4_, s5_, s6_, s7_, s8_, s9_, s10_, s11_, s12_, s13_, s14_⟩, s1⟩
          go_simp
          with_reducible rfl
        rotate_left
        · simp only [Act.put, List.setIfInBounds_toArray, List.set_cons_zero, List.set_cons_succ, i64_w, i32_w]
          rfl
        refine take_ (i := 11) (N := some 51) (v := ?_) (a' := ?_) #[true, true, true, true, true, true, true, true, false, false, true, true, false, false, false, false, false, false, false, false, false, false, false, false, false] rfl rfl (by kernel_rfl) (fun _ _ _ h => h) (Or.inl ⟨by rfl, ?_⟩) hHeld ?_ ?_
        rotate_left
        · rintro w' ⟨⟨s0_, s1_, s2_, s3_, s4_, s5_, s6_, s7_, s8_, s9_, s10_, s11_, s12_, s13_, s14_⟩, s1⟩
          go_simp
          with_reducible rfl
        rotate_left
        · simp only [Act.put, List.setIfInBounds_toArray, List.set_cons_zero, List.set_cons_succ, i64_w, i32_w]
          rfl
        refine one_ (i := 8) (N := some 48) #[true, true, true, true, true, true, true, true, true, false, true, true, false, false, false, false, false, false, false, false, false, false, false, false, false] rfl rfl (by kernel_rfl) (by decide) (fun K hK => ?_)
        have HCT := Lib.hid (show Calls Tryd.prog 17 #[.agg #[.int .i64 y1, .int .i64 y2, .int .i64 k2, .int .i64 s2, .int .i64 ee2, .int .i64 i2, .int .i64 t2, .int .i64 cc2, .slice Z8 L2.length f8, .slice Z9 bo2.length f9, .int .i64 T2, .int .i64 O2, .int .i64 M2, .int .i64 P2, .slice Z14 R2.length f14]] wb _ from pkt_Bytes.calls y1 y2 k2 s2 ee2 i2 t2 cc2 Z8 f8 L2 Z9 f9 bo2 T2 O2 M2 P2 Z14 f14 R2 b wb (Kd.C_below Y8.out HBq.out) Yl8.out (Kd.C_below Y9.out HBq.out) Yl9.out (Kd.C_below Y14.out HBq.out) Yl14.out (GB.below HG.out (below_step HB.out HBq.out)) ((if_pos HW2.out).trans (by rw [HM2.out, if_pos rfl, ← HS2.out]; rfl)))
        refine goes_ Tryd.func17 (by kernel_rfl) rfl #[.agg #[.int .i64 y1, .int .i64 y2, .int .i64 k2, .int .i64 s2, .int .i64 ee2, .int .i64 i2, .int .i64 t2, .int .i64 cc2, .slice Z8 L2.length f8, .slice Z9 bo2.length f9, .int .i64 T2, .int .i64 O2, .int .i64 M2, .int .i64 P2, .slice Z14 R2.length f14]] (by rfl) rfl rfl (by simp only [List.map_toArray, List.map_cons, List.map_nil]; rfl) ?_
        with_reducible refine (HCT.out).mono ?_
        rintro e0 wd ⟨vs, rfl, hr, hb⟩
        refine ⟨_, rfl, ?_⟩
        have HRS := Aside0.mk hr
        clear hr
        have n0_ := Aside0.mk (below_step HBq.out hb)
        clear HBq hb HCT
        have HBq := n0_
        clear n0_
        refine hK.out _ _ ⟨Cells15.mk_ (blk_below HYY.out HBq.out), Kd.C_string (P := Tryd.prog) (A := Ab) (c := cb) Tryd.underlying23 Tryd.underlying5 Tryd.underlying9 (Kd.C_below HBR.out HBq.out)⟩ (fun hHeld => ?_)
        clear hK K
        refine norm_ (a' := ?_) ?_ ?_
        rotate_left
        · show Act.put _ (some 48) _ = _
          simp only [Act.put, List.setIfInBounds_toArray, List.set_cons_zero, List.set_cons_succ, i64_w, i32_w]
          rfl
        refine one_ (i := 9) (N := some 49) #[true, true, true, true, true, true, true, true, true, true, true, true, false, false, false, false, false, false, false, false, false, false, false, false, false] rfl rfl (by kernel_rfl) (by decide) (fun K hK => ?_)
        have hcv := own_string (P := Tryd.prog) Tryd.underlying23 Tryd.underlying5 Tryd.underlying9 (Kd.own_of_R HRS.out)
        refine value_ (w1 := ?_) (v := ?_) (by rfl) rfl ?_ ?_
        rotate_left 2
        · go_simp
          constructor
          · rfl
          · rfl
        clear hcv
        refine hK.out _ _ ⟨Cells15.mk_ (blk_below HYY.out HBq.out), Kd.C_string (P := Tryd.prog) (A := Ab) (c := cb) Tryd.underlying23 Tryd.underlying5 Tryd.underlying9 (Kd.C_below HBR.out HBq.out)⟩ (fun hHeld => ?_)
        clear hK K
        refine norm_ (a' := ?_) ?_ ?_
        rotate_left
        · show Act.put _ (some 49) _ = _
          simp only [Act.put, List.setIfInBounds_toArray, List.set_cons_zero, List.set_cons_succ, i64_w, i32_w]
          rfl
        refine pure_ (i := 12) (N := some 52) (v := ?_) (a' := ?_) #[true, true, true, true, true, true, true, true, true, true, true, true, true, false, false, false, false, false, false, false, false, false, false, false, false] rfl rfl (by kernel_rfl) (fun _ _ _ h => h) (Or.inl ⟨by rfl, ?_⟩) ?_ ?_
        rotate_left
        · intro w'
          go_simp
          with_reducible rfl
        rotate_left
        · simp only [Act.put, List.setIfInBounds_toArray, List.set_cons_zero, List.set_cons_succ, i64_w, i32_w]
          rfl
        refine pure_ (i := 13) (N := some 53) (v := ?_) (a' := ?_) #[true, true, true, true, true, true, true, true, true, true, true, true, true, true, false, false, false, false, false, false, false, false, false, false, false] rfl rfl (by kernel_rfl) (fun _ _ _ h => h) (Or.inl ⟨by rfl, ?_⟩) ?_ ?_
        rotate_left
        · intro w'
          go_simp
          with_reducible rfl
        rotate_left
        · simp only [Act.put, List.setIfInBounds_toArray, List.set_cons_zero, List.set_cons_succ, i64_w, i32_w]
          rfl
        refine pure_ (i := 14) (N := some 54) (v := ?_) (a' := ?_) #[true, true, true, true, true, true, true, true, true, true, true, true, true, true, true, false, false, false, false, false, false, false, false, false, false] rfl rfl (by kernel_rfl) (fun _ _ _ h => h) (Or.inl ⟨by rfl, ?_⟩) ?_ ?_
        rotate_left
        · intro w'
          go_simp
          with_reducible rfl
        rotate_left
        · simp only [Act.put, List.setIfInBounds_toArray, List.set_cons_zero, List.set_cons_succ, i64_w, i32_w]
          rfl
        refine pure_ (i := 15) (N := some 55) (v := ?_) (a' := ?_) #[true, true, true, true, true, true, true, true, true, true, true, true, true, true, true, true, false, false, false, false, false, false, false, false, false] rfl rfl (by kernel_rfl) (fun _ _ _ h => h) (Or.inl ⟨by rfl, ?_⟩) ?_ ?_
        rotate_left
        · intro w'
          go_simp
          with_reducible rfl
        rotate_left
        · simp only [Act.put, List.setIfInBounds_toArray, List.set_cons_zero, List.set_cons_succ, i64_w, i32_w]
          rfl
        refine pure_ (i := 16) (N := some 56) (v := ?_) (a' := ?_) #[true, true, true, true, true, true, true, true, true, true, true, true, true, true, true, true, true, false, false, false, false, false, false, false, false] rfl rfl (by kernel_rfl) (fun _ _ _ h => h) (Or.inl ⟨by rfl, ?_⟩) ?_ ?_
        rotate_left
        · intro w'
          go_simp
          with_reducible rfl
        rotate_left
        · simp only [Act.put, List.setIfInBounds_toArray, List.set_cons_zero, List.set_cons_succ, i64_w, i32_w]
          rfl
        refine pure_ (i := 17) (N := some 57) (v := ?_) (a' := ?_) #[true, true, true, true, true, true, true, true, true, true, true, true, true, true, true, true, true, true, false, false, false, false, false, false, false] rfl rfl (by kernel_rfl) (fun _ _ _ h => h) (Or.inl ⟨by rfl, ?_⟩) ?_ ?_
        rotate_left
        · intro w'
          go_simp
          with_reducible rfl
        rotate_left
        · simp only [Act.put, List.setIfInBounds_toArray, List.set_cons_zero, List.set_cons_succ, i64_w, i32_w]
          rfl
        refine pure_ (i := 18) (N := some 58) (v := ?_) (a' := ?_) #[true, true, true, true, true, true, true, true, true, true, true, true, true, true, true, true, true, true, true, false, false, false, false, false, false] rfl rfl (by kernel_rfl) (fun _ _ _ h => h) (Or.inl ⟨by rfl, ?_⟩) ?_ ?_
        rotate_left
        · intro w'
          go_simp
          with_reducible rfl
        rotate_left
        · simp only [Act.put, List.setIfInBounds_toArray, List.set_cons_zero, List.set_cons_succ, i64_w, i32_w]
          rfl
        refine pure_ (i := 19) (N := some 59) (v := undef) (a' := ?_) #[true, true, true, true, true, true, true, true, true, true, true, true, true, true, true, true, true, true, true, true, false, false, false, false, false] rfl rfl (by kernel_rfl) (fun _ _ _ h => h) (Or.inr ⟨by rfl, rfl⟩) ?_ ?_
        rotate_left
        · simp only [Act.put, List.setIfInBounds_toArray, List.set_cons_zero, List.set_cons_succ, i64_w, i32_w]
          rfl
        refine pure_ (i := 20) (N := some 60) (v := undef) (a' := ?_) #[true, true, true, true, true, true, true, true, true, true, true, true, true, true, true, true, true, true, true, true, true, false, false, false, false] rfl rfl (by kernel_rfl) (fun _ _ _ h => h) (Or.inr ⟨by rfl, rfl⟩) ?_ ?_
        rotate_left
        · simp only [Act.put, List.setIfInBounds_toArray, List.set_cons_zero, List.set_cons_succ, i64_w, i32_w]
          rfl
        refine pure_ (i := 21) (N := some 61) (v := undef) (a' := ?_) #[true, true, true, true, true, true, true, true, true, true, true, true, true, true, true, true, true, true, true, true, true, true, false, false, false] rfl rfl (by kernel_rfl) (fun _ _ _ h => h) (Or.inr ⟨by rfl, rfl⟩) ?_ ?_
        rotate_left
        · simp only [Act.put, List.setIfInBounds_toArray, List.set_cons_zero, List.set_cons_succ, i64_w, i32_w]
          rfl
        refine pure_ (i := 22) (N := some 62) (v := undef) (a' := ?_) #[true, true, true, true, true, true, true, true, true, true, true, true, true, true, true, true, true, true, true, true, true, true, true, false, false] rfl rfl (by kernel_rfl) (fun _ _ _ h => h) (Or.inr ⟨by rfl, rfl⟩) ?_ ?_
        rotate_left
        · simp only [Act.put, List.setIfInBounds_toArray, List.set_cons_zero, List.set_cons_succ, i64_w, i32_w]
          rfl
        refine pure_ (i := 23) (N := some 63) (v := ?_) (a' := ?_) #[true, true, true, true, true, true, true, true, true, true, true, true, true, true, true, true, true, true, true, true, true, true, true, true, false] rfl rfl (by kernel_rfl) (fun _ _ _ h => h) (Or.inl ⟨by rfl, ?_⟩) ?_ ?_
        rotate_left
        · intro w'
          go_simp
          with_reducible rfl
        rotate_left
        · simp only [Act.put, List.setIfInBounds_toArray, List.set_cons_zero, List.set_cons_succ, i64_w, i32_w]
          rfl
        refine pure_ (i := 24) (N := some 64) (v := ?_) (a' := ?_) #[true, true, true, true, true, true, true, true, true, true, true, true, true, true, true, true, true, true, true, true, true, true, true, true, true] rfl rfl (by kernel_rfl) (fun _ _ _ h => h) (Or.inl ⟨by rfl, ?_⟩) ?_ ?_
        rotate_left
        · intro w'
          go_simp
          with_reducible rfl
        rotate_left
        · simp only [Act.put, List.setIfInBounds_toArray, List.set_cons_zero, List.set_cons_succ, i64_w, i32_w]
          rfl
        refine done_ (by kernel_rfl) ?_
        go_wp2_with fail
        go_meet
        case rel => exact ⟨rfl, HBq⟩
    · as_aux_lemma =>
        unfold tell16 at hnn
        simp only [Prod.mk.injEq] at hnn
        obtain ⟨rfl, rfl, rfl, rfl, rfl, rfl, rfl, rfl, rfl, rfl, rfl, rfl, rfl, rfl, rfl, rfl⟩ := hnn
        skip
        have hqf : (y16 == 0) = false := beq_eq_false_iff_ne.2 hq
        have hqn : (y16 != 0) = true := bne_iff_ne.2 hq
        clear hq
        refine start_ (n := 25) (S := fun w' => Cells15 gy (.int .i64 0) (.int .i64 0) (.int .i64 0) (.int .i64 0) (.int .i64 0) (.int .i64 0) (.int .i64 0) (.int .i64 0) (.slice Z8 ([] : List Int).length f8) (.slice Z9 ([] : List Int).length f9) (.int .i64 0) (.int .i64 0) (.int .i64 0) (.int .i64 0) (.slice Z14 ([] : List Int).length f14) w') (ds := []) #[false, false, false, false, false, false, false, false, false, false, false, false, false, false, false, false, false, false, false, false, false, false, false, false, false] (by kernel_rfl) rfl rfl (Cells15.mk_ (blk_below HYY.out (below_drew1 (Below.refl _ _)))) (fun hHeld => ?_)
        have HBq := Aside0.mk (below_drew1 (Below.refl w9.heap.size w9))
        generalize hwa_ : w9.drew = wa at *
        clear hwa_
        refine pure_ (i := 0) (N := some 40) (v := ?_) (a' := ?_) #[true, false, false, false, false, false, false, false, false, false, false, false, false, false, false, false, false, false, false, false, false, false, false, false, false] rfl rfl (by kernel_rfl) (fun _ _ _ h => h) (Or.inl ⟨by rfl, ?_⟩) ?_ ?_
        rotate_left
        · intro w'
          go_simp
          with_reducible rfl
        rotate_left
        · simp only [Act.put, List.setIfInBounds_toArray, List.set_cons_zero, List.set_cons_succ, i64_w, i32_w]
          rfl
        refine pure_ (i := 1) (N := some 41) (v := ?_) (a' := ?_) #[true, true, false, false, false, false, false, false, false, false, false, false, false, false, false, false, false, false, false, false, false, false, false, false, false] rfl rfl (by kernel_rfl) (fun _ _ _ h => h) (Or.inl ⟨by rfl, ?_⟩) ?_ ?_
        rotate_left
        · intro w'
          go_simp
          with_reducible rfl
        rotate_left
        · simp only [Act.put, List.setIfInBounds_toArray, List.set_cons_zero, List.set_cons_succ, i64_w, i32_w]
          rfl
        refine pure_ (i := 2) (N := some 42) (v := ?_) (a' := ?_) #[true, true, true, false, false, false, false, false, false, false, false, false, false, false, false, false, false, false, false, false, false, false, false, false, false] rfl rfl (by kernel_rfl) (fun _ _ _ h => h) (Or.inl ⟨by rfl, ?_⟩) ?_ ?_
        rotate_left
        · intro w'
          go_simp
          with_reducible rfl
        rotate_left
        · simp only [Act.put, List.setIfInBounds_toArray, List.set_cons_zero, List.set_cons_succ, i64_w, i32_w]
          rfl
        refine pure_ (i := 3) (N := some 43) (v := undef) (a' := ?_) #[true, true, true, true, false, false, false, false, false, false, false, false, false, false, false, false, false, false, false, false, false, false, false, false, false] rfl rfl (by kernel_rfl) (fun _ _ _ h => h) (Or.inr ⟨by rfl, rfl⟩) ?_ ?_
        rotate_left
        · simp only [Act.put, List.setIfInBounds_toArray, List.set_cons_zero, List.set_cons_succ, i64_w, i32_w]
          rfl
        refine pure_ (i := 4) (N := some 44) (v := undef) (a' := ?_) #[true, true, true, true, true, false, false, false, false, false, false, false, false, false, false, false, false, false, false, false, false, false, false, false, false] rfl rfl (by kernel_rfl) (fun _ _ _ h => h) (Or.inr ⟨by rfl, rfl⟩) ?_ ?_
        rotate_left
        · simp only [Act.put, List.setIfInBounds_toArray, List.set_cons_zero, List.set_cons_succ, i64_w, i32_w]
          rfl
        refine pure_ (i := 5) (N := some 45) (v := undef) (a' := ?_) #[true, true, true, true, true, true, false, false, false, false, false, false, false, false, false, false, false, false, false, false, false, false, false, false, false] rfl rfl (by kernel_rfl) (fun _ _ _ h => h) (Or.inr ⟨by rfl, rfl⟩) ?_ ?_
        rotate_left
        · simp only [Act.put, List.setIfInBounds_toArray, List.set_cons_zero, List.set_cons_succ, i64_w, i32_w]
          rfl
        refine pure_ (i := 6) (N := some 46) (v := undef) (a' := ?_) #[true, true, true, true, true, true, true, false, false, false, false, false, false, false, false, false, false, false, false, false, false, false, false, false, false] rfl rfl (by kernel_rfl) (fun _ _ _ h => h) (Or.inr ⟨by rfl, rfl⟩) ?_ ?_
        rotate_left
        · simp only [Act.put, List.setIfInBounds_toArray, List.set_cons_zero, List.set_cons_succ, i64_w, i32_w]
          rfl
        refine pure_ (i := 7) (N := some 47) (v := undef) (a' := ?_) #[true, true, true, true, true, true, true, true, false, false, false, false, false, false, false, false, false, false, false, false, false, false, false, false, false] rfl rfl (by kernel_rfl) (fun _ _ _ h => h) (Or.inr ⟨by rfl, rfl⟩) ?_ ?_
        rotate_left
        · simp only [Act.put, List.setIfInBounds_toArray, List.set_cons_zero, List.set_cons_succ, i64_w, i32_w]
          rfl
        refine pure_ (i := 8) (N := some 48) (v := undef) (a' := ?_) #[true, true, true, true, true, true, true, true, true, false, false, false, false, false, false, false, false, false, false, false, false, false, false, false, false] rfl rfl (by kernel_rfl) (fun _ _ _ h => h) (Or.inr ⟨by rfl, rfl⟩) ?_ ?_
        rotate_left
        · simp only [Act.put, List.setIfInBounds_toArray, List.set_cons_zero, List.set_cons_succ, i64_w, i32_w]
          rfl
        refine pure_ (i := 9) (N := some 49) (v := undef) (a' := ?_) #[true, true, true, true, true, true, true, true, true, true, false, false, false, false, false, false, false, false, false, false, false, false, false, false, false] rfl rfl (by kernel_rfl) (fun _ _ _ h => h) (Or.inr ⟨by rfl, rfl⟩) ?_ ?_
        rotate_left
        · simp only [Act.put, List.setIfInBounds_toArray, List.set_cons_zero, List.set_cons_succ, i64_w, i32_w]
          rfl
        refine pure_ (i := 10) (N := some 50) (v := undef) (a' := ?_) #[true, true, true, true, true, true, true, true, true, true, true, false, false, false, false, false, false, false, false, false, false, false, false, false, false] rfl rfl (by kernel_rfl) (fun _ _ _ h => h) (Or.inr ⟨by rfl, rfl⟩) ?_ ?_
        rotate_left
        · simp only [Act.put, List.setIfInBounds_toArray, List.set_cons_zero, List.set_cons_succ, i64_w, i32_w]
          rfl
        refine pure_ (i := 11) (N := some 51) (v := undef) (a' := ?_) #[true, true, true, true, true, true, true, true, true, true, true, true, false, false, false, false, false, false, false, false, false, false, false, false, false] rfl rfl (by kernel_rfl) (fun _ _ _ h => h) (Or.inr ⟨by rfl, rfl⟩) ?_ ?_
        rotate_left
        · simp only [Act.put, List.setIfInBounds_toArray, List.set_cons_zero, List.set_cons_succ, i64_w, i32_w]
          rfl
        refine pure_ (i := 12) (N := some 52) (v := undef) (a' := ?_) #[true, true, true, true, true, true, true, true, true, true, true, true, true, false, false, false, false, false, false, false, false, false, false, false, false] rfl rfl (by kernel_rfl) (fun _ _ _ h => h) (Or.inr ⟨by rfl, rfl⟩) ?_ ?_
        rotate_left
        · simp only [Act.put, List.setIfInBounds_toArray, List.set_cons_zero, List.set_cons_succ, i64_w, i32_w]
          rfl
        refine pure_ (i := 13) (N := some 53) (v := undef) (a' := ?_) #[true, true, true, true, true, true, true, true, true, true, true, true, true, true, false, false, false, false, false, false, false, false, false, false, false] rfl rfl (by kernel_rfl) (fun _ _ _ h => h) (Or.inr ⟨by rfl, rfl⟩) ?_ ?_
        rotate_left
        · simp only [Act.put, List.setIfInBounds_toArray, List.set_cons_zero, List.set_cons_succ, i64_w, i32_w]
          rfl
        refine pure_ (i := 14) (N := some 54) (v := ?_) (a' := ?_) #[true, true, true, true, true, true, true, true, true, true, true, true, true, true, true, false, false, false, false, false, false, false, false, false, false] rfl rfl (by kernel_rfl) (fun _ _ _ h => h) (Or.inl ⟨by rfl, ?_⟩) ?_ ?_
        rotate_left
        · intro w'
          go_simp
          with_reducible rfl
        rotate_left
        · simp only [Act.put, List.setIfInBounds_toArray, List.set_cons_zero, List.set_cons_succ, i64_w, i32_w]
          rfl
        refine pure_ (i := 15) (N := some 55) (v := ?_) (a' := ?_) #[true, true, true, true, true, true, true, true, true, true, true, true, true, true, true, true, false, false, false, false, false, false, false, false, false] rfl rfl (by kernel_rfl) (fun _ _ _ h => h) (Or.inl ⟨by rfl, ?_⟩) ?_ ?_
        rotate_left
        · intro w'
          go_simp
          with_reducible rfl
        rotate_left
        · simp only [Act.put, List.setIfInBounds_toArray, List.set_cons_zero, List.set_cons_succ, i64_w, i32_w]
          rfl
        refine pure_ (i := 16) (N := some 56) (v := ?_) (a' := ?_) #[true, true, true, true, true, true, true, true, true, true, true, true, true, true, true, true, true, false, false, false, false, false, false, false, false] rfl rfl (by kernel_rfl) (fun _ _ _ h => h) (Or.inl ⟨by rfl, ?_⟩) ?_ ?_
        rotate_left
        · intro w'
          go_simp
          with_reducible rfl
        rotate_left
        · simp only [Act.put, List.setIfInBounds_toArray, List.set_cons_zero, List.set_cons_succ, i64_w, i32_w]
          rfl
        refine pure_ (i := 17) (N := some 57) (v := ?_) (a' := ?_) #[true, true, true, true, true, true, true, true, true, true, true, true, true, true, true, true, true, true, false, false, false, false, false, false, false] rfl rfl (by kernel_rfl) (fun _ _ _ h => h) (Or.inl ⟨by rfl, ?_⟩) ?_ ?_
        rotate_left
        · intro w'
          go_simp
          with_reducible rfl
        rotate_left
        · simp only [Act.put, List.setIfInBounds_toArray, List.set_cons_zero, List.set_cons_succ, i64_w, i32_w]
          rfl
        refine pure_ (i := 18) (N := some 58) (v := ?_) (a' := ?_) #[true, true, true, true, true, true, true, true, true, true, true, true, true, true, true, true, true, true, true, false, false, false, false, false, false] rfl rfl (by kernel_rfl) (fun _ _ _ h => h) (Or.inl ⟨by rfl, ?_⟩) ?_ ?_
        rotate_left
        · intro w'
          go_simp
          with_reducible rfl
        rotate_left
        · simp only [Act.put, List.setIfInBounds_toArray, List.set_cons_zero, List.set_cons_succ, i64_w, i32_w]
          rfl
        refine pure_ (i := 20) (N := some 60) (v := ?_) (a' := ?_) #[true, true, true, true, true, true, true, true, true, true, true, true, true, true, true, true, true, true, true, false, true, false, false, false, false] rfl rfl (by kernel_rfl) (fun _ _ _ h => h) (Or.inl ⟨by rfl, ?_⟩) ?_ ?_
        rotate_left
        · intro w'
          go_simp
          with_reducible rfl
        rotate_left
        · simp only [Act.put, List.setIfInBounds_toArray, List.set_cons_zero, List.set_cons_succ, i64_w, i32_w]
          rfl
        refine take_ (i := 19) (N := some 59) (v := ?_) (a' := ?_) #[true, true, true, true, true, true, true, true, true, true, true, true, true, true, true, true, true, true, true, true, true, false, false, false, false] rfl rfl (by kernel_rfl) (fun _ _ _ h => h) (Or.inl ⟨by rfl, ?_⟩) hHeld ?_ ?_
        rotate_left
        · rintro w' ⟨s0_, s1_, s2_, s3_, s4_, s5_, s6_, s7_, s8_, s9_, s10_, s11_, s12_, s13_, s14_⟩
          go_simp
          with_reducible rfl
        rotate_left
        · simp only [Act.put, List.setIfInBounds_toArray, List.set_cons_zero, List.set_cons_succ, i64_w, i32_w]
          rfl
        refine one_ (i := 21) (N := some 61) #[true, true, true, true, true, true, true, true, true, true, true, true, true, true, true, true, true, true, true, true, true, true, false, false, false] rfl rfl (by kernel_rfl) (by decide) (fun K hK => ?_)
        have HCT := Lib.hid (show Calls Tryd.prog 16 #[.agg #[.int .i64 0, .int .i64 0, .int .i64 0, .int .i64 0, .int .i64 0, .int .i64 0, .int .i64 0, .int .i64 0, .slice Z8 ([] : List Int).length f8, .slice Z9 ([] : List Int).length f9, .int .i64 0, .int .i64 0, .int .i64 0, .int .i64 0, .slice Z14 ([] : List Int).length f14], .agg #[.int .i64 0, .int .i64 0, .int .i64 0, .int .i64 0, .int .i64 0, .int .i64 0, .int .i64 0, .int .i64 0, .slice none 0 0, .slice none 0 0, .int .i64 0, .int .i64 0, .int .i64 0, .int .i64 0, .slice none 0 0]] wa _ from precentorref04_Same.calls 1 0 0 0 0 0 0 0 0 Z8 f8 [] Z9 f9 [] 0 0 0 0 Z14 f14 [] 0 0 0 0 0 0 0 0 none 0 [] none 0 [] 0 0 0 0 none 0 [] true wa (Kd.C_below Y8.out HBq.out) Yl8.out (Kd.C_below Y9.out HBq.out) Yl9.out (Kd.C_below Y14.out HBq.out) Yl14.out (nilC _ _) (Nat.le_refl _) (nilC _ _) (Nat.le_refl _) (nilC _ _) (Nat.le_refl _) ((if_pos ⟨by decide, by decide⟩).trans (by rw [sameP_refl])))
        refine goes_ Tryd.func16 (by kernel_rfl) rfl #[.agg #[.int .i64 0, .int .i64 0, .int .i64 0, .int .i64 0, .int .i64 0, .int .i64 0, .int .i64 0, .int .i64 0, .slice Z8 ([] : List Int).length f8, .slice Z9 ([] : List Int).length f9, .int .i64 0, .int .i64 0, .int .i64 0, .int .i64 0, .slice Z14 ([] : List Int).length f14], .agg #[.int .i64 0, .int .i64 0, .int .i64 0, .int .i64 0, .int .i64 0, .int .i64 0, .int .i64 0, .int .i64 0, .slice none 0 0, .slice none 0 0, .int .i64 0, .int .i64 0, .int .i64 0, .int .i64 0, .slice none 0 0]] (by rfl) rfl rfl (by simp only [List.map_toArray, List.map_cons, List.map_nil]; rfl) ?_
        with_reducible refine (HCT.out).mono ?_
        rintro e0 wb ⟨rfl, hb⟩
        refine ⟨_, rfl, ?_⟩
        have n0_ := Aside0.mk (below_step HBq.out hb)
        clear HBq hb HCT
        have HBq := n0_
        clear n0_
        refine hK.out _ _ (Cells15.mk_ (blk_below HYY.out HBq.out)) (fun hHeld => ?_)
        clear hK K
        refine norm_ (a' := ?_) ?_ ?_
        rotate_left
        · show Act.put _ (some 61) _ = _
          simp only [Act.put, List.setIfInBounds_toArray, List.set_cons_zero, List.set_cons_succ, i64_w, i32_w]
          rfl
        refine pure_ (i := 22) (N := some 62) (v := ?_) (a' := ?_) #[true, true, true, true, true, true, true, true, true, true, true, true, true, true, true, true, true, true, true, true, true, true, true, false, false] rfl rfl (by kernel_rfl) (fun _ _ _ h => h) (Or.inl ⟨by rfl, ?_⟩) ?_ ?_
        rotate_left
        · intro w'
          go_simp
          with_reducible rfl
        rotate_left
        · simp only [Act.put, List.setIfInBounds_toArray, List.set_cons_zero, List.set_cons_succ, i64_w, i32_w]
          rfl
        refine pure_ (i := 23) (N := some 63) (v := ?_) (a' := ?_) #[true, true, true, true, true, true, true, true, true, true, true, true, true, true, true, true, true, true, true, true, true, true, true, true, false] rfl rfl (by kernel_rfl) (fun _ _ _ h => h) (Or.inl ⟨by rfl, ?_⟩) ?_ ?_
        rotate_left
        · intro w'
          go_simp
          with_reducible rfl
        rotate_left
        · simp only [Act.put, List.setIfInBounds_toArray, List.set_cons_zero, List.set_cons_succ, i64_w, i32_w]
          rfl
        refine pure_ (i := 24) (N := some 64) (v := ?_) (a' := ?_) #[true, true, true, true, true, true, true, true, true, true, true, true, true, true, true, true, true, true, true, true, true, true, true, true, true] rfl rfl (by kernel_rfl) (fun _ _ _ h => h) (Or.inl ⟨by rfl, ?_⟩) ?_ ?_
        rotate_left
        · intro w'
          go_simp
          with_reducible rfl
        rotate_left
        · simp only [Act.put, List.setIfInBounds_toArray, List.set_cons_zero, List.set_cons_succ, i64_w, i32_w]
          rfl
        refine done_ (by kernel_rfl) ?_
        go_wp2_with fail
        go_meet
        case rel => exact ⟨rfl, HBq⟩
  case rest =>
    obtain ⟨hv, hbw⟩ := hcut
    subst hv
    have hb := hbw.out
    clear hbw Y8 Y9 Y14 Yl8 Yl9 Yl14 HYY HYR
    have n0_ := Aside0.mk (below_step HB.out hb)
    have n1_ := Aside0.mk (blk_below HX.out hb)
    have n2_ := Aside0.mk (blk_below HO.out hb)
    have n3_ := Aside0.mk (Kd.C_below H8.out hb)
    have n4_ := Aside0.mk (Kd.C_below H9.out hb)
    have n5_ := Aside0.mk (Kd.C_below H14.out hb)
    have n6_ := Aside0.mk (Kd.C_below G8.out hb)
    have n7_ := Aside0.mk (Kd.C_below G9.out hb)
    have n8_ := Aside0.mk (Kd.C_below G14.out hb)
    have n9_ := Aside0.mk (Kd.C_below HBR.out hb)
    have n10_ := Aside0.mk (Kd.C_below HC2.out hb)
    have n11_ := Aside0.mk (blk_below HXX.out hb)
    have n12_ := Aside0.mk (Kd.C_below X8.out hb)
    have n13_ := Aside0.mk (Kd.C_below X9.out hb)
    have n14_ := Aside0.mk (Kd.C_below X14.out hb)
    clear HB HX HO H8 H9 H14 G8 G9 G14 HBR HC2 HXX X8 X9 X14
    have HB := n0_
    have HX := n1_
    have HO := n2_
    have H8 := n3_
    have H9 := n4_
    have H14 := n5_
    have G8 := n6_
    have G9 := n7_
    have G14 := n8_
    have HBR := n9_
    have HC2 := n10_
    have HXX := n11_
    have X8 := n12_
    have X9 := n13_
    have X14 := n14_
    clear n0_ n1_ n2_ n3_ n4_ n5_ n6_ n7_ n8_ n9_ n10_ n11_ n12_ n13_ n14_
    clear hb
    obtain ⟨⟨q0, q1, q2, q3, q4, q5, q6, q7, q8, q9, q10, q11, q12, q13, q14⟩, ⟨qf0, qf1, qf2, qf3, qf4, qf5, qf6, qf7, qf8, qf9, qf10, qf11, qf12, qf13, qf14⟩⟩ := cells15 HX.out
    have HCT := Lib.hid (show Calls Tryd.prog 13 #[.agg #[.int .i64 kd, .int .i64 fr, .int .i64 k, .int .i64 s, .int .i64 e, .int .i64 i, .int .i64 t, .int .i64 c, .slice A8 L.length c8, .slice A9 bo.length c9, .int .i64 T, .int .i64 O, .int .i64 M, .int .i64 P, .slice A14 R.length c14]] wc _ from pkt_May.calls 10000 kd fr k s e i t c A8 c8 L A9 c9 bo T O M P A14 c14 R my wc H8.out HC8.out H9.out HC9.out H14.out HC14.out (by rw [pmay_is _ _ _ _ _ _ _ _ _ _ _ _ _ _ _ HK.out (by have := HFW1.out; omega) (by have := HFW1.out; omega), HMY.out]))
    go_wp2_with fail
    refine HCT.out.mono ?_
    rintro e_ wd ⟨rfl, hb⟩
    clear HCT q0 qf0 q1 qf1 q2 qf2 q3 qf3 q4 qf4 q5 qf5 q6 qf6 q7 qf7 q8 qf8 q9 qf9 q10 qf10 q11 qf11 q12 qf12 q13 qf13 q14 qf14
    have n0_ := Aside0.mk (below_step HB.out hb)
    have n1_ := Aside0.mk (blk_below HX.out hb)
    have n2_ := Aside0.mk (blk_below HO.out hb)
    have n3_ := Aside0.mk (Kd.C_below H8.out hb)
    have n4_ := Aside0.mk (Kd.C_below H9.out hb)
    have n5_ := Aside0.mk (Kd.C_below H14.out hb)
    have n6_ := Aside0.mk (Kd.C_below G8.out hb)
    have n7_ := Aside0.mk (Kd.C_below G9.out hb)
    have n8_ := Aside0.mk (Kd.C_below G14.out hb)
    have n9_ := Aside0.mk (Kd.C_below HBR.out hb)
    have n10_ := Aside0.mk (Kd.C_below HC2.out hb)
    have n11_ := Aside0.mk (blk_below HXX.out hb)
    have n12_ := Aside0.mk (Kd.C_below X8.out hb)
    have n13_ := Aside0.mk (Kd.C_below X9.out hb)
    have n14_ := Aside0.mk (Kd.C_below X14.out hb)
    clear HB HX HO H8 H9 H14 G8 G9 G14 HBR HC2 HXX X8 X9 X14
    have HB := n0_
    have HX := n1_
    have HO := n2_
    have H8 := n3_
    have H9 := n4_
    have H14 := n5_
    have G8 := n6_
    have G9 := n7_
    have G14 := n8_
    have HBR := n9_
    have HC2 := n10_
    have HXX := n11_
    have X8 := n12_
    have X9 := n13_
    have X14 := n14_
    clear n0_ n1_ n2_ n3_ n4_ n5_ n6_ n7_ n8_ n9_ n10_ n11_ n12_ n13_ n14_
    clear hb
    have hx := HXR.out
    have hsb := HSB.out
    clear HXR HSB
    cases my
    · rw [if_neg Bool.false_ne_true] at hsb
      subst hsb
      clear hx
      go_wp2_with fail
      go_ret
      exact ⟨rfl, HB.out⟩
    rw [if_pos rfl] at hx hsb
    simp only [Prod.mk.injEq] at hx
    obtain ⟨rfl, rfl, rfl, rfl, rfl, rfl, rfl, rfl, rfl, rfl, rfl, rfl, rfl, rfl, rfl, rfl⟩ := hx
    obtain ⟨⟨q0, q1, q2, q3, q4, q5, q6, q7, q8, q9, q10, q11, q12, q13, q14⟩, ⟨qf0, qf1, qf2, qf3, qf4, qf5, qf6, qf7, qf8, qf9, qf10, qf11, qf12, qf13, qf14⟩⟩ := cells15 HX.out
    obtain ⟨⟨p0, p1, p2, p3, p4, p5, p6, p7, p8, p9, p10, p11, p12, p13, p14⟩, ⟨pf0, pf1, pf2, pf3, pf4, pf5, pf6, pf7, pf8, pf9, pf10, pf11, pf12, pf13, pf14⟩⟩ := cells15 HXX.out
    have HCT := Lib.hid (show Calls Tryd.prog 16 #[.agg #[.int .i64 kd, .int .i64 fr, .int .i64 k, .int .i64 s, .int .i64 e, .int .i64 i, .int .i64 t, .int .i64 c, .slice D8 L.length e8, .slice D9 bo.length e9, .int .i64 T, .int .i64 O, .int .i64 M, .int .i64 P, .slice D14 R.length e14], .agg #[.int .i64 kd, .int .i64 fr, .int .i64 k, .int .i64 s, .int .i64 e, .int .i64 i, .int .i64 t, .int .i64 c, .slice A8 L.length c8, .slice A9 bo.length c9, .int .i64 T, .int .i64 O, .int .i64 M, .int .i64 P, .slice A14 R.length c14]] wd _ from precentorref04_Same.calls 1 kd fr k s e i t c D8 e8 L D9 e9 bo T O M P D14 e14 R kd fr k s e i t c A8 c8 L A9 c9 bo T O M P A14 c14 R true wd X8.out Xl8.out X9.out Xl9.out X14.out Xl14.out H8.out HC8.out H9.out HC9.out H14.out HC14.out ((if_pos ⟨by have := HFW1.out; omega, by have := HFW1.out; omega⟩).trans (by rw [sameP_refl])))
    go_wp2_with fail
    refine HCT.out.mono ?_
    rintro e_ we ⟨rfl, hb⟩
    clear HCT HXX X8 X9 X14 Xl8 Xl9 Xl14 q0 qf0 q1 qf1 q2 qf2 q3 qf3 q4 qf4 q5 qf5 q6 qf6 q7 qf7 q8 qf8 q9 qf9 q10 qf10 q11 qf11 q12 qf12 q13 qf13 q14 qf14 p0 pf0 p1 pf1 p2 pf2 p3 pf3 p4 pf4 p5 pf5 p6 pf6 p7 pf7 p8 pf8 p9 pf9 p10 pf10 p11 pf11 p12 pf12 p13 pf13 p14 pf14
    have n0_ := Aside0.mk (below_step HB.out hb)
    have n1_ := Aside0.mk (blk_below HX.out hb)
    have n2_ := Aside0.mk (blk_below HO.out hb)
    have n3_ := Aside0.mk (Kd.C_below H8.out hb)
    have n4_ := Aside0.mk (Kd.C_below H9.out hb)
    have n5_ := Aside0.mk (Kd.C_below H14.out hb)
    have n6_ := Aside0.mk (Kd.C_below G8.out hb)
    have n7_ := Aside0.mk (Kd.C_below G9.out hb)
    have n8_ := Aside0.mk (Kd.C_below G14.out hb)
    have n9_ := Aside0.mk (Kd.C_below HBR.out hb)
    have n10_ := Aside0.mk (Kd.C_below HC2.out hb)
    clear HB HX HO H8 H9 H14 G8 G9 G14 HBR HC2
    have HB := n0_
    have HX := n1_
    have HO := n2_
    have H8 := n3_
    have H9 := n4_
    have H14 := n5_
    have G8 := n6_
    have G9 := n7_
    have G14 := n8_
    have HBR := n9_
    have HC2 := n10_
    clear n0_ n1_ n2_ n3_ n4_ n5_ n6_ n7_ n8_ n9_ n10_
    clear hb
    obtain ⟨mo, hmo⟩ : ∃ m, mayP kd' fr' (mayB k' s' e' i' t' c' L' bo'.length) (bareB k' s' e' i' t' c' L' bo') T' O' M' P' R' = m := ⟨_, rfl⟩
    have HMO := Lib.hid hmo
    clear hmo
    go_upto_region 13 with fail
    cases mo
    · as_aux_lemma =>
        skip
        refine start_ (n := 19) (S := fun w' => Cells15 (w.heap.size + 1) (.int .i64 kd') (.int .i64 fr') (.int .i64 k') (.int .i64 s') (.int .i64 e') (.int .i64 i') (.int .i64 t') (.int .i64 c') (.slice B8 L'.length d8) (.slice B9 bo'.length d9) (.int .i64 T') (.int .i64 O') (.int .i64 M') (.int .i64 P') (.slice B14 R'.length d14) w') (ds := []) #[false, false, false, false, false, false, false, false, false, false, false, false, false, false, false, false, false, false, false] (by kernel_rfl) rfl rfl (Cells15.mk_ (blk_below HO.out (below_drew1 (Below.refl _ _)))) (fun hHeld => ?_)
        have HBq := Aside0.mk (below_drew1 (Below.refl we.heap.size we))
        generalize hwa_ : we.drew = wa at *
        clear hwa_
        refine pure_ (i := 0) (N := some 82) (v := ?_) (a' := ?_) #[true, false, false, false, false, false, false, false, false, false, false, false, false, false, false, false, false, false, false] rfl rfl (by kernel_rfl) (fun _ _ _ h => h) (Or.inl ⟨by rfl, ?_⟩) ?_ ?_
        rotate_left
        · intro w'
          go_simp
          with_reducible rfl
        rotate_left
        · simp only [Act.put, List.setIfInBounds_toArray, List.set_cons_zero, List.set_cons_succ, i64_w, i32_w]
          rfl
        refine pure_ (i := 1) (N := some 83) (v := ?_) (a' := ?_) #[true, true, false, false, false, false, false, false, false, false, false, false, false, false, false, false, false, false, false] rfl rfl (by kernel_rfl) (fun _ _ _ h => h) (Or.inl ⟨by rfl, ?_⟩) ?_ ?_
        rotate_left
        · intro w'
          go_simp
          with_reducible rfl
        rotate_left
        · simp only [Act.put, List.setIfInBounds_toArray, List.set_cons_zero, List.set_cons_succ, i64_w, i32_w]
          rfl
        refine take_ (i := 2) (N := some 84) (v := ?_) (a' := ?_) #[true, true, true, false, false, false, false, false, false, false, false, false, false, false, false, false, false, false, false] rfl rfl (by kernel_rfl) (fun _ _ _ h => h) (Or.inl ⟨by rfl, ?_⟩) hHeld ?_ ?_
        rotate_left
        · rintro w' ⟨s0_, s1_, s2_, s3_, s4_, s5_, s6_, s7_, s8_, s9_, s10_, s11_, s12_, s13_, s14_⟩
          go_simp
          with_reducible rfl
        rotate_left
        · simp only [Act.put, List.setIfInBounds_toArray, List.set_cons_zero, List.set_cons_succ, i64_w, i32_w]
          rfl
        refine one_ (i := 3) (N := some 85) #[true, true, true, true, false, false, false, false, false, false, false, false, false, false, false, false, false, false, false] rfl rfl (by kernel_rfl) (by decide) (fun K hK => ?_)
        have HCT := Lib.hid (show Calls Tryd.prog 13 #[.agg #[.int .i64 kd', .int .i64 fr', .int .i64 k', .int .i64 s', .int .i64 e', .int .i64 i', .int .i64 t', .int .i64 c', .slice B8 L'.length d8, .slice B9 bo'.length d9, .int .i64 T', .int .i64 O', .int .i64 M', .int .i64 P', .slice B14 R'.length d14]] wa _ from pkt_May.calls 10000 kd' fr' k' s' e' i' t' c' B8 d8 L' B9 d9 bo' T' O' M' P' B14 d14 R' false wa (Kd.C_below G8.out HBq.out) GC8.out (Kd.C_below G9.out HBq.out) GC9.out (Kd.C_below G14.out HBq.out) GC14.out (by rw [pmay_is _ _ _ _ _ _ _ _ _ _ _ _ _ _ _ HK'.out (by have := HFW2.out; omega) (by have := HFW2.out; omega), HMO.out]))
        refine goes_ Tryd.func13 (by kernel_rfl) rfl #[.agg #[.int .i64 kd', .int .i64 fr', .int .i64 k', .int .i64 s', .int .i64 e', .int .i64 i', .int .i64 t', .int .i64 c', .slice B8 L'.length d8, .slice B9 bo'.length d9, .int .i64 T', .int .i64 O', .int .i64 M', .int .i64 P', .slice B14 R'.length d14]] (by rfl) rfl rfl (by simp only [List.map_toArray, List.map_cons, List.map_nil]; rfl) ?_
        with_reducible refine (HCT.out).mono ?_
        rintro e0 wb ⟨rfl, hb⟩
        refine ⟨_, rfl, ?_⟩
        have n0_ := Aside0.mk (below_step HBq.out hb)
        clear HBq hb HCT
        have HBq := n0_
        clear n0_
        refine hK.out _ _ (Cells15.mk_ (blk_below HO.out HBq.out)) (fun hHeld => ?_)
        clear hK K
        refine norm_ (a' := ?_) ?_ ?_
        rotate_left
        · show Act.put _ (some 85) _ = _
          simp only [Act.put, List.setIfInBounds_toArray, List.set_cons_zero, List.set_cons_succ, i64_w, i32_w]
          rfl
        refine pure_ (i := 4) (N := some 86) (v := ?_) (a' := ?_) #[true, true, true, true, true, false, false, false, false, false, false, false, false, false, false, false, false, false, false] rfl rfl (by kernel_rfl) (fun _ _ _ h => h) (Or.inl ⟨by rfl, ?_⟩) ?_ ?_
        rotate_left
        · intro w'
          go_simp
          with_reducible rfl
        rotate_left
        · simp only [Act.put, List.setIfInBounds_toArray, List.set_cons_zero, List.set_cons_succ, i64_w, i32_w]
          rfl
        refine pure_ (i := 5) (N := some 87) (v := ?_) (a' := ?_) #[true, true, true, true, true, true, false, false, false, false, false, false, false, false, false, false, false, false, false] rfl rfl (by kernel_rfl) (fun _ _ _ h => h) (Or.inl ⟨by rfl, ?_⟩) ?_ ?_
        rotate_left
        · intro w'
          go_simp
          with_reducible rfl
        rotate_left
        · simp only [Act.put, List.setIfInBounds_toArray, List.set_cons_zero, List.set_cons_succ, i64_w, i32_w]
          rfl
        refine pure_ (i := 6) (N := some 88) (v := undef) (a' := ?_) #[true, true, true, true, true, true, true, false, false, false, false, false, false, false, false, false, false, false, false] rfl rfl (by kernel_rfl) (fun _ _ _ h => h) (Or.inr ⟨by rfl, rfl⟩) ?_ ?_
        rotate_left
        · simp only [Act.put, List.setIfInBounds_toArray, List.set_cons_zero, List.set_cons_succ, i64_w, i32_w]
          rfl
        refine pure_ (i := 7) (N := some 89) (v := undef) (a' := ?_) #[true, true, true, true, true, true, true, true, false, false, false, false, false, false, false, false, false, false, false] rfl rfl (by kernel_rfl) (fun _ _ _ h => h) (Or.inr ⟨by rfl, rfl⟩) ?_ ?_
        rotate_left
        · simp only [Act.put, List.setIfInBounds_toArray, List.set_cons_zero, List.set_cons_succ, i64_w, i32_w]
          rfl
        refine pure_ (i := 8) (N := some 90) (v := undef) (a' := ?_) #[true, true, true, true, true, true, true, true, true, false, false, false, false, false, false, false, false, false, false] rfl rfl (by kernel_rfl) (fun _ _ _ h => h) (Or.inr ⟨by rfl, rfl⟩) ?_ ?_
        rotate_left
        · simp only [Act.put, List.setIfInBounds_toArray, List.set_cons_zero, List.set_cons_succ, i64_w, i32_w]
          rfl
        refine pure_ (i := 9) (N := some 91) (v := undef) (a' := ?_) #[true, true, true, true, true, true, true, true, true, true, false, false, false, false, false, false, false, false, false] rfl rfl (by kernel_rfl) (fun _ _ _ h => h) (Or.inr ⟨by rfl, rfl⟩) ?_ ?_
        rotate_left
        · simp only [Act.put, List.setIfInBounds_toArray, List.set_cons_zero, List.set_cons_succ, i64_w, i32_w]
          rfl
        refine pure_ (i := 10) (N := some 92) (v := undef) (a' := ?_) #[true, true, true, true, true, true, true, true, true, true, true, false, false, false, false, false, false, false, false] rfl rfl (by kernel_rfl) (fun _ _ _ h => h) (Or.inr ⟨by rfl, rfl⟩) ?_ ?_
        rotate_left
        · simp only [Act.put, List.setIfInBounds_toArray, List.set_cons_zero, List.set_cons_succ, i64_w, i32_w]
          rfl
        refine pure_ (i := 11) (N := some 93) (v := undef) (a' := ?_) #[true, true, true, true, true, true, true, true, true, true, true, true, false, false, false, false, false, false, false] rfl rfl (by kernel_rfl) (fun _ _ _ h => h) (Or.inr ⟨by rfl, rfl⟩) ?_ ?_
        rotate_left
        · simp only [Act.put, List.setIfInBounds_toArray, List.set_cons_zero, List.set_cons_succ, i64_w, i32_w]
          rfl
        refine pure_ (i := 12) (N := some 94) (v := undef) (a' := ?_) #[true, true, true, true, true, true, true, true, true, true, true, true, true, false, false, false, false, false, false] rfl rfl (by kernel_rfl) (fun _ _ _ h => h) (Or.inr ⟨by rfl, rfl⟩) ?_ ?_
        rotate_left
        · simp only [Act.put, List.setIfInBounds_toArray, List.set_cons_zero, List.set_cons_succ, i64_w, i32_w]
          rfl
        refine pure_ (i := 13) (N := some 95) (v := undef) (a' := ?_) #[true, true, true, true, true, true, true, true, true, true, true, true, true, true, false, false, false, false, false] rfl rfl (by kernel_rfl) (fun _ _ _ h => h) (Or.inr ⟨by rfl, rfl⟩) ?_ ?_
        rotate_left
        · simp only [Act.put, List.setIfInBounds_toArray, List.set_cons_zero, List.set_cons_succ, i64_w, i32_w]
          rfl
        refine pure_ (i := 14) (N := some 96) (v := undef) (a' := ?_) #[true, true, true, true, true, true, true, true, true, true, true, true, true, true, true, false, false, false, false] rfl rfl (by kernel_rfl) (fun _ _ _ h => h) (Or.inr ⟨by rfl, rfl⟩) ?_ ?_
        rotate_left
        · simp only [Act.put, List.setIfInBounds_toArray, List.set_cons_zero, List.set_cons_succ, i64_w, i32_w]
          rfl
        refine pure_ (i := 15) (N := some 97) (v := undef) (a' := ?_) #[true, true, true, true, true, true, true, true, true, true, true, true, true, true, true, true, false, false, false] rfl rfl (by kernel_rfl) (fun _ _ _ h => h) (Or.inr ⟨by rfl, rfl⟩) ?_ ?_
        rotate_left
        · simp only [Act.put, List.setIfInBounds_toArray, List.set_cons_zero, List.set_cons_succ, i64_w, i32_w]
          rfl
        refine pure_ (i := 16) (N := some 98) (v := ?_) (a' := ?_) #[true, true, true, true, true, true, true, true, true, true, true, true, true, true, true, true, true, false, false] rfl rfl (by kernel_rfl) (fun _ _ _ h => h) (Or.inl ⟨by rfl, ?_⟩) ?_ ?_
        rotate_left
        · intro w'
          go_simp
          with_reducible rfl
        rotate_left
        · simp only [Act.put, List.setIfInBounds_toArray, List.set_cons_zero, List.set_cons_succ, i64_w, i32_w]
          rfl
        refine pure_ (i := 17) (N := some 99) (v := ?_) (a' := ?_) #[true, true, true, true, true, true, true, true, true, true, true, true, true, true, true, true, true, true, false] rfl rfl (by kernel_rfl) (fun _ _ _ h => h) (Or.inl ⟨by rfl, ?_⟩) ?_ ?_
        rotate_left
        · intro w'
          go_simp
          with_reducible rfl
        rotate_left
        · simp only [Act.put, List.setIfInBounds_toArray, List.set_cons_zero, List.set_cons_succ, i64_w, i32_w]
          rfl
        refine pure_ (i := 18) (N := some 6) (v := ?_) (a' := ?_) #[true, true, true, true, true, true, true, true, true, true, true, true, true, true, true, true, true, true, true] rfl rfl (by kernel_rfl) (fun _ _ _ h => h) (Or.inl ⟨by rfl, ?_⟩) ?_ ?_
        rotate_left
        · intro w'
          go_simp
          with_reducible rfl
        rotate_left
        · simp only [Act.put, List.setIfInBounds_toArray, List.set_cons_zero, List.set_cons_succ, i64_w, i32_w]
          rfl
        refine done_ (by kernel_rfl) ?_
        try clear hHeld
        go_wp2_with fail
        go_ret
        exact ⟨rfl, below_step HB.out HBq.out⟩
    · as_aux_lemma =>
        skip
        obtain ⟨z, hz⟩ : ∃ z, sameP kd fr k s e i t c L bo T O M P R kd' fr' k' s' e' i' t' c' L' bo' T' O' M' P' R' = z := ⟨_, rfl⟩
        have hal := alike HBO.out HBO'.out HMY.out HMO.out
        rw [hz, hsb] at hal
        obtain ⟨so, hso⟩ : ∃ l, sealP kd' fr' k' s' e' i' t' c' L' bo' T' O' M' P' R' = l := ⟨_, rfl⟩
        rw [hso] at hal
        have HZ := Lib.hid hz
        have HSO := Lib.hid hso
        clear hz hso
        skip
        refine start_ (n := 19) (S := fun w' => Cells15 w.heap.size (.int .i64 kd) (.int .i64 fr) (.int .i64 k) (.int .i64 s) (.int .i64 e) (.int .i64 i) (.int .i64 t) (.int .i64 c) (.slice A8 L.length c8) (.slice A9 bo.length c9) (.int .i64 T) (.int .i64 O) (.int .i64 M) (.int .i64 P) (.slice A14 R.length c14) w' ∧ Cells15 (w.heap.size + 1) (.int .i64 kd') (.int .i64 fr') (.int .i64 k') (.int .i64 s') (.int .i64 e') (.int .i64 i') (.int .i64 t') (.int .i64 c') (.slice B8 L'.length d8) (.slice B9 bo'.length d9) (.int .i64 T') (.int .i64 O') (.int .i64 M') (.int .i64 P') (.slice B14 R'.length d14) w' ∧ (convert 23 9 (.slice A2 sb.length c2)).run Tryd.prog w' = .ok (.string (strOfNums sb)) w') (ds := []) #[false, false, false, false, false, false, false, false, false, false, false, false, false, false, false, false, false, false, false] (by kernel_rfl) rfl rfl ⟨Cells15.mk_ (blk_below HX.out (below_drew1 (Below.refl _ _))), Cells15.mk_ (blk_below HO.out (below_drew1 (Below.refl _ _))), Kd.C_string (P := Tryd.prog) (A := A2) (c := c2) Tryd.underlying23 Tryd.underlying5 Tryd.underlying9 (Kd.C_below HC2.out (below_drew1 (Below.refl _ _)))⟩ (fun hHeld => ?_)
        have HBq := Aside0.mk (below_drew1 (Below.refl we.heap.size we))
        generalize hwa_ : we.drew = wa at *
        clear hwa_
        refine pure_ (i := 0) (N := some 82) (v := ?_) (a' := ?_) #[true, false, false, false, false, false, false, false, false, false, false, false, false, false, false, false, false, false, false] rfl rfl (by kernel_rfl) (fun _ _ _ h => h) (Or.inl ⟨by rfl, ?_⟩) ?_ ?_
        rotate_left
        · intro w'
          go_simp
          with_reducible rfl
        rotate_left
        · simp only [Act.put, List.setIfInBounds_toArray, List.set_cons_zero, List.set_cons_succ, i64_w, i32_w]
          rfl
        refine pure_ (i := 1) (N := some 83) (v := ?_) (a' := ?_) #[true, true, false, false, false, false, false, false, false, false, false, false, false, false, false, false, false, false, false] rfl rfl (by kernel_rfl) (fun _ _ _ h => h) (Or.inl ⟨by rfl, ?_⟩) ?_ ?_
        rotate_left
        · intro w'
          go_simp
          with_reducible rfl
        rotate_left
        · simp only [Act.put, List.setIfInBounds_toArray, List.set_cons_zero, List.set_cons_succ, i64_w, i32_w]
          rfl
        refine take_ (i := 2) (N := some 84) (v := ?_) (a' := ?_) #[true, true, true, false, false, false, false, false, false, false, false, false, false, false, false, false, false, false, false] rfl rfl (by kernel_rfl) (fun _ _ _ h => h) (Or.inl ⟨by rfl, ?_⟩) hHeld ?_ ?_
        rotate_left
        · rintro w' ⟨⟨s0_, s1_, s2_, s3_, s4_, s5_, s6_, s7_, s8_, s9_, s10_, s11_, s12_, s13_, s14_⟩, ⟨t0_, t1_, t2_, t3_, t4_, t5_, t6_, t7_, t8_, t9_, t10_, t11_, t12_, t13_, t14_⟩, s2⟩
          go_simp
          with_reducible rfl
        rotate_left
        · simp only [Act.put, List.setIfInBounds_toArray, List.set_cons_zero, List.set_cons_succ, i64_w, i32_w]
          rfl
        refine one_ (i := 3) (N := some 85) #[true, true, true, true, false, false, false, false, false, false, false, false, false, false, false, false, false, false, false] rfl rfl (by kernel_rfl) (by decide) (fun K hK => ?_)
        have HCT := Lib.hid (show Calls Tryd.prog 13 #[.agg #[.int .i64 kd', .int .i64 fr', .int .i64 k', .int .i64 s', .int .i64 e', .int .i64 i', .int .i64 t', .int .i64 c', .slice B8 L'.length d8, .slice B9 bo'.length d9, .int .i64 T', .int .i64 O', .int .i64 M', .int .i64 P', .slice B14 R'.length d14]] wa _ from pkt_May.calls 10000 kd' fr' k' s' e' i' t' c' B8 d8 L' B9 d9 bo' T' O' M' P' B14 d14 R' true wa (Kd.C_below G8.out HBq.out) GC8.out (Kd.C_below G9.out HBq.out) GC9.out (Kd.C_below G14.out HBq.out) GC14.out (by rw [pmay_is _ _ _ _ _ _ _ _ _ _ _ _ _ _ _ HK'.out (by have := HFW2.out; omega) (by have := HFW2.out; omega), HMO.out]))
        refine goes_ Tryd.func13 (by kernel_rfl) rfl #[.agg #[.int .i64 kd', .int .i64 fr', .int .i64 k', .int .i64 s', .int .i64 e', .int .i64 i', .int .i64 t', .int .i64 c', .slice B8 L'.length d8, .slice B9 bo'.length d9, .int .i64 T', .int .i64 O', .int .i64 M', .int .i64 P', .slice B14 R'.length d14]] (by rfl) rfl rfl (by simp only [List.map_toArray, List.map_cons, List.map_nil]; rfl) ?_
        with_reducible refine (HCT.out).mono ?_
        rintro e0 wb ⟨rfl, hb⟩
        refine ⟨_, rfl, ?_⟩
        have n0_ := Aside0.mk (below_step HBq.out hb)
        clear HBq hb HCT
        have HBq := n0_
        clear n0_
        refine hK.out _ _ ⟨Cells15.mk_ (blk_below HX.out HBq.out), Cells15.mk_ (blk_below HO.out HBq.out), Kd.C_string (P := Tryd.prog) (A := A2) (c := c2) Tryd.underlying23 Tryd.underlying5 Tryd.underlying9 (Kd.C_below HC2.out HBq.out)⟩ (fun hHeld => ?_)
        clear hK K
        refine norm_ (a' := ?_) ?_ ?_
        rotate_left
        · show Act.put _ (some 85) _ = _
          simp only [Act.put, List.setIfInBounds_toArray, List.set_cons_zero, List.set_cons_succ, i64_w, i32_w]
          rfl
        refine pure_ (i := 4) (N := some 86) (v := ?_) (a' := ?_) #[true, true, true, true, true, false, false, false, false, false, false, false, false, false, false, false, false, false, false] rfl rfl (by kernel_rfl) (fun _ _ _ h => h) (Or.inl ⟨by rfl, ?_⟩) ?_ ?_
        rotate_left
        · intro w'
          go_simp
          with_reducible rfl
        rotate_left
        · simp only [Act.put, List.setIfInBounds_toArray, List.set_cons_zero, List.set_cons_succ, i64_w, i32_w]
          rfl
        refine pure_ (i := 5) (N := some 87) (v := ?_) (a' := ?_) #[true, true, true, true, true, true, false, false, false, false, false, false, false, false, false, false, false, false, false] rfl rfl (by kernel_rfl) (fun _ _ _ h => h) (Or.inl ⟨by rfl, ?_⟩) ?_ ?_
        rotate_left
        · intro w'
          go_simp
          with_reducible rfl
        rotate_left
        · simp only [Act.put, List.setIfInBounds_toArray, List.set_cons_zero, List.set_cons_succ, i64_w, i32_w]
          rfl
        refine pure_ (i := 6) (N := some 88) (v := ?_) (a' := ?_) #[true, true, true, true, true, true, true, false, false, false, false, false, false, false, false, false, false, false, false] rfl rfl (by kernel_rfl) (fun _ _ _ h => h) (Or.inl ⟨by rfl, ?_⟩) ?_ ?_
        rotate_left
        · intro w'
          go_simp
          with_reducible rfl
        rotate_left
        · simp only [Act.put, List.setIfInBounds_toArray, List.set_cons_zero, List.set_cons_succ, i64_w, i32_w]
          rfl
        refine take_ (i := 7) (N := some 89) (v := ?_) (a' := ?_) #[true, true, true, true, true, true, true, true, false, false, false, false, false, false, false, false, false, false, false] rfl rfl (by kernel_rfl) (fun _ _ _ h => h) (Or.inl ⟨by rfl, ?_⟩) hHeld ?_ ?_
        rotate_left
        · rintro w' ⟨⟨s0_, s1_, s2_, s3_, s4_, s5_, s6_, s7_, s8_, s9_, s10_, s11_, s12_, s13_, s14_⟩, ⟨t0_, t1_, t2_, t3_, t4_, t5_, t6_, t7_, t8_, t9_, t10_, t11_, t12_, t13_, t14_⟩, s2⟩
          go_simp
          with_reducible rfl
        rotate_left
        · simp only [Act.put, List.setIfInBounds_toArray, List.set_cons_zero, List.set_cons_succ, i64_w, i32_w]
          rfl
        refine take_ (i := 8) (N := some 90) (v := ?_) (a' := ?_) #[true, true, true, true, true, true, true, true, true, false, false, false, false, false, false, false, false, false, false] rfl rfl (by kernel_rfl) (fun _ _ _ h => h) (Or.inl ⟨by rfl, ?_⟩) hHeld ?_ ?_
        rotate_left
        · rintro w' ⟨⟨s0_, s1_, s2_, s3_, s4_, s5_, s6_, s7_, s8_, s9_, s10_, s11_, s12_, s13_, s14_⟩, ⟨t0_, t1_, t2_, t3_, t4_, t5_, t6_, t7_, t8_, t9_, t10_, t11_, t12_, t13_, t14_⟩, s2⟩
          go_simp
          with_reducible rfl
        rotate_left
        · simp only [Act.put, List.setIfInBounds_toArray, List.set_cons_zero, List.set_cons_succ, i64_w, i32_w]
          rfl
        refine take_ (i := 12) (N := some 94) (v := ?_) (a' := ?_) #[true, true, true, true, true, true, true, true, true, false, false, false, true, false, false, false, false, false, false] rfl rfl (by kernel_rfl) (fun _ _ _ h => h) (Or.inl ⟨by rfl, ?_⟩) hHeld ?_ ?_
        rotate_left
        · rintro w' ⟨⟨s0_, s1_, s2_, s3_, s4_, s5_, s6_, s7_, s8_, s9_, s10_, s11_, s12_, s13_, s14_⟩, ⟨t0_, t1_, t2_, t3_, t4_, t5_, t6_, t7_, t8_, t9_, t10_, t11_, t12_, t13_, t14_⟩, s2⟩
          go_simp
          with_reducible rfl
        rotate_left
        · simp only [Act.put, List.setIfInBounds_toArray, List.set_cons_zero, List.set_cons_succ, i64_w, i32_w]
          rfl
        refine take_ (i := 13) (N := some 95) (v := ?_) (a' := ?_) #[true, true, true, true, true, true, true, true, true, false, false, false, true, true, false, false, false, false, false] rfl rfl (by kernel_rfl) (fun _ _ _ h => h) (Or.inl ⟨by rfl, ?_⟩) hHeld ?_ ?_
        rotate_left
        · rintro w' ⟨⟨s0_, s1_, s2_, s3_, s4_, s5_, s6_, s7_, s8_, s9_, s10_, s11_, s12_, s13_, s14_⟩, ⟨t0_, t1_, t2_, t3_, t4_, t5_, t6_, t7_, t8_, t9_, t10_, t11_, t12_, t13_, t14_⟩, s2⟩
          go_simp
          with_reducible rfl
        rotate_left
        · simp only [Act.put, List.setIfInBounds_toArray, List.set_cons_zero, List.set_cons_succ, i64_w, i32_w]
          rfl
        refine one_ (i := 9) (N := some 91) #[true, true, true, true, true, true, true, true, true, true, false, false, true, true, false, false, false, false, false] rfl rfl (by kernel_rfl) (by decide) (fun K hK => ?_)
        have HCT := Lib.hid (show Calls Tryd.prog 17 #[.agg #[.int .i64 kd', .int .i64 fr', .int .i64 k', .int .i64 s', .int .i64 e', .int .i64 i', .int .i64 t', .int .i64 c', .slice B8 L'.length d8, .slice B9 bo'.length d9, .int .i64 T', .int .i64 O', .int .i64 M', .int .i64 P', .slice B14 R'.length d14]] wb _ from pkt_Bytes.calls kd' fr' k' s' e' i' t' c' B8 d8 L' B9 d9 bo' T' O' M' P' B14 d14 R' so wb (Kd.C_below G8.out HBq.out) GC8.out (Kd.C_below G9.out HBq.out) GC9.out (Kd.C_below G14.out HBq.out) GC14.out (GB.below HG.out (below_step HB.out HBq.out)) ((if_pos ⟨HK'.out, by have := HFW2.out; omega, by have := HFW2.out; omega, by have := HFW2.out; omega⟩).trans (by rw [HMO.out, if_pos rfl, ← HSO.out]; rfl)))
        refine goes_ Tryd.func17 (by kernel_rfl) rfl #[.agg #[.int .i64 kd', .int .i64 fr', .int .i64 k', .int .i64 s', .int .i64 e', .int .i64 i', .int .i64 t', .int .i64 c', .slice B8 L'.length d8, .slice B9 bo'.length d9, .int .i64 T', .int .i64 O', .int .i64 M', .int .i64 P', .slice B14 R'.length d14]] (by rfl) rfl rfl (by simp only [List.map_toArray, List.map_cons, List.map_nil]; rfl) ?_
        with_reducible refine (HCT.out).mono ?_
        rintro e0 wf ⟨vs, rfl, hr, hb⟩
        refine ⟨_, rfl, ?_⟩
        have HRS := Aside0.mk hr
        clear hr
        have n0_ := Aside0.mk (below_step HBq.out hb)
        clear HBq hb HCT
        have HBq := n0_
        clear n0_
        refine hK.out _ _ ⟨Cells15.mk_ (blk_below HX.out HBq.out), Cells15.mk_ (blk_below HO.out HBq.out), Kd.C_string (P := Tryd.prog) (A := A2) (c := c2) Tryd.underlying23 Tryd.underlying5 Tryd.underlying9 (Kd.C_below HC2.out HBq.out)⟩ (fun hHeld => ?_)
        clear hK K
        refine norm_ (a' := ?_) ?_ ?_
        rotate_left
        · show Act.put _ (some 91) _ = _
          simp only [Act.put, List.setIfInBounds_toArray, List.set_cons_zero, List.set_cons_succ, i64_w, i32_w]
          rfl
        refine join_ (σ := Unit) 4 #[true, true, true, true, true, true, true, true, true, true, true, true, true, true, true, false, false, false, false] (fun _ => [(92, .string (strOfNums so)), (93, .bool z), (96, .bool z)]) (fun (s_ : Unit) w2_ => (Cells15 w.heap.size (.int .i64 kd) (.int .i64 fr) (.int .i64 k) (.int .i64 s) (.int .i64 e) (.int .i64 i) (.int .i64 t) (.int .i64 c) (.slice A8 L.length c8) (.slice A9 bo.length c9) (.int .i64 T) (.int .i64 O) (.int .i64 M) (.int .i64 P) (.slice A14 R.length c14) w2_ ∧ Cells15 (w.heap.size + 1) (.int .i64 kd') (.int .i64 fr') (.int .i64 k') (.int .i64 s') (.int .i64 e') (.int .i64 i') (.int .i64 t') (.int .i64 c') (.slice B8 L'.length d8) (.slice B9 bo'.length d9) (.int .i64 T') (.int .i64 O') (.int .i64 M') (.int .i64 P') (.slice B14 R'.length d14) w2_ ∧ (convert 23 9 (.slice A2 sb.length c2)).run Tryd.prog w2_ = .ok (.string (strOfNums sb)) w2_) ∧ Below we.heap.size we w2_) ?_ ?_
        rotate_left
        · intro hCont
          refine two_ (i := 10) (j := 14) (Ni := some 92) (Nj := some 96) #[true, true, true, true, true, true, true, true, true, true, true, false, true, true, false, false, false, false, false] #[true, true, true, true, true, true, true, true, true, true, false, false, true, true, true, false, false, false, false] rfl rfl rfl rfl (by kernel_rfl) (by decide) (by decide) (fun K hK => ?_) (fun K hK => ?_)
          · skip
            have hcv := own_string (P := Tryd.prog) Tryd.underlying23 Tryd.underlying5 Tryd.underlying9 (Kd.own_of_R HRS.out)
            refine value_ (w1 := ?_) (v := ?_) (by rfl) rfl ?_ ?_
            rotate_left 2
            · go_simp
              constructor
              · rfl
              · rfl
            clear hcv
            refine hK.out _ _ ⟨Cells15.mk_ (blk_below HX.out HBq.out), Cells15.mk_ (blk_below HO.out HBq.out), Kd.C_string (P := Tryd.prog) (A := A2) (c := c2) Tryd.underlying23 Tryd.underlying5 Tryd.underlying9 (Kd.C_below HC2.out HBq.out)⟩ (fun hHeld => ?_)
            clear hK K
            refine norm_ (a' := ?_) ?_ ?_
            rotate_left
            · show Act.put _ (some 92) _ = _
              simp only [Act.put, List.setIfInBounds_toArray, List.set_cons_zero, List.set_cons_succ, i64_w, i32_w]
              rfl
            refine pure_ (i := 11) (N := some 93) (v := ?_) (a' := ?_) #[true, true, true, true, true, true, true, true, true, true, true, true, true, true, false, false, false, false, false] rfl rfl (by kernel_rfl) (fun _ _ _ h => h) (Or.inl ⟨by rfl, ?_⟩) ?_ ?_
            rotate_left
            · intro w'
              go_simp
              with_reducible rfl
            rotate_left
            · simp only [Act.put, List.setIfInBounds_toArray, List.set_cons_zero, List.set_cons_succ, i64_w, i32_w]
              rfl
            refine one_ (i := 14) (N := some 96) #[true, true, true, true, true, true, true, true, true, true, true, true, true, true, true, false, false, false, false] rfl rfl (by kernel_rfl) (by decide) (fun K hK => ?_)
            have HCT := Lib.hid (show Calls Tryd.prog 16 #[.agg #[.int .i64 kd, .int .i64 fr, .int .i64 k, .int .i64 s, .int .i64 e, .int .i64 i, .int .i64 t, .int .i64 c, .slice A8 L.length c8, .slice A9 bo.length c9, .int .i64 T, .int .i64 O, .int .i64 M, .int .i64 P, .slice A14 R.length c14], .agg #[.int .i64 kd', .int .i64 fr', .int .i64 k', .int .i64 s', .int .i64 e', .int .i64 i', .int .i64 t', .int .i64 c', .slice B8 L'.length d8, .slice B9 bo'.length d9, .int .i64 T', .int .i64 O', .int .i64 M', .int .i64 P', .slice B14 R'.length d14]] wf _ from precentorref04_Same.calls 1 kd fr k s e i t c A8 c8 L A9 c9 bo T O M P A14 c14 R kd' fr' k' s' e' i' t' c' B8 d8 L' B9 d9 bo' T' O' M' P' B14 d14 R' z wf (Kd.C_below H8.out HBq.out) HC8.out (Kd.C_below H9.out HBq.out) HC9.out (Kd.C_below H14.out HBq.out) HC14.out (Kd.C_below G8.out HBq.out) GC8.out (Kd.C_below G9.out HBq.out) GC9.out (Kd.C_below G14.out HBq.out) GC14.out ((if_pos ⟨by have := HFW1.out; omega, by have := HFW1.out; omega⟩).trans (by rw [HZ.out])))
            refine goes_ Tryd.func16 (by kernel_rfl) rfl #[.agg #[.int .i64 kd, .int .i64 fr, .int .i64 k, .int .i64 s, .int .i64 e, .int .i64 i, .int .i64 t, .int .i64 c, .slice A8 L.length c8, .slice A9 bo.length c9, .int .i64 T, .int .i64 O, .int .i64 M, .int .i64 P, .slice A14 R.length c14], .agg #[.int .i64 kd', .int .i64 fr', .int .i64 k', .int .i64 s', .int .i64 e', .int .i64 i', .int .i64 t', .int .i64 c', .slice B8 L'.length d8, .slice B9 bo'.length d9, .int .i64 T', .int .i64 O', .int .i64 M', .int .i64 P', .slice B14 R'.length d14]] (by rfl) rfl rfl (by simp only [List.map_toArray, List.map_cons, List.map_nil]; rfl) ?_
            with_reducible refine (HCT.out).mono ?_
            rintro e0 wg ⟨rfl, hb⟩
            refine ⟨_, rfl, ?_⟩
            have n0_ := Aside0.mk (below_step HBq.out hb)
            clear HBq hb HCT
            have HBq := n0_
            clear n0_
            refine hK.out _ _ ⟨Cells15.mk_ (blk_below HX.out HBq.out), Cells15.mk_ (blk_below HO.out HBq.out), Kd.C_string (P := Tryd.prog) (A := A2) (c := c2) Tryd.underlying23 Tryd.underlying5 Tryd.underlying9 (Kd.C_below HC2.out HBq.out)⟩ (fun hHeld => ?_)
            clear hK K
            refine norm_ (a' := ?_) ?_ ?_
            rotate_left
            · show Act.put _ (some 96) _ = _
              simp only [Act.put, List.setIfInBounds_toArray, List.set_cons_zero, List.set_cons_succ, i64_w, i32_w]
              rfl
            exact norm_ (by simp only [putAll, Act.put, List.setIfInBounds_toArray, List.set_cons_zero, List.set_cons_succ]) (hCont () _ ⟨hHeld, HBq.out⟩)
          · skip
            have HCT := Lib.hid (show Calls Tryd.prog 16 #[.agg #[.int .i64 kd, .int .i64 fr, .int .i64 k, .int .i64 s, .int .i64 e, .int .i64 i, .int .i64 t, .int .i64 c, .slice A8 L.length c8, .slice A9 bo.length c9, .int .i64 T, .int .i64 O, .int .i64 M, .int .i64 P, .slice A14 R.length c14], .agg #[.int .i64 kd', .int .i64 fr', .int .i64 k', .int .i64 s', .int .i64 e', .int .i64 i', .int .i64 t', .int .i64 c', .slice B8 L'.length d8, .slice B9 bo'.length d9, .int .i64 T', .int .i64 O', .int .i64 M', .int .i64 P', .slice B14 R'.length d14]] wf _ from precentorref04_Same.calls 1 kd fr k s e i t c A8 c8 L A9 c9 bo T O M P A14 c14 R kd' fr' k' s' e' i' t' c' B8 d8 L' B9 d9 bo' T' O' M' P' B14 d14 R' z wf (Kd.C_below H8.out HBq.out) HC8.out (Kd.C_below H9.out HBq.out) HC9.out (Kd.C_below H14.out HBq.out) HC14.out (Kd.C_below G8.out HBq.out) GC8.out (Kd.C_below G9.out HBq.out) GC9.out (Kd.C_below G14.out HBq.out) GC14.out ((if_pos ⟨by have := HFW1.out; omega, by have := HFW1.out; omega⟩).trans (by rw [HZ.out])))
            refine goes_ Tryd.func16 (by kernel_rfl) rfl #[.agg #[.int .i64 kd, .int .i64 fr, .int .i64 k, .int .i64 s, .int .i64 e, .int .i64 i, .int .i64 t, .int .i64 c, .slice A8 L.length c8, .slice A9 bo.length c9, .int .i64 T, .int .i64 O, .int .i64 M, .int .i64 P, .slice A14 R.length c14], .agg #[.int .i64 kd', .int .i64 fr', .int .i64 k', .int .i64 s', .int .i64 e', .int .i64 i', .int .i64 t', .int .i64 c', .slice B8 L'.length d8, .slice B9 bo'.length d9, .int .i64 T', .int .i64 O', .int .i64 M', .int .i64 P', .slice B14 R'.length d14]] (by rfl) rfl rfl (by simp only [List.map_toArray, List.map_cons, List.map_nil]; rfl) ?_
            with_reducible refine (HCT.out).mono ?_
            rintro e0 wg ⟨rfl, hb⟩
            refine ⟨_, rfl, ?_⟩
            have n1_ := Aside0.mk (Kd.R_below HRS.out hb)
            clear HRS
            have HRS := n1_
            clear n1_
            have n0_ := Aside0.mk (below_step HBq.out hb)
            clear HBq hb HCT
            have HBq := n0_
            clear n0_
            refine hK.out _ _ ⟨Cells15.mk_ (blk_below HX.out HBq.out), Cells15.mk_ (blk_below HO.out HBq.out), Kd.C_string (P := Tryd.prog) (A := A2) (c := c2) Tryd.underlying23 Tryd.underlying5 Tryd.underlying9 (Kd.C_below HC2.out HBq.out)⟩ (fun hHeld => ?_)
            clear hK K
            refine norm_ (a' := ?_) ?_ ?_
            rotate_left
            · show Act.put _ (some 96) _ = _
              simp only [Act.put, List.setIfInBounds_toArray, List.set_cons_zero, List.set_cons_succ, i64_w, i32_w]
              rfl
            refine one_ (i := 10) (N := some 92) #[true, true, true, true, true, true, true, true, true, true, true, false, true, true, true, false, false, false, false] rfl rfl (by kernel_rfl) (by decide) (fun K hK => ?_)
            have hcv := own_string (P := Tryd.prog) Tryd.underlying23 Tryd.underlying5 Tryd.underlying9 (Kd.own_of_R HRS.out)
            refine value_ (w1 := ?_) (v := ?_) (by rfl) rfl ?_ ?_
            rotate_left 2
            · go_simp
              constructor
              · rfl
              · rfl
            clear hcv
            refine hK.out _ _ ⟨Cells15.mk_ (blk_below HX.out HBq.out), Cells15.mk_ (blk_below HO.out HBq.out), Kd.C_string (P := Tryd.prog) (A := A2) (c := c2) Tryd.underlying23 Tryd.underlying5 Tryd.underlying9 (Kd.C_below HC2.out HBq.out)⟩ (fun hHeld => ?_)
            clear hK K
            refine norm_ (a' := ?_) ?_ ?_
            rotate_left
            · show Act.put _ (some 92) _ = _
              simp only [Act.put, List.setIfInBounds_toArray, List.set_cons_zero, List.set_cons_succ, i64_w, i32_w]
              rfl
            refine pure_ (i := 11) (N := some 93) (v := ?_) (a' := ?_) #[true, true, true, true, true, true, true, true, true, true, true, true, true, true, true, false, false, false, false] rfl rfl (by kernel_rfl) (fun _ _ _ h => h) (Or.inl ⟨by rfl, ?_⟩) ?_ ?_
            rotate_left
            · intro w'
              go_simp
              with_reducible rfl
            rotate_left
            · simp only [Act.put, List.setIfInBounds_toArray, List.set_cons_zero, List.set_cons_succ, i64_w, i32_w]
              rfl
            exact norm_ (by simp only [putAll, Act.put, List.setIfInBounds_toArray, List.set_cons_zero, List.set_cons_succ]) (hCont () _ ⟨hHeld, HBq.out⟩)
        rintro ⟨⟩ wh ⟨hS_, hD_⟩
        have hHeld := hS_
        have HBq := Aside0.mk hD_
        clear hS_ hD_
        refine norm_ (a' := ?_) ?_ ?_
        rotate_left
        · simp only [putAll, Act.put, List.setIfInBounds_toArray, List.set_cons_zero, List.set_cons_succ]
          rfl
        refine pure_ (i := 15) (N := some 97) (v := ?_) (a' := ?_) #[true, true, true, true, true, true, true, true, true, true, true, true, true, true, true, true, false, false, false] rfl rfl (by kernel_rfl) (fun _ _ _ h => h) (Or.inl ⟨by rfl, ?_⟩) ?_ ?_
        rotate_left
        · intro w'
          go_simp
          with_reducible rfl
        rotate_left
        · simp only [Act.put, List.setIfInBounds_toArray, List.set_cons_zero, List.set_cons_succ, i64_w, i32_w]
          rfl
        refine pure_ (i := 16) (N := some 98) (v := ?_) (a' := ?_) #[true, true, true, true, true, true, true, true, true, true, true, true, true, true, true, true, true, false, false] rfl rfl (by kernel_rfl) (fun _ _ _ h => h) (Or.inl ⟨by rfl, ?_⟩) ?_ ?_
        rotate_left
        · intro w'
          go_simp
          with_reducible rfl
        rotate_left
        · simp only [Act.put, List.setIfInBounds_toArray, List.set_cons_zero, List.set_cons_succ, i64_w, i32_w]
          rfl
        refine pure_ (i := 17) (N := some 99) (v := ?_) (a' := ?_) #[true, true, true, true, true, true, true, true, true, true, true, true, true, true, true, true, true, true, false] rfl rfl (by kernel_rfl) (fun _ _ _ h => h) (Or.inl ⟨by rfl, ?_⟩) ?_ ?_
        rotate_left
        · intro w'
          go_simp
          with_reducible rfl
        rotate_left
        · simp only [Act.put, List.setIfInBounds_toArray, List.set_cons_zero, List.set_cons_succ, i64_w, i32_w]
          rfl
        refine pure_ (i := 18) (N := some 6) (v := ?_) (a' := ?_) #[true, true, true, true, true, true, true, true, true, true, true, true, true, true, true, true, true, true, true] rfl rfl (by kernel_rfl) (fun _ _ _ h => h) (Or.inl ⟨by rfl, ?_⟩) ?_ ?_
        rotate_left
        · intro w'
          go_simp
          with_reducible rfl
        rotate_left
        · simp only [Act.put, List.setIfInBounds_toArray, List.set_cons_zero, List.set_cons_succ, i64_w, i32_w]
          rfl
        refine done_ (by kernel_rfl) ?_
        try clear hHeld
        go_wp2_with fail
        go_ret
        exact ⟨rfl, below_step HB.out HBq.out⟩
theorem precentorlaw04_PktBack.calls (kd fr k s e i t c : Int) (A8 : Option Addr) (c8 : Nat) (L : List Int) (A9 : Option Addr) (c9 : Nat) (bo : List Int) (T O M P : Int) (A14 : Option Addr) (c14 : Nat) (R : List Int) (kd' fr' k' s' e' i' t' c' : Int) (B8 : Option Addr) (d8 : Nat) (L' : List Int) (B9 : Option Addr) (d9 : Nat) (bo' : List Int) (T' O' M' P' : Int) (B14 : Option Addr) (d14 : Nat) (R' : List Int) (Ab : Option Addr) (cb : Nat) (b : List Int) (r : Bool) (w : World) (h8 : Kd.C (Kd.int .i64) w A8 L.length L) (l8 : L.length ≤ c8) (h9 : Kd.C (Kd.int .u8) w A9 bo.length bo) (l9 : bo.length ≤ c9) (h14 : Kd.C (Kd.int .i64) w A14 R.length R) (l14 : R.length ≤ c14) (g8 : Kd.C (Kd.int .i64) w B8 L'.length L') (m8 : L'.length ≤ d8) (g9 : Kd.C (Kd.int .u8) w B9 bo'.length bo') (m9 : bo'.length ≤ d9) (g14 : Kd.C (Kd.int .i64) w B14 R'.length R') (m14 : R'.length ≤ d14) (hb : Kd.C (Kd.int .u8) w Ab b.length b) (lb : b.length ≤ cb) (hG : GB w) (h : precentorlaw04_PktBack.f kd fr k s e i t c L bo T O M P R kd' fr' k' s' e' i' t' c' L' bo' T' O' M' P' R' b = some r) :
    Calls Tryd.prog 5 #[.agg #[.int .i64 kd, .int .i64 fr, .int .i64 k, .int .i64 s, .int .i64 e, .int .i64 i, .int .i64 t, .int .i64 c, .slice A8 L.length c8, .slice A9 bo.length c9, .int .i64 T, .int .i64 O, .int .i64 M, .int .i64 P, .slice A14 R.length c14], .agg #[.int .i64 kd', .int .i64 fr', .int .i64 k', .int .i64 s', .int .i64 e', .int .i64 i', .int .i64 t', .int .i64 c', .slice B8 L'.length d8, .slice B9 bo'.length d9, .int .i64 T', .int .i64 O', .int .i64 M', .int .i64 P', .slice B14 R'.length d14], .slice Ab b.length cb] w fun e' w' => e' = .returned (.bool r) ∧ Below w.heap.size w w' := by
  unfold precentorlaw04_PktBack.f at h
  split at h
  · rename_i hc
    obtain rfl := Option.some.inj h
    exact precentorlaw04_PktBack.is kd fr k s e i t c A8 c8 L A9 c9 bo T O M P A14 c14 R kd' fr' k' s' e' i' t' c' B8 d8 L' B9 d9 bo' T' O' M' P' B14 d14 R' Ab cb b w h8 l8 h9 l9 h14 l14 g8 m8 g9 m9 g14 m14 hb lb hG hc.1 hc.2.1 hc.2.2.1 hc.2.2.2.1 hc.2.2.2.2
  · cases h

end Go.Proofs.YtieolhhokepkjaaDoor.Print
