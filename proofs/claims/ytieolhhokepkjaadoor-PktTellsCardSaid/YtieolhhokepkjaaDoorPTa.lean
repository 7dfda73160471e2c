/- What the document's Read tries of bytes, and that it says what pkt.Read says: plain laws. Conditions stand in each theorem. -/
import Derived.Test.YtieolhhokepkjaaDoorHandT
import Derived.Test.YtieolhhokepkjaaDoorItemMore
import Derived.Test.YtieolhhokepkjaaDoorPW
import Derived.Test.YtieolhhokepkjaaDoorCrcOpen
import Derived.Test.YtieolhhokepkjaaDoorHandRB
import Derived.Test.YtieolhhokepkjaaDoorNumRef
namespace Go.Proofs.YtieolhhokepkjaaDoor.Print
set_option linter.unusedVariables false
set_option linter.unusedSimpArgs false
open Go.RowKit Go.Proofs.YtieolhhokepkjaaDoorW.PrintWords Go.Proofs.YtieolhhokepkjaaDoorW.PrintLast Go.Proofs.YtieolhhokepkjaaDoorW.PrintMore Go.Proofs.YtieolhhokepkjaaDoor.NumPlain
theorem ref_take_bytes {k s e i t c : Int} {L bo : List Int} (h : mayB k s e i t c L bo.length = true) : refTake (Print.bytesOf k s e i t c L bo) = some (k, s, e, i, t, c, L, bo) := by
 obtain ⟨hs, he, hk⟩ := may_is h
 have key : ∀ T : List Int, tailOf k i t c L bo = T → 1 ≤ k → k ≤ 6 → candM k T = ⟨true, i, t, c, L, bo, []⟩ → refTake (Print.bytesOf k s e i t c L bo) = some (k, s, e, i, t, c, L, bo) := by
  intro T hT k1 k6 hm
  have hB : Print.bytesOf k s e i t c L bo = k :: ((enc 8 s ++ enc 8 e) ++ T) := by unfold Print.bytesOf headOf; rw [hT, enc1 (by omega) (by omega)]; simp
  have h16 : (enc 8 s ++ enc 8 e).length = 16 := by simp [enc_length]
  have hrow := rowS_flat (W := 8) [s, e] [] (fun x hx => ⟨Or.inr (Or.inr rfl), by simp at hx; rcases hx with rfl | rfl <;> omega, by simp at hx; rcases hx with rfl | rfl; exact hs.2; exact he.2⟩)
  have hf : flat 8 [s, e] = enc 8 s ++ enc 8 e := by simp [flat]
  rw [hf, List.append_nil] at hrow
  have hrow : rowS 8 2 (enc 8 s ++ enc 8 e) = some ([s, e], []) := hrow
  have e1 : ((Print.bytesOf k s e i t c L bo).take 17).drop 1 = enc 8 s ++ enc 8 e := by rw [hB]; exact List.take_left' h16
  have e2 : (Print.bytesOf k s e i t c L bo).drop 17 = T := by rw [hB]; exact List.drop_left' h16
  have e3 : (Print.bytesOf k s e i t c L bo).headD 0 = k := by rw [hB]; rfl
  have e4 : ¬ (Print.bytesOf k s e i t c L bo).length < 17 := by rw [hB, List.length_cons, List.length_append, h16]; omega
  unfold refTake
  rw [if_neg e4, e1, hrow]
  simp only []
  rw [e2, e3, hm]
  unfold refItem
  rw [if_pos (by rw [show rd [s, e] 0 = s from rfl, show rd [s, e] 1 = e from rfl]; simp [h])]
  rfl
 have c1 : ∀ T : List Int, k ≠ 1 → ∀ m, cand1 k T m = m := fun T hk m => if_neg (fun h => hk h.1)
 have c2 : ∀ T : List Int, k ≠ 2 → ∀ m, cand2 k T m = m := fun T hk m => if_neg (fun h => hk h.1)
 have c4 : ∀ T : List Int, k ≠ 4 → ∀ m, cand4 k T m = m := fun T hk m => if_neg (fun h => hk h.1)
 have c5 : ∀ T : List Int, k ≠ 5 → ∀ m, cand5 k T m = m := fun T hk m => if_neg hk
 have c6 : ∀ T : List Int, k ≠ 6 → ∀ m, cand6 k T m = m := fun T hk m => if_neg hk
 rcases hk with ⟨rfl, h1, h2, h3, h4, rfl, rfl, h5⟩ | ⟨rfl, rfl, rfl, h1, h2, h3, h4, h5, h6⟩ | ⟨rfl, rfl, rfl, rfl, rfl, h1⟩ | ⟨rfl, rfl, rfl, h1, h2, rfl, h3⟩ | ⟨rfl, rfl, rfl, rfl, h1, h2, h3⟩ | ⟨rfl, rfl, rfl, rfl, h1, h2, h3, h4⟩
 ·
  refine key (i :: t :: bo) ?_ (by decide) (by decide) ?_
  ·
   unfold tailOf
   rw [if_pos rfl, enc1 h3 (by omega), enc1 (by omega) (by omega)]; rfl
  ·
   unfold candM
   rw [c6 _ (by decide), c5 _ (by decide), c4 _ (by decide), c2 _ (by decide)]
   unfold cand1
   rw [if_pos ⟨rfl, by simp⟩]; rfl
 ·
  obtain rfl := List.length_eq_zero_iff.1 h6
  refine key (i :: flat 1 L) ?_ (by decide) (by decide) ?_
  ·
   unfold tailOf
   rw [if_neg (by decide), if_pos rfl, enc1 h1 (by omega)]; rfl
  ·
   unfold candM
   rw [c6 _ (by decide), c5 _ (by decide), c4 _ (by decide), c1 _ (by decide)]
   unfold cand2
   rw [if_pos ⟨rfl, by simp⟩, show (i :: flat 1 L).drop 1 = flat 1 L from rfl, rowT_flat (Or.inl rfl) (fun x hx => ⟨Or.inl rfl, (h5 x hx).1, by have := (h5 x hx).2; show x ≤ 255; omega⟩) (by omega)]; rfl
 ·
  obtain rfl := List.length_eq_zero_iff.1 h1
  refine key [] rfl (by decide) (by decide) ?_
  unfold candM
  rw [c6 _ (by decide), c5 _ (by decide), c4 _ (by decide), c2 _ (by decide), c1 _ (by decide)]; rfl
 ·
  obtain rfl := List.length_eq_zero_iff.1 h3
  refine key [i] ?_ (by decide) (by decide) ?_
  ·
   unfold tailOf
   rw [if_neg (by decide), if_neg (by decide), if_pos rfl, enc1 h1 (by omega)]
  ·
   unfold candM
   rw [c6 _ (by decide), c5 _ (by decide), c2 _ (by decide), c1 _ (by decide)]
   unfold cand4
   rw [if_pos ⟨rfl, by simp⟩]; rfl
 ·
  obtain rfl := List.length_eq_zero_iff.1 h1
  refine key (enc 8 c) rfl (by decide) (by decide) ?_
  unfold candM
  rw [c6 _ (by decide), c4 _ (by decide), c2 _ (by decide), c1 _ (by decide)]
  unfold cand5
  rw [if_pos rfl, take8_enc h2 h3]; rfl
 ·
  obtain rfl := List.length_eq_zero_iff.1 h4
  refine key (flat 8 L) rfl (by decide) (by decide) ?_
  unfold candM
  rw [c5 _ (by decide), c4 _ (by decide), c2 _ (by decide), c1 _ (by decide)]
  unfold cand6
  rw [if_pos rfl, rowT_flat (Or.inr (Or.inr rfl)) (fun x hx => ⟨Or.inr (Or.inr rfl), (h3 x hx).1, (h3 x hx).2⟩) (by omega)]; rfl
theorem cand_by (k : Int) {c : List Int} (hb : By c) : By (candM k c).bo := by
 have h0 : By m0.bo := fun _ h => absurd h List.not_mem_nil
 have a1 : ∀ m : RMid, By m.bo → By (cand1 k c m).bo := fun m h => by
  unfold cand1; split
  ·
   exact hb.drop 2
  ·
   exact h
 have a2 : ∀ m : RMid, By m.bo → By (cand2 k c m).bo := fun m h => by unfold cand2; split <;> exact h
 have a4 : ∀ m : RMid, By m.bo → By (cand4 k c m).bo := fun m h => by unfold cand4; split <;> exact h
 have a5 : ∀ m : RMid, By m.bo → By (cand5 k c m).bo := fun m h => by unfold cand5; split <;> exact h
 have a6 : ∀ m : RMid, By m.bo → By (cand6 k c m).bo := fun m h => by unfold cand6; split <;> exact h
 exact a6 _ (a5 _ (a4 _ (a2 _ (a1 _ h0))))
theorem ref_take_is {l : List Int} (hb : By l) (hl : l.length < 5000) : refTake l = takeItem l := by
 cases ht : takeItem l with
 | some p =>
  obtain ⟨k, s, e, i, t, c, L, bo⟩ := p
  obtain ⟨hm, hbb⟩ := take_inv hb (by omega) ht
  rw [← hbb]
  exact ref_take_bytes hm
 | none =>
  unfold refTake
  split
  ·
   rfl
  ·
   cases hr : rowS 8 2 ((l.take 17).drop 1) with
   | none => rfl
   | some p =>
    obtain ⟨xs, r⟩ := p
    show refItem _ _ _ _ l = none
    unfold refItem
    rw [if_neg]
    intro hq
    rw [Bool.and_eq_true, beq_iff_eq] at hq
    have hbo := cand_by (l.headD 0) (hb.drop 17)
    have he := (str_eq (by_bytes _ _ _ _ _ _ _ hbo) hb).1 hq.2
    have h2 := take_bytes hq.1
    rw [he, ht] at h2
    cases h2
end Go.Proofs.YtieolhhokepkjaaDoor.Print
namespace Go.Proofs.YtieolhhokepkjaaDoor.Print
set_option linter.unusedVariables false
set_option linter.unusedSimpArgs false
open Go.RowKit Go.Proofs.YtieolhhokepkjaaDoorW.PrintWords Go.Proofs.YtieolhhokepkjaaDoorW.PrintLast Go.Proofs.YtieolhhokepkjaaDoorW.PrintMore Go.Proofs.YtieolhhokepkjaaDoor.NumPlain Go.Proofs.YtieolhhokepkjaaDoor.Crc
def itemQ (K : Int) (d : List Int) : Int × Int × Int × Int × Int × Int × List Int × List Int × Int := if K = 1 ∨ K = 2 then tell9 (takeItem d) else tell9 none
def nakQ (K : Int) (d : List Int) : Int × Int × Int := if K = 3 ∧ d.length = 10 then (rd d 0, (tkn (d.drop 1) 8).1, rd d 9) else (0, 0, 0)
def stabQ (K : Int) (d : List Int) : Int × List Int := if K = 4 ∧ 8 ≤ d.length then ((tkn d 8).1, (rowT 8 (d.drop 8)).1) else (0, [])
/-- The only packet that bytes may be. -/
def candQ (K : Int) (d : List Int) : PK := ⟨(itemQ K d).1, (itemQ K d).2.1, (itemQ K d).2.2.1, (itemQ K d).2.2.2.1, (itemQ K d).2.2.2.2.1, (itemQ K d).2.2.2.2.2.1, (itemQ K d).2.2.2.2.2.2.1, (itemQ K d).2.2.2.2.2.2.2.1, (nakQ K d).1, (nakQ K d).2.1, (nakQ K d).2.2, (stabQ K d).1, (stabQ K d).2⟩
theorem candQ_by (K : Int) {d : List Int} (hb : By d) (hl : d.length < 10000) : By (candQ K d).bo := by
 have h0 : By ([] : List Int) := fun _ h => absurd h List.not_mem_nil
 show By (itemQ K d).2.2.2.2.2.2.2.1
 unfold itemQ
 split
 ·
  cases ht : takeItem d with
  | none => exact h0
  | some y => obtain ⟨k, s, e, i, t, c, L, bo⟩ := y; exact take_body_by hb hl ht
 ·
  exact h0
theorem candQ_parts {K F : Int} {p : PK} (hbo : By p.bo) (h : mayP K F (mayB p.k p.s p.e p.i p.t p.c p.L p.bo.length) (bareB p.k p.s p.e p.i p.t p.c p.L p.bo) p.T p.O p.M p.P p.R = true) : candQ K (partsP K p) = p := by
 obtain ⟨k, s, e, i, t, c, L, bo, T, O, M, P, R⟩ := p
 obtain ⟨_, h | h | h⟩ := mayP_is h
 ·
  obtain ⟨h1, hit, hT, hO, hM, hP, hR⟩ := h
  have hT : T = 0 := hT
  have hO : O = 0 := hO
  have hM : M = 0 := hM
  have hP : P = 0 := hP
  have hR : R = [] := hR
  have hit : mayB k s e i t c L bo.length = true := hit
  subst hT hO hM hP hR
  have n3 : K ≠ 3 := by rcases h1 with h | h <;> omega
  have n4 : K ≠ 4 := by rcases h1 with h | h <;> omega
  unfold candQ itemQ nakQ stabQ partsP
  rw [if_pos h1, if_neg n3, if_neg n4, if_neg (fun h => n3 h.1), if_neg (fun h => n4 h.1)]
  simp only []
  rw [take_bytes hit]; rfl
 ·
  obtain ⟨rfl, hba, hT, hO, hM, hP, hR⟩ := h
  have hT : 0 ≤ T ∧ T ≤ 63 := hT
  have hO : 1 ≤ O ∧ O ≤ 4611686018427387904 := hO
  have hM : 1 ≤ M ∧ M ≤ 64 := hM
  have hP : P = 0 := hP
  have hR : R = [] := hR
  subst hP hR
  obtain ⟨rfl, rfl, rfl, rfl, rfl, rfl, rfl, rfl⟩ := bare_zero (show bareB k s e i t c L bo = true from hba) hbo
  have hw : partsP 3 ⟨0, 0, 0, 0, 0, 0, [], [], T, O, M, 0, []⟩ = T :: (enc 8 O ++ [M]) := by
   unfold partsP
   rw [if_pos rfl]
   show enc 1 T ++ enc 8 O ++ enc 1 M = _
   rw [enc1 hT.1 (by omega), enc1 (by omega) (by omega)]; simp
  have hl : (enc 8 O).length = 8 := enc_length 8 O
  have e2 := tkn_enc8 (n := O) (by omega) (by omega) [M] (by rw [← enc1 (n := M) (by omega) (by omega)]; exact enc_by 1 M)
  rw [hw]
  unfold candQ itemQ nakQ stabQ
  rw [if_neg (by omega), if_pos ⟨rfl, by simp [hl]⟩, if_neg (by omega)]
  simp only [List.drop_succ_cons, List.drop_zero]
  rw [e2]
  have h0 : rd (T :: (enc 8 O ++ [M])) 0 = T := rfl
  have h9 : rd (T :: (enc 8 O ++ [M])) 9 = M := by
   show (T :: (enc 8 O ++ [M])).getD 9 0 = M
   rw [List.getD_eq_getElem?_getD, List.getElem?_cons_succ, List.getElem?_append_right (by omega), hl]; rfl
  rw [h0, h9]; rfl
 ·
  obtain ⟨rfl, hba, hT, hO, hM, hP, hR, hRx⟩ := h
  have hT : T = 0 := hT
  have hO : O = 0 := hO
  have hM : M = 0 := hM
  have hP : 0 ≤ P ∧ P ≤ 4611686018427387904 := hP
  have hR : 2 ≤ R.length ∧ R.length ≤ 64 := hR
  have hRx : ∀ x ∈ R, 0 ≤ x ∧ x ≤ 4611686018427387904 := hRx
  subst hT hO hM
  obtain ⟨rfl, rfl, rfl, rfl, rfl, rfl, rfl, rfl⟩ := bare_zero (show bareB k s e i t c L bo = true from hba) hbo
  have hl : (enc 8 P).length = 8 := enc_length 8 P
  have e1 := tkn_enc8 (n := P) hP.1 hP.2 (flat 8 R) (flat_by 8 R)
  have e2 := rowT_flat (W := 8) (L := R) (Or.inr (Or.inr rfl)) (fun x hx => ⟨Or.inr (Or.inr rfl), (hRx x hx).1, (hRx x hx).2⟩) (by omega)
  have hw : partsP 4 ⟨0, 0, 0, 0, 0, 0, [], [], 0, 0, 0, P, R⟩ = enc 8 P ++ flat 8 R := by
   unfold partsP
   rw [if_neg (by omega), if_pos rfl]
  have hd : (enc 8 P ++ flat 8 R).drop 8 = flat 8 R := by
   have := List.drop_left (l₁ := enc 8 P) (l₂ := flat 8 R)
   rwa [hl] at this
  rw [hw]
  unfold candQ itemQ nakQ stabQ
  rw [if_neg (by omega), if_neg (by omega), if_pos ⟨rfl, by rw [List.length_append, hl]; omega⟩, hd, e1, e2]; rfl
theorem okR_of {l : List Int} (hb : By l) (hl : l.length < 5000) : okR l = true := by
 unfold okR
 rw [Bool.and_eq_true, List.all_eq_true]
 exact ⟨fun c hc => decide_eq_true (hb c hc), decide_eq_true hl⟩
theorem candQ_small (K : Int) {d : List Int} (hb : By d) (hl : d.length < 5000) : (candQ K d).L.length < 10000 ∧ ((candQ K d).bo.length < 100000000 ∧ By (candQ K d).bo) ∧ (candQ K d).R.length < 10000 := by
 have h1 : (itemQ K d).2.2.2.2.2.2.1.length < 10000 ∧ (itemQ K d).2.2.2.2.2.2.2.1.length < 100000000 := by
  unfold itemQ
  split
  ·
   cases ht : takeItem d with
   | none => exact ⟨by decide, by decide⟩
   | some y =>
    obtain ⟨k, s, e, i, t, c, L, bo⟩ := y
    have := may_len (take_inv hb (by omega) ht).1
    exact ⟨by show L.length < 10000; omega, by show bo.length < 100000000; omega⟩
  ·
   exact ⟨by decide, by decide⟩
 have h2 : (stabQ K d).2.length < 10000 := by
  unfold stabQ
  split
  ·
   have := rowT_short (W := 8) (by omega) (hb.drop 8) (by rw [List.length_drop]; omega)
   rw [List.length_drop] at this
   show (rowT 8 (d.drop 8)).1.length < 10000
   omega
  ·
   decide
 exact ⟨h1.1, ⟨h1.2, candQ_by K hb (by omega)⟩, h2⟩
/-- What the document's Read says. -/
def refC (l c : List Int) : Int × Int × Int × Int × Int × Int × Int × Int × List Int × List Int × Int × Int × Int × Int × List Int × Int :=
 if c.length < 3 then tell16 none 2 else (if mayP (rd c 1) (rd c 2) (mayB (candQ (rd c 1) (c.drop 3)).k (candQ (rd c 1) (c.drop 3)).s (candQ (rd c 1) (c.drop 3)).e (candQ (rd c 1) (c.drop 3)).i (candQ (rd c 1) (c.drop 3)).t (candQ (rd c 1) (c.drop 3)).c (candQ (rd c 1) (c.drop 3)).L (candQ (rd c 1) (c.drop 3)).bo.length) (bareB (candQ (rd c 1) (c.drop 3)).k (candQ (rd c 1) (c.drop 3)).s (candQ (rd c 1) (c.drop 3)).e (candQ (rd c 1) (c.drop 3)).i (candQ (rd c 1) (c.drop 3)).t (candQ (rd c 1) (c.drop 3)).c (candQ (rd c 1) (c.drop 3)).L (candQ (rd c 1) (c.drop 3)).bo) (candQ (rd c 1) (c.drop 3)).T (candQ (rd c 1) (c.drop 3)).O (candQ (rd c 1) (c.drop 3)).M (candQ (rd c 1) (c.drop 3)).P (candQ (rd c 1) (c.drop 3)).R = true ∧ sealP (rd c 1) (rd c 2) (candQ (rd c 1) (c.drop 3)).k (candQ (rd c 1) (c.drop 3)).s (candQ (rd c 1) (c.drop 3)).e (candQ (rd c 1) (c.drop 3)).i (candQ (rd c 1) (c.drop 3)).t (candQ (rd c 1) (c.drop 3)).c (candQ (rd c 1) (c.drop 3)).L (candQ (rd c 1) (c.drop 3)).bo (candQ (rd c 1) (c.drop 3)).T (candQ (rd c 1) (c.drop 3)).O (candQ (rd c 1) (c.drop 3)).M (candQ (rd c 1) (c.drop 3)).P (candQ (rd c 1) (c.drop 3)).R = l then tell16 (some (rd c 1, rd c 2, candQ (rd c 1) (c.drop 3))) 0 else tell16 none 2)
theorem refC_is {l : List Int} (hb : By l) (hl : l.length < 5000) (ho : (openS l).2 = 0) : refC l (openS l).1 = readP l := by
 have hc := open_by hb
 by_cases h3 : (openS l).1.length < 3
 ·
  unfold refC readP readC
  rw [if_pos h3, if_pos ho, if_pos h3]
 obtain ⟨c, hcc⟩ : ∃ c, (openS l).1 = c := ⟨_, rfl⟩
 have hcb : By (candQ (rd c 1) (c.drop 3)).bo := candQ_by _ ((hcc ▸ hc.1).drop 3) (by rw [List.length_drop]; have := hc.2; rw [hcc] at this; omega)
 unfold refC
 rw [hcc] at h3 ⊢
 rw [if_neg h3]
 by_cases hm : mayP (rd c 1) (rd c 2) (mayB (candQ (rd c 1) (c.drop 3)).k (candQ (rd c 1) (c.drop 3)).s (candQ (rd c 1) (c.drop 3)).e (candQ (rd c 1) (c.drop 3)).i (candQ (rd c 1) (c.drop 3)).t (candQ (rd c 1) (c.drop 3)).c (candQ (rd c 1) (c.drop 3)).L (candQ (rd c 1) (c.drop 3)).bo.length) (bareB (candQ (rd c 1) (c.drop 3)).k (candQ (rd c 1) (c.drop 3)).s (candQ (rd c 1) (c.drop 3)).e (candQ (rd c 1) (c.drop 3)).i (candQ (rd c 1) (c.drop 3)).t (candQ (rd c 1) (c.drop 3)).c (candQ (rd c 1) (c.drop 3)).L (candQ (rd c 1) (c.drop 3)).bo) (candQ (rd c 1) (c.drop 3)).T (candQ (rd c 1) (c.drop 3)).O (candQ (rd c 1) (c.drop 3)).M (candQ (rd c 1) (c.drop 3)).P (candQ (rd c 1) (c.drop 3)).R = true ∧ sealP (rd c 1) (rd c 2) (candQ (rd c 1) (c.drop 3)).k (candQ (rd c 1) (c.drop 3)).s (candQ (rd c 1) (c.drop 3)).e (candQ (rd c 1) (c.drop 3)).i (candQ (rd c 1) (c.drop 3)).t (candQ (rd c 1) (c.drop 3)).c (candQ (rd c 1) (c.drop 3)).L (candQ (rd c 1) (c.drop 3)).bo (candQ (rd c 1) (c.drop 3)).T (candQ (rd c 1) (c.drop 3)).O (candQ (rd c 1) (c.drop 3)).M (candQ (rd c 1) (c.drop 3)).P (candQ (rd c 1) (c.drop 3)).R = l
 ·
  rw [if_pos hm]
  have h1 := read_seal hcb hm.1
  rw [hm.2, okRead hb hl] at h1
  rw [Option.some.inj h1]; rfl
 ·
  rw [if_neg hm]
  rcases read_cases hb hl with ⟨K, F, p, hp, h1, h2, h4⟩ | ⟨q, hq, hp⟩
  ·
   exfalso
   refine hm ?_
   have hop : openS l = (bodyP K F p.k p.s p.e p.i p.t p.c p.L p.bo p.T p.O p.M p.P p.R, 0) := by rw [← h2]; exact open_sealed _
   have hF := (mayP_is h1).1
   have hK : 0 ≤ K ∧ K ≤ 255 := by obtain ⟨_, h | h | h⟩ := mayP_is h1 <;> omega
   have hcb2 : c = [165, K, F] ++ partsP K p := by
    rw [← hcc, hop]
    show bodyP K F p.k p.s p.e p.i p.t p.c p.L p.bo p.T p.O p.M p.P p.R = _
    rw [body_parts, Int.emod_eq_of_lt hK.1 (by omega), Int.emod_eq_of_lt hF.1 (by omega)]
   have e1 : rd c 1 = K := by rw [hcb2]; rfl
   have e2 : rd c 2 = F := by rw [hcb2]; rfl
   have e3 : c.drop 3 = partsP K p := by rw [hcb2]; rfl
   rw [e1, e2, e3, candQ_parts h4 h1]
   exact ⟨h1, h2⟩
  ·
   rw [hp]
   unfold readP at hp
   rw [if_pos ho] at hp
   cases hr : readC (openS l).1 with
   | none => rw [hr] at hp; exact hp
   | some x =>
    rw [hr] at hp
    obtain ⟨K, F, p⟩ := x
    have : (0 : Int) = q := congrArg (fun y => y.2.2.2.2.2.2.2.2.2.2.2.2.2.2.2) hp
    exact absurd this.symm hq
end Go.Proofs.YtieolhhokepkjaaDoor.Print
