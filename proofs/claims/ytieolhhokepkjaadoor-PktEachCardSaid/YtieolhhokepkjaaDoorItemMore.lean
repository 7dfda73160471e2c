/- More of items' bytes: plain laws that the statements share. Conditions stand in each theorem. -/
import Derived.Test.YtieolhhokepkjaaDoorHand8
import Derived.Test.YtieolhhokepkjaaDoorHand9
import Derived.Test.YtieolhhokepkjaaDoorHandS
import Derived.Test.YtieolhhokepkjaaDoorBase1
import Derived.Lib.Bytes
namespace Go.Proofs.YtieolhhokepkjaaDoor.Print
set_option linter.unusedVariables false
set_option linter.unusedSimpArgs false
open Go.RowKit Go.Proofs.YtieolhhokepkjaaDoorW.PrintWords Go.Proofs.YtieolhhokepkjaaDoorW.PrintLast Go.Proofs.YtieolhhokepkjaaDoorW.PrintMore Go.Proofs.YtieolhhokepkjaaDoor.NumPlain
def May (k s e i t c : Int) (L : List Int) (m : Nat) : Prop := (1 ≤ s ∧ s ≤ 4611686018427387904) ∧ (0 ≤ e ∧ e ≤ 4611686018427387904) ∧
 ((k = 1 ∧ 1 ≤ t ∧ t ≤ 32 ∧ 0 ≤ i ∧ i ≤ t - 1 ∧ c = 0 ∧ L = [] ∧ m ≤ 1024) ∨ (k = 2 ∧ t = 0 ∧ c = 0 ∧ 0 ≤ i ∧ i ≤ 1 ∧ 1 ≤ L.length ∧ L.length ≤ 64 ∧ (∀ x ∈ L, 0 ≤ x ∧ x ≤ 63) ∧ m = 0) ∨
 (k = 3 ∧ t = 0 ∧ i = 0 ∧ c = 0 ∧ L = [] ∧ m = 0) ∨ (k = 4 ∧ t = 0 ∧ c = 0 ∧ 0 ≤ i ∧ i ≤ 1 ∧ L = [] ∧ m = 0) ∨ (k = 5 ∧ t = 0 ∧ i = 0 ∧ L = [] ∧ m = 0 ∧ 0 ≤ c ∧ c ≤ 4611686018427387904) ∨
 (k = 6 ∧ t = 0 ∧ i = 0 ∧ c = 0 ∧ 2 ≤ L.length ∧ L.length ≤ 64 ∧ (∀ x ∈ L, 0 ≤ x ∧ x ≤ 4611686018427387904) ∧ m = 0))
theorem may_is {k s e i t c : Int} {L : List Int} {m : Nat} (h : mayB k s e i t c L m = true) : May k s e i t c L m := by
 unfold mayB wi at h
 rw [Bool.and_eq_true, Bool.and_eq_true, decide_eq_true_eq, decide_eq_true_eq] at h
 obtain ⟨h, hs, he⟩ := h
 refine ⟨hs, he, ?_⟩
 unfold mayK at h
 by_cases k1 : k = 1
 ·
  rw [if_pos k1] at h
  unfold may1B wi at h
  simp only [Bool.and_eq_true, decide_eq_true_eq, List.length_eq_zero_iff] at h
  exact Or.inl ⟨k1, h.1.1, h.1.2, h.2.1.1, h.2.1.2, h.2.2.1, h.2.2.2.1, h.2.2.2.2⟩
 by_cases k2 : k = 2
 ·
  rw [if_neg k1, if_pos k2] at h
  unfold may2B wi each wi at h
  simp only [Bool.and_eq_true, decide_eq_true_eq, List.length_eq_zero_iff, List.all_eq_true, Bool.true_or, Bool.false_or, and_true] at h
  obtain ⟨⟨a, b⟩, h1, h2, h3, h4⟩ := h
  exact Or.inr (Or.inl ⟨k2, a, b, h1.1, h1.2, by omega, by omega, h3, h4⟩)
 by_cases k3 : k = 3
 ·
  rw [if_neg k1, if_neg k2, if_pos k3] at h
  unfold may3B at h
  simp only [Bool.and_eq_true, decide_eq_true_eq, List.length_eq_zero_iff, Bool.false_or] at h
  obtain ⟨⟨⟨a, b⟩, d⟩, h1, h2⟩ := h
  exact Or.inr (Or.inr (Or.inl ⟨k3, a, b, d, h1, h2⟩))
 by_cases k4 : k = 4
 ·
  rw [if_neg k1, if_neg k2, if_neg k3, if_pos k4] at h
  unfold may4B wi at h
  simp only [Bool.and_eq_true, decide_eq_true_eq, List.length_eq_zero_iff, Bool.true_or, Bool.false_or, and_true] at h
  obtain ⟨⟨a, b⟩, h1, h2, h3⟩ := h
  exact Or.inr (Or.inr (Or.inr (Or.inl ⟨k4, a, b, h1.1, h1.2, h2, h3⟩)))
 by_cases k5 : k = 5
 ·
  rw [if_neg k1, if_neg k2, if_neg k3, if_neg k4, if_pos k5] at h
  unfold may5B wi at h
  simp only [Bool.and_eq_true, decide_eq_true_eq, List.length_eq_zero_iff, Bool.true_or, Bool.false_or, and_true] at h
  obtain ⟨⟨a, b⟩, ⟨h1, h2⟩, h3⟩ := h
  exact Or.inr (Or.inr (Or.inr (Or.inr (Or.inl ⟨k5, a, b, h1, h2, h3.1, h3.2⟩))))
 by_cases k6 : k = 6
 ·
  rw [if_neg k1, if_neg k2, if_neg k3, if_neg k4, if_neg k5, if_pos k6] at h
  unfold may6B wi each wi at h
  simp only [Bool.and_eq_true, decide_eq_true_eq, List.length_eq_zero_iff, List.all_eq_true, Bool.false_or] at h
  obtain ⟨⟨⟨a, b⟩, d⟩, h2, h3, h4⟩ := h
  exact Or.inr (Or.inr (Or.inr (Or.inr (Or.inr ⟨k6, a, b, d, by omega, by omega, h3, h4⟩))))
 rw [if_neg k1, if_neg k2, if_neg k3, if_neg k4, if_neg k5, if_neg k6] at h
 cases h
theorem enc1 {n : Int} (h0 : 0 ≤ n) (h1 : n ≤ 255) : enc 1 n = [n] := by
 simp only [enc, List.nil_append]
 rw [Int.emod_eq_of_lt h0 (by omega)]
theorem rowT_flat {W : Int} (hW : Wd W) {L : List Int} (hF : Fa L W) (hl : L.length < 1000) : rowT W (flat W L) = (L, [], 0) := by
 obtain ⟨V, rfl, h1, h8⟩ := hW.nat
 have hf := flat_length (V : Int) L
 rw [Int.toNat_natCast] at hf
 have hfl : (flat (V : Int) L).length < 10000 := by
  have : V * L.length ≤ 8 * L.length := Nat.mul_le_mul_right _ h8
  omega
 have hd : ((flat (V : Int) L).length : Int) / (V : Int) = (L.length : Int) := by
  rw [hf, Int.natCast_mul, Int.mul_ediv_cancel_left _ (by omega)]
 unfold rowT
 rw [hd, takerow_good hW (by omega) (by omega) (flat_by _ _) hfl (Nat.le_refl _), Int.toNat_natCast]
 have := rowS_flat L [] hF
 rw [List.append_nil] at this
 rw [this]
 rfl
theorem rowT_inv {W : Int} (hW : Wd W) {l L : List Int} (hb : By l) (hl : l.length < 10000) (h : rowT W l = (L, [], 0)) : l = flat W L := by
 obtain ⟨V, rfl, h1, h8⟩ := hW.nat
 have hd : 0 ≤ (l.length : Int) / (V : Int) := Int.ediv_nonneg (by omega) (by omega)
 have hd2 : (l.length : Int) / (V : Int) ≤ l.length := Int.ediv_le_self _ (by omega)
 unfold rowT at h
 rw [takerow_good hW hd (by omega) hb hl (Nat.le_refl _)] at h
 cases hr : rowS (V : Int) ((l.length : Int) / (V : Int)).toNat l with
 | none => rw [hr] at h; cases h
 | some p =>
  obtain ⟨xs, r⟩ := p
  rw [hr] at h
  have h : (xs, r, (0 : Int)) = (L, [], 0) := h
  have h1' := (Prod.mk.inj h).1
  have h2' := (Prod.mk.inj (Prod.mk.inj h).2).1
  obtain ⟨_, _, h3, _⟩ := rowS_is hW _ _ _ _ hb hr
  rw [h3, h2', h1', List.append_nil]
theorem take8_enc {c : Int} (h0 : 0 ≤ c) (h1 : c ≤ 4611686018427387904) : num_Take.f (enc 8 c) 8 = some (c, [], 0) := by
 rw [take_good (Or.inr (Or.inr rfl)) (enc_by _ _)]
 have := takeS_enc (n := c) (W := 8) ⟨Or.inr (Or.inr rfl), h0, h1⟩ []
 rw [List.append_nil] at this
 rw [show enc 8 c = enc (Int.toNat 8) c from rfl, this]
theorem take8_inv {l : List Int} {c : Int} (hb : By l) (h : (num_Take.f l 8).getD (0, [], 1) = (c, [], 0)) : l = enc 8 c := by
 rw [take_good (Or.inr (Or.inr rfl)) hb] at h
 cases hr : takeS l 8 with
 | none => rw [hr] at h; cases h
 | some p =>
  obtain ⟨n, r⟩ := p
  rw [hr] at h
  have h : (n, r, (0 : Int)) = (c, [], 0) := h
  have h1' := (Prod.mk.inj h).1
  have h2' := (Prod.mk.inj (Prod.mk.inj h).2).1
  have := (takeS_is (Or.inr (Or.inr rfl)) hb hr).2.1
  rw [this, h2', h1', List.append_nil]; rfl
/-- The bytes of an item say the item. -/
theorem take_bytes {k s e i t c : Int} {L bo : List Int} (h : mayB k s e i t c L bo.length = true) : takeItem (bytesOf k s e i t c L bo) = some (k, s, e, i, t, c, L, bo) := by
 obtain ⟨hs, he, hk⟩ := may_is h
 have key : ∀ T : List Int, tailOf k i t c L bo = T → 1 ≤ k → k ≤ 6 → restM k T = ⟨true, i, t, c, L, bo, []⟩ → takeItem (bytesOf k s e i t c L bo) = some (k, s, e, i, t, c, L, bo) := by
  intro T hT k1 k6 hm
  unfold bytesOf headOf
  rw [hT, enc1 (by omega) (by omega)]
  have hrow := rowS_flat (W := 8) [s, e] T (fun x hx => ⟨Or.inr (Or.inr rfl), by simp at hx; rcases hx with rfl | rfl <;> omega, by simp at hx; rcases hx with rfl | rfl; exact hs.2; exact he.2⟩)
  have hf : flat 8 [s, e] = enc 8 s ++ enc 8 e := by simp [flat]
  rw [hf] at hrow
  unfold takeItem
  rw [if_pos (by simp)]
  simp only [List.singleton_append, List.cons_append, List.drop_succ_cons, List.drop_zero, List.headD_cons]
  simp only [List.append_assoc, List.nil_append] at hrow ⊢
  have hrow : rowS 8 2 (enc 8 s ++ (enc 8 e ++ T)) = some ([s, e], T) := hrow
  rw [hrow]
  simp only [hm, itemOf, show rd [s, e] 0 = s from rfl, show rd [s, e] 1 = e from rfl, List.length_nil, decide_true, Bool.true_and, h, if_true]
 rcases hk with ⟨rfl, h1, h2, h3, h4, rfl, rfl, h5⟩ | ⟨rfl, rfl, rfl, h1, h2, h3, h4, h5, h6⟩ | ⟨rfl, rfl, rfl, rfl, rfl, h1⟩ | ⟨rfl, rfl, rfl, h1, h2, rfl, h3⟩ | ⟨rfl, rfl, rfl, rfl, h1, h2, h3⟩ | ⟨rfl, rfl, rfl, rfl, h1, h2, h3, h4⟩
 ·
  refine key (i :: t :: bo) ?_ (by decide) (by decide) ?_
  ·
   unfold tailOf
   rw [if_pos rfl, enc1 h3 (by omega), enc1 (by omega) (by omega)]; rfl
  ·
   unfold restM
   rw [if_pos rfl]; simp
 ·
  obtain rfl := List.length_eq_zero_iff.1 h6
  refine key (i :: flat 1 L) ?_ (by decide) (by decide) ?_
  ·
   unfold tailOf
   rw [if_neg (by decide), if_pos rfl, enc1 h1 (by omega)]; rfl
  ·
   unfold restM
   rw [if_neg (by decide), if_pos rfl, if_pos (by simp), show (i :: flat 1 L).drop 1 = flat 1 L from rfl, rowT_flat (Or.inl rfl) (fun x hx => ⟨Or.inl rfl, (h5 x hx).1, by have := (h5 x hx).2; show x ≤ 255; omega⟩) (by omega)]; rfl
 ·
  obtain rfl := List.length_eq_zero_iff.1 h1
  exact key [] rfl (by decide) (by decide) rfl
 ·
  obtain rfl := List.length_eq_zero_iff.1 h3
  refine key [i] ?_ (by decide) (by decide) ?_
  ·
   unfold tailOf
   rw [if_neg (by decide), if_neg (by decide), if_pos rfl, enc1 h1 (by omega)]
  ·
   rfl
 ·
  obtain rfl := List.length_eq_zero_iff.1 h1
  refine key (enc 8 c) rfl (by decide) (by decide) ?_
  unfold restM
  rw [if_neg (by decide), if_neg (by decide), if_neg (by decide), if_pos rfl, take8_enc h2 h3]; rfl
 ·
  obtain rfl := List.length_eq_zero_iff.1 h4
  refine key (flat 8 L) rfl (by decide) (by decide) ?_
  unfold restM
  rw [if_neg (by decide), if_neg (by decide), if_neg (by decide), if_neg (by decide), if_pos rfl, rowT_flat (Or.inr (Or.inr rfl)) (fun x hx => ⟨Or.inr (Or.inr rfl), (h3 x hx).1, (h3 x hx).2⟩) (by omega)]; rfl
/-- Bytes that say an item are its bytes. -/
theorem take_inv {l : List Int} (hb : By l) (hl : l.length < 10000) {k s e i t c : Int} {L bo : List Int} (h : takeItem l = some (k, s, e, i, t, c, L, bo)) : mayB k s e i t c L bo.length = true ∧ bytesOf k s e i t c L bo = l := by
 unfold takeItem at h
 rcases l with _ | ⟨k0, l1⟩
 ·
  cases h
 rw [if_pos (by simp), List.drop_succ_cons, List.drop_zero, List.headD_cons] at h
 have hb1 : By l1 := fun x hx => hb x (List.mem_cons_of_mem _ hx)
 have hk0 := hb k0 List.mem_cons_self
 cases hr : rowS 8 2 l1 with
 | none => rw [hr] at h; cases h
 | some p =>
  obtain ⟨xs, r⟩ := p
  rw [hr] at h
  obtain ⟨hx2, hF, hl1, hbr⟩ := rowS_is (Or.inr (Or.inr rfl)) 2 l1 xs r hb1 hr
  obtain ⟨x0, x1, rfl⟩ : ∃ a b, xs = [a, b] := by
   rcases xs with _ | ⟨a, _ | ⟨b, _ | ⟨_, _⟩⟩⟩
   ·
    cases hx2
   ·
    cases hx2
   ·
    exact ⟨a, b, rfl⟩
   ·
    simp at hx2
  have hrl : r.length < 10000 := by rw [hl1] at hl; simp at hl; omega
  simp only [show rd [x0, x1] 0 = x0 from rfl, show rd [x0, x1] 1 = x1 from rfl] at h
  obtain ⟨m, hm⟩ : ∃ m, restM k0 r = m := ⟨_, rfl⟩
  rw [hm] at h
  unfold itemOf at h
  by_cases hq : (m.is && (decide (m.left.length = 0) && mayB k0 x0 x1 m.i m.t m.c m.L m.bo.length)) = true
  ·
   rw [if_pos hq] at h
   simp only [Option.some.injEq, Prod.mk.injEq] at h
   obtain ⟨rfl, rfl, rfl, rfl, rfl, rfl, rfl, rfl⟩ := h
   rw [Bool.and_eq_true, Bool.and_eq_true, decide_eq_true_eq] at hq
   obtain ⟨his, hleft, hmay⟩ := hq
   have hleft := List.length_eq_zero_iff.1 hleft
   refine ⟨hmay, ?_⟩
   have hf : flat 8 [x0, x1] = enc 8 x0 ++ enc 8 x1 := by simp [flat]
   unfold bytesOf headOf
   rw [hl1, hf, enc1 hk0.1 hk0.2]
   have ht : tailOf k0 m.i m.t m.c m.L m.bo = r := by
    obtain ⟨_, _, hk⟩ := may_is hmay
    have kk : k0 = 1 ∨ k0 = 2 ∨ k0 = 3 ∨ k0 = 4 ∨ k0 = 5 ∨ k0 = 6 := by omega
    clear hk hmay hF hr hl hb hk0 hf
    subst hm
    unfold tailOf
    rcases kk with rfl | rfl | rfl | rfl | rfl | rfl
    ·
     rw [if_pos rfl]
     unfold restM at his ⊢
     rw [if_pos rfl] at his ⊢
     rcases r with _ | ⟨a, _ | ⟨b, r⟩⟩
     ·
      cases his
     ·
      cases his
     ·
      have ha := hbr a List.mem_cons_self
      have hb' := hbr b (List.mem_cons_of_mem _ List.mem_cons_self)
      show enc 1 a ++ enc 1 b ++ r = _
      rw [enc1 ha.1 ha.2, enc1 hb'.1 hb'.2]; rfl
    ·
     rw [if_neg (by decide), if_pos rfl]
     unfold restM at his hleft ⊢
     rw [if_neg (by decide), if_pos rfl] at his hleft ⊢
     rcases r with _ | ⟨a, r⟩
     ·
      cases his
     ·
      have ha := hbr a List.mem_cons_self
      rw [if_pos (by simp)] at his hleft ⊢
      rw [show (a :: r).drop 1 = r from rfl] at his hleft ⊢
      have hv := rowT_inv (W := 1) (L := (rowT 1 r).1) (Or.inl rfl) (fun x hx => hbr x (List.mem_cons_of_mem _ hx)) (by simp at hrl; omega) (by rw [← hleft, ← eq_of_beq his])
      show enc 1 a ++ flat 1 (rowT 1 r).1 = _
      rw [← hv, enc1 ha.1 ha.2]; rfl
    ·
     unfold restM at hleft
     rw [if_neg (by decide), if_neg (by decide), if_neg (by decide), if_neg (by decide), if_neg (by decide)] at hleft
     rw [if_neg (by decide), if_neg (by decide), if_neg (by decide), if_neg (by decide), if_neg (by decide)]
     exact hleft.symm
    ·
     rw [if_neg (by decide), if_neg (by decide), if_pos rfl]
     unfold restM at his hleft ⊢
     rw [if_neg (by decide), if_neg (by decide), if_pos rfl] at his hleft ⊢
     rcases r with _ | ⟨a, r⟩
     ·
      cases his
     ·
      have ha := hbr a List.mem_cons_self
      have : r = [] := hleft
      subst this
      show enc 1 a = _
      exact enc1 ha.1 ha.2
    ·
     rw [if_neg (by decide), if_neg (by decide), if_neg (by decide), if_pos rfl]
     unfold restM at his hleft ⊢
     rw [if_neg (by decide), if_neg (by decide), if_neg (by decide), if_pos rfl] at his hleft ⊢
     exact (take8_inv (c := ((num_Take.f r 8).getD (0, [], 1)).1) hbr (Prod.ext rfl (Prod.ext hleft (eq_of_beq his)))).symm
    ·
     rw [if_neg (by decide), if_neg (by decide), if_neg (by decide), if_neg (by decide), if_pos rfl]
     unfold restM at his hleft ⊢
     rw [if_neg (by decide), if_neg (by decide), if_neg (by decide), if_neg (by decide), if_pos rfl] at his hleft ⊢
     exact (rowT_inv (W := 8) (L := (rowT 8 r).1) (Or.inr (Or.inr rfl)) hbr hrl (by rw [← hleft, ← eq_of_beq his])).symm
   rw [ht]; simp
  ·
   rw [if_neg hq] at h; cases h
end Go.Proofs.YtieolhhokepkjaaDoor.Print
namespace Go.Proofs.YtieolhhokepkjaaDoor.Print
set_option linter.unusedVariables false
set_option linter.unusedSimpArgs false
open Go.RowKit Go.Proofs.YtieolhhokepkjaaDoorW.PrintWords Go.Proofs.YtieolhhokepkjaaDoorW.PrintLast Go.Proofs.YtieolhhokepkjaaDoorW.PrintMore Go.Proofs.YtieolhhokepkjaaDoor.NumPlain
theorem str_eq {l m : List Int} (hl : By l) (hm : By m) : (strOfNums l).toList = (strOfNums m).toList ↔ l = m := by
 rw [Lib.strOfNums_toList, Lib.strOfNums_toList]
 unfold Lib.bytesOf
 constructor
 ·
  intro h
  induction l generalizing m with
  | nil => cases m; rfl; simp at h
  | cons c l ih =>
   cases m with
   | nil => simp at h
   | cons d m =>
    simp only [List.map_cons, List.cons.injEq] at h
    have h1 := hl c List.mem_cons_self
    have h2 := hm d List.mem_cons_self
    have h3 := congrArg UInt8.toNat h.1
    rw [UInt8.toNat_ofNat', UInt8.toNat_ofNat'] at h3
    rw [show c = d by omega, ih (fun x hx => hl x (List.mem_cons_of_mem _ hx)) (fun x hx => hm x (List.mem_cons_of_mem _ hx)) h.2]
 ·
  intro h; rw [h]
theorem by_bytes (k s e i t c : Int) (L : List Int) {bo : List Int} (hb : By bo) : By (Print.bytesOf k s e i t c L bo) := by
 have hh : By (headOf k s e) := ((enc_by 1 k).append (enc_by 8 s)).append (enc_by 8 e)
 refine hh.append ?_
 unfold tailOf
 repeat' split
 ·
  exact ((enc_by 1 i).append (enc_by 1 t)).append hb
 ·
  exact (enc_by 1 i).append (flat_by 1 L)
 ·
  exact enc_by 1 i
 ·
  exact enc_by 8 c
 ·
  exact flat_by 8 L
 ·
  exact fun _ h => absurd h List.not_mem_nil
theorem few_is (a b c d e f : Int) (L bo : List Int) : precentorref03_Few.f a b c d e f L bo = some (decide (L.length ≤ 80) && decide (bo.length ≤ 1100)) := by
 unfold precentorref03_Few.f
 by_cases h : L.length ≤ 80
 ·
  rw [if_pos (by omega), decide_eq_true h, Bool.true_and]
  by_cases h2 : bo.length ≤ 1100
  ·
   rw [decide_eq_true h2, decide_eq_true (by omega)]
  ·
   rw [decide_eq_false h2, decide_eq_false (by omega)]
 ·
  rw [if_neg (by omega), decide_eq_false h, Bool.false_and]
theorem may_len {k s e i t c : Int} {L : List Int} {m : Nat} (h : mayB k s e i t c L m = true) : L.length ≤ 64 ∧ m ≤ 1024 := by
 obtain ⟨_, _, hk⟩ := may_is h
 rcases hk with ⟨_, _, _, _, _, _, rfl, _⟩ | ⟨_, _, _, _, _, _, _, _, _⟩ | ⟨_, _, _, _, rfl, _⟩ | ⟨_, _, _, _, _, rfl, _⟩ | ⟨_, _, _, rfl, _, _, _⟩ | ⟨_, _, _, _, _, _, _, _⟩ <;> first | omega | (simp; omega)
theorem wf_kind {k : Int} (h1 : 1 ≤ k) (h6 : k ≤ 6) : (Lit.int .i64 k).wf = true := by
 have : k = 1 ∨ k = 2 ∨ k = 3 ∨ k = 4 ∨ k = 5 ∨ k = 6 := by omega
 rcases this with rfl | rfl | rfl | rfl | rfl | rfl <;> decide
theorem okL_by {l : List Int} (hb : By l) (hl : l.length < 10000) : okL l = true := by
 unfold okL
 rw [Bool.and_eq_true, List.all_eq_true, decide_eq_true_eq]
 exact ⟨fun x hx => decide_eq_true (hb x hx), hl⟩
theorem bytes_len {k s e i t c : Int} {L bo : List Int} (h : mayB k s e i t c L bo.length = true) : 17 ≤ (Print.bytesOf k s e i t c L bo).length ∧ (Print.bytesOf k s e i t c L bo).length ≤ 1100 := by
 have hL := may_len h
 have hk := may_is h
 have hl : (headOf k s e).length = 17 := by unfold headOf; simp [enc_length]
 have ht : (tailOf k i t c L bo).length ≤ 1030 := by
  unfold tailOf
  have f1 := flat_length 1 L
  have f8 := flat_length 8 L
  rw [show Int.toNat 1 = 1 from rfl] at f1
  rw [show Int.toNat 8 = 8 from rfl] at f8
  repeat' split
  all_goals first | omega | (simp [enc_length]; omega) | simp [enc_length]
 unfold Print.bytesOf
 rw [List.length_append, hl]
 omega
theorem same_refl (k s e i t c : Int) (L bo : List Int) : sameB k s e i t c L bo k s e i t c L bo = true := by unfold sameB; simp
theorem same_iff {k s e i t c : Int} {L bo : List Int} {k' s' e' i' t' c' : Int} {L' bo' : List Int} (hb : By bo) (hb' : By bo') :
  sameB k s e i t c L bo k' s' e' i' t' c' L' bo' = true ↔ (k, s, e, i, t, c, L, bo) = (k', s', e', i', t', c', L', bo') := by
 unfold sameB
 simp only [Bool.and_eq_true, beq_iff_eq, decide_eq_true_eq, Prod.mk.injEq, str_eq hb hb']
end Go.Proofs.YtieolhhokepkjaaDoor.Print
