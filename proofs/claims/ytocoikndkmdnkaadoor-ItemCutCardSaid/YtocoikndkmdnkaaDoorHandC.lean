/- ItemCut: that its call returns true, for every item, cut and byte. Conditions stand in each theorem. -/
import Derived.Test.YtocoikndkmdnkaaDoorHandW
import Derived.Test.YtocoikndkmdnkaaDoorHandR
import Derived.Test.YtocoikndkmdnkaaDoorItemMore
import Derived.Deep.Light
namespace Go.Proofs.YtocoikndkmdnkaaDoor.Print
set_option linter.unusedVariables false
set_option linter.unusedSimpArgs false
open Go.RowKit Go.Proofs.YtocoikndkmdnkaaDoorW.PrintWords Go.Proofs.YtocoikndkmdnkaaDoorW.PrintLast Go.Proofs.YtocoikndkmdnkaaDoorW.PrintMore Go.Proofs.YtocoikndkmdnkaaDoor.NumPlain
theorem len_kind {k s e i t c : Int} {L bo : List Int} (h : mayB k s e i t c L bo.length = true) :
    (k = 3 → (Print.bytesOf k s e i t c L bo).length = 17) ∧ (k = 4 → (Print.bytesOf k s e i t c L bo).length = 18) ∧ (k = 5 → (Print.bytesOf k s e i t c L bo).length = 25) ∧ (k = 6 → (Print.bytesOf k s e i t c L bo).length = 17 + 8 * L.length) := by
  have hl : (headOf k s e).length = 17 := by unfold headOf; simp [enc_length]
  have f8 := flat_length 8 L
  rw [show Int.toNat 8 = 8 from rfl] at f8
  unfold Print.bytesOf
  rw [List.length_append, hl]
  refine ⟨?_, ?_, ?_, ?_⟩ <;> rintro rfl <;> simp [tailOf, enc_length, f8]
theorem head_kind {k s e i t c : Int} {L bo : List Int} (h : mayB k s e i t c L bo.length = true) : ∃ T, Print.bytesOf k s e i t c L bo = k :: T := by
  obtain ⟨⟨h1, h6⟩, _, _⟩ := mayB_head h
  exact ⟨_, by unfold Print.bytesOf headOf; rw [enc1 (by omega) (by omega)]; rfl⟩
theorem cut_plain {k s e i t c : Int} {L bo : List Int} (h : mayB k s e i t c L bo.length = true) (hb : By bo) (l : List Int) (hl : By l) (hn : l.length < 10000) (T : List Int) (hT : l = k :: T) :
    takeItem l = none ∨ ((k = 3 → l.length = 17) ∧ (k = 4 → l.length = 18) ∧ (k = 5 → l.length = 25) ∧ (k = 6 → ∃ m : Nat, l.length = 17 + 8 * m)) := by
  cases ht : takeItem l with
  | none => exact Or.inl rfl
  | some p =>
    obtain ⟨k', s', e', i', t', c', L', bo'⟩ := p
    obtain ⟨hm, hbb⟩ := take_inv hl hn ht
    obtain ⟨T', hT'⟩ := head_kind hm
    rw [hbb, hT] at hT'
    obtain rfl := (List.cons.inj hT').1
    have := len_kind hm
    rw [hbb] at this
    exact Or.inr ⟨this.1, this.2.1, this.2.2.1, fun h => ⟨_, this.2.2.2 h⟩⟩
theorem short_none {l : List Int} (hl : By l) (hn : l.length < 17) : takeItem l = none := by
  cases ht : takeItem l with
  | none => rfl
  | some p =>
    obtain ⟨k', s', e', i', t', c', L', bo'⟩ := p
    obtain ⟨hm, hbb⟩ := take_inv hl (by omega) ht
    have := (bytes_len hm).1
    rw [hbb] at this
    omega
/-- The code of what is taken. -/
def codeOf (l : List Int) : Int := (tell9 (takeItem l)).2.2.2.2.2.2.2.2
theorem codeOf_none {l : List Int} (h : takeItem l = none) : codeOf l = 2 := by unfold codeOf; rw [h]; rfl
theorem cut_facts {k s e i t c : Int} {L bo : List Int} (h : mayB k s e i t c L bo.length = true) (hb : By bo) (q : Nat) (hq : q ≤ (Print.bytesOf k s e i t c L bo).length) (m : Int) (hm : 0 ≤ m ∧ m ≤ 255) :
    (q < 17 → codeOf ((Print.bytesOf k s e i t c L bo).take q) = 2) ∧ (k = 3 ∨ k = 4 ∨ k = 5 → codeOf ((Print.bytesOf k s e i t c L bo) ++ [m]) = 2 ∧ (q < (Print.bytesOf k s e i t c L bo).length → codeOf ((Print.bytesOf k s e i t c L bo).take q) = 2)) ∧
    (k = 6 → codeOf ((Print.bytesOf k s e i t c L bo) ++ [m]) = 2 ∧ (q < 17 ∨ (q - 17) % 8 = 0 ∨ codeOf ((Print.bytesOf k s e i t c L bo).take q) = 2)) := by
  have hB := by_bytes k s e i t c L hb
  have hlen := bytes_len h
  have hk := len_kind h
  obtain ⟨T, hT⟩ := head_kind h
  generalize Print.bytesOf k s e i t c L bo = bb at *
  have h1 : q < 17 → codeOf (bb.take q) = 2 := fun h => codeOf_none (short_none (hB.take q) (by rw [List.length_take]; omega))
  have hmb : By (bb ++ [m]) := hB.append (fun x hx => by rw [List.mem_singleton.1 hx]; exact hm)
  have ha := cut_plain h hb (bb ++ [m]) hmb (by simp; omega) (T ++ [m]) (by rw [hT]; rfl)
  have ht : q < 17 ∨ takeItem (bb.take q) = none ∨ ((k = 3 → q = 17) ∧ (k = 4 → q = 18) ∧ (k = 5 → q = 25) ∧ (k = 6 → ∃ m : Nat, q = 17 + 8 * m)) := by
    by_cases h17 : q < 17
    · exact Or.inl h17
    · refine Or.inr ?_
      have hl : (bb.take q).length = q := by rw [List.length_take]; omega
      have := cut_plain h hb (bb.take q) (hB.take q) (by omega) (T.take (q - 1)) (by rw [hT]; obtain ⟨q, rfl⟩ : ∃ p, q = p + 1 := ⟨q - 1, by omega⟩; rfl)
      rwa [hl] at this
  rw [List.length_append, List.length_singleton] at ha
  refine ⟨h1, fun hk3 => ⟨?_, fun hlt => ?_⟩, fun h6 => ⟨?_, ?_⟩⟩
  · rcases ha with ha | ha
    · exact codeOf_none ha
    · exfalso; rcases hk3 with rfl | rfl | rfl
      · have := ha.1 rfl; have := hk.1 rfl; omega
      · have := ha.2.1 rfl; have := hk.2.1 rfl; omega
      · have := ha.2.2.1 rfl; have := hk.2.2.1 rfl; omega
  · rcases ht with ht | ht | ht
    · exact h1 ht
    · exact codeOf_none ht
    · exfalso; rcases hk3 with rfl | rfl | rfl
      · have := ht.1 rfl; have := hk.1 rfl; omega
      · have := ht.2.1 rfl; have := hk.2.1 rfl; omega
      · have := ht.2.2.1 rfl; have := hk.2.2.1 rfl; omega
  · rcases ha with ha | ha
    · exact codeOf_none ha
    · exfalso
      obtain ⟨m, hm⟩ := ha.2.2.2 h6
      have := hk.2.2.2 h6
      omega
  · rcases ht with ht | ht | ht
    · exact Or.inl ht
    · exact Or.inr (Or.inr (codeOf_none ht))
    · obtain ⟨m, hm⟩ := ht.2.2.2 h6
      exact Or.inr (Or.inl (by omega))
theorem codeOf_two {l : List Int} : codeOf l = 2 ∨ codeOf l = 0 := by
  unfold codeOf
  cases takeItem l with
  | none => exact Or.inl rfl
  | some p => exact Or.inr rfl
/-- What is cut off of bytes. -/
theorem sl_to {w : World} {A : Option Addr} {c : Nat} {xs : List Int} (h : Kd.C (Kd.int .u8) w A xs.length xs) (hc : xs.length ≤ c) (m : Nat) (hm : m ≤ xs.length) : ∃ (B : Option Addr) (d : Nat),
    (∀ W : World, (Instr.slice 23 (.slice A xs.length c) none (some (.int .i64 (m : Int))) none).run Tryd.prog W = .ok (.slice B (xs.take m).length d) W) ∧ (xs.take m).length ≤ d ∧ Kd.C (Kd.int .u8) w B (xs.take m).length (xs.take m) := by
  obtain ⟨i5, hi5, hz5, hs5, _⟩ := info_parts info5
  refine ⟨A, c, fun W => ?_, ?_, Kd.C_take h hm⟩
  · have := cut_to (P := Tryd.prog) 23 5 .i64 Tryd.underlying23 hi5 A xs.length c (m : Int) (by omega) (by omega) hc W
    rw [Int.toNat_natCast] at this
    rw [this, List.length_take, Nat.min_eq_left hm]
  · rw [List.length_take]; omega
open Classical in
noncomputable def precentorlaw03_ItemCut.f (k s e i t c : Int) (L bo : List Int) (cut more : Int) : Option Bool :=
  if (Lit.int .i64 k).wf = true ∧ (0 ≤ cut ∧ cut ≤ 65535) ∧ (0 ≤ more ∧ more ≤ 255) ∧ By bo then some true else none
set_option maxRecDepth 100000 in
set_option maxHeartbeats 4000000 in
theorem precentorlaw03_ItemCut.is (k s e i t c : Int) (A6 : Option Addr) (c6 : Nat) (L : List Int) (A7 : Option Addr) (c7 : Nat) (bo : List Int) (cut more : Int) (w : World) (hr6 : Kd.C (Kd.int .i64) w A6 L.length L) (hc6 : L.length ≤ c6) (hr7 : Kd.C (Kd.int .u8) w A7 bo.length bo) (hc7 : bo.length ≤ c7) (hG : GB w)
    (hk : (Lit.int .i64 k).wf = true) (hcut : 0 ≤ cut ∧ cut ≤ 65535) (hmore : 0 ≤ more ∧ more ≤ 255) (hbo : By bo) :
    Calls Tryd.prog 6 #[.agg #[.int .i64 k, .int .i64 s, .int .i64 e, .int .i64 i, .int .i64 t, .int .i64 c, .slice A6 L.length c6, .slice A7 bo.length c7], .int .u16 cut, .int .u8 more] w fun e' w' => e' = .returned (.bool true) ∧ Below w.heap.size w w' := by
  obtain ⟨w0, hw0, hB0, hs0, X0⟩ := boxed1 w (.int .i64 k) (.int .i64 s) (.int .i64 e) (.int .i64 i) (.int .i64 t) (.int .i64 c) (.slice A6 L.length c6) (.slice A7 bo.length c7)
  obtain ⟨⟨q0, q1, q2, q3, q4, q5, q6, q7⟩, ⟨p0, p1, p2, p3, p4, p5, p6, p7⟩⟩ := cells8 X0
  have HB := Aside0.mk hB0
  have HX := Aside0.mk X0
  have H6 := Aside0.mk (Kd.C_below hr6 hB0)
  have H7 := Aside0.mk (Kd.C_below hr7 hB0)
  have HG := Lib.hid hG
  have HK := Lib.hid hk
  have HCUT := Lib.hid hcut
  have HMORE := Lib.hid hmore
  have HBO := Lib.hid hbo
  have HC6 := Lib.hid hc6
  have HC7 := Lib.hid hc7
  clear hB0 hs0 X0 hr6 hr7 hG hk hcut hmore hbo hc6 hc7
  go_enter Tryd.func6, Tryd.ntmps6
  go_wp2_with fail
  clear q0 q1 q2 q3 q4 q5 q6 q7 p0 p1 p2 p3 p4 p5 p6 p7
  refine (show Calls Tryd.prog 9 #[] w0 _ from precentorlaw03_shown.calls true w0 (GB.below HG.out HB.out) rfl).mono ?_
  rintro e_ w1 ⟨rfl, hb⟩
  have n0_ := Aside0.mk (below_step HB.out hb)
  have n1_ := Aside0.mk (blk_below HX.out hb)
  have n2_ := Aside0.mk (Kd.C_below H6.out hb)
  have n3_ := Aside0.mk (Kd.C_below H7.out hb)
  clear HB HX H6 H7
  have HB := n0_
  have HX := n1_
  have H6 := n2_
  have H7 := n3_
  clear n0_ n1_ n2_ n3_
  clear hb hw0 w0
  obtain ⟨⟨q0, q1, q2, q3, q4, q5, q6, q7⟩, ⟨p0, p1, p2, p3, p4, p5, p6, p7⟩⟩ := cells8 HX.out
  obtain ⟨fw, hfw⟩ : ∃ b, (decide (L.length ≤ 80) && decide (bo.length ≤ 1100)) = b := ⟨_, rfl⟩
  have HFW := Lib.hid hfw
  have HCT := Lib.hid (show Calls Tryd.prog 10 #[.agg #[.int .i64 k, .int .i64 s, .int .i64 e, .int .i64 i, .int .i64 t, .int .i64 c, .slice A6 L.length c6, .slice A7 bo.length c7]] w1 _ from precentorref03_Few.calls k s e i t c A6 c6 L A7 c7 bo fw w1 H6.out HC6.out H7.out HC7.out (by rw [few_is, hfw]))
  clear hfw
  go_wp2_with fail
  refine HCT.out.mono ?_
  rintro e_ w2 ⟨rfl, hb⟩
  clear HCT q0 q1 q2 q3 q4 q5 q6 q7 p0 p1 p2 p3 p4 p5 p6 p7
  have n0_ := Aside0.mk (below_step HB.out hb)
  have n1_ := Aside0.mk (blk_below HX.out hb)
  have n2_ := Aside0.mk (Kd.C_below H6.out hb)
  have n3_ := Aside0.mk (Kd.C_below H7.out hb)
  clear HB HX H6 H7
  have HB := n0_
  have HX := n1_
  have H6 := n2_
  have H7 := n3_
  clear n0_ n1_ n2_ n3_
  clear hb
  obtain ⟨⟨q0, q1, q2, q3, q4, q5, q6, q7⟩, ⟨p0, p1, p2, p3, p4, p5, p6, p7⟩⟩ := cells8 HX.out
  cases fw
  · go_wp2_with fail
    go_ret
    exact ⟨rfl, HB.out⟩
  have hfw := HFW.out
  rw [Bool.and_eq_true, decide_eq_true_eq, decide_eq_true_eq] at hfw
  have HFW := Lib.hid hfw
  obtain ⟨my, hmy⟩ : ∃ b, mayB k s e i t c L bo.length = b := ⟨_, rfl⟩
  have HMY := Lib.hid hmy
  have HCT := Lib.hid (show Calls Tryd.prog 14 #[.agg #[.int .i64 k, .int .i64 s, .int .i64 e, .int .i64 i, .int .i64 t, .int .i64 c, .slice A6 L.length c6, .slice A7 bo.length c7]] w2 _ from precentorref03_May.calls k s e i t c A6 c6 L A7 c7 bo my w2 H6.out HC6.out H7.out HC7.out ((if_pos (by omega)).trans (by rw [hmy])))
  clear hmy hfw
  go_wp2_with fail
  refine HCT.out.mono ?_
  rintro e_ w3 ⟨rfl, hb⟩
  clear HCT q0 q1 q2 q3 q4 q5 q6 q7 p0 p1 p2 p3 p4 p5 p6 p7
  have n0_ := Aside0.mk (below_step HB.out hb)
  have n1_ := Aside0.mk (blk_below HX.out hb)
  have n2_ := Aside0.mk (Kd.C_below H6.out hb)
  have n3_ := Aside0.mk (Kd.C_below H7.out hb)
  clear HB HX H6 H7
  have HB := n0_
  have HX := n1_
  have H6 := n2_
  have H7 := n3_
  clear n0_ n1_ n2_ n3_
  clear hb
  obtain ⟨⟨q0, q1, q2, q3, q4, q5, q6, q7⟩, ⟨p0, p1, p2, p3, p4, p5, p6, p7⟩⟩ := cells8 HX.out
  cases my
  · go_wp2_with fail
    go_ret
    exact ⟨rfl, HB.out⟩
  obtain ⟨bb, hbb⟩ : ∃ bb, Print.bytesOf k s e i t c L bo = bb := ⟨_, rfl⟩
  have HBB := Lib.hid hbb
  have HCT := Lib.hid (show Calls Tryd.prog 17 #[.agg #[.int .i64 k, .int .i64 s, .int .i64 e, .int .i64 i, .int .i64 t, .int .i64 c, .slice A6 L.length c6, .slice A7 bo.length c7]] w3 _ from item_Bytes.calls k s e i t c A6 c6 L A7 c7 bo bb w3 H6.out HC6.out H7.out HC7.out (GB.below HG.out HB.out) ((if_pos ⟨HK.out, by have := HFW.out; omega, by have := HFW.out; omega⟩).trans (by rw [HMY.out, if_pos rfl, hbb])))
  clear hbb
  go_wp2_with fail
  refine HCT.out.mono ?_
  rintro e_ w4 ⟨v2, rfl, hr, hb⟩
  obtain ⟨A2, c2, rfl, hl2, hC2⟩ := Kd.R_reads hr
  clear HCT q0 q1 q2 q3 q4 q5 q6 q7 p0 p1 p2 p3 p4 p5 p6 p7
  have n0_ := Aside0.mk (below_step HB.out hb)
  have n1_ := Aside0.mk (blk_below HX.out hb)
  have n2_ := Aside0.mk (Kd.C_below H6.out hb)
  have n3_ := Aside0.mk (Kd.C_below H7.out hb)
  clear HB HX H6 H7
  have HB := n0_
  have HX := n1_
  have H6 := n2_
  have H7 := n3_
  clear n0_ n1_ n2_ n3_
  clear hb hr
  have HC2 := Aside0.mk hC2
  have HL2 := Lib.hid hl2
  have hln := bytes_len HMY.out
  rw [HBB.out] at hln
  obtain ⟨q, hq⟩ : ∃ q : Nat, Int.tmod cut ((bb.length : Int) + 1) = q := ⟨(Int.tmod cut ((bb.length : Int) + 1)).toNat, by have := HCUT.out; rw [Int.toNat_of_nonneg]; exact Int.tmod_nonneg _ (by omega)⟩
  have hqn : q ≤ bb.length := by have := Int.tmod_lt_of_pos cut (show (0 : Int) < (bb.length : Int) + 1 by omega); omega
  have hF := cut_facts HMY.out HBO.out q (by rw [HBB.out]; exact hqn) more HMORE.out
  rw [HBB.out] at hF
  have HF := Lib.hid hF
  have hw1 : wrap64 ((bb.length : Int) + 1) = (bb.length : Int) + 1 := wrap_id (by omega) (by omega)
  have hw2 : wrap64 cut = cut := by have := HCUT.out; exact wrap_id (by omega) (by omega)
  have hw3 : wrap64 (q : Int) = (q : Int) := wrap_id (by omega) (by omega)
  have hne : ((bb.length : Int) + 1 == 0) = false := beq_eq_false_iff_ne.2 (by omega)
  have hne' : ¬ (bb.length : Int) + 1 = 0 := by omega
  have HLN := Lib.hid hln
  have HQ := Lib.hid hqn
  clear hF hln hqn hC2 hl2
  obtain ⟨A3, c3, sl3, hl3, hC3⟩ := sl_to HC2.out HL2.out q HQ.out
  obtain ⟨l1, hl1⟩ : ∃ l1, bb.take q = l1 := ⟨_, rfl⟩
  rw [hl1] at sl3 hl3 hC3
  have sl3 : ∀ W : World, (Instr.slice 23 (.slice A2 bb.length c2) none (some (.int .i64 (q : Int))) none).run Tryd.prog W = .ok (.slice A3 l1.length c3) W := sl3
  have HL1 := Lib.hid hl1
  have hT1 : item_Take.f l1 = some (tell9 (takeItem l1)) := if_pos (okL_by (by rw [← hl1, ← HBB.out]; exact (by_bytes k s e i t c L HBO.out).take q) (by rw [← hl1, List.length_take]; have := HLN.out; omega))
  obtain ⟨⟨r1, r2, r3, r4, r5, r6, r7, r8, ce⟩, hr⟩ : ∃ p, tell9 (takeItem l1) = p := ⟨_, rfl⟩
  have HCE := Lib.hid (show codeOf l1 = ce by unfold codeOf; rw [hr])
  rw [hr] at hT1
  have HCT := Lib.hid (show Calls Tryd.prog 11 #[.slice A3 l1.length c3] w4 _ from item_Take.calls A3 c3 l1 _ _ _ _ _ _ _ _ _ w4 hC3 hl3 (GB.below HG.out HB.out) hT1)
  clear hT1 hr hC3 hl3 hl1
  go_upto_region 6 with fail
  clear hw1 hw2 hne hne' hq
  go_wp2_with fail
  refine HCT.out.mono ?_
  rintro e_ w5 ⟨v6, v7, rfl, h6, h7, hb⟩
  obtain ⟨B6, d6, rfl⟩ := Kd.R_slice h6
  obtain ⟨B7, d7, rfl⟩ := Kd.R_slice h7
  clear HCT h6 h7 sl3 hw3
  have n0_ := Aside0.mk (below_step HB.out hb)
  have n1_ := Aside0.mk (blk_below HX.out hb)
  have n2_ := Aside0.mk (Kd.C_below HC2.out hb)
  clear HB HX HC2
  have HB := n0_
  have HX := n1_
  have HC2 := n2_
  clear n0_ n1_ n2_
  clear hb
  obtain ⟨w6, hw6, hB6, hs6, X6⟩ := boxed1 w5 (.int .i64 0) (.int .i64 0) (.int .i64 0) (.int .i64 0) (.int .i64 0) (.int .i64 0) (.slice none 0 0) (.slice none 0 0)
  obtain ⟨⟨q0, q1, q2, q3, q4, q5, q6, q7⟩, ⟨p0, p1, p2, p3, p4, p5, p6, p7⟩⟩ := cells8 X6
  have HB6 := Aside0.mk hB6
  have HX6 := Aside0.mk X6
  clear hB6 X6
  go_upto_region 7 with fail
  clear q0 q1 q2 q3 q4 q5 q6 q7 p0 p1 p2 p3 p4 p5 p6 p7
  obtain ⟨w7, hw7, X7, hmv⟩ := box8 HX6.out (.int .i64 r1) (.int .i64 r2) (.int .i64 r3) (.int .i64 r4) (.int .i64 r5) (.int .i64 r6) (.slice B6 r7.length d6) (.slice B7 r8.length d7)
  rw [hw7]
  clear hw7 hw6
  have hB7 : Below w5.heap.size w5 w7 := Mv.to HB6.out hmv (fun k hk => by omega) HB6.out.size
  clear X7 HX6 HB6 hmv hs6
  have n0_ := Aside0.mk (below_step HB.out hB7)
  have n1_ := Aside0.mk (blk_below HX.out hB7)
  have n2_ := Aside0.mk (Kd.C_below HC2.out hB7)
  clear HB HX HC2
  have HB := n0_
  have HX := n1_
  have HC2 := n2_
  clear n0_ n1_ n2_
  clear hB7 w6
  generalize w5.heap.size = b5 at *
  obtain ⟨ll, hll⟩ : ∃ ll, ([] : List Int) ++ bb ++ [more] = ll := ⟨_, rfl⟩
  have HEL := Lib.hid hll
  clear hll
  have hbs := build0w
  have hT2 : item_Take.f ll = some (tell9 (takeItem ll)) := if_pos (okL_by (by rw [← HEL.out, List.nil_append, ← HBB.out]; exact (by_bytes k s e i t c L HBO.out).append (fun x hx => by rw [List.mem_singleton.1 hx]; exact HMORE.out)) (by rw [← HEL.out]; have := HLN.out; simp; omega))
  obtain ⟨⟨s1, s2, s3, s4, s5, s6, s7, s8, cf⟩, hr⟩ : ∃ p, tell9 (takeItem ll) = p := ⟨_, rfl⟩
  have HCF := Lib.hid (show codeOf ll = cf by unfold codeOf; rw [hr])
  rw [hr] at hT2
  have HT2 := Lib.hid hT2
  clear hT2 hr
  go_wp2_with (first | ((with_reducible refine gate_builtin (b := .append) (xs := #[.tmp 41, .tmp 42]) rfl ?_); at_builtin; refine ap8 (w0 := w7) (b := w7.heap.size) (xs := []) (ys := bb) rfl rfl rfl rfl (O8.lit (blk_new w7 _) (Nat.le_refl _) [] (by simp) rfl) (Kd.C_below HC2.out (below_alloc (Below.refl _ _) _)) (below_alloc (Below.refl _ _) _) (below_alloc (Below.refl _ _) _).size (by have := HLN.out; simp; omega) ?_; intro v18 w8 ho hb; have HO6 := Aside0.mk ho; have HB6 := Aside0.mk hb; clear ho hb) | ((with_reducible refine gate_builtin (b := .append) (xs := #[.tmp 43, .tmp 45]) rfl ?_); at_builtin; refine ap8 (w0 := w7) (b := w7.heap.size) (ys := [more]) rfl rfl rfl rfl (O8.below HO6.out (below_alloc (Below.refl _ _) _)) (Kd.C_lit8 (blk_new w8 _) [more] (by simp) rfl) (below_alloc HB6.out _) (below_alloc HB6.out _).size (by have := HLN.out; simp; omega) ?_; intro v20 w9 ho hb; rw [HEL.out] at ho; have HO7 := Aside0.mk ho; have HB7 := Aside0.mk hb; clear ho hb HO6 HB6; obtain ⟨A8, c8, rfl, hl8, hC8⟩ := O8.reads HO7.out; have HC8 := Aside0.mk hC8; have HL8 := Lib.hid hl8; clear hl8 hC8) | fail)
  have n0_ := Aside0.mk (below_step HB.out HB7.out)
  have n1_ := Aside0.mk (blk_below HX.out HB7.out)
  clear HB HX
  have HB := n0_
  have HX := n1_
  clear n0_ n1_
  refine (show Calls Tryd.prog 11 #[.slice A8 ll.length c8] w9 _ from item_Take.calls A8 c8 ll _ _ _ _ _ _ _ _ _ w9 HC8.out HL8.out (GB.below HG.out HB.out) HT2.out).mono ?_
  rintro e_ wa ⟨v8, v9, rfl, h6, h7, hb⟩
  obtain ⟨B8, d8, rfl⟩ := Kd.R_slice h6
  obtain ⟨B9, d9, rfl⟩ := Kd.R_slice h7
  have n0_ := Aside0.mk (below_step HB.out hb)
  have n1_ := Aside0.mk (blk_below HX.out hb)
  clear HB HX
  have HB := n0_
  have HX := n1_
  clear n0_ n1_
  clear h6 h7 hb HO7 HB7 HC8 HL8 HT2 HC2 hbs
  obtain ⟨wb, hwb, hBb, hsb, Xb⟩ := boxed1 wa (.int .i64 0) (.int .i64 0) (.int .i64 0) (.int .i64 0) (.int .i64 0) (.int .i64 0) (.slice none 0 0) (.slice none 0 0)
  obtain ⟨⟨q0, q1, q2, q3, q4, q5, q6, q7⟩, ⟨p0, p1, p2, p3, p4, p5, p6, p7⟩⟩ := cells8 Xb
  have HBb := Aside0.mk hBb
  have HXb := Aside0.mk Xb
  clear hBb Xb
  go_upto_region 8 with fail
  clear q0 q1 q2 q3 q4 q5 q6 q7 p0 p1 p2 p3 p4 p5 p6 p7
  obtain ⟨wc, hwc, Xc, hmv⟩ := box8 HXb.out (.int .i64 s1) (.int .i64 s2) (.int .i64 s3) (.int .i64 s4) (.int .i64 s5) (.int .i64 s6) (.slice B8 s7.length d8) (.slice B9 s8.length d9)
  rw [hwc]
  clear hwc hwb
  have hBc : Below wa.heap.size wa wc := Mv.to HBb.out hmv (fun k hk => by omega) HBb.out.size
  clear Xc HXb HBb hmv hsb
  have n0_ := Aside0.mk (below_step HB.out hBc)
  have n1_ := Aside0.mk (blk_below HX.out hBc)
  clear HB HX
  have HB := n0_
  have HX := n1_
  clear n0_ n1_
  clear hBc wb
  have hF := HF.out
  rw [HL1.out, HCE.out, show bb ++ [more] = ll from HEL.out, HCF.out] at hF
  obtain ⟨f1, f2, f3⟩ := hF
  have hK := (mayB_head HMY.out).1
  have hln := HLN.out
  have hqn := HQ.out
  clear HF HL1 HCE HEL HCF HMY HBB HBO HCUT HMORE HK HFW HG HLN HQ H6 H7 HC6 HC7 HL2
  generalize bb.length = n at *
  obtain ⟨⟨q0, q1, q2, q3, q4, q5, q6, q7⟩, ⟨p0, p1, p2, p3, p4, p5, p6, p7⟩⟩ := cells8 HX.out
  have hlen : decide ((n : Int) < 17) = false := decide_eq_false (by omega)
  have hlen' : decide (n < 17) = false := decide_eq_false (by omega)
  have hwq : wrap64 ((q : Int) - 17) = (q : Int) - 17 := wrap_id (by omega) (by omega)
  have kk : k = 1 ∨ k = 2 ∨ k = 3 ∨ k = 4 ∨ k = 5 ∨ k = 6 := by omega
  clear hK
  by_cases hq17 : q < 17
  · obtain rfl := f1 hq17
    have hd : decide ((q : Int) < 17) = true := decide_eq_true (by omega)
    have hd' : decide (q < 17) = true := decide_eq_true hq17
    rcases kk with rfl | rfl | rfl | rfl | rfl | rfl
    · clear f1 hq17 hqn hln
      clear f2 f3
      go_wp2_with fail
      go_ret
      exact ⟨rfl, HB.out⟩
    · clear f1 hq17 hqn hln
      clear f2 f3
      go_wp2_with fail
      go_ret
      exact ⟨rfl, HB.out⟩
    · clear f1 hq17 hqn hln
      obtain rfl := (f2 (by decide)).1
      clear f2 f3
      obtain ⟨xl, hxl⟩ : ∃ b, decide ((q : Int) < (n : Int)) = b := ⟨_, rfl⟩
      have hxl' : decide (q < n) = xl := by rw [← hxl]; exact decide_eq_decide.2 (by omega)
      cases xl
      · go_wp2_with fail
        go_ret
        exact ⟨rfl, HB.out⟩
      · go_wp2_with fail
        go_ret
        exact ⟨rfl, HB.out⟩
    · clear f1 hq17 hqn hln
      obtain rfl := (f2 (by decide)).1
      clear f2 f3
      obtain ⟨xl, hxl⟩ : ∃ b, decide ((q : Int) < (n : Int)) = b := ⟨_, rfl⟩
      have hxl' : decide (q < n) = xl := by rw [← hxl]; exact decide_eq_decide.2 (by omega)
      cases xl
      · go_wp2_with fail
        go_ret
        exact ⟨rfl, HB.out⟩
      · go_wp2_with fail
        go_ret
        exact ⟨rfl, HB.out⟩
    · clear f1 hq17 hqn hln
      obtain rfl := (f2 (by decide)).1
      clear f2 f3
      obtain ⟨xl, hxl⟩ : ∃ b, decide ((q : Int) < (n : Int)) = b := ⟨_, rfl⟩
      have hxl' : decide (q < n) = xl := by rw [← hxl]; exact decide_eq_decide.2 (by omega)
      cases xl
      · go_wp2_with fail
        go_ret
        exact ⟨rfl, HB.out⟩
      · go_wp2_with fail
        go_ret
        exact ⟨rfl, HB.out⟩
    · clear f1 hq17 hqn hln
      obtain rfl := (f3 rfl).1
      clear f2 f3
      obtain ⟨xm, hxm⟩ : ∃ b, (Int.tmod ((q : Int) - 17) 8 == 0) = b := ⟨_, rfl⟩
      cases xm
      · go_wp2_with fail
        go_ret
        exact ⟨rfl, HB.out⟩
      · go_wp2_with fail
        go_ret
        exact ⟨rfl, HB.out⟩
  · have hd : decide ((q : Int) < 17) = false := decide_eq_false (by omega)
    have hd' : decide (q < 17) = false := decide_eq_false hq17
    rcases kk with rfl | rfl | rfl | rfl | rfl | rfl
    · clear f1 hq17 hqn hln f2 f3
      go_wp2_with fail
      go_ret
      exact ⟨rfl, HB.out⟩
    · clear f1 hq17 hqn hln f2 f3
      go_wp2_with fail
      go_ret
      exact ⟨rfl, HB.out⟩
    · obtain ⟨rfl, g2⟩ := f2 (by decide)
      by_cases hxl : q < n
      · obtain rfl := g2 hxl
        have a1 : decide ((q : Int) < (n : Int)) = true := decide_eq_true (by omega)
        have a2 : decide (q < n) = true := decide_eq_true hxl
        clear f1 hq17 hqn hln f2 f3
        go_wp2_with fail
        go_ret
        exact ⟨rfl, HB.out⟩
      · have a1 : decide ((q : Int) < (n : Int)) = false := decide_eq_false (by omega)
        have a2 : decide (q < n) = false := decide_eq_false hxl
        clear f1 hq17 hqn hln f2 f3
        go_wp2_with fail
        go_ret
        exact ⟨rfl, HB.out⟩
    · obtain ⟨rfl, g2⟩ := f2 (by decide)
      by_cases hxl : q < n
      · obtain rfl := g2 hxl
        have a1 : decide ((q : Int) < (n : Int)) = true := decide_eq_true (by omega)
        have a2 : decide (q < n) = true := decide_eq_true hxl
        clear f1 hq17 hqn hln f2 f3
        go_wp2_with fail
        go_ret
        exact ⟨rfl, HB.out⟩
      · have a1 : decide ((q : Int) < (n : Int)) = false := decide_eq_false (by omega)
        have a2 : decide (q < n) = false := decide_eq_false hxl
        clear f1 hq17 hqn hln f2 f3
        go_wp2_with fail
        go_ret
        exact ⟨rfl, HB.out⟩
    · obtain ⟨rfl, g2⟩ := f2 (by decide)
      by_cases hxl : q < n
      · obtain rfl := g2 hxl
        have a1 : decide ((q : Int) < (n : Int)) = true := decide_eq_true (by omega)
        have a2 : decide (q < n) = true := decide_eq_true hxl
        clear f1 hq17 hqn hln f2 f3
        go_wp2_with fail
        go_ret
        exact ⟨rfl, HB.out⟩
      · have a1 : decide ((q : Int) < (n : Int)) = false := decide_eq_false (by omega)
        have a2 : decide (q < n) = false := decide_eq_false hxl
        clear f1 hq17 hqn hln f2 f3
        go_wp2_with fail
        go_ret
        exact ⟨rfl, HB.out⟩
    · obtain ⟨rfl, g3⟩ := f3 rfl
      by_cases hxm : (q - 17) % 8 = 0
      · have a1 : Int.tmod ((q : Int) - 17) 8 = 0 := by rw [Int.tmod_eq_emod_of_nonneg (by omega)]; omega
        clear f1 hq17 hqn hln f2 f3
        go_wp2_with fail
        go_ret
        exact ⟨rfl, HB.out⟩
      · obtain rfl : ce = 2 := by rcases g3 with h | h | h
                                  · omega
                                  · exact absurd h hxm
                                  · exact h
        have a1 : (Int.tmod ((q : Int) - 17) 8 == 0) = false := beq_eq_false_iff_ne.2 (by rw [Int.tmod_eq_emod_of_nonneg (by omega)]; omega)
        have a2 : ¬ Int.tmod ((q : Int) - 17) 8 = 0 := by rw [Int.tmod_eq_emod_of_nonneg (by omega)]; omega
        clear f1 hq17 hqn hln f2 f3
        go_wp2_with fail
        go_ret
        exact ⟨rfl, HB.out⟩
theorem precentorlaw03_ItemCut.calls (k s e i t c : Int) (A6 : Option Addr) (c6 : Nat) (L : List Int) (A7 : Option Addr) (c7 : Nat) (bo : List Int) (cut more : Int) (r : Bool) (w : World) (hr6 : Kd.C (Kd.int .i64) w A6 L.length L) (hc6 : L.length ≤ c6) (hr7 : Kd.C (Kd.int .u8) w A7 bo.length bo) (hc7 : bo.length ≤ c7) (hG : GB w)
    (h : precentorlaw03_ItemCut.f k s e i t c L bo cut more = some r) :
    Calls Tryd.prog 6 #[.agg #[.int .i64 k, .int .i64 s, .int .i64 e, .int .i64 i, .int .i64 t, .int .i64 c, .slice A6 L.length c6, .slice A7 bo.length c7], .int .u16 cut, .int .u8 more] w fun e' w' => e' = .returned (.bool r) ∧ Below w.heap.size w w' := by
  unfold precentorlaw03_ItemCut.f at h
  split at h
  · rename_i hc
    obtain rfl := Option.some.inj h
    exact precentorlaw03_ItemCut.is k s e i t c A6 c6 L A7 c7 bo cut more w hr6 hc6 hr7 hc7 hG hc.1 hc.2.1 hc.2.2.1 hc.2.2.2
  · cases h

end Go.Proofs.YtocoikndkmdnkaaDoor.Print
