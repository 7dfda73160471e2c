/- The law of bursts as a Lean function, and that its call does just that. Condition: the arguments read as they are told. -/
import Derived.Test.YtpfoomdajgdbeaaShown
namespace Go.Proofs.Ytpfoomdajgdbeaa.Print
set_option linter.unusedVariables false
set_option linter.unusedSimpArgs false
open Go.RowKit Go.Proofs.YtpfoomdajgdbeaaW.PrintWords Go.Proofs.YtpfoomdajgdbeaaW.PrintLast Go.Proofs.YtpfoomdajgdbeaaW.PrintMore Go.Proofs.Ytpfoomdajgdbeaa.Crc
def precentorlaw01_CrcBurst.f (l0 : List Int) (a1 b0 b1 b2 b3 : Int) : Option Bool :=
  if 2000 < l0.length then some true else (crc_Seal.f l0).bind fun s => (crc_Spoil.f s a1 [b0, b1, b2, b3]).bind fun t =>
    if (strOfNums s).toList = (strOfNums t).toList then (if a1 < 0 then some true else if (s.length : Int) ≤ a1 then some true else if b0 = 0 then some true else none)
    else (crc_Open.f t).bind fun o => if t.length = s.length then (if o.2 = 3 then some true else none) else none
theorem precentorlaw01_CrcBurst.calls (A0 : Option Addr) (c0 : Nat) (l0 : List Int) (a1 b0 b1 b2 b3 : Int) (r : Bool) (w : World) (hr0 : Kd.C (Kd.int .u8) w A0 l0.length l0) (hc0 : l0.length ≤ c0) (h : precentorlaw01_CrcBurst.f l0 a1 b0 b1 b2 b3 = some r) :
    Calls Try.prog 5 #[.slice A0 l0.length c0, .int .i64 a1, .agg #[.int .u8 b0, .int .u8 b1, .int .u8 b2, .int .u8 b3]] w fun e w' => e = .returned (.bool r) ∧ Below w.heap.size w w' := by
  unfold precentorlaw01_CrcBurst.f at h
  have HR0 := Aside0.mk hr0
  have HSH := Aside0.mk (show precentorlaw01_shown.f = some true from rfl)
  by_cases h1 : 2000 < l0.length
  · rw [if_pos h1] at h
    obtain rfl := Option.some.inj h
    have hd : decide ((2000 : Int) < (l0.length : Int)) = true := decide_eq_true (by omega)
    have hd' : decide (2000 < l0.length) = true := decide_eq_true (by omega)
    clear hr0 h
    go_enter Try.func5, Try.ntmps5
    go_wp2_with fail
    refine (precentorlaw01_shown.calls true _ HSH.out).mono ?_
    rintro e w1 ⟨rfl, hb⟩
    have HB := Aside0.mk (below_step (below_alloc (Below.refl w.heap.size w) _) hb)
    clear hb
    go_wp2_with fail
    go_ret
    exact ⟨rfl, HB.out⟩
  · rw [if_neg h1] at h
    obtain ⟨s, hs, h⟩ := Option.bind_eq_some_iff.1 h
    obtain ⟨t, ht, h⟩ := Option.bind_eq_some_iff.1 h
    have hd : decide ((2000 : Int) < (l0.length : Int)) = false := decide_eq_false (by omega)
    have hd' : decide (2000 < l0.length) = false := decide_eq_false (by omega)
    have HS := Aside0.mk hs
    have HT := Aside0.mk ht
    have HH := Aside0.mk h
    have HC0 := Aside0.mk hc0
    clear hr0 h hs ht h1 hc0
    go_enter Try.func5, Try.ntmps5
    go_wp2_with fail
    have hl := lit_C w [b0, b1, b2, b3] #[.int .u8 b0, .int .u8 b1, .int .u8 b2, .int .u8 b3] rfl 4 rfl (by decide) 35 (0, 0)
    refine (precentorlaw01_shown.calls true _ HSH.out).mono ?_
    rintro e w1 ⟨rfl, hb⟩
    have hc4 := Kd.C_below hl hb
    have hcb : w1.cell? ⟨w.heap.size, 0, none⟩ = some (.int .u8 b0) := (hb.cell (by simp)).trans (by simp [go_sem])
    have HB := Aside0.mk (below_step (below_alloc (Below.refl w.heap.size w) _) hb)
    have HL := Aside0.mk hc4
    have HCB := Aside0.mk hcb
    clear hb hl hc4 hcb
    go_wp2_with fail
    refine (crc_Seal.calls A0 c0 l0 s _ (Kd.C_below HR0.out HB.out) HC0.out HS.out).mono ?_
    rintro e w2 ⟨v1, rfl, ho, hb⟩
    obtain ⟨A1, c1, rfl, hc1, hC1⟩ := Kd.R_reads ho
    have n0_ := Aside0.mk (below_step HB.out hb)
    have n1_ := Aside0.mk (Kd.C_below HL.out hb)
    have n2_ := Aside0.mk ((hb.cell (World.block_lt_of_cell? _ _ HCB.out)).trans HCB.out)
    clear HB HL HCB ho hb
    have HB := n0_
    have HL := n1_
    have HCB := n2_
    clear n0_ n1_ n2_
    have HC1 := Aside0.mk hC1
    have Hc1 := Aside0.mk hc1
    clear hC1 hc1
    go_wp2_with fail
    refine (crc_Spoil.calls (fun k => k < w2.heap.size) A1 c1 s a1 (some ⟨w.heap.size, 0, none⟩) 4 [b0, b1, b2, b3] _ _ (Kd.V_mk Hc1.out (Kd.C_F (Kd.heap_int .u8) HC1.out)) HL.out (Nat.le_refl _) HT.out).mono ?_
    rintro e w3 ⟨v2, rfl, ho, hb⟩
    obtain ⟨A2, c2, rfl, hc2, hF2⟩ := ho
    have hC2 := Kd.F_now hF2
    have hC1' := Kd.C_below HC1.out hb
    have n0_ := Aside0.mk (below_step HB.out hb)
    have n2_ := Aside0.mk ((hb.cell (World.block_lt_of_cell? _ _ HCB.out)).trans HCB.out)
    clear HB HL HCB hb hF2
    have HB := n0_
    have HCB := n2_
    clear n0_ n2_
    have hst1 := Kd.C_string (P := Try.prog) (A := A1) (c := c1) Try.underlying22 Try.underlying5 Try.underlying9 hC1'
    have hst2 := Kd.C_string (P := Try.prog) (A := A2) (c := c2) Try.underlying22 Try.underlying5 Try.underlying9 hC2
    have HC2 := Aside0.mk hC2
    have Hc2 := Aside0.mk hc2
    clear hC2 hc2 hC1' HC1 Hc1
    have h := HH.out
    clear HH
    by_cases he : (strOfNums s).toList = (strOfNums t).toList
    · rw [if_pos he] at h
      have q1 : ((strOfNums s).toList == (strOfNums t).toList) = true := by rw [he]; exact beq_self_eq_true _
      clear he
      by_cases ha : a1 < 0
      · rw [if_pos ha] at h
        obtain rfl := Option.some.inj h
        have q2 : decide (a1 < 0) = true := decide_eq_true ha
        clear h ha
        go_wp2_with fail
        go_ret
        exact ⟨rfl, HB.out⟩
      · rw [if_neg ha] at h
        have q2 : decide (a1 < 0) = false := decide_eq_false ha
        clear ha
        by_cases hg : (s.length : Int) ≤ a1
        · rw [if_pos hg] at h
          obtain rfl := Option.some.inj h
          have q3 : decide ((s.length : Int) ≤ a1) = true := decide_eq_true hg
          clear h hg
          go_wp2_with fail
          go_ret
          exact ⟨rfl, HB.out⟩
        · rw [if_neg hg] at h
          have q3 : decide ((s.length : Int) ≤ a1) = false := decide_eq_false hg
          clear hg
          by_cases h0 : b0 = 0
          · rw [if_pos h0] at h
            obtain rfl := Option.some.inj h
            have q4 : (b0 == 0) = true := by rw [h0]; rfl
            have hcb := HCB.out
            clear h h0
            go_wp2_with fail
            go_ret
            exact ⟨rfl, HB.out⟩
          · rw [if_neg h0] at h
            cases h
    · rw [if_neg he] at h
      have q1 : ((strOfNums s).toList == (strOfNums t).toList) = false := beq_eq_false_iff_ne.2 he
      clear he
      obtain ⟨⟨o1, o2⟩, ho, h⟩ := Option.bind_eq_some_iff.1 h
      have HO := Aside0.mk ho
      clear ho
      by_cases hl : t.length = s.length
      · rw [if_pos hl] at h
        by_cases h3 : o2 = 3
        · subst h3
          rw [if_pos rfl] at h
          obtain rfl := Option.some.inj h
          have q2 : ((t.length : Int) == (s.length : Int)) = true := by rw [hl]; exact beq_self_eq_true _
          have q3 : (t.length == s.length) = true := by rw [hl]; exact beq_self_eq_true _
          clear h hl
          go_wp2_with fail
          refine (crc_Open.calls A2 c2 t _ _ _ HC2.out Hc2.out HO.out).mono ?_
          rintro e w4 ⟨v3, rfl, ho, hb⟩
          have n0_ := Aside0.mk (below_step HB.out hb)
          clear HB hb ho
          have HB := n0_
          clear n0_ hst1 hst2
          go_wp2_with fail
          go_ret
          exact ⟨rfl, HB.out⟩
        · rw [if_neg h3] at h
          cases h
      · rw [if_neg hl] at h
        cases h
end Go.Proofs.Ytpfoomdajgdbeaa.Print
