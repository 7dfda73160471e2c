/- An item's bytes by the document: the same Lean function as the program's, and that each call does just that. Conditions stand in each theorem. -/
import Derived.Test.YtieolhhokepkjaaDoorHand5
import Derived.Test.YtieolhhokepkjaaDoorHandS
import Derived.Test.YtieolhhokepkjaaDoorHand8
namespace Go.Proofs.YtieolhhokepkjaaDoor.Print
set_option linter.unusedVariables false
set_option linter.unusedSimpArgs false
open Go.RowKit Go.Proofs.YtieolhhokepkjaaDoorW.PrintWords Go.Proofs.YtieolhhokepkjaaDoorW.PrintLast Go.Proofs.YtieolhhokepkjaaDoorW.PrintMore Go.Proofs.YtieolhhokepkjaaDoor.NumPlain
theorem in_loop (hi : Int) (b : List Int) : ∀ (k : Nat) (a : List Int), a.length + b.length < 100000 → b.length < k → precentorref03_in.l0 k (a ++ b) hi a.length = some (each b hi) := by
 induction b with
 | nil =>
  intro k a h3 hk
  obtain ⟨k, rfl⟩ : ∃ q, k = q + 1 := ⟨k - 1, by omega⟩
  simp only [precentorref03_in.l0]
  rw [if_neg (by simp)]; rfl
 | cons x b ih =>
  intro k a h3 hk
  simp only [List.length_cons] at h3 hk
  obtain ⟨k, rfl⟩ : ∃ q, k = q + 1 := ⟨k - 1, by omega⟩
  simp only [precentorref03_in.l0]
  rw [if_pos (by simp; omega), if_pos (by omega), rd_mid, wrap_id (by omega) (by omega)]
  by_cases h1 : x < 0
  ·
   rw [if_pos h1]; simp only [each, List.all_cons, wi]; rw [decide_eq_false (by omega)]; rfl
  ·
   rw [if_neg h1]
   by_cases h2 : x > hi
   ·
    rw [if_pos h2]; simp only [each, List.all_cons, wi]; rw [decide_eq_false (by omega)]; rfl
   ·
    rw [if_neg h2]
    have := ih k (a ++ [x]) (by simp; omega) (by omega)
    rw [List.append_assoc, List.singleton_append, show ((a ++ [x]).length : Int) = (a.length : Int) + 1 by simp] at this
    rw [this]; simp only [each, List.all_cons, wi]; rw [decide_eq_true (by omega)]; rfl
theorem in_is {l : List Int} (hi : Int) (hl : l.length < 10000) : precentorref03_in.f 10000 l hi = some (each l hi) := by
 have := in_loop hi l 10000 [] (by simp; omega) (by omega)
 simpa [precentorref03_in.f] using this
def rmay1 (i t c : Int) (L bo : List Int) : Bool := decide (1 ≤ t) && (decide (t ≤ 32) && (decide (0 ≤ i) && (decide (i < t) && (decide (c = 0) && (decide (L.length = 0) && (decide (bo.length ≤ 1024)))))))
def rmay2 (i t c : Int) (L bo : List Int) : Bool := each L 63 && (decide (0 ≤ i) && (decide (i ≤ 1) && (decide (t = 0) && (decide (c = 0) && (decide (bo.length = 0) && (decide (1 ≤ L.length) && (decide (L.length ≤ 64))))))))
def rmay3 (i t c : Int) (L bo : List Int) : Bool := (decide (L.length = 0) && decide (bo.length = 0)) && (decide (i = 0) && (decide (t = 0) && (decide (c = 0))))
def rmay4 (i t c : Int) (L bo : List Int) : Bool := (decide (L.length = 0) && decide (bo.length = 0)) && (decide (0 ≤ i) && (decide (i ≤ 1) && (decide (t = 0) && (decide (c = 0)))))
def rmay5 (i t c : Int) (L bo : List Int) : Bool := (decide (L.length = 0) && decide (bo.length = 0)) && (decide (i = 0) && (decide (t = 0) && (decide (0 ≤ c) && (decide (c ≤ 4611686018427387904)))))
def rmay6 (i t c : Int) (L bo : List Int) : Bool := each L 4611686018427387904 && (decide (i = 0) && (decide (t = 0) && (decide (c = 0) && (decide (bo.length = 0) && (decide (2 ≤ L.length) && (decide (L.length ≤ 64)))))))
def rmayK (k i t c : Int) (L bo : List Int) : Bool :=
 if k = 1 then rmay1 i t c L bo else if k = 2 then rmay2 i t c L bo else if k = 3 then rmay3 i t c L bo else if k = 4 then rmay4 i t c L bo else if k = 5 then rmay5 i t c L bo else if k = 6 then rmay6 i t c L bo else false
theorem rmay1_is (i t c : Int) (L bo : List Int) : may1B i t c L bo.length = rmay1 i t c L bo := by
 unfold may1B rmay1 wi
 rw [Bool.eq_iff_iff]
 simp only [Bool.and_eq_true, Bool.or_eq_true, decide_eq_true_eq, Bool.false_eq_true, Bool.true_eq_false, false_or, true_or, true_and, and_true, false_and, and_false]
 omega
theorem rmay2_is (i t c : Int) (L bo : List Int) : may2B i t c L bo.length = rmay2 i t c L bo := by
 unfold may2B rmay2 wi
 rw [Bool.eq_iff_iff]
 generalize each L 63 = z
 cases z <;> simp only [Bool.and_eq_true, Bool.or_eq_true, decide_eq_true_eq, Bool.false_eq_true, Bool.true_eq_false, false_or, true_or, true_and, and_true, false_and, and_false] <;> omega
theorem rmay3_is (i t c : Int) (L bo : List Int) : may3B i t c L bo.length = rmay3 i t c L bo := by
 unfold may3B rmay3
 rw [Bool.eq_iff_iff]
 simp only [Bool.and_eq_true, Bool.or_eq_true, decide_eq_true_eq, Bool.false_eq_true, Bool.true_eq_false, false_or, true_or, true_and, and_true, false_and, and_false]
 omega
theorem rmay4_is (i t c : Int) (L bo : List Int) : may4B i t c L bo.length = rmay4 i t c L bo := by
 unfold may4B rmay4 wi
 rw [Bool.eq_iff_iff]
 simp only [Bool.and_eq_true, Bool.or_eq_true, decide_eq_true_eq, Bool.false_eq_true, Bool.true_eq_false, false_or, true_or, true_and, and_true, false_and, and_false]
 omega
theorem rmay5_is (i t c : Int) (L bo : List Int) : may5B i t c L bo.length = rmay5 i t c L bo := by
 unfold may5B rmay5 wi
 rw [Bool.eq_iff_iff]
 simp only [Bool.and_eq_true, Bool.or_eq_true, decide_eq_true_eq, Bool.false_eq_true, Bool.true_eq_false, false_or, true_or, true_and, and_true, false_and, and_false]
 omega
theorem rmay6_is (i t c : Int) (L bo : List Int) : may6B i t c L bo.length = rmay6 i t c L bo := by
 unfold may6B rmay6 wi
 rw [Bool.eq_iff_iff]
 generalize each L 4611686018427387904 = z
 cases z <;> simp only [Bool.and_eq_true, Bool.or_eq_true, decide_eq_true_eq, Bool.false_eq_true, Bool.true_eq_false, false_or, true_or, true_and, and_true, false_and, and_false] <;> omega
theorem rmayK_is (k i t c : Int) (L bo : List Int) : mayK k i t c L bo.length = rmayK k i t c L bo := by
 unfold mayK rmayK
 rw [rmay1_is, rmay2_is, rmay3_is, rmay4_is, rmay5_is, rmay6_is]
theorem rmayB_is (k s e i t c : Int) (L bo : List Int) : mayB k s e i t c L bo.length = (decide (1 ≤ s) && (decide (s ≤ 4611686018427387904) && (decide (0 ≤ e) && (decide (e ≤ 4611686018427387904) && rmayK k i t c L bo)))) := by
 unfold mayB wi
 rw [rmayK_is]
 generalize rmayK k i t c L bo = z
 rw [Bool.eq_iff_iff]
 cases z <;> simp only [Bool.and_eq_true, decide_eq_true_eq, Bool.false_eq_true, true_and, and_true, false_and, and_false] <;> omega
set_option maxRecDepth 100000 in
set_option maxHeartbeats 4000000 in
theorem precentorref03_May.is (k s e i t c : Int) (A6 : Option Addr) (c6 : Nat) (L : List Int) (A7 : Option Addr) (c7 : Nat) (bo : List Int) (w : World) (h6 : Kd.C (Kd.int .i64) w A6 L.length L) (l6 : L.length ≤ c6) (hL : L.length < 10000) (q : Bool) (hq : mayB k s e i t c L bo.length = q) :
  Calls Tryd.prog 33 #[.agg #[.int .i64 k, .int .i64 s, .int .i64 e, .int .i64 i, .int .i64 t, .int .i64 c, .slice A6 L.length c6, .slice A7 bo.length c7]] w fun e w' => e = .returned (.bool q) ∧ Below w.heap.size w w' := by
 rw [rmayB_is] at hq
 obtain ⟨w0, hw0, hB0, _, X0⟩ := boxed1 w (.int .i64 k) (.int .i64 s) (.int .i64 e) (.int .i64 i) (.int .i64 t) (.int .i64 c) (.slice A6 L.length c6) (.slice A7 bo.length c7)
 obtain ⟨⟨q0, q1, q2, q3, q4, q5, q6, q7⟩, _⟩ := cells8 X0
 have HB0 := ak hB0
 have HIN := Lib.hid (fun hi r h => precentorref03_in.calls 10000 A6 c6 L hi r w0 (Kd.C_below h6 hB0) l6 h)
 have HL := Lib.hid hL
 clear X0 hB0 h6 l6 hL
 by_cases h0 : 1 ≤ s
 ·
  rw [decide_eq_true h0, Bool.true_and] at hq
  have u0_0 : decide (s < 1) = false := decide_eq_false (by omega)
  by_cases h1 : s ≤ 4611686018427387904
  ·
   rw [decide_eq_true h1, Bool.true_and] at hq
   have u1_0 : decide (s > 4611686018427387904) = false := decide_eq_false (by omega)
   have u1_1 : decide (4611686018427387904 < s) = false := decide_eq_false (by omega)
   by_cases h2 : 0 ≤ e
   ·
    rw [decide_eq_true h2, Bool.true_and] at hq
    have u2_0 : decide (e < 0) = false := decide_eq_false (by omega)
    by_cases h3 : e ≤ 4611686018427387904
    ·
     rw [decide_eq_true h3, Bool.true_and] at hq
     have u3_0 : decide (e > 4611686018427387904) = false := decide_eq_false (by omega)
     have u3_1 : decide (4611686018427387904 < e) = false := decide_eq_false (by omega)
     go_enter Tryd.func33, Tryd.ntmps33
     go_upto_region 3 with fail
     go_cut [3] (fun v3 wc => v3 = Value.bool (decide (L.length = 0) && decide (bo.length = 0)) ∧ wc = w0)
     case first =>
      by_cases hx : L.length = 0
      ·
       by_cases hy : bo.length = 0
       ·
        have HX := Lib.hid hx
        have HY := Lib.hid hy
        have a1 : ((L.length : Int) == 0) = true := by rw [hx]; rfl
        have b1 : (L.length == 0) = true := by rw [hx]; rfl
        have a2 : ((bo.length : Int) == 0) = true := by rw [hy]; rfl
        have b2 : (bo.length == 0) = true := by rw [hy]; rfl
        clear hx hy
        go_wp2_with fail
        go_meet
        case rel => exact ⟨by rw [decide_eq_true HX.out, decide_eq_true HY.out]; rfl, rfl⟩
       ·
        have HX := Lib.hid hx
        have HY := Lib.hid hy
        have a1 : ((L.length : Int) == 0) = true := by rw [hx]; rfl
        have b1 : (L.length == 0) = true := by rw [hx]; rfl
        have a2 : ((bo.length : Int) == 0) = false := beq_eq_false_iff_ne.2 (by omega)
        have b2 : (bo.length == 0) = false := beq_eq_false_iff_ne.2 hy
        clear hx hy
        go_wp2_with fail
        go_meet
        case rel => exact ⟨by rw [decide_eq_true HX.out, decide_eq_false HY.out]; rfl, rfl⟩
      ·
       have HX := Lib.hid hx
       have a1 : ((L.length : Int) == 0) = false := beq_eq_false_iff_ne.2 (by omega)
       have b1 : (L.length == 0) = false := beq_eq_false_iff_ne.2 hx
       clear hx
       go_wp2_with fail
       go_meet
       case rel => exact ⟨by rw [decide_eq_false HX.out, Bool.false_and], rfl⟩
     case rest =>
      obtain ⟨rfl, rfl⟩ := hcut
      clear h0 h1 h2 h3
      rcases (show k = 1 ∨ k = 2 ∨ k = 3 ∨ k = 4 ∨ k = 5 ∨ k = 6 ∨ ¬ (1 ≤ k ∧ k ≤ 6) by omega) with rfl | rfl | rfl | rfl | rfl | rfl | hk
      ·
       rw [show rmayK 1 i t c L bo = rmay1 i t c L bo from rfl] at hq
       unfold rmay1 at hq
       by_cases h0 : 1 ≤ t
       ·
        rw [decide_eq_true h0, Bool.true_and] at hq
        have a0 : decide (t ≥ 1) = true := decide_eq_true (by omega)
        have b0 : decide (1 ≤ t) = true := decide_eq_true (by omega)
        by_cases h1 : t ≤ 32
        ·
         rw [decide_eq_true h1, Bool.true_and] at hq
         have a1 : decide (t ≤ 32) = true := decide_eq_true (by omega)
         by_cases h2 : 0 ≤ i
         ·
          rw [decide_eq_true h2, Bool.true_and] at hq
          have a2 : decide (i ≥ 0) = true := decide_eq_true (by omega)
          have b2 : decide (0 ≤ i) = true := decide_eq_true (by omega)
          by_cases h3 : i < t
          ·
           rw [decide_eq_true h3, Bool.true_and] at hq
           have a3 : decide (i < t) = true := decide_eq_true (by omega)
           by_cases h4 : c = 0
           ·
            rw [decide_eq_true h4, Bool.true_and] at hq
            subst h4
            by_cases h5 : L.length = 0
            ·
             rw [decide_eq_true h5, Bool.true_and] at hq
             have a5 : ((L.length : Int) == 0) = true := by rw [h5]; rfl
             have b5 : (L.length == 0) = true := by rw [h5]; rfl
             by_cases h6 : bo.length ≤ 1024
             ·
              rw [decide_eq_true h6] at hq
              have a6 : decide ((bo.length : Int) ≤ 1024) = true := decide_eq_true (by omega)
              have b6 : decide (bo.length ≤ 1024) = true := decide_eq_true (by omega)
              subst hq
              go_wp2_with fail
              go_ret
              exact ⟨rfl, HB0.out⟩
             ·
              rw [decide_eq_false h6] at hq
              subst hq
              have a6 : decide ((bo.length : Int) ≤ 1024) = false := decide_eq_false (by omega)
              have b6 : decide (bo.length ≤ 1024) = false := decide_eq_false (by omega)
              go_wp2_with fail
              go_ret
              exact ⟨rfl, HB0.out⟩
            ·
             rw [decide_eq_false h5, Bool.false_and] at hq
             subst hq
             have a5 : ((L.length : Int) == 0) = false := beq_eq_false_iff_ne.2 (by omega)
             have b5 : (L.length == 0) = false := beq_eq_false_iff_ne.2 h5
             go_wp2_with fail
             go_ret
             exact ⟨rfl, HB0.out⟩
           ·
            rw [decide_eq_false h4, Bool.false_and] at hq
            subst hq
            have a4 : (c == 0) = false := beq_eq_false_iff_ne.2 h4
            go_wp2_with fail
            go_ret
            exact ⟨rfl, HB0.out⟩
          ·
           rw [decide_eq_false h3, Bool.false_and] at hq
           subst hq
           have a3 : decide (i < t) = false := decide_eq_false (by omega)
           go_wp2_with fail
           go_ret
           exact ⟨rfl, HB0.out⟩
         ·
          rw [decide_eq_false h2, Bool.false_and] at hq
          subst hq
          have a2 : decide (i ≥ 0) = false := decide_eq_false (by omega)
          have b2 : decide (0 ≤ i) = false := decide_eq_false (by omega)
          go_wp2_with fail
          go_ret
          exact ⟨rfl, HB0.out⟩
        ·
         rw [decide_eq_false h1, Bool.false_and] at hq
         subst hq
         have a1 : decide (t ≤ 32) = false := decide_eq_false (by omega)
         go_wp2_with fail
         go_ret
         exact ⟨rfl, HB0.out⟩
       ·
        rw [decide_eq_false h0, Bool.false_and] at hq
        subst hq
        have a0 : decide (t ≥ 1) = false := decide_eq_false (by omega)
        have b0 : decide (1 ≤ t) = false := decide_eq_false (by omega)
        go_wp2_with fail
        go_ret
        exact ⟨rfl, HB0.out⟩
      ·
       rw [show rmayK 2 i t c L bo = rmay2 i t c L bo from rfl] at hq
       unfold rmay2 at hq
       cases hf : each L 63
       ·
        rw [hf, Bool.false_and] at hq
        subst hq
        have HF := Lib.hid (show precentorref03_in.f 10000 L 63 = some false by rw [in_is _ HL.out, hf])
        clear hf
        go_wp2_with fail
        refine (HIN.out _ _ HF.out).mono ?_
        rintro e' w' ⟨rfl, ⟨⟨nq, rfl⟩⟩⟩
        go_wp2_with fail
        go_ret
        exact ⟨rfl, pw_below_drewN HB0.out nq⟩
       ·
        rw [hf, Bool.true_and] at hq
        have HF := Lib.hid (show precentorref03_in.f 10000 L 63 = some true by rw [in_is _ HL.out, hf])
        clear hf
        by_cases h1 : 0 ≤ i
        ·
         rw [decide_eq_true h1, Bool.true_and] at hq
         have a1 : decide (i ≥ 0) = true := decide_eq_true (by omega)
         have b1 : decide (0 ≤ i) = true := decide_eq_true (by omega)
         by_cases h2 : i ≤ 1
         ·
          rw [decide_eq_true h2, Bool.true_and] at hq
          have a2 : decide (i ≤ 1) = true := decide_eq_true (by omega)
          by_cases h3 : t = 0
          ·
           rw [decide_eq_true h3, Bool.true_and] at hq
           subst h3
           by_cases h4 : c = 0
           ·
            rw [decide_eq_true h4, Bool.true_and] at hq
            subst h4
            by_cases h5 : bo.length = 0
            ·
             rw [decide_eq_true h5, Bool.true_and] at hq
             have a5 : ((bo.length : Int) == 0) = true := by rw [h5]; rfl
             have b5 : (bo.length == 0) = true := by rw [h5]; rfl
             by_cases h6 : 1 ≤ L.length
             ·
              rw [decide_eq_true h6, Bool.true_and] at hq
              have a6 : decide ((L.length : Int) ≥ 1) = true := decide_eq_true (by omega)
              have b6 : decide (1 ≤ L.length) = true := decide_eq_true (by omega)
              have g6 : decide (L.length ≥ 1) = true := decide_eq_true (by omega)
              have k6 : decide ((1 : Int) ≤ (L.length : Int)) = true := decide_eq_true (by omega)
              by_cases h7 : L.length ≤ 64
              ·
               rw [decide_eq_true h7] at hq
               have a7 : decide ((L.length : Int) ≤ 64) = true := decide_eq_true (by omega)
               have b7 : decide (L.length ≤ 64) = true := decide_eq_true (by omega)
               subst hq
               go_wp2_with fail
               refine (HIN.out _ _ HF.out).mono ?_
               rintro e' w' ⟨rfl, ⟨⟨nq, rfl⟩⟩⟩
               go_wp2_with fail
               go_ret
               exact ⟨rfl, pw_below_drewN HB0.out nq⟩
              ·
               rw [decide_eq_false h7] at hq
               subst hq
               have a7 : decide ((L.length : Int) ≤ 64) = false := decide_eq_false (by omega)
               have b7 : decide (L.length ≤ 64) = false := decide_eq_false (by omega)
               go_wp2_with fail
               refine (HIN.out _ _ HF.out).mono ?_
               rintro e' w' ⟨rfl, ⟨⟨nq, rfl⟩⟩⟩
               go_wp2_with fail
               go_ret
               exact ⟨rfl, pw_below_drewN HB0.out nq⟩
             ·
              rw [decide_eq_false h6, Bool.false_and] at hq
              subst hq
              have a6 : decide ((L.length : Int) ≥ 1) = false := decide_eq_false (by omega)
              have b6 : decide (1 ≤ L.length) = false := decide_eq_false (by omega)
              have g6 : decide (L.length ≥ 1) = false := decide_eq_false (by omega)
              have k6 : decide ((1 : Int) ≤ (L.length : Int)) = false := decide_eq_false (by omega)
              go_wp2_with fail
              refine (HIN.out _ _ HF.out).mono ?_
              rintro e' w' ⟨rfl, ⟨⟨nq, rfl⟩⟩⟩
              go_wp2_with fail
              go_ret
              exact ⟨rfl, pw_below_drewN HB0.out nq⟩
            ·
             rw [decide_eq_false h5, Bool.false_and] at hq
             subst hq
             have a5 : ((bo.length : Int) == 0) = false := beq_eq_false_iff_ne.2 (by omega)
             have b5 : (bo.length == 0) = false := beq_eq_false_iff_ne.2 h5
             go_wp2_with fail
             refine (HIN.out _ _ HF.out).mono ?_
             rintro e' w' ⟨rfl, ⟨⟨nq, rfl⟩⟩⟩
             go_wp2_with fail
             go_ret
             exact ⟨rfl, pw_below_drewN HB0.out nq⟩
           ·
            rw [decide_eq_false h4, Bool.false_and] at hq
            subst hq
            have a4 : (c == 0) = false := beq_eq_false_iff_ne.2 h4
            go_wp2_with fail
            refine (HIN.out _ _ HF.out).mono ?_
            rintro e' w' ⟨rfl, ⟨⟨nq, rfl⟩⟩⟩
            go_wp2_with fail
            go_ret
            exact ⟨rfl, pw_below_drewN HB0.out nq⟩
          ·
           rw [decide_eq_false h3, Bool.false_and] at hq
           subst hq
           have a3 : (t == 0) = false := beq_eq_false_iff_ne.2 h3
           go_wp2_with fail
           refine (HIN.out _ _ HF.out).mono ?_
           rintro e' w' ⟨rfl, ⟨⟨nq, rfl⟩⟩⟩
           go_wp2_with fail
           go_ret
           exact ⟨rfl, pw_below_drewN HB0.out nq⟩
         ·
          rw [decide_eq_false h2, Bool.false_and] at hq
          subst hq
          have a2 : decide (i ≤ 1) = false := decide_eq_false (by omega)
          go_wp2_with fail
          refine (HIN.out _ _ HF.out).mono ?_
          rintro e' w' ⟨rfl, ⟨⟨nq, rfl⟩⟩⟩
          go_wp2_with fail
          go_ret
          exact ⟨rfl, pw_below_drewN HB0.out nq⟩
        ·
         rw [decide_eq_false h1, Bool.false_and] at hq
         subst hq
         have a1 : decide (i ≥ 0) = false := decide_eq_false (by omega)
         have b1 : decide (0 ≤ i) = false := decide_eq_false (by omega)
         go_wp2_with fail
         refine (HIN.out _ _ HF.out).mono ?_
         rintro e' w' ⟨rfl, ⟨⟨nq, rfl⟩⟩⟩
         go_wp2_with fail
         go_ret
         exact ⟨rfl, pw_below_drewN HB0.out nq⟩
      ·
       rw [show rmayK 3 i t c L bo = rmay3 i t c L bo from rfl] at hq
       unfold rmay3 at hq
       generalize (decide (L.length = 0) && decide (bo.length = 0)) = z at *
       cases z
       ·
        rw [Bool.false_and] at hq
        subst hq
        go_wp2_with fail
        go_ret
        exact ⟨rfl, HB0.out⟩
       ·
        rw [Bool.true_and] at hq
        by_cases h1 : i = 0
        ·
         rw [decide_eq_true h1, Bool.true_and] at hq
         subst h1
         by_cases h2 : t = 0
         ·
          rw [decide_eq_true h2, Bool.true_and] at hq
          subst h2
          by_cases h3 : c = 0
          ·
           rw [decide_eq_true h3] at hq
           subst h3
           subst hq
           go_wp2_with fail
           go_ret
           exact ⟨rfl, HB0.out⟩
          ·
           rw [decide_eq_false h3] at hq
           subst hq
           have a3 : (c == 0) = false := beq_eq_false_iff_ne.2 h3
           go_wp2_with fail
           go_ret
           exact ⟨rfl, HB0.out⟩
         ·
          rw [decide_eq_false h2, Bool.false_and] at hq
          subst hq
          have a2 : (t == 0) = false := beq_eq_false_iff_ne.2 h2
          go_wp2_with fail
          go_ret
          exact ⟨rfl, HB0.out⟩
        ·
         rw [decide_eq_false h1, Bool.false_and] at hq
         subst hq
         have a1 : (i == 0) = false := beq_eq_false_iff_ne.2 h1
         go_wp2_with fail
         go_ret
         exact ⟨rfl, HB0.out⟩
      ·
       rw [show rmayK 4 i t c L bo = rmay4 i t c L bo from rfl] at hq
       unfold rmay4 at hq
       generalize (decide (L.length = 0) && decide (bo.length = 0)) = z at *
       cases z
       ·
        rw [Bool.false_and] at hq
        subst hq
        go_wp2_with fail
        go_ret
        exact ⟨rfl, HB0.out⟩
       ·
        rw [Bool.true_and] at hq
        by_cases h1 : 0 ≤ i
        ·
         rw [decide_eq_true h1, Bool.true_and] at hq
         have a1 : decide (i ≥ 0) = true := decide_eq_true (by omega)
         have b1 : decide (0 ≤ i) = true := decide_eq_true (by omega)
         by_cases h2 : i ≤ 1
         ·
          rw [decide_eq_true h2, Bool.true_and] at hq
          have a2 : decide (i ≤ 1) = true := decide_eq_true (by omega)
          by_cases h3 : t = 0
          ·
           rw [decide_eq_true h3, Bool.true_and] at hq
           subst h3
           by_cases h4 : c = 0
           ·
            rw [decide_eq_true h4] at hq
            subst h4
            subst hq
            go_wp2_with fail
            go_ret
            exact ⟨rfl, HB0.out⟩
           ·
            rw [decide_eq_false h4] at hq
            subst hq
            have a4 : (c == 0) = false := beq_eq_false_iff_ne.2 h4
            go_wp2_with fail
            go_ret
            exact ⟨rfl, HB0.out⟩
          ·
           rw [decide_eq_false h3, Bool.false_and] at hq
           subst hq
           have a3 : (t == 0) = false := beq_eq_false_iff_ne.2 h3
           go_wp2_with fail
           go_ret
           exact ⟨rfl, HB0.out⟩
         ·
          rw [decide_eq_false h2, Bool.false_and] at hq
          subst hq
          have a2 : decide (i ≤ 1) = false := decide_eq_false (by omega)
          go_wp2_with fail
          go_ret
          exact ⟨rfl, HB0.out⟩
        ·
         rw [decide_eq_false h1, Bool.false_and] at hq
         subst hq
         have a1 : decide (i ≥ 0) = false := decide_eq_false (by omega)
         have b1 : decide (0 ≤ i) = false := decide_eq_false (by omega)
         go_wp2_with fail
         go_ret
         exact ⟨rfl, HB0.out⟩
      ·
       rw [show rmayK 5 i t c L bo = rmay5 i t c L bo from rfl] at hq
       unfold rmay5 at hq
       generalize (decide (L.length = 0) && decide (bo.length = 0)) = z at *
       cases z
       ·
        rw [Bool.false_and] at hq
        subst hq
        go_wp2_with fail
        go_ret
        exact ⟨rfl, HB0.out⟩
       ·
        rw [Bool.true_and] at hq
        by_cases h1 : i = 0
        ·
         rw [decide_eq_true h1, Bool.true_and] at hq
         subst h1
         by_cases h2 : t = 0
         ·
          rw [decide_eq_true h2, Bool.true_and] at hq
          subst h2
          by_cases h3 : 0 ≤ c
          ·
           rw [decide_eq_true h3, Bool.true_and] at hq
           have a3 : decide (c ≥ 0) = true := decide_eq_true (by omega)
           have b3 : decide (0 ≤ c) = true := decide_eq_true (by omega)
           by_cases h4 : c ≤ 4611686018427387904
           ·
            rw [decide_eq_true h4] at hq
            have a4 : decide (c ≤ 4611686018427387904) = true := decide_eq_true (by omega)
            subst hq
            go_wp2_with fail
            go_ret
            exact ⟨rfl, HB0.out⟩
           ·
            rw [decide_eq_false h4] at hq
            subst hq
            have a4 : decide (c ≤ 4611686018427387904) = false := decide_eq_false (by omega)
            go_wp2_with fail
            go_ret
            exact ⟨rfl, HB0.out⟩
          ·
           rw [decide_eq_false h3, Bool.false_and] at hq
           subst hq
           have a3 : decide (c ≥ 0) = false := decide_eq_false (by omega)
           have b3 : decide (0 ≤ c) = false := decide_eq_false (by omega)
           go_wp2_with fail
           go_ret
           exact ⟨rfl, HB0.out⟩
         ·
          rw [decide_eq_false h2, Bool.false_and] at hq
          subst hq
          have a2 : (t == 0) = false := beq_eq_false_iff_ne.2 h2
          go_wp2_with fail
          go_ret
          exact ⟨rfl, HB0.out⟩
        ·
         rw [decide_eq_false h1, Bool.false_and] at hq
         subst hq
         have a1 : (i == 0) = false := beq_eq_false_iff_ne.2 h1
         go_wp2_with fail
         go_ret
         exact ⟨rfl, HB0.out⟩
      ·
       rw [show rmayK 6 i t c L bo = rmay6 i t c L bo from rfl] at hq
       unfold rmay6 at hq
       cases hf : each L 4611686018427387904
       ·
        rw [hf, Bool.false_and] at hq
        subst hq
        have HF := Lib.hid (show precentorref03_in.f 10000 L 4611686018427387904 = some false by rw [in_is _ HL.out, hf])
        clear hf
        go_wp2_with fail
        refine (HIN.out _ _ HF.out).mono ?_
        rintro e' w' ⟨rfl, ⟨⟨nq, rfl⟩⟩⟩
        go_wp2_with fail
        go_ret
        exact ⟨rfl, pw_below_drewN HB0.out nq⟩
       ·
        rw [hf, Bool.true_and] at hq
        have HF := Lib.hid (show precentorref03_in.f 10000 L 4611686018427387904 = some true by rw [in_is _ HL.out, hf])
        clear hf
        by_cases h1 : i = 0
        ·
         rw [decide_eq_true h1, Bool.true_and] at hq
         subst h1
         by_cases h2 : t = 0
         ·
          rw [decide_eq_true h2, Bool.true_and] at hq
          subst h2
          by_cases h3 : c = 0
          ·
           rw [decide_eq_true h3, Bool.true_and] at hq
           subst h3
           by_cases h4 : bo.length = 0
           ·
            rw [decide_eq_true h4, Bool.true_and] at hq
            have a4 : ((bo.length : Int) == 0) = true := by rw [h4]; rfl
            have b4 : (bo.length == 0) = true := by rw [h4]; rfl
            by_cases h5 : 2 ≤ L.length
            ·
             rw [decide_eq_true h5, Bool.true_and] at hq
             have a5 : decide ((L.length : Int) ≥ 2) = true := decide_eq_true (by omega)
             have b5 : decide (2 ≤ L.length) = true := decide_eq_true (by omega)
             have g5 : decide (L.length ≥ 2) = true := decide_eq_true (by omega)
             have k5 : decide ((2 : Int) ≤ (L.length : Int)) = true := decide_eq_true (by omega)
             by_cases h6 : L.length ≤ 64
             ·
              rw [decide_eq_true h6] at hq
              have a6 : decide ((L.length : Int) ≤ 64) = true := decide_eq_true (by omega)
              have b6 : decide (L.length ≤ 64) = true := decide_eq_true (by omega)
              subst hq
              go_wp2_with fail
              refine (HIN.out _ _ HF.out).mono ?_
              rintro e' w' ⟨rfl, ⟨⟨nq, rfl⟩⟩⟩
              go_wp2_with fail
              go_ret
              exact ⟨rfl, pw_below_drewN HB0.out nq⟩
             ·
              rw [decide_eq_false h6] at hq
              subst hq
              have a6 : decide ((L.length : Int) ≤ 64) = false := decide_eq_false (by omega)
              have b6 : decide (L.length ≤ 64) = false := decide_eq_false (by omega)
              go_wp2_with fail
              refine (HIN.out _ _ HF.out).mono ?_
              rintro e' w' ⟨rfl, ⟨⟨nq, rfl⟩⟩⟩
              go_wp2_with fail
              go_ret
              exact ⟨rfl, pw_below_drewN HB0.out nq⟩
            ·
             rw [decide_eq_false h5, Bool.false_and] at hq
             subst hq
             have a5 : decide ((L.length : Int) ≥ 2) = false := decide_eq_false (by omega)
             have b5 : decide (2 ≤ L.length) = false := decide_eq_false (by omega)
             have g5 : decide (L.length ≥ 2) = false := decide_eq_false (by omega)
             have k5 : decide ((2 : Int) ≤ (L.length : Int)) = false := decide_eq_false (by omega)
             go_wp2_with fail
             refine (HIN.out _ _ HF.out).mono ?_
             rintro e' w' ⟨rfl, ⟨⟨nq, rfl⟩⟩⟩
             go_wp2_with fail
             go_ret
             exact ⟨rfl, pw_below_drewN HB0.out nq⟩
           ·
            rw [decide_eq_false h4, Bool.false_and] at hq
            subst hq
            have a4 : ((bo.length : Int) == 0) = false := beq_eq_false_iff_ne.2 (by omega)
            have b4 : (bo.length == 0) = false := beq_eq_false_iff_ne.2 h4
            go_wp2_with fail
            refine (HIN.out _ _ HF.out).mono ?_
            rintro e' w' ⟨rfl, ⟨⟨nq, rfl⟩⟩⟩
            go_wp2_with fail
            go_ret
            exact ⟨rfl, pw_below_drewN HB0.out nq⟩
          ·
           rw [decide_eq_false h3, Bool.false_and] at hq
           subst hq
           have a3 : (c == 0) = false := beq_eq_false_iff_ne.2 h3
           go_wp2_with fail
           refine (HIN.out _ _ HF.out).mono ?_
           rintro e' w' ⟨rfl, ⟨⟨nq, rfl⟩⟩⟩
           go_wp2_with fail
           go_ret
           exact ⟨rfl, pw_below_drewN HB0.out nq⟩
         ·
          rw [decide_eq_false h2, Bool.false_and] at hq
          subst hq
          have a2 : (t == 0) = false := beq_eq_false_iff_ne.2 h2
          go_wp2_with fail
          refine (HIN.out _ _ HF.out).mono ?_
          rintro e' w' ⟨rfl, ⟨⟨nq, rfl⟩⟩⟩
          go_wp2_with fail
          go_ret
          exact ⟨rfl, pw_below_drewN HB0.out nq⟩
        ·
         rw [decide_eq_false h1, Bool.false_and] at hq
         subst hq
         have a1 : (i == 0) = false := beq_eq_false_iff_ne.2 h1
         go_wp2_with fail
         refine (HIN.out _ _ HF.out).mono ?_
         rintro e' w' ⟨rfl, ⟨⟨nq, rfl⟩⟩⟩
         go_wp2_with fail
         go_ret
         exact ⟨rfl, pw_below_drewN HB0.out nq⟩
      ·
       unfold rmayK at hq
       rw [if_neg (by omega), if_neg (by omega), if_neg (by omega), if_neg (by omega), if_neg (by omega), if_neg (by omega)] at hq
       subst hq
       have e1 : (k == 1) = false := beq_eq_false_iff_ne.2 (by omega)
       have e2 : (k == 2) = false := beq_eq_false_iff_ne.2 (by omega)
       have e3 : (k == 3) = false := beq_eq_false_iff_ne.2 (by omega)
       have e4 : (k == 4) = false := beq_eq_false_iff_ne.2 (by omega)
       have e5 : (k == 5) = false := beq_eq_false_iff_ne.2 (by omega)
       have e6 : (k == 6) = false := beq_eq_false_iff_ne.2 (by omega)
       clear hk
       go_wp2_with fail
       go_ret
       exact ⟨rfl, HB0.out⟩
    ·
     rw [decide_eq_false h3, Bool.false_and] at hq
     subst hq
     have u3_0 : decide (e > 4611686018427387904) = true := decide_eq_true (by omega)
     have u3_1 : decide (4611686018427387904 < e) = true := decide_eq_true (by omega)
     go_enter Tryd.func33, Tryd.ntmps33
     go_wp2_with fail
     go_ret
     exact ⟨rfl, HB0.out⟩
   ·
    rw [decide_eq_false h2, Bool.false_and] at hq
    subst hq
    have u2_0 : decide (e < 0) = true := decide_eq_true (by omega)
    go_enter Tryd.func33, Tryd.ntmps33
    go_wp2_with fail
    go_ret
    exact ⟨rfl, HB0.out⟩
  ·
   rw [decide_eq_false h1, Bool.false_and] at hq
   subst hq
   have u1_0 : decide (s > 4611686018427387904) = true := decide_eq_true (by omega)
   have u1_1 : decide (4611686018427387904 < s) = true := decide_eq_true (by omega)
   go_enter Tryd.func33, Tryd.ntmps33
   go_wp2_with fail
   go_ret
   exact ⟨rfl, HB0.out⟩
 ·
  rw [decide_eq_false h0, Bool.false_and] at hq
  subst hq
  have u0_0 : decide (s < 1) = true := decide_eq_true (by omega)
  go_enter Tryd.func33, Tryd.ntmps33
  go_wp2_with fail
  go_ret
  exact ⟨rfl, HB0.out⟩
def precentorref03_May.f (k s e i t c : Int) (L bo : List Int) : Option Bool := if L.length < 10000 then some (mayB k s e i t c L bo.length) else none
theorem precentorref03_May.calls (a0_0 a0_1 a0_2 a0_3 a0_4 a0_5 : Int) (A0_6 : Option Addr) (c0_6 : Nat) (l0_6 : List Int) (A0_7 : Option Addr) (c0_7 : Nat) (l0_7 : List Int) (r : Bool) (w : World) (hr0_6 : Kd.C (Kd.int .i64) w A0_6 l0_6.length l0_6) (hc0_6 : l0_6.length ≤ c0_6) (hr0_7 : Kd.C (Kd.int .u8) w A0_7 l0_7.length l0_7) (hc0_7 : l0_7.length ≤ c0_7) (h : precentorref03_May.f a0_0 a0_1 a0_2 a0_3 a0_4 a0_5 l0_6 l0_7 = some r) :
  Calls Tryd.prog 33 #[.agg #[.int .i64 a0_0, .int .i64 a0_1, .int .i64 a0_2, .int .i64 a0_3, .int .i64 a0_4, .int .i64 a0_5, .slice A0_6 l0_6.length c0_6, .slice A0_7 l0_7.length c0_7]] w fun e w' => e = .returned (.bool r) ∧ Below w.heap.size w w' := by
 unfold precentorref03_May.f at h
 by_cases hl : l0_6.length < 10000
 ·
  rw [if_pos hl] at h
  exact precentorref03_May.is _ _ _ _ _ _ _ _ _ _ _ _ _ hr0_6 hc0_6 hl r (Option.some.inj h)
 ·
  rw [if_neg hl] at h; cases h
end Go.Proofs.YtieolhhokepkjaaDoor.Print
namespace Go.Proofs.YtieolhhokepkjaaDoor.Print
set_option linter.unusedVariables false
set_option linter.unusedSimpArgs false
open Go.RowKit Go.Proofs.YtieolhhokepkjaaDoorW.PrintWords Go.Proofs.YtieolhhokepkjaaDoorW.PrintLast Go.Proofs.YtieolhhokepkjaaDoorW.PrintMore Go.Proofs.YtieolhhokepkjaaDoor.NumPlain
theorem rputrow {W : Int} {l p : List Int} (hl : l.length < 10000) (hf : Fa l W) (hp : flat W l = p) : precentorref02_PutRow.f (l.length + 10) l W = some p := by
 rw [rputrow_is hl (Nat.le_refl _), putrow_is hl (Nat.le_refl _), if_pos hf, hp]
def BytesG (w0 : World) (g : Nat) (x : Int) (A : Option Addr) (c : Nat) (p : List Int) (w' : World) : Prop :=
 O8 w' w0.heap.size (.slice (some ⟨g, 0, none⟩) 1 1) [x] ∧ p.length ≤ c ∧ Kd.C (Kd.int .u8) w' A p.length p ∧ Below w0.heap.size w0 w'
set_option maxRecDepth 100000 in
set_option maxHeartbeats 4000000 in
theorem precentorref03_Bytes.yes (k s e i t c : Int) (A6 : Option Addr) (c6 : Nat) (L : List Int) (A7 : Option Addr) (c7 : Nat) (bo : List Int) (w : World) (hr6 : Kd.C (Kd.int .i64) w A6 L.length L) (hc6 : L.length ≤ c6) (hr7 : Kd.C (Kd.int .u8) w A7 bo.length bo) (hc7 : bo.length ≤ c7) (hL : L.length < 10000) (hbo : bo.length < 100000000) (hm : mayB k s e i t c L bo.length = true) :
  Calls Tryd.prog 21 #[.agg #[.int .i64 k, .int .i64 s, .int .i64 e, .int .i64 i, .int .i64 t, .int .i64 c, .slice A6 L.length c6, .slice A7 bo.length c7]] w (BytesPost w (bytesOf k s e i t c L bo)) := by
 obtain ⟨hk, hs, he⟩ := mayB_head hm
 obtain ⟨w0, hw0, hB0, hs0, X0⟩ := boxed1 w (.int .i64 k) (.int .i64 s) (.int .i64 e) (.int .i64 i) (.int .i64 t) (.int .i64 c) (.slice A6 L.length c6) (.slice A7 bo.length c7)
 obtain ⟨⟨q0, q1, q2, q3, q4, q5, q6, q7⟩, _⟩ := cells8 X0
 have HB0 := ak hB0
 have HMAY := Lib.hid (precentorref03_May.is k s e i t c A6 c6 L A7 c7 bo w0 (Kd.C_below hr6 hB0) hc6 hL true hm)
 have HR6 := ak (Kd.C_below hr6 hB0)
 have HR7 := ak (Kd.C_below hr7 hB0)
 have HL := Lib.hid hL
 have HBO := Lib.hid hbo
 have HMM := Lib.hid hm
 have HC6 := Lib.hid hc6
 obtain ⟨p, hp⟩ : ∃ p, flat 8 [s, e] = p := ⟨_, rfl⟩
 have HP := Lib.hid (rputrow (W := 8) (l := [s, e]) (p := p) (by simp) (by
  intro x hx
  rcases List.mem_cons.1 hx with rfl | hx
  ·
   exact ⟨Or.inr (Or.inr rfl), by omega, hs.2⟩
  ·
   obtain rfl := List.mem_singleton.1 hx; exact ⟨Or.inr (Or.inr rfl), he⟩) hp)
 have HPL := Lib.hid (show p.length = 16 by rw [← hp, flat_length]; rfl)
 have HH := Lib.hid (show headOf k s e = [IntKind.u8.wrap k] ++ p by rw [← hp]; unfold headOf flat; simp [enc, u8w])
 clear X0 hB0 hr6 hr7 hL hbo hm hc6 hc7 hp hs he hs0
 go_enter Tryd.func21, Tryd.ntmps21
 go_wp2_with fail
 refine HMAY.out.mono ?_
 rintro e1 w1 ⟨rfl, hb⟩
 have HBq := ak hb
 clear hb hw0
 go_wp2_with fail
 refine start_ (n := 12) (S := fun w' => w'.cell? ⟨w.heap.size, 0, none⟩ = some (.int .i64 k) ∧ w'.cell? ⟨w.heap.size, 1, none⟩ = some (.int .i64 s) ∧ w'.cell? ⟨w.heap.size, 2, none⟩ = some (.int .i64 e)) (ds := []) #[false, false, false, false, false, false, false, false, false, false, false, false] (by kernel_rfl) rfl rfl ⟨pw_cell_below (below_drew1 HBq.out) q0, pw_cell_below (below_drew1 HBq.out) q1, pw_cell_below (below_drew1 HBq.out) q2⟩ (fun hHeld => ?_)
 have n0_ := ak (below_drew1 HBq.out)
 clear HBq
 have HBq := n0_
 clear n0_
 generalize hw2_ : w1.drew = w2 at *
 clear hw2_
 refine pure_ (i := 0) (N := some 9) (v := ?_) (a' := ?_) #[true, false, false, false, false, false, false, false, false, false, false, false] rfl rfl (by kernel_rfl) (fun _ _ _ h => h) (Or.inl ⟨by rfl, ?_⟩) ?_ ?_
 rotate_left
 ·
  intro w'
  go_simp
  with_reducible rfl
 rotate_left
 ·
  simp only [Act.put, sq1, sq2, sq3, i64_w, i32_w]
  rfl
 refine pure_ (i := 4) (N := some 13) (v := ?_) (a' := ?_) #[true, false, false, false, true, false, false, false, false, false, false, false] rfl rfl (by kernel_rfl) (fun _ _ _ h => h) (Or.inl ⟨by rfl, ?_⟩) ?_ ?_
 rotate_left
 ·
  intro w'
  go_simp
  with_reducible rfl
 rotate_left
 ·
  simp only [Act.put, sq1, sq2, sq3, i64_w, i32_w]
  rfl
 refine pure_ (i := 6) (N := some 15) (v := ?_) (a' := ?_) #[true, false, false, false, true, false, true, false, false, false, false, false] rfl rfl (by kernel_rfl) (fun _ _ _ h => h) (Or.inl ⟨by rfl, ?_⟩) ?_ ?_
 rotate_left
 ·
  intro w'
  go_simp
  with_reducible rfl
 rotate_left
 ·
  simp only [Act.put, sq1, sq2, sq3, i64_w, i32_w]
  rfl
 refine take_ (i := 1) (N := some 10) (v := ?_) (a' := ?_) #[true, true, false, false, true, false, true, false, false, false, false, false] rfl rfl (by kernel_rfl) (fun _ _ _ h => h) (Or.inl ⟨by rfl, ?_⟩) hHeld ?_ ?_
 rotate_left
 ·
  rintro w' ⟨s0, s1, s2⟩
  go_simp
  with_reducible rfl
 rotate_left
 ·
  simp only [Act.put, sq1, sq2, sq3, i64_w, i32_w]
  rfl
 refine pure_ (i := 2) (N := some 11) (v := ?_) (a' := ?_) #[true, true, true, false, true, false, true, false, false, false, false, false] rfl rfl (by kernel_rfl) (fun _ _ _ h => h) (Or.inl ⟨by rfl, ?_⟩) ?_ ?_
 rotate_left
 ·
  intro w'
  go_simp
  with_reducible rfl
 rotate_left
 ·
  simp only [Act.put, sq1, sq2, sq3, i64_w, i32_w]
  rfl
 refine take_ (i := 5) (N := some 14) (v := ?_) (a' := ?_) #[true, true, true, false, true, true, true, false, false, false, false, false] rfl rfl (by kernel_rfl) (fun _ _ _ h => h) (Or.inl ⟨by rfl, ?_⟩) hHeld ?_ ?_
 rotate_left
 ·
  rintro w' ⟨s0, s1, s2⟩
  go_simp
  with_reducible rfl
 rotate_left
 ·
  simp only [Act.put, sq1, sq2, sq3, i64_w, i32_w]
  rfl
 refine take_ (i := 7) (N := some 16) (v := ?_) (a' := ?_) #[true, true, true, false, true, true, true, true, false, false, false, false] rfl rfl (by kernel_rfl) (fun _ _ _ h => h) (Or.inl ⟨by rfl, ?_⟩) hHeld ?_ ?_
 rotate_left
 ·
  rintro w' ⟨s0, s1, s2⟩
  go_simp
  with_reducible rfl
 rotate_left
 ·
  simp only [Act.put, sq1, sq2, sq3, i64_w, i32_w]
  rfl
 refine join_ (σ := Nat × Nat × Option Addr × Nat) 2 #[true, true, true, true, true, true, true, true, true, true, false, false] (fun s_ => [(12, .slice (some ⟨s_.1, 0, none⟩) 1 1), (17, .slice (some ⟨s_.2.1, 0, none⟩) 2 2), (18, .slice s_.2.2.1 p.length s_.2.2.2)]) (fun s_ w2_ => (w2_.cell? ⟨w.heap.size, 0, none⟩ = some (.int .i64 k) ∧ w2_.cell? ⟨w.heap.size, 1, none⟩ = some (.int .i64 s) ∧ w2_.cell? ⟨w.heap.size, 2, none⟩ = some (.int .i64 e)) ∧ BytesG w0 s_.1 (IntKind.u8.wrap k) s_.2.2.1 s_.2.2.2 p w2_) ?_ ?_
 rotate_left
 ·
  intro hCont
  refine two_ (i := 3) (j := 8) (Ni := some 12) (Nj := some 17) #[true, true, true, true, true, true, true, true, false, false, false, false] #[true, true, true, false, true, true, true, true, true, false, false, false] rfl rfl rfl rfl (by kernel_rfl) (by decide) (by decide) (fun K hK => ?_) (fun K hK => ?_)
  ·
   skip
   refine value_ (w1 := ?_) (v := ?_) (by rfl) rfl ?_ ?_
   rotate_left 2
   ·
    go_simp
    constructor
    ·
     rfl
    ·
     rfl
   have hb := below_alloc (Below.refl w2.heap.size w2) (Obj.cells #[.int .u8 (IntKind.u8.wrap k)] 5)
   have HO12 := ak (O8.lit (blk_new w2 (Obj.cells #[.int .u8 (IntKind.u8.wrap k)] 5)) HBq.out.size [IntKind.u8.wrap k] (by simp) rfl)
   have n0_ := ak (below_step HBq.out hb)
   clear HBq hb
   have HBq := n0_
   clear n0_
   generalize hgl_ : w2.alloc (Obj.cells #[.int .u8 (IntKind.u8.wrap k)] 5) = w3 at *
   clear hgl_
   generalize w2.heap.size = g12 at *
   refine hK.out _ _ ⟨pw_cell_below HBq.out q0, pw_cell_below HBq.out q1, pw_cell_below HBq.out q2⟩ (fun hHeld => ?_)
   clear hK K
   refine norm_ (a' := ?_) ?_ ?_
   rotate_left
   ·
    show Act.put _ (some 12) _ = _
    simp only [Act.put, sq1, sq2, sq3, i64_w, i32_w]
    rfl
   refine one_ (i := 8) (N := some 17) #[true, true, true, true, true, true, true, true, true, false, false, false] rfl rfl (by kernel_rfl) (by decide) (fun K hK => ?_)
   refine value_ (w1 := ?_) (v := ?_) (by rfl) rfl ?_ ?_
   rotate_left 2
   ·
    go_simp
    constructor
    ·
     rfl
    ·
     rfl
   have hb := below_alloc (Below.refl w3.heap.size w3) (Obj.cells #[.int .i64 s, .int .i64 e] 3)
   have n1_ := ak (O8.below HO12.out hb)
   clear HO12
   have HO12 := n1_
   clear n1_
   have HC17 := ak (Kd.C_lit64 (blk_new w3 (Obj.cells #[.int .i64 s, .int .i64 e] 3)) [s, e] (by simp) rfl)
   have n0_ := ak (below_step HBq.out hb)
   clear HBq hb
   have HBq := n0_
   clear n0_
   generalize hgl_ : w3.alloc (Obj.cells #[.int .i64 s, .int .i64 e] 3) = w5 at *
   clear hgl_
   generalize w3.heap.size = g17 at *
   refine hK.out _ _ ⟨pw_cell_below HBq.out q0, pw_cell_below HBq.out q1, pw_cell_below HBq.out q2⟩ (fun hHeld => ?_)
   clear hK K
   refine norm_ (a' := ?_) ?_ ?_
   rotate_left
   ·
    show Act.put _ (some 17) _ = _
    simp only [Act.put, sq1, sq2, sq3, i64_w, i32_w]
    rfl
   refine one_ (i := 9) (N := some 18) #[true, true, true, true, true, true, true, true, true, true, false, false] rfl rfl (by kernel_rfl) (by decide) (fun K hK => ?_)
   have HCT := Lib.hid (show Calls Tryd.prog 43 #[.slice (some ⟨g17, 0, none⟩) 2 2, .int .i64 8] w5 _ from precentorref02_PutRow.calls 12 (some ⟨g17, 0, none⟩) 2 [s, e] 8 p w5 HC17.out (Nat.le_refl _) HP.out)
   refine goes_ Tryd.func43 (by kernel_rfl) rfl #[.slice (some ⟨g17, 0, none⟩) 2 2, .int .i64 8] (by rfl) rfl rfl (by simp only [List.map_toArray, List.map_cons, List.map_nil]; rfl) ?_
   with_reducible refine (HCT.out).mono ?_
   rintro e0 w8 ⟨v18, rfl, hr, hb⟩
   refine ⟨_, rfl, ?_⟩
   obtain ⟨A18, c18, rfl, hl18, hC18⟩ := Kd.R_reads hr
   have HL18 := Lib.hid hl18
   clear hr hl18 HCT
   have n1_ := ak (O8.below HO12.out hb)
   clear HO12
   have HO12 := n1_
   clear n1_
   have n1_ := ak (Kd.C_below HC17.out hb)
   clear HC17
   have HC17 := n1_
   clear n1_
   have HC18 := ak hC18
   clear hC18
   have n0_ := ak (below_step HBq.out hb)
   clear HBq hb
   have HBq := n0_
   clear n0_
   refine hK.out _ _ ⟨pw_cell_below HBq.out q0, pw_cell_below HBq.out q1, pw_cell_below HBq.out q2⟩ (fun hHeld => ?_)
   clear hK K
   refine norm_ (a' := ?_) ?_ ?_
   rotate_left
   ·
    show Act.put _ (some 18) _ = _
    simp only [Act.put, sq1, sq2, sq3, i64_w, i32_w]
    rfl
   exact norm_ (by simp only [putAll, Act.put, sq1, sq2, sq3]) (hCont (g12, g17, A18, c18) _ ⟨hHeld, HO12.out, HL18.out, HC18.out, HBq.out⟩)
  ·
   skip
   refine value_ (w1 := ?_) (v := ?_) (by rfl) rfl ?_ ?_
   rotate_left 2
   ·
    go_simp
    constructor
    ·
     rfl
    ·
     rfl
   have hb := below_alloc (Below.refl w2.heap.size w2) (Obj.cells #[.int .i64 s, .int .i64 e] 3)
   have HC17 := ak (Kd.C_lit64 (blk_new w2 (Obj.cells #[.int .i64 s, .int .i64 e] 3)) [s, e] (by simp) rfl)
   have n0_ := ak (below_step HBq.out hb)
   clear HBq hb
   have HBq := n0_
   clear n0_
   generalize hgl_ : w2.alloc (Obj.cells #[.int .i64 s, .int .i64 e] 3) = w4 at *
   clear hgl_
   generalize w2.heap.size = g17 at *
   refine hK.out _ _ ⟨pw_cell_below HBq.out q0, pw_cell_below HBq.out q1, pw_cell_below HBq.out q2⟩ (fun hHeld => ?_)
   clear hK K
   refine norm_ (a' := ?_) ?_ ?_
   rotate_left
   ·
    show Act.put _ (some 17) _ = _
    simp only [Act.put, sq1, sq2, sq3, i64_w, i32_w]
    rfl
   refine two_ (i := 3) (j := 9) (Ni := some 12) (Nj := some 18) #[true, true, true, true, true, true, true, true, true, false, false, false] #[true, true, true, false, true, true, true, true, true, true, false, false] rfl rfl rfl rfl (by kernel_rfl) (by decide) (by decide) (fun K hK => ?_) (fun K hK => ?_)
   ·
    skip
    refine value_ (w1 := ?_) (v := ?_) (by rfl) rfl ?_ ?_
    rotate_left 2
    ·
     go_simp
     constructor
     ·
      rfl
     ·
      rfl
    have hb := below_alloc (Below.refl w4.heap.size w4) (Obj.cells #[.int .u8 (IntKind.u8.wrap k)] 5)
    have n1_ := ak (Kd.C_below HC17.out hb)
    clear HC17
    have HC17 := n1_
    clear n1_
    have HO12 := ak (O8.lit (blk_new w4 (Obj.cells #[.int .u8 (IntKind.u8.wrap k)] 5)) HBq.out.size [IntKind.u8.wrap k] (by simp) rfl)
    have n0_ := ak (below_step HBq.out hb)
    clear HBq hb
    have HBq := n0_
    clear n0_
    generalize hgl_ : w4.alloc (Obj.cells #[.int .u8 (IntKind.u8.wrap k)] 5) = w6 at *
    clear hgl_
    generalize w4.heap.size = g12 at *
    refine hK.out _ _ ⟨pw_cell_below HBq.out q0, pw_cell_below HBq.out q1, pw_cell_below HBq.out q2⟩ (fun hHeld => ?_)
    clear hK K
    refine norm_ (a' := ?_) ?_ ?_
    rotate_left
    ·
     show Act.put _ (some 12) _ = _
     simp only [Act.put, sq1, sq2, sq3, i64_w, i32_w]
     rfl
    refine one_ (i := 9) (N := some 18) #[true, true, true, true, true, true, true, true, true, true, false, false] rfl rfl (by kernel_rfl) (by decide) (fun K hK => ?_)
    have HCT := Lib.hid (show Calls Tryd.prog 43 #[.slice (some ⟨g17, 0, none⟩) 2 2, .int .i64 8] w6 _ from precentorref02_PutRow.calls 12 (some ⟨g17, 0, none⟩) 2 [s, e] 8 p w6 HC17.out (Nat.le_refl _) HP.out)
    refine goes_ Tryd.func43 (by kernel_rfl) rfl #[.slice (some ⟨g17, 0, none⟩) 2 2, .int .i64 8] (by rfl) rfl rfl (by simp only [List.map_toArray, List.map_cons, List.map_nil]; rfl) ?_
    with_reducible refine (HCT.out).mono ?_
    rintro e0 w9 ⟨v18, rfl, hr, hb⟩
    refine ⟨_, rfl, ?_⟩
    obtain ⟨A18, c18, rfl, hl18, hC18⟩ := Kd.R_reads hr
    have HL18 := Lib.hid hl18
    clear hr hl18 HCT
    have n1_ := ak (O8.below HO12.out hb)
    clear HO12
    have HO12 := n1_
    clear n1_
    have n1_ := ak (Kd.C_below HC17.out hb)
    clear HC17
    have HC17 := n1_
    clear n1_
    have HC18 := ak hC18
    clear hC18
    have n0_ := ak (below_step HBq.out hb)
    clear HBq hb
    have HBq := n0_
    clear n0_
    refine hK.out _ _ ⟨pw_cell_below HBq.out q0, pw_cell_below HBq.out q1, pw_cell_below HBq.out q2⟩ (fun hHeld => ?_)
    clear hK K
    refine norm_ (a' := ?_) ?_ ?_
    rotate_left
    ·
     show Act.put _ (some 18) _ = _
     simp only [Act.put, sq1, sq2, sq3, i64_w, i32_w]
     rfl
    exact norm_ (by simp only [putAll, Act.put, sq1, sq2, sq3]) (hCont (g12, g17, A18, c18) _ ⟨hHeld, HO12.out, HL18.out, HC18.out, HBq.out⟩)
   ·
    skip
    have HCT := Lib.hid (show Calls Tryd.prog 43 #[.slice (some ⟨g17, 0, none⟩) 2 2, .int .i64 8] w4 _ from precentorref02_PutRow.calls 12 (some ⟨g17, 0, none⟩) 2 [s, e] 8 p w4 HC17.out (Nat.le_refl _) HP.out)
    refine goes_ Tryd.func43 (by kernel_rfl) rfl #[.slice (some ⟨g17, 0, none⟩) 2 2, .int .i64 8] (by rfl) rfl rfl (by simp only [List.map_toArray, List.map_cons, List.map_nil]; rfl) ?_
    with_reducible refine (HCT.out).mono ?_
    rintro e0 w7 ⟨v18, rfl, hr, hb⟩
    refine ⟨_, rfl, ?_⟩
    obtain ⟨A18, c18, rfl, hl18, hC18⟩ := Kd.R_reads hr
    have HL18 := Lib.hid hl18
    clear hr hl18 HCT
    have n1_ := ak (Kd.C_below HC17.out hb)
    clear HC17
    have HC17 := n1_
    clear n1_
    have HC18 := ak hC18
    clear hC18
    have n0_ := ak (below_step HBq.out hb)
    clear HBq hb
    have HBq := n0_
    clear n0_
    refine hK.out _ _ ⟨pw_cell_below HBq.out q0, pw_cell_below HBq.out q1, pw_cell_below HBq.out q2⟩ (fun hHeld => ?_)
    clear hK K
    refine norm_ (a' := ?_) ?_ ?_
    rotate_left
    ·
     show Act.put _ (some 18) _ = _
     simp only [Act.put, sq1, sq2, sq3, i64_w, i32_w]
     rfl
    refine one_ (i := 3) (N := some 12) #[true, true, true, true, true, true, true, true, true, true, false, false] rfl rfl (by kernel_rfl) (by decide) (fun K hK => ?_)
    refine value_ (w1 := ?_) (v := ?_) (by rfl) rfl ?_ ?_
    rotate_left 2
    ·
     go_simp
     constructor
     ·
      rfl
     ·
      rfl
    have hb := below_alloc (Below.refl w7.heap.size w7) (Obj.cells #[.int .u8 (IntKind.u8.wrap k)] 5)
    have n1_ := ak (Kd.C_below HC18.out hb)
    clear HC18
    have HC18 := n1_
    clear n1_
    have HO12 := ak (O8.lit (blk_new w7 (Obj.cells #[.int .u8 (IntKind.u8.wrap k)] 5)) HBq.out.size [IntKind.u8.wrap k] (by simp) rfl)
    have n0_ := ak (below_step HBq.out hb)
    clear HBq hb
    have HBq := n0_
    clear n0_
    generalize hgl_ : w7.alloc (Obj.cells #[.int .u8 (IntKind.u8.wrap k)] 5) = w10 at *
    clear hgl_
    generalize w7.heap.size = g12 at *
    refine hK.out _ _ ⟨pw_cell_below HBq.out q0, pw_cell_below HBq.out q1, pw_cell_below HBq.out q2⟩ (fun hHeld => ?_)
    clear hK K
    refine norm_ (a' := ?_) ?_ ?_
    rotate_left
    ·
     show Act.put _ (some 12) _ = _
     simp only [Act.put, sq1, sq2, sq3, i64_w, i32_w]
     rfl
    exact norm_ (by simp only [putAll, Act.put, sq1, sq2, sq3]) (hCont (g12, g17, A18, c18) _ ⟨hHeld, HO12.out, HL18.out, HC18.out, HBq.out⟩)
 rintro ⟨g12, g17, A18, c18⟩ w11 ⟨hS_, hD_⟩
 have hHeld := hS_
 have HD := ak hD_
 clear hS_ hD_
 refine norm_ (a' := ?_) ?_ ?_
 rotate_left
 ·
  simp only [putAll, Act.put, sq1, sq2, sq3]
  rfl
 refine one_ (i := 10) (N := some 19) #[true, true, true, true, true, true, true, true, true, true, true, false] rfl rfl (by kernel_rfl) (by decide) (fun K hK => ?_)
 refine ap8_step (w0 := w0) (b := w0.heap.size) (by rfl) rfl rfl rfl HD.out.1 HD.out.2.2.1 HD.out.2.2.2 HD.out.2.2.2.size (by have := HPL.out; simp; omega) ?_
 intro v7 w12 ho hb
 have HO := ak ho
 have HBq := ak hb
 clear ho hb
 refine hK.out _ _ ⟨pw_cell_below HBq.out q0, pw_cell_below HBq.out q1, pw_cell_below HBq.out q2⟩ (fun hHeld => ?_)
 clear hK K
 refine norm_ (a' := ?_) ?_ ?_
 rotate_left
 ·
  show Act.put _ (some 19) _ = _
  simp only [Act.put, sq1, sq2, sq3, i64_w, i32_w]
  rfl
 refine pure_ (i := 11) (N := some 4) (v := ?_) (a' := ?_) #[true, true, true, true, true, true, true, true, true, true, true, true] rfl rfl (by kernel_rfl) (fun _ _ _ h => h) (Or.inl ⟨by rfl, ?_⟩) ?_ ?_
 rotate_left
 ·
  intro w'
  go_simp
  with_reducible rfl
 rotate_left
 ·
  simp only [Act.put, sq1, sq2, sq3, i64_w, i32_w]
  rfl
 refine done_ (by kernel_rfl) ?_
 clear hHeld HD
 obtain ⟨hd, hhd⟩ : ∃ hd, headOf k s e = hd := ⟨_, rfl⟩
 have HH2 := Lib.hid hhd
 have HHL := Lib.hid (show hd.length = 17 by rw [← hhd, HH.out]; have := HPL.out; simp [this])
 have HOn := ak (show O8 w12 w0.heap.size v7 hd by rw [← hhd, HH.out]; exact HO.out)
 clear hhd HO
 have HO := HOn
 clear HOn
 have y0 := pw_cell_below HBq.out q0
 have y1 := pw_cell_below HBq.out q1
 have y2 := pw_cell_below HBq.out q2
 have y3 := pw_cell_below HBq.out q3
 have y4 := pw_cell_below HBq.out q4
 have y5 := pw_cell_below HBq.out q5
 have y6 := pw_cell_below HBq.out q6
 have y7 := pw_cell_below HBq.out q7
 rcases (show k = 1 ∨ k = 2 ∨ k = 3 ∨ k = 4 ∨ k = 5 ∨ k = 6 by omega) with rfl | rfl | rfl | rfl | rfl | rfl
 ·
  have HBY := Lib.hid (show bytesOf 1 s e i t c L bo = hd ++ [IntKind.u8.wrap i, IntKind.u8.wrap t] ++ bo by unfold bytesOf tailOf; rw [if_pos rfl, HH2.out]; simp [enc, u8w])
  go_wp2_with (first | ((with_reducible refine gate_builtin (b := .append) (xs := #[.tmp 23, .tmp 30]) rfl ?_); at_builtin; refine ap8 (w0 := w0) (b := w0.heap.size) (ys := [IntKind.u8.wrap i, IntKind.u8.wrap t]) rfl rfl rfl rfl (O8.below HO.out (below_alloc (Below.refl _ _) _)) (Kd.C_lit8 (blk_new w12 _) [IntKind.u8.wrap i, IntKind.u8.wrap t] (by simp) rfl) (below_alloc HBq.out _) ((below_alloc HBq.out _)).size (by have := HHL.out; simp; omega) ?_; intro v8 w13 ho hb; have HO1 := ak ho; have HB1 := ak hb; clear ho hb; have z0 := pw_cell_below HB1.out q0; have z7 := pw_cell_below HB1.out q7) | ((with_reducible refine gate_builtin (b := .append) (xs := #[.tmp 32, .tmp 34]) rfl ?_); at_builtin; refine ap8 (w0 := w0) (b := w0.heap.size) rfl rfl rfl rfl HO1.out (Kd.C_below HR7.out HB1.out) HB1.out (HB1.out).size (by have h1 := HHL.out; have h2 := HBO.out; simp; omega) ?_; intro v9 w14 ho hb; have HO2 := ak ho; have HB2 := ak hb; clear ho hb; have zz0 := pw_cell_below HB2.out q0))
  go_ret
  exact ⟨_, rfl, by rw [HBY.out]; exact O8.lower HO2.out HB0.out.size, below_step HB0.out HB2.out⟩
 ·
  obtain ⟨p4, hp4⟩ : ∃ p, flat 1 L = p := ⟨_, rfl⟩
  have HBY := Lib.hid (show bytesOf 2 s e i t c L bo = hd ++ [IntKind.u8.wrap i] ++ p4 by unfold bytesOf tailOf; rw [if_neg (by decide), if_pos rfl, HH2.out, hp4]; simp [enc, u8w])
  have HPR := Lib.hid (rputrow (W := 1) (l := L) (p := p4) HL.out (fa2 HMM.out) hp4)
  have HP4 := Lib.hid (show p4.length < 10000 by rw [← hp4, flat_length]; have := HL.out; simp; omega)
  clear hp4
  go_wp2_with ((with_reducible refine gate_builtin (b := .append) (xs := #[.tmp 39, .tmp 43]) rfl ?_); at_builtin; refine ap8 (w0 := w0) (b := w0.heap.size) (ys := [IntKind.u8.wrap i]) rfl rfl rfl rfl (O8.below HO.out (below_alloc (Below.refl _ _) _)) (Kd.C_lit8 (blk_new w12 _) [IntKind.u8.wrap i] (by simp) rfl) (below_alloc HBq.out _) ((below_alloc HBq.out _)).size (by have := HHL.out; simp; omega) ?_; intro v8 w13 ho hb; have HO1 := ak ho; have HB1 := ak hb; clear ho hb; have z0 := pw_cell_below HB1.out q0; have z6 := pw_cell_below HB1.out q6)
  refine (precentorref02_PutRow.calls (L.length + 10) A6 c6 L 1 p4 w13 (Kd.C_below HR6.out HB1.out) HC6.out HPR.out).mono ?_
  rintro e8 w15 ⟨v10, rfl, hr, hb⟩
  obtain ⟨A14, c14, rfl, hl4, hC4⟩ := Kd.R_reads hr
  have HC4 := ak hC4
  have HO3 := ak (O8.below HO1.out hb)
  have HB3 := ak (below_step HB1.out hb)
  have zz0 := pw_cell_below HB3.out q0
  clear hr hb hl4 hC4
  go_wp2_with ((with_reducible refine gate_builtin (b := .append) (xs := #[.tmp 45, .tmp 48]) rfl ?_); at_builtin; refine ap8 (w0 := w0) (b := w0.heap.size) rfl rfl rfl rfl HO3.out HC4.out HB3.out (HB3.out).size (by have h1 := HHL.out; have h2 := HP4.out; simp; omega) ?_; intro v9 w16 ho hb; have HO4 := ak ho; have HB4 := ak hb; clear ho hb; have z9 := pw_cell_below HB4.out q0)
  go_ret
  exact ⟨_, rfl, by rw [HBY.out]; exact O8.lower HO4.out HB0.out.size, below_step HB0.out HB4.out⟩
 ·
  have HBY := Lib.hid (show bytesOf 3 s e i t c L bo = hd by unfold bytesOf tailOf; rw [if_neg (by decide), if_neg (by decide), if_neg (by decide), if_neg (by decide), if_neg (by decide), HH2.out, List.append_nil])
  go_wp2_with fail
  go_ret
  exact ⟨_, rfl, by rw [HBY.out]; exact O8.lower HO.out HB0.out.size, below_step HB0.out HBq.out⟩
 ·
  have HBY := Lib.hid (show bytesOf 4 s e i t c L bo = hd ++ [IntKind.u8.wrap i] by unfold bytesOf tailOf; rw [if_neg (by decide), if_neg (by decide), if_pos rfl, HH2.out]; simp [enc, u8w])
  go_wp2_with ((with_reducible refine gate_builtin (b := .append) (xs := #[.tmp 53, .tmp 57]) rfl ?_); at_builtin; refine ap8 (w0 := w0) (b := w0.heap.size) (ys := [IntKind.u8.wrap i]) rfl rfl rfl rfl (O8.below HO.out (below_alloc (Below.refl _ _) _)) (Kd.C_lit8 (blk_new w12 _) [IntKind.u8.wrap i] (by simp) rfl) (below_alloc HBq.out _) ((below_alloc HBq.out _)).size (by have := HHL.out; simp; omega) ?_; intro v8 w13 ho hb; have HO1 := ak ho; have HB1 := ak hb; clear ho hb; have z0 := pw_cell_below HB1.out q0)
  go_ret
  exact ⟨_, rfl, by rw [HBY.out]; exact O8.lower HO1.out HB0.out.size, below_step HB0.out HB1.out⟩
 ·
  obtain ⟨p4, hp4⟩ : ∃ p, enc 8 c = p := ⟨_, rfl⟩
  have HBY := Lib.hid (show bytesOf 5 s e i t c L bo = hd ++ p4 by unfold bytesOf tailOf; rw [if_neg (by decide), if_neg (by decide), if_neg (by decide), if_pos rfl, HH2.out, hp4])
  have HPR := Lib.hid (show precentorref02_Put.f 20 c 8 = some p4 by rw [rput_is (by omega), ← hp4]; exact put8 (cc5 HMM.out))
  have HP4 := Lib.hid (show p4.length = 8 by rw [← hp4]; rfl)
  clear hp4
  go_wp2_with fail
  refine (precentorref02_Put.calls 20 c 8 p4 w12 HPR.out).mono ?_
  rintro e8 w15 ⟨v10, rfl, hr, hb⟩
  obtain ⟨A14, c14, rfl, hl4, hC4⟩ := Kd.R_reads hr
  have HC4 := ak hC4
  have HO3 := ak (O8.below HO.out hb)
  have HB3 := ak (below_step HBq.out hb)
  clear hr hb hl4 hC4
  go_wp2_with ((with_reducible refine gate_builtin (b := .append) (xs := #[.tmp 62, .tmp 65]) rfl ?_); at_builtin; refine ap8 (w0 := w0) (b := w0.heap.size) rfl rfl rfl rfl HO3.out HC4.out HB3.out (HB3.out).size (by have := HHL.out; have := HP4.out; omega) ?_; intro v9 w16 ho hb; have HO4 := ak ho; have HB4 := ak hb; clear ho hb; have z9 := pw_cell_below HB4.out q0)
  go_ret
  exact ⟨_, rfl, by rw [HBY.out]; exact O8.lower HO4.out HB0.out.size, below_step HB0.out HB4.out⟩
 ·
  obtain ⟨p4, hp4⟩ : ∃ p, flat 8 L = p := ⟨_, rfl⟩
  have HBY := Lib.hid (show bytesOf 6 s e i t c L bo = hd ++ p4 by unfold bytesOf tailOf; rw [if_neg (by decide), if_neg (by decide), if_neg (by decide), if_neg (by decide), if_pos rfl, HH2.out, hp4])
  have HPR := Lib.hid (rputrow (W := 8) (l := L) (p := p4) HL.out (fa6 HMM.out) hp4)
  have HP4 := Lib.hid (show p4.length < 80000 by rw [← hp4, flat_length]; have := HL.out; simp; omega)
  clear hp4
  go_wp2_with fail
  refine (precentorref02_PutRow.calls (L.length + 10) A6 c6 L 8 p4 w12 (Kd.C_below HR6.out HBq.out) HC6.out HPR.out).mono ?_
  rintro e8 w15 ⟨v10, rfl, hr, hb⟩
  obtain ⟨A14, c14, rfl, hl4, hC4⟩ := Kd.R_reads hr
  have HC4 := ak hC4
  have HO3 := ak (O8.below HO.out hb)
  have HB3 := ak (below_step HBq.out hb)
  have zz0 := pw_cell_below HB3.out q0
  clear hr hb hl4 hC4
  go_wp2_with ((with_reducible refine gate_builtin (b := .append) (xs := #[.tmp 70, .tmp 73]) rfl ?_); at_builtin; refine ap8 (w0 := w0) (b := w0.heap.size) rfl rfl rfl rfl HO3.out HC4.out HB3.out (HB3.out).size (by have := HHL.out; have := HP4.out; omega) ?_; intro v9 w16 ho hb; have HO4 := ak ho; have HB4 := ak hb; clear ho hb; have z9 := pw_cell_below HB4.out q0)
  go_ret
  exact ⟨_, rfl, by rw [HBY.out]; exact O8.lower HO4.out HB0.out.size, below_step HB0.out HB4.out⟩
theorem precentorref03_Bytes.no (k s e i t c : Int) (A6 : Option Addr) (c6 : Nat) (L : List Int) (A7 : Option Addr) (c7 : Nat) (bo : List Int) (w : World) (hr6 : Kd.C (Kd.int .i64) w A6 L.length L) (hc6 : L.length ≤ c6) (hL : L.length < 10000) (hm : mayB k s e i t c L bo.length = false) :
  Calls Tryd.prog 21 #[.agg #[.int .i64 k, .int .i64 s, .int .i64 e, .int .i64 i, .int .i64 t, .int .i64 c, .slice A6 L.length c6, .slice A7 bo.length c7]] w (BytesPost w []) := by
 obtain ⟨w0, hw0, hB0, hs0, X0⟩ := boxed1 w (.int .i64 k) (.int .i64 s) (.int .i64 e) (.int .i64 i) (.int .i64 t) (.int .i64 c) (.slice A6 L.length c6) (.slice A7 bo.length c7)
 obtain ⟨⟨q0, q1, q2, q3, q4, q5, q6, q7⟩, _⟩ := cells8 X0
 have HB0 := ak hB0
 have HMAY := Lib.hid (precentorref03_May.is k s e i t c A6 c6 L A7 c7 bo w0 (Kd.C_below hr6 hB0) hc6 hL false hm)
 clear X0 hB0 hr6 hm hc6 hs0
 go_enter Tryd.func21, Tryd.ntmps21
 go_wp2_with fail
 refine HMAY.out.mono ?_
 rintro e1 w1 ⟨rfl, hb⟩
 have HBq := ak hb
 clear hb hw0
 go_wp2_with fail
 go_ret
 exact ⟨_, rfl, O8.nil _ _, below_step HB0.out HBq.out⟩
def precentorref03_Bytes.f (k s e i t c : Int) (L bo : List Int) : Option (List Int) :=
 if L.length < 10000 ∧ bo.length < 100000000 then some (if mayB k s e i t c L bo.length = true then bytesOf k s e i t c L bo else []) else none
theorem precentorref03_Bytes.is (k s e i t c : Int) (A6 : Option Addr) (c6 : Nat) (L : List Int) (A7 : Option Addr) (c7 : Nat) (bo : List Int) (w : World) (hr6 : Kd.C (Kd.int .i64) w A6 L.length L) (hc6 : L.length ≤ c6) (hr7 : Kd.C (Kd.int .u8) w A7 bo.length bo) (hc7 : bo.length ≤ c7) (hL : L.length < 10000) (hbo : bo.length < 100000000) :
  Calls Tryd.prog 21 #[.agg #[.int .i64 k, .int .i64 s, .int .i64 e, .int .i64 i, .int .i64 t, .int .i64 c, .slice A6 L.length c6, .slice A7 bo.length c7]] w (BytesPost w (if mayB k s e i t c L bo.length = true then bytesOf k s e i t c L bo else [])) := by
 cases hm : mayB k s e i t c L bo.length
 ·
  rw [if_neg Bool.false_ne_true]; exact precentorref03_Bytes.no k s e i t c A6 c6 L A7 c7 bo w hr6 hc6 hL hm
 ·
  rw [if_pos rfl]; exact precentorref03_Bytes.yes k s e i t c A6 c6 L A7 c7 bo w hr6 hc6 hr7 hc7 hL hbo hm
theorem precentorref03_Bytes.calls (a0_0 a0_1 a0_2 a0_3 a0_4 a0_5 : Int) (A0_6 : Option Addr) (c0_6 : Nat) (l0_6 : List Int) (A0_7 : Option Addr) (c0_7 : Nat) (l0_7 : List Int) (r : List Int) (w : World) (hr0_6 : Kd.C (Kd.int .i64) w A0_6 l0_6.length l0_6) (hc0_6 : l0_6.length ≤ c0_6) (hr0_7 : Kd.C (Kd.int .u8) w A0_7 l0_7.length l0_7) (hc0_7 : l0_7.length ≤ c0_7) (h : precentorref03_Bytes.f a0_0 a0_1 a0_2 a0_3 a0_4 a0_5 l0_6 l0_7 = some r) :
  Calls Tryd.prog 21 #[.agg #[.int .i64 a0_0, .int .i64 a0_1, .int .i64 a0_2, .int .i64 a0_3, .int .i64 a0_4, .int .i64 a0_5, .slice A0_6 l0_6.length c0_6, .slice A0_7 l0_7.length c0_7]] w fun e w' => ∃ v0_ : Value, e = .returned (v0_) ∧ Kd.R (Kd.int .u8) 5 w' w.heap.size (fun _ => True) v0_ r ∧ Below w.heap.size w w' := by
 unfold precentorref03_Bytes.f at h
 by_cases hc : l0_6.length < 10000 ∧ l0_7.length < 100000000
 ·
  rw [if_pos hc] at h
  have h := Option.some.inj h
  subst h
  exact (precentorref03_Bytes.is a0_0 a0_1 a0_2 a0_3 a0_4 a0_5 A0_6 c0_6 l0_6 A0_7 c0_7 l0_7 w hr0_6 hc0_6 hr0_7 hc0_7 hc.1 hc.2).mono fun _ _ ⟨v, h1, h2, h3⟩ => ⟨v, h1, Kd.R_mono h2 (fun _ _ => trivial), h3⟩
 ·
  rw [if_neg hc] at h; cases h
end Go.Proofs.YtieolhhokepkjaaDoor.Print
