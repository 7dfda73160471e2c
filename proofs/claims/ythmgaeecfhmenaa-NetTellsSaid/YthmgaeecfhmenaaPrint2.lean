/- The Go functions of this seat as Lean functions, and of each that its call does just what its Lean function says, where that says something. Condition: the arguments read as they are told. -/
import Derived.Test.YthmgaeecfhmenaaPrint0
import Derived.Test.YthmgaeecfhmenaaPrint1
import Derived.Test.YthmgaeecfhmenaaHand2
import Derived.Test.YthmgaeecfhmenaaStrs
import Derived.Test.YthmgaeecfhmenaaCrcPlain
namespace Go.Proofs.Ythmgaeecfhmenaa.Print
open Go.RowKit Go.Proofs.YthmgaeecfhmenaaW.PrintWords Go.Proofs.YthmgaeecfhmenaaW.PrintLast Go.Proofs.YthmgaeecfhmenaaW.PrintMore
attribute [local go_sem] max2_int min2_int max_two min_two max_three min_three max_four min_four   -- for this text's walks alone
set_option linter.unusedVariables false
set_option linter.unusedSimpArgs false

/-! ### precentorref05_Spoil: function 18 -/
def precentorref05_Spoil.j0 : Nat → List (S29) → Int → Int → List Int → Bool → Option ((List (S29)) × Int)
  | 0, _, _, _, _, _ => none
  | k + 1, x0, x1, x2, x3, x19 => if x19 = true then (some (x0, 7)) else (if 0 ≤ x1 then (if x1 < (x0.length : Int) then ((precentorref01_Spoil.f k ((rd_T29 x0 x1).f1) x2 x3).bind fun t121 => (if (rd_T29 x0 x1).f2 = true then (some (x0, 0)) else (if (strOfNums t121).toList = (strOfNums ((rd_T29 x0 x1).f1)).toList then (some (x0, 0)) else ((some (([] : List (S29)) : List (S29))).bind fun y128 => (if x1 ≤ (x0.length : Int) then ((some (x0.take (x1 : Int).toNat : List (S29))).bind fun y131 => (if y128.length + y131.length < 3518437208883 then ((some (y128 ++ y131 : List (S29))).bind fun y136 => ((some (([(⟨(rd_T29 x0 x1).f0, t121, true⟩ : S29)] : List (S29)) : List (S29))).bind fun y139 => (if y136.length + y139.length < 3518437208883 then ((some (y136 ++ y139 : List (S29))).bind fun y142 => (if 0 ≤ (wrap64 (x1 + 1)) then (if (wrap64 (x1 + 1)) ≤ (x0.length : Int) then ((some (x0.drop ((wrap64 (x1 + 1)) : Int).toNat : List (S29))).bind fun y145 => (if y142.length + y145.length < 3518437208883 then (some ((y142 ++ y145), 0)) else (none))) else (none)) else (none))) else (none)))) else (none))) else (none)))))) else (none)) else (none))
def precentorref05_Spoil.f (k : Nat) (l0 : List (S29)) (a1 : Int) (a2 : Int) (l3 : List Int) : Option ((List (S29)) × Int) := if a1 < 0 then (precentorref05_Spoil.j0 k l0 a1 a2 l3 true) else (precentorref05_Spoil.j0 k l0 a1 a2 l3 (decide (a1 ≥ (l0.length : Int))))
theorem precentorref05_Spoil.mono_l : ∀ k, (∀ y0 y1 y2 y3 y4, LeO (precentorref05_Spoil.j0 k y0 y1 y2 y3 y4) (precentorref05_Spoil.j0 (k + 1) y0 y1 y2 y3 y4))
  | 0 => fun _ _ _ _ _ r h => by simp [precentorref05_Spoil.j0] at h
  | k + 1 => by
    have ih0 := precentorref05_Spoil.mono_l k
    · intro y0 y1 y2 y3 y4
      unfold precentorref05_Spoil.j0
      repeat' first
      | (with_reducible exact ih0 _ _ _ _ _)
      | (with_reducible exact precentorref01_Spoil.mono _ _ _ _)
      | (with_reducible exact LeO.refl _)
      | (with_reducible exact LeO.none _)
      | (with_reducible refine LeO.ite ?_ ?_)
      | (with_reducible refine LeO.bind ?_ (fun _ => ?_))
      | exact ih0 _ _ _ _ _
      | exact precentorref01_Spoil.mono _ _ _ _
      | exact LeO.none _
      | refine LeO.ite ?_ ?_
      | refine LeO.bind ?_ (fun _ => ?_)
theorem precentorref05_Spoil.mono : ∀ a0 a1 a2 a3 k, LeO (precentorref05_Spoil.f k a0 a1 a2 a3) (precentorref05_Spoil.f (k + 1) a0 a1 a2 a3) := by
  intro a0 a1 a2 a3 k
  have ih0 := precentorref05_Spoil.mono_l k
  unfold precentorref05_Spoil.f
  repeat' first
      | (with_reducible exact ih0 _ _ _ _ _)
      | (with_reducible exact precentorref01_Spoil.mono _ _ _ _)
      | (with_reducible exact LeO.refl _)
      | (with_reducible exact LeO.none _)
      | (with_reducible refine LeO.ite ?_ ?_)
      | (with_reducible refine LeO.bind ?_ (fun _ => ?_))
      | exact ih0 _ _ _ _ _
      | exact precentorref01_Spoil.mono _ _ _ _
      | exact LeO.none _
      | refine LeO.ite ?_ ?_
      | refine LeO.bind ?_ (fun _ => ?_)
theorem spoil_cases {k : Nat} {l0 : List S29} {a1 a2 : Int} {l3 : List Int} {r1 : List S29} {r2 : Int} (h : precentorref05_Spoil.f k l0 a1 a2 l3 = some (r1, r2)) :
    (¬ (0 ≤ a1 ∧ a1 < (l0.length : Int)) ∧ r1 = l0 ∧ r2 = 7) ∨ ∃ (p k' : Nat) (t : List Int), a1 = (p : Int) ∧ p < l0.length ∧ precentorref01_Spoil.f k' (rd_T29 l0 (p : Int)).f1 a2 l3 = some t ∧ r2 = 0 ∧
      (((rd_T29 l0 (p : Int)).f2 = true ∧ r1 = l0) ∨ ((rd_T29 l0 (p : Int)).f2 = false ∧ ((strOfNums t).toList == (strOfNums (rd_T29 l0 (p : Int)).f1).toList) = true ∧ r1 = l0) ∨
        ((rd_T29 l0 (p : Int)).f2 = false ∧ ((strOfNums t).toList == (strOfNums (rd_T29 l0 (p : Int)).f1).toList) = false ∧ r1 = l0.take p ++ [⟨(rd_T29 l0 (p : Int)).f0, t, true⟩] ++ l0.drop (p + 1) ∧ l0.length < 3518437208883)) := by
  unfold precentorref05_Spoil.f at h
  by_cases h0 : a1 < 0
  · rw [if_pos h0] at h
    cases k with
    | zero => cases h
    | succ k =>
      simp only [precentorref05_Spoil.j0] at h
      rw [if_pos trivial] at h
      cases h
      exact .inl ⟨by omega, rfl, rfl⟩
  · rw [if_neg h0] at h
    cases k with
    | zero => cases h
    | succ k =>
      simp only [precentorref05_Spoil.j0] at h
      by_cases h1 : a1 ≥ (l0.length : Int)
      · rw [if_pos (decide_eq_true h1)] at h
        cases h
        exact .inl ⟨by omega, rfl, rfl⟩
      · rw [if_neg (by rw [decide_eq_false h1]; exact Bool.false_ne_true), if_pos (by omega), if_pos (by omega)] at h
        obtain ⟨p, rfl⟩ : ∃ p : Nat, a1 = (p : Int) := ⟨a1.toNat, by omega⟩
        obtain ⟨t, ht, h⟩ := Option.bind_eq_some_iff.1 h
        refine .inr ⟨p, k, t, rfl, by omega, ht, ?_⟩
        by_cases h2 : (rd_T29 l0 (p : Int)).f2 = true
        · rw [if_pos h2] at h
          cases h
          exact ⟨rfl, .inl ⟨h2, rfl⟩⟩
        · rw [if_neg h2] at h
          have h2 := Bool.eq_false_iff.2 h2
          by_cases h3 : (strOfNums t).toList = (strOfNums (rd_T29 l0 (p : Int)).f1).toList
          · rw [if_pos h3] at h
            cases h
            exact ⟨rfl, .inr (.inl ⟨h2, beq_iff_eq.2 h3, rfl⟩)⟩
          · rw [if_neg h3] at h
            have e1 : ((p : Int)).toNat = p := Int.toNat_natCast p
            have e2 : (((p + 1 : Nat) : Int)).toNat = p + 1 := Int.toNat_natCast (p + 1)
            rw [Option.bind_some, if_pos (by omega), Option.bind_some, e1, List.nil_append, List.length_nil, List.length_take] at h
            by_cases b1 : 0 + min p l0.length < 3518437208883
            · rw [if_pos b1, Option.bind_some, Option.bind_some, List.length_take, List.length_singleton] at h
              by_cases b2 : min p l0.length + 1 < 3518437208883
              · have hw : wrap64 ((p : Int) + 1) = (((p + 1 : Nat)) : Int) := by rw [CrcPlain.wrap_id (by omega) (by omega)]; rfl
                rw [if_pos b2, Option.bind_some, hw, if_pos (by omega), if_pos (by omega), Option.bind_some, e2, List.length_append, List.length_take, List.length_drop, List.length_singleton] at h
                by_cases b3 : min p l0.length + 1 + (l0.length - (p + 1)) < 3518437208883
                · rw [if_pos b3] at h
                  obtain ⟨h4, h5⟩ := Prod.mk.inj (Option.some.inj h)
                  exact ⟨h5.symm, .inr (.inr ⟨h2, beq_eq_false_iff_ne.2 h3, h4.symm, by omega⟩)⟩
                · rw [if_neg b3] at h; cases h
              · rw [if_neg b2] at h; cases h
            · rw [if_neg b1] at h; cases h
set_option maxHeartbeats 8000000 in
set_option maxRecDepth 100000 in
theorem precentorref05_Spoil.calls (k : Nat) (P0_ : Nat → Prop) (A0 : Option Addr) (c0 : Nat) (l0 : List (S29)) (a1 : Int) (a2 : Int) (A3 : Option Addr) (c3 : Nat) (l3 : List Int) (r1 : List (S29)) (r2 : Int) (w : World) (hs0 : Kd.V k29 29 w w.heap.size (fun k_ => P0_ k_) (.slice A0 l0.length c0) l0) (hr3 : Kd.C (Kd.int .u8) w A3 l3.length l3) (hc3 : l3.length ≤ c3) (h : precentorref05_Spoil.f k l0 a1 a2 l3 = some (r1, r2)) :
    Calls Try.prog 18 #[.slice A0 l0.length c0, .int .i64 a1, .int .i64 a2, .slice A3 l3.length c3] w fun e w' => ∃ v0_ : Value, e = .returned (.tuple #[v0_, .int .i64 r2]) ∧ Kd.V k29 29 w' w.heap.size (fun k_ => (P0_ k_ ∨ w.heap.size ≤ k_)) v0_ r1 ∧ Below w.heap.size w w' := by
  rcases spoil_cases h with ⟨hin, rfl, rfl⟩ | ⟨p, k', t, rfl, hp, hsp, rfl, hr⟩
  · have HV := Aside0.mk hs0
    by_cases h0 : a1 < 0
    · have hd1 : decide (a1 < 0) = true := decide_eq_true h0
      clear hs0 hin h0 h hr3 hc3
      go_enter Try.func18, Try.ntmps18
      go_wp2_with fail
      go_ret2
      exact ⟨_, rfl, Kd.V_mono HV.out (fun _ hk => Or.inl hk), Below.refl _ _⟩
    · have hd1 : decide (a1 < 0) = false := decide_eq_false h0
      have hd2 : decide (a1 ≥ (r1.length : Int)) = true := decide_eq_true (by omega)
      have hd3 : decide ((r1.length : Int) ≤ a1) = true := decide_eq_true (by omega)
      clear hs0 hin h0 h hr3 hc3
      go_enter Try.func18, Try.ntmps18
      go_wp2_with fail
      go_ret2
      exact ⟨_, rfl, Kd.V_mono HV.out (fun _ hk => Or.inl hk), Below.refl _ _⟩
  · clear h
    obtain ⟨_, hcap, hF⟩ := Kd.V_at hs0
    have hFb := Kd.F_bound hF
    obtain ⟨ad, A1, c1, rfl, q0, q1, q2, hl1, hF1⟩ := elem hFb p hp
    have HF := Aside0.mk hFb
    have HF1 := Aside0.mk hF1
    have HL1 := Aside0.mk hl1
    have HR3 := Aside0.mk hr3
    have HC3 := Aside0.mk hc3
    have HR := Lib.hid hr
    have HSP := Lib.hid hsp
    have HCAP := Lib.hid hcap
    generalize (rd_T29 l0 p).f0 = xa at *
    generalize (rd_T29 l0 p).f1 = xb at *
    generalize (rd_T29 l0 p).f2 = xc at *
    have hpi : (p : Int) < (l0.length : Int) := by omega
    have hp0 : (0 : Int) ≤ (p : Int) := by omega
    have hd1 : decide ((p : Int) < 0) = false := decide_eq_false (by omega)
    have hd2 : decide ((p : Int) ≥ (l0.length : Int)) = false := decide_eq_false (by omega)
    have hd3 : decide (l0.length ≤ p) = false := decide_eq_false (by omega)
    have HP := Lib.hid hp
    clear hs0 hF hFb hF1 hl1 hr3 hc3 hr hsp hcap hp
    go_enter Try.func18, Try.ntmps18
    go_wp2_with fail
    refine (precentorref01_Spoil.calls k' A1 c1 xb a2 A3 c3 l3 t w (Kd.F_now HF1.out) HL1.out HR3.out HC3.out HSP.out).mono ?_
    rintro e w1 ⟨v1, rfl, ho, hb⟩
    obtain ⟨A4, c4, rfl⟩ := Kd.R_slice ho
    have HL4 := Aside0.mk (Kd.V_at (Kd.R_V (base' := 0) ho)).2.1
    have HF4 := Aside0.mk (Kd.F_bound (Kd.R_F (Kd.R_mono (ok' := fun k => w.heap.size ≤ k) (Kd.R_bound ho) (fun k hk => hk.2.1))))
    have hs1 : ∀ m : Nat, (convert 23 9 (.slice A4 t.length c4)).run Try.prog (w1.drewN m) = .ok (.string (strOfNums t)) (w1.drewN m) := own_string_d (P := Try.prog) Try.underlying23 Try.underlying5 Try.underlying9 ho
    have hs2 : ∀ m : Nat, (convert 23 9 (.slice A1 xb.length c1)).run Try.prog (w1.drewN m) = .ok (.string (strOfNums xb)) (w1.drewN m) := fun m => Kd.C_string (P := Try.prog) (A := A1) (c := c1) Try.underlying23 Try.underlying5 Try.underlying9 (Kd.C_below (Kd.F_now HF1.out) (pw_below_drewN hb m))
    have HB := Aside0.mk hb
    have y0 := pk hb q0
    have y1 := pk hb q1
    have y2 := pk hb q2
    clear ho hb HSP
    have hr := HR.out
    clear HR
    rcases hr with ⟨rfl, rfl⟩ | ⟨rfl, hq, rfl⟩ | ⟨rfl, hq, hr, hlim⟩
    · go_wp2_with fail
      go_quiet (fail)
      go_wp2_with fail
      go_ret2
      exact ⟨_, rfl, Kd.V_mono (Kd.V_mk HCAP.out (Kd.F_below HF.out (pw_below_drewN HB.out _))) (fun _ hk => Or.inl hk.1), pw_below_drewN HB.out _⟩
    · go_wp2_with fail
      go_quiet (fail)
      go_wp2_with fail
      go_ret2
      exact ⟨_, rfl, Kd.V_mono (Kd.V_mk HCAP.out (Kd.F_below HF.out (pw_below_drewN HB.out _))) (fun _ hk => Or.inl hk.1), pw_below_drewN HB.out _⟩
    · have HLIM := Lib.hid hlim
      have HRR := Lib.hid hr
      clear hlim hr
      go_wp2_with fail
      go_quiet (fail)
      have HB4 := Aside0.mk (pw_below_drewN HB.out nq)
      have HX4 := Aside0.mk (pw_below_drewN (Below.refl w1.heap.size w1) nq)
      have y0 := pk HB4.out q0
      have y1 := pk HB4.out q1
      have y2 := pk HB4.out q2
      generalize hgw : w1.drewN nq = wq at *
      clear hgw hs1 hs2
      go_wp2_with (first | ((with_reducible refine gate_dst (N := 11) rfl ?_); (try (refine gate_guard (by rfl) ?_; dsimp only)); refine box_event ?hg (N := 11) ?hd (cs := #[.int .i64 0, .slice none 0 0, .bool false]) (t := 29) ?hr ?_; (case hd => rfl); (case hg => rfl); (case hr => first | (go_simp; done) | (go_simp; rfl)); intro gb hg w5 hbox hb; have HBX := Aside0.mk hbox; have HG := Aside0.mk hg; have HB5 := Aside0.mk hb; have hcz0 := (blk_cell hbox 0).trans (show _ = some (Value.int .i64 0) from rfl); have hcz1 := (blk_cell hbox 1).trans (show _ = some (Value.slice none 0 0) from rfl); have hcz2 := (blk_cell hbox 2).trans (show _ = some (Value.bool false) from rfl); have hfz0 := blk_frozen hbox 0; have hfz1 := blk_frozen hbox 1; have hfz2 := blk_frozen hbox 2; clear hbox hg hb))
      obtain ⟨n, hn⟩ : ∃ n : Nat, l0.length = p + n + 1 := ⟨l0.length - p - 1, by have := HP.out; omega⟩
      have hge : wq.heap.size ≤ gb := Nat.le_of_eq HG.out.symm
      have hb9 : Below wq.heap.size wq (((w5.setCell ⟨gb, 0, none⟩ (.int .i64 xa)).setCell ⟨gb, 1, none⟩ (.slice A4 t.length c4)).setCell ⟨gb, 2, none⟩ (.bool true)) := ((HB5.out.setCell hge _).setCell hge _).setCell hge _
      have hX9 := blk_set (blk_set (blk_set HBX.out 0 (.int .i64 xa)) 1 (.slice A4 t.length c4)) 2 (.bool true)
      generalize hg9 : (((w5.setCell ⟨gb, 0, none⟩ (.int .i64 xa)).setCell ⟨gb, 1, none⟩ (.slice A4 t.length c4)).setCell ⟨gb, 2, none⟩ (.bool true)) = w9 at *
      have hB9 := below_step HB4.out hb9
      have q0 := (blk_cell hX9 0).trans (show _ = some (Value.int .i64 xa) from rfl)
      have q1 := (blk_cell hX9 1).trans (show _ = some (Value.slice A4 t.length c4) from rfl)
      have q2 := (blk_cell hX9 2).trans (show _ = some (Value.bool true) from rfl)
      have hF9 : Kd.F k29 w9 (fun k => (P0_ k ∨ w.heap.size ≤ k) ∧ k < w9.heap.size) (some ad) l0.length l0 := Kd.F_bound (Kd.F_mono (Kd.F_below HF.out hB9) (fun _ hk => Or.inl hk.1))
      have hF49 : Kd.F (Kd.int .u8) w9 (fun k => (P0_ k ∨ w.heap.size ≤ k) ∧ k < w9.heap.size) A4 t.length t := Kd.F_bound (Kd.F_mono (Kd.F_below HF4.out (below_step HX4.out hb9)) (fun _ hk => Or.inr hk.1))
      have hFc := Kd.F_cut hF9 (show p + 1 ≤ l0.length by omega) HCAP.out
      have hFt := Kd.F_take hF9 (show p ≤ l0.length by omega)
      rw [List.length_drop, show l0.length - (p + 1) = n by omega] at hFc
      rw [List.length_take, Nat.min_eq_left (by omega)] at hFt
      obtain ⟨iL, hiL, hzL, hsL, hbL⟩ := info_parts info29
      have hsz : k29.sz = 3 := rfl
      rw [hsz] at hFc
      have hsl1 := cut_from (P := Try.prog) 22 29 .i64 Try.underlying22 hiL 3 hsL (some ad) l0.length c0 ((p : Int) + 1) (by omega) (by omega)
      rw [show ((p : Int) + 1).toNat = p + 1 by omega, show l0.length - (p + 1) = n by omega] at hsl1
      have hsl2 := cut_to (P := Try.prog) 22 29 .i64 Try.underlying22 hiL (some ad) l0.length c0 (p : Int) (by omega) (by omega) HCAP.out
      rw [Int.toNat_natCast] at hsl2
      generalize hpA : (if c0 = p + 1 then some ad else Option.map (fun x => x.add ((p + 1) * 3)) (some ad)) = pA at hsl1 hFc
      have hw2 : IntKind.i64.wrap ((p : Int) + 1) = (p : Int) + 1 := IntWalk.i64_in _ (by have := HLIM.out; omega)
      have HF := Aside0.mk hFt
      have HFC := Aside0.mk hFc
      have HF1 := Aside0.mk hF49
      have HB9 := Aside0.mk hB9
      have HN0 := Lib.hid hn
      have HSZ := Lib.hid (below_size hB9)
      obtain ⟨P1, hP1⟩ : ∃ P1 : Nat → Prop, P1 = fun k => P0_ k ∨ w.heap.size ≤ k := ⟨_, rfl⟩
      have HP1 := Lib.hid hP1
      clear hg9 hge hb9 hX9 HBX HG HB5 hfz0 hfz1 hfz2 hcz0 hcz1 hcz2 y0 y1 y2 HB4 HX4 hF9 hF49 hB9 hiL hzL hsL hbL hsz hpA hn hFt hFc hP1 HF4 HB
      refine start_ (n := 15) (S := fun w' => w'.cell? ⟨gb, 0, none⟩ = some (.int .i64 xa) ∧ w'.cell? ⟨gb, 1, none⟩ = some (.slice A4 t.length c4) ∧ w'.cell? ⟨gb, 2, none⟩ = some (.bool true)) (ds := []) #[false, false, false, false, false, false, false, false, false, false, false, false, false, false, false] (by kernel_rfl) rfl rfl ⟨q0, q1, q2⟩ (fun hHeld => ?_)
      have HB := Aside0.mk (below_drew1 (Below.refl w9.heap.size w9))
      generalize hw3_ : w9.drew = v3 at *
      clear hw3_
      refine pure_ (i := 1) (N := some 54) (v := ?_) (a' := ?_) #[false, true, false, false, false, false, false, false, false, false, false, false, false, false, false] rfl rfl (by kernel_rfl) (fun _ _ _ h => h) (Or.inl ⟨by rfl, ?_⟩) ?_ ?_
      rotate_left
      · intro w'
        go_simp
        with_reducible rfl
      rotate_left
      · simp only [Act.put, List.setIfInBounds_toArray, List.set_cons_zero, List.set_cons_succ, i64_w, i32_w]
        rfl
      refine pure_ (i := 2) (N := some 55) (v := ?_) (a' := ?_) #[false, true, true, false, false, false, false, false, false, false, false, false, false, false, false] rfl rfl (by kernel_rfl) (fun _ _ _ h => h) (Or.inl ⟨by rfl, ?_⟩) ?_ ?_
      rotate_left
      · intro w'
        go_simp
        with_reducible rfl
      rotate_left
      · simp only [Act.put, List.setIfInBounds_toArray, List.set_cons_zero, List.set_cons_succ, i64_w, i32_w]
        rfl
      refine pure_ (i := 3) (N := some 56) (v := ?_) (a' := ?_) #[false, true, true, true, false, false, false, false, false, false, false, false, false, false, false] rfl rfl (by kernel_rfl) (fun _ _ _ h => h) (Or.inl ⟨by rfl, ?_⟩) ?_ ?_
      rotate_left
      · intro w'
        go_simp
        with_reducible rfl
      rotate_left
      · simp only [Act.put, List.setIfInBounds_toArray, List.set_cons_zero, List.set_cons_succ, i64_w, i32_w]
        rfl
      refine pure_ (i := 8) (N := some 61) (v := ?_) (a' := ?_) #[false, true, true, true, false, false, false, false, true, false, false, false, false, false, false] rfl rfl (by kernel_rfl) (fun _ _ _ h => h) (Or.inl ⟨by rfl, ?_⟩) ?_ ?_
      rotate_left
      · intro w'
        go_simp
        with_reducible rfl
      rotate_left
      · simp only [Act.put, List.setIfInBounds_toArray, List.set_cons_zero, List.set_cons_succ, i64_w, i32_w]
        rfl
      refine pure_ (i := 9) (N := some 62) (v := ?_) (a' := ?_) #[false, true, true, true, false, false, false, false, true, true, false, false, false, false, false] rfl rfl (by kernel_rfl) (fun _ _ _ h => h) (Or.inl ⟨by rfl, ?_⟩) ?_ ?_
      rotate_left
      · intro w'
        go_simp
        with_reducible rfl
      rotate_left
      · simp only [Act.put, List.setIfInBounds_toArray, List.set_cons_zero, List.set_cons_succ, i64_w, i32_w]
        rfl
      refine pure_ (i := 10) (N := some 63) (v := ?_) (a' := ?_) #[false, true, true, true, false, false, false, false, true, true, true, false, false, false, false] rfl rfl (by kernel_rfl) (fun _ _ _ h => h) (Or.inl ⟨by rfl, ?_⟩) ?_ ?_
      rotate_left
      · intro w'
        go_simp
        with_reducible rfl
      rotate_left
      · simp only [Act.put, List.setIfInBounds_toArray, List.set_cons_zero, List.set_cons_succ, i64_w, i32_w]
        rfl
      refine pure_ (i := 11) (N := some 64) (v := ?_) (a' := ?_) #[false, true, true, true, false, false, false, false, true, true, true, true, false, false, false] rfl rfl (by kernel_rfl) (fun _ _ _ h => h) (Or.inl ⟨by rfl, ?_⟩) ?_ ?_
      rotate_left
      · intro w'
        go_simp
        with_reducible rfl
      rotate_left
      · simp only [Act.put, List.setIfInBounds_toArray, List.set_cons_zero, List.set_cons_succ, i64_w, i32_w]
        rfl
      refine take_ (i := 5) (N := some 58) (v := ?_) (a' := ?_) #[false, true, true, true, false, true, false, false, true, true, true, true, false, false, false] rfl rfl (by kernel_rfl) (fun _ _ _ h => h) (Or.inl ⟨by rfl, ?_⟩) hHeld ?_ ?_
      rotate_left
      · rintro w' ⟨s0, s1, s2⟩
        go_simp
        with_reducible rfl
      rotate_left
      · simp only [Act.put, List.setIfInBounds_toArray, List.set_cons_zero, List.set_cons_succ, i64_w, i32_w]
        rfl
      refine join_ (σ := Nat × Value × Nat) 4 #[true, true, true, true, true, true, true, false, true, true, true, true, false, false, false] (fun s_ => [(53, .slice (some ⟨s_.1, 0, none⟩) 0 0), (57, s_.2.1), (59, .slice (some ⟨s_.2.2, 0, none⟩) 1 1)]) (fun s_ w2_ => (w2_.cell? ⟨gb, 0, none⟩ = some (.int .i64 xa) ∧ w2_.cell? ⟨gb, 1, none⟩ = some (.slice A4 t.length c4) ∧ w2_.cell? ⟨gb, 2, none⟩ = some (.bool true)) ∧ DupG P1 w9 (l0.take p) (⟨xa, t, true⟩ : S29) s_.2.1 s_.2.2 w2_) ?_ ?_
      rotate_left
      · intro hCont
        refine two_ (i := 0) (j := 6) (Ni := some 53) (Nj := some 59) #[true, true, true, true, false, true, false, false, true, true, true, true, false, false, false] #[false, true, true, true, false, true, true, false, true, true, true, true, false, false, false] rfl rfl rfl rfl (by kernel_rfl) (by decide) (by decide) (fun K hK => ?_) (fun K hK => ?_)
        · skip
          refine value_ (w1 := ?_) (v := ?_) (by rfl) rfl ?_ ?_
          rotate_left 2
          · go_simp
            constructor
            · rfl
            · rfl
          have hN0 := N_block (d := k29) (e := 29) (base := w9.heap.size) (g := v3.heap.size) (cap := 0) (ok := fun k => k = v3.heap.size) (okp := fun _ => False) (xs := []) (cs := []) (zs := []) (blk_new v3 (Obj.cells #[] 29)) (below_size HB.out) rfl (Nat.le_refl _) (by decide) (Reps.none _ _) rfl (fun _ h => h.elim)
          have HN := Aside0.mk hN0
          have n0_ := Aside0.mk (below_alloc HB.out (Obj.cells #[] 29))
          have HG0 := Lib.hid (below_size HB.out)
          clear HB hN0
          have HB := n0_
          clear n0_
          generalize hgl_ : v3.alloc (Obj.cells #[] 29) = v4 at *
          clear hgl_
          generalize v3.heap.size = g0 at *
          refine hK.out _ _ ⟨pk HB.out q0, pk HB.out q1, pk HB.out q2⟩ (fun hHeld => ?_)
          clear hK K
          refine norm_ (a' := ?_) ?_ ?_
          rotate_left
          · show Act.put _ (some 53) _ = _
            simp only [Act.put, List.setIfInBounds_toArray, List.set_cons_zero, List.set_cons_succ, i64_w, i32_w]
            rfl
          refine two_ (i := 4) (j := 6) (Ni := some 57) (Nj := some 59) #[true, true, true, true, true, true, false, false, true, true, true, true, false, false, false] #[true, true, true, true, false, true, true, false, true, true, true, true, false, false, false] rfl rfl rfl rfl (by kernel_rfl) (by decide) (by decide) (fun K hK => ?_) (fun K hK => ?_)
          · skip
            refine Kd.N_append_rows_step k29 (w0 := w9) w9.heap.size (by rfl) (.tmp 53) (.tmp 56) 22 29 (.agg #[(.int .i64 0), (.slice none 0 0), (.bool false)]) 40 rfl Try.underlying22 info29 rfl (by decide) (by omega) (.slice (some ⟨g0, 0, none⟩) 0 0) [] (l0.take p) _ _ _ (fun k => (P1 k ∧ k < w9.heap.size) ∨ w9.heap.size ≤ k) (fun k => P1 k ∧ k < w9.heap.size) rfl rfl ?aO ?aR ?aK ?aF ?aB ?aS ?aL ?_
            (case aO => exact Kd.N_mono HN.out (fun k hk => Or.inr (by have := HG0.out; omega)))
            (case aR => exact Kd.F_mono (Kd.F_below HF.out HB.out) (fun k hk => by rw [HP1.out]; exact hk))
            (case aK => exact fun k hk => ⟨Or.inl hk, by simp only [Value.ownBlock, ne_eq, Option.some.injEq]; have h1 := hk.2; have h2 := HG0.out; omega⟩)
            (case aF => exact fun k hk => Or.inr (Nat.le_trans (below_size HB.out) hk))
            (case aB => exact HB.out)
            (case aS => exact below_size HB.out)
            (case aL => simp only [List.length_nil, List.length_take]; have h1 := HLIM.out; omega)
            intro v1 v10 ho hb hg hat
            have HN2 := Aside0.mk ho
            have HB := Aside0.mk hb
            clear ho hb hg hat
            refine hK.out _ _ ⟨pk HB.out q0, pk HB.out q1, pk HB.out q2⟩ (fun hHeld => ?_)
            clear hK K
            refine norm_ (a' := ?_) ?_ ?_
            rotate_left
            · show Act.put _ (some 57) _ = _
              simp only [Act.put, List.setIfInBounds_toArray, List.set_cons_zero, List.set_cons_succ, i64_w, i32_w]
              rfl
            refine one_ (i := 6) (N := some 59) #[true, true, true, true, true, true, true, false, true, true, true, true, false, false, false] rfl rfl (by kernel_rfl) (by decide) (fun K hK => ?_)
            refine value_ (w1 := ?_) (v := ?_) (by rfl) rfl ?_ ?_
            rotate_left 2
            · go_simp
              constructor
              · rfl
              · rfl
            have HX := Aside0.mk (blk_new v10 (Obj.cells #[.int .i64 xa, .slice A4 t.length c4, .bool true] 29))
            have HBL := Lib.hid (below_size HB.out)
            have n0_ := Aside0.mk (below_alloc HB.out (Obj.cells #[.int .i64 xa, .slice A4 t.length c4, .bool true] 29))
            clear HB
            have HB := n0_
            clear n0_
            have HN3 := Aside0.mk (Kd.N_alloc (Kd.N_bound HN2.out) (Obj.cells #[.int .i64 xa, .slice A4 t.length c4, .bool true] 29))
            generalize hgl_ : v10.alloc (Obj.cells #[.int .i64 xa, .slice A4 t.length c4, .bool true] 29) = v9 at *
            clear hgl_
            generalize v10.heap.size = b0 at *
            refine hK.out _ _ ⟨pk HB.out q0, pk HB.out q1, pk HB.out q2⟩ (fun hHeld => ?_)
            clear hK K
            refine norm_ (a' := ?_) ?_ ?_
            rotate_left
            · show Act.put _ (some 59) _ = _
              simp only [Act.put, List.setIfInBounds_toArray, List.set_cons_zero, List.set_cons_succ, i64_w, i32_w]
              rfl
            exact norm_ (by simp only [putAll, Act.put, List.setIfInBounds_toArray, List.set_cons_zero, List.set_cons_succ]) (hCont (g0, v1, b0) _ ⟨hHeld, dupG_mk HB.out (Kd.N_mono HN3.out (fun k hk => hk.1.elim (fun h => Or.inl h) (fun h => Or.inr ⟨h, Nat.ne_of_lt hk.2⟩))) HX.out (Kd.F_mono HF1.out (fun k hk => by rw [HP1.out]; exact hk)) HL4.out HBL.out⟩)
          · skip
            refine value_ (w1 := ?_) (v := ?_) (by rfl) rfl ?_ ?_
            rotate_left 2
            · go_simp
              constructor
              · rfl
              · rfl
            have HX := Aside0.mk (blk_new v4 (Obj.cells #[.int .i64 xa, .slice A4 t.length c4, .bool true] 29))
            have HBL := Lib.hid (below_size HB.out)
            have n0_ := Aside0.mk (below_alloc HB.out (Obj.cells #[.int .i64 xa, .slice A4 t.length c4, .bool true] 29))
            clear HB
            have HB := n0_
            clear n0_
            have HGB := Lib.hid (Nat.ne_of_lt (Kd.N_lt HN.out g0 rfl))
            have n1_ := Aside0.mk (Kd.N_alloc HN.out (Obj.cells #[.int .i64 xa, .slice A4 t.length c4, .bool true] 29))
            clear HN
            have HN := n1_
            clear n1_
            generalize hgl_ : v4.alloc (Obj.cells #[.int .i64 xa, .slice A4 t.length c4, .bool true] 29) = v7 at *
            clear hgl_
            generalize v4.heap.size = b0 at *
            refine hK.out _ _ ⟨pk HB.out q0, pk HB.out q1, pk HB.out q2⟩ (fun hHeld => ?_)
            clear hK K
            refine norm_ (a' := ?_) ?_ ?_
            rotate_left
            · show Act.put _ (some 59) _ = _
              simp only [Act.put, List.setIfInBounds_toArray, List.set_cons_zero, List.set_cons_succ, i64_w, i32_w]
              rfl
            refine one_ (i := 4) (N := some 57) #[true, true, true, true, true, true, true, false, true, true, true, true, false, false, false] rfl rfl (by kernel_rfl) (by decide) (fun K hK => ?_)
            refine Kd.N_append_rows_step k29 (w0 := w9) w9.heap.size (by rfl) (.tmp 53) (.tmp 56) 22 29 (.agg #[(.int .i64 0), (.slice none 0 0), (.bool false)]) 40 rfl Try.underlying22 info29 rfl (by decide) (by omega) (.slice (some ⟨g0, 0, none⟩) 0 0) [] (l0.take p) _ _ _ (fun k => (P1 k ∧ k < w9.heap.size) ∨ (w9.heap.size ≤ k ∧ k ≠ b0)) (fun k => P1 k ∧ k < w9.heap.size) rfl rfl ?aO ?aR ?aK ?aF ?aB ?aS ?aL ?_
            (case aO => exact Kd.N_mono HN.out (fun k hk => Or.inr ⟨by have := HG0.out; omega, by have := HGB.out; omega⟩))
            (case aR => exact Kd.F_mono (Kd.F_below HF.out HB.out) (fun k hk => by rw [HP1.out]; exact hk))
            (case aK => exact fun k hk => ⟨Or.inl hk, by simp only [Value.ownBlock, ne_eq, Option.some.injEq]; have h1 := hk.2; have h2 := HG0.out; omega⟩)
            (case aF => exact fun k hk => Or.inr ⟨Nat.le_trans (below_size HB.out) hk, by have := blk_lt HX.out; omega⟩)
            (case aB => exact HB.out)
            (case aS => exact below_size HB.out)
            (case aL => simp only [List.length_nil, List.length_take]; have h1 := HLIM.out; omega)
            intro v1 v10 ho hb hg hat
            have HN2 := Aside0.mk ho
            have HB := Aside0.mk hb
            have HX := Aside0.mk (blk_grown HX.out hg (by simp only [Value.ownBlock, ne_eq, Option.some.injEq]; have := HGB.out; omega))
            clear ho hb hg hat
            refine hK.out _ _ ⟨pk HB.out q0, pk HB.out q1, pk HB.out q2⟩ (fun hHeld => ?_)
            clear hK K
            refine norm_ (a' := ?_) ?_ ?_
            rotate_left
            · show Act.put _ (some 57) _ = _
              simp only [Act.put, List.setIfInBounds_toArray, List.set_cons_zero, List.set_cons_succ, i64_w, i32_w]
              rfl
            exact norm_ (by simp only [putAll, Act.put, List.setIfInBounds_toArray, List.set_cons_zero, List.set_cons_succ]) (hCont (g0, v1, b0) _ ⟨hHeld, dupG_mk HB.out HN2.out HX.out (Kd.F_mono HF1.out (fun k hk => by rw [HP1.out]; exact hk)) HL4.out HBL.out⟩)
        · skip
          refine value_ (w1 := ?_) (v := ?_) (by rfl) rfl ?_ ?_
          rotate_left 2
          · go_simp
            constructor
            · rfl
            · rfl
          have HX := Aside0.mk (blk_new v3 (Obj.cells #[.int .i64 xa, .slice A4 t.length c4, .bool true] 29))
          have HBL := Lib.hid (below_size HB.out)
          have n0_ := Aside0.mk (below_alloc HB.out (Obj.cells #[.int .i64 xa, .slice A4 t.length c4, .bool true] 29))
          clear HB
          have HB := n0_
          clear n0_
          generalize hgl_ : v3.alloc (Obj.cells #[.int .i64 xa, .slice A4 t.length c4, .bool true] 29) = v5 at *
          clear hgl_
          generalize v3.heap.size = b0 at *
          refine hK.out _ _ ⟨pk HB.out q0, pk HB.out q1, pk HB.out q2⟩ (fun hHeld => ?_)
          clear hK K
          refine norm_ (a' := ?_) ?_ ?_
          rotate_left
          · show Act.put _ (some 59) _ = _
            simp only [Act.put, List.setIfInBounds_toArray, List.set_cons_zero, List.set_cons_succ, i64_w, i32_w]
            rfl
          refine one_ (i := 0) (N := some 53) #[true, true, true, true, false, true, true, false, true, true, true, true, false, false, false] rfl rfl (by kernel_rfl) (by decide) (fun K hK => ?_)
          refine value_ (w1 := ?_) (v := ?_) (by rfl) rfl ?_ ?_
          rotate_left 2
          · go_simp
            constructor
            · rfl
            · rfl
          have hN0 := N_block (d := k29) (e := 29) (base := w9.heap.size) (g := v5.heap.size) (cap := 0) (ok := fun k => k = v5.heap.size) (okp := fun _ => False) (xs := []) (cs := []) (zs := []) (blk_new v5 (Obj.cells #[] 29)) (below_size HB.out) rfl (Nat.le_refl _) (by decide) (Reps.none _ _) rfl (fun _ h => h.elim)
          have HN := Aside0.mk hN0
          have n0_ := Aside0.mk (below_alloc HB.out (Obj.cells #[] 29))
          have HG0 := Lib.hid (below_size HB.out)
          have n1_ := Aside0.mk (blk_alloc HX.out (Obj.cells #[] 29))
          have HGB := Lib.hid (Nat.ne_of_gt (blk_lt HX.out))
          clear HX
          have HX := n1_
          clear n1_
          clear HB hN0
          have HB := n0_
          clear n0_
          generalize hgl_ : v5.alloc (Obj.cells #[] 29) = v8 at *
          clear hgl_
          generalize v5.heap.size = g0 at *
          refine hK.out _ _ ⟨pk HB.out q0, pk HB.out q1, pk HB.out q2⟩ (fun hHeld => ?_)
          clear hK K
          refine norm_ (a' := ?_) ?_ ?_
          rotate_left
          · show Act.put _ (some 53) _ = _
            simp only [Act.put, List.setIfInBounds_toArray, List.set_cons_zero, List.set_cons_succ, i64_w, i32_w]
            rfl
          refine one_ (i := 4) (N := some 57) #[true, true, true, true, true, true, true, false, true, true, true, true, false, false, false] rfl rfl (by kernel_rfl) (by decide) (fun K hK => ?_)
          refine Kd.N_append_rows_step k29 (w0 := w9) w9.heap.size (by rfl) (.tmp 53) (.tmp 56) 22 29 (.agg #[(.int .i64 0), (.slice none 0 0), (.bool false)]) 40 rfl Try.underlying22 info29 rfl (by decide) (by omega) (.slice (some ⟨g0, 0, none⟩) 0 0) [] (l0.take p) _ _ _ (fun k => (P1 k ∧ k < w9.heap.size) ∨ (w9.heap.size ≤ k ∧ k ≠ b0)) (fun k => P1 k ∧ k < w9.heap.size) rfl rfl ?aO ?aR ?aK ?aF ?aB ?aS ?aL ?_
          (case aO => exact Kd.N_mono HN.out (fun k hk => Or.inr ⟨by have := HG0.out; omega, by have := HGB.out; omega⟩))
          (case aR => exact Kd.F_mono (Kd.F_below HF.out HB.out) (fun k hk => by rw [HP1.out]; exact hk))
          (case aK => exact fun k hk => ⟨Or.inl hk, by simp only [Value.ownBlock, ne_eq, Option.some.injEq]; have h1 := hk.2; have h2 := HG0.out; omega⟩)
          (case aF => exact fun k hk => Or.inr ⟨Nat.le_trans (below_size HB.out) hk, by have := blk_lt HX.out; omega⟩)
          (case aB => exact HB.out)
          (case aS => exact below_size HB.out)
          (case aL => simp only [List.length_nil, List.length_take]; have h1 := HLIM.out; omega)
          intro v1 v10 ho hb hg hat
          have HN2 := Aside0.mk ho
          have HB := Aside0.mk hb
          have HX := Aside0.mk (blk_grown HX.out hg (by simp only [Value.ownBlock, ne_eq, Option.some.injEq]; have := HGB.out; omega))
          clear ho hb hg hat
          refine hK.out _ _ ⟨pk HB.out q0, pk HB.out q1, pk HB.out q2⟩ (fun hHeld => ?_)
          clear hK K
          refine norm_ (a' := ?_) ?_ ?_
          rotate_left
          · show Act.put _ (some 57) _ = _
            simp only [Act.put, List.setIfInBounds_toArray, List.set_cons_zero, List.set_cons_succ, i64_w, i32_w]
            rfl
          exact norm_ (by simp only [putAll, Act.put, List.setIfInBounds_toArray, List.set_cons_zero, List.set_cons_succ]) (hCont (g0, v1, b0) _ ⟨hHeld, dupG_mk HB.out HN2.out HX.out (Kd.F_mono HF1.out (fun k hk => by rw [HP1.out]; exact hk)) HL4.out HBL.out⟩)
      rintro ⟨g0, v1, b⟩ v5 ⟨hS_, hD_⟩
      have hHeld := hS_
      have HD : Aside0 (DupG P1 w9 (l0.take p) (⟨xa, t, true⟩ : S29) v1 b v5) := Aside0.mk hD_
      clear hS_ hD_
      refine norm_ (a' := ?_) ?_ ?_
      rotate_left
      · simp only [putAll, Act.put, List.setIfInBounds_toArray, List.set_cons_zero, List.set_cons_succ]
        rfl
      refine one_ (i := 7) (N := some 60) #[true, true, true, true, true, true, true, true, true, true, true, true, false, false, false] rfl rfl (by kernel_rfl) (by decide) (fun K hK => ?_)
      refine Kd.N_append_rows_step k29 (w0 := w9) w9.heap.size (by rfl) (.tmp 57) (.tmp 59) 22 29 (.agg #[(.int .i64 0), (.slice none 0 0), (.bool false)]) 40 rfl Try.underlying22 info29 rfl (by decide) (by omega) v1 (l0.take p) [(⟨xa, t, true⟩ : S29)] _ _ _ (fun k => (P1 k ∧ k < w9.heap.size) ∨ w9.heap.size ≤ k) (fun k => (P1 k ∧ k < w9.heap.size) ∨ k = b) rfl rfl ?aO ?aR ?aK ?aF ?aB ?aS ?aL ?_
      (case aO => exact Kd.N_mono HD.out.1 (fun k hk => hk.elim (fun h => Or.inl h) (fun h => Or.inr h.1)))
      (case aR => exact HD.out.2.1)
      (case aK => exact fun k hk => ⟨hk.elim (fun h => Or.inl h) (fun h => Or.inr (by have := HD.out.2.2.2; omega)), fun he => by rcases HD.out.1.1 k he.symm with h1 | h1 <;> have h2 := Kd.N_base HD.out.1 k he.symm <;> rcases hk with hk | hk <;> omega⟩)
      (case aF => exact fun k hk => Or.inr (Nat.le_trans (below_size HD.out.2.2.1) hk))
      (case aB => exact HD.out.2.2.1)
      (case aS => exact below_size HD.out.2.2.1)
      (case aL => simp only [List.length_take, List.length_cons, List.length_nil]; have := HLIM.out; have := HN0.out; omega)
      intro v2 v6 ho hb hg hat
      have HN4 := Aside0.mk ho
      have HB2 := Aside0.mk hb
      clear ho hb hg hat
      refine hK.out _ _ ⟨pk HB2.out q0, pk HB2.out q1, pk HB2.out q2⟩ (fun hHeld => ?_)
      clear hK K
      refine norm_ (a' := ?_) ?_ ?_
      rotate_left
      · show Act.put _ (some 60) _ = _
        simp only [Act.put, List.setIfInBounds_toArray, List.set_cons_zero, List.set_cons_succ, i64_w, i32_w]
        rfl
      refine one_ (i := 12) (N := some 65) #[true, true, true, true, true, true, true, true, true, true, true, true, true, false, false] rfl rfl (by kernel_rfl) (by decide) (fun K hK => ?_)
      refine Kd.N_append_rows_step k29 (w0 := w9) w9.heap.size (by rfl) (.tmp 60) (.tmp 64) 22 29 (.agg #[(.int .i64 0), (.slice none 0 0), (.bool false)]) 40 rfl Try.underlying22 info29 rfl (by decide) (by omega) v2 (l0.take p ++ [(⟨xa, t, true⟩ : S29)]) (l0.drop (p + 1)) _ _ _ (fun k => (P1 k ∧ k < w9.heap.size) ∨ w9.heap.size ≤ k) (fun k => P1 k ∧ k < w9.heap.size) rfl rfl ?aO ?aR ?aK ?aF ?aB ?aS ?aL ?_
      (case aO => exact HN4.out)
      (case aR => exact Kd.F_mono (Kd.F_below HFC.out HB2.out) (fun k hk => by rw [HP1.out]; exact hk))
      (case aK => exact fun k hk => ⟨Or.inl hk, fun he => by have h2 := Kd.N_base HN4.out k he.symm; have h3 := hk.2; omega⟩)
      (case aF => exact fun k hk => Or.inr (Nat.le_trans (below_size HB2.out) hk))
      (case aB => exact HB2.out)
      (case aS => exact below_size HB2.out)
      (case aL => simp only [List.length_append, List.length_take, List.length_drop, List.length_cons, List.length_nil]; have := HLIM.out; have := HN0.out; omega)
      intro v3 v8 ho hb hg hat
      have HO := Aside0.mk ho
      have HB3 := Aside0.mk hb
      clear ho hb hg hat
      refine hK.out _ _ ⟨pk HB3.out q0, pk HB3.out q1, pk HB3.out q2⟩ (fun hHeld => ?_)
      clear hK K
      refine norm_ (a' := ?_) ?_ ?_
      rotate_left
      · show Act.put _ (some 65) _ = _
        simp only [Act.put, List.setIfInBounds_toArray, List.set_cons_zero, List.set_cons_succ, i64_w, i32_w]
        rfl
      refine pure_ (i := 13) (N := some 8) (v := ?_) (a' := ?_) #[true, true, true, true, true, true, true, true, true, true, true, true, true, true, false] rfl rfl (by kernel_rfl) (fun _ _ _ h => h) (Or.inl ⟨by rfl, ?_⟩) ?_ ?_
      rotate_left
      · intro w'
        go_simp
        with_reducible rfl
      rotate_left
      · simp only [Act.put, List.setIfInBounds_toArray, List.set_cons_zero, List.set_cons_succ, i64_w, i32_w]
        rfl
      refine pure_ (i := 14) (N := some 9) (v := ?_) (a' := ?_) #[true, true, true, true, true, true, true, true, true, true, true, true, true, true, true] rfl rfl (by kernel_rfl) (fun _ _ _ h => h) (Or.inl ⟨by rfl, ?_⟩) ?_ ?_
      rotate_left
      · intro w'
        go_simp
        with_reducible rfl
      rotate_left
      · simp only [Act.put, List.setIfInBounds_toArray, List.set_cons_zero, List.set_cons_succ, i64_w, i32_w]
        rfl
      refine done_ (by kernel_rfl) ?_
      go_wp2_with fail
      go_ret2
      rw [HRR.out]
      exact ⟨_, rfl, Kd.V_mono (Kd.N_V HO.out) (fun k hk => hk.elim (fun h => by have := h.1; rw [HP1.out] at this; exact this) (fun h => Or.inr (Nat.le_trans HSZ.out h))), below_step HB9.out HB3.out⟩

end Go.Proofs.Ythmgaeecfhmenaa.Print
