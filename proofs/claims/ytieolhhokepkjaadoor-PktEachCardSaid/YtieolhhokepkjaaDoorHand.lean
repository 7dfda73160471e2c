/- What the functions of numbers give, as Lean functions, and that each call does just that. Conditions stand in each theorem. -/
import Derived.Test.YtieolhhokepkjaaDoorPrint0
import Derived.WalkLawsBesides
import Derived.ScopeJumps
import Derived.WalkMore
import Derived.Lib.Hide
import Derived.Handy
import Derived.ChangeKeysEq
import Derived.Lib.SliceRun
import Derived.Laws.CopyOwn
import Derived.Laws.MakeOwn
import Derived.Laws.Closers25b
import Derived.Maps.Own
import Derived.Maps.OwnSet
import Derived.Maps.OwnOps
namespace Go.Proofs.YtieolhhokepkjaaDoor.Print
set_option linter.unusedVariables false
set_option linter.unusedSimpArgs false
open Go.RowKit Go.Proofs.YtieolhhokepkjaaDoorW.PrintWords Go.Proofs.YtieolhhokepkjaaDoorW.PrintLast Go.Proofs.YtieolhhokepkjaaDoorW.PrintMore
/-- Bytes that fit into memory. -/
def lim2 (l : List Int) : Prop := l.length < 140737488355000
instance (l : List Int) : Decidable (lim2 l) := by unfold lim2; infer_instance
theorem lim2_of {l : List Int} {α : Type} {x : α} {r : α} (h : (if lim2 l then some x else none) = some r) : l.length < 140737488355000 ∧ x = r := by
 by_cases hl : lim2 l
 ·
  rw [if_pos hl] at h; exact ⟨hl, Option.some.inj h⟩
 ·
  rw [if_neg hl] at h; cases h
def slices_Clone_byte_byte.f (l : List Int) : Option (List Int) := if lim2 l then some l else none
theorem slices_Clone_byte_byte.calls (A0 : Option Addr) (c0 : Nat) (l0 : List Int) (r : List Int) (w : World) (hr0 : Kd.C (Kd.int .u8) w A0 l0.length l0) (hc0 : l0.length ≤ c0) (h : slices_Clone_byte_byte.f l0 = some r) :
  Calls Tryd.prog 48 #[.slice A0 l0.length c0] w fun e w' => ∃ v0_ : Value, e = .returned v0_ ∧ Kd.R (Kd.int .u8) 5 w' w.heap.size (fun k_ => (w.heap.size ≤ k_)) v0_ r ∧ Below w.heap.size w w' := by
 obtain ⟨hlen, rfl⟩ := lim2_of h
 clear h
 have HR0 := ak hr0
 have HB := ak (Below.refl w.heap.size w)
 have LM := ak hlen
 have qT := fun (w : World) (r : Option Addr) (n c : Nat) => Lib.run_eql_slice_nil (P := Tryd.prog) w 23 5 r n c 0 0 Tryd.underlying23
 rcases A0 with _ | ad
 ·
  have hnil : l0 = [] := by
   rcases l0 with _ | ⟨x, l⟩
   ·
    rfl
   ·
    obtain ⟨ad, he, _⟩ := Kd.at_int hr0 0 (by omega) (by simp)
    cases he
  subst hnil
  clear hr0
  go_enter Tryd.func48, Tryd.ntmps48
  go_wp2_with fail
  go_ret
  exact ⟨_, rfl, Kd.R_nil _ _ _ _ _, Below.refl _ _⟩
 ·
  clear hr0
  go_enter Tryd.func48, Tryd.ntmps48
  go_wp2_with (first | ((with_reducible refine gate_dst (N := 5) rfl ?_); (try (refine gate_guard (by rfl) ?_; dsimp only)); refine Kd.R_lit (Kd.int .u8) _ 5 ?hg (N := 5) ?hd (xs := ([] : List Int)) (inner := []) (ok := fun k_ => w.heap.size ≤ k_) (okp := fun k_ => w.heap.size ≤ k_) ?hr ?hp (fun _ hk => hk) (Nat.le_refl _) (Below.refl _ _) (Nat.le_refl _) (by simp) ?_; (case hd => rfl); (case hg => rfl); (case hr => first | (go_simp; done) | (go_simp; rfl)); (case hp => exact (Reps.none _ _)); intro v171 w6 ho7 hb hg_ hnew_; clear hg_ hnew_; have n0_ := ak (Kd.R_lower ho7 (below_size (by repeat (first | (with_reducible first | exact HB.out | apply below_alloc | apply pw_below_drewN | apply below_drew1) | exact HB.out)))); have n1_ := ak (below_step (by repeat (first | (with_reducible first | exact HB.out | apply below_alloc | apply pw_below_drewN | apply below_drew1) | exact HB.out)) hb); clear HB; have HO172 := n0_; have HB := n1_; clear n0_ n1_; clear hb ho7) | ((with_reducible refine gate_builtin (b := .append) (xs := #[.tmp 5, .tmp 6]) rfl ?_); (try (refine gate_guard (by rfl) ?_; dsimp only)); at_builtin; refine Kd.R_append_rows (Kd.int .u8) (w0 := w) w.heap.size rfl (.tmp 5) (.tmp 6) 23 5 (.int .u8 0) 1 rfl Tryd.underlying23 info5 rfl (by decide) (by omega) v171 [] l0 _ _ _ (fun k_ => w.heap.size ≤ k_) (fun _ => False) rfl rfl ?aO ?aR (fun _ _ h => h) (fun _ h => h.elim) ?aF ?aB ?aS ?aL ?_; (case aR => repeat (first | exact (Kd.C_below HR0.out HB.out) | (with_reducible refine Kd.C_alloc ?_ _) | (with_reducible refine Kd.C_drewN ?_ _) | (with_reducible refine Kd.C_drew ?_))); (case aB => exact (by repeat (first | (with_reducible first | exact HB.out | apply below_alloc | apply pw_below_drewN | apply below_drew1) | exact HB.out))); (case aF => exact (fun _ hk => Nat.le_trans (below_size (by repeat (first | (with_reducible first | exact HB.out | apply below_alloc | apply pw_below_drewN | apply below_drew1) | exact HB.out))) hk)); (case aO => exact (by (with_reducible repeat (first | apply Kd.R_alloc | apply Kd.R_drewN | apply Kd.R_drew)); exact HO172.out)); (case aS => exact (below_size (by repeat (first | (with_reducible first | exact HB.out | apply below_alloc | apply pw_below_drewN | apply below_drew1) | exact HB.out)))); (case aL => have := LM.out; (try simp only [List.length_nil]); omega); intro v174 w8 ho hb hg hat; have n0_ := ak (hb); have n1_ := ak (ho); clear HB; clear HO172; have HB := n0_; have HO175 := n1_; clear n0_ n1_; clear ho hb hg hat))
  go_ret
  exact ⟨_, rfl, by (with_reducible repeat (first | apply Kd.R_alloc | apply Kd.R_drewN | apply Kd.R_drew)); exact HO175.out, by repeat (first | (with_reducible first | exact HB.out | apply below_alloc | apply pw_below_drewN | apply below_drew1) | exact HB.out)⟩
/-- The greatest number of a width; 0: there is no such one. -/
def most (n : Int) : Int := if n = 1 then 255 else if n = 2 then 65535 else if n = 8 then 4611686018427387904 else 0
/-- The table lies as it was laid. -/
def GB (w : World) : Prop := ∀ j : Nat, j < 9 → w.cell? ⟨0, j, none⟩ = some (.int .i64 (most j))
theorem GB.below {w w1 : World} (h : GB w) (hb : Below w.heap.size w w1) : GB w1 := fun j hj => pw_cell_below hb (h j hj)
theorem GB.at {w : World} (h : GB w) {n : Int} (h0 : 0 ≤ n) (h1 : n < 9) : w.cell? ⟨0, n.toNat, none⟩ = some (.int .i64 (most n)) := by
 have := h n.toNat (by omega)
 rwa [show ((n.toNat : Nat) : Int) = n by omega] at this
theorem most_pos {n : Int} : 0 < most n ↔ n = 1 ∨ n = 2 ∨ n = 8 := by
 unfold most
 repeat' split
 all_goals omega
def num_width.f (n : Int) : Option Bool := some (decide (0 < most n))
def num_Fits.f (n wide : Int) : Option Bool := some (decide (0 < most wide ∧ 0 ≤ n ∧ n ≤ most wide))
theorem most_off {n : Int} (h : ¬ (0 ≤ n ∧ n < 9)) : most n = 0 := by
 unfold most
 repeat' split
 all_goals omega
theorem num_width.calls (n : Int) (r : Bool) (w : World) (hG : GB w) (h : num_width.f n = some r) :
  Calls Tryd.prog 62 #[.int .i64 n] w fun e w' => e = .returned (.bool r) ∧ Drawn0 w w' := by
 obtain rfl := Option.some.inj h
 clear h
 by_cases h0 : 0 ≤ n
 ·
  by_cases h1 : n < 9
  ·
   have hc := hG.at h0 h1
   clear hG
   generalize most n = m at *
   go_enter Tryd.func62, Tryd.ntmps62
   go_wp2
   go_ret
   exact ⟨rfl, Drawn0.refl _⟩
  ·
   have hm := most_off (n := n) (by omega)
   rw [hm, show decide ((0 : Int) < 0) = false from rfl]
   have hd : decide (n < 9) = false := decide_eq_false h1
   have hp : decide (0 ≤ n) = true := decide_eq_true h0
   clear hG hm h1
   go_enter Tryd.func62, Tryd.ntmps62
   go_wp2
   go_ret
   exact ⟨rfl, Drawn0.refl _⟩
 ·
  have hm := most_off (n := n) (by omega)
  rw [hm, show decide ((0 : Int) < 0) = false from rfl]
  have hp : decide (0 ≤ n) = false := decide_eq_false h0
  clear hG hm h0
  go_enter Tryd.func62, Tryd.ntmps62
  go_wp2
  go_ret
  exact ⟨rfl, Drawn0.refl _⟩
theorem num_Fits.calls (n wide : Int) (r : Bool) (w : World) (hG : GB w) (h : num_Fits.f n wide = some r) :
  Calls Tryd.prog 58 #[.int .i64 n, .int .i64 wide] w fun e w' => e = .returned (.bool r) ∧ Drawn0 w w' := by
 obtain rfl := Option.some.inj h
 clear h
 have HG := Lib.hid hG
 by_cases hw : 0 < most wide
 ·
  have hw2 := most_pos.1 hw
  have hc := hG.at (n := wide) (by omega) (by omega)
  have H9 := Lib.hid (show 0 ≤ wide ∧ wide < 9 by omega)
  have hb : num_width.f wide = some true := by unfold num_width.f; rw [decide_eq_true hw]
  have HB := Lib.hid hb
  by_cases h0 : 0 ≤ n
  ·
   have he : decide (0 < most wide ∧ 0 ≤ n ∧ n ≤ most wide) = decide (n ≤ most wide) := by rw [Bool.eq_iff_iff]; simp; omega
   rw [he]
   have hp : decide (0 ≤ n) = true := decide_eq_true h0
   obtain ⟨h8, h9⟩ := H9.out
   clear he hb hw2 hG hw
   generalize hm : most wide = m at hc
   have HM := Lib.hid hm
   clear hm
   go_enter Tryd.func58, Tryd.ntmps58
   go_wp2_with fail
   refine (num_width.calls wide true _ HG.out HB.out).mono ?_
   rintro e w' ⟨rfl, ⟨⟨nq, rfl⟩⟩⟩
   go_wp2_with fail
   go_ret
   exact ⟨rfl, ⟨⟨nq, rfl⟩⟩⟩
  ·
   have he : decide (0 < most wide ∧ 0 ≤ n ∧ n ≤ most wide) = false := by simp; omega
   rw [he]
   have hp : decide (0 ≤ n) = false := decide_eq_false h0
   clear he hb hw2 hG hw hc h0
   go_enter Tryd.func58, Tryd.ntmps58
   go_wp2_with fail
   refine (num_width.calls wide true _ HG.out HB.out).mono ?_
   rintro e w' ⟨rfl, ⟨⟨nq, rfl⟩⟩⟩
   go_wp2_with fail
   go_ret
   exact ⟨rfl, ⟨⟨nq, rfl⟩⟩⟩
 ·
  have he : decide (0 < most wide ∧ 0 ≤ n ∧ n ≤ most wide) = false := decide_eq_false (fun h => hw h.1)
  rw [he]
  have hb : num_width.f wide = some false := by unfold num_width.f; rw [decide_eq_false hw]
  have HB := Lib.hid hb
  clear he hb hw hG
  go_enter Tryd.func58, Tryd.ntmps58
  go_wp2_with fail
  refine (num_width.calls wide false _ HG.out HB.out).mono ?_
  rintro e w' ⟨rfl, ⟨⟨nq, rfl⟩⟩⟩
  go_wp2_with fail
  go_ret
  exact ⟨rfl, ⟨⟨nq, rfl⟩⟩⟩
theorem wp_scope_fwd {P : Program} {a : Act} {w : World} {Q : Exit → Act → World → Prop} {c rest : Code} (l : Nat) (hf : findLabel c l = some rest)
  (first : c.wp P (Exit.jump l (fun a w => rest.wp P (Exit.noGoto Q) a w) Q) a w) : (Code.scope c).wp P Q a w := by
 refine wp_scope_jumps l _ (fun _ _ => 0) hf first (fun a w h b k cs => ?_)
 obtain ⟨e, a', w', hq, harr⟩ := h b k cs
 refine ⟨e, a', w', ?_, harr⟩
 cases e <;> first | exact hq | exact hq.elim
/-- A byte more. -/
def tk (n c : Int) : Int := Go.bits .or .u64 (IntKind.u64.wrap (n * 256)) (IntKind.u64.wrap c)
def be (l : List Int) : Int := l.foldl tk 0
def num_Take.f (l : List Int) (wide : Int) : Option (Int × List Int × Int) :=
 if ¬ 0 < most wide then some (0, [], 1) else if (l.length : Int) < wide then some (0, [], 2)
 else if most wide < be (l.take wide.toNat) then some (0, [], 2) else some (be (l.take wide.toNat), l.drop wide.toNat, 0)
theorem be_step (l : List Int) (k : Nat) (h : k < l.length) : be (l.take (k + 1)) = tk (be (l.take k)) (rd l k) := by
 unfold be rd
 rw [List.take_succ_eq_append_getElem h, List.foldl_append, List.getD_eq_getElem?_getD, Int.toNat_natCast, List.getElem?_eq_getElem h]
 rfl
theorem tk_nonneg (n c : Int) : 0 ≤ tk n c := (Go.bits_within .or .u64 _ _).1
theorem be_nonneg (l : List Int) : 0 ≤ be l := by
 rcases List.eq_nil_or_concat l with rfl | ⟨l', x, rfl⟩
 ·
  exact Int.le_refl _
 ·
  unfold be; rw [List.concat_eq_append, List.foldl_append]; exact tk_nonneg _ _
theorem num_Take.calls (P0_ : Nat → Prop) (A0 : Option Addr) (c0 : Nat) (l0 : List Int) (a1 : Int) (r1 : Int) (r2 : List Int) (r3 : Int) (w : World)
  (hs0 : Kd.V (Kd.int .u8) 5 w w.heap.size (fun k_ => P0_ k_) (.slice A0 l0.length c0) l0) (hG : GB w) (h : num_Take.f l0 a1 = some (r1, r2, r3)) :
  Calls Tryd.prog 50 #[.slice A0 l0.length c0, .int .i64 a1] w fun e w' => ∃ v1_ : Value, e = .returned (.tuple #[.int .i64 r1, v1_, .int .i64 r3]) ∧ Kd.V (Kd.int .u8) 5 w' w.heap.size (fun k_ => (P0_ k_ ∨ w.heap.size ≤ k_)) v1_ r2 ∧ Below w.heap.size w w' := by
 have HG := Lib.hid hG
 unfold num_Take.f at h
 by_cases hw : 0 < most a1
 ·
  rw [if_neg (fun hn => hn hw)] at h
  have hw2 := most_pos.1 hw
  have hb : num_width.f a1 = some true := by unfold num_width.f; rw [decide_eq_true hw]
  have HB := Lib.hid hb
  obtain ⟨W, rfl, hW1, hW2⟩ : ∃ W : Nat, a1 = (W : Int) ∧ 1 ≤ W ∧ W ≤ 8 := ⟨a1.toNat, by omega, by omega, by omega⟩
  have hcell := hG.at (n := (W : Int)) (by omega) (by omega)
  rw [Int.toNat_natCast] at hcell
  obtain ⟨hn, hcap, hF⟩ := Kd.V_at hs0
  have hC := Kd.F_now hF
  by_cases hl : (l0.length : Int) < (W : Int)
  ·
   rw [if_pos hl] at h
   simp only [Option.some.injEq, Prod.mk.injEq] at h
   obtain ⟨rfl, rfl, rfl⟩ := h
   have hd : decide (l0.length < W) = true := decide_eq_true (by omega)
   clear hb hw hG hs0 hw2 hcell hn hcap hF hC
   go_enter Tryd.func50, Tryd.ntmps50
   go_wp2_with fail
   refine wp_scope_fwd 0 rfl ?_
   go_wp2_with fail
   refine (num_width.calls W true _ HG.out HB.out).mono ?_
   rintro e w' ⟨rfl, ⟨⟨nq, rfl⟩⟩⟩
   go_wp2_with fail
   go_step3
   refine ⟨rfl, ?_⟩
   go_wp2_with fail
   rw [Exit.noGoto_ret]
   go_ret3
   exact ⟨_, rfl, Kd.V_nil _ _ _ _ _, pw_below_drewN (Below.refl _ _) nq⟩
  ·
   rw [if_neg hl] at h
   obtain ⟨ad, rfl, _⟩ := Kd.at_int hC 0 (by omega) (by omega)
   have hcs : ∀ k : Nat, k < W → w.cell? (ad.add k) = some (.int .u8 (rd l0 k)) := by
    intro k hk
    obtain ⟨ad', he, hc⟩ := Kd.at_int hC k (by omega) (by omega)
    obtain rfl := Option.some.inj he
    rwa [Int.toNat_natCast] at hc
   have hd : decide (l0.length < W) = false := decide_eq_false (by omega)
   obtain ⟨i5, hi5, hz5, hs5, _⟩ := info_parts info5
   have hsl1 := cut_to (P := Tryd.prog) 23 5 .i64 Tryd.underlying23 hi5 (some ad) l0.length c0 (W : Int) (by omega) (by omega) hcap
   have hsl2 := cut_from (P := Tryd.prog) 23 5 .i64 Tryd.underlying23 hi5 1 hs5 (some ad) l0.length c0 (W : Int) (by omega) (by omega)
   rw [Int.toNat_natCast] at hsl1 hsl2
   obtain ⟨pA, hpA⟩ : ∃ pA, pA = (if c0 = W then some ad else Option.map (fun x => x.add (W * 1)) (some ad)) := ⟨_, rfl⟩
   rw [← hpA] at hsl2
   have HpA := Lib.hid hpA
   clear hpA
   have hm0 : 0 ≤ most (W : Int) := by omega
   have hm1 : most (W : Int) ≤ 4611686018427387904 := by unfold most; repeat' split; all_goals omega
   have HW := Lib.hid hw
   clear hb hw hG hs0 hw2 hn hC hi5 hz5 hs5
   generalize hm : most (W : Int) = m at *
   have HM := Lib.hid hm
   have HF := Lib.hid hF
   have Hcap := Lib.hid hcap
   have Hcs := Lib.hid hcs
   clear hm hF hcs
   have Hl := Lib.hid hl
   have HH := Lib.hid h
   clear h
   go_enter Tryd.func50, Tryd.ntmps50
   go_wp2_with fail
   refine wp_scope_fwd 0 rfl ?_
   go_wp2_with fail
   refine (num_width.calls W true _ HG.out HB.out).mono ?_
   rintro e w' ⟨rfl, ⟨⟨nq, rfl⟩⟩⟩
   go_wp2_with fail
   clear hsl1
   go_loop [7, 22] (fun n i => ∃ k : Nat, k ≤ W ∧ i = .int .i64 k ∧ n = .int .u64 (be (l0.take k))) (fun _ i => W - (intOf i).toNat)
   case atStart => exact ⟨0, Nat.zero_le _, rfl, rfl⟩
   case round =>
    obtain ⟨k, hk, rfl, rfl⟩ := hrel
    by_cases hlt : k < W
    ·
     have hc := Hcs.out k hlt
     have hb := be_step l0 k (by have := Hl.out; omega)
     have HS := Lib.hid hb
     clear hb
     generalize be (l0.take k) = n at *
     generalize rd l0 k = c at *
     go_wp2
     go_round
     case rel => exact ⟨k + 1, by omega, by go_num, by rw [HS.out]; rfl⟩
     case measure => simp [intOf]; omega
    ·
     have hkW : k = W := by omega
     subst hkW
     have h := HH.out
     rw [Int.toNat_natCast] at h
     clear HH
     by_cases hgt : m < be (l0.take k)
     ·
      rw [if_pos hgt] at h
      simp only [Option.some.injEq, Prod.mk.injEq] at h
      obtain ⟨rfl, rfl, rfl⟩ := h
      generalize be (l0.take k) = v at *
      have hvd : decide (m < v) = true := decide_eq_true hgt
      go_wp2_with fail
      go_step3
      refine ⟨rfl, ?_⟩
      go_wp2_with fail
      rw [Exit.noGoto_ret]
      go_ret3
      exact ⟨_, rfl, Kd.V_nil _ _ _ _ _, pw_below_drewN (Below.refl _ _) nq⟩
     ·
      rw [if_neg hgt] at h
      simp only [Option.some.injEq, Prod.mk.injEq] at h
      obtain ⟨rfl, rfl, rfl⟩ := h
      have hv0 := be_nonneg (l0.take k)
      generalize hv : be (l0.take k) = v at *
      have HV := Lib.hid hv
      clear hv
      have hvd : decide (m < v) = false := decide_eq_false hgt
      have hw64 : wrap64 v = v := IntWalk.wrap64_in v ⟨by omega, by omega⟩
      go_wp2_with fail
      go_quiet (fail)
      go_wp2_with fail
      rw [show ∀ l J Q a w, Exit.jump l J Q .ret a w = Q .ret a w from fun _ _ _ _ _ => by rfl]
      go_ret3
      refine ⟨_, by rw [HV.out]; rfl, ?_, pw_below_drewN (pw_below_drewN (Below.refl _ _) _) _⟩
      have hlen := Hl.out
      have hD := Kd.F_cut (m := k) HF.out (by omega) Hcap.out
      rw [show (Kd.int IntKind.u8).sz = 1 from rfl, ← HpA.out] at hD
      rw [← List.length_drop]
      exact Kd.V_mk (by rw [List.length_drop]; have := Hcap.out; omega) (Kd.F_drewN (Kd.F_drewN (Kd.F_mono hD (fun _ hk => Or.inl hk)) _) _)
 ·
  rw [if_pos hw] at h
  simp only [Option.some.injEq, Prod.mk.injEq] at h
  obtain ⟨rfl, rfl, rfl⟩ := h
  have hb : num_width.f a1 = some false := by unfold num_width.f; rw [decide_eq_false hw]
  have HB := Lib.hid hb
  clear hb hw hG hs0
  go_enter Tryd.func50, Tryd.ntmps50
  go_wp2_with fail
  refine wp_scope_fwd 0 rfl ?_
  go_wp2_with fail
  refine (num_width.calls a1 false _ HG.out HB.out).mono ?_
  rintro e w' ⟨rfl, ⟨⟨nq, rfl⟩⟩⟩
  go_wp2_with fail
  go_step3
  refine ⟨rfl, ?_⟩
  go_wp2_with fail
  rw [Exit.noGoto_ret]
  go_ret3
  exact ⟨_, rfl, Kd.V_nil _ _ _ _ _, pw_below_drewN (Below.refl _ _) nq⟩
end Go.Proofs.YtieolhhokepkjaaDoor.Print
