/- What the functions of letters give, as Lean functions, and that each call does just that. Conditions stand in each theorem. -/
import Derived.Test.YthmgaeecfhmenaaPrint0
import Derived.Test.YthmgaeecfhmenaaStrs
import Derived.WalkLawsBesides
import Derived.ScopeJumps
import Derived.WalkMore
import Derived.Lib.Hide
import Derived.Handy
import Derived.ChangeKeysEq
import Derived.Lib.SliceRun
import Derived.Laws.CopyOwn
import Derived.Laws.MakeOwn
namespace Go.Proofs.Ythmgaeecfhmenaa.Print
set_option linter.unusedVariables false
set_option linter.unusedSimpArgs false
open Go.RowKit Go.Proofs.YthmgaeecfhmenaaW.PrintWords Go.Proofs.YthmgaeecfhmenaaW.PrintLast Go.Proofs.YthmgaeecfhmenaaW.PrintMore


/-- Bytes that fit into memory. -/
def lim2 (l : List Int) : Prop := l.length < 140737488355000
instance (l : List Int) : Decidable (lim2 l) := by unfold lim2; infer_instance
theorem lim2_of {l : List Int} {α : Type} {x : α} {r : α} (h : (if lim2 l then some x else none) = some r) : l.length < 140737488355000 ∧ x = r := by
  by_cases hl : lim2 l
  · rw [if_pos hl] at h; exact ⟨hl, Option.some.inj h⟩
  · rw [if_neg hl] at h; cases h
def slices_Clone_byte_byte.f (l : List Int) : Option (List Int) := if lim2 l then some l else none
theorem slices_Clone_byte_byte.calls (A0 : Option Addr) (c0 : Nat) (l0 : List Int) (r : List Int) (w : World) (hr0 : Kd.C (Kd.int .u8) w A0 l0.length l0) (hc0 : l0.length ≤ c0) (h : slices_Clone_byte_byte.f l0 = some r) :
    Calls Try.prog 34 #[.slice A0 l0.length c0] w fun e w' => ∃ v0_ : Value, e = .returned v0_ ∧ Kd.R (Kd.int .u8) 5 w' w.heap.size (fun k_ => (w.heap.size ≤ k_)) v0_ r ∧ Below w.heap.size w w' := by
  obtain ⟨hlen, rfl⟩ := lim2_of h
  clear h
  have HR0 := Aside0.mk hr0
  have HB := Aside0.mk (Below.refl w.heap.size w)
  have LM := Aside0.mk hlen
  have qT := fun (w : World) (r : Option Addr) (n c : Nat) => Lib.run_eql_slice_nil (P := Try.prog) w 23 5 r n c 0 0 Try.underlying23
  rcases A0 with _ | ad
  · have hnil : l0 = [] := by
      rcases l0 with _ | ⟨x, l⟩
      · rfl
      · obtain ⟨ad, he, _⟩ := Kd.at_int hr0 0 (by omega) (by simp)
        cases he
    subst hnil
    clear hr0
    go_enter Try.func34, Try.ntmps34
    go_wp2_with fail
    go_ret
    exact ⟨_, rfl, Kd.R_nil _ _ _ _ _, Below.refl _ _⟩
  · clear hr0
    go_enter Try.func34, Try.ntmps34
    go_wp2_with (first | ((with_reducible refine gate_dst (N := 5) rfl ?_); (try (refine gate_guard (by rfl) ?_; dsimp only)); refine Kd.R_lit (Kd.int .u8) _ 5 ?hg (N := 5) ?hd (xs := ([] : List Int)) (inner := []) (ok := fun k_ => w.heap.size ≤ k_) (okp := fun k_ => w.heap.size ≤ k_) ?hr ?hp (fun _ hk => hk) (Nat.le_refl _) (Below.refl _ _) (Nat.le_refl _) (by simp) ?_; (case hd => rfl); (case hg => rfl); (case hr => first | (go_simp; done) | (go_simp; rfl)); (case hp => exact (Reps.none _ _)); intro v171 w6 ho7 hb hg_ hnew_; clear hg_ hnew_; have n0_ := Aside0.mk (Kd.R_lower ho7 (below_size (by repeat (first | (with_reducible first | exact HB.out | apply below_alloc | apply pw_below_drewN | apply below_drew1) | exact HB.out)))); have n1_ := Aside0.mk (below_step (by repeat (first | (with_reducible first | exact HB.out | apply below_alloc | apply pw_below_drewN | apply below_drew1) | exact HB.out)) hb); clear HB; have HO172 := n0_; have HB := n1_; clear n0_ n1_; clear hb ho7) | ((with_reducible refine gate_builtin (b := .append) (xs := #[.tmp 5, .tmp 6]) rfl ?_); (try (refine gate_guard (by rfl) ?_; dsimp only)); at_builtin; refine Kd.R_append_rows (Kd.int .u8) (w0 := w) w.heap.size rfl (.tmp 5) (.tmp 6) 23 5 (.int .u8 0) 1 rfl Try.underlying23 info5 rfl (by decide) (by omega) v171 [] l0 _ _ _ (fun k_ => w.heap.size ≤ k_) (fun _ => False) rfl rfl ?aO ?aR (fun _ _ h => h) (fun _ h => h.elim) ?aF ?aB ?aS ?aL ?_; (case aR => repeat (first | exact (Kd.C_below HR0.out HB.out) | (with_reducible refine Kd.C_alloc ?_ _) | (with_reducible refine Kd.C_drewN ?_ _) | (with_reducible refine Kd.C_drew ?_))); (case aB => exact (by repeat (first | (with_reducible first | exact HB.out | apply below_alloc | apply pw_below_drewN | apply below_drew1) | exact HB.out))); (case aF => exact (fun _ hk => Nat.le_trans (below_size (by repeat (first | (with_reducible first | exact HB.out | apply below_alloc | apply pw_below_drewN | apply below_drew1) | exact HB.out))) hk)); (case aO => exact (by (with_reducible repeat (first | apply Kd.R_alloc | apply Kd.R_drewN | apply Kd.R_drew)); exact HO172.out)); (case aS => exact (below_size (by repeat (first | (with_reducible first | exact HB.out | apply below_alloc | apply pw_below_drewN | apply below_drew1) | exact HB.out)))); (case aL => have := LM.out; (try simp only [List.length_nil]); omega); intro v174 w8 ho hb hg hat; have n0_ := Aside0.mk (hb); have n1_ := Aside0.mk (ho); clear HB; clear HO172; have HB := n0_; have HO175 := n1_; clear n0_ n1_; clear ho hb hg hat))
    go_ret
    exact ⟨_, rfl, by (with_reducible repeat (first | apply Kd.R_alloc | apply Kd.R_drewN | apply Kd.R_drew)); exact HO175.out, by repeat (first | (with_reducible first | exact HB.out | apply below_alloc | apply pw_below_drewN | apply below_drew1) | exact HB.out)⟩


/-- Turned from p on, the first n of b. -/
def spo (l : List Int) (p : Nat) (b : List Int) : Nat → List Int
  | 0 => l
  | n + 1 => (spo l p b n).set (p + n) (Go.bits .xor .u8 (rd (spo l p b n) ((p + n : Nat) : Int)) (rd b (n : Int)))
theorem spo_length (l : List Int) (p : Nat) (b : List Int) (n : Nat) : (spo l p b n).length = l.length := by
  induction n with
  | zero => rfl
  | succ n ih => rw [spo, List.length_set, ih]
/-- How many bytes are turned. -/
def spn (l : List Int) (p : Nat) (b : List Int) : Nat := min (min b.length 4) (l.length - p)
def crc_Spoil.f (l : List Int) (a : Int) (b : List Int) : Option (List Int) := if lim2 l then some (if 0 ≤ a ∧ a < (l.length : Int) then spo l a.toNat b (spn l a.toNat b) else l) else none
theorem crc_Spoil.calls (P0_ : Nat → Prop) (A0 : Option Addr) (c0 : Nat) (l0 : List Int) (a1 : Int) (A2 : Option Addr) (c2 : Nat) (l2 : List Int) (r : List Int) (w : World) (hs0 : Kd.V (Kd.int .u8) 5 w w.heap.size (fun k_ => P0_ k_) (.slice A0 l0.length c0) l0)
    (hr2 : Kd.C (Kd.int .u8) w A2 l2.length l2) (hc2 : l2.length ≤ c2) (h : crc_Spoil.f l0 a1 l2 = some r) :
    Calls Try.prog 27 #[.slice A0 l0.length c0, .int .i64 a1, .slice A2 l2.length c2] w fun e w' => ∃ v0_ : Value, e = .returned v0_ ∧ Kd.V (Kd.int .u8) 5 w' w.heap.size (fun k_ => (P0_ k_ ∨ w.heap.size ≤ k_)) v0_ r ∧ Below w.heap.size w w' := by
  obtain ⟨hlen, h⟩ := lim2_of h
  by_cases h0 : 0 ≤ a1
  · by_cases h1 : a1 < (l0.length : Int)
    · rw [if_pos ⟨h0, h1⟩] at h
      subst h
      obtain ⟨p, rfl⟩ : ∃ p : Nat, a1 = (p : Int) := ⟨a1.toNat, by omega⟩
      rw [Int.toNat_natCast]
      obtain ⟨m, hm⟩ : ∃ m : Nat, spn l0 p l2 = m := ⟨_, rfl⟩
      rw [hm]
      unfold spn at hm
      obtain ⟨hn, hcap, hF⟩ := Kd.V_at hs0
      have hC := Kd.F_now hF
      clear hs0 hF
      obtain ⟨ad, rfl, _⟩ := Kd.at_int hC 0 (by omega) (by omega)
      have hcs : ∀ k : Nat, k < m → ∃ ad2, A2 = some ad2 ∧ w.cell? (ad2.add k) = some (.int .u8 (rd l2 (k : Int))) := by
        intro k hk
        obtain ⟨ad', he, hc⟩ := Kd.at_int hr2 (k : Int) (by omega) (by omega)
        rw [Int.toNat_natCast] at hc
        exact ⟨ad', he, hc⟩
      have hl2 : l2.length ≤ 9223372036854775807 := Kd.C_max hr2
      have hd1 : decide ((p : Int) < 0) = false := decide_eq_false (by omega)
      have hd2 : decide ((p : Int) ≥ (l0.length : Int)) = false := decide_eq_false (by omega)
      have hd3 : decide (l0.length ≤ p) = false := decide_eq_false (by omega)
      obtain ⟨i5, hi5, hz5, hs5, _⟩ := info_parts info5
      have hsl := cut_to (P := Try.prog) 23 5 .i64 Try.underlying23 hi5 A2 l2.length c2 (m : Int) (by omega) (by omega) (by omega)
      rw [Int.toNat_natCast] at hsl
      have hmin : ∀ (ts : Array TypeId) (t : TypeId) (w : World), (Builtin.min_ ts t #[.int .i64 (l2.length : Int), .int .i64 4, .int .i64 ((l0.length : Int) - p)]).run Try.prog w = .ok (.int .i64 (m : Int)) w := by
        intro ts t w
        rw [run_min_int3]
        congr 2
        by_cases q1 : (4 : Int) < (l2.length : Int)
        · rw [if_pos q1]
          by_cases q2 : ((l0.length : Int) - p) < 4
          · rw [if_pos q2]; omega
          · rw [if_neg q2]; omega
        · rw [if_neg q1]
          by_cases q2 : ((l0.length : Int) - p) < (l2.length : Int)
          · rw [if_pos q2]; omega
          · rw [if_neg q2]; omega
      have hpm : p + m ≤ l0.length := by omega
      have hcl := slices_Clone_byte_byte.calls (some ad) c0 l0 l0 w hC hcap (if_pos hlen)
      have hpl : 0 < l0.length := by omega
      have HM := Lib.hid hm
      clear hm
      have HK := Lib.hid hcl
      have HCS := Lib.hid hcs
      clear hcl hcs hi5 hz5 hs5 hr2 hc2 hC hcap h0 h1
      go_enter Try.func27, Try.ntmps27
      go_wp2_with fail
      refine HK.out.mono ?_
      rintro e w6 ⟨v1, rfl, ho, hb⟩
      obtain ⟨g, cap, rfl, hg1, hg2, hg3⟩ := Kd.R_form ho hpl
      have HO := Aside0.mk ho
      have HB := Aside0.mk hb
      have HG := Aside0.mk hg1
      clear ho hb hg1 hg2 hg3 HK
      have hlenb : (l0.length : Int) ≤ 140737488355000 := by omega
      go_wp2_with fail
      go_loopw [30] (fun i wr => ∃ k : Nat, k ≤ m ∧ i = Value.int .i64 k ∧ Aside0 (Kd.R (Kd.int .u8) 5 wr w.heap.size (fun k_ => w.heap.size ≤ k_) (.slice (some ⟨g, 0, none⟩) l0.length cap) (spo l0 p l2 k)) ∧ Aside0 (Below w.heap.size w wr)) (fun i _ => m - (intOf i).toNat)
      case atStart => exact ⟨0, Nat.zero_le _, rfl, HO, HB⟩
      case round =>
        clear HO HB
        obtain ⟨k, hk, rfl, HO, HB⟩ := hrel
        by_cases hlt : k < m
        · obtain ⟨hx, hf⟩ := Kd.R_celln 0 HO.out ((p + k : Nat) : Int) (by omega) (by omega)
          rw [Int.toNat_natCast] at hx hf
          obtain ⟨ad2, rfl, hc⟩ := HCS.out k hlt
          have hcc := (HB.out.cell (World.block_lt_of_cell? _ _ hc)).trans hc
          clear hc
          have hput := Kd.R_putn HO.out ((p + k : Nat) : Int) (Go.bits .xor .u8 (rd (spo l0 p l2 k) ((p + k : Nat) : Int)) (rd l2 (k : Int)))
          rw [Int.toNat_natCast] at hput
          have HP := Aside0.mk hput
          clear hput
          change World.cell? _ _ = some (Value.int .u8 (rd (spo l0 p l2 k) ((p + k : Nat) : Int))) at hx
          have hlt2 : decide ((k : Int) < m) = true := decide_eq_true (by omega)
          go_wp2_with fail
          refine ⟨⟨k + 1, by omega, by go_num, ⟨by rw [← Int.natCast_add]; exact HP.out⟩, ⟨HB.out.setCell HG.out _⟩⟩, by simp [intOf]; omega⟩
        · obtain rfl : k = m := by omega
          have hlt2 : decide ((k : Int) < k) = false := decide_eq_false (by omega)
          go_wp2_with fail
          go_ret
          exact ⟨_, rfl, Kd.V_mono (Kd.R_V HO.out) (fun _ hk => Or.inr hk), HB.out⟩
    · rw [if_neg (by omega)] at h
      subst h
      have hd1 : decide (a1 < 0) = false := decide_eq_false (by omega)
      have hd2 : decide (a1 ≥ (l0.length : Int)) = true := decide_eq_true (by omega)
      have HV := Aside0.mk hs0
      clear hs0 hr2 hc2 h0 h1
      go_enter Try.func27, Try.ntmps27
      go_wp2_with fail
      go_ret
      exact ⟨_, rfl, Kd.V_mono HV.out (fun _ hk => Or.inl hk), Below.refl _ _⟩
  · rw [if_neg (by omega)] at h
    subst h
    have hd1 : decide (a1 < 0) = true := decide_eq_true (by omega)
    have HV := Aside0.mk hs0
    clear hs0 hr2 hc2 h0
    go_enter Try.func27, Try.ntmps27
    go_wp2_with fail
    go_ret
    exact ⟨_, rfl, Kd.V_mono HV.out (fun _ hk => Or.inl hk), Below.refl _ _⟩

def bytes_Clone.f (l : List Int) : Option (List Int) := if lim2 l then some l else none
theorem bytes_Clone.calls (A0 : Option Addr) (c0 : Nat) (l0 : List Int) (r : List Int) (w : World) (hr0 : Kd.C (Kd.int .u8) w A0 l0.length l0) (hc0 : l0.length ≤ c0) (h : bytes_Clone.f l0 = some r) :
    Calls Try.prog 33 #[.slice A0 l0.length c0] w fun e w' => ∃ v0_ : Value, e = .returned v0_ ∧ Kd.R (Kd.int .u8) 5 w' w.heap.size (fun k_ => (w.heap.size ≤ k_)) v0_ r ∧ Below w.heap.size w w' := by
  obtain ⟨hlen, rfl⟩ := lim2_of h
  clear h
  have HR0 := Aside0.mk hr0
  have HB := Aside0.mk (Below.refl w.heap.size w)
  have LM := Aside0.mk hlen
  have qT := fun (w : World) (r : Option Addr) (n c : Nat) => Lib.run_eql_slice_nil (P := Try.prog) w 23 5 r n c 0 0 Try.underlying23
  rcases A0 with _ | ad
  · have hnil : l0 = [] := by
      rcases l0 with _ | ⟨x, l⟩
      · rfl
      · obtain ⟨ad, he, _⟩ := Kd.at_int hr0 0 (by omega) (by simp)
        cases he
    subst hnil
    clear hr0
    go_enter Try.func33, Try.ntmps33
    go_wp2_with fail
    go_ret
    exact ⟨_, rfl, Kd.R_nil _ _ _ _ _, Below.refl _ _⟩
  · clear hr0
    go_enter Try.func33, Try.ntmps33
    go_wp2_with (first | ((with_reducible refine gate_dst (N := 5) rfl ?_); (try (refine gate_guard (by rfl) ?_; dsimp only)); refine Kd.R_lit (Kd.int .u8) _ 5 ?hg (N := 5) ?hd (xs := ([] : List Int)) (inner := []) (ok := fun k_ => w.heap.size ≤ k_) (okp := fun k_ => w.heap.size ≤ k_) ?hr ?hp (fun _ hk => hk) (Nat.le_refl _) (Below.refl _ _) (Nat.le_refl _) (by simp) ?_; (case hd => rfl); (case hg => rfl); (case hr => first | (go_simp; done) | (go_simp; rfl)); (case hp => exact (Reps.none _ _)); intro v171 w6 ho7 hb hg_ hnew_; clear hg_ hnew_; have n0_ := Aside0.mk (Kd.R_lower ho7 (below_size (by repeat (first | (with_reducible first | exact HB.out | apply below_alloc | apply pw_below_drewN | apply below_drew1) | exact HB.out)))); have n1_ := Aside0.mk (below_step (by repeat (first | (with_reducible first | exact HB.out | apply below_alloc | apply pw_below_drewN | apply below_drew1) | exact HB.out)) hb); clear HB; have HO172 := n0_; have HB := n1_; clear n0_ n1_; clear hb ho7) | ((with_reducible refine gate_builtin (b := .append) (xs := #[.tmp 5, .tmp 6]) rfl ?_); (try (refine gate_guard (by rfl) ?_; dsimp only)); at_builtin; refine Kd.R_append_rows (Kd.int .u8) (w0 := w) w.heap.size rfl (.tmp 5) (.tmp 6) 23 5 (.int .u8 0) 1 rfl Try.underlying23 info5 rfl (by decide) (by omega) v171 [] l0 _ _ _ (fun k_ => w.heap.size ≤ k_) (fun _ => False) rfl rfl ?aO ?aR (fun _ _ h => h) (fun _ h => h.elim) ?aF ?aB ?aS ?aL ?_; (case aR => repeat (first | exact (Kd.C_below HR0.out HB.out) | (with_reducible refine Kd.C_alloc ?_ _) | (with_reducible refine Kd.C_drewN ?_ _) | (with_reducible refine Kd.C_drew ?_))); (case aB => exact (by repeat (first | (with_reducible first | exact HB.out | apply below_alloc | apply pw_below_drewN | apply below_drew1) | exact HB.out))); (case aF => exact (fun _ hk => Nat.le_trans (below_size (by repeat (first | (with_reducible first | exact HB.out | apply below_alloc | apply pw_below_drewN | apply below_drew1) | exact HB.out))) hk)); (case aO => exact (by (with_reducible repeat (first | apply Kd.R_alloc | apply Kd.R_drewN | apply Kd.R_drew)); exact HO172.out)); (case aS => exact (below_size (by repeat (first | (with_reducible first | exact HB.out | apply below_alloc | apply pw_below_drewN | apply below_drew1) | exact HB.out)))); (case aL => have := LM.out; (try simp only [List.length_nil]); omega); intro v174 w8 ho hb hg hat; have n0_ := Aside0.mk (hb); have n1_ := Aside0.mk (ho); clear HB; clear HO172; have HB := n0_; have HO175 := n1_; clear n0_ n1_; clear ho hb hg hat))
    go_ret
    exact ⟨_, rfl, by (with_reducible repeat (first | apply Kd.R_alloc | apply Kd.R_drewN | apply Kd.R_drew)); exact HO175.out, by repeat (first | (with_reducible first | exact HB.out | apply below_alloc | apply pw_below_drewN | apply below_drew1) | exact HB.out)⟩


/-! ### letters: which are the same -/
theorem net_there.calls0 (A0 : Option Addr) (n c0 : Nat) (a1 : Int) (w : World) (hn : n ≤ 9223372036854775807) :
    Calls Try.prog 25 #[.slice A0 n c0, .int .i64 a1] w fun e w' => e = .returned (.bool (decide (0 ≤ a1 ∧ a1 < (n : Int)))) ∧ w' = w := by
  by_cases h0 : 0 ≤ a1
  · have hd : decide (a1 ≥ 0) = true := decide_eq_true h0
    have hd' : decide (0 ≤ a1) = true := decide_eq_true h0
    rw [show decide (0 ≤ a1 ∧ a1 < (n : Int)) = decide (a1 < (n : Int)) by simp [h0]]
    clear h0
    go_enter Try.func25, Try.ntmps25
    go_wp2_with fail
    go_ret
    exact ⟨rfl, rfl⟩
  · have hd : decide (a1 ≥ 0) = false := decide_eq_false h0
    have hd' : decide (0 ≤ a1) = false := decide_eq_false h0
    rw [show decide (0 ≤ a1 ∧ a1 < (n : Int)) = false by simp [h0]]
    clear h0
    go_enter Try.func25, Try.ntmps25
    go_wp2_with fail
    go_ret
    exact ⟨rfl, rfl⟩
theorem bytes_Equal.same (A0 A1 : Option Addr) (c0 c1 : Nat) (l0 l1 : List Int) (w : World) (h0 : Kd.C (Kd.int .u8) w A0 l0.length l0) (h1 : Kd.C (Kd.int .u8) w A1 l1.length l1) :
    Calls Try.prog 35 #[.slice A0 l0.length c0, .slice A1 l1.length c1] w fun e w' => e = .returned (.bool ((strOfNums l0).toList == (strOfNums l1).toList)) ∧ w' = w := by
  have s0 := Kd.C_string (P := Try.prog) (A := A0) (c := c0) Try.underlying23 Try.underlying5 Try.underlying9 h0
  have s1 := Kd.C_string (P := Try.prog) (A := A1) (c := c1) Try.underlying23 Try.underlying5 Try.underlying9 h1
  clear h0 h1
  generalize hq : ((strOfNums l0).toList == (strOfNums l1).toList) = q
  go_enter Try.func35, Try.ntmps35
  go_wp2_with fail
  go_ret
  exact ⟨rfl, rfl⟩
theorem net_text_same.calls (A0 A1 : Option Addr) (c0 c1 : Nat) (l0 l1 : List Int) (w : World) (h0 : Kd.C (Kd.int .u8) w A0 l0.length l0) (h1 : Kd.C (Kd.int .u8) w A1 l1.length l1) :
    Calls Try.prog 29 #[.agg #[.slice A0 l0.length c0], .slice A1 l1.length c1] w fun e w' => e = .returned (.bool ((strOfNums l0).toList == (strOfNums l1).toList)) ∧ Below w.heap.size w w' := by
  have HK := Lib.hid (fun o => bytes_Equal.same A0 A1 c0 c1 l0 l1 (w.alloc o) (Kd.C_alloc h0 o) (Kd.C_alloc h1 o))
  clear h0 h1
  generalize ((strOfNums l0).toList == (strOfNums l1).toList) = q at *
  generalize l0.length = n0 at *
  generalize l1.length = n1 at *
  go_enter Try.func29, Try.ntmps29
  go_wp2_with fail
  refine (HK.out _).mono ?_
  rintro e w' ⟨rfl, rfl⟩
  go_wp2_with fail
  go_ret
  exact ⟨rfl, below_alloc (Below.refl _ _) _⟩
theorem net_of.calls0 (a : Int) (A : Option Addr) (n c : Nat) (b : Bool) (w : World) :
    Calls Try.prog 28 #[.agg #[.int .i64 a, .slice A n c, .bool b]] w fun e w' => e = .returned (.agg #[.int .i64 a, .slice A n c, .bool b, .slice A n c]) ∧ Below w.heap.size w w' := by
  go_enter Try.func28, Try.ntmps28
  go_wp2_with fail
  refine bodyPost_ret (v := .agg #[.int .i64 a, .slice A n c, .bool b, .slice A n c]) (by simp [results, Try.results28, go_sem]) rfl ⟨rfl, ?_⟩
  exact below_alloc (below_alloc (Below.refl _ _) _) _
theorem net_is.calls (a : Int) (A : Option Addr) (c : Nat) (l : List Int) (b : Bool) (a' : Int) (A' : Option Addr) (c' : Nat) (l' : List Int) (b' : Bool) (w : World) (h0 : Kd.C (Kd.int .u8) w A l.length l) (h1 : Kd.C (Kd.int .u8) w A' l'.length l') :
    Calls Try.prog 32 #[.agg #[.int .i64 a, .slice A l.length c, .bool b, .slice A l.length c], .agg #[.int .i64 a', .slice A' l'.length c', .bool b']] w fun e w' =>
      e = .returned (.bool (a == a' && (b == b' && ((strOfNums l).toList == (strOfNums l').toList)))) ∧ Below w.heap.size w w' := by
  have HK := Lib.hid (fun o o' => net_text_same.calls A A' c c' l l' ((w.alloc o).alloc o') (Kd.C_alloc (Kd.C_alloc h0 o) o') (Kd.C_alloc (Kd.C_alloc h1 o) o'))
  clear h0 h1
  generalize ((strOfNums l).toList == (strOfNums l').toList) = q at *
  generalize l.length = n0 at *
  generalize l'.length = n1 at *
  cases h : (a == a')
  · rw [Bool.false_and]
    go_enter Try.func32, Try.ntmps32
    go_wp2_with fail
    go_ret
    exact ⟨rfl, below_alloc (below_alloc (Below.refl _ _) _) _⟩
  · rw [Bool.true_and]
    cases b <;> cases b'
    · rw [show (false == false) = true from rfl, Bool.true_and]
      go_enter Try.func32, Try.ntmps32
      go_wp2_with fail
      refine (HK.out _ _).mono ?_
      rintro e w' ⟨rfl, hb⟩
      have HB := Aside0.mk (below_step (below_alloc (below_alloc (Below.refl w.heap.size w) _) _) hb)
      clear hb
      go_wp2_with fail
      go_ret
      exact ⟨rfl, HB.out⟩
    · rw [show (false == true) = false from rfl, Bool.false_and]
      go_enter Try.func32, Try.ntmps32
      go_wp2_with fail
      go_ret
      exact ⟨rfl, below_alloc (below_alloc (Below.refl _ _) _) _⟩
    · rw [show (true == false) = false from rfl, Bool.false_and]
      go_enter Try.func32, Try.ntmps32
      go_wp2_with fail
      go_ret
      exact ⟨rfl, below_alloc (below_alloc (Below.refl _ _) _) _⟩
    · rw [show (true == true) = true from rfl, Bool.true_and]
      go_enter Try.func32, Try.ntmps32
      go_wp2_with fail
      refine (HK.out _ _).mono ?_
      rintro e w' ⟨rfl, hb⟩
      have HB := Aside0.mk (below_step (below_alloc (below_alloc (Below.refl w.heap.size w) _) _) hb)
      clear hb
      go_wp2_with fail
      go_ret
      exact ⟨rfl, HB.out⟩

/-- Are two letters the same? -/
def sameS (x y : S29) : Bool := x.f0 == y.f0 && (x.f2 == y.f2 && ((strOfNums x.f1).toList == (strOfNums y.f1).toList))
def sameL (a b : List S29) : Bool := decide (a.length = b.length) && (List.range a.length).all fun i => sameS (rd_T29 a i) (rd_T29 b i)
def net_Same.f (l0 l1 : List S29) : Option Bool := some (sameL l0 l1)
theorem pk {W w1 : World} (hb : Below W.heap.size W w1) {a : Addr} {v : Value} (h : W.cell? a = some v) : w1.cell? a = some v := pw_cell_below hb h
theorem net_Same.calls (A0 : Option Addr) (c0 : Nat) (l0 : List S29) (A1 : Option Addr) (c1 : Nat) (l1 : List S29) (r : Bool) (w : World) (hr0 : Kd.C k29 w A0 l0.length l0) (hc0 : l0.length ≤ c0) (hr1 : Kd.C k29 w A1 l1.length l1) (hc1 : l1.length ≤ c1) (h : net_Same.f l0 l1 = some r) :
    Calls Try.prog 20 #[.slice A0 l0.length c0, .slice A1 l1.length c1] w fun e w' => e = .returned (.bool r) ∧ Below w.heap.size w w' := by
  obtain rfl := Option.some.inj h
  clear h
  by_cases hl : l0.length = l1.length
  · obtain ⟨r, hr⟩ : ∃ r, sameL l0 l1 = r := ⟨_, rfl⟩
    rw [hr]
    have HR := Lib.hid hr
    have HR0 := Aside0.mk hr0
    have HR1 := Aside0.mk hr1
    have hm0 : l0.length ≤ 9223372036854775807 := Kd.C_max hr0
    have HL := Lib.hid hl
    have hd : ((l0.length : Int) == (l1.length : Int)) = true := by rw [hl]; exact beq_self_eq_true _
    have hd' : (l0.length == l1.length) = true := by rw [hl]; exact beq_self_eq_true _
    have hd2 : ((l0.length : Int) != (l1.length : Int)) = false := by rw [hl]; exact bne_self_eq_false _
    have hd3 : (l0.length != l1.length) = false := by rw [hl]; exact bne_self_eq_false _
    clear hr hr0 hr1 hc0 hc1 hl
    go_enter Try.func20, Try.ntmps20
    go_wp2_with fail
    go_loopw [14] (fun i wr => ∃ k : Nat, k ≤ l0.length ∧ i = Value.int .i64 k ∧ Aside0 (∀ j : Nat, j < k → sameS (rd_T29 l0 j) (rd_T29 l1 j) = true) ∧ Aside0 (Below w.heap.size w wr)) (fun i _ => l0.length - (intOf i).toNat)
    case atStart => exact ⟨0, Nat.zero_le _, rfl, ⟨fun j hj => by omega⟩, ⟨Below.refl _ _⟩⟩
    case round =>
      obtain ⟨k, hk, rfl, HA, HB⟩ := hrel
      by_cases hlt : k < l0.length
      · obtain ⟨ad0, B0, d0, rfl, x0, x1, x2, hx3, hx4⟩ := at_T29 (Kd.C_below HR0.out HB.out) (k : Int) (by omega) (by omega)
        obtain ⟨ad1, B1, d1, rfl, y0, y1, y2, hy3, hy4⟩ := at_T29 (Kd.C_below HR1.out HB.out) (k : Int) (by omega) (by have := HL.out; omega)
        obtain ⟨q, hq⟩ : ∃ q, sameS (rd_T29 l0 k) (rd_T29 l1 k) = q := ⟨_, rfl⟩
        rw [Int.toNat_natCast] at x0 x1 x2 y0 y1 y2
        have HIS := Lib.hid (fun (w : World) h0 h1 => net_is.calls (rd_T29 l0 k).f0 B0 d0 (rd_T29 l0 k).f1 (rd_T29 l0 k).f2 (rd_T29 l1 k).f0 B1 d1 (rd_T29 l1 k).f1 (rd_T29 l1 k).f2 w h0 h1)
        have hq2 := hq
        unfold sameS at hq2
        rw [hq2] at HIS
        have HQ := Lib.hid hq
        clear hq hq2
        have X4 := Aside0.mk hx4
        have Y4 := Aside0.mk hy4
        clear hx4 hy4
        generalize (rd_T29 l0 k).f0 = xa at *
        generalize (rd_T29 l0 k).f1 = xb at *
        generalize (rd_T29 l0 k).f2 = xc at *
        generalize (rd_T29 l1 k).f0 = ya at *
        generalize (rd_T29 l1 k).f1 = yb at *
        generalize (rd_T29 l1 k).f2 = yc at *
        have hlt2 : decide ((k : Int) < (l0.length : Int)) = true := decide_eq_true (by omega)
        have hk1 : (0 : Int) ≤ (k : Int) := by omega
        have hk2 : (k : Int) < (l1.length : Int) := by have := HL.out; omega
        have hk3 : k < l1.length := by omega
        go_wp2_with fail
        have hW := blk_new wr (Obj.cells #[.int .i64 xa, .slice B0 xb.length d0, .bool xc] 29)
        have z0 := (blk_cell hW 0).trans (show _ = some (Value.int .i64 xa) from rfl)
        have z1 := (blk_cell hW 1).trans (show _ = some (Value.slice B0 xb.length d0) from rfl)
        have z2 := (blk_cell hW 2).trans (show _ = some (Value.bool xc) from rfl)
        have hb1 := below_alloc (Below.refl wr.heap.size wr) (Obj.cells #[.int .i64 xa, .slice B0 xb.length d0, .bool xc] 29)
        have n0_ := Aside0.mk (below_alloc HB.out (Obj.cells #[.int .i64 xa, .slice B0 xb.length d0, .bool xc] 29))
        have n1_ := Aside0.mk (Kd.C_below X4.out hb1)
        have n2_ := Aside0.mk (Kd.C_below Y4.out hb1)
        replace y0 := pk hb1 y0
        replace y1 := pk hb1 y1
        replace y2 := pk hb1 y2
        clear HB X4 Y4 hW hb1 x0 x1 x2
        generalize wr.alloc (Obj.cells #[.int .i64 xa, .slice B0 xb.length d0, .bool xc] 29) = W1 at *
        generalize wr.heap.size = bx at *
        have HB := n0_
        have X4 := n1_
        have Y4 := n2_
        clear n0_ n1_ n2_
        refine start_ (n := 8) (S := fun w' => w'.cell? ⟨bx, 0, none⟩ = some (.int .i64 xa) ∧ w'.cell? ⟨bx, 1, none⟩ = some (.slice B0 xb.length d0) ∧ w'.cell? ⟨bx, 2, none⟩ = some (.bool xc) ∧ w'.cell? (ad1.add (k * 3)) = some (.int .i64 ya) ∧ w'.cell? ⟨(ad1.add (k * 3)).block, (ad1.add (k * 3)).off + 1, none⟩ = some (.slice B1 yb.length d1) ∧ w'.cell? ⟨(ad1.add (k * 3)).block, (ad1.add (k * 3)).off + 2, none⟩ = some (.bool yc)) (ds := []) #[false, false, false, false, false, false, false, false] (by kernel_rfl) rfl rfl ⟨z0, z1, z2, y0, y1, y2⟩ (fun hHeld => ?_)
        refine pure_ (i := 2) (N := some 21) (v := ?_) (a' := ?_) #[false, false, true, false, false, false, false, false] rfl rfl (by kernel_rfl) (fun _ _ _ h => h) (Or.inl ⟨by rfl, ?_⟩) ?_ ?_
        rotate_left
        · intro w'
          go_simp
          with_reducible rfl
        rotate_left
        · simp only [Act.put, List.setIfInBounds_toArray, List.set_cons_zero, List.set_cons_succ, i64_w, i32_w]
          rfl
        refine pure_ (i := 3) (N := some 22) (v := ?_) (a' := ?_) #[false, false, true, true, false, false, false, false] rfl rfl (by kernel_rfl) (fun _ _ _ h => h) (Or.inl ⟨by rfl, ?_⟩) ?_ ?_
        rotate_left
        · intro w'
          go_simp
          with_reducible rfl
        rotate_left
        · simp only [Act.put, List.setIfInBounds_toArray, List.set_cons_zero, List.set_cons_succ, i64_w, i32_w]
          rfl
        refine pure_ (i := 4) (N := some 23) (v := ?_) (a' := ?_) #[false, false, true, true, true, false, false, false] rfl rfl (by kernel_rfl) (fun _ _ _ h => h) (Or.inl ⟨by rfl, ?_⟩) ?_ ?_
        rotate_left
        · intro w'
          go_simp
          with_reducible rfl
        rotate_left
        · simp only [Act.put, List.setIfInBounds_toArray, List.set_cons_zero, List.set_cons_succ, i64_w, i32_w]
          rfl
        refine take_ (i := 0) (N := some 19) (v := ?_) (a' := ?_) #[true, false, true, true, true, false, false, false] rfl rfl (by kernel_rfl) (fun _ _ _ h => h) (Or.inl ⟨by rfl, ?_⟩) hHeld ?_ ?_
        rotate_left
        · rintro w' ⟨s0, s1, s2, s3, s4, s5⟩
          go_simp
          with_reducible rfl
        rotate_left
        · simp only [Act.put, List.setIfInBounds_toArray, List.set_cons_zero, List.set_cons_succ, i64_w, i32_w]
          rfl
        refine take_ (i := 5) (N := some 24) (v := ?_) (a' := ?_) #[true, false, true, true, true, true, false, false] rfl rfl (by kernel_rfl) (fun _ _ _ h => h) (Or.inl ⟨by rfl, ?_⟩) hHeld ?_ ?_
        rotate_left
        · rintro w' ⟨s0, s1, s2, s3, s4, s5⟩
          go_simp
          with_reducible rfl
        rotate_left
        · simp only [Act.put, List.setIfInBounds_toArray, List.set_cons_zero, List.set_cons_succ, i64_w, i32_w]
          rfl
        refine one_ (i := 1) (N := some 20) #[true, true, true, true, true, true, false, false] rfl rfl (by kernel_rfl) (by decide) (fun K hK => ?_)
        refine goes_ Try.func28 (by kernel_rfl) rfl #[.agg #[.int .i64 xa, .slice B0 xb.length d0, .bool xc]] (by rfl) rfl rfl (by (try simp only [List.map_toArray, List.map_cons, List.map_nil]); first | done | rfl) ?_
        refine (net_of.calls0 xa B0 xb.length d0 xc _).mono ?_
        rintro e w5 ⟨rfl, hb⟩
        refine ⟨_, rfl, ?_⟩
        have X4 := Aside0.mk (Kd.C_below (Kd.C_drew X4.out) hb)
        have Y4 := Aside0.mk (Kd.C_below (Kd.C_drew Y4.out) hb)
        have HB := Aside0.mk (below_step (below_drew1 HB.out) hb)
        refine hK.out _ _ ⟨pk hb hHeld.1, pk hb hHeld.2.1, pk hb hHeld.2.2.1, pk hb hHeld.2.2.2.1, pk hb hHeld.2.2.2.2.1, pk hb hHeld.2.2.2.2.2⟩ (fun hHeld => ?_)
        clear hK K
        refine norm_ (a' := ?_) ?_ ?_
        rotate_left
        · show Act.put _ (some 20) _ = _
          simp only [Act.put, List.setIfInBounds_toArray, List.set_cons_zero, List.set_cons_succ, i64_w, i32_w]
          rfl
        refine one_ (i := 6) (N := some 25) #[true, true, true, true, true, true, true, false] rfl rfl (by kernel_rfl) (by decide) (fun K hK => ?_)
        refine goes_ Try.func32 (by kernel_rfl) rfl #[.agg #[.int .i64 xa, .slice B0 xb.length d0, .bool xc, .slice B0 xb.length d0], .agg #[.int .i64 ya, .slice B1 yb.length d1, .bool yc]] (by rfl) rfl rfl (by (try simp only [List.map_toArray, List.map_cons, List.map_nil]); first | done | rfl) ?_
        refine (HIS.out _ X4.out Y4.out).mono ?_
        rintro e w6 ⟨rfl, hb⟩
        refine ⟨_, rfl, ?_⟩
        have HB := Aside0.mk (below_step HB.out hb)
        refine hK.out _ _ ⟨pk hb (hHeld.1), pk hb (hHeld.2.1), pk hb (hHeld.2.2.1), pk hb (hHeld.2.2.2.1), pk hb (hHeld.2.2.2.2.1), pk hb (hHeld.2.2.2.2.2)⟩ (fun hHeld => ?_)
        clear hK K
        refine norm_ (a' := ?_) ?_ ?_
        rotate_left
        · show Act.put _ (some 25) _ = _
          simp only [Act.put, List.setIfInBounds_toArray, List.set_cons_zero, List.set_cons_succ, i64_w, i32_w]
          rfl
        refine pure_ (i := 7) (N := some 26) (v := ?_) (a' := ?_) #[true, true, true, true, true, true, true, true] rfl rfl (by kernel_rfl) (fun _ _ _ h => h) (Or.inl ⟨by rfl, ?_⟩) ?_ ?_
        rotate_left
        · intro w'
          go_simp
          with_reducible rfl
        rotate_left
        · simp only [Act.put, List.setIfInBounds_toArray, List.set_cons_zero, List.set_cons_succ, i64_w, i32_w]
          rfl
        refine done_ (by kernel_rfl) ?_
        clear hHeld
        cases q
        · have hr : r = false := by
            rw [← HR.out]
            unfold sameL
            rw [decide_eq_true HL.out, Bool.true_and, List.all_eq_false]
            exact ⟨k, List.mem_range.2 hlt, by rw [HQ.out]; decide⟩
          subst hr
          rw [Bool.not_false]
          go_wp2_with fail
          go_ret
          exact ⟨rfl, HB.out⟩
        · go_wp2_with fail
          refine ⟨⟨k + 1, by omega, by go_num, ⟨fun j hj => ?_⟩, HB⟩, by simp [intOf]; omega⟩
          by_cases hjk : j = k
          · rw [hjk]; exact HQ.out
          · exact HA.out j (by omega)
      · obtain rfl : k = l0.length := by omega
        have hr : r = true := by
          rw [← HR.out]
          unfold sameL
          rw [decide_eq_true HL.out, Bool.true_and, List.all_eq_true]
          intro j hj
          exact HA.out j (List.mem_range.1 hj)
        subst hr
        have hlt2 : decide ((l0.length : Int) < (l0.length : Int)) = false := decide_eq_false (by omega)
        go_wp2_with fail
        go_ret
        exact ⟨rfl, HB.out⟩
  · have hs : sameL l0 l1 = false := by unfold sameL; rw [decide_eq_false hl, Bool.false_and]
    rw [hs]
    have hd : ((l0.length : Int) == (l1.length : Int)) = false := by rw [beq_eq_false_iff_ne]; omega
    have hd' : (l0.length == l1.length) = false := by rw [beq_eq_false_iff_ne]; exact hl
    have hd2 : ((l0.length : Int) != (l1.length : Int)) = true := by rw [bne_iff_ne]; omega
    have hd3 : (l0.length != l1.length) = true := by rw [bne_iff_ne]; exact hl
    clear hr0 hr1 hc0 hc1 hl hs
    go_enter Try.func20, Try.ntmps20
    go_wp2_with fail
    go_ret
    exact ⟨rfl, Below.refl _ _⟩

/-! ### rows of letters that are copied -/
theorem run_copy_sz {P : Program} (w : World) (dT sT ty elem : TypeId) (sz g off dLen dCap : Nat) (sp : Option Addr) (sLen sCap : Nat) (cur : List Value) (t : TypeId) (cs : List Value)
    (hu : P.underlying dT = some (.slice elem)) (hs : (P.info? elem).map (·.size) = some sz) (hg : w.heap[g]? = some (.cells cur.toArray t (0, 0))) (hn : cs.length = Nat.min sLen dLen * sz)
    (hpos : sp = none → cs = []) (hsrc : ∀ ad, sp = some ad → ∀ j v, cs[j]? = some v → w.cell? (ad.add j) = some v) (hfit : off + cs.length ≤ cur.length) (h1 : ∀ v ∈ cs, v.oneCell' = true) :
    (Builtin.copy_ #[dT, sT] ty #[.slice (some ⟨g, off, none⟩) dLen dCap, .slice sp sLen sCap]).run P w =
      .ok (goInt (Nat.min sLen dLen)) (w.setRow g (cur.take off ++ cs ++ cur.drop (off + cs.length)).toArray) := by
  have hst := run_storeCells_at P g off t cs 0 cur.toArray w hg (by simpa using hfit) h1
  cases hq : P.info? elem with
  | none => simp [hq] at hs
  | some i =>
    have hi : i.size = sz := by simpa [hq] using hs
    cases sp with
    | none =>
      have hc := hpos rfl
      subst hc
      simp only [List.toList_toArray] at hst
      simp [Builtin.copy_, run_underlying hu, Builtin.lenOf, Builtin.firstCells, sizeOf, typeInfo, hq, hi, hst] at hst ⊢
    | some a =>
      have hl := run_loadCells_list (P := P) w a cs (hsrc a rfl)
      simp [Builtin.copy_, run_underlying hu, Builtin.lenOf, Builtin.firstCells, sizeOf, typeInfo, hq, hi, ← hn, hl, hst]
theorem setRow_same (w : World) (g : Nat) (cur cur' : Array Value) (t : TypeId) (hg : w.heap[g]? = some (.cells cur t (0, 0))) : (w.setRow g cur').heap[g]? = some (.cells cur' t (0, 0)) := setRow_heap w g cur cur' t _ hg
theorem wpList_copy_sz {P : Program} {w : World} {ops : Array Oper} {rest : List Oper} {o : Oper} {a : Act} {Q : Exit → Act → World → Prop} (hgd : o.guard = none) (d s : Operand) (dT sT : TypeId)
    (ho : o.op = .call { callee := .builtin .copy, args := #[d, s], argTypes := #[dT, sT] }) (elem : TypeId) (hu : P.underlying dT = some (.slice elem)) (sz : Nat) (hsz : (P.info? elem).map (·.size) = some sz)
    (g off dLen dCap : Nat) (sp : Option Addr) (sLen sCap : Nat) (hd : a.eval d = .slice (some ⟨g, off, none⟩) dLen dCap) (hs : a.eval s = .slice sp sLen sCap) (cur : List Value) (t : TypeId) (hg : w.heap[g]? = some (.cells cur.toArray t (0, 0)))
    (cs : List Value) (hn : cs.length = Nat.min sLen dLen * sz) (hpos : sp = none → cs = []) (hsrc : ∀ ad, sp = some ad → ∀ j v, cs[j]? = some v → w.cell? (ad.add j) = some v) (hfit : off + cs.length ≤ cur.length) (h1 : ∀ v ∈ cs, v.oneCell' = true)
    (B : Nat) (w0 : World) (hb : Below B w0 w) (hBg : B ≤ g)
    (h : ∀ w', w'.heap[g]? = some (.cells (cur.take off ++ cs ++ cur.drop (off + cs.length)).toArray t (0, 0)) → Below B w0 w' → wpList P ops Q rest (a.put o.dst (goInt (Nat.min sLen dLen))) w') : wpList P ops Q (o :: rest) a w := by
  refine wpList_plain hgd fun K hK => ?_
  have hrun := run_copy_sz (P := P) w dT sT o.type elem sz g off dLen dCap sp sLen sCap cur t cs hu hsz hg hn hpos hsrc hfit h1
  unfold Oper.wp
  simp [execOp, ho, resolve, invoke, builtin, hd, hs, hrun, Result.andThen]
  exact hK _ _ (h _ (by simpa using setRow_same w g _ _ t hg) (below_setRow hb hBg _))
theorem step_copy_sz {P : Program} {w : World} {ops : Array Oper} {o : Oper} {a : Act} {K : Act → World → Prop} {Q : Exit → Act → World → Prop} {E : Prop} (hgd : o.guard = none) (d s : Operand) (dT sT : TypeId)
    (ho : o.op = .call { callee := .builtin .copy, args := #[d, s], argTypes := #[dT, sT] }) (elem : TypeId) (hu : P.underlying dT = some (.slice elem)) (sz : Nat) (hsz : (P.info? elem).map (·.size) = some sz)
    (g off dLen dCap : Nat) (sp : Option Addr) (sLen sCap : Nat) (hd : a.eval d = .slice (some ⟨g, off, none⟩) dLen dCap) (hs : a.eval s = .slice sp sLen sCap) (cur : List Value) (t : TypeId) (hg : w.heap[g]? = some (.cells cur.toArray t (0, 0)))
    (cs : List Value) (hn : cs.length = Nat.min sLen dLen * sz) (hpos : sp = none → cs = []) (hsrc : ∀ ad, sp = some ad → ∀ j v, cs[j]? = some v → w.cell? (ad.add j) = some v) (hfit : off + cs.length ≤ cur.length) (h1 : ∀ v ∈ cs, v.oneCell' = true)
    (B : Nat) (w0 : World) (hb : Below B w0 w) (hBg : B ≤ g)
    (h : ∀ w', w'.heap[g]? = some (.cells (cur.take off ++ cs ++ cur.drop (off + cs.length)).toArray t (0, 0)) → Below B w0 w' → K (a.put o.dst (goInt (Nat.min sLen dLen))) w') :
    if Region.wanted o (yielded ops a.tmps) = true then Oper.wp P o a w K Q else E := by
  have hw : Region.wanted o (yielded ops a.tmps) = true := by simp [Region.wanted, hgd]
  rw [if_pos hw]
  have hrun := run_copy_sz (P := P) w dT sT o.type elem sz g off dLen dCap sp sLen sCap cur t cs hu hsz hg hn hpos hsrc hfit h1
  unfold Oper.wp
  simp [execOp, ho, resolve, invoke, builtin, hd, hs, hrun, Result.andThen]
  exact h _ (by simpa using setRow_same w g _ _ t hg) (below_setRow hb hBg _)
/-- A block that is known whole, as a row of the call's own whose elements share. -/
theorem N_block {α : Type} {d : Kd α} {e base g cap : Nat} {w : World} {ok okp : Nat → Prop} {xs : List α} {cs zs : List Value} (hg : w.heap[g]? = some (.cells (cs ++ zs).toArray e (0, 0))) (hb : base ≤ g) (hz : zs.length = (cap - xs.length) * d.sz) (hn : xs.length ≤ cap)
    (hm : cap ≤ 9223372036854775807) (hR : Reps (Kd.FK d w okp) d.sz xs cs) (hok : ok g) (hokp : ∀ k, okp k → ok k ∧ k ≠ g) : Kd.N d e w base ok (.slice (some ⟨g, 0, none⟩) xs.length cap) xs := by
  have hlen := hR.1
  refine ⟨fun k hk => by obtain rfl : g = k := by simpa [Value.ownBlock] using hk
                         exact hok, Kd.chunks d.sz xs.length cs, Kd.chunks_length _ _ _, ⟨fun k hk => hk.symm, cs, ?_, ?_⟩, fun j x c hx hc => ?_⟩
  · rw [Kd.chunks_length]
    refine ⟨hlen, .inr ⟨g, cap, (cs ++ zs).toArray, rfl, hb, hg, hn, hm, ?_, ?_⟩⟩
    · show (cs ++ zs).toArray.size = cap * d.sz
      simp only [List.size_toArray, List.length_append, hlen, hz, ← Nat.add_mul]
      congr 1
      omega
    · show ((cs ++ zs).toArray.toList).take (xs.length * d.sz) = cs
      rw [List.toList_toArray, ← hlen, List.take_left]
  · exact Kd.reps_raw hR (fun x c hk => ⟨d.K_len (Kd.FK_now hk), d.K_one (Kd.FK_now hk)⟩)
  · rw [Kd.chunks_get hc]
    exact Kd.FK_mono (hR.2 j x hx) (fun k hk => ⟨(hokp k hk).1, by simp only [Value.ownBlock, ne_eq, Option.some.injEq]; exact (hokp k hk).2⟩)
/-- Whether letters fit into memory. -/
def limL (l : List S29) : Prop := l.length < 3518437208000
instance (l : List S29) : Decidable (limL l) := by unfold limL; infer_instance
/-- The flat cells of a row that is read. -/
theorem flat {α : Type} {d : Kd α} {w : World} {ok : Nat → Prop} {A : Option Addr} {n : Nat} {xs : List α} (hF : Kd.F d w ok A n xs) :
    ∃ cs : List Value, cs.length = n * d.sz ∧ Reps (Kd.FK d w ok) d.sz xs cs ∧ (A = none → cs = []) ∧ (∀ ad, A = some ad → ∀ j v, cs[j]? = some v → w.cell? (ad.add j) = some v) := by
  have hr := Kd.F_rows hF
  have hl := hr.1
  by_cases hn : n = 0
  · subst hn
    obtain rfl := List.eq_nil_of_length_eq_zero hl
    exact ⟨[], by simp, Reps.none _ _, fun _ => rfl, fun ad _ j v hv => by simp at hv⟩
  · obtain ⟨ad, rfl, _⟩ := hr.2.2 (by omega)
    obtain ⟨cs, h1, h2⟩ := ReadsRow.inner_ hr
    exact ⟨cs, by rw [h1.1, hl], h1, fun h => by simp at h, fun ad' he j v hv => by
      obtain rfl := Option.some.inj he
      exact h2 j v hv⟩
theorem reps_one {α : Type} {d : Kd α} {w : World} {ok : Nat → Prop} {xs : List α} {cs : List Value} (h : Reps (Kd.FK d w ok) d.sz xs cs) (hs : 0 < d.sz) : ∀ v ∈ cs, v.oneCell' = true := by
  intro v hv
  obtain ⟨i, hi, rfl⟩ := List.getElem_of_mem hv
  have hlt : i / d.sz < xs.length := by rw [Nat.div_lt_iff_lt_mul hs, ← h.1]; exact hi
  have h1 := d.K_one (Kd.FK_now (h.2 (i / d.sz) _ (List.getElem?_eq_getElem hlt)))
  refine h1 _ ?_
  have hm : i % d.sz < d.sz := Nat.mod_lt _ hs
  have he : i / d.sz * d.sz + i % d.sz = i := by rw [Nat.mul_comm]; exact Nat.div_add_mod _ _
  rw [List.mem_iff_getElem?]
  refine ⟨i % d.sz, ?_⟩
  rw [List.getElem?_take, if_pos hm, List.getElem?_drop, he, List.getElem?_eq_getElem hi]
theorem net_row.raw (P0_ : Nat → Prop) (A0 : Option Addr) (c0 : Nat) (l0 : List S29) (m : Nat) (hm : m ≤ 1) (w : World) (hs0 : Kd.V k29 29 w w.heap.size (fun k_ => P0_ k_) (.slice A0 l0.length c0) l0) (hlim : l0.length < 3518437208000) :
    Calls Try.prog 26 #[.slice A0 l0.length c0, .int .i64 m] w fun e w' => e = .returned (.slice (some ⟨w.heap.size, 0, none⟩) l0.length (l0.length + m)) ∧ Below w.heap.size w w' ∧ ∃ cs zs : List Value,
      w'.heap[w.heap.size]? = some (.cells (cs ++ zs).toArray 29 (0, 0)) ∧ zs.length = m * 3 ∧ Reps (Kd.FK k29 w' (fun k => P0_ k ∧ k < w.heap.size)) 3 l0 cs := by
  obtain ⟨_, _, hF⟩ := Kd.V_at hs0
  obtain ⟨cs, hcl, hR, hpos, hsrc⟩ := flat (Kd.F_bound hF)
  have h1c := reps_one hR (by decide)
  have hcl3 : cs.length = l0.length * 3 := hcl
  obtain ⟨iL, hiL, hzL, hsL, hbL⟩ := info_parts info29
  obtain ⟨zc, hzc⟩ : ∃ zc : List Value, zc = (madeCells (Value.agg #[(.int .i64 0), (.slice none 0 0), (.bool false)]).cells ((l0.length + m) * 3)).toList := ⟨_, rfl⟩
  have hzl : zc.length = (l0.length + m) * 3 := by rw [hzc]; simp [madeCells]
  have hmk : ∀ w : World, (Instr.makeSlice 22 (.int .i64 (l0.length : Int)) (.int .i64 ((l0.length : Int) + (m : Int)))).run Try.prog w = .ok (.slice (some ⟨w.heap.size, 0, none⟩) l0.length (l0.length + m)) (w.alloc (.cells zc.toArray 29)) := by
    intro w
    have h := run_make (P := Try.prog) w 22 29 iL _ Try.underlying22 hiL hzL .i64 .i64 (l0.length : Int) ((l0.length : Int) + (m : Int)) (by omega) (by omega) (by rw [hbL]; omega) (by omega)
    rw [h, hsL, hzc]
    simp only [Int.toNat_natCast, Array.toArray_toList]
    rw [show ((l0.length : Int) + (m : Int)).toNat = l0.length + m by omega]
  have HSZ := Lib.hid (show (Try.prog.info? 29).map (·.size) = some 3 by rw [hiL]; simp [hsL])
  have HR := Lib.hid hR
  have HPOS := Lib.hid hpos
  have HSRC := Lib.hid hsrc
  have H1 := Lib.hid h1c
  have HCL := Lib.hid hcl3
  have HZL := Lib.hid hzl
  have hb1 : (l0.length : Int) ≤ 3518437208000 := by omega
  have hb2 : (m : Int) ≤ 1 := by omega
  clear hzc hzl hR hpos hsrc h1c hcl hcl3 hs0 hF hiL hzL hsL hbL
  generalize hn : l0.length = n at *
  have HN := Lib.hid hn
  clear hn
  go_enter Try.func26, Try.ntmps26
  go_wp2_with (with_reducible refine wpList_copy_sz rfl (.tmp 13) (.tmp 14) 22 22 rfl 29 Try.underlying22 3 HSZ.out w.heap.size 0 n (n + m) A0 n c0 rfl rfl zc 29 (blk_new w _) cs ?k1 HPOS.out ?k2 ?k3 H1.out w.heap.size w ?k4 (Nat.le_refl _) ?_)
  case k1 => first | exact HCL.out | rw [HCL.out, show Nat.min n n = n from Nat.min_self n]
  case k2 => exact fun ad he j v hv => pk (below_alloc (Below.refl _ _) _) (HSRC.out ad he j v hv)
  case k3 => rw [HCL.out, HZL.out]; omega
  case k4 => exact below_alloc (Below.refl _ _) _
  intro w1 hg1 hb1
  have HG := Lib.hid hg1
  have HB := Aside0.mk hb1
  clear hg1 hb1
  go_wp2_with fail
  go_ret
  refine ⟨rfl, HB.out, cs, zc.drop (n * 3), ?_, ?_, HR.out.imp_ (fun _ _ h => Kd.FK_below h HB.out)⟩
  · have := HG.out
    rwa [HCL.out] at this
  · rw [List.length_drop, HZL.out]; omega
theorem net_row.own (P0_ : Nat → Prop) (A0 : Option Addr) (c0 : Nat) (l0 : List S29) (m : Nat) (hm : m ≤ 1) (w : World) (hs0 : Kd.V k29 29 w w.heap.size (fun k_ => P0_ k_) (.slice A0 l0.length c0) l0) (hlim : l0.length < 3518437208000) :
    Calls Try.prog 26 #[.slice A0 l0.length c0, .int .i64 m] w fun e w' => e = .returned (.slice (some ⟨w.heap.size, 0, none⟩) l0.length (l0.length + m)) ∧ Below w.heap.size w w' ∧
      Kd.N k29 29 w' w.heap.size (fun k => (P0_ k ∧ k < w.heap.size) ∨ k = w.heap.size) (.slice (some ⟨w.heap.size, 0, none⟩) l0.length (l0.length + m)) l0 := by
  refine (net_row.raw P0_ A0 c0 l0 m hm w hs0 hlim).mono ?_
  rintro e w' ⟨he, hb, cs, zs, hg, hz, hR⟩
  exact ⟨he, hb, N_block hg (Nat.le_refl _) (by rw [Nat.add_sub_cancel_left]; exact hz) (by omega) (by omega) hR (Or.inr rfl) (fun k hk => ⟨Or.inl hk, by have := hk.2; omega⟩)⟩
def net_Put.f (l0 : List S29) (a1 : Int) (l2 : List Int) : Option (List S29) := if limL l0 ∧ lim2 l2 then some (l0 ++ [⟨a1, l2, false⟩]) else none
theorem net_Put.calls (P0_ : Nat → Prop) (A0 : Option Addr) (c0 : Nat) (l0 : List S29) (a1 : Int) (A2 : Option Addr) (c2 : Nat) (l2 : List Int) (r : List S29) (w : World) (hs0 : Kd.V k29 29 w w.heap.size (fun k_ => P0_ k_) (.slice A0 l0.length c0) l0)
    (hr2 : Kd.C (Kd.int .u8) w A2 l2.length l2) (hc2 : l2.length ≤ c2) (h : net_Put.f l0 a1 l2 = some r) :
    Calls Try.prog 21 #[.slice A0 l0.length c0, .int .i64 a1, .slice A2 l2.length c2] w fun e w' => ∃ v0_ : Value, e = .returned v0_ ∧ Kd.V k29 29 w' w.heap.size (fun k_ => (P0_ k_ ∨ w.heap.size ≤ k_)) v0_ r ∧ Below w.heap.size w w' := by
  unfold net_Put.f at h
  by_cases hc : limL l0 ∧ lim2 l2
  · rw [if_pos hc] at h
    obtain rfl := Option.some.inj h
    obtain ⟨hl, hl2⟩ := hc
    unfold limL at hl
    have HROW := Lib.hid (net_row.own P0_ A0 c0 l0 1 (Nat.le_refl _) w hs0 hl)
    have HCL := Lib.hid (fun w' h' => bytes_Clone.calls A2 c2 l2 l2 w' h' hc2 (if_pos hl2))
    have HR2 := Aside0.mk hr2
    have HL := Lib.hid hl
    clear h hs0 hr2 hc2 hl2 hl
    go_enter Try.func21, Try.ntmps21
    go_wp2_with fail
    refine HROW.out.mono ?_
    rintro e w1 ⟨rfl, hb, hn⟩
    have HB := Aside0.mk hb
    have HO := Aside0.mk hn
    clear hb hn HROW
    go_wp2_with fail
    refine (HCL.out w1 (Kd.C_below HR2.out HB.out)).mono ?_
    rintro e w2 ⟨v1, rfl, ho, hb⟩
    obtain ⟨A1, c1, rfl⟩ := Kd.R_slice ho
    have n0_ := Aside0.mk (below_step HB.out hb)
    have n1_ := Aside0.mk (Kd.N_below HO.out hb)
    have hsz := HB.out.size
    have hgl := Kd.N_lt HO.out _ rfl
    have HI := Aside0.mk ho
    clear HB HO HCL hb ho
    have HB := n0_
    have HO := n1_
    have HW1 := Lib.hid hgl
    clear n0_ n1_ hsz hgl
    go_wp2_with ((with_reducible refine gate_builtin (b := .append) (xs := #[.tmp 8, .tmp 13]) rfl ?_); at_builtin; refine Kd.N_append k29 (w0 := w) w.heap.size rfl (.tmp 8) (.tmp 13) 22 29 (.agg #[(.int .i64 0), (.slice none 0 0), (.bool false)]) 40 rfl Try.underlying22 info29 rfl (by decide) (by omega) (.slice (some ⟨w.heap.size, 0, none⟩) l0.length (l0.length + 1)) l0 (⟨a1, l2, false⟩ : S29) [.int .i64 a1, .slice A1 l2.length c1, .bool false] (fun k => P0_ k ∨ w.heap.size ≤ k) (fun k => w1.heap.size ≤ k) rfl rfl ?aP ?aK ?aF ?aO ?aB ?aS ?aL ?_)
    case aP => exact k29_mkF _ _ _ (Kd.R_reads' HI.out).2.1 (Kd.R_F HI.out)
    case aK => exact fun k hk => ⟨Or.inr (Nat.le_trans (Nat.le_of_lt HW1.out) hk), by simp only [Value.ownBlock, ne_eq, Option.some.injEq]; have := HW1.out; omega⟩
    case aF => exact fun k hk => Or.inr (Nat.le_trans (below_size HB.out) hk)
    case aO => exact Kd.N_mono HO.out (fun k hk => hk.elim (fun h => Or.inl h.1) (fun h => Or.inr (by omega)))
    case aB => exact HB.out
    case aS => exact below_size HB.out
    case aL => have := HL.out; omega
    intro v1 w3 ho hb hg hat
    have HO2 := Aside0.mk ho
    have HB2 := Aside0.mk hb
    clear ho hb hg hat
    go_wp2_with fail
    go_ret
    exact ⟨_, rfl, Kd.N_V HO2.out, HB2.out⟩
  · rw [if_neg hc] at h
    cases h

/-- A block of one letter, as a row that is read. -/
theorem F_single {w : World} {b : Nat} {okp : Nat → Prop} {x : S29} {c : List Value} (hg : w.heap[b]? = some (.cells c.toArray 29 (0, 0))) (hF : Kd.FK k29 w okp x c) (hne : ∀ k, okp k → k ≠ b) :
    Kd.F k29 w (fun k => okp k ∨ k = b) (some ⟨b, 0, none⟩) 1 [x] := by
  have h := N_block (d := k29) (e := 29) (base := 0) (g := b) (cap := 1) (w := w) (ok := fun k => okp k ∨ k = b) (okp := okp) (xs := [x]) (cs := c) (zs := []) (by rw [List.append_nil]; exact hg) (Nat.zero_le _) rfl (Nat.le_refl _) (by decide)
    ⟨by rw [k29.K_len (Kd.FK_now hF)]; simp, fun j p hj => by
      rcases j with _ | j
      · obtain rfl : x = p := by simpa using hj
        have hl : c.length = k29.sz := k29.K_len (Kd.FK_now hF)
        rw [Nat.zero_mul, List.drop_zero, ← hl, List.take_length]
        exact hF
      · simp at hj⟩ (Or.inr rfl) (fun k hk => ⟨Or.inl hk, hne k hk⟩)
  exact Kd.N_F h
/-- An element's cells, and what they lead to. -/
theorem elem {w : World} {ok : Nat → Prop} {A : Option Addr} {l : List S29} (hF : Kd.F k29 w ok A l.length l) (p : Nat) (hp : p < l.length) :
    ∃ ad A1 c1, A = some ad ∧ w.cell? (ad.add (p * 3)) = some (.int .i64 (rd_T29 l p).f0) ∧ w.cell? ⟨(ad.add (p * 3)).block, (ad.add (p * 3)).off + 1, none⟩ = some (.slice A1 (rd_T29 l p).f1.length c1) ∧
      w.cell? ⟨(ad.add (p * 3)).block, (ad.add (p * 3)).off + 2, none⟩ = some (.bool (rd_T29 l p).f2) ∧ (rd_T29 l p).f1.length ≤ c1 ∧ Kd.F (Kd.int .u8) w ok A1 (rd_T29 l p).f1.length (rd_T29 l p).f1 := by
  obtain ⟨ad, c, rfl, _, hK, hc, _⟩ := Kd.F_get hF z29 (p : Int) (by omega) (by omega)
  obtain ⟨A1, c1, rfl, hl, hF1⟩ := k29_openF hK
  have h0 := hc 0 _ rfl
  have h1 := hc 1 _ rfl
  have h2 := hc 2 _ rfl
  have hsz : k29.sz = 3 := rfl
  rw [Int.toNat_natCast, hsz] at h0 h1 h2
  rw [Nat.add_zero] at h0
  rw [add_field ad (p * 3) 1 (by omega)] at h1
  rw [add_field ad (p * 3) 2 (by omega)] at h2
  exact ⟨ad, A1, c1, rfl, h0, h1, h2, hl, hF1⟩
/-- What stands behind a row's copy and a letter's own block, made in either order. -/
def DupF (P0_ : Nat → Prop) (W : World) (l0 : List S29) (x : S29) (g b : Nat) (w : World) : Prop :=
  Kd.N k29 29 w W.heap.size (fun k => (P0_ k ∧ k < W.heap.size) ∨ k = g) (.slice (some ⟨g, 0, none⟩) l0.length (l0.length + 1)) l0 ∧
    Kd.F k29 w (fun k => (P0_ k ∧ k < W.heap.size) ∨ k = b) (some ⟨b, 0, none⟩) 1 [x] ∧ Below W.heap.size W w ∧ W.heap.size ≤ g ∧ W.heap.size ≤ b ∧ g ≠ b
theorem dupF_mk {P0_ : Nat → Prop} {W w : World} {l0 : List S29} {xa : Int} {xb : List Int} {xc : Bool} {A1 : Option Addr} {c1 g b : Nat} (hb : Below W.heap.size W w)
    (hN : Kd.N k29 29 w W.heap.size (fun k => (P0_ k ∧ k < W.heap.size) ∨ k = g) (.slice (some ⟨g, 0, none⟩) l0.length (l0.length + 1)) l0)
    (hg : w.heap[b]? = some (.cells #[.int .i64 xa, .slice A1 xb.length c1, .bool xc] 29 (0, 0))) (hF : Kd.F (Kd.int .u8) W (fun k => P0_ k ∧ k < W.heap.size) A1 xb.length xb) (hl : xb.length ≤ c1) (h1 : W.heap.size ≤ g) (h2 : W.heap.size ≤ b) (h3 : g ≠ b) :
    DupF P0_ W l0 (⟨xa, xb, xc⟩ : S29) g b w :=
  ⟨hN, F_single (c := [.int .i64 xa, .slice A1 xb.length c1, .bool xc]) hg (k29_mkF _ _ (⟨xa, xb, xc⟩ : S29) hl (Kd.F_below hF hb)) (fun k hk => by have := hk.2; omega), hb, h1, h2, h3⟩
def net_Dup.f (l0 : List S29) (a1 : Int) : Option (List S29 × Int) := if limL l0 then some (if 0 ≤ a1 ∧ a1 < (l0.length : Int) then (l0 ++ [rd_T29 l0 a1], 0) else (l0, 7)) else none
theorem net_Dup.calls (P0_ : Nat → Prop) (A0 : Option Addr) (c0 : Nat) (l0 : List S29) (a1 : Int) (r1 : List S29) (r2 : Int) (w : World) (hs0 : Kd.V k29 29 w w.heap.size (fun k_ => P0_ k_) (.slice A0 l0.length c0) l0) (h : net_Dup.f l0 a1 = some (r1, r2)) :
    Calls Try.prog 15 #[.slice A0 l0.length c0, .int .i64 a1] w fun e w' => ∃ v0_ : Value, e = .returned (.tuple #[v0_, .int .i64 r2]) ∧ Kd.V k29 29 w' w.heap.size (fun k_ => (P0_ k_ ∨ w.heap.size ≤ k_)) v0_ r1 ∧ Below w.heap.size w w' := by
  unfold net_Dup.f at h
  by_cases hc : limL l0
  · rw [if_pos hc] at h
    have h := Option.some.inj h
    have hlim : l0.length < 3518437208000 := hc
    have HTH := Lib.hid (fun w' => net_there.calls0 A0 l0.length c0 a1 w' (by omega))
    by_cases hin : 0 ≤ a1 ∧ a1 < (l0.length : Int)
    · rw [if_pos hin] at h
      simp only [Prod.mk.injEq] at h
      obtain ⟨rfl, rfl⟩ := h
      rw [decide_eq_true hin] at HTH
      obtain ⟨p, rfl⟩ : ∃ p : Nat, a1 = (p : Int) := ⟨a1.toNat, by omega⟩
      have hp : p < l0.length := by omega
      obtain ⟨_, hcap, hF⟩ := Kd.V_at hs0
      have hFb := Kd.F_bound hF
      obtain ⟨ad, A1, c1, rfl, q0, q1, q2, hl1, hF1⟩ := elem hFb p hp
      have HF := Aside0.mk hFb
      have HF1 := Aside0.mk hF1
      have HL1 := Aside0.mk hl1
      have hx : (⟨(rd_T29 l0 p).f0, (rd_T29 l0 p).f1, (rd_T29 l0 p).f2⟩ : S29) = rd_T29 l0 p := rfl
      rw [← hx]
      generalize (rd_T29 l0 p).f0 = xa at *
      generalize (rd_T29 l0 p).f1 = xb at *
      generalize (rd_T29 l0 p).f2 = xc at *
      have hpi : (p : Int) < (l0.length : Int) := hin.2
      have hp0 : (0 : Int) ≤ (p : Int) := by omega
      have HCAP := Lib.hid hcap
      have HLIM := Lib.hid hlim
      clear hs0 hF hFb hF1 hl1 hx hin hc hcap hlim h
      go_enter Try.func15, Try.ntmps15
      go_wp2_with fail
      refine (HTH.out _).mono ?_
      rintro e w' ⟨rfl, rfl⟩
      go_wp2_with fail
      have HB := Aside0.mk (below_drew1 (Below.refl w'.heap.size w'))
      refine start_ (n := 10) (S := fun w' => w'.cell? (ad.add (p * 3)) = some (.int .i64 xa) ∧ w'.cell? ⟨(ad.add (p * 3)).block, (ad.add (p * 3)).off + 1, none⟩ = some (.slice A1 xb.length c1) ∧ w'.cell? ⟨(ad.add (p * 3)).block, (ad.add (p * 3)).off + 2, none⟩ = some (.bool xc)) (ds := []) #[false, false, false, false, false, false, false, false, false, false] (by kernel_rfl) rfl rfl ⟨q0, q1, q2⟩ (fun hHeld => ?_)
      generalize hw3_ : w'.drew = w3 at *
      clear hw3_
      refine pure_ (i := 0) (N := some 11) (v := ?_) (a' := ?_) #[true, false, false, false, false, false, false, false, false, false] rfl rfl (by kernel_rfl) (fun _ _ _ h => h) (Or.inl ⟨by rfl, ?_⟩) ?_ ?_
      rotate_left
      · intro w'
        go_simp
        with_reducible rfl
      rotate_left
      · simp only [Act.put, List.setIfInBounds_toArray, List.set_cons_zero, List.set_cons_succ, i64_w, i32_w]
        rfl
      refine pure_ (i := 2) (N := some 13) (v := ?_) (a' := ?_) #[true, false, true, false, false, false, false, false, false, false] rfl rfl (by kernel_rfl) (fun _ _ _ h => h) (Or.inl ⟨by rfl, ?_⟩) ?_ ?_
      rotate_left
      · intro w'
        go_simp
        with_reducible rfl
      rotate_left
      · simp only [Act.put, List.setIfInBounds_toArray, List.set_cons_zero, List.set_cons_succ, i64_w, i32_w]
        rfl
      refine pure_ (i := 3) (N := some 14) (v := ?_) (a' := ?_) #[true, false, true, true, false, false, false, false, false, false] rfl rfl (by kernel_rfl) (fun _ _ _ h => h) (Or.inl ⟨by rfl, ?_⟩) ?_ ?_
      rotate_left
      · intro w'
        go_simp
        with_reducible rfl
      rotate_left
      · simp only [Act.put, List.setIfInBounds_toArray, List.set_cons_zero, List.set_cons_succ, i64_w, i32_w]
        rfl
      refine pure_ (i := 4) (N := some 15) (v := ?_) (a' := ?_) #[true, false, true, true, true, false, false, false, false, false] rfl rfl (by kernel_rfl) (fun _ _ _ h => h) (Or.inl ⟨by rfl, ?_⟩) ?_ ?_
      rotate_left
      · intro w'
        go_simp
        with_reducible rfl
      rotate_left
      · simp only [Act.put, List.setIfInBounds_toArray, List.set_cons_zero, List.set_cons_succ, i64_w, i32_w]
        rfl
      refine take_ (i := 5) (N := some 16) (v := ?_) (a' := ?_) #[true, false, true, true, true, true, false, false, false, false] rfl rfl (by kernel_rfl) (fun _ _ _ h => h) (Or.inl ⟨by rfl, ?_⟩) hHeld ?_ ?_
      rotate_left
      · rintro w' ⟨s0, s1, s2⟩
        go_simp
        with_reducible rfl
      rotate_left
      · simp only [Act.put, List.setIfInBounds_toArray, List.set_cons_zero, List.set_cons_succ, i64_w, i32_w]
        rfl
      refine join_ (σ := Nat × Nat) 3 #[true, true, true, true, true, true, true, false, false, false] (fun s_ => [(12, .slice (some ⟨s_.1, 0, none⟩) l0.length (l0.length + 1)), (17, .slice (some ⟨s_.2, 0, none⟩) 1 1)]) (fun s_ w2_ => (w2_.cell? (ad.add (p * 3)) = some (.int .i64 xa) ∧ w2_.cell? ⟨(ad.add (p * 3)).block, (ad.add (p * 3)).off + 1, none⟩ = some (.slice A1 xb.length c1) ∧ w2_.cell? ⟨(ad.add (p * 3)).block, (ad.add (p * 3)).off + 2, none⟩ = some (.bool xc)) ∧ DupF P0_ w' l0 (⟨xa, xb, xc⟩ : S29) s_.1 s_.2 w2_) ?_ ?_
      rotate_left
      · intro hCont
        refine two_ (i := 1) (j := 6) (Ni := some 12) (Nj := some 17) #[true, true, true, true, true, true, false, false, false, false] #[true, false, true, true, true, true, true, false, false, false] rfl rfl rfl rfl (by kernel_rfl) (by decide) (by decide) (fun K hK => ?_) (fun K hK => ?_)
        · skip
          refine goes_ Try.func26 (by kernel_rfl) rfl #[.slice (some ad) l0.length c0, .int .i64 (1 : Nat)] (by rfl) rfl rfl (by (try simp only [List.map_toArray, List.map_cons, List.map_nil]); first | done | rfl) ?_
          refine (net_row.own (fun k => P0_ k ∧ k < w'.heap.size) (some ad) c0 l0 1 (Nat.le_refl _) _ (Kd.V_mk HCAP.out (Kd.F_below HF.out HB.out)) HLIM.out).mono ?_
          rintro e w4 ⟨rfl, hb, hn⟩
          refine ⟨_, rfl, ?_⟩
          have HN := Aside0.mk hn
          have hbw := HB.out.size
          have HHB := Aside0.mk hb
          have HB0 := HB
          have HB := Aside0.mk (below_step HB.out hb)
          refine hK.out _ _ ⟨pk hb hHeld.1, pk hb hHeld.2.1, pk hb hHeld.2.2⟩ (fun hHeld => ?_)
          clear hK K
          refine norm_ (a' := ?_) ?_ ?_
          rotate_left
          · show Act.put _ (some 12) _ = _
            simp only [Act.put, List.setIfInBounds_toArray, List.set_cons_zero, List.set_cons_succ, i64_w, i32_w]
            rfl
          refine one_ (i := 6) (N := some 17) #[true, true, true, true, true, true, true, false, false, false] rfl rfl (by kernel_rfl) (by decide) (fun K hK => ?_)
          refine value_ (w1 := ?_) (v := ?_) (by rfl) rfl ?_ ?_
          rotate_left 2
          · go_simp
            constructor
            · rfl
            · rfl
          have hbn := below_alloc (Below.refl _ w4) (Obj.cells #[.int .i64 xa, .slice A1 xb.length c1, .bool xc] 29)
          have HHN := Aside0.mk (blk_new w4 (Obj.cells #[.int .i64 xa, .slice A1 xb.length c1, .bool xc] 29))
          have HB1 := HB
          have HB := Aside0.mk (below_alloc HB.out (Obj.cells #[.int .i64 xa, .slice A1 xb.length c1, .bool xc] 29))
          refine hK.out _ _ ⟨pk hbn hHeld.1, pk hbn hHeld.2.1, pk hbn hHeld.2.2⟩ (fun hHeld => ?_)
          clear hK K
          refine norm_ (a' := ?_) ?_ ?_
          rotate_left
          · show Act.put _ (some 17) _ = _
            simp only [Act.put, List.setIfInBounds_toArray, List.set_cons_zero, List.set_cons_succ, i64_w, i32_w]
            rfl
          exact norm_ (by simp only [putAll, Act.put, List.setIfInBounds_toArray, List.set_cons_zero, List.set_cons_succ]) (hCont (w3.heap.size, w4.heap.size) _ ⟨hHeld, dupF_mk HB.out (Kd.N_mono (Kd.N_lower (Kd.N_alloc HN.out _) (below_size HB0.out)) (fun k hk => hk.elim (fun h => Or.inl h.1) Or.inr)) HHN.out HF1.out HL1.out (below_size HB0.out) (Nat.le_trans (below_size HB0.out) (below_size HHB.out)) (Nat.ne_of_lt (Kd.N_lt HN.out _ rfl))⟩)
        · skip
          refine value_ (w1 := ?_) (v := ?_) (by rfl) rfl ?_ ?_
          rotate_left 2
          · go_simp
            constructor
            · rfl
            · rfl
          have hbn := below_alloc (Below.refl _ w3) (Obj.cells #[.int .i64 xa, .slice A1 xb.length c1, .bool xc] 29)
          have HHN := Aside0.mk (blk_new w3 (Obj.cells #[.int .i64 xa, .slice A1 xb.length c1, .bool xc] 29))
          have HB1 := HB
          have HB := Aside0.mk (below_alloc HB.out (Obj.cells #[.int .i64 xa, .slice A1 xb.length c1, .bool xc] 29))
          refine hK.out _ _ ⟨pk hbn hHeld.1, pk hbn hHeld.2.1, pk hbn hHeld.2.2⟩ (fun hHeld => ?_)
          clear hK K
          refine norm_ (a' := ?_) ?_ ?_
          rotate_left
          · show Act.put _ (some 17) _ = _
            simp only [Act.put, List.setIfInBounds_toArray, List.set_cons_zero, List.set_cons_succ, i64_w, i32_w]
            rfl
          refine one_ (i := 1) (N := some 12) #[true, true, true, true, true, true, true, false, false, false] rfl rfl (by kernel_rfl) (by decide) (fun K hK => ?_)
          refine goes_ Try.func26 (by kernel_rfl) rfl #[.slice (some ad) l0.length c0, .int .i64 (1 : Nat)] (by rfl) rfl rfl (by (try simp only [List.map_toArray, List.map_cons, List.map_nil]); first | done | rfl) ?_
          refine (net_row.own (fun k => P0_ k ∧ k < w'.heap.size) (some ad) c0 l0 1 (Nat.le_refl _) _ (Kd.V_mk HCAP.out (Kd.F_below HF.out HB.out)) HLIM.out).mono ?_
          rintro e w4 ⟨rfl, hb, hn⟩
          refine ⟨_, rfl, ?_⟩
          have HN := Aside0.mk hn
          have hbw := HB.out.size
          have HHB := Aside0.mk hb
          have HB0 := HB
          have HB := Aside0.mk (below_step HB.out hb)
          refine hK.out _ _ ⟨pk hb hHeld.1, pk hb hHeld.2.1, pk hb hHeld.2.2⟩ (fun hHeld => ?_)
          clear hK K
          refine norm_ (a' := ?_) ?_ ?_
          rotate_left
          · show Act.put _ (some 12) _ = _
            simp only [Act.put, List.setIfInBounds_toArray, List.set_cons_zero, List.set_cons_succ, i64_w, i32_w]
            rfl
          exact norm_ (by simp only [putAll, Act.put, List.setIfInBounds_toArray, List.set_cons_zero, List.set_cons_succ]) (hCont ((w3.alloc (Obj.cells #[.int .i64 xa, .slice A1 xb.length c1, .bool xc] 29)).heap.size, w3.heap.size) _ ⟨hHeld, dupF_mk HB.out (Kd.N_mono (Kd.N_lower HN.out (below_size HB0.out)) (fun k hk => hk.elim (fun h => Or.inl h.1) Or.inr)) (blk_below HHN.out HHB.out) HF1.out HL1.out (below_size HB0.out) (below_size HB1.out) (by simp)⟩)
      rintro ⟨g, b⟩ w5 ⟨hS_, hD_⟩
      have hHeld := hS_
      have HD := Aside0.mk hD_
      clear hS_ hD_
      refine norm_ (a' := ?_) ?_ ?_
      rotate_left
      · simp only [putAll, Act.put, List.setIfInBounds_toArray, List.set_cons_zero, List.set_cons_succ]
        rfl
      refine one_ (i := 7) (N := some 18) #[true, true, true, true, true, true, true, true, false, false] rfl rfl (by kernel_rfl) (by decide) (fun K hK => ?_)
      refine Kd.N_append_rows_step k29 (w0 := w') w'.heap.size (by rfl) (.tmp 12) (.tmp 17) 22 29 (.agg #[(.int .i64 0), (.slice none 0 0), (.bool false)]) 40 rfl Try.underlying22 info29 rfl (by decide) (by omega) (.slice (some ⟨g, 0, none⟩) l0.length (l0.length + 1)) l0 [(⟨xa, xb, xc⟩ : S29)] _ _ _ (fun k => P0_ k ∨ w'.heap.size ≤ k) (fun k => (P0_ k ∧ k < w'.heap.size) ∨ k = b) rfl rfl ?aO ?aR ?aK ?aF ?aB ?aS ?aL ?_
      (case aO => exact Kd.N_mono HD.out.1 (fun k hk => hk.elim (fun h => Or.inl h.1) (fun h => Or.inr (by have := HD.out.2.2.2.1; omega))))
      (case aR => exact HD.out.2.1)
      (case aK => exact fun k hk => ⟨hk.elim (fun h => Or.inl h.1) (fun h => Or.inr (by have := HD.out.2.2.2.2.1; omega)), by have h1 := HD.out.2.2.2; simp only [Value.ownBlock, ne_eq, Option.some.injEq]; rcases hk with hk | hk <;> omega⟩)
      (case aF => exact fun k hk => Or.inr (Nat.le_trans (below_size HD.out.2.2.1) hk))
      (case aB => exact HD.out.2.2.1)
      (case aS => exact below_size HD.out.2.2.1)
      (case aL => have := HLIM.out; omega)
      intro v1 w6 ho hb hg hat
      have HO := Aside0.mk ho
      have HB2 := Aside0.mk hb
      clear ho hb hg hat
      refine hK.out _ _ ⟨pk HB2.out q0, pk HB2.out q1, pk HB2.out q2⟩ (fun hHeld => ?_)
      clear hK K
      refine norm_ (a' := ?_) ?_ ?_
      rotate_left
      · show Act.put _ (some 18) _ = _
        simp only [Act.put, List.setIfInBounds_toArray, List.set_cons_zero, List.set_cons_succ, i64_w, i32_w]
        rfl
      refine pure_ (i := 8) (N := some 4) (v := ?_) (a' := ?_) #[true, true, true, true, true, true, true, true, true, false] rfl rfl (by kernel_rfl) (fun _ _ _ h => h) (Or.inl ⟨by rfl, ?_⟩) ?_ ?_
      rotate_left
      · intro w'
        go_simp
        with_reducible rfl
      rotate_left
      · simp only [Act.put, List.setIfInBounds_toArray, List.set_cons_zero, List.set_cons_succ, i64_w, i32_w]
        rfl
      refine pure_ (i := 9) (N := some 5) (v := ?_) (a' := ?_) #[true, true, true, true, true, true, true, true, true, true] rfl rfl (by kernel_rfl) (fun _ _ _ h => h) (Or.inl ⟨by rfl, ?_⟩) ?_ ?_
      rotate_left
      · intro w'
        go_simp
        with_reducible rfl
      rotate_left
      · simp only [Act.put, List.setIfInBounds_toArray, List.set_cons_zero, List.set_cons_succ, i64_w, i32_w]
        rfl
      refine done_ (by kernel_rfl) ?_
      go_wp2_with fail
      go_ret2
      exact ⟨_, rfl, Kd.N_V HO.out, HB2.out⟩
    · rw [if_neg hin] at h
      simp only [Prod.mk.injEq] at h
      obtain ⟨rfl, rfl⟩ := h
      rw [decide_eq_false hin] at HTH
      have HV := Aside0.mk hs0
      clear hs0 hin hc hlim h
      go_enter Try.func15, Try.ntmps15
      go_wp2_with fail
      refine (HTH.out _).mono ?_
      rintro e w' ⟨rfl, rfl⟩
      go_wp2_with fail
      go_ret2
      exact ⟨_, rfl, Kd.V_mono HV.out (fun _ hk => Or.inl hk), Below.refl _ _⟩
  · rw [if_neg hc] at h
    cases h

theorem reps_set {α : Type} {R : α → List Value → Prop} {size : Nat} {ps : List α} {cs : List Value} (h : Reps R size ps cs) (p : Nat) (hp : p < ps.length) (x' : α) (c' : List Value) (hc : c'.length = size) (hR : R x' c') :
    Reps R size (ps.set p x') (cs.take (p * size) ++ c' ++ cs.drop (p * size + size)) := by
  have hlen := h.1
  have h1 : p * size + size ≤ cs.length := by rw [hlen, ← Nat.succ_mul]; exact Nat.mul_le_mul_right _ hp
  refine ⟨by rw [List.length_append, List.length_append, List.length_take, List.length_drop, hc, List.length_set, ← hlen]; omega, fun j q hq => ?_⟩
  rw [List.getElem?_set] at hq
  by_cases hj : p = j
  · subst hj
    rw [if_pos rfl, if_pos hp] at hq
    obtain rfl := Option.some.inj hq
    rw [List.append_assoc, List.drop_append_of_le_length (by rw [List.length_take]; omega), List.drop_of_length_le (by rw [List.length_take]; omega), List.nil_append, List.take_append_of_le_length (by omega), ← hc, List.take_length]
    exact hR
  · rw [if_neg hj] at hq
    have hb := h.2 j q hq
    have hjl : j < ps.length := (List.getElem?_eq_some_iff.1 hq).1
    have hkey : ((cs.take (p * size) ++ c' ++ cs.drop (p * size + size)).drop (j * size)).take size = (cs.drop (j * size)).take size := by
      apply List.ext_getElem?
      intro i
      rw [List.getElem?_take, List.getElem?_take]
      by_cases hi : i < size
      · rw [if_pos hi, if_pos hi, List.getElem?_drop, List.getElem?_drop]
        rcases Nat.lt_or_gt_of_ne hj with hlt | hgt
        · have h2 : p * size + size ≤ j * size := by rw [← Nat.succ_mul]; exact Nat.mul_le_mul_right _ hlt
          rw [List.getElem?_append_right (by rw [List.length_append, List.length_take, hc]; omega), List.getElem?_drop, List.length_append, List.length_take, hc]
          congr 1
          omega
        · have h2 : j * size + size ≤ p * size := by rw [← Nat.succ_mul]; exact Nat.mul_le_mul_right _ hgt
          rw [List.append_assoc, List.getElem?_append_left (by rw [List.length_take]; omega), List.getElem?_take, if_pos (by omega)]
      · rw [if_neg hi, if_neg hi]
    rw [hkey]
    exact hb
theorem set_two (cs : List Value) (q : Nat) (v0 v1 v2 : Value) (h : cs[q]? = some v0) (hl : q + 3 ≤ cs.length) : (cs.toArray.setIfInBounds (q + 1) v1).setIfInBounds (q + 2) v2 = (cs.take q ++ [v0, v1, v2] ++ cs.drop (q + 3)).toArray := by
  apply Array.ext_getElem?
  intro i
  rw [Array.getElem?_setIfInBounds, Array.getElem?_setIfInBounds]
  simp only [Array.size_setIfInBounds, List.size_toArray, List.getElem?_toArray]
  by_cases h2 : q + 2 = i
  · subst h2
    rw [if_pos rfl, if_pos (by omega), List.append_assoc, List.getElem?_append_right (by rw [List.length_take]; omega), List.length_take, show q + 2 - min q cs.length = 2 by omega]
    rfl
  · rw [if_neg h2]
    by_cases h1 : q + 1 = i
    · subst h1
      rw [if_pos rfl, if_pos (by omega), List.append_assoc, List.getElem?_append_right (by rw [List.length_take]; omega), List.length_take, show q + 1 - min q cs.length = 1 by omega]
      rfl
    · rw [if_neg h1]
      by_cases h0 : q = i
      · subst h0
        rw [h, List.append_assoc, List.getElem?_append_right (by rw [List.length_take]; omega), List.length_take, show q - min q cs.length = 0 by omega]
        rfl
      · by_cases hlt : i < q
        · rw [List.append_assoc, List.getElem?_append_left (by rw [List.length_take]; omega), List.getElem?_take, if_pos hlt]
        · rw [List.getElem?_append_right (by rw [List.length_append, List.length_take]; simp; omega), List.getElem?_drop, List.length_append, List.length_take]
          congr 1
          simp
          omega
def net_Spoil.f (l0 : List S29) (a1 a2 : Int) (l3 : List Int) : Option (List S29 × Int) :=
  if limL l0 then (if 0 ≤ a1 ∧ a1 < (l0.length : Int) then (crc_Spoil.f (rd_T29 l0 a1).f1 a2 l3).bind fun b =>
    (if (rd_T29 l0 a1).f2 = true then some (l0, 0) else if ((strOfNums (rd_T29 l0 a1).f1).toList == (strOfNums b).toList) = true then some (l0, 0) else some (l0.set a1.toNat ⟨(rd_T29 l0 a1).f0, b, true⟩, 0)) else some (l0, 7)) else none
theorem net_Spoil.calls (P0_ : Nat → Prop) (A0 : Option Addr) (c0 : Nat) (l0 : List S29) (a1 a2 : Int) (A3 : Option Addr) (c3 : Nat) (l3 : List Int) (r1 : List S29) (r2 : Int) (w : World) (hs0 : Kd.V k29 29 w w.heap.size (fun k_ => P0_ k_) (.slice A0 l0.length c0) l0)
    (hr3 : Kd.C (Kd.int .u8) w A3 l3.length l3) (hc3 : l3.length ≤ c3) (h : net_Spoil.f l0 a1 a2 l3 = some (r1, r2)) :
    Calls Try.prog 17 #[.slice A0 l0.length c0, .int .i64 a1, .int .i64 a2, .slice A3 l3.length c3] w fun e w' => ∃ v0_ : Value, e = .returned (.tuple #[v0_, .int .i64 r2]) ∧ Kd.V k29 29 w' w.heap.size (fun k_ => (P0_ k_ ∨ w.heap.size ≤ k_)) v0_ r1 ∧ Below w.heap.size w w' := by
  unfold net_Spoil.f at h
  by_cases hc : limL l0
  · rw [if_pos hc] at h
    have hlim : l0.length < 3518437208000 := hc
    have HTH := Lib.hid (fun w' => net_there.calls0 A0 l0.length c0 a1 w' (by omega))
    by_cases hin : 0 ≤ a1 ∧ a1 < (l0.length : Int)
    · rw [if_pos hin] at h
      obtain ⟨b, hsp, h⟩ := Option.bind_eq_some_iff.1 h
      rw [decide_eq_true hin] at HTH
      obtain ⟨p, rfl⟩ : ∃ p : Nat, a1 = (p : Int) := ⟨a1.toNat, by omega⟩
      rw [Int.toNat_natCast] at h
      have hp : p < l0.length := by omega
      obtain ⟨_, hcap, hF⟩ := Kd.V_at hs0
      have hFb := Kd.F_bound hF
      obtain ⟨ad, A1, c1, rfl, q0, q1, q2, hl1, hF1⟩ := elem hFb p hp
      have HV := Aside0.mk hs0
      have HF := Aside0.mk hFb
      have HF1 := Aside0.mk hF1
      have HL1 := Aside0.mk hl1
      have HX0 := Lib.hid (show ∀ x, l0[p]? = some x → x.f0 = (rd_T29 l0 p).f0 from fun x hx => by unfold rd_T29; rw [Int.toNat_natCast, List.getD_eq_getElem?_getD, hx]; rfl)
      have HSP := Lib.hid hsp
      have HH := Lib.hid h
      have HR3 := Aside0.mk hr3
      have HC3 := Aside0.mk hc3
      generalize (rd_T29 l0 p).f0 = xa at *
      generalize (rd_T29 l0 p).f1 = xb at *
      generalize (rd_T29 l0 p).f2 = xc at *
      have hpi : (p : Int) < (l0.length : Int) := hin.2
      have hp0 : (0 : Int) ≤ (p : Int) := by omega
      have HCAP := Lib.hid hcap
      have HLIM := Lib.hid hlim
      clear hs0 hF hFb hF1 hl1 hin hc hcap hlim h hsp hr3 hc3
      have hfld : ∀ (x0 x1 x2 x3 : Value) (W_ : World), (Instr.field 58 (.agg #[x0, x1, x2, x3]) 1).run Try.prog W_ = .ok (.agg #[x3]) W_ := fun _ _ _ _ _ => by kernel_rfl
      go_enter Try.func17, Try.ntmps17
      go_wp2_with fail
      refine (HTH.out _).mono ?_
      rintro e w' ⟨rfl, rfl⟩
      go_wp2_with fail
      refine (crc_Spoil.calls (fun k => P0_ k ∧ k < w'.heap.size) A1 c1 xb a2 A3 c3 l3 b w' (Kd.V_mk HL1.out HF1.out) HR3.out HC3.out HSP.out).mono ?_
      rintro e w1 ⟨v1, rfl, ⟨A4, c4, rfl, hl4, hF4⟩, hb⟩
      have HB := Aside0.mk hb
      have HF4 := Aside0.mk (Kd.F_bound hF4)
      have HL4 := Aside0.mk hl4
      have y0 := pk hb q0
      have y1 := pk hb q1
      have y2 := pk hb q2
      clear hb hF4 hl4
      have h := HH.out
      clear HH HTH
      cases xc
      · simp only [Bool.false_eq_true, if_false] at h
        obtain ⟨q, hq⟩ : ∃ q, ((strOfNums xb).toList == (strOfNums b).toList) = q := ⟨_, rfl⟩
        have HSM := Lib.hid (fun w' h0 h1 => net_text_same.calls A1 A4 c1 c4 xb b w' h0 h1)
        rw [hq] at h HSM
        clear hq
        go_wp2_with fail
        refine (net_of.calls0 xa A1 xb.length c1 false _).mono ?_
        rintro e w2 ⟨rfl, hb⟩
        have HB12 := Aside0.mk hb
        have n0_ := Aside0.mk (below_step HB.out hb)
        have n1_ := Aside0.mk (Kd.F_below HF4.out hb)
        clear HB HF4 hb
        have HB := n0_
        have HF4 := n1_
        clear n0_ n1_
        go_wp2_with fail
        refine (HSM.out _ (Kd.C_below (Kd.F_now HF1.out) HB.out) (Kd.F_now HF4.out)).mono ?_
        rintro e w3 ⟨rfl, hb⟩
        have HB13 := Aside0.mk (below_step HB12.out hb)
        clear HB12
        have n0_ := Aside0.mk (below_step HB.out hb)
        have n1_ := Aside0.mk (Kd.F_below HF4.out hb)
        clear HB HF4 hb HSM y0 y1 y2
        have HB := n0_
        have HF4 := n1_
        clear n0_ n1_
        cases q
        · simp only [Bool.false_eq_true, if_false, Option.some.injEq, Prod.mk.injEq] at h
          obtain ⟨rfl, rfl⟩ := h
          go_wp2_with fail
          refine (net_row.raw (fun k => P0_ k ∧ k < w'.heap.size) (some ad) c0 l0 0 (by decide) w3 (Kd.V_mk HCAP.out (Kd.F_below HF.out HB.out)) HLIM.out).mono ?_
          rintro e w4 ⟨rfl, hb, cs, zs, hg, hz, hR⟩
          obtain rfl := List.eq_nil_of_length_eq_zero (show zs.length = 0 by omega)
          rw [List.append_nil] at hg
          have hcl : cs.length = l0.length * 3 := hR.1
          have n1_ := Aside0.mk (Kd.F_below HF4.out hb)
          have HB3 := HB
          have n0_ := Aside0.mk (below_step HB.out hb)
          clear HB HF4
          have HB := n0_
          have HF4 := n1_
          clear n0_ n1_ hz
          generalize hgg : w3.heap.size = g at *
          have hcell : ∀ j, j < 3 → w4.cell? ⟨g, p * 3 + j, none⟩ = some (cs.getD (p * 3 + j) undef) := fun j hj => by
            rw [blk_cell hg, List.getElem?_toArray, List.getD_eq_getElem?_getD, List.getElem?_eq_getElem (by omega)]; rfl
          have z1 := hcell 1 (by decide)
          have z2 := hcell 2 (by decide)
          have fz1 := blk_frozen hg (p * 3 + 1)
          have fz2 := blk_frozen hg (p * 3 + 2)
          have HG := Aside0.mk hg
          have HRR := Aside0.mk hR
          have HGG := Aside0.mk hgg
          have HCL := Aside0.mk hcl
          have HBB := Aside0.mk hb
          generalize cs.getD (p * 3 + 1) undef = d1 at *
          generalize cs.getD (p * 3 + 2) undef = d2 at *
          clear hg hR hgg hcl hcell hb
          go_wp2_with fail
          have hg5 := blk_set (blk_set HG.out (p * 3 + 1) (.slice A4 b.length c4)) (p * 3 + 2) (.bool true)
          have hp3 : p * 3 + 3 ≤ cs.length := by rw [HCL.out]; omega
          have hch := HRR.out.2 p _ (List.getElem?_eq_getElem hp)
          obtain ⟨A5, c5, hce, _, _⟩ := k29_openF hch
          have hc0 : cs[p * 3]? = some (.int .i64 xa) := by
            have h0 := congrArg (fun l => l[0]?) hce
            simp only [List.getElem?_take, List.getElem?_drop, Nat.add_zero] at h0
            rw [if_pos (by decide)] at h0
            rw [h0, HX0.out _ (List.getElem?_eq_getElem hp)]
            rfl
          rw [set_two cs (p * 3) _ _ _ hc0 hp3] at hg5
          have hge : w1.heap.size ≤ g := by rw [← HGG.out]; exact below_size HB13.out
          have hgw : w'.heap.size ≤ g := by rw [← HGG.out]; exact below_size HB3.out
          have hFn := Kd.F_far (p := ⟨g, p * 3 + 2, none⟩) (Kd.F_far (p := ⟨g, p * 3 + 1, none⟩) HF4.out (fun k hk => by have := hk.2; show k ≠ g; omega) (.slice A4 b.length c4)) (fun k hk => by have := hk.2; show k ≠ g; omega) (.bool true)
          have hRn := HRR.out.imp_ (R' := Kd.FK k29 ((w4.setCell ⟨g, p * 3 + 1, none⟩ (.slice A4 b.length c4)).setCell ⟨g, p * 3 + 2, none⟩ (.bool true)) (fun k => k < g ∧ (P0_ k ∨ w'.heap.size ≤ k))) (fun x c hk => Kd.FK_mono (Kd.FK_step hk (fun k hk2 _ => by
            have hne : k ≠ g := Nat.ne_of_lt hk2.2
            exact (Below.heap_setCell _ (⟨g, p * 3 + 2, none⟩ : Addr) _ k hne).trans (Below.heap_setCell _ (⟨g, p * 3 + 1, none⟩ : Addr) _ k hne))) (fun k hk2 => ⟨hk2.2, Or.inl hk2.1.1⟩))
          have hRs := reps_set hRn p hp (⟨xa, b, true⟩ : S29) [.int .i64 xa, .slice A4 b.length c4, .bool true] rfl (k29_mkF _ _ (⟨xa, b, true⟩ : S29) HL4.out (Kd.F_mono hFn (fun k hk => ⟨Nat.lt_of_lt_of_le hk.2 hge, hk.1.elim (fun h => Or.inl h.1) Or.inr⟩)))
          have hN := N_block (base := w'.heap.size) (cap := l0.length) (zs := []) (ok := fun k => P0_ k ∨ w'.heap.size ≤ k) (by rw [List.append_nil]; exact hg5) hgw (by rw [List.length_set, Nat.sub_self, Nat.zero_mul]; rfl) (by rw [List.length_set]; exact Nat.le_refl _) (by have := HLIM.out; omega) hRs (Or.inr hgw) (fun k hk => ⟨hk.2, Nat.ne_of_lt hk.1⟩)
          rw [List.length_set] at hN
          have HN := Aside0.mk hN
          clear hg5 hp3 hch hce hc0 hFn hRn hRs hN
          go_ret2
          exact ⟨_, rfl, Kd.N_V HN.out, (HB.out.setCell hgw _).setCell hgw _⟩
        · simp only [if_true, Option.some.injEq, Prod.mk.injEq] at h
          obtain ⟨rfl, rfl⟩ := h
          go_wp2_with fail
          go_ret2
          exact ⟨_, rfl, Kd.V_mono (Kd.V_mk HCAP.out (Kd.F_below HF.out HB.out)) (fun _ hk => Or.inl hk.1), HB.out⟩
      · simp only [if_true, Option.some.injEq, Prod.mk.injEq] at h
        obtain ⟨rfl, rfl⟩ := h
        go_wp2_with fail
        go_ret2
        exact ⟨_, rfl, Kd.V_mono (Kd.V_mk HCAP.out (Kd.F_below HF.out HB.out)) (fun _ hk => Or.inl hk.1), HB.out⟩
    · rw [if_neg hin] at h
      simp only [Option.some.injEq, Prod.mk.injEq] at h
      obtain ⟨rfl, rfl⟩ := h
      rw [decide_eq_false hin] at HTH
      have HV := Aside0.mk hs0
      clear hs0 hin hc hlim hr3 hc3
      go_enter Try.func17, Try.ntmps17
      go_wp2_with fail
      refine (HTH.out _).mono ?_
      rintro e w' ⟨rfl, rfl⟩
      go_wp2_with fail
      go_ret2
      exact ⟨_, rfl, Kd.V_mono HV.out (fun _ hk => Or.inl hk), Below.refl _ _⟩
  · rw [if_neg hc] at h
    cases h

end Go.Proofs.Ythmgaeecfhmenaa.Print
