/- Which items may be: the table of rules (a map of closures over one boxed item), and that a call of item.May does just that. Conditions stand in each theorem. -/
import Derived.Test.YtieolhhokepkjaaDoorHand
namespace Go.Proofs.YtieolhhokepkjaaDoor.Print
set_option linter.unusedVariables false
set_option linter.unusedSimpArgs false
open Go.RowKit Go.Proofs.YtieolhhokepkjaaDoorW.PrintWords Go.Proofs.YtieolhhokepkjaaDoorW.PrintLast Go.Proofs.YtieolhhokepkjaaDoorW.PrintMore

def wi (n lo hi : Int) : Bool := decide (lo ≤ n ∧ n ≤ hi)
theorem item_within.is (n lo hi : Int) (q : Bool) (w : World) (h : wi n lo hi = q) :
    Calls Tryd.prog 54 #[.int .i64 n, .int .i64 lo, .int .i64 hi] w fun e w' => e = .returned (.bool q) ∧ w' = w := by
  subst h
  unfold wi
  by_cases h0 : lo ≤ n
  · have hd : decide (n ≥ lo) = true := decide_eq_true h0
    have hd' : decide (lo ≤ n) = true := decide_eq_true h0
    rw [show decide (lo ≤ n ∧ n ≤ hi) = decide (n ≤ hi) by simp [h0]]
    clear h0
    go_enter Tryd.func54, Tryd.ntmps54
    go_wp2_with fail
    go_ret
    exact ⟨rfl, rfl⟩
  · have hd : decide (n ≥ lo) = false := decide_eq_false h0
    have hd' : decide (lo ≤ n) = false := decide_eq_false h0
    rw [show decide (lo ≤ n ∧ n ≤ hi) = false by simp [h0]]
    clear h0
    go_enter Tryd.func54, Tryd.ntmps54
    go_wp2_with fail
    go_ret
    exact ⟨rfl, rfl⟩

def each (l : List Int) (hi : Int) : Bool := l.all fun n => wi n 0 hi
theorem each_bad {l : List Int} {hi : Int} {k : Nat} (h : k < l.length) (hq : wi (rd l (k : Int)) 0 hi = false) : each l hi = false := by
  unfold each
  rw [List.all_eq_false]
  refine ⟨rd l (k : Int), ?_, by rw [hq]; exact Bool.false_ne_true⟩
  unfold rd
  rw [Int.toNat_natCast, List.getD_eq_getElem?_getD, List.getElem?_eq_getElem h]
  exact List.getElem_mem h
theorem each_good {l : List Int} {hi : Int} (h : ∀ j : Nat, j < l.length → wi (rd l (j : Int)) 0 hi = true) : each l hi = true := by
  unfold each
  rw [List.all_eq_true]
  intro x hx
  obtain ⟨j, hj, rfl⟩ := List.getElem_of_mem hx
  have := h j hj
  unfold rd at this
  rwa [Int.toNat_natCast, List.getD_eq_getElem?_getD, List.getElem?_eq_getElem hj] at this
theorem item_each.is (A0 : Option Addr) (c0 : Nat) (l0 : List Int) (hi : Int) (q : Bool) (w : World) (hr0 : Kd.C (Kd.int .i64) w A0 l0.length l0) (h : each l0 hi = q) :
    Calls Tryd.prog 66 #[.slice A0 l0.length c0, .int .i64 hi] w fun e w' => e = .returned (.bool q) ∧ w' = w := by
  have HQ := Lib.hid h
  have HR0 := Aside0.mk hr0
  have hm0 : l0.length ≤ 9223372036854775807 := Kd.C_max hr0
  clear h hr0
  go_enter Tryd.func66, Tryd.ntmps66
  go_wp2_with fail
  go_loop [9] (fun i => ∃ k : Nat, k ≤ l0.length ∧ i = Value.int .i64 k ∧ Aside0 (∀ j : Nat, j < k → wi (rd l0 (j : Int)) 0 hi = true)) (fun i => l0.length - (intOf i).toNat)
  case atStart => exact ⟨0, Nat.zero_le _, rfl, ⟨fun j hj => by omega⟩⟩
  case round =>
    obtain ⟨k, hk, rfl, HA⟩ := hrel
    by_cases hlt : k < l0.length
    · obtain ⟨ad, rfl, hc⟩ := Kd.at_int HR0.out (k : Int) (by omega) (by omega)
      rw [Int.toNat_natCast] at hc
      cases hq : wi (rd l0 (k : Int)) 0 hi
      · have h0 := HQ.out
        rw [each_bad hlt hq] at h0
        subst h0
        have HW := Lib.hid hq
        clear hq HQ
        generalize rd l0 (k : Int) = x at *
        go_wp2_with fail
        refine (item_within.is x 0 hi false w HW.out).mono ?_
        rintro e w' ⟨rfl, rfl⟩
        go_wp2_with fail
        go_ret
        exact ⟨rfl, rfl⟩
      · have HW := Lib.hid hq
        have HA2 := Aside0.mk (show ∀ j : Nat, j < k + 1 → wi (rd l0 (j : Int)) 0 hi = true from fun j hj => by
          rcases Nat.lt_succ_iff_lt_or_eq.1 hj with h | rfl
          · exact HA.out j h
          · exact hq)
        clear hq HA
        generalize rd l0 (k : Int) = x at *
        go_wp2_with fail
        refine (item_within.is x 0 hi true w HW.out).mono ?_
        rintro e w' ⟨rfl, rfl⟩
        go_wp2_with fail
        go_round
        case rel => exact ⟨k + 1, by omega, by go_num, HA2⟩
        case measure => simp [intOf]; omega
    · obtain rfl : k = l0.length := by omega
      have h0 := HQ.out
      rw [each_good HA.out] at h0
      subst h0
      clear HQ HA
      go_wp2_with fail
      go_ret
      exact ⟨rfl, rfl⟩

/-- An item in a box of its own: its numbers' cells, and its two rows'. -/
structure ItemBox (w : World) (b : Nat) (k s e i t c : Int) (A : Option Addr) (n cp : Nat) (B : Option Addr) (m cq : Nat) : Prop where
  h0 : w.cell? ⟨b, 0, none⟩ = some (.int .i64 k)
  h1 : w.cell? ⟨b, 1, none⟩ = some (.int .i64 s)
  h2 : w.cell? ⟨b, 2, none⟩ = some (.int .i64 e)
  h3 : w.cell? ⟨b, 3, none⟩ = some (.int .i64 i)
  h4 : w.cell? ⟨b, 4, none⟩ = some (.int .i64 t)
  h5 : w.cell? ⟨b, 5, none⟩ = some (.int .i64 c)
  h6 : w.cell? ⟨b, 6, none⟩ = some (.slice A n cp)
  h7 : w.cell? ⟨b, 7, none⟩ = some (.slice B m cq)
theorem ItemBox.below {W w w1 : World} {b : Nat} {k s e i t c : Int} {A B : Option Addr} {n cp m cq : Nat} (h : ItemBox w b k s e i t c A n cp B m cq) (hb : Below w.heap.size w w1) : ItemBox w1 b k s e i t c A n cp B m cq :=
  ⟨pw_cell_below hb h.h0, pw_cell_below hb h.h1, pw_cell_below hb h.h2, pw_cell_below hb h.h3, pw_cell_below hb h.h4, pw_cell_below hb h.h5, pw_cell_below hb h.h6, pw_cell_below hb h.h7⟩

variable {w : World} {b : Nat} {k s e i t c : Int} {A B : Option Addr} {n cp m cq : Nat}
/-- bare: no total; an index, and a count, only where they may be. -/
theorem rule1.is (h : ItemBox w b k s e i t c A n cp B m cq) (x y q : Bool) (hq : (decide (t = 0) && (x || decide (i = 0)) && (y || decide (c = 0))) = q) :
    Calls Tryd.prog 63 #[.bool x, .bool y, .pointer (some ⟨b, 0, none⟩)] w fun e w' => e = .returned (.bool q) ∧ w' = w := by
  obtain ⟨h0, h1, h2, h3, h4, h5, h6, h7⟩ := h
  clear h0 h1 h2 h6 h7
  subst hq
  by_cases ht : t = 0
  · subst ht
    rw [show decide ((0 : Int) = 0) = true from rfl, Bool.true_and]
    cases x
    · rw [Bool.false_or]
      by_cases hi : i = 0
      · subst hi
        rw [show decide ((0 : Int) = 0) = true from rfl, Bool.true_and]
        cases y
        · rw [Bool.false_or, show decide (c = 0) = (c == 0) from rfl]
          go_enter Tryd.func63, Tryd.ntmps63
          go_wp2_with fail
          go_ret
          exact ⟨rfl, rfl⟩
        · rw [Bool.true_or]
          go_enter Tryd.func63, Tryd.ntmps63
          go_wp2_with fail
          go_ret
          exact ⟨rfl, rfl⟩
      · have hd : (i == 0) = false := beq_eq_false_iff_ne.2 hi
        rw [decide_eq_false hi, Bool.false_and]
        clear hi
        go_enter Tryd.func63, Tryd.ntmps63
        go_wp2_with fail
        go_ret
        exact ⟨rfl, rfl⟩
    · rw [Bool.true_or, Bool.true_and]
      cases y
      · rw [Bool.false_or, show decide (c = 0) = (c == 0) from rfl]
        go_enter Tryd.func63, Tryd.ntmps63
        go_wp2_with fail
        go_ret
        exact ⟨rfl, rfl⟩
      · rw [Bool.true_or]
        go_enter Tryd.func63, Tryd.ntmps63
        go_wp2_with fail
        go_ret
        exact ⟨rfl, rfl⟩
  · have hd : (t == 0) = false := beq_eq_false_iff_ne.2 ht
    rw [decide_eq_false ht, Bool.false_and, Bool.false_and]
    clear ht
    go_enter Tryd.func63, Tryd.ntmps63
    go_wp2_with fail
    go_ret
    exact ⟨rfl, rfl⟩
/-- flag: an index of 0 or 1. -/
theorem rule2.is (h : ItemBox w b k s e i t c A n cp B m cq) (q : Bool) (hq : wi i 0 1 = q) :
    Calls Tryd.prog 64 #[.pointer (some ⟨b, 0, none⟩)] w fun e w' => e = .returned (.bool q) ∧ w' = w := by
  have h3 := h.h3
  have HQ := Lib.hid hq
  clear h hq
  go_enter Tryd.func64, Tryd.ntmps64
  go_wp2_with fail
  refine (item_within.is i 0 1 q _ HQ.out).mono ?_
  rintro e w' ⟨rfl, rfl⟩
  go_wp2_with fail
  go_ret
  exact ⟨rfl, rfl⟩
/-- none: no row, no body. -/
theorem rule4.is (h : ItemBox w b k s e i t c A n cp B m cq) (q : Bool) (hq : (decide (n = 0) && decide (m = 0)) = q) :
    Calls Tryd.prog 67 #[.pointer (some ⟨b, 0, none⟩)] w fun e w' => e = .returned (.bool q) ∧ w' = w := by
  have h6 := h.h6
  have h7 := h.h7
  clear h
  subst hq
  by_cases hn : n = 0
  · subst hn
    rw [show decide ((0 : Nat) = 0) = true from rfl, Bool.true_and]
    by_cases hm : m = 0
    · subst hm
      go_enter Tryd.func67, Tryd.ntmps67
      go_wp2_with fail
      go_ret
      exact ⟨rfl, rfl⟩
    · have hd2 : ((m : Int) == 0) = false := beq_eq_false_iff_ne.2 (by omega)
      have hd3 : (m == 0) = false := beq_eq_false_iff_ne.2 hm
      rw [decide_eq_false hm]
      clear hm
      go_enter Tryd.func67, Tryd.ntmps67
      go_wp2_with fail
      go_ret
      exact ⟨rfl, rfl⟩
  · have hd2 : ((n : Int) == 0) = false := beq_eq_false_iff_ne.2 (by omega)
    have hd3 : (n == 0) = false := beq_eq_false_iff_ne.2 hn
    rw [decide_eq_false hn, Bool.false_and]
    clear hn
    go_enter Tryd.func67, Tryd.ntmps67
    go_wp2_with fail
    go_ret
    exact ⟨rfl, rfl⟩

/-- row: so many numbers, each from 0 to one, and no body. -/
theorem rule3.is {l : List Int} (h : ItemBox w b k s e i t c A l.length cp B m cq) (hC : Kd.C (Kd.int .i64) w A l.length l) (lo hi mo : Int) (q : Bool) (hq : (wi (l.length : Int) lo hi && (each l mo && decide (m = 0))) = q) :
    Calls Tryd.prog 65 #[.int .i64 lo, .int .i64 hi, .int .i64 mo, .pointer (some ⟨b, 0, none⟩)] w fun e w' => e = .returned (.bool q) ∧ w' = w := by
  have h6 := h.h6
  have h7 := h.h7
  have HC := Aside0.mk hC
  clear h hC
  cases h0 : wi (l.length : Int) lo hi
  · rw [h0, Bool.false_and] at hq
    subst hq
    have H0 := Lib.hid h0
    clear h0
    go_enter Tryd.func65, Tryd.ntmps65
    go_wp2_with fail
    refine (item_within.is _ _ _ false _ H0.out).mono ?_
    rintro e w' ⟨rfl, rfl⟩
    go_wp2_with fail
    go_ret
    exact ⟨rfl, rfl⟩
  · rw [h0, Bool.true_and] at hq
    have H0 := Lib.hid h0
    clear h0
    cases h1 : each l mo
    · rw [h1, Bool.false_and] at hq
      subst hq
      have H1 := Lib.hid h1
      clear h1
      go_enter Tryd.func65, Tryd.ntmps65
      go_wp2_with fail
      refine (item_within.is _ _ _ true _ H0.out).mono ?_
      rintro e w' ⟨rfl, rfl⟩
      go_wp2_with fail
      refine (item_each.is _ _ l _ false _ HC.out H1.out).mono ?_
      rintro e w' ⟨rfl, rfl⟩
      go_wp2_with fail
      go_ret
      exact ⟨rfl, rfl⟩
    · rw [h1, Bool.true_and] at hq
      have H1 := Lib.hid h1
      clear h1
      subst hq
      by_cases hm : m = 0
      · subst hm
        go_enter Tryd.func65, Tryd.ntmps65
        go_wp2_with fail
        refine (item_within.is _ _ _ true _ H0.out).mono ?_
        rintro e w' ⟨rfl, rfl⟩
        go_wp2_with fail
        refine (item_each.is _ _ l _ true _ HC.out H1.out).mono ?_
        rintro e w' ⟨rfl, rfl⟩
        go_wp2_with fail
        go_ret
        exact ⟨rfl, rfl⟩
      · have hd2 : ((m : Int) == 0) = false := beq_eq_false_iff_ne.2 (by omega)
        have hd3 : (m == 0) = false := beq_eq_false_iff_ne.2 hm
        rw [decide_eq_false hm]
        clear hm
        go_enter Tryd.func65, Tryd.ntmps65
        go_wp2_with fail
        refine (item_within.is _ _ _ true _ H0.out).mono ?_
        rintro e w' ⟨rfl, rfl⟩
        go_wp2_with fail
        refine (item_each.is _ _ l _ true _ HC.out H1.out).mono ?_
        rintro e w' ⟨rfl, rfl⟩
        go_wp2_with fail
        go_ret
        exact ⟨rfl, rfl⟩
/-- data: a total, an index below it, no count, no row, a body that is not too long. -/
theorem rule5.is (h : ItemBox w b k s e i t c A n cp B m cq) (q : Bool) (hq : (wi t 1 32 && (wi i 0 (t - 1) && (decide (c = 0) && (decide (n = 0) && decide (m ≤ 1024))))) = q) :
    Calls Tryd.prog 68 #[.pointer (some ⟨b, 0, none⟩)] w fun e w' => e = .returned (.bool q) ∧ w' = w := by
  have h3 := h.h3
  have h4 := h.h4
  have h5 := h.h5
  have h6 := h.h6
  have h7 := h.h7
  clear h
  cases h0 : wi t 1 32
  · rw [h0, Bool.false_and] at hq
    subst hq
    have H0 := Lib.hid h0
    clear h0
    go_enter Tryd.func68, Tryd.ntmps68
    go_wp2_with fail
    refine (item_within.is _ _ _ false _ H0.out).mono ?_
    rintro e w' ⟨rfl, rfl⟩
    go_wp2_with fail
    go_ret
    exact ⟨rfl, rfl⟩
  · rw [h0, Bool.true_and] at hq
    have H0 := Lib.hid h0
    have hb0 := of_decide_eq_true h0
    obtain ⟨hb1, hb2⟩ := hb0
    clear h0
    cases h1 : wi i 0 (t - 1)
    · rw [h1, Bool.false_and] at hq
      subst hq
      have H1 := Lib.hid h1
      clear h1
      go_enter Tryd.func68, Tryd.ntmps68
      go_wp2_with fail
      refine (item_within.is _ _ _ true _ H0.out).mono ?_
      rintro e w' ⟨rfl, rfl⟩
      go_wp2_with fail
      refine (item_within.is _ _ _ false _ H1.out).mono ?_
      rintro e w' ⟨rfl, rfl⟩
      go_wp2_with fail
      go_ret
      exact ⟨rfl, rfl⟩
    · rw [h1, Bool.true_and] at hq
      have H1 := Lib.hid h1
      clear h1
      by_cases hc : c = 0
      · subst hc
        rw [show decide ((0 : Int) = 0) = true from rfl, Bool.true_and] at hq
        by_cases hn : n = 0
        · subst hn
          rw [show decide ((0 : Nat) = 0) = true from rfl, Bool.true_and] at hq
          subst hq
          have hd : decide ((m : Int) ≤ 1024) = decide (m ≤ 1024) := by rw [Bool.eq_iff_iff]; simp; omega
          generalize decide (m ≤ 1024) = z at *
          go_enter Tryd.func68, Tryd.ntmps68
          go_wp2_with fail
          refine (item_within.is _ _ _ true _ H0.out).mono ?_
          rintro e w' ⟨rfl, rfl⟩
          go_wp2_with fail
          refine (item_within.is _ _ _ true _ H1.out).mono ?_
          rintro e w' ⟨rfl, rfl⟩
          go_wp2_with fail
          go_ret
          exact ⟨rfl, rfl⟩
        · have hd2 : ((n : Int) == 0) = false := beq_eq_false_iff_ne.2 (by omega)
          have hd3 : (n == 0) = false := beq_eq_false_iff_ne.2 hn
          rw [decide_eq_false hn, Bool.false_and] at hq
          subst hq
          clear hn
          go_enter Tryd.func68, Tryd.ntmps68
          go_wp2_with fail
          refine (item_within.is _ _ _ true _ H0.out).mono ?_
          rintro e w' ⟨rfl, rfl⟩
          go_wp2_with fail
          refine (item_within.is _ _ _ true _ H1.out).mono ?_
          rintro e w' ⟨rfl, rfl⟩
          go_wp2_with fail
          go_ret
          exact ⟨rfl, rfl⟩
      · have hd2 : (c == 0) = false := beq_eq_false_iff_ne.2 hc
        rw [decide_eq_false hc, Bool.false_and] at hq
        subst hq
        clear hc
        go_enter Tryd.func68, Tryd.ntmps68
        go_wp2_with fail
        refine (item_within.is _ _ _ true _ H0.out).mono ?_
        rintro e w' ⟨rfl, rfl⟩
        go_wp2_with fail
        refine (item_within.is _ _ _ true _ H1.out).mono ?_
        rintro e w' ⟨rfl, rfl⟩
        go_wp2_with fail
        go_ret
        exact ⟨rfl, rfl⟩
end Go.Proofs.YtieolhhokepkjaaDoor.Print
