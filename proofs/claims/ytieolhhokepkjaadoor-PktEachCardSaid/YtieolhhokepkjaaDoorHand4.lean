/- Which items may be: the table of rules, and that a call of item.May does just what its Lean function says. Conditions stand in each theorem. -/
import Derived.Test.YtieolhhokepkjaaDoorHand
import Derived.Laws.EntriesVeiled
namespace Go.Proofs.YtieolhhokepkjaaDoor.Print
set_option linter.unusedVariables false
set_option linter.unusedSimpArgs false
open Go.RowKit Go.Proofs.YtieolhhokepkjaaDoorW.PrintWords Go.Proofs.YtieolhhokepkjaaDoorW.PrintLast Go.Proofs.YtieolhhokepkjaaDoorW.PrintMore
def wi (n lo hi : Int) : Bool := decide (lo ≤ n ∧ n ≤ hi)
theorem item_within.is (n lo hi : Int) (q : Bool) (w : World) (h : wi n lo hi = q) :
  Calls Tryd.prog 54 #[.int .i64 n, .int .i64 lo, .int .i64 hi] w fun e w' => e = .returned (.bool q) ∧ w' = w := by
 subst h
 unfold wi
 by_cases h0 : lo ≤ n
 ·
  have hd : decide (n ≥ lo) = true := decide_eq_true h0
  have hd' : decide (lo ≤ n) = true := decide_eq_true h0
  rw [show decide (lo ≤ n ∧ n ≤ hi) = decide (n ≤ hi) by simp [h0]]
  clear h0
  go_enter Tryd.func54, Tryd.ntmps54
  go_wp2_with fail
  go_ret
  exact ⟨rfl, rfl⟩
 ·
  have hd : decide (n ≥ lo) = false := decide_eq_false h0
  have hd' : decide (lo ≤ n) = false := decide_eq_false h0
  rw [show decide (lo ≤ n ∧ n ≤ hi) = false by simp [h0]]
  clear h0
  go_enter Tryd.func54, Tryd.ntmps54
  go_wp2_with fail
  go_ret
  exact ⟨rfl, rfl⟩
def each (l : List Int) (hi : Int) : Bool := l.all fun n => wi n 0 hi
theorem each_bad {l : List Int} {hi : Int} {k : Nat} (h : k < l.length) (hq : wi (rd l (k : Int)) 0 hi = false) : each l hi = false := by
 unfold each
 rw [List.all_eq_false]
 refine ⟨rd l (k : Int), ?_, by rw [hq]; exact Bool.false_ne_true⟩
 unfold rd
 rw [Int.toNat_natCast, List.getD_eq_getElem?_getD, List.getElem?_eq_getElem h]
 exact List.getElem_mem h
theorem each_good {l : List Int} {hi : Int} (h : ∀ j : Nat, j < l.length → wi (rd l (j : Int)) 0 hi = true) : each l hi = true := by
 unfold each
 rw [List.all_eq_true]
 intro x hx
 obtain ⟨j, hj, rfl⟩ := List.getElem_of_mem hx
 have := h j hj
 unfold rd at this
 rwa [Int.toNat_natCast, List.getD_eq_getElem?_getD, List.getElem?_eq_getElem hj] at this
theorem item_each.is (A0 : Option Addr) (c0 : Nat) (l0 : List Int) (hi : Int) (q : Bool) (w : World) (hr0 : Kd.C (Kd.int .i64) w A0 l0.length l0) (h : each l0 hi = q) :
  Calls Tryd.prog 66 #[.slice A0 l0.length c0, .int .i64 hi] w fun e w' => e = .returned (.bool q) ∧ w' = w := by
 have HQ := Lib.hid h
 have HR0 := ak hr0
 have hm0 : l0.length ≤ 9223372036854775807 := Kd.C_max hr0
 clear h hr0
 go_enter Tryd.func66, Tryd.ntmps66
 go_wp2_with fail
 go_loop [9] (fun i => ∃ k : Nat, k ≤ l0.length ∧ i = Value.int .i64 k ∧ Aside0 (∀ j : Nat, j < k → wi (rd l0 (j : Int)) 0 hi = true)) (fun i => l0.length - (intOf i).toNat)
 case atStart => exact ⟨0, Nat.zero_le _, rfl, ⟨fun j hj => by omega⟩⟩
 case round =>
  obtain ⟨k, hk, rfl, HA⟩ := hrel
  by_cases hlt : k < l0.length
  ·
   obtain ⟨ad, rfl, hc⟩ := Kd.at_int HR0.out (k : Int) (by omega) (by omega)
   rw [Int.toNat_natCast] at hc
   cases hq : wi (rd l0 (k : Int)) 0 hi
   ·
    have h0 := HQ.out
    rw [each_bad hlt hq] at h0
    subst h0
    have HW := Lib.hid hq
    clear hq HQ
    generalize rd l0 (k : Int) = x at *
    go_wp2_with fail
    refine (item_within.is x 0 hi false w HW.out).mono ?_
    rintro e w' ⟨rfl, rfl⟩
    go_wp2_with fail
    go_ret
    exact ⟨rfl, rfl⟩
   ·
    have HW := Lib.hid hq
    have HA2 := ak (show ∀ j : Nat, j < k + 1 → wi (rd l0 (j : Int)) 0 hi = true from fun j hj => by
     rcases Nat.lt_succ_iff_lt_or_eq.1 hj with h | rfl
     ·
      exact HA.out j h
     ·
      exact hq)
    clear hq HA
    generalize rd l0 (k : Int) = x at *
    go_wp2_with fail
    refine (item_within.is x 0 hi true w HW.out).mono ?_
    rintro e w' ⟨rfl, rfl⟩
    go_wp2_with fail
    go_round
    case rel => exact ⟨k + 1, by omega, by go_num, HA2⟩
    case measure => simp [intOf]; omega
  ·
   obtain rfl : k = l0.length := by omega
   have h0 := HQ.out
   rw [each_good HA.out] at h0
   subst h0
   clear HQ HA
   go_wp2_with fail
   go_ret
   exact ⟨rfl, rfl⟩
/-- An item in a box of its own: its numbers' cells, and its two rows'. -/
structure ItemBox (w : World) (b : Nat) (k s e i t c : Int) (A : Option Addr) (n cp : Nat) (B : Option Addr) (m cq : Nat) : Prop where
 h0 : w.cell? ⟨b, 0, none⟩ = some (.int .i64 k)
 h1 : w.cell? ⟨b, 1, none⟩ = some (.int .i64 s)
 h2 : w.cell? ⟨b, 2, none⟩ = some (.int .i64 e)
 h3 : w.cell? ⟨b, 3, none⟩ = some (.int .i64 i)
 h4 : w.cell? ⟨b, 4, none⟩ = some (.int .i64 t)
 h5 : w.cell? ⟨b, 5, none⟩ = some (.int .i64 c)
 h6 : w.cell? ⟨b, 6, none⟩ = some (.slice A n cp)
 h7 : w.cell? ⟨b, 7, none⟩ = some (.slice B m cq)
theorem ItemBox.below {W w w1 : World} {b : Nat} {k s e i t c : Int} {A B : Option Addr} {n cp m cq : Nat} (h : ItemBox w b k s e i t c A n cp B m cq) (hb : Below w.heap.size w w1) : ItemBox w1 b k s e i t c A n cp B m cq :=
 ⟨pw_cell_below hb h.h0, pw_cell_below hb h.h1, pw_cell_below hb h.h2, pw_cell_below hb h.h3, pw_cell_below hb h.h4, pw_cell_below hb h.h5, pw_cell_below hb h.h6, pw_cell_below hb h.h7⟩
variable {w : World} {b : Nat} {k s e i t c : Int} {A B : Option Addr} {n cp m cq : Nat}
/-- bare: no total; an index, and a count, only where they may be. -/
theorem rule1.is (h : ItemBox w b k s e i t c A n cp B m cq) (x y q : Bool) (hq : (decide (t = 0) && (x || decide (i = 0)) && (y || decide (c = 0))) = q) :
  Calls Tryd.prog 63 #[.bool x, .bool y, .pointer (some ⟨b, 0, none⟩)] w fun e w' => e = .returned (.bool q) ∧ w' = w := by
 obtain ⟨h0, h1, h2, h3, h4, h5, h6, h7⟩ := h
 clear h0 h1 h2 h6 h7
 subst hq
 by_cases ht : t = 0
 ·
  subst ht
  rw [show decide ((0 : Int) = 0) = true from rfl, Bool.true_and]
  cases x
  ·
   rw [Bool.false_or]
   by_cases hi : i = 0
   ·
    subst hi
    rw [show decide ((0 : Int) = 0) = true from rfl, Bool.true_and]
    cases y
    ·
     rw [Bool.false_or, show decide (c = 0) = (c == 0) from rfl]
     go_enter Tryd.func63, Tryd.ntmps63
     go_wp2_with fail
     go_ret
     exact ⟨rfl, rfl⟩
    ·
     rw [Bool.true_or]
     go_enter Tryd.func63, Tryd.ntmps63
     go_wp2_with fail
     go_ret
     exact ⟨rfl, rfl⟩
   ·
    have hd : (i == 0) = false := beq_eq_false_iff_ne.2 hi
    rw [decide_eq_false hi, Bool.false_and]
    clear hi
    go_enter Tryd.func63, Tryd.ntmps63
    go_wp2_with fail
    go_ret
    exact ⟨rfl, rfl⟩
  ·
   rw [Bool.true_or, Bool.true_and]
   cases y
   ·
    rw [Bool.false_or, show decide (c = 0) = (c == 0) from rfl]
    go_enter Tryd.func63, Tryd.ntmps63
    go_wp2_with fail
    go_ret
    exact ⟨rfl, rfl⟩
   ·
    rw [Bool.true_or]
    go_enter Tryd.func63, Tryd.ntmps63
    go_wp2_with fail
    go_ret
    exact ⟨rfl, rfl⟩
 ·
  have hd : (t == 0) = false := beq_eq_false_iff_ne.2 ht
  rw [decide_eq_false ht, Bool.false_and, Bool.false_and]
  clear ht
  go_enter Tryd.func63, Tryd.ntmps63
  go_wp2_with fail
  go_ret
  exact ⟨rfl, rfl⟩
/-- flag: an index of 0 or 1. -/
theorem rule2.is (h : ItemBox w b k s e i t c A n cp B m cq) (q : Bool) (hq : wi i 0 1 = q) :
  Calls Tryd.prog 64 #[.pointer (some ⟨b, 0, none⟩)] w fun e w' => e = .returned (.bool q) ∧ w' = w := by
 have h3 := h.h3
 have HQ := Lib.hid hq
 clear h hq
 go_enter Tryd.func64, Tryd.ntmps64
 go_wp2_with fail
 refine (item_within.is i 0 1 q _ HQ.out).mono ?_
 rintro e w' ⟨rfl, rfl⟩
 go_wp2_with fail
 go_ret
 exact ⟨rfl, rfl⟩
/-- none: no row, no body. -/
theorem rule4.is (h : ItemBox w b k s e i t c A n cp B m cq) (q : Bool) (hq : (decide (n = 0) && decide (m = 0)) = q) :
  Calls Tryd.prog 67 #[.pointer (some ⟨b, 0, none⟩)] w fun e w' => e = .returned (.bool q) ∧ w' = w := by
 have h6 := h.h6
 have h7 := h.h7
 clear h
 subst hq
 by_cases hn : n = 0
 ·
  subst hn
  rw [show decide ((0 : Nat) = 0) = true from rfl, Bool.true_and]
  by_cases hm : m = 0
  ·
   subst hm
   go_enter Tryd.func67, Tryd.ntmps67
   go_wp2_with fail
   go_ret
   exact ⟨rfl, rfl⟩
  ·
   have hd2 : ((m : Int) == 0) = false := beq_eq_false_iff_ne.2 (by omega)
   have hd3 : (m == 0) = false := beq_eq_false_iff_ne.2 hm
   rw [decide_eq_false hm]
   clear hm
   go_enter Tryd.func67, Tryd.ntmps67
   go_wp2_with fail
   go_ret
   exact ⟨rfl, rfl⟩
 ·
  have hd2 : ((n : Int) == 0) = false := beq_eq_false_iff_ne.2 (by omega)
  have hd3 : (n == 0) = false := beq_eq_false_iff_ne.2 hn
  rw [decide_eq_false hn, Bool.false_and]
  clear hn
  go_enter Tryd.func67, Tryd.ntmps67
  go_wp2_with fail
  go_ret
  exact ⟨rfl, rfl⟩
/-- row: so many numbers, each from 0 to one, and no body. -/
theorem rule3.is {l : List Int} (h : ItemBox w b k s e i t c A l.length cp B m cq) (hC : Kd.C (Kd.int .i64) w A l.length l) (lo hi mo : Int) (q : Bool) (hq : (wi (l.length : Int) lo hi && (each l mo && decide (m = 0))) = q) :
  Calls Tryd.prog 65 #[.int .i64 lo, .int .i64 hi, .int .i64 mo, .pointer (some ⟨b, 0, none⟩)] w fun e w' => e = .returned (.bool q) ∧ w' = w := by
 have h6 := h.h6
 have h7 := h.h7
 have HC := ak hC
 clear h hC
 cases h0 : wi (l.length : Int) lo hi
 ·
  rw [h0, Bool.false_and] at hq
  subst hq
  have H0 := Lib.hid h0
  clear h0
  go_enter Tryd.func65, Tryd.ntmps65
  go_wp2_with fail
  refine (item_within.is _ _ _ false _ H0.out).mono ?_
  rintro e w' ⟨rfl, rfl⟩
  go_wp2_with fail
  go_ret
  exact ⟨rfl, rfl⟩
 ·
  rw [h0, Bool.true_and] at hq
  have H0 := Lib.hid h0
  clear h0
  cases h1 : each l mo
  ·
   rw [h1, Bool.false_and] at hq
   subst hq
   have H1 := Lib.hid h1
   clear h1
   go_enter Tryd.func65, Tryd.ntmps65
   go_wp2_with fail
   refine (item_within.is _ _ _ true _ H0.out).mono ?_
   rintro e w' ⟨rfl, rfl⟩
   go_wp2_with fail
   refine (item_each.is _ _ l _ false _ HC.out H1.out).mono ?_
   rintro e w' ⟨rfl, rfl⟩
   go_wp2_with fail
   go_ret
   exact ⟨rfl, rfl⟩
  ·
   rw [h1, Bool.true_and] at hq
   have H1 := Lib.hid h1
   clear h1
   subst hq
   by_cases hm : m = 0
   ·
    subst hm
    go_enter Tryd.func65, Tryd.ntmps65
    go_wp2_with fail
    refine (item_within.is _ _ _ true _ H0.out).mono ?_
    rintro e w' ⟨rfl, rfl⟩
    go_wp2_with fail
    refine (item_each.is _ _ l _ true _ HC.out H1.out).mono ?_
    rintro e w' ⟨rfl, rfl⟩
    go_wp2_with fail
    go_ret
    exact ⟨rfl, rfl⟩
   ·
    have hd2 : ((m : Int) == 0) = false := beq_eq_false_iff_ne.2 (by omega)
    have hd3 : (m == 0) = false := beq_eq_false_iff_ne.2 hm
    rw [decide_eq_false hm]
    clear hm
    go_enter Tryd.func65, Tryd.ntmps65
    go_wp2_with fail
    refine (item_within.is _ _ _ true _ H0.out).mono ?_
    rintro e w' ⟨rfl, rfl⟩
    go_wp2_with fail
    refine (item_each.is _ _ l _ true _ HC.out H1.out).mono ?_
    rintro e w' ⟨rfl, rfl⟩
    go_wp2_with fail
    go_ret
    exact ⟨rfl, rfl⟩
/-- data: a total, an index below it, no count, no row, a body that is not too long. -/
theorem rule5.is (h : ItemBox w b k s e i t c A n cp B m cq) (q : Bool) (hq : (wi t 1 32 && (wi i 0 (t - 1) && (decide (c = 0) && (decide (n = 0) && decide (m ≤ 1024))))) = q) :
  Calls Tryd.prog 68 #[.pointer (some ⟨b, 0, none⟩)] w fun e w' => e = .returned (.bool q) ∧ w' = w := by
 have h3 := h.h3
 have h4 := h.h4
 have h5 := h.h5
 have h6 := h.h6
 have h7 := h.h7
 clear h
 cases h0 : wi t 1 32
 ·
  rw [h0, Bool.false_and] at hq
  subst hq
  have H0 := Lib.hid h0
  clear h0
  go_enter Tryd.func68, Tryd.ntmps68
  go_wp2_with fail
  refine (item_within.is _ _ _ false _ H0.out).mono ?_
  rintro e w' ⟨rfl, rfl⟩
  go_wp2_with fail
  go_ret
  exact ⟨rfl, rfl⟩
 ·
  rw [h0, Bool.true_and] at hq
  have H0 := Lib.hid h0
  have hb0 := of_decide_eq_true h0
  obtain ⟨hb1, hb2⟩ := hb0
  clear h0
  cases h1 : wi i 0 (t - 1)
  ·
   rw [h1, Bool.false_and] at hq
   subst hq
   have H1 := Lib.hid h1
   clear h1
   go_enter Tryd.func68, Tryd.ntmps68
   go_wp2_with fail
   refine (item_within.is _ _ _ true _ H0.out).mono ?_
   rintro e w' ⟨rfl, rfl⟩
   go_wp2_with fail
   refine (item_within.is _ _ _ false _ H1.out).mono ?_
   rintro e w' ⟨rfl, rfl⟩
   go_wp2_with fail
   go_ret
   exact ⟨rfl, rfl⟩
  ·
   rw [h1, Bool.true_and] at hq
   have H1 := Lib.hid h1
   clear h1
   by_cases hc : c = 0
   ·
    subst hc
    rw [show decide ((0 : Int) = 0) = true from rfl, Bool.true_and] at hq
    by_cases hn : n = 0
    ·
     subst hn
     rw [show decide ((0 : Nat) = 0) = true from rfl, Bool.true_and] at hq
     subst hq
     have hd : decide ((m : Int) ≤ 1024) = decide (m ≤ 1024) := by rw [Bool.eq_iff_iff]; simp; omega
     generalize decide (m ≤ 1024) = z at *
     go_enter Tryd.func68, Tryd.ntmps68
     go_wp2_with fail
     refine (item_within.is _ _ _ true _ H0.out).mono ?_
     rintro e w' ⟨rfl, rfl⟩
     go_wp2_with fail
     refine (item_within.is _ _ _ true _ H1.out).mono ?_
     rintro e w' ⟨rfl, rfl⟩
     go_wp2_with fail
     go_ret
     exact ⟨rfl, rfl⟩
    ·
     have hd2 : ((n : Int) == 0) = false := beq_eq_false_iff_ne.2 (by omega)
     have hd3 : (n == 0) = false := beq_eq_false_iff_ne.2 hn
     rw [decide_eq_false hn, Bool.false_and] at hq
     subst hq
     clear hn
     go_enter Tryd.func68, Tryd.ntmps68
     go_wp2_with fail
     refine (item_within.is _ _ _ true _ H0.out).mono ?_
     rintro e w' ⟨rfl, rfl⟩
     go_wp2_with fail
     refine (item_within.is _ _ _ true _ H1.out).mono ?_
     rintro e w' ⟨rfl, rfl⟩
     go_wp2_with fail
     go_ret
     exact ⟨rfl, rfl⟩
   ·
    have hd2 : (c == 0) = false := beq_eq_false_iff_ne.2 hc
    rw [decide_eq_false hc, Bool.false_and] at hq
    subst hq
    clear hc
    go_enter Tryd.func68, Tryd.ntmps68
    go_wp2_with fail
    refine (item_within.is _ _ _ true _ H0.out).mono ?_
    rintro e w' ⟨rfl, rfl⟩
    go_wp2_with fail
    refine (item_within.is _ _ _ true _ H1.out).mono ?_
    rintro e w' ⟨rfl, rfl⟩
    go_wp2_with fail
    go_ret
    exact ⟨rfl, rfl⟩
end Go.Proofs.YtieolhhokepkjaaDoor.Print
namespace Go.Proofs.YtieolhhokepkjaaDoor.Print
set_option linter.unusedVariables false
set_option linter.unusedSimpArgs false
open Go.RowKit Go.Proofs.YtieolhhokepkjaaDoorW.PrintWords Go.Proofs.YtieolhhokepkjaaDoorW.PrintLast Go.Proofs.YtieolhhokepkjaaDoorW.PrintMore
/-- A closure in a cell of its own, over the item's box. -/
def fnv (f b : Nat) : Value := .func (.func f) #[] #[.pointer (some ⟨b, 0, none⟩)]
variable {w : World} {b g1 g2 g3 g4 : Nat} {k s e i t c : Int} {A B : Option Addr} {n cp m cq : Nat}
/-- token: nothing beside its numbers. -/
theorem rule7.is (h : ItemBox w b k s e i t c A n cp B m cq) (x1 : w.cell? ⟨g1, 0, none⟩ = some (fnv 63 b)) (x4 : w.cell? ⟨g4, 0, none⟩ = some (fnv 67 b)) (q : Bool)
  (hq : ((decide (t = 0) && (false || decide (i = 0)) && (false || decide (c = 0))) && (decide (n = 0) && decide (m = 0))) = q) :
  Calls Tryd.prog 70 #[.pointer (some ⟨g1, 0, none⟩), .pointer (some ⟨g4, 0, none⟩)] w fun e w' => e = .returned (.bool q) ∧ w' = w := by
 unfold fnv at x1 x4
 have H := ak h
 clear h
 cases h1 : (decide (t = 0) && (false || decide (i = 0)) && (false || decide (c = 0)))
 ·
  rw [h1, Bool.false_and] at hq
  subst hq
  have H1 := Lib.hid h1
  clear h1
  go_enter Tryd.func70, Tryd.ntmps70
  go_wp2_with fail
  refine (rule1.is H.out _ _ false H1.out).mono ?_
  rintro e w' ⟨rfl, rfl⟩
  go_wp2_with fail
  go_ret
  exact ⟨rfl, rfl⟩
 ·
  rw [h1, Bool.true_and] at hq
  have H1 := Lib.hid h1
  have HQ := Lib.hid hq
  clear h1 hq
  go_enter Tryd.func70, Tryd.ntmps70
  go_wp2_with fail
  refine (rule1.is H.out _ _ true H1.out).mono ?_
  rintro e w' ⟨rfl, rfl⟩
  go_wp2_with fail
  refine (rule4.is H.out q HQ.out).mono ?_
  rintro e w' ⟨rfl, rfl⟩
  go_wp2_with fail
  go_ret
  exact ⟨rfl, rfl⟩
/-- order: a flag, and numbers of members. -/
theorem rule6.is {l : List Int} (h : ItemBox w b k s e i t c A l.length cp B m cq) (hC : Kd.C (Kd.int .i64) w A l.length l) (x1 : w.cell? ⟨g1, 0, none⟩ = some (fnv 63 b)) (x2 : w.cell? ⟨g2, 0, none⟩ = some (fnv 64 b)) (x3 : w.cell? ⟨g3, 0, none⟩ = some (fnv 65 b)) (q : Bool) (hq : ((decide (t = 0) && (true || decide (i = 0)) && (false || decide (c = 0))) && (wi i 0 1 && (wi (l.length : Int) 1 64 && (each l 63 && decide (m = 0))))) = q) :
  Calls Tryd.prog 69 #[.pointer (some ⟨g1, 0, none⟩), .pointer (some ⟨g2, 0, none⟩), .pointer (some ⟨g3, 0, none⟩)] w fun e w' => e = .returned (.bool q) ∧ w' = w := by
 unfold fnv at x1 x2 x3
 have H := ak h
 clear h
 have HC := ak hC
 clear hC
 cases h0 : (decide (t = 0) && (true || decide (i = 0)) && (false || decide (c = 0)))
 ·
  rw [h0, Bool.false_and] at hq
  subst hq
  have H0 := Lib.hid h0
  clear h0
  go_enter Tryd.func69, Tryd.ntmps69
  go_wp2_with fail
  refine (rule1.is H.out _ _ false H0.out).mono ?_
  rintro e w' ⟨rfl, rfl⟩
  go_wp2_with fail
  go_ret
  exact ⟨rfl, rfl⟩
 ·
  rw [h0, Bool.true_and] at hq
  have H0 := Lib.hid h0
  clear h0
  cases h1 : wi i 0 1
  ·
   rw [h1, Bool.false_and] at hq
   subst hq
   have H1 := Lib.hid h1
   clear h1
   go_enter Tryd.func69, Tryd.ntmps69
   go_wp2_with fail
   refine (rule1.is H.out _ _ true H0.out).mono ?_
   rintro e w' ⟨rfl, rfl⟩
   go_wp2_with fail
   refine (rule2.is H.out false H1.out).mono ?_
   rintro e w' ⟨rfl, rfl⟩
   go_wp2_with fail
   go_ret
   exact ⟨rfl, rfl⟩
  ·
   rw [h1, Bool.true_and] at hq
   have H1 := Lib.hid h1
   clear h1
   have H2 := Lib.hid hq
   clear hq
   go_enter Tryd.func69, Tryd.ntmps69
   go_wp2_with fail
   refine (rule1.is H.out _ _ true H0.out).mono ?_
   rintro e w' ⟨rfl, rfl⟩
   go_wp2_with fail
   refine (rule2.is H.out true H1.out).mono ?_
   rintro e w' ⟨rfl, rfl⟩
   go_wp2_with fail
   refine (rule3.is H.out HC.out _ _ _ q H2.out).mono ?_
   rintro e w' ⟨rfl, rfl⟩
   go_wp2_with fail
   go_ret
   exact ⟨rfl, rfl⟩
/-- flush: a flag. -/
theorem rule8.is (h : ItemBox w b k s e i t c A n cp B m cq) (x1 : w.cell? ⟨g1, 0, none⟩ = some (fnv 63 b)) (x2 : w.cell? ⟨g2, 0, none⟩ = some (fnv 64 b)) (x4 : w.cell? ⟨g4, 0, none⟩ = some (fnv 67 b)) (q : Bool) (hq : ((decide (t = 0) && (true || decide (i = 0)) && (false || decide (c = 0))) && (wi i 0 1 && (decide (n = 0) && decide (m = 0)))) = q) :
  Calls Tryd.prog 71 #[.pointer (some ⟨g1, 0, none⟩), .pointer (some ⟨g2, 0, none⟩), .pointer (some ⟨g4, 0, none⟩)] w fun e w' => e = .returned (.bool q) ∧ w' = w := by
 unfold fnv at x1 x2 x4
 have H := ak h
 clear h
 cases h0 : (decide (t = 0) && (true || decide (i = 0)) && (false || decide (c = 0)))
 ·
  rw [h0, Bool.false_and] at hq
  subst hq
  have H0 := Lib.hid h0
  clear h0
  go_enter Tryd.func71, Tryd.ntmps71
  go_wp2_with fail
  refine (rule1.is H.out _ _ false H0.out).mono ?_
  rintro e w' ⟨rfl, rfl⟩
  go_wp2_with fail
  go_ret
  exact ⟨rfl, rfl⟩
 ·
  rw [h0, Bool.true_and] at hq
  have H0 := Lib.hid h0
  clear h0
  cases h1 : wi i 0 1
  ·
   rw [h1, Bool.false_and] at hq
   subst hq
   have H1 := Lib.hid h1
   clear h1
   go_enter Tryd.func71, Tryd.ntmps71
   go_wp2_with fail
   refine (rule1.is H.out _ _ true H0.out).mono ?_
   rintro e w' ⟨rfl, rfl⟩
   go_wp2_with fail
   refine (rule2.is H.out false H1.out).mono ?_
   rintro e w' ⟨rfl, rfl⟩
   go_wp2_with fail
   go_ret
   exact ⟨rfl, rfl⟩
  ·
   rw [h1, Bool.true_and] at hq
   have H1 := Lib.hid h1
   clear h1
   have H2 := Lib.hid hq
   clear hq
   go_enter Tryd.func71, Tryd.ntmps71
   go_wp2_with fail
   refine (rule1.is H.out _ _ true H0.out).mono ?_
   rintro e w' ⟨rfl, rfl⟩
   go_wp2_with fail
   refine (rule2.is H.out true H1.out).mono ?_
   rintro e w' ⟨rfl, rfl⟩
   go_wp2_with fail
   refine (rule4.is H.out q H2.out).mono ?_
   rintro e w' ⟨rfl, rfl⟩
   go_wp2_with fail
   go_ret
   exact ⟨rfl, rfl⟩
/-- acknowledgement: a count. -/
theorem rule9.is (h : ItemBox w b k s e i t c A n cp B m cq) (x1 : w.cell? ⟨g1, 0, none⟩ = some (fnv 63 b)) (x4 : w.cell? ⟨g4, 0, none⟩ = some (fnv 67 b)) (q : Bool) (hq : ((decide (t = 0) && (false || decide (i = 0)) && (true || decide (c = 0))) && ((decide (n = 0) && decide (m = 0)) && wi c 0 4611686018427387904)) = q) :
  Calls Tryd.prog 72 #[.pointer (some ⟨g1, 0, none⟩), .pointer (some ⟨g4, 0, none⟩), .pointer (some ⟨b, 0, none⟩)] w fun e w' => e = .returned (.bool q) ∧ w' = w := by
 unfold fnv at x1 x4
 have z5 := h.h5
 have H := ak h
 clear h
 cases h0 : (decide (t = 0) && (false || decide (i = 0)) && (true || decide (c = 0)))
 ·
  rw [h0, Bool.false_and] at hq
  subst hq
  have H0 := Lib.hid h0
  clear h0
  go_enter Tryd.func72, Tryd.ntmps72
  go_wp2_with fail
  refine (rule1.is H.out _ _ false H0.out).mono ?_
  rintro e w' ⟨rfl, rfl⟩
  go_wp2_with fail
  go_ret
  exact ⟨rfl, rfl⟩
 ·
  rw [h0, Bool.true_and] at hq
  have H0 := Lib.hid h0
  clear h0
  cases h1 : (decide (n = 0) && decide (m = 0))
  ·
   rw [h1, Bool.false_and] at hq
   subst hq
   have H1 := Lib.hid h1
   clear h1
   go_enter Tryd.func72, Tryd.ntmps72
   go_wp2_with fail
   refine (rule1.is H.out _ _ true H0.out).mono ?_
   rintro e w' ⟨rfl, rfl⟩
   go_wp2_with fail
   refine (rule4.is H.out false H1.out).mono ?_
   rintro e w' ⟨rfl, rfl⟩
   go_wp2_with fail
   go_ret
   exact ⟨rfl, rfl⟩
  ·
   rw [h1, Bool.true_and] at hq
   have H1 := Lib.hid h1
   clear h1
   have H2 := Lib.hid hq
   clear hq
   go_enter Tryd.func72, Tryd.ntmps72
   go_wp2_with fail
   refine (rule1.is H.out _ _ true H0.out).mono ?_
   rintro e w' ⟨rfl, rfl⟩
   go_wp2_with fail
   refine (rule4.is H.out true H1.out).mono ?_
   rintro e w' ⟨rfl, rfl⟩
   go_wp2_with fail
   refine (item_within.is _ _ _ q _ H2.out).mono ?_
   rintro e w' ⟨rfl, rfl⟩
   go_wp2_with fail
   go_ret
   exact ⟨rfl, rfl⟩
/-- install: numbers. -/
theorem rule10.is {l : List Int} (h : ItemBox w b k s e i t c A l.length cp B m cq) (hC : Kd.C (Kd.int .i64) w A l.length l) (x1 : w.cell? ⟨g1, 0, none⟩ = some (fnv 63 b)) (x3 : w.cell? ⟨g3, 0, none⟩ = some (fnv 65 b)) (q : Bool) (hq : ((decide (t = 0) && (false || decide (i = 0)) && (false || decide (c = 0))) && (wi (l.length : Int) 2 64 && (each l 4611686018427387904 && decide (m = 0)))) = q) :
  Calls Tryd.prog 73 #[.pointer (some ⟨g1, 0, none⟩), .pointer (some ⟨g3, 0, none⟩)] w fun e w' => e = .returned (.bool q) ∧ w' = w := by
 unfold fnv at x1 x3
 have H := ak h
 clear h
 have HC := ak hC
 clear hC
 cases h0 : (decide (t = 0) && (false || decide (i = 0)) && (false || decide (c = 0)))
 ·
  rw [h0, Bool.false_and] at hq
  subst hq
  have H0 := Lib.hid h0
  clear h0
  go_enter Tryd.func73, Tryd.ntmps73
  go_wp2_with fail
  refine (rule1.is H.out _ _ false H0.out).mono ?_
  rintro e w' ⟨rfl, rfl⟩
  go_wp2_with fail
  go_ret
  exact ⟨rfl, rfl⟩
 ·
  rw [h0, Bool.true_and] at hq
  have H0 := Lib.hid h0
  clear h0
  have H1 := Lib.hid hq
  clear hq
  go_enter Tryd.func73, Tryd.ntmps73
  go_wp2_with fail
  refine (rule1.is H.out _ _ true H0.out).mono ?_
  rintro e w' ⟨rfl, rfl⟩
  go_wp2_with fail
  refine (rule3.is H.out HC.out _ _ _ q H1.out).mono ?_
  rintro e w' ⟨rfl, rfl⟩
  go_wp2_with fail
  go_ret
  exact ⟨rfl, rfl⟩
end Go.Proofs.YtieolhhokepkjaaDoor.Print
namespace Go.Proofs.YtieolhhokepkjaaDoor.Print
set_option linter.unusedVariables false
set_option linter.unusedSimpArgs false
open Go.RowKit Go.Proofs.YtieolhhokepkjaaDoorW.PrintWords Go.Proofs.YtieolhhokepkjaaDoorW.PrintLast Go.Proofs.YtieolhhokepkjaaDoorW.PrintMore
/-- How a rule reads: as itself. -/
def ruleR : Value → Option (DataW Value × List MemPlace) := fun v => some (.held v, [])
theorem keyI : Go.Maps.Keyed Tryd.prog 3 := Go.Maps.int_keyed Tryd.underlying3
theorem wpList_insert_own {P : Program} (w : World) {ops : Array Oper} {rest : List Oper} {o : Oper} {a : Act} {Q : Exit → Act → World → Prop}
  (hg : o.guard = none) (m x v : Operand) (t : TypeId) (hop : o.op = Op.insert t m x v)
  (k e : TypeId) (K : Go.Maps.Keyed P k) (ht : P.underlying t = some (.map k e)) (b n : Nat) (D : DataW Value)
  (hm : a.eval m = .map (some b)) (hown : w.ownsMap P k ruleR b n D) (hn : n < maxLen) (key val : Value) (kl : Lit) (hx : a.eval x = key) (hv : a.eval v = val) (hkey : keyOf P k key = some kl)
  (hK : ∀ w', w'.ownsMap P k ruleR b (n + 1) (D.put kl (.held val)) → w.mapTurned w' b → wpList P ops Q rest (a.put o.dst undef) w') :
  wpList P ops Q (o :: rest) a w := by
 refine wpList_plain hg fun K' hK' => ?_
 obtain ⟨w', hrun, r1, r2⟩ := hown.store K ht hn hkey (show ruleR val = some (.held val, []) from rfl)
 unfold Oper.wp
 simp [execOp, hop, hm, hx, hv, hrun, Result.andThen]
 exact hK' _ _ (hK w' r1 r2)
theorem own_made {P : Program} {k : TypeId} {w : World} {b : Nat} (h : w.heap.size = b) : (w.alloc (.map #[] 0)).ownsMap P k ruleR b 0 (.map []) := h ▸ World.ownsMap_made w P k ruleR
theorem blk_new' {w : World} {o : Obj} {b : Nat} (h : w.heap.size = b) : (w.alloc o).heap[b]? = some o := h ▸ blk_new w o
/-- The table, as it reads. -/
def ruleTab (b g1 g2 g3 g4 : Nat) : DataW Value :=
 ((((((DataW.map []).put (.int .i64 1) (.held (.func (.func 68) #[] #[.pointer (some ⟨b, 0, none⟩)]))).put (.int .i64 2) (.held (.func (.func 69) #[] #[.pointer (some ⟨g1, 0, none⟩), .pointer (some ⟨g2, 0, none⟩), .pointer (some ⟨g3, 0, none⟩)]))).put
  (.int .i64 3) (.held (.func (.func 70) #[] #[.pointer (some ⟨g1, 0, none⟩), .pointer (some ⟨g4, 0, none⟩)]))).put (.int .i64 4) (.held (.func (.func 71) #[] #[.pointer (some ⟨g1, 0, none⟩), .pointer (some ⟨g2, 0, none⟩), .pointer (some ⟨g4, 0, none⟩)]))).put
  (.int .i64 5) (.held (.func (.func 72) #[] #[.pointer (some ⟨g1, 0, none⟩), .pointer (some ⟨g4, 0, none⟩), .pointer (some ⟨b, 0, none⟩)]))).put (.int .i64 6) (.held (.func (.func 73) #[] #[.pointer (some ⟨g1, 0, none⟩), .pointer (some ⟨g3, 0, none⟩)]))
/-- What the table of rules is: closures over one box, in a map of the call's own. -/
structure RuleMap (w : World) (mb : Nat) (k s e i t c : Int) (A : Option Addr) (n cp : Nat) (B : Option Addr) (m cq : Nat) (b g1 g2 g3 g4 : Nat) : Prop where
 box : ItemBox w b k s e i t c A n cp B m cq
 x1 : w.cell? ⟨g1, 0, none⟩ = some (fnv 63 b)
 x2 : w.cell? ⟨g2, 0, none⟩ = some (fnv 64 b)
 x3 : w.cell? ⟨g3, 0, none⟩ = some (fnv 65 b)
 x4 : w.cell? ⟨g4, 0, none⟩ = some (fnv 67 b)
 own : w.ownsMap Tryd.prog 3 ruleR mb 6 (ruleTab b g1 g2 g3 g4)
def RulesPost (w : World) (k s e i t c : Int) (A : Option Addr) (n cp : Nat) (B : Option Addr) (m cq : Nat) (e' : Ending) (w' : World) : Prop :=
 ∃ mb b g1 g2 g3 g4 : Nat, e' = .returned (.map (some mb)) ∧ Below w.heap.size w w' ∧ RuleMap w' mb k s e i t c A n cp B m cq b g1 g2 g3 g4
theorem item_rules.is (k s e i t c : Int) (A : Option Addr) (n cp : Nat) (B : Option Addr) (m cq : Nat) (w : World) :
  Calls Tryd.prog 53 #[.agg #[.int .i64 k, .int .i64 s, .int .i64 e, .int .i64 i, .int .i64 t, .int .i64 c, .slice A n cp, .slice B m cq]] w (RulesPost w k s e i t c A n cp B m cq) := by
 have hmf : ∀ (fn : Fn) (first cap : Array Value) (w : World), (Instr.makeFunc fn first cap).run Tryd.prog w = .ok (.func fn first cap) w := fun _ _ _ _ => rfl
 have hmm := @run_makeMap Tryd.prog
 go_enter Tryd.func53, Tryd.ntmps53
 go_wp2_with (first | (refine wpList_insert_own _ rfl _ _ _ 77 rfl 3 28 keyI Tryd.underlying77 _ _ _ rfl (by first | exact HO.out | exact own_made (by simp)) (by unfold maxLen; omega) _ _ _ rfl rfl (Go.Maps.keyOf_int_mk Tryd.underlying3 (by decide)) ?_; intro w1 hown htr; (first | have n0_ := ak (HT.out.trans htr) | have n0_ := ak htr); have n1_ := ak hown; (try clear HT HO); have HT := n0_; have HO := n1_; clear n0_ n1_ hown htr))
 have hg := HT.out.grown
 have hs : w.heap.size + 6 ≤ w1.heap.size := by have := hg.size; simp at this; omega
 have hk : ∀ i : Nat, i < w.heap.size + 5 → _ := fun i hi => hg.block i (by simp; omega) (by simp; omega)
 have HB := (Below.refl w.heap.size w)
 have hb0 : Below w.heap.size w w1 := Below.grown (by repeat (first | exact Below.refl _ _ | apply below_alloc)) hg (by simp; omega) (fun j hj => by cases hj; omega)
 have X0 := (hk w.heap.size (by omega)).trans (by repeat (first | (refine blk_new' ?_; simp; done) | apply blk_alloc))
 have X1 := (hk (w.heap.size + 1) (by omega)).trans (by repeat (first | (refine blk_new' ?_; simp; done) | apply blk_alloc))
 have X2 := (hk (w.heap.size + 1 + 1) (by omega)).trans (by repeat (first | (refine blk_new' ?_; simp; done) | apply blk_alloc))
 have X3 := (hk (w.heap.size + 1 + 1 + 1) (by omega)).trans (by repeat (first | (refine blk_new' ?_; simp; done) | apply blk_alloc))
 have X4 := (hk (w.heap.size + 1 + 1 + 1 + 1) (by omega)).trans (by repeat (first | (refine blk_new' ?_; simp; done) | apply blk_alloc))
 have hO := HO.out
 clear hmf hmm hg HO HT hk
 go_ret
 exact ⟨_, w.heap.size, w.heap.size + 1, w.heap.size + 1 + 1, w.heap.size + 1 + 1 + 1, w.heap.size + 1 + 1 + 1 + 1, rfl, hb0, ⟨⟨blk_cell X0 0, blk_cell X0 1, blk_cell X0 2, blk_cell X0 3, blk_cell X0 4, blk_cell X0 5, blk_cell X0 6, blk_cell X0 7⟩, blk_cell X1 0, blk_cell X2 0, blk_cell X3 0, blk_cell X4 0, hO⟩⟩
end Go.Proofs.YtieolhhokepkjaaDoor.Print
