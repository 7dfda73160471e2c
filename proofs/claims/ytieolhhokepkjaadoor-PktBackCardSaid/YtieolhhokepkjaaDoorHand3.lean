/- The rules of each kind of item (closures that call closures), the table of them, and that a call of item.May does just what its Lean function says. Conditions stand in each theorem. -/
import Derived.Test.YtieolhhokepkjaaDoorHand2
namespace Go.Proofs.YtieolhhokepkjaaDoor.Print
set_option linter.unusedVariables false
set_option linter.unusedSimpArgs false
open Go.RowKit Go.Proofs.YtieolhhokepkjaaDoorW.PrintWords Go.Proofs.YtieolhhokepkjaaDoorW.PrintLast Go.Proofs.YtieolhhokepkjaaDoorW.PrintMore

/-- A closure in a cell of its own, over the item's box. -/
def fnv (f b : Nat) : Value := .func (.func f) #[] #[.pointer (some ⟨b, 0, none⟩)]
variable {w : World} {b g1 g2 g3 g4 : Nat} {k s e i t c : Int} {A B : Option Addr} {n cp m cq : Nat}
/-- token: nothing beside its numbers. -/
theorem rule7.is (h : ItemBox w b k s e i t c A n cp B m cq) (x1 : w.cell? ⟨g1, 0, none⟩ = some (fnv 63 b)) (x4 : w.cell? ⟨g4, 0, none⟩ = some (fnv 67 b)) (q : Bool)
    (hq : ((decide (t = 0) && (false || decide (i = 0)) && (false || decide (c = 0))) && (decide (n = 0) && decide (m = 0))) = q) :
    Calls Tryd.prog 70 #[.pointer (some ⟨g1, 0, none⟩), .pointer (some ⟨g4, 0, none⟩)] w fun e w' => e = .returned (.bool q) ∧ w' = w := by
  unfold fnv at x1 x4
  have H := Aside0.mk h
  clear h
  cases h1 : (decide (t = 0) && (false || decide (i = 0)) && (false || decide (c = 0)))
  · rw [h1, Bool.false_and] at hq
    subst hq
    have H1 := Lib.hid h1
    clear h1
    go_enter Tryd.func70, Tryd.ntmps70
    go_wp2_with fail
    refine (rule1.is H.out _ _ false H1.out).mono ?_
    rintro e w' ⟨rfl, rfl⟩
    go_wp2_with fail
    go_ret
    exact ⟨rfl, rfl⟩
  · rw [h1, Bool.true_and] at hq
    have H1 := Lib.hid h1
    have HQ := Lib.hid hq
    clear h1 hq
    go_enter Tryd.func70, Tryd.ntmps70
    go_wp2_with fail
    refine (rule1.is H.out _ _ true H1.out).mono ?_
    rintro e w' ⟨rfl, rfl⟩
    go_wp2_with fail
    refine (rule4.is H.out q HQ.out).mono ?_
    rintro e w' ⟨rfl, rfl⟩
    go_wp2_with fail
    go_ret
    exact ⟨rfl, rfl⟩
/-- order: a flag, and numbers of members. -/
theorem rule6.is {l : List Int} (h : ItemBox w b k s e i t c A l.length cp B m cq) (hC : Kd.C (Kd.int .i64) w A l.length l) (x1 : w.cell? ⟨g1, 0, none⟩ = some (fnv 63 b)) (x2 : w.cell? ⟨g2, 0, none⟩ = some (fnv 64 b)) (x3 : w.cell? ⟨g3, 0, none⟩ = some (fnv 65 b)) (q : Bool) (hq : ((decide (t = 0) && (true || decide (i = 0)) && (false || decide (c = 0))) && (wi i 0 1 && (wi (l.length : Int) 1 64 && (each l 63 && decide (m = 0))))) = q) :
    Calls Tryd.prog 69 #[.pointer (some ⟨g1, 0, none⟩), .pointer (some ⟨g2, 0, none⟩), .pointer (some ⟨g3, 0, none⟩)] w fun e w' => e = .returned (.bool q) ∧ w' = w := by
  unfold fnv at x1 x2 x3
  have H := Aside0.mk h
  clear h
  have HC := Aside0.mk hC
  clear hC
  cases h0 : (decide (t = 0) && (true || decide (i = 0)) && (false || decide (c = 0)))
  · rw [h0, Bool.false_and] at hq
    subst hq
    have H0 := Lib.hid h0
    clear h0
    go_enter Tryd.func69, Tryd.ntmps69
    go_wp2_with fail
    refine (rule1.is H.out _ _ false H0.out).mono ?_
    rintro e w' ⟨rfl, rfl⟩
    go_wp2_with fail
    go_ret
    exact ⟨rfl, rfl⟩
  · rw [h0, Bool.true_and] at hq
    have H0 := Lib.hid h0
    clear h0
    cases h1 : wi i 0 1
    · rw [h1, Bool.false_and] at hq
      subst hq
      have H1 := Lib.hid h1
      clear h1
      go_enter Tryd.func69, Tryd.ntmps69
      go_wp2_with fail
      refine (rule1.is H.out _ _ true H0.out).mono ?_
      rintro e w' ⟨rfl, rfl⟩
      go_wp2_with fail
      refine (rule2.is H.out false H1.out).mono ?_
      rintro e w' ⟨rfl, rfl⟩
      go_wp2_with fail
      go_ret
      exact ⟨rfl, rfl⟩
    · rw [h1, Bool.true_and] at hq
      have H1 := Lib.hid h1
      clear h1
      have H2 := Lib.hid hq
      clear hq
      go_enter Tryd.func69, Tryd.ntmps69
      go_wp2_with fail
      refine (rule1.is H.out _ _ true H0.out).mono ?_
      rintro e w' ⟨rfl, rfl⟩
      go_wp2_with fail
      refine (rule2.is H.out true H1.out).mono ?_
      rintro e w' ⟨rfl, rfl⟩
      go_wp2_with fail
      refine (rule3.is H.out HC.out _ _ _ q H2.out).mono ?_
      rintro e w' ⟨rfl, rfl⟩
      go_wp2_with fail
      go_ret
      exact ⟨rfl, rfl⟩
/-- flush: a flag. -/
theorem rule8.is (h : ItemBox w b k s e i t c A n cp B m cq) (x1 : w.cell? ⟨g1, 0, none⟩ = some (fnv 63 b)) (x2 : w.cell? ⟨g2, 0, none⟩ = some (fnv 64 b)) (x4 : w.cell? ⟨g4, 0, none⟩ = some (fnv 67 b)) (q : Bool) (hq : ((decide (t = 0) && (true || decide (i = 0)) && (false || decide (c = 0))) && (wi i 0 1 && (decide (n = 0) && decide (m = 0)))) = q) :
    Calls Tryd.prog 71 #[.pointer (some ⟨g1, 0, none⟩), .pointer (some ⟨g2, 0, none⟩), .pointer (some ⟨g4, 0, none⟩)] w fun e w' => e = .returned (.bool q) ∧ w' = w := by
  unfold fnv at x1 x2 x4
  have H := Aside0.mk h
  clear h
  cases h0 : (decide (t = 0) && (true || decide (i = 0)) && (false || decide (c = 0)))
  · rw [h0, Bool.false_and] at hq
    subst hq
    have H0 := Lib.hid h0
    clear h0
    go_enter Tryd.func71, Tryd.ntmps71
    go_wp2_with fail
    refine (rule1.is H.out _ _ false H0.out).mono ?_
    rintro e w' ⟨rfl, rfl⟩
    go_wp2_with fail
    go_ret
    exact ⟨rfl, rfl⟩
  · rw [h0, Bool.true_and] at hq
    have H0 := Lib.hid h0
    clear h0
    cases h1 : wi i 0 1
    · rw [h1, Bool.false_and] at hq
      subst hq
      have H1 := Lib.hid h1
      clear h1
      go_enter Tryd.func71, Tryd.ntmps71
      go_wp2_with fail
      refine (rule1.is H.out _ _ true H0.out).mono ?_
      rintro e w' ⟨rfl, rfl⟩
      go_wp2_with fail
      refine (rule2.is H.out false H1.out).mono ?_
      rintro e w' ⟨rfl, rfl⟩
      go_wp2_with fail
      go_ret
      exact ⟨rfl, rfl⟩
    · rw [h1, Bool.true_and] at hq
      have H1 := Lib.hid h1
      clear h1
      have H2 := Lib.hid hq
      clear hq
      go_enter Tryd.func71, Tryd.ntmps71
      go_wp2_with fail
      refine (rule1.is H.out _ _ true H0.out).mono ?_
      rintro e w' ⟨rfl, rfl⟩
      go_wp2_with fail
      refine (rule2.is H.out true H1.out).mono ?_
      rintro e w' ⟨rfl, rfl⟩
      go_wp2_with fail
      refine (rule4.is H.out q H2.out).mono ?_
      rintro e w' ⟨rfl, rfl⟩
      go_wp2_with fail
      go_ret
      exact ⟨rfl, rfl⟩
/-- acknowledgement: a count. -/
theorem rule9.is (h : ItemBox w b k s e i t c A n cp B m cq) (x1 : w.cell? ⟨g1, 0, none⟩ = some (fnv 63 b)) (x4 : w.cell? ⟨g4, 0, none⟩ = some (fnv 67 b)) (q : Bool) (hq : ((decide (t = 0) && (false || decide (i = 0)) && (true || decide (c = 0))) && ((decide (n = 0) && decide (m = 0)) && wi c 0 4611686018427387904)) = q) :
    Calls Tryd.prog 72 #[.pointer (some ⟨g1, 0, none⟩), .pointer (some ⟨g4, 0, none⟩), .pointer (some ⟨b, 0, none⟩)] w fun e w' => e = .returned (.bool q) ∧ w' = w := by
  unfold fnv at x1 x4
  have z5 := h.h5
  have H := Aside0.mk h
  clear h
  cases h0 : (decide (t = 0) && (false || decide (i = 0)) && (true || decide (c = 0)))
  · rw [h0, Bool.false_and] at hq
    subst hq
    have H0 := Lib.hid h0
    clear h0
    go_enter Tryd.func72, Tryd.ntmps72
    go_wp2_with fail
    refine (rule1.is H.out _ _ false H0.out).mono ?_
    rintro e w' ⟨rfl, rfl⟩
    go_wp2_with fail
    go_ret
    exact ⟨rfl, rfl⟩
  · rw [h0, Bool.true_and] at hq
    have H0 := Lib.hid h0
    clear h0
    cases h1 : (decide (n = 0) && decide (m = 0))
    · rw [h1, Bool.false_and] at hq
      subst hq
      have H1 := Lib.hid h1
      clear h1
      go_enter Tryd.func72, Tryd.ntmps72
      go_wp2_with fail
      refine (rule1.is H.out _ _ true H0.out).mono ?_
      rintro e w' ⟨rfl, rfl⟩
      go_wp2_with fail
      refine (rule4.is H.out false H1.out).mono ?_
      rintro e w' ⟨rfl, rfl⟩
      go_wp2_with fail
      go_ret
      exact ⟨rfl, rfl⟩
    · rw [h1, Bool.true_and] at hq
      have H1 := Lib.hid h1
      clear h1
      have H2 := Lib.hid hq
      clear hq
      go_enter Tryd.func72, Tryd.ntmps72
      go_wp2_with fail
      refine (rule1.is H.out _ _ true H0.out).mono ?_
      rintro e w' ⟨rfl, rfl⟩
      go_wp2_with fail
      refine (rule4.is H.out true H1.out).mono ?_
      rintro e w' ⟨rfl, rfl⟩
      go_wp2_with fail
      refine (item_within.is _ _ _ q _ H2.out).mono ?_
      rintro e w' ⟨rfl, rfl⟩
      go_wp2_with fail
      go_ret
      exact ⟨rfl, rfl⟩
/-- install: numbers. -/
theorem rule10.is {l : List Int} (h : ItemBox w b k s e i t c A l.length cp B m cq) (hC : Kd.C (Kd.int .i64) w A l.length l) (x1 : w.cell? ⟨g1, 0, none⟩ = some (fnv 63 b)) (x3 : w.cell? ⟨g3, 0, none⟩ = some (fnv 65 b)) (q : Bool) (hq : ((decide (t = 0) && (false || decide (i = 0)) && (false || decide (c = 0))) && (wi (l.length : Int) 2 64 && (each l 4611686018427387904 && decide (m = 0)))) = q) :
    Calls Tryd.prog 73 #[.pointer (some ⟨g1, 0, none⟩), .pointer (some ⟨g3, 0, none⟩)] w fun e w' => e = .returned (.bool q) ∧ w' = w := by
  unfold fnv at x1 x3
  have H := Aside0.mk h
  clear h
  have HC := Aside0.mk hC
  clear hC
  cases h0 : (decide (t = 0) && (false || decide (i = 0)) && (false || decide (c = 0)))
  · rw [h0, Bool.false_and] at hq
    subst hq
    have H0 := Lib.hid h0
    clear h0
    go_enter Tryd.func73, Tryd.ntmps73
    go_wp2_with fail
    refine (rule1.is H.out _ _ false H0.out).mono ?_
    rintro e w' ⟨rfl, rfl⟩
    go_wp2_with fail
    go_ret
    exact ⟨rfl, rfl⟩
  · rw [h0, Bool.true_and] at hq
    have H0 := Lib.hid h0
    clear h0
    have H1 := Lib.hid hq
    clear hq
    go_enter Tryd.func73, Tryd.ntmps73
    go_wp2_with fail
    refine (rule1.is H.out _ _ true H0.out).mono ?_
    rintro e w' ⟨rfl, rfl⟩
    go_wp2_with fail
    refine (rule3.is H.out HC.out _ _ _ q H1.out).mono ?_
    rintro e w' ⟨rfl, rfl⟩
    go_wp2_with fail
    go_ret
    exact ⟨rfl, rfl⟩
end Go.Proofs.YtieolhhokepkjaaDoor.Print
