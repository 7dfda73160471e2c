/- Which items may be, and that a call of item.May does just what its Lean function says. Conditions stand in each theorem. -/
import Derived.Test.YtieolhhokepkjaaDoorHand4
namespace Go.Proofs.YtieolhhokepkjaaDoor.Print
set_option linter.unusedVariables false
set_option linter.unusedSimpArgs false
open Go.RowKit Go.Proofs.YtieolhhokepkjaaDoorW.PrintWords Go.Proofs.YtieolhhokepkjaaDoorW.PrintLast Go.Proofs.YtieolhhokepkjaaDoorW.PrintMore
theorem tab_eq (b g1 g2 g3 g4 : Nat) : ruleTab b g1 g2 g3 g4 = .map [(.int .i64 1, .held (.func (.func 68) #[] #[.pointer (some ⟨b, 0, none⟩)])), (.int .i64 2, .held (.func (.func 69) #[] #[.pointer (some ⟨g1, 0, none⟩), .pointer (some ⟨g2, 0, none⟩), .pointer (some ⟨g3, 0, none⟩)])),
  (.int .i64 3, .held (.func (.func 70) #[] #[.pointer (some ⟨g1, 0, none⟩), .pointer (some ⟨g4, 0, none⟩)])), (.int .i64 4, .held (.func (.func 71) #[] #[.pointer (some ⟨g1, 0, none⟩), .pointer (some ⟨g2, 0, none⟩), .pointer (some ⟨g4, 0, none⟩)])),
  (.int .i64 5, .held (.func (.func 72) #[] #[.pointer (some ⟨g1, 0, none⟩), .pointer (some ⟨g4, 0, none⟩), .pointer (some ⟨b, 0, none⟩)])), (.int .i64 6, .held (.func (.func 73) #[] #[.pointer (some ⟨g1, 0, none⟩), .pointer (some ⟨g3, 0, none⟩)]))] := by kernel_rfl
theorem nilRule (w : World) : (zeroValue 28).run Tryd.prog w = .ok .nilFunc w := by kernel_rfl
variable {w w1 : World} {b g1 g2 g3 g4 mb : Nat} {k s e i t c : Int} {A B : Option Addr} {n cp m cq : Nat} {l : List Int}
theorem rule_look_at (h : RuleMap w1 mb k s e i t c A n cp B m cq b g1 g2 g3 g4) (z : Int) (hw : (Lit.int .i64 z).wf = true) (v : Value) (hv : (ruleTab b g1 g2 g3 g4).atKey (.int .i64 z) (.held .nilFunc) = .held v) (q : Bool) (hq : Go.Maps.has (ruleTab b g1 g2 g3 g4) (.int .i64 z) = q) :
  (Instr.lookup 77 (.map (some mb)) (.int .i64 z) true).run Tryd.prog w1 = .ok (.tuple #[v, .bool q]) w1 := by
 obtain ⟨v', ps, hrun, hR⟩ := h.own.look_ok keyI Tryd.underlying77 (nilRule w1) (show ruleR .nilFunc = some (.held .nilFunc, []) from rfl) (Go.Maps.keyOf_int_mk Tryd.underlying3 hw)
 rw [hv] at hR
 simp only [ruleR, Option.some.injEq, Prod.mk.injEq, DataW.held.injEq] at hR
 obtain ⟨rfl, _⟩ := hR
 rw [hq] at hrun
 exact hrun
theorem rule_look1 (h : RuleMap w1 mb k s e i t c A n cp B m cq b g1 g2 g3 g4) : ∃ v, (Instr.lookup 77 (.map (some mb)) (.int .i64 1) true).run Tryd.prog w1 = .ok (.tuple #[v, .bool true]) w1 ∧ v = .func (.func 68) #[] #[.pointer (some ⟨b, 0, none⟩)] :=
 ⟨_, rule_look_at h 1 (by decide) _ (by rw [tab_eq]; rfl) true (by rw [tab_eq]; rfl), rfl⟩
theorem rule_look2 (h : RuleMap w1 mb k s e i t c A n cp B m cq b g1 g2 g3 g4) : ∃ v, (Instr.lookup 77 (.map (some mb)) (.int .i64 2) true).run Tryd.prog w1 = .ok (.tuple #[v, .bool true]) w1 ∧ v = .func (.func 69) #[] #[.pointer (some ⟨g1, 0, none⟩), .pointer (some ⟨g2, 0, none⟩), .pointer (some ⟨g3, 0, none⟩)] :=
 ⟨_, rule_look_at h 2 (by decide) _ (by rw [tab_eq]; rfl) true (by rw [tab_eq]; rfl), rfl⟩
theorem rule_look3 (h : RuleMap w1 mb k s e i t c A n cp B m cq b g1 g2 g3 g4) : ∃ v, (Instr.lookup 77 (.map (some mb)) (.int .i64 3) true).run Tryd.prog w1 = .ok (.tuple #[v, .bool true]) w1 ∧ v = .func (.func 70) #[] #[.pointer (some ⟨g1, 0, none⟩), .pointer (some ⟨g4, 0, none⟩)] :=
 ⟨_, rule_look_at h 3 (by decide) _ (by rw [tab_eq]; rfl) true (by rw [tab_eq]; rfl), rfl⟩
theorem rule_look4 (h : RuleMap w1 mb k s e i t c A n cp B m cq b g1 g2 g3 g4) : ∃ v, (Instr.lookup 77 (.map (some mb)) (.int .i64 4) true).run Tryd.prog w1 = .ok (.tuple #[v, .bool true]) w1 ∧ v = .func (.func 71) #[] #[.pointer (some ⟨g1, 0, none⟩), .pointer (some ⟨g2, 0, none⟩), .pointer (some ⟨g4, 0, none⟩)] :=
 ⟨_, rule_look_at h 4 (by decide) _ (by rw [tab_eq]; rfl) true (by rw [tab_eq]; rfl), rfl⟩
theorem rule_look5 (h : RuleMap w1 mb k s e i t c A n cp B m cq b g1 g2 g3 g4) : ∃ v, (Instr.lookup 77 (.map (some mb)) (.int .i64 5) true).run Tryd.prog w1 = .ok (.tuple #[v, .bool true]) w1 ∧ v = .func (.func 72) #[] #[.pointer (some ⟨g1, 0, none⟩), .pointer (some ⟨g4, 0, none⟩), .pointer (some ⟨b, 0, none⟩)] :=
 ⟨_, rule_look_at h 5 (by decide) _ (by rw [tab_eq]; rfl) true (by rw [tab_eq]; rfl), rfl⟩
theorem rule_look6 (h : RuleMap w1 mb k s e i t c A n cp B m cq b g1 g2 g3 g4) : ∃ v, (Instr.lookup 77 (.map (some mb)) (.int .i64 6) true).run Tryd.prog w1 = .ok (.tuple #[v, .bool true]) w1 ∧ v = .func (.func 73) #[] #[.pointer (some ⟨g1, 0, none⟩), .pointer (some ⟨g3, 0, none⟩)] :=
 ⟨_, rule_look_at h 6 (by decide) _ (by rw [tab_eq]; rfl) true (by rw [tab_eq]; rfl), rfl⟩
theorem rule_look {z : Int} (h : RuleMap w1 mb k s e i t c A n cp B m cq b g1 g2 g3 g4) (hw : (Lit.int .i64 z).wf = true) (hz : ¬ (1 ≤ z ∧ z ≤ 6)) : ∃ v, (Instr.lookup 77 (.map (some mb)) (.int .i64 z) true).run Tryd.prog w1 = .ok (.tuple #[v, .bool false]) w1 ∧ v = .nilFunc := by
 have h1 : ¬ (1 : Int) = z := by omega
 have h2 : ¬ (2 : Int) = z := by omega
 have h3 : ¬ (3 : Int) = z := by omega
 have h4 : ¬ (4 : Int) = z := by omega
 have h5 : ¬ (5 : Int) = z := by omega
 have h6 : ¬ (6 : Int) = z := by omega
 exact ⟨_, rule_look_at h z hw _ (by rw [tab_eq]; simp [DataW.atKey, Lit.sameKey, h1, h2, h3, h4, h5, h6]) false (by rw [tab_eq]; simp [Go.Maps.has, Lit.sameKey, h1, h2, h3, h4, h5, h6]), rfl⟩
/-- Which items of each kind may be, but for the numbers that all have. -/
def may1B (i t c : Int) (l : List Int) (m : Nat) : Bool := wi t 1 32 && (wi i 0 (t - 1) && (decide (c = 0) && (decide (l.length = 0) && decide (m ≤ 1024))))
def may2B (i t c : Int) (l : List Int) (m : Nat) : Bool := (decide (t = 0) && (true || decide (i = 0)) && (false || decide (c = 0))) && (wi i 0 1 && (wi (l.length : Int) 1 64 && (each l 63 && decide (m = 0))))
def may3B (i t c : Int) (l : List Int) (m : Nat) : Bool := (decide (t = 0) && (false || decide (i = 0)) && (false || decide (c = 0))) && (decide (l.length = 0) && decide (m = 0))
def may4B (i t c : Int) (l : List Int) (m : Nat) : Bool := (decide (t = 0) && (true || decide (i = 0)) && (false || decide (c = 0))) && (wi i 0 1 && (decide (l.length = 0) && decide (m = 0)))
def may5B (i t c : Int) (l : List Int) (m : Nat) : Bool := (decide (t = 0) && (false || decide (i = 0)) && (true || decide (c = 0))) && ((decide (l.length = 0) && decide (m = 0)) && wi c 0 4611686018427387904)
def may6B (i t c : Int) (l : List Int) (m : Nat) : Bool := (decide (t = 0) && (false || decide (i = 0)) && (false || decide (c = 0))) && (wi (l.length : Int) 2 64 && (each l 4611686018427387904 && decide (m = 0)))
set_option maxRecDepth 100000 in
theorem may1 (hC : Kd.C (Kd.int .i64) w A l.length l) (q : Bool) (hq : (may1B i t c l m && (wi s 1 4611686018427387904 && wi e 0 4611686018427387904)) = q) :
  Calls Tryd.prog 30 #[.agg #[.int .i64 1, .int .i64 s, .int .i64 e, .int .i64 i, .int .i64 t, .int .i64 c, .slice A l.length cp, .slice B m cq]] w fun e' w' => e' = .returned (.bool q) ∧ Below w.heap.size w w' := by
 have HC := ak hC
 clear hC
 have HQ := Lib.hid hq
 clear hq
 go_enter Tryd.func30, Tryd.ntmps30
 go_wp2_with fail
 refine start_ (n := 10) (S := fun w' => w'.cell? ⟨w.heap.size, 0, none⟩ = some (.int .i64 1) ∧ w'.cell? ⟨w.heap.size, 1, none⟩ = some (.int .i64 s) ∧ w'.cell? ⟨w.heap.size, 2, none⟩ = some (.int .i64 e) ∧ w'.cell? ⟨w.heap.size, 3, none⟩ = some (.int .i64 i) ∧ w'.cell? ⟨w.heap.size, 4, none⟩ = some (.int .i64 t) ∧ w'.cell? ⟨w.heap.size, 5, none⟩ = some (.int .i64 c) ∧ w'.cell? ⟨w.heap.size, 6, none⟩ = some (.slice A l.length cp) ∧ w'.cell? ⟨w.heap.size, 7, none⟩ = some (.slice B m cq)) (ds := []) #[false, false, false, false, false, false, false, false, false, false] (by kernel_rfl) rfl rfl ⟨blk_cell (blk_drew (blk_new w (Obj.cells #[.int .i64 1, .int .i64 s, .int .i64 e, .int .i64 i, .int .i64 t, .int .i64 c, .slice A l.length cp, .slice B m cq] 25))) 0, blk_cell (blk_drew (blk_new w (Obj.cells #[.int .i64 1, .int .i64 s, .int .i64 e, .int .i64 i, .int .i64 t, .int .i64 c, .slice A l.length cp, .slice B m cq] 25))) 1, blk_cell (blk_drew (blk_new w (Obj.cells #[.int .i64 1, .int .i64 s, .int .i64 e, .int .i64 i, .int .i64 t, .int .i64 c, .slice A l.length cp, .slice B m cq] 25))) 2, blk_cell (blk_drew (blk_new w (Obj.cells #[.int .i64 1, .int .i64 s, .int .i64 e, .int .i64 i, .int .i64 t, .int .i64 c, .slice A l.length cp, .slice B m cq] 25))) 3, blk_cell (blk_drew (blk_new w (Obj.cells #[.int .i64 1, .int .i64 s, .int .i64 e, .int .i64 i, .int .i64 t, .int .i64 c, .slice A l.length cp, .slice B m cq] 25))) 4, blk_cell (blk_drew (blk_new w (Obj.cells #[.int .i64 1, .int .i64 s, .int .i64 e, .int .i64 i, .int .i64 t, .int .i64 c, .slice A l.length cp, .slice B m cq] 25))) 5, blk_cell (blk_drew (blk_new w (Obj.cells #[.int .i64 1, .int .i64 s, .int .i64 e, .int .i64 i, .int .i64 t, .int .i64 c, .slice A l.length cp, .slice B m cq] 25))) 6, blk_cell (blk_drew (blk_new w (Obj.cells #[.int .i64 1, .int .i64 s, .int .i64 e, .int .i64 i, .int .i64 t, .int .i64 c, .slice A l.length cp, .slice B m cq] 25))) 7⟩ (fun hHeld => ?_)
 refine pure_ (i := 2) (N := some 8) (v := ?_) (a' := ?_) #[false, false, true, false, false, false, false, false, false, false] rfl rfl (by kernel_rfl) (fun _ _ _ h => h) (Or.inl ⟨by rfl, ?_⟩) ?_ ?_
 rotate_left
 ·
  intro w'
  go_simp
  with_reducible rfl
 rotate_left
 ·
  simp only [Act.put, sq1, sq2, sq3, i64_w, i32_w]
  rfl
 refine take_ (i := 0) (N := some 6) (v := ?_) (a' := ?_) #[true, false, true, false, false, false, false, false, false, false] rfl rfl (by kernel_rfl) (fun _ _ _ h => h) (Or.inl ⟨by rfl, ?_⟩) hHeld ?_ ?_
 rotate_left
 ·
  rintro w' ⟨s0, s1, s2, s3, s4, s5, s6, s7⟩
  go_simp
  with_reducible rfl
 rotate_left
 ·
  simp only [Act.put, sq1, sq2, sq3, i64_w, i32_w]
  rfl
 refine take_ (i := 3) (N := some 9) (v := ?_) (a' := ?_) #[true, false, true, true, false, false, false, false, false, false] rfl rfl (by kernel_rfl) (fun _ _ _ h => h) (Or.inl ⟨by rfl, ?_⟩) hHeld ?_ ?_
 rotate_left
 ·
  rintro w' ⟨s0, s1, s2, s3, s4, s5, s6, s7⟩
  go_simp
  with_reducible rfl
 rotate_left
 ·
  simp only [Act.put, sq1, sq2, sq3, i64_w, i32_w]
  rfl
 refine one_ (i := 1) (N := some 7) #[true, true, true, true, false, false, false, false, false, false] rfl rfl (by kernel_rfl) (by decide) (fun K hK => ?_)
 refine goes_ Tryd.func53 (by kernel_rfl) rfl #[.agg #[.int .i64 1, .int .i64 s, .int .i64 e, .int .i64 i, .int .i64 t, .int .i64 c, .slice A l.length cp, .slice B m cq]] (by rfl) rfl rfl (by simp only [List.map_toArray, List.map_cons, List.map_nil]; rfl) ?_
 with_reducible refine (item_rules.is (1) s e i t c A l.length cp B m cq _).mono ?_
 rintro e0 w1 ⟨mb, b, g1, g2, g3, g4, rfl, hbw, hm⟩
 refine ⟨_, rfl, ?_⟩
 have HBw := ak hbw
 have HM := ak hm
 clear hbw hm
 refine hK.out _ _ ⟨pw_cell_below HBw.out (blk_cell (blk_drew (blk_new w (Obj.cells #[.int .i64 1, .int .i64 s, .int .i64 e, .int .i64 i, .int .i64 t, .int .i64 c, .slice A l.length cp, .slice B m cq] 25))) 0), pw_cell_below HBw.out (blk_cell (blk_drew (blk_new w (Obj.cells #[.int .i64 1, .int .i64 s, .int .i64 e, .int .i64 i, .int .i64 t, .int .i64 c, .slice A l.length cp, .slice B m cq] 25))) 1), pw_cell_below HBw.out (blk_cell (blk_drew (blk_new w (Obj.cells #[.int .i64 1, .int .i64 s, .int .i64 e, .int .i64 i, .int .i64 t, .int .i64 c, .slice A l.length cp, .slice B m cq] 25))) 2), pw_cell_below HBw.out (blk_cell (blk_drew (blk_new w (Obj.cells #[.int .i64 1, .int .i64 s, .int .i64 e, .int .i64 i, .int .i64 t, .int .i64 c, .slice A l.length cp, .slice B m cq] 25))) 3), pw_cell_below HBw.out (blk_cell (blk_drew (blk_new w (Obj.cells #[.int .i64 1, .int .i64 s, .int .i64 e, .int .i64 i, .int .i64 t, .int .i64 c, .slice A l.length cp, .slice B m cq] 25))) 4), pw_cell_below HBw.out (blk_cell (blk_drew (blk_new w (Obj.cells #[.int .i64 1, .int .i64 s, .int .i64 e, .int .i64 i, .int .i64 t, .int .i64 c, .slice A l.length cp, .slice B m cq] 25))) 5), pw_cell_below HBw.out (blk_cell (blk_drew (blk_new w (Obj.cells #[.int .i64 1, .int .i64 s, .int .i64 e, .int .i64 i, .int .i64 t, .int .i64 c, .slice A l.length cp, .slice B m cq] 25))) 6), pw_cell_below HBw.out (blk_cell (blk_drew (blk_new w (Obj.cells #[.int .i64 1, .int .i64 s, .int .i64 e, .int .i64 i, .int .i64 t, .int .i64 c, .slice A l.length cp, .slice B m cq] 25))) 7)⟩ (fun hHeld => ?_)
 clear hK K
 refine norm_ (a' := ?_) ?_ ?_
 rotate_left
 ·
  show Act.put _ (some 7) _ = _
  simp only [Act.put, sq1, sq2, sq3, i64_w, i32_w]
  rfl
 refine one_ (i := 4) (N := some 10) #[true, true, true, true, true, false, false, false, false, false] rfl rfl (by kernel_rfl) (by decide) (fun K hK => ?_)
 obtain ⟨v, hrun, hv⟩ := rule_look1 HM.out
 subst hv
 refine value_ (w1 := ?_) (v := ?_) (by rfl) rfl ?_ ?_
 rotate_left 2
 ·
  go_simp
  constructor
  ·
   rfl
  ·
   rfl
 clear hrun
 refine hK.out _ _ ⟨pw_cell_below HBw.out (blk_cell (blk_drew (blk_new w (Obj.cells #[.int .i64 1, .int .i64 s, .int .i64 e, .int .i64 i, .int .i64 t, .int .i64 c, .slice A l.length cp, .slice B m cq] 25))) 0), pw_cell_below HBw.out (blk_cell (blk_drew (blk_new w (Obj.cells #[.int .i64 1, .int .i64 s, .int .i64 e, .int .i64 i, .int .i64 t, .int .i64 c, .slice A l.length cp, .slice B m cq] 25))) 1), pw_cell_below HBw.out (blk_cell (blk_drew (blk_new w (Obj.cells #[.int .i64 1, .int .i64 s, .int .i64 e, .int .i64 i, .int .i64 t, .int .i64 c, .slice A l.length cp, .slice B m cq] 25))) 2), pw_cell_below HBw.out (blk_cell (blk_drew (blk_new w (Obj.cells #[.int .i64 1, .int .i64 s, .int .i64 e, .int .i64 i, .int .i64 t, .int .i64 c, .slice A l.length cp, .slice B m cq] 25))) 3), pw_cell_below HBw.out (blk_cell (blk_drew (blk_new w (Obj.cells #[.int .i64 1, .int .i64 s, .int .i64 e, .int .i64 i, .int .i64 t, .int .i64 c, .slice A l.length cp, .slice B m cq] 25))) 4), pw_cell_below HBw.out (blk_cell (blk_drew (blk_new w (Obj.cells #[.int .i64 1, .int .i64 s, .int .i64 e, .int .i64 i, .int .i64 t, .int .i64 c, .slice A l.length cp, .slice B m cq] 25))) 5), pw_cell_below HBw.out (blk_cell (blk_drew (blk_new w (Obj.cells #[.int .i64 1, .int .i64 s, .int .i64 e, .int .i64 i, .int .i64 t, .int .i64 c, .slice A l.length cp, .slice B m cq] 25))) 6), pw_cell_below HBw.out (blk_cell (blk_drew (blk_new w (Obj.cells #[.int .i64 1, .int .i64 s, .int .i64 e, .int .i64 i, .int .i64 t, .int .i64 c, .slice A l.length cp, .slice B m cq] 25))) 7)⟩ (fun hHeld => ?_)
 clear hK K
 refine norm_ (a' := ?_) ?_ ?_
 rotate_left
 ·
  show Act.put _ (some 10) _ = _
  simp only [Act.put, sq1, sq2, sq3, i64_w, i32_w]
  rfl
 refine pure_ (i := 5) (N := some 5) (v := ?_) (a' := ?_) #[true, true, true, true, true, true, false, false, false, false] rfl rfl (by kernel_rfl) (fun _ _ _ h => h) (Or.inl ⟨by rfl, ?_⟩) ?_ ?_
 rotate_left
 ·
  intro w'
  go_simp
  with_reducible rfl
 rotate_left
 ·
  simp only [Act.put, sq1, sq2, sq3, i64_w, i32_w]
  rfl
 refine pure_ (i := 6) (N := some 11) (v := ?_) (a' := ?_) #[true, true, true, true, true, true, true, false, false, false] rfl rfl (by kernel_rfl) (fun _ _ _ h => h) (Or.inl ⟨by rfl, ?_⟩) ?_ ?_
 rotate_left
 ·
  intro w'
  go_simp
  with_reducible rfl
 rotate_left
 ·
  simp only [Act.put, sq1, sq2, sq3, i64_w, i32_w]
  rfl
 refine pure_ (i := 7) (N := some 12) (v := ?_) (a' := ?_) #[true, true, true, true, true, true, true, true, false, false] rfl rfl (by kernel_rfl) (fun _ _ _ h => h) (Or.inl ⟨by rfl, ?_⟩) ?_ ?_
 rotate_left
 ·
  intro w'
  go_simp
  with_reducible rfl
 rotate_left
 ·
  simp only [Act.put, sq1, sq2, sq3, i64_w, i32_w]
  rfl
 refine pure_ (i := 8) (N := some 3) (v := ?_) (a' := ?_) #[true, true, true, true, true, true, true, true, true, false] rfl rfl (by kernel_rfl) (fun _ _ _ h => h) (Or.inl ⟨by rfl, ?_⟩) ?_ ?_
 rotate_left
 ·
  intro w'
  go_simp
  with_reducible rfl
 rotate_left
 ·
  simp only [Act.put, sq1, sq2, sq3, i64_w, i32_w]
  rfl
 refine pure_ (i := 9) (N := some 4) (v := ?_) (a' := ?_) #[true, true, true, true, true, true, true, true, true, true] rfl rfl (by kernel_rfl) (fun _ _ _ h => h) (Or.inl ⟨by rfl, ?_⟩) ?_ ?_
 rotate_left
 ·
  intro w'
  go_simp
  with_reducible rfl
 rotate_left
 ·
  simp only [Act.put, sq1, sq2, sq3, i64_w, i32_w]
  rfl
 refine done_ (by kernel_rfl) ?_
 clear hHeld
 have HB := ak (below_step (below_drew1 (below_alloc (Below.refl w.heap.size w) (Obj.cells #[.int .i64 1, .int .i64 s, .int .i64 e, .int .i64 i, .int .i64 t, .int .i64 c, .slice A l.length cp, .slice B m cq] 25))) HBw.out)
 have y1 := pw_cell_below HBw.out (blk_cell (blk_drew (blk_new w (Obj.cells #[.int .i64 1, .int .i64 s, .int .i64 e, .int .i64 i, .int .i64 t, .int .i64 c, .slice A l.length cp, .slice B m cq] 25))) 1)
 have y2 := pw_cell_below HBw.out (blk_cell (blk_drew (blk_new w (Obj.cells #[.int .i64 1, .int .i64 s, .int .i64 e, .int .i64 i, .int .i64 t, .int .i64 c, .slice A l.length cp, .slice B m cq] 25))) 2)
 have hq := HQ.out
 clear HQ
 cases h0 : may1B i t c l m
 ·
  rw [h0, Bool.false_and] at hq
  subst hq
  have H0 := Lib.hid h0
  clear h0
  go_wp2_with fail
  refine (rule5.is HM.out.box false H0.out).mono ?_
  rintro e1 w2 ⟨rfl, rfl⟩
  go_wp2_with fail
  go_ret
  exact ⟨rfl, HB.out⟩
 ·
  rw [h0, Bool.true_and] at hq
  have H0 := Lib.hid h0
  clear h0
  cases h1 : wi s 1 4611686018427387904
  ·
   rw [h1, Bool.false_and] at hq
   subst hq
   have H1 := Lib.hid h1
   clear h1
   go_wp2_with fail
   refine (rule5.is HM.out.box true H0.out).mono ?_
   rintro e1 w2 ⟨rfl, rfl⟩
   go_wp2_with fail
   refine (item_within.is _ _ _ false _ H1.out).mono ?_
   rintro e1 w2 ⟨rfl, rfl⟩
   go_wp2_with fail
   go_ret
   exact ⟨rfl, HB.out⟩
  ·
   rw [h1, Bool.true_and] at hq
   have H1 := Lib.hid h1
   clear h1
   have H2 := Lib.hid hq
   clear hq
   go_wp2_with fail
   refine (rule5.is HM.out.box true H0.out).mono ?_
   rintro e1 w2 ⟨rfl, rfl⟩
   go_wp2_with fail
   refine (item_within.is _ _ _ true _ H1.out).mono ?_
   rintro e1 w2 ⟨rfl, rfl⟩
   go_wp2_with fail
   refine (item_within.is _ _ _ q _ H2.out).mono ?_
   rintro e1 w2 ⟨rfl, rfl⟩
   go_wp2_with fail
   go_ret
   exact ⟨rfl, HB.out⟩
set_option maxRecDepth 100000 in
theorem may2 (hC : Kd.C (Kd.int .i64) w A l.length l) (q : Bool) (hq : (may2B i t c l m && (wi s 1 4611686018427387904 && wi e 0 4611686018427387904)) = q) :
  Calls Tryd.prog 30 #[.agg #[.int .i64 2, .int .i64 s, .int .i64 e, .int .i64 i, .int .i64 t, .int .i64 c, .slice A l.length cp, .slice B m cq]] w fun e' w' => e' = .returned (.bool q) ∧ Below w.heap.size w w' := by
 have HC := ak hC
 clear hC
 have HQ := Lib.hid hq
 clear hq
 go_enter Tryd.func30, Tryd.ntmps30
 go_wp2_with fail
 refine start_ (n := 10) (S := fun w' => w'.cell? ⟨w.heap.size, 0, none⟩ = some (.int .i64 2) ∧ w'.cell? ⟨w.heap.size, 1, none⟩ = some (.int .i64 s) ∧ w'.cell? ⟨w.heap.size, 2, none⟩ = some (.int .i64 e) ∧ w'.cell? ⟨w.heap.size, 3, none⟩ = some (.int .i64 i) ∧ w'.cell? ⟨w.heap.size, 4, none⟩ = some (.int .i64 t) ∧ w'.cell? ⟨w.heap.size, 5, none⟩ = some (.int .i64 c) ∧ w'.cell? ⟨w.heap.size, 6, none⟩ = some (.slice A l.length cp) ∧ w'.cell? ⟨w.heap.size, 7, none⟩ = some (.slice B m cq)) (ds := []) #[false, false, false, false, false, false, false, false, false, false] (by kernel_rfl) rfl rfl ⟨blk_cell (blk_drew (blk_new w (Obj.cells #[.int .i64 2, .int .i64 s, .int .i64 e, .int .i64 i, .int .i64 t, .int .i64 c, .slice A l.length cp, .slice B m cq] 25))) 0, blk_cell (blk_drew (blk_new w (Obj.cells #[.int .i64 2, .int .i64 s, .int .i64 e, .int .i64 i, .int .i64 t, .int .i64 c, .slice A l.length cp, .slice B m cq] 25))) 1, blk_cell (blk_drew (blk_new w (Obj.cells #[.int .i64 2, .int .i64 s, .int .i64 e, .int .i64 i, .int .i64 t, .int .i64 c, .slice A l.length cp, .slice B m cq] 25))) 2, blk_cell (blk_drew (blk_new w (Obj.cells #[.int .i64 2, .int .i64 s, .int .i64 e, .int .i64 i, .int .i64 t, .int .i64 c, .slice A l.length cp, .slice B m cq] 25))) 3, blk_cell (blk_drew (blk_new w (Obj.cells #[.int .i64 2, .int .i64 s, .int .i64 e, .int .i64 i, .int .i64 t, .int .i64 c, .slice A l.length cp, .slice B m cq] 25))) 4, blk_cell (blk_drew (blk_new w (Obj.cells #[.int .i64 2, .int .i64 s, .int .i64 e, .int .i64 i, .int .i64 t, .int .i64 c, .slice A l.length cp, .slice B m cq] 25))) 5, blk_cell (blk_drew (blk_new w (Obj.cells #[.int .i64 2, .int .i64 s, .int .i64 e, .int .i64 i, .int .i64 t, .int .i64 c, .slice A l.length cp, .slice B m cq] 25))) 6, blk_cell (blk_drew (blk_new w (Obj.cells #[.int .i64 2, .int .i64 s, .int .i64 e, .int .i64 i, .int .i64 t, .int .i64 c, .slice A l.length cp, .slice B m cq] 25))) 7⟩ (fun hHeld => ?_)
 refine pure_ (i := 2) (N := some 8) (v := ?_) (a' := ?_) #[false, false, true, false, false, false, false, false, false, false] rfl rfl (by kernel_rfl) (fun _ _ _ h => h) (Or.inl ⟨by rfl, ?_⟩) ?_ ?_
 rotate_left
 ·
  intro w'
  go_simp
  with_reducible rfl
 rotate_left
 ·
  simp only [Act.put, sq1, sq2, sq3, i64_w, i32_w]
  rfl
 refine take_ (i := 0) (N := some 6) (v := ?_) (a' := ?_) #[true, false, true, false, false, false, false, false, false, false] rfl rfl (by kernel_rfl) (fun _ _ _ h => h) (Or.inl ⟨by rfl, ?_⟩) hHeld ?_ ?_
 rotate_left
 ·
  rintro w' ⟨s0, s1, s2, s3, s4, s5, s6, s7⟩
  go_simp
  with_reducible rfl
 rotate_left
 ·
  simp only [Act.put, sq1, sq2, sq3, i64_w, i32_w]
  rfl
 refine take_ (i := 3) (N := some 9) (v := ?_) (a' := ?_) #[true, false, true, true, false, false, false, false, false, false] rfl rfl (by kernel_rfl) (fun _ _ _ h => h) (Or.inl ⟨by rfl, ?_⟩) hHeld ?_ ?_
 rotate_left
 ·
  rintro w' ⟨s0, s1, s2, s3, s4, s5, s6, s7⟩
  go_simp
  with_reducible rfl
 rotate_left
 ·
  simp only [Act.put, sq1, sq2, sq3, i64_w, i32_w]
  rfl
 refine one_ (i := 1) (N := some 7) #[true, true, true, true, false, false, false, false, false, false] rfl rfl (by kernel_rfl) (by decide) (fun K hK => ?_)
 refine goes_ Tryd.func53 (by kernel_rfl) rfl #[.agg #[.int .i64 2, .int .i64 s, .int .i64 e, .int .i64 i, .int .i64 t, .int .i64 c, .slice A l.length cp, .slice B m cq]] (by rfl) rfl rfl (by simp only [List.map_toArray, List.map_cons, List.map_nil]; rfl) ?_
 with_reducible refine (item_rules.is (2) s e i t c A l.length cp B m cq _).mono ?_
 rintro e0 w1 ⟨mb, b, g1, g2, g3, g4, rfl, hbw, hm⟩
 refine ⟨_, rfl, ?_⟩
 have HBw := ak hbw
 have HM := ak hm
 clear hbw hm
 refine hK.out _ _ ⟨pw_cell_below HBw.out (blk_cell (blk_drew (blk_new w (Obj.cells #[.int .i64 2, .int .i64 s, .int .i64 e, .int .i64 i, .int .i64 t, .int .i64 c, .slice A l.length cp, .slice B m cq] 25))) 0), pw_cell_below HBw.out (blk_cell (blk_drew (blk_new w (Obj.cells #[.int .i64 2, .int .i64 s, .int .i64 e, .int .i64 i, .int .i64 t, .int .i64 c, .slice A l.length cp, .slice B m cq] 25))) 1), pw_cell_below HBw.out (blk_cell (blk_drew (blk_new w (Obj.cells #[.int .i64 2, .int .i64 s, .int .i64 e, .int .i64 i, .int .i64 t, .int .i64 c, .slice A l.length cp, .slice B m cq] 25))) 2), pw_cell_below HBw.out (blk_cell (blk_drew (blk_new w (Obj.cells #[.int .i64 2, .int .i64 s, .int .i64 e, .int .i64 i, .int .i64 t, .int .i64 c, .slice A l.length cp, .slice B m cq] 25))) 3), pw_cell_below HBw.out (blk_cell (blk_drew (blk_new w (Obj.cells #[.int .i64 2, .int .i64 s, .int .i64 e, .int .i64 i, .int .i64 t, .int .i64 c, .slice A l.length cp, .slice B m cq] 25))) 4), pw_cell_below HBw.out (blk_cell (blk_drew (blk_new w (Obj.cells #[.int .i64 2, .int .i64 s, .int .i64 e, .int .i64 i, .int .i64 t, .int .i64 c, .slice A l.length cp, .slice B m cq] 25))) 5), pw_cell_below HBw.out (blk_cell (blk_drew (blk_new w (Obj.cells #[.int .i64 2, .int .i64 s, .int .i64 e, .int .i64 i, .int .i64 t, .int .i64 c, .slice A l.length cp, .slice B m cq] 25))) 6), pw_cell_below HBw.out (blk_cell (blk_drew (blk_new w (Obj.cells #[.int .i64 2, .int .i64 s, .int .i64 e, .int .i64 i, .int .i64 t, .int .i64 c, .slice A l.length cp, .slice B m cq] 25))) 7)⟩ (fun hHeld => ?_)
 clear hK K
 refine norm_ (a' := ?_) ?_ ?_
 rotate_left
 ·
  show Act.put _ (some 7) _ = _
  simp only [Act.put, sq1, sq2, sq3, i64_w, i32_w]
  rfl
 refine one_ (i := 4) (N := some 10) #[true, true, true, true, true, false, false, false, false, false] rfl rfl (by kernel_rfl) (by decide) (fun K hK => ?_)
 obtain ⟨v, hrun, hv⟩ := rule_look2 HM.out
 subst hv
 refine value_ (w1 := ?_) (v := ?_) (by rfl) rfl ?_ ?_
 rotate_left 2
 ·
  go_simp
  constructor
  ·
   rfl
  ·
   rfl
 clear hrun
 refine hK.out _ _ ⟨pw_cell_below HBw.out (blk_cell (blk_drew (blk_new w (Obj.cells #[.int .i64 2, .int .i64 s, .int .i64 e, .int .i64 i, .int .i64 t, .int .i64 c, .slice A l.length cp, .slice B m cq] 25))) 0), pw_cell_below HBw.out (blk_cell (blk_drew (blk_new w (Obj.cells #[.int .i64 2, .int .i64 s, .int .i64 e, .int .i64 i, .int .i64 t, .int .i64 c, .slice A l.length cp, .slice B m cq] 25))) 1), pw_cell_below HBw.out (blk_cell (blk_drew (blk_new w (Obj.cells #[.int .i64 2, .int .i64 s, .int .i64 e, .int .i64 i, .int .i64 t, .int .i64 c, .slice A l.length cp, .slice B m cq] 25))) 2), pw_cell_below HBw.out (blk_cell (blk_drew (blk_new w (Obj.cells #[.int .i64 2, .int .i64 s, .int .i64 e, .int .i64 i, .int .i64 t, .int .i64 c, .slice A l.length cp, .slice B m cq] 25))) 3), pw_cell_below HBw.out (blk_cell (blk_drew (blk_new w (Obj.cells #[.int .i64 2, .int .i64 s, .int .i64 e, .int .i64 i, .int .i64 t, .int .i64 c, .slice A l.length cp, .slice B m cq] 25))) 4), pw_cell_below HBw.out (blk_cell (blk_drew (blk_new w (Obj.cells #[.int .i64 2, .int .i64 s, .int .i64 e, .int .i64 i, .int .i64 t, .int .i64 c, .slice A l.length cp, .slice B m cq] 25))) 5), pw_cell_below HBw.out (blk_cell (blk_drew (blk_new w (Obj.cells #[.int .i64 2, .int .i64 s, .int .i64 e, .int .i64 i, .int .i64 t, .int .i64 c, .slice A l.length cp, .slice B m cq] 25))) 6), pw_cell_below HBw.out (blk_cell (blk_drew (blk_new w (Obj.cells #[.int .i64 2, .int .i64 s, .int .i64 e, .int .i64 i, .int .i64 t, .int .i64 c, .slice A l.length cp, .slice B m cq] 25))) 7)⟩ (fun hHeld => ?_)
 clear hK K
 refine norm_ (a' := ?_) ?_ ?_
 rotate_left
 ·
  show Act.put _ (some 10) _ = _
  simp only [Act.put, sq1, sq2, sq3, i64_w, i32_w]
  rfl
 refine pure_ (i := 5) (N := some 5) (v := ?_) (a' := ?_) #[true, true, true, true, true, true, false, false, false, false] rfl rfl (by kernel_rfl) (fun _ _ _ h => h) (Or.inl ⟨by rfl, ?_⟩) ?_ ?_
 rotate_left
 ·
  intro w'
  go_simp
  with_reducible rfl
 rotate_left
 ·
  simp only [Act.put, sq1, sq2, sq3, i64_w, i32_w]
  rfl
 refine pure_ (i := 6) (N := some 11) (v := ?_) (a' := ?_) #[true, true, true, true, true, true, true, false, false, false] rfl rfl (by kernel_rfl) (fun _ _ _ h => h) (Or.inl ⟨by rfl, ?_⟩) ?_ ?_
 rotate_left
 ·
  intro w'
  go_simp
  with_reducible rfl
 rotate_left
 ·
  simp only [Act.put, sq1, sq2, sq3, i64_w, i32_w]
  rfl
 refine pure_ (i := 7) (N := some 12) (v := ?_) (a' := ?_) #[true, true, true, true, true, true, true, true, false, false] rfl rfl (by kernel_rfl) (fun _ _ _ h => h) (Or.inl ⟨by rfl, ?_⟩) ?_ ?_
 rotate_left
 ·
  intro w'
  go_simp
  with_reducible rfl
 rotate_left
 ·
  simp only [Act.put, sq1, sq2, sq3, i64_w, i32_w]
  rfl
 refine pure_ (i := 8) (N := some 3) (v := ?_) (a' := ?_) #[true, true, true, true, true, true, true, true, true, false] rfl rfl (by kernel_rfl) (fun _ _ _ h => h) (Or.inl ⟨by rfl, ?_⟩) ?_ ?_
 rotate_left
 ·
  intro w'
  go_simp
  with_reducible rfl
 rotate_left
 ·
  simp only [Act.put, sq1, sq2, sq3, i64_w, i32_w]
  rfl
 refine pure_ (i := 9) (N := some 4) (v := ?_) (a' := ?_) #[true, true, true, true, true, true, true, true, true, true] rfl rfl (by kernel_rfl) (fun _ _ _ h => h) (Or.inl ⟨by rfl, ?_⟩) ?_ ?_
 rotate_left
 ·
  intro w'
  go_simp
  with_reducible rfl
 rotate_left
 ·
  simp only [Act.put, sq1, sq2, sq3, i64_w, i32_w]
  rfl
 refine done_ (by kernel_rfl) ?_
 clear hHeld
 have HB := ak (below_step (below_drew1 (below_alloc (Below.refl w.heap.size w) (Obj.cells #[.int .i64 2, .int .i64 s, .int .i64 e, .int .i64 i, .int .i64 t, .int .i64 c, .slice A l.length cp, .slice B m cq] 25))) HBw.out)
 have y1 := pw_cell_below HBw.out (blk_cell (blk_drew (blk_new w (Obj.cells #[.int .i64 2, .int .i64 s, .int .i64 e, .int .i64 i, .int .i64 t, .int .i64 c, .slice A l.length cp, .slice B m cq] 25))) 1)
 have y2 := pw_cell_below HBw.out (blk_cell (blk_drew (blk_new w (Obj.cells #[.int .i64 2, .int .i64 s, .int .i64 e, .int .i64 i, .int .i64 t, .int .i64 c, .slice A l.length cp, .slice B m cq] 25))) 2)
 have hq := HQ.out
 clear HQ
 cases h0 : may2B i t c l m
 ·
  rw [h0, Bool.false_and] at hq
  subst hq
  have H0 := Lib.hid h0
  clear h0
  go_wp2_with fail
  refine (rule6.is HM.out.box (Kd.C_below HC.out HB.out) HM.out.x1 HM.out.x2 HM.out.x3 false H0.out).mono ?_
  rintro e1 w2 ⟨rfl, rfl⟩
  go_wp2_with fail
  go_ret
  exact ⟨rfl, HB.out⟩
 ·
  rw [h0, Bool.true_and] at hq
  have H0 := Lib.hid h0
  clear h0
  cases h1 : wi s 1 4611686018427387904
  ·
   rw [h1, Bool.false_and] at hq
   subst hq
   have H1 := Lib.hid h1
   clear h1
   go_wp2_with fail
   refine (rule6.is HM.out.box (Kd.C_below HC.out HB.out) HM.out.x1 HM.out.x2 HM.out.x3 true H0.out).mono ?_
   rintro e1 w2 ⟨rfl, rfl⟩
   go_wp2_with fail
   refine (item_within.is _ _ _ false _ H1.out).mono ?_
   rintro e1 w2 ⟨rfl, rfl⟩
   go_wp2_with fail
   go_ret
   exact ⟨rfl, HB.out⟩
  ·
   rw [h1, Bool.true_and] at hq
   have H1 := Lib.hid h1
   clear h1
   have H2 := Lib.hid hq
   clear hq
   go_wp2_with fail
   refine (rule6.is HM.out.box (Kd.C_below HC.out HB.out) HM.out.x1 HM.out.x2 HM.out.x3 true H0.out).mono ?_
   rintro e1 w2 ⟨rfl, rfl⟩
   go_wp2_with fail
   refine (item_within.is _ _ _ true _ H1.out).mono ?_
   rintro e1 w2 ⟨rfl, rfl⟩
   go_wp2_with fail
   refine (item_within.is _ _ _ q _ H2.out).mono ?_
   rintro e1 w2 ⟨rfl, rfl⟩
   go_wp2_with fail
   go_ret
   exact ⟨rfl, HB.out⟩
set_option maxRecDepth 100000 in
theorem may3 (hC : Kd.C (Kd.int .i64) w A l.length l) (q : Bool) (hq : (may3B i t c l m && (wi s 1 4611686018427387904 && wi e 0 4611686018427387904)) = q) :
  Calls Tryd.prog 30 #[.agg #[.int .i64 3, .int .i64 s, .int .i64 e, .int .i64 i, .int .i64 t, .int .i64 c, .slice A l.length cp, .slice B m cq]] w fun e' w' => e' = .returned (.bool q) ∧ Below w.heap.size w w' := by
 have HC := ak hC
 clear hC
 have HQ := Lib.hid hq
 clear hq
 go_enter Tryd.func30, Tryd.ntmps30
 go_wp2_with fail
 refine start_ (n := 10) (S := fun w' => w'.cell? ⟨w.heap.size, 0, none⟩ = some (.int .i64 3) ∧ w'.cell? ⟨w.heap.size, 1, none⟩ = some (.int .i64 s) ∧ w'.cell? ⟨w.heap.size, 2, none⟩ = some (.int .i64 e) ∧ w'.cell? ⟨w.heap.size, 3, none⟩ = some (.int .i64 i) ∧ w'.cell? ⟨w.heap.size, 4, none⟩ = some (.int .i64 t) ∧ w'.cell? ⟨w.heap.size, 5, none⟩ = some (.int .i64 c) ∧ w'.cell? ⟨w.heap.size, 6, none⟩ = some (.slice A l.length cp) ∧ w'.cell? ⟨w.heap.size, 7, none⟩ = some (.slice B m cq)) (ds := []) #[false, false, false, false, false, false, false, false, false, false] (by kernel_rfl) rfl rfl ⟨blk_cell (blk_drew (blk_new w (Obj.cells #[.int .i64 3, .int .i64 s, .int .i64 e, .int .i64 i, .int .i64 t, .int .i64 c, .slice A l.length cp, .slice B m cq] 25))) 0, blk_cell (blk_drew (blk_new w (Obj.cells #[.int .i64 3, .int .i64 s, .int .i64 e, .int .i64 i, .int .i64 t, .int .i64 c, .slice A l.length cp, .slice B m cq] 25))) 1, blk_cell (blk_drew (blk_new w (Obj.cells #[.int .i64 3, .int .i64 s, .int .i64 e, .int .i64 i, .int .i64 t, .int .i64 c, .slice A l.length cp, .slice B m cq] 25))) 2, blk_cell (blk_drew (blk_new w (Obj.cells #[.int .i64 3, .int .i64 s, .int .i64 e, .int .i64 i, .int .i64 t, .int .i64 c, .slice A l.length cp, .slice B m cq] 25))) 3, blk_cell (blk_drew (blk_new w (Obj.cells #[.int .i64 3, .int .i64 s, .int .i64 e, .int .i64 i, .int .i64 t, .int .i64 c, .slice A l.length cp, .slice B m cq] 25))) 4, blk_cell (blk_drew (blk_new w (Obj.cells #[.int .i64 3, .int .i64 s, .int .i64 e, .int .i64 i, .int .i64 t, .int .i64 c, .slice A l.length cp, .slice B m cq] 25))) 5, blk_cell (blk_drew (blk_new w (Obj.cells #[.int .i64 3, .int .i64 s, .int .i64 e, .int .i64 i, .int .i64 t, .int .i64 c, .slice A l.length cp, .slice B m cq] 25))) 6, blk_cell (blk_drew (blk_new w (Obj.cells #[.int .i64 3, .int .i64 s, .int .i64 e, .int .i64 i, .int .i64 t, .int .i64 c, .slice A l.length cp, .slice B m cq] 25))) 7⟩ (fun hHeld => ?_)
 refine pure_ (i := 2) (N := some 8) (v := ?_) (a' := ?_) #[false, false, true, false, false, false, false, false, false, false] rfl rfl (by kernel_rfl) (fun _ _ _ h => h) (Or.inl ⟨by rfl, ?_⟩) ?_ ?_
 rotate_left
 ·
  intro w'
  go_simp
  with_reducible rfl
 rotate_left
 ·
  simp only [Act.put, sq1, sq2, sq3, i64_w, i32_w]
  rfl
 refine take_ (i := 0) (N := some 6) (v := ?_) (a' := ?_) #[true, false, true, false, false, false, false, false, false, false] rfl rfl (by kernel_rfl) (fun _ _ _ h => h) (Or.inl ⟨by rfl, ?_⟩) hHeld ?_ ?_
 rotate_left
 ·
  rintro w' ⟨s0, s1, s2, s3, s4, s5, s6, s7⟩
  go_simp
  with_reducible rfl
 rotate_left
 ·
  simp only [Act.put, sq1, sq2, sq3, i64_w, i32_w]
  rfl
 refine take_ (i := 3) (N := some 9) (v := ?_) (a' := ?_) #[true, false, true, true, false, false, false, false, false, false] rfl rfl (by kernel_rfl) (fun _ _ _ h => h) (Or.inl ⟨by rfl, ?_⟩) hHeld ?_ ?_
 rotate_left
 ·
  rintro w' ⟨s0, s1, s2, s3, s4, s5, s6, s7⟩
  go_simp
  with_reducible rfl
 rotate_left
 ·
  simp only [Act.put, sq1, sq2, sq3, i64_w, i32_w]
  rfl
 refine one_ (i := 1) (N := some 7) #[true, true, true, true, false, false, false, false, false, false] rfl rfl (by kernel_rfl) (by decide) (fun K hK => ?_)
 refine goes_ Tryd.func53 (by kernel_rfl) rfl #[.agg #[.int .i64 3, .int .i64 s, .int .i64 e, .int .i64 i, .int .i64 t, .int .i64 c, .slice A l.length cp, .slice B m cq]] (by rfl) rfl rfl (by simp only [List.map_toArray, List.map_cons, List.map_nil]; rfl) ?_
 with_reducible refine (item_rules.is (3) s e i t c A l.length cp B m cq _).mono ?_
 rintro e0 w1 ⟨mb, b, g1, g2, g3, g4, rfl, hbw, hm⟩
 refine ⟨_, rfl, ?_⟩
 have HBw := ak hbw
 have HM := ak hm
 clear hbw hm
 refine hK.out _ _ ⟨pw_cell_below HBw.out (blk_cell (blk_drew (blk_new w (Obj.cells #[.int .i64 3, .int .i64 s, .int .i64 e, .int .i64 i, .int .i64 t, .int .i64 c, .slice A l.length cp, .slice B m cq] 25))) 0), pw_cell_below HBw.out (blk_cell (blk_drew (blk_new w (Obj.cells #[.int .i64 3, .int .i64 s, .int .i64 e, .int .i64 i, .int .i64 t, .int .i64 c, .slice A l.length cp, .slice B m cq] 25))) 1), pw_cell_below HBw.out (blk_cell (blk_drew (blk_new w (Obj.cells #[.int .i64 3, .int .i64 s, .int .i64 e, .int .i64 i, .int .i64 t, .int .i64 c, .slice A l.length cp, .slice B m cq] 25))) 2), pw_cell_below HBw.out (blk_cell (blk_drew (blk_new w (Obj.cells #[.int .i64 3, .int .i64 s, .int .i64 e, .int .i64 i, .int .i64 t, .int .i64 c, .slice A l.length cp, .slice B m cq] 25))) 3), pw_cell_below HBw.out (blk_cell (blk_drew (blk_new w (Obj.cells #[.int .i64 3, .int .i64 s, .int .i64 e, .int .i64 i, .int .i64 t, .int .i64 c, .slice A l.length cp, .slice B m cq] 25))) 4), pw_cell_below HBw.out (blk_cell (blk_drew (blk_new w (Obj.cells #[.int .i64 3, .int .i64 s, .int .i64 e, .int .i64 i, .int .i64 t, .int .i64 c, .slice A l.length cp, .slice B m cq] 25))) 5), pw_cell_below HBw.out (blk_cell (blk_drew (blk_new w (Obj.cells #[.int .i64 3, .int .i64 s, .int .i64 e, .int .i64 i, .int .i64 t, .int .i64 c, .slice A l.length cp, .slice B m cq] 25))) 6), pw_cell_below HBw.out (blk_cell (blk_drew (blk_new w (Obj.cells #[.int .i64 3, .int .i64 s, .int .i64 e, .int .i64 i, .int .i64 t, .int .i64 c, .slice A l.length cp, .slice B m cq] 25))) 7)⟩ (fun hHeld => ?_)
 clear hK K
 refine norm_ (a' := ?_) ?_ ?_
 rotate_left
 ·
  show Act.put _ (some 7) _ = _
  simp only [Act.put, sq1, sq2, sq3, i64_w, i32_w]
  rfl
 refine one_ (i := 4) (N := some 10) #[true, true, true, true, true, false, false, false, false, false] rfl rfl (by kernel_rfl) (by decide) (fun K hK => ?_)
 obtain ⟨v, hrun, hv⟩ := rule_look3 HM.out
 subst hv
 refine value_ (w1 := ?_) (v := ?_) (by rfl) rfl ?_ ?_
 rotate_left 2
 ·
  go_simp
  constructor
  ·
   rfl
  ·
   rfl
 clear hrun
 refine hK.out _ _ ⟨pw_cell_below HBw.out (blk_cell (blk_drew (blk_new w (Obj.cells #[.int .i64 3, .int .i64 s, .int .i64 e, .int .i64 i, .int .i64 t, .int .i64 c, .slice A l.length cp, .slice B m cq] 25))) 0), pw_cell_below HBw.out (blk_cell (blk_drew (blk_new w (Obj.cells #[.int .i64 3, .int .i64 s, .int .i64 e, .int .i64 i, .int .i64 t, .int .i64 c, .slice A l.length cp, .slice B m cq] 25))) 1), pw_cell_below HBw.out (blk_cell (blk_drew (blk_new w (Obj.cells #[.int .i64 3, .int .i64 s, .int .i64 e, .int .i64 i, .int .i64 t, .int .i64 c, .slice A l.length cp, .slice B m cq] 25))) 2), pw_cell_below HBw.out (blk_cell (blk_drew (blk_new w (Obj.cells #[.int .i64 3, .int .i64 s, .int .i64 e, .int .i64 i, .int .i64 t, .int .i64 c, .slice A l.length cp, .slice B m cq] 25))) 3), pw_cell_below HBw.out (blk_cell (blk_drew (blk_new w (Obj.cells #[.int .i64 3, .int .i64 s, .int .i64 e, .int .i64 i, .int .i64 t, .int .i64 c, .slice A l.length cp, .slice B m cq] 25))) 4), pw_cell_below HBw.out (blk_cell (blk_drew (blk_new w (Obj.cells #[.int .i64 3, .int .i64 s, .int .i64 e, .int .i64 i, .int .i64 t, .int .i64 c, .slice A l.length cp, .slice B m cq] 25))) 5), pw_cell_below HBw.out (blk_cell (blk_drew (blk_new w (Obj.cells #[.int .i64 3, .int .i64 s, .int .i64 e, .int .i64 i, .int .i64 t, .int .i64 c, .slice A l.length cp, .slice B m cq] 25))) 6), pw_cell_below HBw.out (blk_cell (blk_drew (blk_new w (Obj.cells #[.int .i64 3, .int .i64 s, .int .i64 e, .int .i64 i, .int .i64 t, .int .i64 c, .slice A l.length cp, .slice B m cq] 25))) 7)⟩ (fun hHeld => ?_)
 clear hK K
 refine norm_ (a' := ?_) ?_ ?_
 rotate_left
 ·
  show Act.put _ (some 10) _ = _
  simp only [Act.put, sq1, sq2, sq3, i64_w, i32_w]
  rfl
 refine pure_ (i := 5) (N := some 5) (v := ?_) (a' := ?_) #[true, true, true, true, true, true, false, false, false, false] rfl rfl (by kernel_rfl) (fun _ _ _ h => h) (Or.inl ⟨by rfl, ?_⟩) ?_ ?_
 rotate_left
 ·
  intro w'
  go_simp
  with_reducible rfl
 rotate_left
 ·
  simp only [Act.put, sq1, sq2, sq3, i64_w, i32_w]
  rfl
 refine pure_ (i := 6) (N := some 11) (v := ?_) (a' := ?_) #[true, true, true, true, true, true, true, false, false, false] rfl rfl (by kernel_rfl) (fun _ _ _ h => h) (Or.inl ⟨by rfl, ?_⟩) ?_ ?_
 rotate_left
 ·
  intro w'
  go_simp
  with_reducible rfl
 rotate_left
 ·
  simp only [Act.put, sq1, sq2, sq3, i64_w, i32_w]
  rfl
 refine pure_ (i := 7) (N := some 12) (v := ?_) (a' := ?_) #[true, true, true, true, true, true, true, true, false, false] rfl rfl (by kernel_rfl) (fun _ _ _ h => h) (Or.inl ⟨by rfl, ?_⟩) ?_ ?_
 rotate_left
 ·
  intro w'
  go_simp
  with_reducible rfl
 rotate_left
 ·
  simp only [Act.put, sq1, sq2, sq3, i64_w, i32_w]
  rfl
 refine pure_ (i := 8) (N := some 3) (v := ?_) (a' := ?_) #[true, true, true, true, true, true, true, true, true, false] rfl rfl (by kernel_rfl) (fun _ _ _ h => h) (Or.inl ⟨by rfl, ?_⟩) ?_ ?_
 rotate_left
 ·
  intro w'
  go_simp
  with_reducible rfl
 rotate_left
 ·
  simp only [Act.put, sq1, sq2, sq3, i64_w, i32_w]
  rfl
 refine pure_ (i := 9) (N := some 4) (v := ?_) (a' := ?_) #[true, true, true, true, true, true, true, true, true, true] rfl rfl (by kernel_rfl) (fun _ _ _ h => h) (Or.inl ⟨by rfl, ?_⟩) ?_ ?_
 rotate_left
 ·
  intro w'
  go_simp
  with_reducible rfl
 rotate_left
 ·
  simp only [Act.put, sq1, sq2, sq3, i64_w, i32_w]
  rfl
 refine done_ (by kernel_rfl) ?_
 clear hHeld
 have HB := ak (below_step (below_drew1 (below_alloc (Below.refl w.heap.size w) (Obj.cells #[.int .i64 3, .int .i64 s, .int .i64 e, .int .i64 i, .int .i64 t, .int .i64 c, .slice A l.length cp, .slice B m cq] 25))) HBw.out)
 have y1 := pw_cell_below HBw.out (blk_cell (blk_drew (blk_new w (Obj.cells #[.int .i64 3, .int .i64 s, .int .i64 e, .int .i64 i, .int .i64 t, .int .i64 c, .slice A l.length cp, .slice B m cq] 25))) 1)
 have y2 := pw_cell_below HBw.out (blk_cell (blk_drew (blk_new w (Obj.cells #[.int .i64 3, .int .i64 s, .int .i64 e, .int .i64 i, .int .i64 t, .int .i64 c, .slice A l.length cp, .slice B m cq] 25))) 2)
 have hq := HQ.out
 clear HQ
 cases h0 : may3B i t c l m
 ·
  rw [h0, Bool.false_and] at hq
  subst hq
  have H0 := Lib.hid h0
  clear h0
  go_wp2_with fail
  refine (rule7.is HM.out.box HM.out.x1 HM.out.x4 false H0.out).mono ?_
  rintro e1 w2 ⟨rfl, rfl⟩
  go_wp2_with fail
  go_ret
  exact ⟨rfl, HB.out⟩
 ·
  rw [h0, Bool.true_and] at hq
  have H0 := Lib.hid h0
  clear h0
  cases h1 : wi s 1 4611686018427387904
  ·
   rw [h1, Bool.false_and] at hq
   subst hq
   have H1 := Lib.hid h1
   clear h1
   go_wp2_with fail
   refine (rule7.is HM.out.box HM.out.x1 HM.out.x4 true H0.out).mono ?_
   rintro e1 w2 ⟨rfl, rfl⟩
   go_wp2_with fail
   refine (item_within.is _ _ _ false _ H1.out).mono ?_
   rintro e1 w2 ⟨rfl, rfl⟩
   go_wp2_with fail
   go_ret
   exact ⟨rfl, HB.out⟩
  ·
   rw [h1, Bool.true_and] at hq
   have H1 := Lib.hid h1
   clear h1
   have H2 := Lib.hid hq
   clear hq
   go_wp2_with fail
   refine (rule7.is HM.out.box HM.out.x1 HM.out.x4 true H0.out).mono ?_
   rintro e1 w2 ⟨rfl, rfl⟩
   go_wp2_with fail
   refine (item_within.is _ _ _ true _ H1.out).mono ?_
   rintro e1 w2 ⟨rfl, rfl⟩
   go_wp2_with fail
   refine (item_within.is _ _ _ q _ H2.out).mono ?_
   rintro e1 w2 ⟨rfl, rfl⟩
   go_wp2_with fail
   go_ret
   exact ⟨rfl, HB.out⟩
set_option maxRecDepth 100000 in
theorem may4 (hC : Kd.C (Kd.int .i64) w A l.length l) (q : Bool) (hq : (may4B i t c l m && (wi s 1 4611686018427387904 && wi e 0 4611686018427387904)) = q) :
  Calls Tryd.prog 30 #[.agg #[.int .i64 4, .int .i64 s, .int .i64 e, .int .i64 i, .int .i64 t, .int .i64 c, .slice A l.length cp, .slice B m cq]] w fun e' w' => e' = .returned (.bool q) ∧ Below w.heap.size w w' := by
 have HC := ak hC
 clear hC
 have HQ := Lib.hid hq
 clear hq
 go_enter Tryd.func30, Tryd.ntmps30
 go_wp2_with fail
 refine start_ (n := 10) (S := fun w' => w'.cell? ⟨w.heap.size, 0, none⟩ = some (.int .i64 4) ∧ w'.cell? ⟨w.heap.size, 1, none⟩ = some (.int .i64 s) ∧ w'.cell? ⟨w.heap.size, 2, none⟩ = some (.int .i64 e) ∧ w'.cell? ⟨w.heap.size, 3, none⟩ = some (.int .i64 i) ∧ w'.cell? ⟨w.heap.size, 4, none⟩ = some (.int .i64 t) ∧ w'.cell? ⟨w.heap.size, 5, none⟩ = some (.int .i64 c) ∧ w'.cell? ⟨w.heap.size, 6, none⟩ = some (.slice A l.length cp) ∧ w'.cell? ⟨w.heap.size, 7, none⟩ = some (.slice B m cq)) (ds := []) #[false, false, false, false, false, false, false, false, false, false] (by kernel_rfl) rfl rfl ⟨blk_cell (blk_drew (blk_new w (Obj.cells #[.int .i64 4, .int .i64 s, .int .i64 e, .int .i64 i, .int .i64 t, .int .i64 c, .slice A l.length cp, .slice B m cq] 25))) 0, blk_cell (blk_drew (blk_new w (Obj.cells #[.int .i64 4, .int .i64 s, .int .i64 e, .int .i64 i, .int .i64 t, .int .i64 c, .slice A l.length cp, .slice B m cq] 25))) 1, blk_cell (blk_drew (blk_new w (Obj.cells #[.int .i64 4, .int .i64 s, .int .i64 e, .int .i64 i, .int .i64 t, .int .i64 c, .slice A l.length cp, .slice B m cq] 25))) 2, blk_cell (blk_drew (blk_new w (Obj.cells #[.int .i64 4, .int .i64 s, .int .i64 e, .int .i64 i, .int .i64 t, .int .i64 c, .slice A l.length cp, .slice B m cq] 25))) 3, blk_cell (blk_drew (blk_new w (Obj.cells #[.int .i64 4, .int .i64 s, .int .i64 e, .int .i64 i, .int .i64 t, .int .i64 c, .slice A l.length cp, .slice B m cq] 25))) 4, blk_cell (blk_drew (blk_new w (Obj.cells #[.int .i64 4, .int .i64 s, .int .i64 e, .int .i64 i, .int .i64 t, .int .i64 c, .slice A l.length cp, .slice B m cq] 25))) 5, blk_cell (blk_drew (blk_new w (Obj.cells #[.int .i64 4, .int .i64 s, .int .i64 e, .int .i64 i, .int .i64 t, .int .i64 c, .slice A l.length cp, .slice B m cq] 25))) 6, blk_cell (blk_drew (blk_new w (Obj.cells #[.int .i64 4, .int .i64 s, .int .i64 e, .int .i64 i, .int .i64 t, .int .i64 c, .slice A l.length cp, .slice B m cq] 25))) 7⟩ (fun hHeld => ?_)
 refine pure_ (i := 2) (N := some 8) (v := ?_) (a' := ?_) #[false, false, true, false, false, false, false, false, false, false] rfl rfl (by kernel_rfl) (fun _ _ _ h => h) (Or.inl ⟨by rfl, ?_⟩) ?_ ?_
 rotate_left
 ·
  intro w'
  go_simp
  with_reducible rfl
 rotate_left
 ·
  simp only [Act.put, sq1, sq2, sq3, i64_w, i32_w]
  rfl
 refine take_ (i := 0) (N := some 6) (v := ?_) (a' := ?_) #[true, false, true, false, false, false, false, false, false, false] rfl rfl (by kernel_rfl) (fun _ _ _ h => h) (Or.inl ⟨by rfl, ?_⟩) hHeld ?_ ?_
 rotate_left
 ·
  rintro w' ⟨s0, s1, s2, s3, s4, s5, s6, s7⟩
  go_simp
  with_reducible rfl
 rotate_left
 ·
  simp only [Act.put, sq1, sq2, sq3, i64_w, i32_w]
  rfl
 refine take_ (i := 3) (N := some 9) (v := ?_) (a' := ?_) #[true, false, true, true, false, false, false, false, false, false] rfl rfl (by kernel_rfl) (fun _ _ _ h => h) (Or.inl ⟨by rfl, ?_⟩) hHeld ?_ ?_
 rotate_left
 ·
  rintro w' ⟨s0, s1, s2, s3, s4, s5, s6, s7⟩
  go_simp
  with_reducible rfl
 rotate_left
 ·
  simp only [Act.put, sq1, sq2, sq3, i64_w, i32_w]
  rfl
 refine one_ (i := 1) (N := some 7) #[true, true, true, true, false, false, false, false, false, false] rfl rfl (by kernel_rfl) (by decide) (fun K hK => ?_)
 refine goes_ Tryd.func53 (by kernel_rfl) rfl #[.agg #[.int .i64 4, .int .i64 s, .int .i64 e, .int .i64 i, .int .i64 t, .int .i64 c, .slice A l.length cp, .slice B m cq]] (by rfl) rfl rfl (by simp only [List.map_toArray, List.map_cons, List.map_nil]; rfl) ?_
 with_reducible refine (item_rules.is (4) s e i t c A l.length cp B m cq _).mono ?_
 rintro e0 w1 ⟨mb, b, g1, g2, g3, g4, rfl, hbw, hm⟩
 refine ⟨_, rfl, ?_⟩
 have HBw := ak hbw
 have HM := ak hm
 clear hbw hm
 refine hK.out _ _ ⟨pw_cell_below HBw.out (blk_cell (blk_drew (blk_new w (Obj.cells #[.int .i64 4, .int .i64 s, .int .i64 e, .int .i64 i, .int .i64 t, .int .i64 c, .slice A l.length cp, .slice B m cq] 25))) 0), pw_cell_below HBw.out (blk_cell (blk_drew (blk_new w (Obj.cells #[.int .i64 4, .int .i64 s, .int .i64 e, .int .i64 i, .int .i64 t, .int .i64 c, .slice A l.length cp, .slice B m cq] 25))) 1), pw_cell_below HBw.out (blk_cell (blk_drew (blk_new w (Obj.cells #[.int .i64 4, .int .i64 s, .int .i64 e, .int .i64 i, .int .i64 t, .int .i64 c, .slice A l.length cp, .slice B m cq] 25))) 2), pw_cell_below HBw.out (blk_cell (blk_drew (blk_new w (Obj.cells #[.int .i64 4, .int .i64 s, .int .i64 e, .int .i64 i, .int .i64 t, .int .i64 c, .slice A l.length cp, .slice B m cq] 25))) 3), pw_cell_below HBw.out (blk_cell (blk_drew (blk_new w (Obj.cells #[.int .i64 4, .int .i64 s, .int .i64 e, .int .i64 i, .int .i64 t, .int .i64 c, .slice A l.length cp, .slice B m cq] 25))) 4), pw_cell_below HBw.out (blk_cell (blk_drew (blk_new w (Obj.cells #[.int .i64 4, .int .i64 s, .int .i64 e, .int .i64 i, .int .i64 t, .int .i64 c, .slice A l.length cp, .slice B m cq] 25))) 5), pw_cell_below HBw.out (blk_cell (blk_drew (blk_new w (Obj.cells #[.int .i64 4, .int .i64 s, .int .i64 e, .int .i64 i, .int .i64 t, .int .i64 c, .slice A l.length cp, .slice B m cq] 25))) 6), pw_cell_below HBw.out (blk_cell (blk_drew (blk_new w (Obj.cells #[.int .i64 4, .int .i64 s, .int .i64 e, .int .i64 i, .int .i64 t, .int .i64 c, .slice A l.length cp, .slice B m cq] 25))) 7)⟩ (fun hHeld => ?_)
 clear hK K
 refine norm_ (a' := ?_) ?_ ?_
 rotate_left
 ·
  show Act.put _ (some 7) _ = _
  simp only [Act.put, sq1, sq2, sq3, i64_w, i32_w]
  rfl
 refine one_ (i := 4) (N := some 10) #[true, true, true, true, true, false, false, false, false, false] rfl rfl (by kernel_rfl) (by decide) (fun K hK => ?_)
 obtain ⟨v, hrun, hv⟩ := rule_look4 HM.out
 subst hv
 refine value_ (w1 := ?_) (v := ?_) (by rfl) rfl ?_ ?_
 rotate_left 2
 ·
  go_simp
  constructor
  ·
   rfl
  ·
   rfl
 clear hrun
 refine hK.out _ _ ⟨pw_cell_below HBw.out (blk_cell (blk_drew (blk_new w (Obj.cells #[.int .i64 4, .int .i64 s, .int .i64 e, .int .i64 i, .int .i64 t, .int .i64 c, .slice A l.length cp, .slice B m cq] 25))) 0), pw_cell_below HBw.out (blk_cell (blk_drew (blk_new w (Obj.cells #[.int .i64 4, .int .i64 s, .int .i64 e, .int .i64 i, .int .i64 t, .int .i64 c, .slice A l.length cp, .slice B m cq] 25))) 1), pw_cell_below HBw.out (blk_cell (blk_drew (blk_new w (Obj.cells #[.int .i64 4, .int .i64 s, .int .i64 e, .int .i64 i, .int .i64 t, .int .i64 c, .slice A l.length cp, .slice B m cq] 25))) 2), pw_cell_below HBw.out (blk_cell (blk_drew (blk_new w (Obj.cells #[.int .i64 4, .int .i64 s, .int .i64 e, .int .i64 i, .int .i64 t, .int .i64 c, .slice A l.length cp, .slice B m cq] 25))) 3), pw_cell_below HBw.out (blk_cell (blk_drew (blk_new w (Obj.cells #[.int .i64 4, .int .i64 s, .int .i64 e, .int .i64 i, .int .i64 t, .int .i64 c, .slice A l.length cp, .slice B m cq] 25))) 4), pw_cell_below HBw.out (blk_cell (blk_drew (blk_new w (Obj.cells #[.int .i64 4, .int .i64 s, .int .i64 e, .int .i64 i, .int .i64 t, .int .i64 c, .slice A l.length cp, .slice B m cq] 25))) 5), pw_cell_below HBw.out (blk_cell (blk_drew (blk_new w (Obj.cells #[.int .i64 4, .int .i64 s, .int .i64 e, .int .i64 i, .int .i64 t, .int .i64 c, .slice A l.length cp, .slice B m cq] 25))) 6), pw_cell_below HBw.out (blk_cell (blk_drew (blk_new w (Obj.cells #[.int .i64 4, .int .i64 s, .int .i64 e, .int .i64 i, .int .i64 t, .int .i64 c, .slice A l.length cp, .slice B m cq] 25))) 7)⟩ (fun hHeld => ?_)
 clear hK K
 refine norm_ (a' := ?_) ?_ ?_
 rotate_left
 ·
  show Act.put _ (some 10) _ = _
  simp only [Act.put, sq1, sq2, sq3, i64_w, i32_w]
  rfl
 refine pure_ (i := 5) (N := some 5) (v := ?_) (a' := ?_) #[true, true, true, true, true, true, false, false, false, false] rfl rfl (by kernel_rfl) (fun _ _ _ h => h) (Or.inl ⟨by rfl, ?_⟩) ?_ ?_
 rotate_left
 ·
  intro w'
  go_simp
  with_reducible rfl
 rotate_left
 ·
  simp only [Act.put, sq1, sq2, sq3, i64_w, i32_w]
  rfl
 refine pure_ (i := 6) (N := some 11) (v := ?_) (a' := ?_) #[true, true, true, true, true, true, true, false, false, false] rfl rfl (by kernel_rfl) (fun _ _ _ h => h) (Or.inl ⟨by rfl, ?_⟩) ?_ ?_
 rotate_left
 ·
  intro w'
  go_simp
  with_reducible rfl
 rotate_left
 ·
  simp only [Act.put, sq1, sq2, sq3, i64_w, i32_w]
  rfl
 refine pure_ (i := 7) (N := some 12) (v := ?_) (a' := ?_) #[true, true, true, true, true, true, true, true, false, false] rfl rfl (by kernel_rfl) (fun _ _ _ h => h) (Or.inl ⟨by rfl, ?_⟩) ?_ ?_
 rotate_left
 ·
  intro w'
  go_simp
  with_reducible rfl
 rotate_left
 ·
  simp only [Act.put, sq1, sq2, sq3, i64_w, i32_w]
  rfl
 refine pure_ (i := 8) (N := some 3) (v := ?_) (a' := ?_) #[true, true, true, true, true, true, true, true, true, false] rfl rfl (by kernel_rfl) (fun _ _ _ h => h) (Or.inl ⟨by rfl, ?_⟩) ?_ ?_
 rotate_left
 ·
  intro w'
  go_simp
  with_reducible rfl
 rotate_left
 ·
  simp only [Act.put, sq1, sq2, sq3, i64_w, i32_w]
  rfl
 refine pure_ (i := 9) (N := some 4) (v := ?_) (a' := ?_) #[true, true, true, true, true, true, true, true, true, true] rfl rfl (by kernel_rfl) (fun _ _ _ h => h) (Or.inl ⟨by rfl, ?_⟩) ?_ ?_
 rotate_left
 ·
  intro w'
  go_simp
  with_reducible rfl
 rotate_left
 ·
  simp only [Act.put, sq1, sq2, sq3, i64_w, i32_w]
  rfl
 refine done_ (by kernel_rfl) ?_
 clear hHeld
 have HB := ak (below_step (below_drew1 (below_alloc (Below.refl w.heap.size w) (Obj.cells #[.int .i64 4, .int .i64 s, .int .i64 e, .int .i64 i, .int .i64 t, .int .i64 c, .slice A l.length cp, .slice B m cq] 25))) HBw.out)
 have y1 := pw_cell_below HBw.out (blk_cell (blk_drew (blk_new w (Obj.cells #[.int .i64 4, .int .i64 s, .int .i64 e, .int .i64 i, .int .i64 t, .int .i64 c, .slice A l.length cp, .slice B m cq] 25))) 1)
 have y2 := pw_cell_below HBw.out (blk_cell (blk_drew (blk_new w (Obj.cells #[.int .i64 4, .int .i64 s, .int .i64 e, .int .i64 i, .int .i64 t, .int .i64 c, .slice A l.length cp, .slice B m cq] 25))) 2)
 have hq := HQ.out
 clear HQ
 cases h0 : may4B i t c l m
 ·
  rw [h0, Bool.false_and] at hq
  subst hq
  have H0 := Lib.hid h0
  clear h0
  go_wp2_with fail
  refine (rule8.is HM.out.box HM.out.x1 HM.out.x2 HM.out.x4 false H0.out).mono ?_
  rintro e1 w2 ⟨rfl, rfl⟩
  go_wp2_with fail
  go_ret
  exact ⟨rfl, HB.out⟩
 ·
  rw [h0, Bool.true_and] at hq
  have H0 := Lib.hid h0
  clear h0
  cases h1 : wi s 1 4611686018427387904
  ·
   rw [h1, Bool.false_and] at hq
   subst hq
   have H1 := Lib.hid h1
   clear h1
   go_wp2_with fail
   refine (rule8.is HM.out.box HM.out.x1 HM.out.x2 HM.out.x4 true H0.out).mono ?_
   rintro e1 w2 ⟨rfl, rfl⟩
   go_wp2_with fail
   refine (item_within.is _ _ _ false _ H1.out).mono ?_
   rintro e1 w2 ⟨rfl, rfl⟩
   go_wp2_with fail
   go_ret
   exact ⟨rfl, HB.out⟩
  ·
   rw [h1, Bool.true_and] at hq
   have H1 := Lib.hid h1
   clear h1
   have H2 := Lib.hid hq
   clear hq
   go_wp2_with fail
   refine (rule8.is HM.out.box HM.out.x1 HM.out.x2 HM.out.x4 true H0.out).mono ?_
   rintro e1 w2 ⟨rfl, rfl⟩
   go_wp2_with fail
   refine (item_within.is _ _ _ true _ H1.out).mono ?_
   rintro e1 w2 ⟨rfl, rfl⟩
   go_wp2_with fail
   refine (item_within.is _ _ _ q _ H2.out).mono ?_
   rintro e1 w2 ⟨rfl, rfl⟩
   go_wp2_with fail
   go_ret
   exact ⟨rfl, HB.out⟩
set_option maxRecDepth 100000 in
theorem may5 (hC : Kd.C (Kd.int .i64) w A l.length l) (q : Bool) (hq : (may5B i t c l m && (wi s 1 4611686018427387904 && wi e 0 4611686018427387904)) = q) :
  Calls Tryd.prog 30 #[.agg #[.int .i64 5, .int .i64 s, .int .i64 e, .int .i64 i, .int .i64 t, .int .i64 c, .slice A l.length cp, .slice B m cq]] w fun e' w' => e' = .returned (.bool q) ∧ Below w.heap.size w w' := by
 have HC := ak hC
 clear hC
 have HQ := Lib.hid hq
 clear hq
 go_enter Tryd.func30, Tryd.ntmps30
 go_wp2_with fail
 refine start_ (n := 10) (S := fun w' => w'.cell? ⟨w.heap.size, 0, none⟩ = some (.int .i64 5) ∧ w'.cell? ⟨w.heap.size, 1, none⟩ = some (.int .i64 s) ∧ w'.cell? ⟨w.heap.size, 2, none⟩ = some (.int .i64 e) ∧ w'.cell? ⟨w.heap.size, 3, none⟩ = some (.int .i64 i) ∧ w'.cell? ⟨w.heap.size, 4, none⟩ = some (.int .i64 t) ∧ w'.cell? ⟨w.heap.size, 5, none⟩ = some (.int .i64 c) ∧ w'.cell? ⟨w.heap.size, 6, none⟩ = some (.slice A l.length cp) ∧ w'.cell? ⟨w.heap.size, 7, none⟩ = some (.slice B m cq)) (ds := []) #[false, false, false, false, false, false, false, false, false, false] (by kernel_rfl) rfl rfl ⟨blk_cell (blk_drew (blk_new w (Obj.cells #[.int .i64 5, .int .i64 s, .int .i64 e, .int .i64 i, .int .i64 t, .int .i64 c, .slice A l.length cp, .slice B m cq] 25))) 0, blk_cell (blk_drew (blk_new w (Obj.cells #[.int .i64 5, .int .i64 s, .int .i64 e, .int .i64 i, .int .i64 t, .int .i64 c, .slice A l.length cp, .slice B m cq] 25))) 1, blk_cell (blk_drew (blk_new w (Obj.cells #[.int .i64 5, .int .i64 s, .int .i64 e, .int .i64 i, .int .i64 t, .int .i64 c, .slice A l.length cp, .slice B m cq] 25))) 2, blk_cell (blk_drew (blk_new w (Obj.cells #[.int .i64 5, .int .i64 s, .int .i64 e, .int .i64 i, .int .i64 t, .int .i64 c, .slice A l.length cp, .slice B m cq] 25))) 3, blk_cell (blk_drew (blk_new w (Obj.cells #[.int .i64 5, .int .i64 s, .int .i64 e, .int .i64 i, .int .i64 t, .int .i64 c, .slice A l.length cp, .slice B m cq] 25))) 4, blk_cell (blk_drew (blk_new w (Obj.cells #[.int .i64 5, .int .i64 s, .int .i64 e, .int .i64 i, .int .i64 t, .int .i64 c, .slice A l.length cp, .slice B m cq] 25))) 5, blk_cell (blk_drew (blk_new w (Obj.cells #[.int .i64 5, .int .i64 s, .int .i64 e, .int .i64 i, .int .i64 t, .int .i64 c, .slice A l.length cp, .slice B m cq] 25))) 6, blk_cell (blk_drew (blk_new w (Obj.cells #[.int .i64 5, .int .i64 s, .int .i64 e, .int .i64 i, .int .i64 t, .int .i64 c, .slice A l.length cp, .slice B m cq] 25))) 7⟩ (fun hHeld => ?_)
 refine pure_ (i := 2) (N := some 8) (v := ?_) (a' := ?_) #[false, false, true, false, false, false, false, false, false, false] rfl rfl (by kernel_rfl) (fun _ _ _ h => h) (Or.inl ⟨by rfl, ?_⟩) ?_ ?_
 rotate_left
 ·
  intro w'
  go_simp
  with_reducible rfl
 rotate_left
 ·
  simp only [Act.put, sq1, sq2, sq3, i64_w, i32_w]
  rfl
 refine take_ (i := 0) (N := some 6) (v := ?_) (a' := ?_) #[true, false, true, false, false, false, false, false, false, false] rfl rfl (by kernel_rfl) (fun _ _ _ h => h) (Or.inl ⟨by rfl, ?_⟩) hHeld ?_ ?_
 rotate_left
 ·
  rintro w' ⟨s0, s1, s2, s3, s4, s5, s6, s7⟩
  go_simp
  with_reducible rfl
 rotate_left
 ·
  simp only [Act.put, sq1, sq2, sq3, i64_w, i32_w]
  rfl
 refine take_ (i := 3) (N := some 9) (v := ?_) (a' := ?_) #[true, false, true, true, false, false, false, false, false, false] rfl rfl (by kernel_rfl) (fun _ _ _ h => h) (Or.inl ⟨by rfl, ?_⟩) hHeld ?_ ?_
 rotate_left
 ·
  rintro w' ⟨s0, s1, s2, s3, s4, s5, s6, s7⟩
  go_simp
  with_reducible rfl
 rotate_left
 ·
  simp only [Act.put, sq1, sq2, sq3, i64_w, i32_w]
  rfl
 refine one_ (i := 1) (N := some 7) #[true, true, true, true, false, false, false, false, false, false] rfl rfl (by kernel_rfl) (by decide) (fun K hK => ?_)
 refine goes_ Tryd.func53 (by kernel_rfl) rfl #[.agg #[.int .i64 5, .int .i64 s, .int .i64 e, .int .i64 i, .int .i64 t, .int .i64 c, .slice A l.length cp, .slice B m cq]] (by rfl) rfl rfl (by simp only [List.map_toArray, List.map_cons, List.map_nil]; rfl) ?_
 with_reducible refine (item_rules.is (5) s e i t c A l.length cp B m cq _).mono ?_
 rintro e0 w1 ⟨mb, b, g1, g2, g3, g4, rfl, hbw, hm⟩
 refine ⟨_, rfl, ?_⟩
 have HBw := ak hbw
 have HM := ak hm
 clear hbw hm
 refine hK.out _ _ ⟨pw_cell_below HBw.out (blk_cell (blk_drew (blk_new w (Obj.cells #[.int .i64 5, .int .i64 s, .int .i64 e, .int .i64 i, .int .i64 t, .int .i64 c, .slice A l.length cp, .slice B m cq] 25))) 0), pw_cell_below HBw.out (blk_cell (blk_drew (blk_new w (Obj.cells #[.int .i64 5, .int .i64 s, .int .i64 e, .int .i64 i, .int .i64 t, .int .i64 c, .slice A l.length cp, .slice B m cq] 25))) 1), pw_cell_below HBw.out (blk_cell (blk_drew (blk_new w (Obj.cells #[.int .i64 5, .int .i64 s, .int .i64 e, .int .i64 i, .int .i64 t, .int .i64 c, .slice A l.length cp, .slice B m cq] 25))) 2), pw_cell_below HBw.out (blk_cell (blk_drew (blk_new w (Obj.cells #[.int .i64 5, .int .i64 s, .int .i64 e, .int .i64 i, .int .i64 t, .int .i64 c, .slice A l.length cp, .slice B m cq] 25))) 3), pw_cell_below HBw.out (blk_cell (blk_drew (blk_new w (Obj.cells #[.int .i64 5, .int .i64 s, .int .i64 e, .int .i64 i, .int .i64 t, .int .i64 c, .slice A l.length cp, .slice B m cq] 25))) 4), pw_cell_below HBw.out (blk_cell (blk_drew (blk_new w (Obj.cells #[.int .i64 5, .int .i64 s, .int .i64 e, .int .i64 i, .int .i64 t, .int .i64 c, .slice A l.length cp, .slice B m cq] 25))) 5), pw_cell_below HBw.out (blk_cell (blk_drew (blk_new w (Obj.cells #[.int .i64 5, .int .i64 s, .int .i64 e, .int .i64 i, .int .i64 t, .int .i64 c, .slice A l.length cp, .slice B m cq] 25))) 6), pw_cell_below HBw.out (blk_cell (blk_drew (blk_new w (Obj.cells #[.int .i64 5, .int .i64 s, .int .i64 e, .int .i64 i, .int .i64 t, .int .i64 c, .slice A l.length cp, .slice B m cq] 25))) 7)⟩ (fun hHeld => ?_)
 clear hK K
 refine norm_ (a' := ?_) ?_ ?_
 rotate_left
 ·
  show Act.put _ (some 7) _ = _
  simp only [Act.put, sq1, sq2, sq3, i64_w, i32_w]
  rfl
 refine one_ (i := 4) (N := some 10) #[true, true, true, true, true, false, false, false, false, false] rfl rfl (by kernel_rfl) (by decide) (fun K hK => ?_)
 obtain ⟨v, hrun, hv⟩ := rule_look5 HM.out
 subst hv
 refine value_ (w1 := ?_) (v := ?_) (by rfl) rfl ?_ ?_
 rotate_left 2
 ·
  go_simp
  constructor
  ·
   rfl
  ·
   rfl
 clear hrun
 refine hK.out _ _ ⟨pw_cell_below HBw.out (blk_cell (blk_drew (blk_new w (Obj.cells #[.int .i64 5, .int .i64 s, .int .i64 e, .int .i64 i, .int .i64 t, .int .i64 c, .slice A l.length cp, .slice B m cq] 25))) 0), pw_cell_below HBw.out (blk_cell (blk_drew (blk_new w (Obj.cells #[.int .i64 5, .int .i64 s, .int .i64 e, .int .i64 i, .int .i64 t, .int .i64 c, .slice A l.length cp, .slice B m cq] 25))) 1), pw_cell_below HBw.out (blk_cell (blk_drew (blk_new w (Obj.cells #[.int .i64 5, .int .i64 s, .int .i64 e, .int .i64 i, .int .i64 t, .int .i64 c, .slice A l.length cp, .slice B m cq] 25))) 2), pw_cell_below HBw.out (blk_cell (blk_drew (blk_new w (Obj.cells #[.int .i64 5, .int .i64 s, .int .i64 e, .int .i64 i, .int .i64 t, .int .i64 c, .slice A l.length cp, .slice B m cq] 25))) 3), pw_cell_below HBw.out (blk_cell (blk_drew (blk_new w (Obj.cells #[.int .i64 5, .int .i64 s, .int .i64 e, .int .i64 i, .int .i64 t, .int .i64 c, .slice A l.length cp, .slice B m cq] 25))) 4), pw_cell_below HBw.out (blk_cell (blk_drew (blk_new w (Obj.cells #[.int .i64 5, .int .i64 s, .int .i64 e, .int .i64 i, .int .i64 t, .int .i64 c, .slice A l.length cp, .slice B m cq] 25))) 5), pw_cell_below HBw.out (blk_cell (blk_drew (blk_new w (Obj.cells #[.int .i64 5, .int .i64 s, .int .i64 e, .int .i64 i, .int .i64 t, .int .i64 c, .slice A l.length cp, .slice B m cq] 25))) 6), pw_cell_below HBw.out (blk_cell (blk_drew (blk_new w (Obj.cells #[.int .i64 5, .int .i64 s, .int .i64 e, .int .i64 i, .int .i64 t, .int .i64 c, .slice A l.length cp, .slice B m cq] 25))) 7)⟩ (fun hHeld => ?_)
 clear hK K
 refine norm_ (a' := ?_) ?_ ?_
 rotate_left
 ·
  show Act.put _ (some 10) _ = _
  simp only [Act.put, sq1, sq2, sq3, i64_w, i32_w]
  rfl
 refine pure_ (i := 5) (N := some 5) (v := ?_) (a' := ?_) #[true, true, true, true, true, true, false, false, false, false] rfl rfl (by kernel_rfl) (fun _ _ _ h => h) (Or.inl ⟨by rfl, ?_⟩) ?_ ?_
 rotate_left
 ·
  intro w'
  go_simp
  with_reducible rfl
 rotate_left
 ·
  simp only [Act.put, sq1, sq2, sq3, i64_w, i32_w]
  rfl
 refine pure_ (i := 6) (N := some 11) (v := ?_) (a' := ?_) #[true, true, true, true, true, true, true, false, false, false] rfl rfl (by kernel_rfl) (fun _ _ _ h => h) (Or.inl ⟨by rfl, ?_⟩) ?_ ?_
 rotate_left
 ·
  intro w'
  go_simp
  with_reducible rfl
 rotate_left
 ·
  simp only [Act.put, sq1, sq2, sq3, i64_w, i32_w]
  rfl
 refine pure_ (i := 7) (N := some 12) (v := ?_) (a' := ?_) #[true, true, true, true, true, true, true, true, false, false] rfl rfl (by kernel_rfl) (fun _ _ _ h => h) (Or.inl ⟨by rfl, ?_⟩) ?_ ?_
 rotate_left
 ·
  intro w'
  go_simp
  with_reducible rfl
 rotate_left
 ·
  simp only [Act.put, sq1, sq2, sq3, i64_w, i32_w]
  rfl
 refine pure_ (i := 8) (N := some 3) (v := ?_) (a' := ?_) #[true, true, true, true, true, true, true, true, true, false] rfl rfl (by kernel_rfl) (fun _ _ _ h => h) (Or.inl ⟨by rfl, ?_⟩) ?_ ?_
 rotate_left
 ·
  intro w'
  go_simp
  with_reducible rfl
 rotate_left
 ·
  simp only [Act.put, sq1, sq2, sq3, i64_w, i32_w]
  rfl
 refine pure_ (i := 9) (N := some 4) (v := ?_) (a' := ?_) #[true, true, true, true, true, true, true, true, true, true] rfl rfl (by kernel_rfl) (fun _ _ _ h => h) (Or.inl ⟨by rfl, ?_⟩) ?_ ?_
 rotate_left
 ·
  intro w'
  go_simp
  with_reducible rfl
 rotate_left
 ·
  simp only [Act.put, sq1, sq2, sq3, i64_w, i32_w]
  rfl
 refine done_ (by kernel_rfl) ?_
 clear hHeld
 have HB := ak (below_step (below_drew1 (below_alloc (Below.refl w.heap.size w) (Obj.cells #[.int .i64 5, .int .i64 s, .int .i64 e, .int .i64 i, .int .i64 t, .int .i64 c, .slice A l.length cp, .slice B m cq] 25))) HBw.out)
 have y1 := pw_cell_below HBw.out (blk_cell (blk_drew (blk_new w (Obj.cells #[.int .i64 5, .int .i64 s, .int .i64 e, .int .i64 i, .int .i64 t, .int .i64 c, .slice A l.length cp, .slice B m cq] 25))) 1)
 have y2 := pw_cell_below HBw.out (blk_cell (blk_drew (blk_new w (Obj.cells #[.int .i64 5, .int .i64 s, .int .i64 e, .int .i64 i, .int .i64 t, .int .i64 c, .slice A l.length cp, .slice B m cq] 25))) 2)
 have hq := HQ.out
 clear HQ
 cases h0 : may5B i t c l m
 ·
  rw [h0, Bool.false_and] at hq
  subst hq
  have H0 := Lib.hid h0
  clear h0
  go_wp2_with fail
  refine (rule9.is HM.out.box HM.out.x1 HM.out.x4 false H0.out).mono ?_
  rintro e1 w2 ⟨rfl, rfl⟩
  go_wp2_with fail
  go_ret
  exact ⟨rfl, HB.out⟩
 ·
  rw [h0, Bool.true_and] at hq
  have H0 := Lib.hid h0
  clear h0
  cases h1 : wi s 1 4611686018427387904
  ·
   rw [h1, Bool.false_and] at hq
   subst hq
   have H1 := Lib.hid h1
   clear h1
   go_wp2_with fail
   refine (rule9.is HM.out.box HM.out.x1 HM.out.x4 true H0.out).mono ?_
   rintro e1 w2 ⟨rfl, rfl⟩
   go_wp2_with fail
   refine (item_within.is _ _ _ false _ H1.out).mono ?_
   rintro e1 w2 ⟨rfl, rfl⟩
   go_wp2_with fail
   go_ret
   exact ⟨rfl, HB.out⟩
  ·
   rw [h1, Bool.true_and] at hq
   have H1 := Lib.hid h1
   clear h1
   have H2 := Lib.hid hq
   clear hq
   go_wp2_with fail
   refine (rule9.is HM.out.box HM.out.x1 HM.out.x4 true H0.out).mono ?_
   rintro e1 w2 ⟨rfl, rfl⟩
   go_wp2_with fail
   refine (item_within.is _ _ _ true _ H1.out).mono ?_
   rintro e1 w2 ⟨rfl, rfl⟩
   go_wp2_with fail
   refine (item_within.is _ _ _ q _ H2.out).mono ?_
   rintro e1 w2 ⟨rfl, rfl⟩
   go_wp2_with fail
   go_ret
   exact ⟨rfl, HB.out⟩
set_option maxRecDepth 100000 in
theorem may6 (hC : Kd.C (Kd.int .i64) w A l.length l) (q : Bool) (hq : (may6B i t c l m && (wi s 1 4611686018427387904 && wi e 0 4611686018427387904)) = q) :
  Calls Tryd.prog 30 #[.agg #[.int .i64 6, .int .i64 s, .int .i64 e, .int .i64 i, .int .i64 t, .int .i64 c, .slice A l.length cp, .slice B m cq]] w fun e' w' => e' = .returned (.bool q) ∧ Below w.heap.size w w' := by
 have HC := ak hC
 clear hC
 have HQ := Lib.hid hq
 clear hq
 go_enter Tryd.func30, Tryd.ntmps30
 go_wp2_with fail
 refine start_ (n := 10) (S := fun w' => w'.cell? ⟨w.heap.size, 0, none⟩ = some (.int .i64 6) ∧ w'.cell? ⟨w.heap.size, 1, none⟩ = some (.int .i64 s) ∧ w'.cell? ⟨w.heap.size, 2, none⟩ = some (.int .i64 e) ∧ w'.cell? ⟨w.heap.size, 3, none⟩ = some (.int .i64 i) ∧ w'.cell? ⟨w.heap.size, 4, none⟩ = some (.int .i64 t) ∧ w'.cell? ⟨w.heap.size, 5, none⟩ = some (.int .i64 c) ∧ w'.cell? ⟨w.heap.size, 6, none⟩ = some (.slice A l.length cp) ∧ w'.cell? ⟨w.heap.size, 7, none⟩ = some (.slice B m cq)) (ds := []) #[false, false, false, false, false, false, false, false, false, false] (by kernel_rfl) rfl rfl ⟨blk_cell (blk_drew (blk_new w (Obj.cells #[.int .i64 6, .int .i64 s, .int .i64 e, .int .i64 i, .int .i64 t, .int .i64 c, .slice A l.length cp, .slice B m cq] 25))) 0, blk_cell (blk_drew (blk_new w (Obj.cells #[.int .i64 6, .int .i64 s, .int .i64 e, .int .i64 i, .int .i64 t, .int .i64 c, .slice A l.length cp, .slice B m cq] 25))) 1, blk_cell (blk_drew (blk_new w (Obj.cells #[.int .i64 6, .int .i64 s, .int .i64 e, .int .i64 i, .int .i64 t, .int .i64 c, .slice A l.length cp, .slice B m cq] 25))) 2, blk_cell (blk_drew (blk_new w (Obj.cells #[.int .i64 6, .int .i64 s, .int .i64 e, .int .i64 i, .int .i64 t, .int .i64 c, .slice A l.length cp, .slice B m cq] 25))) 3, blk_cell (blk_drew (blk_new w (Obj.cells #[.int .i64 6, .int .i64 s, .int .i64 e, .int .i64 i, .int .i64 t, .int .i64 c, .slice A l.length cp, .slice B m cq] 25))) 4, blk_cell (blk_drew (blk_new w (Obj.cells #[.int .i64 6, .int .i64 s, .int .i64 e, .int .i64 i, .int .i64 t, .int .i64 c, .slice A l.length cp, .slice B m cq] 25))) 5, blk_cell (blk_drew (blk_new w (Obj.cells #[.int .i64 6, .int .i64 s, .int .i64 e, .int .i64 i, .int .i64 t, .int .i64 c, .slice A l.length cp, .slice B m cq] 25))) 6, blk_cell (blk_drew (blk_new w (Obj.cells #[.int .i64 6, .int .i64 s, .int .i64 e, .int .i64 i, .int .i64 t, .int .i64 c, .slice A l.length cp, .slice B m cq] 25))) 7⟩ (fun hHeld => ?_)
 refine pure_ (i := 2) (N := some 8) (v := ?_) (a' := ?_) #[false, false, true, false, false, false, false, false, false, false] rfl rfl (by kernel_rfl) (fun _ _ _ h => h) (Or.inl ⟨by rfl, ?_⟩) ?_ ?_
 rotate_left
 ·
  intro w'
  go_simp
  with_reducible rfl
 rotate_left
 ·
  simp only [Act.put, sq1, sq2, sq3, i64_w, i32_w]
  rfl
 refine take_ (i := 0) (N := some 6) (v := ?_) (a' := ?_) #[true, false, true, false, false, false, false, false, false, false] rfl rfl (by kernel_rfl) (fun _ _ _ h => h) (Or.inl ⟨by rfl, ?_⟩) hHeld ?_ ?_
 rotate_left
 ·
  rintro w' ⟨s0, s1, s2, s3, s4, s5, s6, s7⟩
  go_simp
  with_reducible rfl
 rotate_left
 ·
  simp only [Act.put, sq1, sq2, sq3, i64_w, i32_w]
  rfl
 refine take_ (i := 3) (N := some 9) (v := ?_) (a' := ?_) #[true, false, true, true, false, false, false, false, false, false] rfl rfl (by kernel_rfl) (fun _ _ _ h => h) (Or.inl ⟨by rfl, ?_⟩) hHeld ?_ ?_
 rotate_left
 ·
  rintro w' ⟨s0, s1, s2, s3, s4, s5, s6, s7⟩
  go_simp
  with_reducible rfl
 rotate_left
 ·
  simp only [Act.put, sq1, sq2, sq3, i64_w, i32_w]
  rfl
 refine one_ (i := 1) (N := some 7) #[true, true, true, true, false, false, false, false, false, false] rfl rfl (by kernel_rfl) (by decide) (fun K hK => ?_)
 refine goes_ Tryd.func53 (by kernel_rfl) rfl #[.agg #[.int .i64 6, .int .i64 s, .int .i64 e, .int .i64 i, .int .i64 t, .int .i64 c, .slice A l.length cp, .slice B m cq]] (by rfl) rfl rfl (by simp only [List.map_toArray, List.map_cons, List.map_nil]; rfl) ?_
 with_reducible refine (item_rules.is (6) s e i t c A l.length cp B m cq _).mono ?_
 rintro e0 w1 ⟨mb, b, g1, g2, g3, g4, rfl, hbw, hm⟩
 refine ⟨_, rfl, ?_⟩
 have HBw := ak hbw
 have HM := ak hm
 clear hbw hm
 refine hK.out _ _ ⟨pw_cell_below HBw.out (blk_cell (blk_drew (blk_new w (Obj.cells #[.int .i64 6, .int .i64 s, .int .i64 e, .int .i64 i, .int .i64 t, .int .i64 c, .slice A l.length cp, .slice B m cq] 25))) 0), pw_cell_below HBw.out (blk_cell (blk_drew (blk_new w (Obj.cells #[.int .i64 6, .int .i64 s, .int .i64 e, .int .i64 i, .int .i64 t, .int .i64 c, .slice A l.length cp, .slice B m cq] 25))) 1), pw_cell_below HBw.out (blk_cell (blk_drew (blk_new w (Obj.cells #[.int .i64 6, .int .i64 s, .int .i64 e, .int .i64 i, .int .i64 t, .int .i64 c, .slice A l.length cp, .slice B m cq] 25))) 2), pw_cell_below HBw.out (blk_cell (blk_drew (blk_new w (Obj.cells #[.int .i64 6, .int .i64 s, .int .i64 e, .int .i64 i, .int .i64 t, .int .i64 c, .slice A l.length cp, .slice B m cq] 25))) 3), pw_cell_below HBw.out (blk_cell (blk_drew (blk_new w (Obj.cells #[.int .i64 6, .int .i64 s, .int .i64 e, .int .i64 i, .int .i64 t, .int .i64 c, .slice A l.length cp, .slice B m cq] 25))) 4), pw_cell_below HBw.out (blk_cell (blk_drew (blk_new w (Obj.cells #[.int .i64 6, .int .i64 s, .int .i64 e, .int .i64 i, .int .i64 t, .int .i64 c, .slice A l.length cp, .slice B m cq] 25))) 5), pw_cell_below HBw.out (blk_cell (blk_drew (blk_new w (Obj.cells #[.int .i64 6, .int .i64 s, .int .i64 e, .int .i64 i, .int .i64 t, .int .i64 c, .slice A l.length cp, .slice B m cq] 25))) 6), pw_cell_below HBw.out (blk_cell (blk_drew (blk_new w (Obj.cells #[.int .i64 6, .int .i64 s, .int .i64 e, .int .i64 i, .int .i64 t, .int .i64 c, .slice A l.length cp, .slice B m cq] 25))) 7)⟩ (fun hHeld => ?_)
 clear hK K
 refine norm_ (a' := ?_) ?_ ?_
 rotate_left
 ·
  show Act.put _ (some 7) _ = _
  simp only [Act.put, sq1, sq2, sq3, i64_w, i32_w]
  rfl
 refine one_ (i := 4) (N := some 10) #[true, true, true, true, true, false, false, false, false, false] rfl rfl (by kernel_rfl) (by decide) (fun K hK => ?_)
 obtain ⟨v, hrun, hv⟩ := rule_look6 HM.out
 subst hv
 refine value_ (w1 := ?_) (v := ?_) (by rfl) rfl ?_ ?_
 rotate_left 2
 ·
  go_simp
  constructor
  ·
   rfl
  ·
   rfl
 clear hrun
 refine hK.out _ _ ⟨pw_cell_below HBw.out (blk_cell (blk_drew (blk_new w (Obj.cells #[.int .i64 6, .int .i64 s, .int .i64 e, .int .i64 i, .int .i64 t, .int .i64 c, .slice A l.length cp, .slice B m cq] 25))) 0), pw_cell_below HBw.out (blk_cell (blk_drew (blk_new w (Obj.cells #[.int .i64 6, .int .i64 s, .int .i64 e, .int .i64 i, .int .i64 t, .int .i64 c, .slice A l.length cp, .slice B m cq] 25))) 1), pw_cell_below HBw.out (blk_cell (blk_drew (blk_new w (Obj.cells #[.int .i64 6, .int .i64 s, .int .i64 e, .int .i64 i, .int .i64 t, .int .i64 c, .slice A l.length cp, .slice B m cq] 25))) 2), pw_cell_below HBw.out (blk_cell (blk_drew (blk_new w (Obj.cells #[.int .i64 6, .int .i64 s, .int .i64 e, .int .i64 i, .int .i64 t, .int .i64 c, .slice A l.length cp, .slice B m cq] 25))) 3), pw_cell_below HBw.out (blk_cell (blk_drew (blk_new w (Obj.cells #[.int .i64 6, .int .i64 s, .int .i64 e, .int .i64 i, .int .i64 t, .int .i64 c, .slice A l.length cp, .slice B m cq] 25))) 4), pw_cell_below HBw.out (blk_cell (blk_drew (blk_new w (Obj.cells #[.int .i64 6, .int .i64 s, .int .i64 e, .int .i64 i, .int .i64 t, .int .i64 c, .slice A l.length cp, .slice B m cq] 25))) 5), pw_cell_below HBw.out (blk_cell (blk_drew (blk_new w (Obj.cells #[.int .i64 6, .int .i64 s, .int .i64 e, .int .i64 i, .int .i64 t, .int .i64 c, .slice A l.length cp, .slice B m cq] 25))) 6), pw_cell_below HBw.out (blk_cell (blk_drew (blk_new w (Obj.cells #[.int .i64 6, .int .i64 s, .int .i64 e, .int .i64 i, .int .i64 t, .int .i64 c, .slice A l.length cp, .slice B m cq] 25))) 7)⟩ (fun hHeld => ?_)
 clear hK K
 refine norm_ (a' := ?_) ?_ ?_
 rotate_left
 ·
  show Act.put _ (some 10) _ = _
  simp only [Act.put, sq1, sq2, sq3, i64_w, i32_w]
  rfl
 refine pure_ (i := 5) (N := some 5) (v := ?_) (a' := ?_) #[true, true, true, true, true, true, false, false, false, false] rfl rfl (by kernel_rfl) (fun _ _ _ h => h) (Or.inl ⟨by rfl, ?_⟩) ?_ ?_
 rotate_left
 ·
  intro w'
  go_simp
  with_reducible rfl
 rotate_left
 ·
  simp only [Act.put, sq1, sq2, sq3, i64_w, i32_w]
  rfl
 refine pure_ (i := 6) (N := some 11) (v := ?_) (a' := ?_) #[true, true, true, true, true, true, true, false, false, false] rfl rfl (by kernel_rfl) (fun _ _ _ h => h) (Or.inl ⟨by rfl, ?_⟩) ?_ ?_
 rotate_left
 ·
  intro w'
  go_simp
  with_reducible rfl
 rotate_left
 ·
  simp only [Act.put, sq1, sq2, sq3, i64_w, i32_w]
  rfl
 refine pure_ (i := 7) (N := some 12) (v := ?_) (a' := ?_) #[true, true, true, true, true, true, true, true, false, false] rfl rfl (by kernel_rfl) (fun _ _ _ h => h) (Or.inl ⟨by rfl, ?_⟩) ?_ ?_
 rotate_left
 ·
  intro w'
  go_simp
  with_reducible rfl
 rotate_left
 ·
  simp only [Act.put, sq1, sq2, sq3, i64_w, i32_w]
  rfl
 refine pure_ (i := 8) (N := some 3) (v := ?_) (a' := ?_) #[true, true, true, true, true, true, true, true, true, false] rfl rfl (by kernel_rfl) (fun _ _ _ h => h) (Or.inl ⟨by rfl, ?_⟩) ?_ ?_
 rotate_left
 ·
  intro w'
  go_simp
  with_reducible rfl
 rotate_left
 ·
  simp only [Act.put, sq1, sq2, sq3, i64_w, i32_w]
  rfl
 refine pure_ (i := 9) (N := some 4) (v := ?_) (a' := ?_) #[true, true, true, true, true, true, true, true, true, true] rfl rfl (by kernel_rfl) (fun _ _ _ h => h) (Or.inl ⟨by rfl, ?_⟩) ?_ ?_
 rotate_left
 ·
  intro w'
  go_simp
  with_reducible rfl
 rotate_left
 ·
  simp only [Act.put, sq1, sq2, sq3, i64_w, i32_w]
  rfl
 refine done_ (by kernel_rfl) ?_
 clear hHeld
 have HB := ak (below_step (below_drew1 (below_alloc (Below.refl w.heap.size w) (Obj.cells #[.int .i64 6, .int .i64 s, .int .i64 e, .int .i64 i, .int .i64 t, .int .i64 c, .slice A l.length cp, .slice B m cq] 25))) HBw.out)
 have y1 := pw_cell_below HBw.out (blk_cell (blk_drew (blk_new w (Obj.cells #[.int .i64 6, .int .i64 s, .int .i64 e, .int .i64 i, .int .i64 t, .int .i64 c, .slice A l.length cp, .slice B m cq] 25))) 1)
 have y2 := pw_cell_below HBw.out (blk_cell (blk_drew (blk_new w (Obj.cells #[.int .i64 6, .int .i64 s, .int .i64 e, .int .i64 i, .int .i64 t, .int .i64 c, .slice A l.length cp, .slice B m cq] 25))) 2)
 have hq := HQ.out
 clear HQ
 cases h0 : may6B i t c l m
 ·
  rw [h0, Bool.false_and] at hq
  subst hq
  have H0 := Lib.hid h0
  clear h0
  go_wp2_with fail
  refine (rule10.is HM.out.box (Kd.C_below HC.out HB.out) HM.out.x1 HM.out.x3 false H0.out).mono ?_
  rintro e1 w2 ⟨rfl, rfl⟩
  go_wp2_with fail
  go_ret
  exact ⟨rfl, HB.out⟩
 ·
  rw [h0, Bool.true_and] at hq
  have H0 := Lib.hid h0
  clear h0
  cases h1 : wi s 1 4611686018427387904
  ·
   rw [h1, Bool.false_and] at hq
   subst hq
   have H1 := Lib.hid h1
   clear h1
   go_wp2_with fail
   refine (rule10.is HM.out.box (Kd.C_below HC.out HB.out) HM.out.x1 HM.out.x3 true H0.out).mono ?_
   rintro e1 w2 ⟨rfl, rfl⟩
   go_wp2_with fail
   refine (item_within.is _ _ _ false _ H1.out).mono ?_
   rintro e1 w2 ⟨rfl, rfl⟩
   go_wp2_with fail
   go_ret
   exact ⟨rfl, HB.out⟩
  ·
   rw [h1, Bool.true_and] at hq
   have H1 := Lib.hid h1
   clear h1
   have H2 := Lib.hid hq
   clear hq
   go_wp2_with fail
   refine (rule10.is HM.out.box (Kd.C_below HC.out HB.out) HM.out.x1 HM.out.x3 true H0.out).mono ?_
   rintro e1 w2 ⟨rfl, rfl⟩
   go_wp2_with fail
   refine (item_within.is _ _ _ true _ H1.out).mono ?_
   rintro e1 w2 ⟨rfl, rfl⟩
   go_wp2_with fail
   refine (item_within.is _ _ _ q _ H2.out).mono ?_
   rintro e1 w2 ⟨rfl, rfl⟩
   go_wp2_with fail
   go_ret
   exact ⟨rfl, HB.out⟩
set_option maxRecDepth 100000 in
theorem may0 (hw : (Lit.int .i64 k).wf = true) (hz : ¬ (1 ≤ k ∧ k ≤ 6)) (q : Bool) (hq : false = q) :
  Calls Tryd.prog 30 #[.agg #[.int .i64 k, .int .i64 s, .int .i64 e, .int .i64 i, .int .i64 t, .int .i64 c, .slice A l.length cp, .slice B m cq]] w fun e' w' => e' = .returned (.bool q) ∧ Below w.heap.size w w' := by
 subst hq
 have HW := Lib.hid hw
 have HN := Lib.hid hz
 clear hw hz
 go_enter Tryd.func30, Tryd.ntmps30
 go_wp2_with fail
 refine start_ (n := 10) (S := fun w' => w'.cell? ⟨w.heap.size, 0, none⟩ = some (.int .i64 k) ∧ w'.cell? ⟨w.heap.size, 1, none⟩ = some (.int .i64 s) ∧ w'.cell? ⟨w.heap.size, 2, none⟩ = some (.int .i64 e) ∧ w'.cell? ⟨w.heap.size, 3, none⟩ = some (.int .i64 i) ∧ w'.cell? ⟨w.heap.size, 4, none⟩ = some (.int .i64 t) ∧ w'.cell? ⟨w.heap.size, 5, none⟩ = some (.int .i64 c) ∧ w'.cell? ⟨w.heap.size, 6, none⟩ = some (.slice A l.length cp) ∧ w'.cell? ⟨w.heap.size, 7, none⟩ = some (.slice B m cq)) (ds := []) #[false, false, false, false, false, false, false, false, false, false] (by kernel_rfl) rfl rfl ⟨blk_cell (blk_drew (blk_new w (Obj.cells #[.int .i64 k, .int .i64 s, .int .i64 e, .int .i64 i, .int .i64 t, .int .i64 c, .slice A l.length cp, .slice B m cq] 25))) 0, blk_cell (blk_drew (blk_new w (Obj.cells #[.int .i64 k, .int .i64 s, .int .i64 e, .int .i64 i, .int .i64 t, .int .i64 c, .slice A l.length cp, .slice B m cq] 25))) 1, blk_cell (blk_drew (blk_new w (Obj.cells #[.int .i64 k, .int .i64 s, .int .i64 e, .int .i64 i, .int .i64 t, .int .i64 c, .slice A l.length cp, .slice B m cq] 25))) 2, blk_cell (blk_drew (blk_new w (Obj.cells #[.int .i64 k, .int .i64 s, .int .i64 e, .int .i64 i, .int .i64 t, .int .i64 c, .slice A l.length cp, .slice B m cq] 25))) 3, blk_cell (blk_drew (blk_new w (Obj.cells #[.int .i64 k, .int .i64 s, .int .i64 e, .int .i64 i, .int .i64 t, .int .i64 c, .slice A l.length cp, .slice B m cq] 25))) 4, blk_cell (blk_drew (blk_new w (Obj.cells #[.int .i64 k, .int .i64 s, .int .i64 e, .int .i64 i, .int .i64 t, .int .i64 c, .slice A l.length cp, .slice B m cq] 25))) 5, blk_cell (blk_drew (blk_new w (Obj.cells #[.int .i64 k, .int .i64 s, .int .i64 e, .int .i64 i, .int .i64 t, .int .i64 c, .slice A l.length cp, .slice B m cq] 25))) 6, blk_cell (blk_drew (blk_new w (Obj.cells #[.int .i64 k, .int .i64 s, .int .i64 e, .int .i64 i, .int .i64 t, .int .i64 c, .slice A l.length cp, .slice B m cq] 25))) 7⟩ (fun hHeld => ?_)
 refine pure_ (i := 2) (N := some 8) (v := ?_) (a' := ?_) #[false, false, true, false, false, false, false, false, false, false] rfl rfl (by kernel_rfl) (fun _ _ _ h => h) (Or.inl ⟨by rfl, ?_⟩) ?_ ?_
 rotate_left
 ·
  intro w'
  go_simp
  with_reducible rfl
 rotate_left
 ·
  simp only [Act.put, sq1, sq2, sq3, i64_w, i32_w]
  rfl
 refine take_ (i := 0) (N := some 6) (v := ?_) (a' := ?_) #[true, false, true, false, false, false, false, false, false, false] rfl rfl (by kernel_rfl) (fun _ _ _ h => h) (Or.inl ⟨by rfl, ?_⟩) hHeld ?_ ?_
 rotate_left
 ·
  rintro w' ⟨s0, s1, s2, s3, s4, s5, s6, s7⟩
  go_simp
  with_reducible rfl
 rotate_left
 ·
  simp only [Act.put, sq1, sq2, sq3, i64_w, i32_w]
  rfl
 refine take_ (i := 3) (N := some 9) (v := ?_) (a' := ?_) #[true, false, true, true, false, false, false, false, false, false] rfl rfl (by kernel_rfl) (fun _ _ _ h => h) (Or.inl ⟨by rfl, ?_⟩) hHeld ?_ ?_
 rotate_left
 ·
  rintro w' ⟨s0, s1, s2, s3, s4, s5, s6, s7⟩
  go_simp
  with_reducible rfl
 rotate_left
 ·
  simp only [Act.put, sq1, sq2, sq3, i64_w, i32_w]
  rfl
 refine one_ (i := 1) (N := some 7) #[true, true, true, true, false, false, false, false, false, false] rfl rfl (by kernel_rfl) (by decide) (fun K hK => ?_)
 refine goes_ Tryd.func53 (by kernel_rfl) rfl #[.agg #[.int .i64 k, .int .i64 s, .int .i64 e, .int .i64 i, .int .i64 t, .int .i64 c, .slice A l.length cp, .slice B m cq]] (by rfl) rfl rfl (by simp only [List.map_toArray, List.map_cons, List.map_nil]; rfl) ?_
 with_reducible refine (item_rules.is (k) s e i t c A l.length cp B m cq _).mono ?_
 rintro e0 w1 ⟨mb, b, g1, g2, g3, g4, rfl, hbw, hm⟩
 refine ⟨_, rfl, ?_⟩
 have HBw := ak hbw
 have HM := ak hm
 clear hbw hm
 refine hK.out _ _ ⟨pw_cell_below HBw.out (blk_cell (blk_drew (blk_new w (Obj.cells #[.int .i64 k, .int .i64 s, .int .i64 e, .int .i64 i, .int .i64 t, .int .i64 c, .slice A l.length cp, .slice B m cq] 25))) 0), pw_cell_below HBw.out (blk_cell (blk_drew (blk_new w (Obj.cells #[.int .i64 k, .int .i64 s, .int .i64 e, .int .i64 i, .int .i64 t, .int .i64 c, .slice A l.length cp, .slice B m cq] 25))) 1), pw_cell_below HBw.out (blk_cell (blk_drew (blk_new w (Obj.cells #[.int .i64 k, .int .i64 s, .int .i64 e, .int .i64 i, .int .i64 t, .int .i64 c, .slice A l.length cp, .slice B m cq] 25))) 2), pw_cell_below HBw.out (blk_cell (blk_drew (blk_new w (Obj.cells #[.int .i64 k, .int .i64 s, .int .i64 e, .int .i64 i, .int .i64 t, .int .i64 c, .slice A l.length cp, .slice B m cq] 25))) 3), pw_cell_below HBw.out (blk_cell (blk_drew (blk_new w (Obj.cells #[.int .i64 k, .int .i64 s, .int .i64 e, .int .i64 i, .int .i64 t, .int .i64 c, .slice A l.length cp, .slice B m cq] 25))) 4), pw_cell_below HBw.out (blk_cell (blk_drew (blk_new w (Obj.cells #[.int .i64 k, .int .i64 s, .int .i64 e, .int .i64 i, .int .i64 t, .int .i64 c, .slice A l.length cp, .slice B m cq] 25))) 5), pw_cell_below HBw.out (blk_cell (blk_drew (blk_new w (Obj.cells #[.int .i64 k, .int .i64 s, .int .i64 e, .int .i64 i, .int .i64 t, .int .i64 c, .slice A l.length cp, .slice B m cq] 25))) 6), pw_cell_below HBw.out (blk_cell (blk_drew (blk_new w (Obj.cells #[.int .i64 k, .int .i64 s, .int .i64 e, .int .i64 i, .int .i64 t, .int .i64 c, .slice A l.length cp, .slice B m cq] 25))) 7)⟩ (fun hHeld => ?_)
 clear hK K
 refine norm_ (a' := ?_) ?_ ?_
 rotate_left
 ·
  show Act.put _ (some 7) _ = _
  simp only [Act.put, sq1, sq2, sq3, i64_w, i32_w]
  rfl
 refine one_ (i := 4) (N := some 10) #[true, true, true, true, true, false, false, false, false, false] rfl rfl (by kernel_rfl) (by decide) (fun K hK => ?_)
 obtain ⟨v, hrun, hv⟩ := rule_look HM.out HW.out HN.out
 clear hv
 refine value_ (w1 := ?_) (v := ?_) (by rfl) rfl ?_ ?_
 rotate_left 2
 ·
  go_simp
  constructor
  ·
   rfl
  ·
   rfl
 clear hrun
 refine hK.out _ _ ⟨pw_cell_below HBw.out (blk_cell (blk_drew (blk_new w (Obj.cells #[.int .i64 k, .int .i64 s, .int .i64 e, .int .i64 i, .int .i64 t, .int .i64 c, .slice A l.length cp, .slice B m cq] 25))) 0), pw_cell_below HBw.out (blk_cell (blk_drew (blk_new w (Obj.cells #[.int .i64 k, .int .i64 s, .int .i64 e, .int .i64 i, .int .i64 t, .int .i64 c, .slice A l.length cp, .slice B m cq] 25))) 1), pw_cell_below HBw.out (blk_cell (blk_drew (blk_new w (Obj.cells #[.int .i64 k, .int .i64 s, .int .i64 e, .int .i64 i, .int .i64 t, .int .i64 c, .slice A l.length cp, .slice B m cq] 25))) 2), pw_cell_below HBw.out (blk_cell (blk_drew (blk_new w (Obj.cells #[.int .i64 k, .int .i64 s, .int .i64 e, .int .i64 i, .int .i64 t, .int .i64 c, .slice A l.length cp, .slice B m cq] 25))) 3), pw_cell_below HBw.out (blk_cell (blk_drew (blk_new w (Obj.cells #[.int .i64 k, .int .i64 s, .int .i64 e, .int .i64 i, .int .i64 t, .int .i64 c, .slice A l.length cp, .slice B m cq] 25))) 4), pw_cell_below HBw.out (blk_cell (blk_drew (blk_new w (Obj.cells #[.int .i64 k, .int .i64 s, .int .i64 e, .int .i64 i, .int .i64 t, .int .i64 c, .slice A l.length cp, .slice B m cq] 25))) 5), pw_cell_below HBw.out (blk_cell (blk_drew (blk_new w (Obj.cells #[.int .i64 k, .int .i64 s, .int .i64 e, .int .i64 i, .int .i64 t, .int .i64 c, .slice A l.length cp, .slice B m cq] 25))) 6), pw_cell_below HBw.out (blk_cell (blk_drew (blk_new w (Obj.cells #[.int .i64 k, .int .i64 s, .int .i64 e, .int .i64 i, .int .i64 t, .int .i64 c, .slice A l.length cp, .slice B m cq] 25))) 7)⟩ (fun hHeld => ?_)
 clear hK K
 refine norm_ (a' := ?_) ?_ ?_
 rotate_left
 ·
  show Act.put _ (some 10) _ = _
  simp only [Act.put, sq1, sq2, sq3, i64_w, i32_w]
  rfl
 refine pure_ (i := 5) (N := some 5) (v := ?_) (a' := ?_) #[true, true, true, true, true, true, false, false, false, false] rfl rfl (by kernel_rfl) (fun _ _ _ h => h) (Or.inl ⟨by rfl, ?_⟩) ?_ ?_
 rotate_left
 ·
  intro w'
  go_simp
  with_reducible rfl
 rotate_left
 ·
  simp only [Act.put, sq1, sq2, sq3, i64_w, i32_w]
  rfl
 refine pure_ (i := 6) (N := some 11) (v := ?_) (a' := ?_) #[true, true, true, true, true, true, true, false, false, false] rfl rfl (by kernel_rfl) (fun _ _ _ h => h) (Or.inl ⟨by rfl, ?_⟩) ?_ ?_
 rotate_left
 ·
  intro w'
  go_simp
  with_reducible rfl
 rotate_left
 ·
  simp only [Act.put, sq1, sq2, sq3, i64_w, i32_w]
  rfl
 refine pure_ (i := 7) (N := some 12) (v := ?_) (a' := ?_) #[true, true, true, true, true, true, true, true, false, false] rfl rfl (by kernel_rfl) (fun _ _ _ h => h) (Or.inl ⟨by rfl, ?_⟩) ?_ ?_
 rotate_left
 ·
  intro w'
  go_simp
  with_reducible rfl
 rotate_left
 ·
  simp only [Act.put, sq1, sq2, sq3, i64_w, i32_w]
  rfl
 refine pure_ (i := 8) (N := some 3) (v := ?_) (a' := ?_) #[true, true, true, true, true, true, true, true, true, false] rfl rfl (by kernel_rfl) (fun _ _ _ h => h) (Or.inl ⟨by rfl, ?_⟩) ?_ ?_
 rotate_left
 ·
  intro w'
  go_simp
  with_reducible rfl
 rotate_left
 ·
  simp only [Act.put, sq1, sq2, sq3, i64_w, i32_w]
  rfl
 refine pure_ (i := 9) (N := some 4) (v := ?_) (a' := ?_) #[true, true, true, true, true, true, true, true, true, true] rfl rfl (by kernel_rfl) (fun _ _ _ h => h) (Or.inl ⟨by rfl, ?_⟩) ?_ ?_
 rotate_left
 ·
  intro w'
  go_simp
  with_reducible rfl
 rotate_left
 ·
  simp only [Act.put, sq1, sq2, sq3, i64_w, i32_w]
  rfl
 refine done_ (by kernel_rfl) ?_
 clear hHeld
 have HB := ak (below_step (below_drew1 (below_alloc (Below.refl w.heap.size w) (Obj.cells #[.int .i64 k, .int .i64 s, .int .i64 e, .int .i64 i, .int .i64 t, .int .i64 c, .slice A l.length cp, .slice B m cq] 25))) HBw.out)
 go_wp2_with fail
 go_ret
 exact ⟨rfl, HB.out⟩
/-- Which items may be. -/
def mayK (k i t c : Int) (l : List Int) (m : Nat) : Bool :=
 if k = 1 then may1B i t c l m else if k = 2 then may2B i t c l m else if k = 3 then may3B i t c l m else if k = 4 then may4B i t c l m else if k = 5 then may5B i t c l m else if k = 6 then may6B i t c l m else false
def mayB (k s e i t c : Int) (l : List Int) (m : Nat) : Bool := mayK k i t c l m && (wi s 1 4611686018427387904 && wi e 0 4611686018427387904)
def item_May.f (k s e i t c : Int) (l bo : List Int) : Option Bool := if (Lit.int .i64 k).wf = true then some (mayB k s e i t c l bo.length) else none
theorem item_May.calls (a0_0 a0_1 a0_2 a0_3 a0_4 a0_5 : Int) (A0_6 : Option Addr) (c0_6 : Nat) (l0_6 : List Int) (A0_7 : Option Addr) (c0_7 : Nat) (l0_7 : List Int) (r : Bool) (w : World) (hr0_6 : Kd.C (Kd.int .i64) w A0_6 l0_6.length l0_6) (hc0_6 : l0_6.length ≤ c0_6) (hr0_7 : Kd.C (Kd.int .u8) w A0_7 l0_7.length l0_7) (hc0_7 : l0_7.length ≤ c0_7) (h : item_May.f a0_0 a0_1 a0_2 a0_3 a0_4 a0_5 l0_6 l0_7 = some r) :
  Calls Tryd.prog 30 #[.agg #[.int .i64 a0_0, .int .i64 a0_1, .int .i64 a0_2, .int .i64 a0_3, .int .i64 a0_4, .int .i64 a0_5, .slice A0_6 l0_6.length c0_6, .slice A0_7 l0_7.length c0_7]] w fun e w' => e = .returned (.bool r) ∧ Below w.heap.size w w' := by
 unfold item_May.f at h
 by_cases hw : (Lit.int .i64 a0_0).wf = true
 ·
  rw [if_pos hw] at h
  have h := Option.some.inj h
  unfold mayB mayK at h
  by_cases k1 : a0_0 = 1
  ·
   subst k1; rw [if_pos rfl] at h; exact may1 hr0_6 r h
  rw [if_neg k1] at h
  by_cases k2 : a0_0 = 2
  ·
   subst k2; rw [if_pos rfl] at h; exact may2 hr0_6 r h
  rw [if_neg k2] at h
  by_cases k3 : a0_0 = 3
  ·
   subst k3; rw [if_pos rfl] at h; exact may3 hr0_6 r h
  rw [if_neg k3] at h
  by_cases k4 : a0_0 = 4
  ·
   subst k4; rw [if_pos rfl] at h; exact may4 hr0_6 r h
  rw [if_neg k4] at h
  by_cases k5 : a0_0 = 5
  ·
   subst k5; rw [if_pos rfl] at h; exact may5 hr0_6 r h
  rw [if_neg k5] at h
  by_cases k6 : a0_0 = 6
  ·
   subst k6; rw [if_pos rfl] at h; exact may6 hr0_6 r h
  rw [if_neg k6, Bool.false_and] at h
  exact may0 hw (by omega) r h
 ·
  rw [if_neg hw] at h; cases h
end Go.Proofs.YtieolhhokepkjaaDoor.Print
