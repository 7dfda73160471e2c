/- Which items may be: the table of rules, and that a call of item.May does just what its Lean function says. Conditions stand in each theorem. -/
import Derived.Test.YtieolhhokepkjaaDoorHand3
import Derived.Laws.EntriesVeiled
namespace Go.Proofs.YtieolhhokepkjaaDoor.Print
set_option linter.unusedVariables false
set_option linter.unusedSimpArgs false
open Go.RowKit Go.Proofs.YtieolhhokepkjaaDoorW.PrintWords Go.Proofs.YtieolhhokepkjaaDoorW.PrintLast Go.Proofs.YtieolhhokepkjaaDoorW.PrintMore

/-- How a rule reads: as itself. -/
def ruleR : Value → Option (DataW Value × List MemPlace) := fun v => some (.held v, [])
theorem keyI : Go.Maps.Keyed Tryd.prog 3 := Go.Maps.int_keyed Tryd.underlying3
theorem wpList_insert_own {P : Program} (w : World) {ops : Array Oper} {rest : List Oper} {o : Oper} {a : Act} {Q : Exit → Act → World → Prop}
    (hg : o.guard = none) (m x v : Operand) (t : TypeId) (hop : o.op = Op.insert t m x v)
    (k e : TypeId) (K : Go.Maps.Keyed P k) (ht : P.underlying t = some (.map k e)) (b n : Nat) (D : DataW Value)
    (hm : a.eval m = .map (some b)) (hown : w.ownsMap P k ruleR b n D) (hn : n < maxLen) (key val : Value) (kl : Lit) (hx : a.eval x = key) (hv : a.eval v = val) (hkey : keyOf P k key = some kl)
    (hK : ∀ w', w'.ownsMap P k ruleR b (n + 1) (D.put kl (.held val)) → w.mapTurned w' b → wpList P ops Q rest (a.put o.dst undef) w') :
    wpList P ops Q (o :: rest) a w := by
  refine wpList_plain hg fun K' hK' => ?_
  obtain ⟨w', hrun, r1, r2⟩ := hown.store K ht hn hkey (show ruleR val = some (.held val, []) from rfl)
  unfold Oper.wp
  simp [execOp, hop, hm, hx, hv, hrun, Result.andThen]
  exact hK' _ _ (hK w' r1 r2)

theorem own_made {P : Program} {k : TypeId} {w : World} {b : Nat} (h : w.heap.size = b) : (w.alloc (.map #[] 0)).ownsMap P k ruleR b 0 (.map []) := h ▸ World.ownsMap_made w P k ruleR
theorem blk_new' {w : World} {o : Obj} {b : Nat} (h : w.heap.size = b) : (w.alloc o).heap[b]? = some o := h ▸ blk_new w o
theorem heap_cell {w w1 : World} {b : Nat} (h : w1.heap[b]? = w.heap[b]?) (j : Nat) : w1.cell? ⟨b, j, none⟩ = w.cell? ⟨b, j, none⟩ := by
  unfold World.cell?; rw [h]
/-- The table, as it reads. -/
def ruleTab (b g1 g2 g3 g4 : Nat) : DataW Value :=
  ((((((DataW.map []).put (.int .i64 1) (.held (.func (.func 68) #[] #[.pointer (some ⟨b, 0, none⟩)]))).put (.int .i64 2) (.held (.func (.func 69) #[] #[.pointer (some ⟨g1, 0, none⟩), .pointer (some ⟨g2, 0, none⟩), .pointer (some ⟨g3, 0, none⟩)]))).put
    (.int .i64 3) (.held (.func (.func 70) #[] #[.pointer (some ⟨g1, 0, none⟩), .pointer (some ⟨g4, 0, none⟩)]))).put (.int .i64 4) (.held (.func (.func 71) #[] #[.pointer (some ⟨g1, 0, none⟩), .pointer (some ⟨g2, 0, none⟩), .pointer (some ⟨g4, 0, none⟩)]))).put
    (.int .i64 5) (.held (.func (.func 72) #[] #[.pointer (some ⟨g1, 0, none⟩), .pointer (some ⟨g4, 0, none⟩), .pointer (some ⟨b, 0, none⟩)]))).put (.int .i64 6) (.held (.func (.func 73) #[] #[.pointer (some ⟨g1, 0, none⟩), .pointer (some ⟨g3, 0, none⟩)]))
/-- What the table of rules is: closures over one box, in a map of the call's own. -/
structure RuleMap (w : World) (mb : Nat) (k s e i t c : Int) (A : Option Addr) (n cp : Nat) (B : Option Addr) (m cq : Nat) (b g1 g2 g3 g4 : Nat) : Prop where
  box : ItemBox w b k s e i t c A n cp B m cq
  x1 : w.cell? ⟨g1, 0, none⟩ = some (fnv 63 b)
  x2 : w.cell? ⟨g2, 0, none⟩ = some (fnv 64 b)
  x3 : w.cell? ⟨g3, 0, none⟩ = some (fnv 65 b)
  x4 : w.cell? ⟨g4, 0, none⟩ = some (fnv 67 b)
  own : w.ownsMap Tryd.prog 3 ruleR mb 6 (ruleTab b g1 g2 g3 g4)
def RulesPost (w : World) (k s e i t c : Int) (A : Option Addr) (n cp : Nat) (B : Option Addr) (m cq : Nat) (e' : Ending) (w' : World) : Prop :=
  ∃ mb b g1 g2 g3 g4 : Nat, e' = .returned (.map (some mb)) ∧ Below w.heap.size w w' ∧ RuleMap w' mb k s e i t c A n cp B m cq b g1 g2 g3 g4
theorem item_rules.is (k s e i t c : Int) (A : Option Addr) (n cp : Nat) (B : Option Addr) (m cq : Nat) (w : World) :
    Calls Tryd.prog 53 #[.agg #[.int .i64 k, .int .i64 s, .int .i64 e, .int .i64 i, .int .i64 t, .int .i64 c, .slice A n cp, .slice B m cq]] w (RulesPost w k s e i t c A n cp B m cq) := by
  have hmf : ∀ (fn : Fn) (first cap : Array Value) (w : World), (Instr.makeFunc fn first cap).run Tryd.prog w = .ok (.func fn first cap) w := fun _ _ _ _ => rfl
  have hmm := @run_makeMap Tryd.prog
  go_enter Tryd.func53, Tryd.ntmps53
  go_wp2_with (first | (refine wpList_insert_own _ rfl _ _ _ 77 rfl 3 28 keyI Tryd.underlying77 _ _ _ rfl (by first | exact HO.out | exact own_made (by simp)) (by unfold maxLen; omega) _ _ _ rfl rfl (Go.Maps.keyOf_int_mk Tryd.underlying3 (by decide)) ?_; intro w1 hown htr; (first | have n0_ := Aside0.mk (HT.out.trans htr) | have n0_ := Aside0.mk htr); have n1_ := Aside0.mk hown; (try clear HT HO); have HT := n0_; have HO := n1_; clear n0_ n1_ hown htr))
  have hg := HT.out.grown
  have hs : w.heap.size + 6 ≤ w1.heap.size := by have := hg.size; simp at this; omega
  have hk : ∀ i : Nat, i < w.heap.size + 5 → _ := fun i hi => hg.block i (by simp; omega) (by simp; omega)
  have HB := (Below.refl w.heap.size w)
  have hb0 : Below w.heap.size w w1 := Below.grown (by repeat (first | exact Below.refl _ _ | apply below_alloc)) hg (by simp; omega) (fun j hj => by cases hj; omega)
  have X0 := (hk w.heap.size (by omega)).trans (by repeat (first | (refine blk_new' ?_; simp; done) | apply blk_alloc))
  have X1 := (hk (w.heap.size + 1) (by omega)).trans (by repeat (first | (refine blk_new' ?_; simp; done) | apply blk_alloc))
  have X2 := (hk (w.heap.size + 1 + 1) (by omega)).trans (by repeat (first | (refine blk_new' ?_; simp; done) | apply blk_alloc))
  have X3 := (hk (w.heap.size + 1 + 1 + 1) (by omega)).trans (by repeat (first | (refine blk_new' ?_; simp; done) | apply blk_alloc))
  have X4 := (hk (w.heap.size + 1 + 1 + 1 + 1) (by omega)).trans (by repeat (first | (refine blk_new' ?_; simp; done) | apply blk_alloc))
  have hO := HO.out
  clear hmf hmm hg HO HT hk
  go_ret
  exact ⟨_, w.heap.size, w.heap.size + 1, w.heap.size + 1 + 1, w.heap.size + 1 + 1 + 1, w.heap.size + 1 + 1 + 1 + 1, rfl, hb0, ⟨⟨blk_cell X0 0, blk_cell X0 1, blk_cell X0 2, blk_cell X0 3, blk_cell X0 4, blk_cell X0 5, blk_cell X0 6, blk_cell X0 7⟩, blk_cell X1 0, blk_cell X2 0, blk_cell X3 0, blk_cell X4 0, hO⟩⟩
end Go.Proofs.YtieolhhokepkjaaDoor.Print
