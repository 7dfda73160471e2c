/-
  No cell of these rows narrows 'for every input' (looked for: loops, veiled, ifaces, maps, wideKeys, modest, calm, conditions, laid).
  DERIVED. THE GIVEN ROWS OF THIS SEAT. 4 by the template 'for every input the law returns true; each argument reads behind the call as it read before'; 0 by the template 'total and deterministic' (their statements: YtdjffpolfeibdaaTotals.lean).
  GIVEN WITH THE SEED: the statements are not yours to turn. If you find one false, say at which input.
  Laid BY PROGRAM, IN A SANDBOX (cutbox-rows.mjs): the forced cells as the released guide's own fill.sh prints them over the translation e3beeaa4ec228e90… (all of the seat's roots in one cut). By AI agents, Wed Nov 11 2026. No macro, syntax, notation, axiom, sorry.
-/
import Derived.Test.YtdjffpolfeibdaaChecked
import GoSem.Claim
import GoSem.ClaimJoined
import GoSem.ClaimMapViews
import Derived.JoinedTies
import Derived.KernelRfl
namespace Go.Proofs.Ytdjffpolfeibdaa
/- THE CELL 'sum', in the pinned program and in every row, IS THE sha256 OF THE DUMP (.gsa) THAT YtdjffpolfeibdaaProg.lean LOADS. Nothing in Lean hashes anything: it is a label: what it is worth is what the hold of that sum in a sandbox is worth. -/
noncomputable def Try.pinned : Pinned := { name := "ytdjffpolfeibdaa", sum := "e3beeaa4ec228e9005e1f077ddd348238120c7b619da79be724683d54a5296bd", checked := Try.checked }
namespace Rows
def none {H : Type} : Left H := { results := [], args := [] }

/-- 'precentorlaw14.WantTells': WHATEVER THE INPUT: true; the input reads as it did. -/
def wantTellsSpec : ChangeSpec := { name := "wantTells", fn := fun _ => fun
  | [d] => { results := [.lit (.bool true)], args := [d] }
  | _ => none }
def wantTellsRow : OpenClaim := { program := "ytdjffpolfeibdaa", sum := "e3beeaa4ec228e9005e1f077ddd348238120c7b619da79be724683d54a5296bd", func := "precentor/precentorlaw14.WantTells", spec := "wantTells", apart := false }
def WantTellsSaid : Prop := wantTellsRow.holds Try.pinned (OpenSpec.ofChange wantTellsSpec)

/-- ITS FALSE NEIGHBOUR: 'it returns false'. Refute it at one input. -/
def wantTellsWrong : ChangeSpec := { name := "wantTells", fn := fun _ => fun
  | [d] => { results := [.lit (.bool false)], args := [d] }
  | _ => none }
def WantTellsWrongFalsely : Prop := wantTellsRow.holds Try.pinned (OpenSpec.ofChange wantTellsWrong)

/-- 'precentorlaw14.WantRuns': WHATEVER THE INPUT: true; the input reads as it did. -/
def wantRunsSpec : ChangeSpec := { name := "wantRuns", fn := fun _ => fun
  | [d] => { results := [.lit (.bool true)], args := [d] }
  | _ => none }
def wantRunsRow : OpenClaim := { program := "ytdjffpolfeibdaa", sum := "e3beeaa4ec228e9005e1f077ddd348238120c7b619da79be724683d54a5296bd", func := "precentor/precentorlaw14.WantRuns", spec := "wantRuns", apart := false }
def WantRunsSaid : Prop := wantRunsRow.holds Try.pinned (OpenSpec.ofChange wantRunsSpec)

/-- ITS FALSE NEIGHBOUR: 'it returns false'. Refute it at one input. -/
def wantRunsWrong : ChangeSpec := { name := "wantRuns", fn := fun _ => fun
  | [d] => { results := [.lit (.bool false)], args := [d] }
  | _ => none }
def WantRunsWrongFalsely : Prop := wantRunsRow.holds Try.pinned (OpenSpec.ofChange wantRunsWrong)

/-- 'precentorlaw14.WantEither': WHATEVER THE INPUT: true; the input reads as it did. -/
def wantEitherSpec : ChangeSpec := { name := "wantEither", fn := fun _ => fun
  | [d1, d2, d3] => { results := [.lit (.bool true)], args := [d1, d2, d3] }
  | _ => none }
def wantEitherRow : OpenClaim := { program := "ytdjffpolfeibdaa", sum := "e3beeaa4ec228e9005e1f077ddd348238120c7b619da79be724683d54a5296bd", func := "precentor/precentorlaw14.WantEither", spec := "wantEither", apart := false }
def WantEitherSaid : Prop := wantEitherRow.holds Try.pinned (OpenSpec.ofChange wantEitherSpec)

/-- ITS FALSE NEIGHBOUR: 'it returns false'. Refute it at one input. -/
def wantEitherWrong : ChangeSpec := { name := "wantEither", fn := fun _ => fun
  | [d1, d2, d3] => { results := [.lit (.bool false)], args := [d1, d2, d3] }
  | _ => none }
def WantEitherWrongFalsely : Prop := wantEitherRow.holds Try.pinned (OpenSpec.ofChange wantEitherWrong)

/-- 'precentorlaw14.WantSteady': WHATEVER THE INPUT: true; the input reads as it did. -/
def wantSteadySpec : ChangeSpec := { name := "wantSteady", fn := fun _ => fun
  | [d] => { results := [.lit (.bool true)], args := [d] }
  | _ => none }
def wantSteadyRow : OpenClaim := { program := "ytdjffpolfeibdaa", sum := "e3beeaa4ec228e9005e1f077ddd348238120c7b619da79be724683d54a5296bd", func := "precentor/precentorlaw14.WantSteady", spec := "wantSteady", apart := false }
def WantSteadySaid : Prop := wantSteadyRow.holds Try.pinned (OpenSpec.ofChange wantSteadySpec)

/-- ITS FALSE NEIGHBOUR: 'it returns false'. Refute it at one input. -/
def wantSteadyWrong : ChangeSpec := { name := "wantSteady", fn := fun _ => fun
  | [d] => { results := [.lit (.bool false)], args := [d] }
  | _ => none }
def WantSteadyWrongFalsely : Prop := wantSteadyRow.holds Try.pinned (OpenSpec.ofChange wantSteadyWrong)

/- THE SECOND FORM. 'bulk': how many values and letters a reading holds, each counted each time it is reached (what is shared counts as often as it is met; a slice's spare places count too). A statement '..UptoSaid' is the law's where the arguments, and the package variables that the reading takes, are together of bulk at most 1048576: NARROWER than '..Said'. Prove '..Said' where nothing that the law and all that it calls make is longer than what came in: it says more and counts as full. Else prove '..UptoSaid'. A law counts once. -/
mutual
def uptoBulk {H : Type} : DataW H → Nat
  | .lit (.string bytes) => bytes.length + 1
  | .lit _ => 1
  | .nil => 1
  | .ptr d => uptoBulk d + 1
  | .slice elems spare => uptoBulkAll elems + uptoBulkAll spare + 1
  | .agg parts => uptoBulkAll parts + 1
  | .iface _ d => uptoBulk d + 1
  | .map entries => uptoBulkEntries entries + 1
  | .held _ => 1
def uptoBulkAll {H : Type} : List (DataW H) → Nat
  | [] => 0
  | d :: r => uptoBulk d + uptoBulkAll r
def uptoBulkEntries {H : Type} : List (Lit × DataW H) → Nat
  | [] => 0
  | x :: r => uptoBulkEntry x + uptoBulkEntries r
def uptoBulkEntry {H : Type} : Lit × DataW H → Nat
  | (.string bytes, d) => bytes.length + uptoBulk d + 1
  | (_, d) => uptoBulk d + 1
 end
def uptoSmall : (H : Type) → List (DataW H) → Bool := fun _ ds => decide (uptoBulkAll ds ≤ 1048576)
def OpenSpec.upto (s : _root_.Go.ChangeSpec) : _root_.Go.OpenSpec := { _root_.Go.OpenSpec.ofChange s with cond := some uptoSmall }

/-- 'precentorlaw14.WantTells', WHERE WHAT IT READS IS OF BULK AT MOST 1048576: true; the input reads as it did. -/
def wantTellsUptoRow : OpenClaim := { program := "ytdjffpolfeibdaa", sum := "e3beeaa4ec228e9005e1f077ddd348238120c7b619da79be724683d54a5296bd", func := "precentor/precentorlaw14.WantTells", spec := "wantTells", apart := false, narrowed := true }
def WantTellsUptoSaid : Prop := wantTellsUptoRow.holds Try.pinned (OpenSpec.upto wantTellsSpec)

/-- 'precentorlaw14.WantRuns', WHERE WHAT IT READS IS OF BULK AT MOST 1048576: true; the input reads as it did. -/
def wantRunsUptoRow : OpenClaim := { program := "ytdjffpolfeibdaa", sum := "e3beeaa4ec228e9005e1f077ddd348238120c7b619da79be724683d54a5296bd", func := "precentor/precentorlaw14.WantRuns", spec := "wantRuns", apart := false, narrowed := true }
def WantRunsUptoSaid : Prop := wantRunsUptoRow.holds Try.pinned (OpenSpec.upto wantRunsSpec)

/-- 'precentorlaw14.WantEither', WHERE WHAT IT READS IS OF BULK AT MOST 1048576: true; the input reads as it did. -/
def wantEitherUptoRow : OpenClaim := { program := "ytdjffpolfeibdaa", sum := "e3beeaa4ec228e9005e1f077ddd348238120c7b619da79be724683d54a5296bd", func := "precentor/precentorlaw14.WantEither", spec := "wantEither", apart := false, narrowed := true }
def WantEitherUptoSaid : Prop := wantEitherUptoRow.holds Try.pinned (OpenSpec.upto wantEitherSpec)

/-- 'precentorlaw14.WantSteady', WHERE WHAT IT READS IS OF BULK AT MOST 1048576: true; the input reads as it did. -/
def wantSteadyUptoRow : OpenClaim := { program := "ytdjffpolfeibdaa", sum := "e3beeaa4ec228e9005e1f077ddd348238120c7b619da79be724683d54a5296bd", func := "precentor/precentorlaw14.WantSteady", spec := "wantSteady", apart := false, narrowed := true }
def WantSteadyUptoSaid : Prop := wantSteadyUptoRow.holds Try.pinned (OpenSpec.upto wantSteadySpec)

end Rows
end Go.Proofs.Ytdjffpolfeibdaa
