/-
  No cell of these rows narrows 'for every input' (looked for: loops, veiled, ifaces, maps, wideKeys, modest, calm, conditions, laid).
  DERIVED. THE GIVEN ROWS OF THIS SEAT. 5 by the template 'for every input the law returns true; each argument reads behind the call as it read before'; 0 by the template 'total and deterministic' (their statements: YtddlbfapcodbmaaTotals.lean).
  GIVEN WITH THE SEED: the statements are not yours to turn. If you find one false, say at which input.
  Laid BY PROGRAM, IN A SANDBOX (cutbox-rows.mjs): the forced cells as the released guide's own fill.sh prints them over the translation 31074967ea069028… (all of the seat's roots in one cut). By AI agents, Wed Nov 11 2026. No macro, syntax, notation, axiom, sorry.
-/
import Derived.Test.YtddlbfapcodbmaaChecked
import GoSem.Claim
import GoSem.ClaimJoined
import GoSem.ClaimMapViews
import Derived.JoinedTies
import Derived.KernelRfl
namespace Go.Proofs.Ytddlbfapcodbmaa
/- THE CELL 'sum', in the pinned program and in every row, IS THE sha256 OF THE DUMP (.gsa) THAT YtddlbfapcodbmaaProg.lean LOADS. Nothing in Lean hashes anything: it is a label: what it is worth is what the hold of that sum in a sandbox is worth. -/
noncomputable def Try.pinned : Pinned := { name := "ytddlbfapcodbmaa", sum := "31074967ea069028cf8ff8ef0f00dbf49e3605ef48c74ee7fe2b102d720e4f7c", checked := Try.checked }
namespace Rows
def none {H : Type} : Left H := { results := [], args := [] }

/-- 'precentorlaw10.AskTells': WHATEVER THE INPUT: true; the input reads as it did. -/
def askTellsSpec : ChangeSpec := { name := "askTells", fn := fun _ => fun
  | [d] => { results := [.lit (.bool true)], args := [d] }
  | _ => none }
def askTellsRow : OpenClaim := { program := "ytddlbfapcodbmaa", sum := "31074967ea069028cf8ff8ef0f00dbf49e3605ef48c74ee7fe2b102d720e4f7c", func := "precentor/precentorlaw10.AskTells", spec := "askTells", unfollowed := true, recurses := true, apart := false }
def AskTellsSaid : Prop := askTellsRow.holds Try.pinned (OpenSpec.ofChange askTellsSpec)

/-- ITS FALSE NEIGHBOUR: 'it returns false'. Refute it at one input. -/
def askTellsWrong : ChangeSpec := { name := "askTells", fn := fun _ => fun
  | [d] => { results := [.lit (.bool false)], args := [d] }
  | _ => none }
def AskTellsWrongFalsely : Prop := askTellsRow.holds Try.pinned (OpenSpec.ofChange askTellsWrong)

/-- 'precentorlaw10.AskEach': WHATEVER THE INPUT: true; the input reads as it did. -/
def askEachSpec : ChangeSpec := { name := "askEach", fn := fun _ => fun
  | [d1, d2, d3] => { results := [.lit (.bool true)], args := [d1, d2, d3] }
  | _ => none }
def askEachRow : OpenClaim := { program := "ytddlbfapcodbmaa", sum := "31074967ea069028cf8ff8ef0f00dbf49e3605ef48c74ee7fe2b102d720e4f7c", func := "precentor/precentorlaw10.AskEach", spec := "askEach", unfollowed := true, recurses := true, apart := false }
def AskEachSaid : Prop := askEachRow.holds Try.pinned (OpenSpec.ofChange askEachSpec)

/-- ITS FALSE NEIGHBOUR: 'it returns false'. Refute it at one input. -/
def askEachWrong : ChangeSpec := { name := "askEach", fn := fun _ => fun
  | [d1, d2, d3] => { results := [.lit (.bool false)], args := [d1, d2, d3] }
  | _ => none }
def AskEachWrongFalsely : Prop := askEachRow.holds Try.pinned (OpenSpec.ofChange askEachWrong)

/-- 'precentorlaw10.AskHushed': WHATEVER THE INPUT: true; the input reads as it did. -/
def askHushedSpec : ChangeSpec := { name := "askHushed", fn := fun _ => fun
  | [d1, d2, d3] => { results := [.lit (.bool true)], args := [d1, d2, d3] }
  | _ => none }
def askHushedRow : OpenClaim := { program := "ytddlbfapcodbmaa", sum := "31074967ea069028cf8ff8ef0f00dbf49e3605ef48c74ee7fe2b102d720e4f7c", func := "precentor/precentorlaw10.AskHushed", spec := "askHushed", unfollowed := true, recurses := true, apart := false }
def AskHushedSaid : Prop := askHushedRow.holds Try.pinned (OpenSpec.ofChange askHushedSpec)

/-- ITS FALSE NEIGHBOUR: 'it returns false'. Refute it at one input. -/
def askHushedWrong : ChangeSpec := { name := "askHushed", fn := fun _ => fun
  | [d1, d2, d3] => { results := [.lit (.bool false)], args := [d1, d2, d3] }
  | _ => none }
def AskHushedWrongFalsely : Prop := askHushedRow.holds Try.pinned (OpenSpec.ofChange askHushedWrong)

/-- 'precentorlaw10.AskMany': WHATEVER THE INPUT: true; the input reads as it did. -/
def askManySpec : ChangeSpec := { name := "askMany", fn := fun _ => fun
  | [d1, d2, d3] => { results := [.lit (.bool true)], args := [d1, d2, d3] }
  | _ => none }
def askManyRow : OpenClaim := { program := "ytddlbfapcodbmaa", sum := "31074967ea069028cf8ff8ef0f00dbf49e3605ef48c74ee7fe2b102d720e4f7c", func := "precentor/precentorlaw10.AskMany", spec := "askMany", unfollowed := true, recurses := true, apart := false }
def AskManySaid : Prop := askManyRow.holds Try.pinned (OpenSpec.ofChange askManySpec)

/-- ITS FALSE NEIGHBOUR: 'it returns false'. Refute it at one input. -/
def askManyWrong : ChangeSpec := { name := "askMany", fn := fun _ => fun
  | [d1, d2, d3] => { results := [.lit (.bool false)], args := [d1, d2, d3] }
  | _ => none }
def AskManyWrongFalsely : Prop := askManyRow.holds Try.pinned (OpenSpec.ofChange askManyWrong)

/-- 'precentorlaw10.AskNone': WHATEVER THE INPUT: true; the input reads as it did. -/
def askNoneSpec : ChangeSpec := { name := "askNone", fn := fun _ => fun
  | [d1, d2, d3] => { results := [.lit (.bool true)], args := [d1, d2, d3] }
  | _ => none }
def askNoneRow : OpenClaim := { program := "ytddlbfapcodbmaa", sum := "31074967ea069028cf8ff8ef0f00dbf49e3605ef48c74ee7fe2b102d720e4f7c", func := "precentor/precentorlaw10.AskNone", spec := "askNone", unfollowed := true, recurses := true, apart := false }
def AskNoneSaid : Prop := askNoneRow.holds Try.pinned (OpenSpec.ofChange askNoneSpec)

/-- ITS FALSE NEIGHBOUR: 'it returns false'. Refute it at one input. -/
def askNoneWrong : ChangeSpec := { name := "askNone", fn := fun _ => fun
  | [d1, d2, d3] => { results := [.lit (.bool false)], args := [d1, d2, d3] }
  | _ => none }
def AskNoneWrongFalsely : Prop := askNoneRow.holds Try.pinned (OpenSpec.ofChange askNoneWrong)

/- THE SECOND FORM. 'bulk': how many values and letters a reading holds, each counted each time it is reached (what is shared counts as often as it is met; a slice's spare places count too). A statement '..UptoSaid' is the law's where the arguments, and the package variables that the reading takes, are together of bulk at most 1048576: NARROWER than '..Said'. Prove '..Said' where nothing that the law and all that it calls make is longer than what came in: it says more and counts as full. Else prove '..UptoSaid'. A law counts once. -/
mutual
def uptoBulk {H : Type} : DataW H → Nat
  | .lit (.string bytes) => bytes.length + 1
  | .lit _ => 1
  | .nil => 1
  | .ptr d => uptoBulk d + 1
  | .slice elems spare => uptoBulkAll elems + uptoBulkAll spare + 1
  | .agg parts => uptoBulkAll parts + 1
  | .iface _ d => uptoBulk d + 1
  | .map entries => uptoBulkEntries entries + 1
  | .held _ => 1
def uptoBulkAll {H : Type} : List (DataW H) → Nat
  | [] => 0
  | d :: r => uptoBulk d + uptoBulkAll r
def uptoBulkEntries {H : Type} : List (Lit × DataW H) → Nat
  | [] => 0
  | x :: r => uptoBulkEntry x + uptoBulkEntries r
def uptoBulkEntry {H : Type} : Lit × DataW H → Nat
  | (.string bytes, d) => bytes.length + uptoBulk d + 1
  | (_, d) => uptoBulk d + 1
 end
def uptoSmall : (H : Type) → List (DataW H) → Bool := fun _ ds => decide (uptoBulkAll ds ≤ 1048576)
def OpenSpec.upto (s : _root_.Go.ChangeSpec) : _root_.Go.OpenSpec := { _root_.Go.OpenSpec.ofChange s with cond := some uptoSmall }

/-- 'precentorlaw10.AskTells', WHERE WHAT IT READS IS OF BULK AT MOST 1048576: true; the input reads as it did. -/
def askTellsUptoRow : OpenClaim := { program := "ytddlbfapcodbmaa", sum := "31074967ea069028cf8ff8ef0f00dbf49e3605ef48c74ee7fe2b102d720e4f7c", func := "precentor/precentorlaw10.AskTells", spec := "askTells", unfollowed := true, recurses := true, apart := false, narrowed := true }
def AskTellsUptoSaid : Prop := askTellsUptoRow.holds Try.pinned (OpenSpec.upto askTellsSpec)

/-- 'precentorlaw10.AskEach', WHERE WHAT IT READS IS OF BULK AT MOST 1048576: true; the input reads as it did. -/
def askEachUptoRow : OpenClaim := { program := "ytddlbfapcodbmaa", sum := "31074967ea069028cf8ff8ef0f00dbf49e3605ef48c74ee7fe2b102d720e4f7c", func := "precentor/precentorlaw10.AskEach", spec := "askEach", unfollowed := true, recurses := true, apart := false, narrowed := true }
def AskEachUptoSaid : Prop := askEachUptoRow.holds Try.pinned (OpenSpec.upto askEachSpec)

/-- 'precentorlaw10.AskHushed', WHERE WHAT IT READS IS OF BULK AT MOST 1048576: true; the input reads as it did. -/
def askHushedUptoRow : OpenClaim := { program := "ytddlbfapcodbmaa", sum := "31074967ea069028cf8ff8ef0f00dbf49e3605ef48c74ee7fe2b102d720e4f7c", func := "precentor/precentorlaw10.AskHushed", spec := "askHushed", unfollowed := true, recurses := true, apart := false, narrowed := true }
def AskHushedUptoSaid : Prop := askHushedUptoRow.holds Try.pinned (OpenSpec.upto askHushedSpec)

/-- 'precentorlaw10.AskMany', WHERE WHAT IT READS IS OF BULK AT MOST 1048576: true; the input reads as it did. -/
def askManyUptoRow : OpenClaim := { program := "ytddlbfapcodbmaa", sum := "31074967ea069028cf8ff8ef0f00dbf49e3605ef48c74ee7fe2b102d720e4f7c", func := "precentor/precentorlaw10.AskMany", spec := "askMany", unfollowed := true, recurses := true, apart := false, narrowed := true }
def AskManyUptoSaid : Prop := askManyUptoRow.holds Try.pinned (OpenSpec.upto askManySpec)

/-- 'precentorlaw10.AskNone', WHERE WHAT IT READS IS OF BULK AT MOST 1048576: true; the input reads as it did. -/
def askNoneUptoRow : OpenClaim := { program := "ytddlbfapcodbmaa", sum := "31074967ea069028cf8ff8ef0f00dbf49e3605ef48c74ee7fe2b102d720e4f7c", func := "precentor/precentorlaw10.AskNone", spec := "askNone", unfollowed := true, recurses := true, apart := false, narrowed := true }
def AskNoneUptoSaid : Prop := askNoneUptoRow.holds Try.pinned (OpenSpec.upto askNoneSpec)

end Rows
end Go.Proofs.Ytddlbfapcodbmaa
