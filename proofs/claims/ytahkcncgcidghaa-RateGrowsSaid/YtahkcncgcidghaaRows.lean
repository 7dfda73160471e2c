/-
  No cell of these rows narrows 'for every input' (looked for: loops, veiled, ifaces, maps, wideKeys, modest, calm, conditions, laid).
  DERIVED. THE GIVEN ROWS OF THIS SEAT. 4 by the template 'for every input the law returns true; each argument reads behind the call as it read before'; 0 by the template 'total and deterministic' (their statements: YtahkcncgcidghaaTotals.lean).
  GIVEN WITH THE SEED: the statements are not yours to turn. If you find one false, say at which input.
  Laid BY PROGRAM, IN A SANDBOX (cutbox-rows.mjs): the forced cells as the released guide's own fill.sh prints them over the translation 24a1a2b135900b91… (all of the seat's roots in one cut). By AI agents, Wed Nov 11 2026. No macro, syntax, notation, axiom, sorry.
-/
import Derived.Test.YtahkcncgcidghaaChecked
import GoSem.Claim
import GoSem.ClaimJoined
import GoSem.ClaimMapViews
import Derived.JoinedTies
import Derived.KernelRfl
namespace Go.Proofs.Ytahkcncgcidghaa
/- THE CELL 'sum', in the pinned program and in every row, IS THE sha256 OF THE DUMP (.gsa) THAT YtahkcncgcidghaaProg.lean LOADS. Nothing in Lean hashes anything: it is a label: what it is worth is what the hold of that sum in a sandbox is worth. -/
noncomputable def Try.pinned : Pinned := { name := "ytahkcncgcidghaa", sum := "24a1a2b135900b91e98401050d4c54c2e2a2b65b15dc5e17388db1aea38563f1", checked := Try.checked }
namespace Rows
def none {H : Type} : Left H := { results := [], args := [] }

/-- 'precentorlaw11.RateTells': WHATEVER THE INPUT: true; the input reads as it did. -/
def rateTellsSpec : ChangeSpec := { name := "rateTells", fn := fun _ => fun
  | [d] => { results := [.lit (.bool true)], args := [d] }
  | _ => none }
def rateTellsRow : OpenClaim := { program := "ytahkcncgcidghaa", sum := "24a1a2b135900b91e98401050d4c54c2e2a2b65b15dc5e17388db1aea38563f1", func := "precentor/precentorlaw11.RateTells", spec := "rateTells", inPlace := ["math.archFloor", "math.Float64bits", "math.Float64frombits", "math.archTrunc"], apart := false }
def RateTellsSaid : Prop := rateTellsRow.holds Try.pinned (OpenSpec.ofChange rateTellsSpec)

/-- ITS FALSE NEIGHBOUR: 'it returns false'. Refute it at one input. -/
def rateTellsWrong : ChangeSpec := { name := "rateTells", fn := fun _ => fun
  | [d] => { results := [.lit (.bool false)], args := [d] }
  | _ => none }
def RateTellsWrongFalsely : Prop := rateTellsRow.holds Try.pinned (OpenSpec.ofChange rateTellsWrong)

/-- 'precentorlaw11.RateStays': WHATEVER THE INPUT: true; the input reads as it did. -/
def rateStaysSpec : ChangeSpec := { name := "rateStays", fn := fun _ => fun
  | [d] => { results := [.lit (.bool true)], args := [d] }
  | _ => none }
def rateStaysRow : OpenClaim := { program := "ytahkcncgcidghaa", sum := "24a1a2b135900b91e98401050d4c54c2e2a2b65b15dc5e17388db1aea38563f1", func := "precentor/precentorlaw11.RateStays", spec := "rateStays", inPlace := ["math.archFloor", "math.Float64bits", "math.Float64frombits", "math.archTrunc"], apart := false }
def RateStaysSaid : Prop := rateStaysRow.holds Try.pinned (OpenSpec.ofChange rateStaysSpec)

/-- ITS FALSE NEIGHBOUR: 'it returns false'. Refute it at one input. -/
def rateStaysWrong : ChangeSpec := { name := "rateStays", fn := fun _ => fun
  | [d] => { results := [.lit (.bool false)], args := [d] }
  | _ => none }
def RateStaysWrongFalsely : Prop := rateStaysRow.holds Try.pinned (OpenSpec.ofChange rateStaysWrong)

/-- 'precentorlaw11.RateBounds': WHATEVER THE INPUT: true; the input reads as it did. -/
def rateBoundsSpec : ChangeSpec := { name := "rateBounds", fn := fun _ => fun
  | [d1, d2, d3] => { results := [.lit (.bool true)], args := [d1, d2, d3] }
  | _ => none }
def rateBoundsRow : OpenClaim := { program := "ytahkcncgcidghaa", sum := "24a1a2b135900b91e98401050d4c54c2e2a2b65b15dc5e17388db1aea38563f1", func := "precentor/precentorlaw11.RateBounds", spec := "rateBounds", inPlace := ["math.archFloor", "math.Float64bits", "math.Float64frombits", "math.archTrunc"], apart := false }
def RateBoundsSaid : Prop := rateBoundsRow.holds Try.pinned (OpenSpec.ofChange rateBoundsSpec)

/-- ITS FALSE NEIGHBOUR: 'it returns false'. Refute it at one input. -/
def rateBoundsWrong : ChangeSpec := { name := "rateBounds", fn := fun _ => fun
  | [d1, d2, d3] => { results := [.lit (.bool false)], args := [d1, d2, d3] }
  | _ => none }
def RateBoundsWrongFalsely : Prop := rateBoundsRow.holds Try.pinned (OpenSpec.ofChange rateBoundsWrong)

/-- 'precentorlaw11.RateGrows': WHATEVER THE INPUT: true; the input reads as it did. -/
def rateGrowsSpec : ChangeSpec := { name := "rateGrows", fn := fun _ => fun
  | [d] => { results := [.lit (.bool true)], args := [d] }
  | _ => none }
def rateGrowsRow : OpenClaim := { program := "ytahkcncgcidghaa", sum := "24a1a2b135900b91e98401050d4c54c2e2a2b65b15dc5e17388db1aea38563f1", func := "precentor/precentorlaw11.RateGrows", spec := "rateGrows", inPlace := ["math.archFloor", "math.Float64bits", "math.Float64frombits", "math.archTrunc"], apart := false }
def RateGrowsSaid : Prop := rateGrowsRow.holds Try.pinned (OpenSpec.ofChange rateGrowsSpec)

/-- ITS FALSE NEIGHBOUR: 'it returns false'. Refute it at one input. -/
def rateGrowsWrong : ChangeSpec := { name := "rateGrows", fn := fun _ => fun
  | [d] => { results := [.lit (.bool false)], args := [d] }
  | _ => none }
def RateGrowsWrongFalsely : Prop := rateGrowsRow.holds Try.pinned (OpenSpec.ofChange rateGrowsWrong)

/- THE SECOND FORM. 'bulk': how many values and letters a reading holds, each counted each time it is reached (what is shared counts as often as it is met; a slice's spare places count too). A statement '..UptoSaid' is the law's where the arguments, and the package variables that the reading takes, are together of bulk at most 1048576: NARROWER than '..Said'. Prove '..Said' where nothing that the law and all that it calls make is longer than what came in: it says more and counts as full. Else prove '..UptoSaid'. A law counts once. -/
mutual
def uptoBulk {H : Type} : DataW H → Nat
  | .lit (.string bytes) => bytes.length + 1
  | .lit _ => 1
  | .nil => 1
  | .ptr d => uptoBulk d + 1
  | .slice elems spare => uptoBulkAll elems + uptoBulkAll spare + 1
  | .agg parts => uptoBulkAll parts + 1
  | .iface _ d => uptoBulk d + 1
  | .map entries => uptoBulkEntries entries + 1
  | .held _ => 1
def uptoBulkAll {H : Type} : List (DataW H) → Nat
  | [] => 0
  | d :: r => uptoBulk d + uptoBulkAll r
def uptoBulkEntries {H : Type} : List (Lit × DataW H) → Nat
  | [] => 0
  | x :: r => uptoBulkEntry x + uptoBulkEntries r
def uptoBulkEntry {H : Type} : Lit × DataW H → Nat
  | (.string bytes, d) => bytes.length + uptoBulk d + 1
  | (_, d) => uptoBulk d + 1
 end
def uptoSmall : (H : Type) → List (DataW H) → Bool := fun _ ds => decide (uptoBulkAll ds ≤ 1048576)
def OpenSpec.upto (s : _root_.Go.ChangeSpec) : _root_.Go.OpenSpec := { _root_.Go.OpenSpec.ofChange s with cond := some uptoSmall }

/-- 'precentorlaw11.RateTells', WHERE WHAT IT READS IS OF BULK AT MOST 1048576: true; the input reads as it did. -/
def rateTellsUptoRow : OpenClaim := { program := "ytahkcncgcidghaa", sum := "24a1a2b135900b91e98401050d4c54c2e2a2b65b15dc5e17388db1aea38563f1", func := "precentor/precentorlaw11.RateTells", spec := "rateTells", inPlace := ["math.archFloor", "math.Float64bits", "math.Float64frombits", "math.archTrunc"], apart := false, narrowed := true }
def RateTellsUptoSaid : Prop := rateTellsUptoRow.holds Try.pinned (OpenSpec.upto rateTellsSpec)

/-- 'precentorlaw11.RateStays', WHERE WHAT IT READS IS OF BULK AT MOST 1048576: true; the input reads as it did. -/
def rateStaysUptoRow : OpenClaim := { program := "ytahkcncgcidghaa", sum := "24a1a2b135900b91e98401050d4c54c2e2a2b65b15dc5e17388db1aea38563f1", func := "precentor/precentorlaw11.RateStays", spec := "rateStays", inPlace := ["math.archFloor", "math.Float64bits", "math.Float64frombits", "math.archTrunc"], apart := false, narrowed := true }
def RateStaysUptoSaid : Prop := rateStaysUptoRow.holds Try.pinned (OpenSpec.upto rateStaysSpec)

/-- 'precentorlaw11.RateBounds', WHERE WHAT IT READS IS OF BULK AT MOST 1048576: true; the input reads as it did. -/
def rateBoundsUptoRow : OpenClaim := { program := "ytahkcncgcidghaa", sum := "24a1a2b135900b91e98401050d4c54c2e2a2b65b15dc5e17388db1aea38563f1", func := "precentor/precentorlaw11.RateBounds", spec := "rateBounds", inPlace := ["math.archFloor", "math.Float64bits", "math.Float64frombits", "math.archTrunc"], apart := false, narrowed := true }
def RateBoundsUptoSaid : Prop := rateBoundsUptoRow.holds Try.pinned (OpenSpec.upto rateBoundsSpec)

/-- 'precentorlaw11.RateGrows', WHERE WHAT IT READS IS OF BULK AT MOST 1048576: true; the input reads as it did. -/
def rateGrowsUptoRow : OpenClaim := { program := "ytahkcncgcidghaa", sum := "24a1a2b135900b91e98401050d4c54c2e2a2b65b15dc5e17388db1aea38563f1", func := "precentor/precentorlaw11.RateGrows", spec := "rateGrows", inPlace := ["math.archFloor", "math.Float64bits", "math.Float64frombits", "math.archTrunc"], apart := false, narrowed := true }
def RateGrowsUptoSaid : Prop := rateGrowsUptoRow.holds Try.pinned (OpenSpec.upto rateGrowsSpec)

end Rows
end Go.Proofs.Ytahkcncgcidghaa
