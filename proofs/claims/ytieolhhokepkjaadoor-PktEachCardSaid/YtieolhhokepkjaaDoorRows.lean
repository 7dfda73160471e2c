/-
  NARROWER THAN 'FOR EVERY INPUT', by the rows' own cells (each row's printed sentence says how): PktTells: laid · PktSealed: laid · PktBack: laid · PktSpoilt: laid · PktLengths: laid · PktEach: laid.
  DERIVED. THE GIVEN ROWS OF THIS SEAT. 6 by the template 'for every input the law returns true; each argument reads behind the call as it read before'; 0 by the template 'total and deterministic' (their statements: YtieolhhokepkjaaDoorTotals.lean).
  GIVEN WITH THE SEED: the statements are not yours to turn. If you find one false, say at which input.
  Laid BY PROGRAM, IN A SANDBOX (cutbox-rows.mjs): the forced cells as the released guide's own fill.sh prints them over the translation b470544aabd614a0… (all of the seat's roots in one cut). By AI agents, Wed Nov 11 2026. No macro, syntax, notation, axiom, sorry.
-/
import Derived.Test.YtieolhhokepkjaaDoorChecked
import GoSem.Claim
import GoSem.ClaimJoined
import GoSem.ClaimMapViews
import Derived.JoinedTies
import Derived.KernelRfl
namespace Go.Proofs.YtieolhhokepkjaaDoor
/- THE CELL 'sum', in the pinned program and in every row, IS THE sha256 OF THE DUMP (.gsa) THAT YtieolhhokepkjaaDoorProg.lean LOADS. Nothing in Lean hashes anything: it is a label: what it is worth is what the hold of that sum in a sandbox is worth. -/
noncomputable def Tryd.pinned : Pinned := { name := "ytieolhhokepkjaadoor", sum := "b470544aabd614a0447a440b0842d62e9280e6e75c2526fa72e3bb7fa3ff930b", checked := Tryd.checked }
namespace Rows
def none {H : Type} : Left H := { results := [], args := [] }

/- WHAT THE LISTED PACKAGE-LEVEL VARIABLES READ AS WHEN THE CALL BEGINS. Each datum BY PROGRAM (the guide's laid-datum.mjs) off the statement by which the dump's own 'gosem.cut.vars' lays the variable. In a bare row this is a premise. The card (YtieolhhokepkjaaDoorCards.lean) ties it to the program's text. -/
def laid_precentor_num_bounds {H : Type} : DataW H := .agg [.lit (.int .i64 0), .lit (.int .i64 255), .lit (.int .i64 65535), .lit (.int .i64 0), .lit (.int .i64 0), .lit (.int .i64 0), .lit (.int .i64 0), .lit (.int .i64 0), .lit (.int .i64 4611686018427387904)]

/-- 'precentorlaw04.PktTells': WHATEVER THE INPUT: true; the input reads as it did. -/
def pktTellsSpec : ChangeSpec := { name := "pktTells", fn := fun _ => fun
  | [d1, d2, d3] => { results := [.lit (.bool true)], args := [d1, d2, d3] }
  | _ => none }
def pktTellsRow : OpenClaim := { program := "ytieolhhokepkjaadoor", sum := "b470544aabd614a0447a440b0842d62e9280e6e75c2526fa72e3bb7fa3ff930b", func := "precentor/precentorlaw04.PktTells", spec := "pktTells", unfollowed := true, recurses := true, named := ["precentor/num.bounds"], apart := false, laid := [("precentor/num.bounds", laid_precentor_num_bounds)] }
def PktTellsSaid : Prop := pktTellsRow.holds Tryd.pinned (OpenSpec.ofChange pktTellsSpec)

/-- ITS FALSE NEIGHBOUR: 'it returns false'. Refute it at one input. -/
def pktTellsWrong : ChangeSpec := { name := "pktTells", fn := fun _ => fun
  | [d1, d2, d3] => { results := [.lit (.bool false)], args := [d1, d2, d3] }
  | _ => none }
def PktTellsWrongFalsely : Prop := pktTellsRow.holds Tryd.pinned (OpenSpec.ofChange pktTellsWrong)

/-- 'precentorlaw04.PktSealed': WHATEVER THE INPUT: true; the input reads as it did. -/
def pktSealedSpec : ChangeSpec := { name := "pktSealed", fn := fun _ => fun
  | [d] => { results := [.lit (.bool true)], args := [d] }
  | _ => none }
def pktSealedRow : OpenClaim := { program := "ytieolhhokepkjaadoor", sum := "b470544aabd614a0447a440b0842d62e9280e6e75c2526fa72e3bb7fa3ff930b", func := "precentor/precentorlaw04.PktSealed", spec := "pktSealed", unfollowed := true, recurses := true, named := ["precentor/num.bounds"], apart := false, laid := [("precentor/num.bounds", laid_precentor_num_bounds)] }
def PktSealedSaid : Prop := pktSealedRow.holds Tryd.pinned (OpenSpec.ofChange pktSealedSpec)

/-- ITS FALSE NEIGHBOUR: 'it returns false'. Refute it at one input. -/
def pktSealedWrong : ChangeSpec := { name := "pktSealed", fn := fun _ => fun
  | [d] => { results := [.lit (.bool false)], args := [d] }
  | _ => none }
def PktSealedWrongFalsely : Prop := pktSealedRow.holds Tryd.pinned (OpenSpec.ofChange pktSealedWrong)

/-- 'precentorlaw04.PktBack': WHATEVER THE INPUT: true; the input reads as it did. -/
def pktBackSpec : ChangeSpec := { name := "pktBack", fn := fun _ => fun
  | [d1, d2, d3] => { results := [.lit (.bool true)], args := [d1, d2, d3] }
  | _ => none }
def pktBackRow : OpenClaim := { program := "ytieolhhokepkjaadoor", sum := "b470544aabd614a0447a440b0842d62e9280e6e75c2526fa72e3bb7fa3ff930b", func := "precentor/precentorlaw04.PktBack", spec := "pktBack", unfollowed := true, recurses := true, named := ["precentor/num.bounds"], apart := false, laid := [("precentor/num.bounds", laid_precentor_num_bounds)] }
def PktBackSaid : Prop := pktBackRow.holds Tryd.pinned (OpenSpec.ofChange pktBackSpec)

/-- ITS FALSE NEIGHBOUR: 'it returns false'. Refute it at one input. -/
def pktBackWrong : ChangeSpec := { name := "pktBack", fn := fun _ => fun
  | [d1, d2, d3] => { results := [.lit (.bool false)], args := [d1, d2, d3] }
  | _ => none }
def PktBackWrongFalsely : Prop := pktBackRow.holds Tryd.pinned (OpenSpec.ofChange pktBackWrong)

/-- 'precentorlaw04.PktSpoilt': WHATEVER THE INPUT: true; the input reads as it did. -/
def pktSpoiltSpec : ChangeSpec := { name := "pktSpoilt", fn := fun _ => fun
  | [d1, d2, d3] => { results := [.lit (.bool true)], args := [d1, d2, d3] }
  | _ => none }
def pktSpoiltRow : OpenClaim := { program := "ytieolhhokepkjaadoor", sum := "b470544aabd614a0447a440b0842d62e9280e6e75c2526fa72e3bb7fa3ff930b", func := "precentor/precentorlaw04.PktSpoilt", spec := "pktSpoilt", unfollowed := true, recurses := true, named := ["precentor/num.bounds"], apart := false, laid := [("precentor/num.bounds", laid_precentor_num_bounds)] }
def PktSpoiltSaid : Prop := pktSpoiltRow.holds Tryd.pinned (OpenSpec.ofChange pktSpoiltSpec)

/-- ITS FALSE NEIGHBOUR: 'it returns false'. Refute it at one input. -/
def pktSpoiltWrong : ChangeSpec := { name := "pktSpoilt", fn := fun _ => fun
  | [d1, d2, d3] => { results := [.lit (.bool false)], args := [d1, d2, d3] }
  | _ => none }
def PktSpoiltWrongFalsely : Prop := pktSpoiltRow.holds Tryd.pinned (OpenSpec.ofChange pktSpoiltWrong)

/-- 'precentorlaw04.PktLengths': WHATEVER THE INPUT: true; the input reads as it did. -/
def pktLengthsSpec : ChangeSpec := { name := "pktLengths", fn := fun _ => fun
  | [d] => { results := [.lit (.bool true)], args := [d] }
  | _ => none }
def pktLengthsRow : OpenClaim := { program := "ytieolhhokepkjaadoor", sum := "b470544aabd614a0447a440b0842d62e9280e6e75c2526fa72e3bb7fa3ff930b", func := "precentor/precentorlaw04.PktLengths", spec := "pktLengths", unfollowed := true, recurses := true, named := ["precentor/num.bounds"], apart := false, laid := [("precentor/num.bounds", laid_precentor_num_bounds)] }
def PktLengthsSaid : Prop := pktLengthsRow.holds Tryd.pinned (OpenSpec.ofChange pktLengthsSpec)

/-- ITS FALSE NEIGHBOUR: 'it returns false'. Refute it at one input. -/
def pktLengthsWrong : ChangeSpec := { name := "pktLengths", fn := fun _ => fun
  | [d] => { results := [.lit (.bool false)], args := [d] }
  | _ => none }
def PktLengthsWrongFalsely : Prop := pktLengthsRow.holds Tryd.pinned (OpenSpec.ofChange pktLengthsWrong)

/-- 'precentorlaw04.PktEach': WHATEVER THE INPUT: true; the input reads as it did. -/
def pktEachSpec : ChangeSpec := { name := "pktEach", fn := fun _ => fun
  | [d1, d2, d3] => { results := [.lit (.bool true)], args := [d1, d2, d3] }
  | _ => none }
def pktEachRow : OpenClaim := { program := "ytieolhhokepkjaadoor", sum := "b470544aabd614a0447a440b0842d62e9280e6e75c2526fa72e3bb7fa3ff930b", func := "precentor/precentorlaw04.PktEach", spec := "pktEach", unfollowed := true, recurses := true, named := ["precentor/num.bounds"], apart := false, laid := [("precentor/num.bounds", laid_precentor_num_bounds)] }
def PktEachSaid : Prop := pktEachRow.holds Tryd.pinned (OpenSpec.ofChange pktEachSpec)

/-- ITS FALSE NEIGHBOUR: 'it returns false'. Refute it at one input. -/
def pktEachWrong : ChangeSpec := { name := "pktEach", fn := fun _ => fun
  | [d1, d2, d3] => { results := [.lit (.bool false)], args := [d1, d2, d3] }
  | _ => none }
def PktEachWrongFalsely : Prop := pktEachRow.holds Tryd.pinned (OpenSpec.ofChange pktEachWrong)

/- THE SECOND FORM. 'bulk': how many values and letters a reading holds, each counted each time it is reached (what is shared counts as often as it is met; a slice's spare places count too). A statement '..UptoSaid' is the law's where the arguments, and the package variables that the reading takes, are together of bulk at most 1048576: NARROWER than '..Said'. Prove '..Said' where nothing that the law and all that it calls make is longer than what came in: it says more and counts as full. Else prove '..UptoSaid'. A law counts once. -/
mutual
def uptoBulk {H : Type} : DataW H → Nat
  | .lit (.string bytes) => bytes.length + 1
  | .lit _ => 1
  | .nil => 1
  | .ptr d => uptoBulk d + 1
  | .slice elems spare => uptoBulkAll elems + uptoBulkAll spare + 1
  | .agg parts => uptoBulkAll parts + 1
  | .iface _ d => uptoBulk d + 1
  | .map entries => uptoBulkEntries entries + 1
  | .held _ => 1
def uptoBulkAll {H : Type} : List (DataW H) → Nat
  | [] => 0
  | d :: r => uptoBulk d + uptoBulkAll r
def uptoBulkEntries {H : Type} : List (Lit × DataW H) → Nat
  | [] => 0
  | x :: r => uptoBulkEntry x + uptoBulkEntries r
def uptoBulkEntry {H : Type} : Lit × DataW H → Nat
  | (.string bytes, d) => bytes.length + uptoBulk d + 1
  | (_, d) => uptoBulk d + 1
 end
def uptoSmall : (H : Type) → List (DataW H) → Bool := fun _ ds => decide (uptoBulkAll ds ≤ 1048576)
def OpenSpec.upto (s : _root_.Go.ChangeSpec) : _root_.Go.OpenSpec := { _root_.Go.OpenSpec.ofChange s with cond := some uptoSmall }

/-- 'precentorlaw04.PktTells', WHERE WHAT IT READS IS OF BULK AT MOST 1048576: true; the input reads as it did. -/
def pktTellsUptoRow : OpenClaim := { program := "ytieolhhokepkjaadoor", sum := "b470544aabd614a0447a440b0842d62e9280e6e75c2526fa72e3bb7fa3ff930b", func := "precentor/precentorlaw04.PktTells", spec := "pktTells", unfollowed := true, recurses := true, named := ["precentor/num.bounds"], apart := false, laid := [("precentor/num.bounds", laid_precentor_num_bounds)], narrowed := true }
def PktTellsUptoSaid : Prop := pktTellsUptoRow.holds Tryd.pinned (OpenSpec.upto pktTellsSpec)

/-- 'precentorlaw04.PktSealed', WHERE WHAT IT READS IS OF BULK AT MOST 1048576: true; the input reads as it did. -/
def pktSealedUptoRow : OpenClaim := { program := "ytieolhhokepkjaadoor", sum := "b470544aabd614a0447a440b0842d62e9280e6e75c2526fa72e3bb7fa3ff930b", func := "precentor/precentorlaw04.PktSealed", spec := "pktSealed", unfollowed := true, recurses := true, named := ["precentor/num.bounds"], apart := false, laid := [("precentor/num.bounds", laid_precentor_num_bounds)], narrowed := true }
def PktSealedUptoSaid : Prop := pktSealedUptoRow.holds Tryd.pinned (OpenSpec.upto pktSealedSpec)

/-- 'precentorlaw04.PktBack', WHERE WHAT IT READS IS OF BULK AT MOST 1048576: true; the input reads as it did. -/
def pktBackUptoRow : OpenClaim := { program := "ytieolhhokepkjaadoor", sum := "b470544aabd614a0447a440b0842d62e9280e6e75c2526fa72e3bb7fa3ff930b", func := "precentor/precentorlaw04.PktBack", spec := "pktBack", unfollowed := true, recurses := true, named := ["precentor/num.bounds"], apart := false, laid := [("precentor/num.bounds", laid_precentor_num_bounds)], narrowed := true }
def PktBackUptoSaid : Prop := pktBackUptoRow.holds Tryd.pinned (OpenSpec.upto pktBackSpec)

/-- 'precentorlaw04.PktSpoilt', WHERE WHAT IT READS IS OF BULK AT MOST 1048576: true; the input reads as it did. -/
def pktSpoiltUptoRow : OpenClaim := { program := "ytieolhhokepkjaadoor", sum := "b470544aabd614a0447a440b0842d62e9280e6e75c2526fa72e3bb7fa3ff930b", func := "precentor/precentorlaw04.PktSpoilt", spec := "pktSpoilt", unfollowed := true, recurses := true, named := ["precentor/num.bounds"], apart := false, laid := [("precentor/num.bounds", laid_precentor_num_bounds)], narrowed := true }
def PktSpoiltUptoSaid : Prop := pktSpoiltUptoRow.holds Tryd.pinned (OpenSpec.upto pktSpoiltSpec)

/-- 'precentorlaw04.PktLengths', WHERE WHAT IT READS IS OF BULK AT MOST 1048576: true; the input reads as it did. -/
def pktLengthsUptoRow : OpenClaim := { program := "ytieolhhokepkjaadoor", sum := "b470544aabd614a0447a440b0842d62e9280e6e75c2526fa72e3bb7fa3ff930b", func := "precentor/precentorlaw04.PktLengths", spec := "pktLengths", unfollowed := true, recurses := true, named := ["precentor/num.bounds"], apart := false, laid := [("precentor/num.bounds", laid_precentor_num_bounds)], narrowed := true }
def PktLengthsUptoSaid : Prop := pktLengthsUptoRow.holds Tryd.pinned (OpenSpec.upto pktLengthsSpec)

/-- 'precentorlaw04.PktEach', WHERE WHAT IT READS IS OF BULK AT MOST 1048576: true; the input reads as it did. -/
def pktEachUptoRow : OpenClaim := { program := "ytieolhhokepkjaadoor", sum := "b470544aabd614a0447a440b0842d62e9280e6e75c2526fa72e3bb7fa3ff930b", func := "precentor/precentorlaw04.PktEach", spec := "pktEach", unfollowed := true, recurses := true, named := ["precentor/num.bounds"], apart := false, laid := [("precentor/num.bounds", laid_precentor_num_bounds)], narrowed := true }
def PktEachUptoSaid : Prop := pktEachUptoRow.holds Tryd.pinned (OpenSpec.upto pktEachSpec)

end Rows
end Go.Proofs.YtieolhhokepkjaaDoor
