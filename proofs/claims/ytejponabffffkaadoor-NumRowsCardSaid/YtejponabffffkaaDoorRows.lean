/-
  NARROWER THAN 'FOR EVERY INPUT', by the rows' own cells (each row's printed sentence says how): NumTells: laid · NumBack: laid · NumRows: laid · NumOrder: laid · NumSplit: laid · NumShort: laid.
  DERIVED. THE GIVEN ROWS OF THIS SEAT. 6 by the template 'for every input the law returns true; each argument reads behind the call as it read before'; 0 by the template 'total and deterministic' (their statements: YtejponabffffkaaDoorTotals.lean).
  GIVEN WITH THE SEED: the statements are not yours to turn. If you find one false, say at which input.
  Laid BY PROGRAM, IN A SANDBOX (cutbox-rows.mjs): the forced cells as the released guide's own fill.sh prints them over the translation f485da9eb11c4c8a… (all of the seat's roots in one cut). By AI agents, Wed Nov 11 2026. No macro, syntax, notation, axiom, sorry.
-/
import Derived.Test.YtejponabffffkaaDoorChecked
import GoSem.Claim
import GoSem.ClaimJoined
import GoSem.ClaimMapViews
import Derived.JoinedTies
import Derived.KernelRfl
namespace Go.Proofs.YtejponabffffkaaDoor
/- THE CELL 'sum', in the pinned program and in every row, IS THE sha256 OF THE DUMP (.gsa) THAT YtejponabffffkaaDoorProg.lean LOADS. Nothing in Lean hashes anything: it is a label: what it is worth is what the hold of that sum in a sandbox is worth. -/
noncomputable def Tryd.pinned : Pinned := { name := "ytejponabffffkaadoor", sum := "f485da9eb11c4c8a7819ed3280105c985908773a75002549f8895925953927fb", checked := Tryd.checked }
namespace Rows
def none {H : Type} : Left H := { results := [], args := [] }

/- WHAT THE LISTED PACKAGE-LEVEL VARIABLES READ AS WHEN THE CALL BEGINS. Each datum BY PROGRAM (the guide's laid-datum.mjs) off the statement by which the dump's own 'gosem.cut.vars' lays the variable. In a bare row this is a premise. The card (YtejponabffffkaaDoorCards.lean) ties it to the program's text. -/
def laid_precentor_num_bounds {H : Type} : DataW H := .agg [.lit (.int .i64 0), .lit (.int .i64 255), .lit (.int .i64 65535), .lit (.int .i64 0), .lit (.int .i64 0), .lit (.int .i64 0), .lit (.int .i64 0), .lit (.int .i64 0), .lit (.int .i64 4611686018427387904)]

/-- 'precentorlaw02.NumTells': WHATEVER THE INPUT: true; the input reads as it did. -/
def numTellsSpec : ChangeSpec := { name := "numTells", fn := fun _ => fun
  | [d] => { results := [.lit (.bool true)], args := [d] }
  | _ => none }
def numTellsRow : OpenClaim := { program := "ytejponabffffkaadoor", sum := "f485da9eb11c4c8a7819ed3280105c985908773a75002549f8895925953927fb", func := "precentor/precentorlaw02.NumTells", spec := "numTells", named := ["precentor/num.bounds"], apart := false, laid := [("precentor/num.bounds", laid_precentor_num_bounds)] }
def NumTellsSaid : Prop := numTellsRow.holds Tryd.pinned (OpenSpec.ofChange numTellsSpec)

/-- ITS FALSE NEIGHBOUR: 'it returns false'. Refute it at one input. -/
def numTellsWrong : ChangeSpec := { name := "numTells", fn := fun _ => fun
  | [d] => { results := [.lit (.bool false)], args := [d] }
  | _ => none }
def NumTellsWrongFalsely : Prop := numTellsRow.holds Tryd.pinned (OpenSpec.ofChange numTellsWrong)

/-- 'precentorlaw02.NumBack': WHATEVER THE INPUT: true; the input reads as it did. -/
def numBackSpec : ChangeSpec := { name := "numBack", fn := fun _ => fun
  | [d1, d2, d3] => { results := [.lit (.bool true)], args := [d1, d2, d3] }
  | _ => none }
def numBackRow : OpenClaim := { program := "ytejponabffffkaadoor", sum := "f485da9eb11c4c8a7819ed3280105c985908773a75002549f8895925953927fb", func := "precentor/precentorlaw02.NumBack", spec := "numBack", named := ["precentor/num.bounds"], apart := false, laid := [("precentor/num.bounds", laid_precentor_num_bounds)] }
def NumBackSaid : Prop := numBackRow.holds Tryd.pinned (OpenSpec.ofChange numBackSpec)

/-- ITS FALSE NEIGHBOUR: 'it returns false'. Refute it at one input. -/
def numBackWrong : ChangeSpec := { name := "numBack", fn := fun _ => fun
  | [d1, d2, d3] => { results := [.lit (.bool false)], args := [d1, d2, d3] }
  | _ => none }
def NumBackWrongFalsely : Prop := numBackRow.holds Tryd.pinned (OpenSpec.ofChange numBackWrong)

/-- 'precentorlaw02.NumRows': WHATEVER THE INPUT: true; the input reads as it did. -/
def numRowsSpec : ChangeSpec := { name := "numRows", fn := fun _ => fun
  | [d] => { results := [.lit (.bool true)], args := [d] }
  | _ => none }
def numRowsRow : OpenClaim := { program := "ytejponabffffkaadoor", sum := "f485da9eb11c4c8a7819ed3280105c985908773a75002549f8895925953927fb", func := "precentor/precentorlaw02.NumRows", spec := "numRows", named := ["precentor/num.bounds"], apart := false, laid := [("precentor/num.bounds", laid_precentor_num_bounds)] }
def NumRowsSaid : Prop := numRowsRow.holds Tryd.pinned (OpenSpec.ofChange numRowsSpec)

/-- ITS FALSE NEIGHBOUR: 'it returns false'. Refute it at one input. -/
def numRowsWrong : ChangeSpec := { name := "numRows", fn := fun _ => fun
  | [d] => { results := [.lit (.bool false)], args := [d] }
  | _ => none }
def NumRowsWrongFalsely : Prop := numRowsRow.holds Tryd.pinned (OpenSpec.ofChange numRowsWrong)

/-- 'precentorlaw02.NumOrder': WHATEVER THE INPUT: true; the input reads as it did. -/
def numOrderSpec : ChangeSpec := { name := "numOrder", fn := fun _ => fun
  | [d1, d2, d3] => { results := [.lit (.bool true)], args := [d1, d2, d3] }
  | _ => none }
def numOrderRow : OpenClaim := { program := "ytejponabffffkaadoor", sum := "f485da9eb11c4c8a7819ed3280105c985908773a75002549f8895925953927fb", func := "precentor/precentorlaw02.NumOrder", spec := "numOrder", named := ["precentor/num.bounds"], apart := false, laid := [("precentor/num.bounds", laid_precentor_num_bounds)] }
def NumOrderSaid : Prop := numOrderRow.holds Tryd.pinned (OpenSpec.ofChange numOrderSpec)

/-- ITS FALSE NEIGHBOUR: 'it returns false'. Refute it at one input. -/
def numOrderWrong : ChangeSpec := { name := "numOrder", fn := fun _ => fun
  | [d1, d2, d3] => { results := [.lit (.bool false)], args := [d1, d2, d3] }
  | _ => none }
def NumOrderWrongFalsely : Prop := numOrderRow.holds Tryd.pinned (OpenSpec.ofChange numOrderWrong)

/-- 'precentorlaw02.NumSplit': WHATEVER THE INPUT: true; the input reads as it did. -/
def numSplitSpec : ChangeSpec := { name := "numSplit", fn := fun _ => fun
  | [d] => { results := [.lit (.bool true)], args := [d] }
  | _ => none }
def numSplitRow : OpenClaim := { program := "ytejponabffffkaadoor", sum := "f485da9eb11c4c8a7819ed3280105c985908773a75002549f8895925953927fb", func := "precentor/precentorlaw02.NumSplit", spec := "numSplit", named := ["precentor/num.bounds"], apart := false, laid := [("precentor/num.bounds", laid_precentor_num_bounds)] }
def NumSplitSaid : Prop := numSplitRow.holds Tryd.pinned (OpenSpec.ofChange numSplitSpec)

/-- ITS FALSE NEIGHBOUR: 'it returns false'. Refute it at one input. -/
def numSplitWrong : ChangeSpec := { name := "numSplit", fn := fun _ => fun
  | [d] => { results := [.lit (.bool false)], args := [d] }
  | _ => none }
def NumSplitWrongFalsely : Prop := numSplitRow.holds Tryd.pinned (OpenSpec.ofChange numSplitWrong)

/-- 'precentorlaw02.NumShort': WHATEVER THE INPUT: true; the input reads as it did. -/
def numShortSpec : ChangeSpec := { name := "numShort", fn := fun _ => fun
  | [d] => { results := [.lit (.bool true)], args := [d] }
  | _ => none }
def numShortRow : OpenClaim := { program := "ytejponabffffkaadoor", sum := "f485da9eb11c4c8a7819ed3280105c985908773a75002549f8895925953927fb", func := "precentor/precentorlaw02.NumShort", spec := "numShort", named := ["precentor/num.bounds"], apart := false, laid := [("precentor/num.bounds", laid_precentor_num_bounds)] }
def NumShortSaid : Prop := numShortRow.holds Tryd.pinned (OpenSpec.ofChange numShortSpec)

/-- ITS FALSE NEIGHBOUR: 'it returns false'. Refute it at one input. -/
def numShortWrong : ChangeSpec := { name := "numShort", fn := fun _ => fun
  | [d] => { results := [.lit (.bool false)], args := [d] }
  | _ => none }
def NumShortWrongFalsely : Prop := numShortRow.holds Tryd.pinned (OpenSpec.ofChange numShortWrong)

/- THE SECOND FORM. 'bulk': how many values and letters a reading holds, each counted each time it is reached (what is shared counts as often as it is met; a slice's spare places count too). A statement '..UptoSaid' is the law's where the arguments, and the package variables that the reading takes, are together of bulk at most 1048576: NARROWER than '..Said'. Prove '..Said' where nothing that the law and all that it calls make is longer than what came in: it says more and counts as full. Else prove '..UptoSaid'. A law counts once. -/
mutual
def uptoBulk {H : Type} : DataW H → Nat
  | .lit (.string bytes) => bytes.length + 1
  | .lit _ => 1
  | .nil => 1
  | .ptr d => uptoBulk d + 1
  | .slice elems spare => uptoBulkAll elems + uptoBulkAll spare + 1
  | .agg parts => uptoBulkAll parts + 1
  | .iface _ d => uptoBulk d + 1
  | .map entries => uptoBulkEntries entries + 1
  | .held _ => 1
def uptoBulkAll {H : Type} : List (DataW H) → Nat
  | [] => 0
  | d :: r => uptoBulk d + uptoBulkAll r
def uptoBulkEntries {H : Type} : List (Lit × DataW H) → Nat
  | [] => 0
  | x :: r => uptoBulkEntry x + uptoBulkEntries r
def uptoBulkEntry {H : Type} : Lit × DataW H → Nat
  | (.string bytes, d) => bytes.length + uptoBulk d + 1
  | (_, d) => uptoBulk d + 1
 end
def uptoSmall : (H : Type) → List (DataW H) → Bool := fun _ ds => decide (uptoBulkAll ds ≤ 1048576)
def OpenSpec.upto (s : _root_.Go.ChangeSpec) : _root_.Go.OpenSpec := { _root_.Go.OpenSpec.ofChange s with cond := some uptoSmall }

/-- 'precentorlaw02.NumTells', WHERE WHAT IT READS IS OF BULK AT MOST 1048576: true; the input reads as it did. -/
def numTellsUptoRow : OpenClaim := { program := "ytejponabffffkaadoor", sum := "f485da9eb11c4c8a7819ed3280105c985908773a75002549f8895925953927fb", func := "precentor/precentorlaw02.NumTells", spec := "numTells", named := ["precentor/num.bounds"], apart := false, laid := [("precentor/num.bounds", laid_precentor_num_bounds)], narrowed := true }
def NumTellsUptoSaid : Prop := numTellsUptoRow.holds Tryd.pinned (OpenSpec.upto numTellsSpec)

/-- 'precentorlaw02.NumBack', WHERE WHAT IT READS IS OF BULK AT MOST 1048576: true; the input reads as it did. -/
def numBackUptoRow : OpenClaim := { program := "ytejponabffffkaadoor", sum := "f485da9eb11c4c8a7819ed3280105c985908773a75002549f8895925953927fb", func := "precentor/precentorlaw02.NumBack", spec := "numBack", named := ["precentor/num.bounds"], apart := false, laid := [("precentor/num.bounds", laid_precentor_num_bounds)], narrowed := true }
def NumBackUptoSaid : Prop := numBackUptoRow.holds Tryd.pinned (OpenSpec.upto numBackSpec)

/-- 'precentorlaw02.NumRows', WHERE WHAT IT READS IS OF BULK AT MOST 1048576: true; the input reads as it did. -/
def numRowsUptoRow : OpenClaim := { program := "ytejponabffffkaadoor", sum := "f485da9eb11c4c8a7819ed3280105c985908773a75002549f8895925953927fb", func := "precentor/precentorlaw02.NumRows", spec := "numRows", named := ["precentor/num.bounds"], apart := false, laid := [("precentor/num.bounds", laid_precentor_num_bounds)], narrowed := true }
def NumRowsUptoSaid : Prop := numRowsUptoRow.holds Tryd.pinned (OpenSpec.upto numRowsSpec)

/-- 'precentorlaw02.NumOrder', WHERE WHAT IT READS IS OF BULK AT MOST 1048576: true; the input reads as it did. -/
def numOrderUptoRow : OpenClaim := { program := "ytejponabffffkaadoor", sum := "f485da9eb11c4c8a7819ed3280105c985908773a75002549f8895925953927fb", func := "precentor/precentorlaw02.NumOrder", spec := "numOrder", named := ["precentor/num.bounds"], apart := false, laid := [("precentor/num.bounds", laid_precentor_num_bounds)], narrowed := true }
def NumOrderUptoSaid : Prop := numOrderUptoRow.holds Tryd.pinned (OpenSpec.upto numOrderSpec)

/-- 'precentorlaw02.NumSplit', WHERE WHAT IT READS IS OF BULK AT MOST 1048576: true; the input reads as it did. -/
def numSplitUptoRow : OpenClaim := { program := "ytejponabffffkaadoor", sum := "f485da9eb11c4c8a7819ed3280105c985908773a75002549f8895925953927fb", func := "precentor/precentorlaw02.NumSplit", spec := "numSplit", named := ["precentor/num.bounds"], apart := false, laid := [("precentor/num.bounds", laid_precentor_num_bounds)], narrowed := true }
def NumSplitUptoSaid : Prop := numSplitUptoRow.holds Tryd.pinned (OpenSpec.upto numSplitSpec)

/-- 'precentorlaw02.NumShort', WHERE WHAT IT READS IS OF BULK AT MOST 1048576: true; the input reads as it did. -/
def numShortUptoRow : OpenClaim := { program := "ytejponabffffkaadoor", sum := "f485da9eb11c4c8a7819ed3280105c985908773a75002549f8895925953927fb", func := "precentor/precentorlaw02.NumShort", spec := "numShort", named := ["precentor/num.bounds"], apart := false, laid := [("precentor/num.bounds", laid_precentor_num_bounds)], narrowed := true }
def NumShortUptoSaid : Prop := numShortUptoRow.holds Tryd.pinned (OpenSpec.upto numShortSpec)

end Rows
end Go.Proofs.YtejponabffffkaaDoor
