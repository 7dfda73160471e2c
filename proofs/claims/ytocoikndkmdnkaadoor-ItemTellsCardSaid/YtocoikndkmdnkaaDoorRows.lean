/-
  NARROWER THAN 'FOR EVERY INPUT', by the rows' own cells (each row's printed sentence says how): ItemTells: laid · ItemBack: laid · ItemAlike: laid · ItemCut: laid · ItemHeads: laid · ItemBounds: laid.
  DERIVED. THE GIVEN ROWS OF THIS SEAT. 6 by the template 'for every input the law returns true; each argument reads behind the call as it read before'; 0 by the template 'total and deterministic' (their statements: YtocoikndkmdnkaaDoorTotals.lean).
  GIVEN WITH THE SEED: the statements are not yours to turn. If you find one false, say at which input.
  Laid BY PROGRAM, IN A SANDBOX (cutbox-rows.mjs): the forced cells as the released guide's own fill.sh prints them over the translation c07c84ec1c54cd38… (all of the seat's roots in one cut). By AI agents, Wed Nov 11 2026. No macro, syntax, notation, axiom, sorry.
-/
import Derived.Test.YtocoikndkmdnkaaDoorChecked
import GoSem.Claim
import GoSem.ClaimJoined
import GoSem.ClaimMapViews
import Derived.JoinedTies
import Derived.KernelRfl
namespace Go.Proofs.YtocoikndkmdnkaaDoor
/- THE CELL 'sum', in the pinned program and in every row, IS THE sha256 OF THE DUMP (.gsa) THAT YtocoikndkmdnkaaDoorProg.lean LOADS. Nothing in Lean hashes anything: it is a label: what it is worth is what the hold of that sum in a sandbox is worth. -/
noncomputable def Tryd.pinned : Pinned := { name := "ytocoikndkmdnkaadoor", sum := "c07c84ec1c54cd387647b9062f59990f82da05bee881503c9610e04f96418cf3", checked := Tryd.checked }
namespace Rows
def none {H : Type} : Left H := { results := [], args := [] }

/- WHAT THE LISTED PACKAGE-LEVEL VARIABLES READ AS WHEN THE CALL BEGINS. Each datum BY PROGRAM (the guide's laid-datum.mjs) off the statement by which the dump's own 'gosem.cut.vars' lays the variable. In a bare row this is a premise. The card (YtocoikndkmdnkaaDoorCards.lean) ties it to the program's text. -/
def laid_precentor_num_bounds {H : Type} : DataW H := .agg [.lit (.int .i64 0), .lit (.int .i64 255), .lit (.int .i64 65535), .lit (.int .i64 0), .lit (.int .i64 0), .lit (.int .i64 0), .lit (.int .i64 0), .lit (.int .i64 0), .lit (.int .i64 4611686018427387904)]

/-- 'precentorlaw03.ItemTells': WHATEVER THE INPUT: true; the input reads as it did. -/
def itemTellsSpec : ChangeSpec := { name := "itemTells", fn := fun _ => fun
  | [d1, d2, d3] => { results := [.lit (.bool true)], args := [d1, d2, d3] }
  | _ => none }
def itemTellsRow : OpenClaim := { program := "ytocoikndkmdnkaadoor", sum := "c07c84ec1c54cd387647b9062f59990f82da05bee881503c9610e04f96418cf3", func := "precentor/precentorlaw03.ItemTells", spec := "itemTells", unfollowed := true, recurses := true, named := ["precentor/num.bounds"], apart := false, laid := [("precentor/num.bounds", laid_precentor_num_bounds)] }
def ItemTellsSaid : Prop := itemTellsRow.holds Tryd.pinned (OpenSpec.ofChange itemTellsSpec)

/-- ITS FALSE NEIGHBOUR: 'it returns false'. Refute it at one input. -/
def itemTellsWrong : ChangeSpec := { name := "itemTells", fn := fun _ => fun
  | [d1, d2, d3] => { results := [.lit (.bool false)], args := [d1, d2, d3] }
  | _ => none }
def ItemTellsWrongFalsely : Prop := itemTellsRow.holds Tryd.pinned (OpenSpec.ofChange itemTellsWrong)

/-- 'precentorlaw03.ItemBack': WHATEVER THE INPUT: true; the input reads as it did. -/
def itemBackSpec : ChangeSpec := { name := "itemBack", fn := fun _ => fun
  | [d1, d2] => { results := [.lit (.bool true)], args := [d1, d2] }
  | _ => none }
def itemBackRow : OpenClaim := { program := "ytocoikndkmdnkaadoor", sum := "c07c84ec1c54cd387647b9062f59990f82da05bee881503c9610e04f96418cf3", func := "precentor/precentorlaw03.ItemBack", spec := "itemBack", unfollowed := true, recurses := true, named := ["precentor/num.bounds"], apart := false, laid := [("precentor/num.bounds", laid_precentor_num_bounds)] }
def ItemBackSaid : Prop := itemBackRow.holds Tryd.pinned (OpenSpec.ofChange itemBackSpec)

/-- ITS FALSE NEIGHBOUR: 'it returns false'. Refute it at one input. -/
def itemBackWrong : ChangeSpec := { name := "itemBack", fn := fun _ => fun
  | [d1, d2] => { results := [.lit (.bool false)], args := [d1, d2] }
  | _ => none }
def ItemBackWrongFalsely : Prop := itemBackRow.holds Tryd.pinned (OpenSpec.ofChange itemBackWrong)

/-- 'precentorlaw03.ItemAlike': WHATEVER THE INPUT: true; the input reads as it did. -/
def itemAlikeSpec : ChangeSpec := { name := "itemAlike", fn := fun _ => fun
  | [d1, d2] => { results := [.lit (.bool true)], args := [d1, d2] }
  | _ => none }
def itemAlikeRow : OpenClaim := { program := "ytocoikndkmdnkaadoor", sum := "c07c84ec1c54cd387647b9062f59990f82da05bee881503c9610e04f96418cf3", func := "precentor/precentorlaw03.ItemAlike", spec := "itemAlike", unfollowed := true, recurses := true, named := ["precentor/num.bounds"], apart := false, laid := [("precentor/num.bounds", laid_precentor_num_bounds)] }
def ItemAlikeSaid : Prop := itemAlikeRow.holds Tryd.pinned (OpenSpec.ofChange itemAlikeSpec)

/-- ITS FALSE NEIGHBOUR: 'it returns false'. Refute it at one input. -/
def itemAlikeWrong : ChangeSpec := { name := "itemAlike", fn := fun _ => fun
  | [d1, d2] => { results := [.lit (.bool false)], args := [d1, d2] }
  | _ => none }
def ItemAlikeWrongFalsely : Prop := itemAlikeRow.holds Tryd.pinned (OpenSpec.ofChange itemAlikeWrong)

/-- 'precentorlaw03.ItemCut': WHATEVER THE INPUT: true; the input reads as it did. -/
def itemCutSpec : ChangeSpec := { name := "itemCut", fn := fun _ => fun
  | [d1, d2, d3] => { results := [.lit (.bool true)], args := [d1, d2, d3] }
  | _ => none }
def itemCutRow : OpenClaim := { program := "ytocoikndkmdnkaadoor", sum := "c07c84ec1c54cd387647b9062f59990f82da05bee881503c9610e04f96418cf3", func := "precentor/precentorlaw03.ItemCut", spec := "itemCut", unfollowed := true, recurses := true, named := ["precentor/num.bounds"], apart := false, laid := [("precentor/num.bounds", laid_precentor_num_bounds)] }
def ItemCutSaid : Prop := itemCutRow.holds Tryd.pinned (OpenSpec.ofChange itemCutSpec)

/-- ITS FALSE NEIGHBOUR: 'it returns false'. Refute it at one input. -/
def itemCutWrong : ChangeSpec := { name := "itemCut", fn := fun _ => fun
  | [d1, d2, d3] => { results := [.lit (.bool false)], args := [d1, d2, d3] }
  | _ => none }
def ItemCutWrongFalsely : Prop := itemCutRow.holds Tryd.pinned (OpenSpec.ofChange itemCutWrong)

/-- 'precentorlaw03.ItemHeads': WHATEVER THE INPUT: true; the input reads as it did. -/
def itemHeadsSpec : ChangeSpec := { name := "itemHeads", fn := fun _ => fun
  | [d1, d2] => { results := [.lit (.bool true)], args := [d1, d2] }
  | _ => none }
def itemHeadsRow : OpenClaim := { program := "ytocoikndkmdnkaadoor", sum := "c07c84ec1c54cd387647b9062f59990f82da05bee881503c9610e04f96418cf3", func := "precentor/precentorlaw03.ItemHeads", spec := "itemHeads", unfollowed := true, recurses := true, named := ["precentor/num.bounds"], apart := false, laid := [("precentor/num.bounds", laid_precentor_num_bounds)] }
def ItemHeadsSaid : Prop := itemHeadsRow.holds Tryd.pinned (OpenSpec.ofChange itemHeadsSpec)

/-- ITS FALSE NEIGHBOUR: 'it returns false'. Refute it at one input. -/
def itemHeadsWrong : ChangeSpec := { name := "itemHeads", fn := fun _ => fun
  | [d1, d2] => { results := [.lit (.bool false)], args := [d1, d2] }
  | _ => none }
def ItemHeadsWrongFalsely : Prop := itemHeadsRow.holds Tryd.pinned (OpenSpec.ofChange itemHeadsWrong)

/-- 'precentorlaw03.ItemBounds': WHATEVER THE INPUT: true; the input reads as it did. -/
def itemBoundsSpec : ChangeSpec := { name := "itemBounds", fn := fun _ => fun
  | [d] => { results := [.lit (.bool true)], args := [d] }
  | _ => none }
def itemBoundsRow : OpenClaim := { program := "ytocoikndkmdnkaadoor", sum := "c07c84ec1c54cd387647b9062f59990f82da05bee881503c9610e04f96418cf3", func := "precentor/precentorlaw03.ItemBounds", spec := "itemBounds", unfollowed := true, recurses := true, named := ["precentor/num.bounds"], apart := false, laid := [("precentor/num.bounds", laid_precentor_num_bounds)] }
def ItemBoundsSaid : Prop := itemBoundsRow.holds Tryd.pinned (OpenSpec.ofChange itemBoundsSpec)

/-- ITS FALSE NEIGHBOUR: 'it returns false'. Refute it at one input. -/
def itemBoundsWrong : ChangeSpec := { name := "itemBounds", fn := fun _ => fun
  | [d] => { results := [.lit (.bool false)], args := [d] }
  | _ => none }
def ItemBoundsWrongFalsely : Prop := itemBoundsRow.holds Tryd.pinned (OpenSpec.ofChange itemBoundsWrong)

/- THE SECOND FORM. 'bulk': how many values and letters a reading holds, each counted each time it is reached (what is shared counts as often as it is met; a slice's spare places count too). A statement '..UptoSaid' is the law's where the arguments, and the package variables that the reading takes, are together of bulk at most 1048576: NARROWER than '..Said'. Prove '..Said' where nothing that the law and all that it calls make is longer than what came in: it says more and counts as full. Else prove '..UptoSaid'. A law counts once. -/
mutual
def uptoBulk {H : Type} : DataW H → Nat
  | .lit (.string bytes) => bytes.length + 1
  | .lit _ => 1
  | .nil => 1
  | .ptr d => uptoBulk d + 1
  | .slice elems spare => uptoBulkAll elems + uptoBulkAll spare + 1
  | .agg parts => uptoBulkAll parts + 1
  | .iface _ d => uptoBulk d + 1
  | .map entries => uptoBulkEntries entries + 1
  | .held _ => 1
def uptoBulkAll {H : Type} : List (DataW H) → Nat
  | [] => 0
  | d :: r => uptoBulk d + uptoBulkAll r
def uptoBulkEntries {H : Type} : List (Lit × DataW H) → Nat
  | [] => 0
  | x :: r => uptoBulkEntry x + uptoBulkEntries r
def uptoBulkEntry {H : Type} : Lit × DataW H → Nat
  | (.string bytes, d) => bytes.length + uptoBulk d + 1
  | (_, d) => uptoBulk d + 1
 end
def uptoSmall : (H : Type) → List (DataW H) → Bool := fun _ ds => decide (uptoBulkAll ds ≤ 1048576)
def OpenSpec.upto (s : _root_.Go.ChangeSpec) : _root_.Go.OpenSpec := { _root_.Go.OpenSpec.ofChange s with cond := some uptoSmall }

/-- 'precentorlaw03.ItemTells', WHERE WHAT IT READS IS OF BULK AT MOST 1048576: true; the input reads as it did. -/
def itemTellsUptoRow : OpenClaim := { program := "ytocoikndkmdnkaadoor", sum := "c07c84ec1c54cd387647b9062f59990f82da05bee881503c9610e04f96418cf3", func := "precentor/precentorlaw03.ItemTells", spec := "itemTells", unfollowed := true, recurses := true, named := ["precentor/num.bounds"], apart := false, laid := [("precentor/num.bounds", laid_precentor_num_bounds)], narrowed := true }
def ItemTellsUptoSaid : Prop := itemTellsUptoRow.holds Tryd.pinned (OpenSpec.upto itemTellsSpec)

/-- 'precentorlaw03.ItemBack', WHERE WHAT IT READS IS OF BULK AT MOST 1048576: true; the input reads as it did. -/
def itemBackUptoRow : OpenClaim := { program := "ytocoikndkmdnkaadoor", sum := "c07c84ec1c54cd387647b9062f59990f82da05bee881503c9610e04f96418cf3", func := "precentor/precentorlaw03.ItemBack", spec := "itemBack", unfollowed := true, recurses := true, named := ["precentor/num.bounds"], apart := false, laid := [("precentor/num.bounds", laid_precentor_num_bounds)], narrowed := true }
def ItemBackUptoSaid : Prop := itemBackUptoRow.holds Tryd.pinned (OpenSpec.upto itemBackSpec)

/-- 'precentorlaw03.ItemAlike', WHERE WHAT IT READS IS OF BULK AT MOST 1048576: true; the input reads as it did. -/
def itemAlikeUptoRow : OpenClaim := { program := "ytocoikndkmdnkaadoor", sum := "c07c84ec1c54cd387647b9062f59990f82da05bee881503c9610e04f96418cf3", func := "precentor/precentorlaw03.ItemAlike", spec := "itemAlike", unfollowed := true, recurses := true, named := ["precentor/num.bounds"], apart := false, laid := [("precentor/num.bounds", laid_precentor_num_bounds)], narrowed := true }
def ItemAlikeUptoSaid : Prop := itemAlikeUptoRow.holds Tryd.pinned (OpenSpec.upto itemAlikeSpec)

/-- 'precentorlaw03.ItemCut', WHERE WHAT IT READS IS OF BULK AT MOST 1048576: true; the input reads as it did. -/
def itemCutUptoRow : OpenClaim := { program := "ytocoikndkmdnkaadoor", sum := "c07c84ec1c54cd387647b9062f59990f82da05bee881503c9610e04f96418cf3", func := "precentor/precentorlaw03.ItemCut", spec := "itemCut", unfollowed := true, recurses := true, named := ["precentor/num.bounds"], apart := false, laid := [("precentor/num.bounds", laid_precentor_num_bounds)], narrowed := true }
def ItemCutUptoSaid : Prop := itemCutUptoRow.holds Tryd.pinned (OpenSpec.upto itemCutSpec)

/-- 'precentorlaw03.ItemHeads', WHERE WHAT IT READS IS OF BULK AT MOST 1048576: true; the input reads as it did. -/
def itemHeadsUptoRow : OpenClaim := { program := "ytocoikndkmdnkaadoor", sum := "c07c84ec1c54cd387647b9062f59990f82da05bee881503c9610e04f96418cf3", func := "precentor/precentorlaw03.ItemHeads", spec := "itemHeads", unfollowed := true, recurses := true, named := ["precentor/num.bounds"], apart := false, laid := [("precentor/num.bounds", laid_precentor_num_bounds)], narrowed := true }
def ItemHeadsUptoSaid : Prop := itemHeadsUptoRow.holds Tryd.pinned (OpenSpec.upto itemHeadsSpec)

/-- 'precentorlaw03.ItemBounds', WHERE WHAT IT READS IS OF BULK AT MOST 1048576: true; the input reads as it did. -/
def itemBoundsUptoRow : OpenClaim := { program := "ytocoikndkmdnkaadoor", sum := "c07c84ec1c54cd387647b9062f59990f82da05bee881503c9610e04f96418cf3", func := "precentor/precentorlaw03.ItemBounds", spec := "itemBounds", unfollowed := true, recurses := true, named := ["precentor/num.bounds"], apart := false, laid := [("precentor/num.bounds", laid_precentor_num_bounds)], narrowed := true }
def ItemBoundsUptoSaid : Prop := itemBoundsUptoRow.holds Tryd.pinned (OpenSpec.upto itemBoundsSpec)

end Rows
end Go.Proofs.YtocoikndkmdnkaaDoor
