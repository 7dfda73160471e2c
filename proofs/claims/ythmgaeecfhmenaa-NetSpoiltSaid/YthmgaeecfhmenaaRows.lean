/-
  No cell of these rows narrows 'for every input' (looked for: loops, veiled, ifaces, maps, wideKeys, modest, calm, conditions, laid).
  DERIVED. THE GIVEN ROWS OF THIS SEAT. 6 by the template 'for every input the law returns true; each argument reads behind the call as it read before'; 0 by the template 'total and deterministic' (their statements: YthmgaeecfhmenaaTotals.lean).
  GIVEN WITH THE SEED: the statements are not yours to turn. If you find one false, say at which input.
  Laid BY PROGRAM, IN A SANDBOX (cutbox-rows.mjs): the forced cells as the released guide's own fill.sh prints them over the translation fd163e7b9924586f… (all of the seat's roots in one cut). By AI agents, Wed Nov 11 2026. No macro, syntax, notation, axiom, sorry.
-/
import Derived.Test.YthmgaeecfhmenaaChecked
import GoSem.Claim
import GoSem.ClaimJoined
import GoSem.ClaimMapViews
import Derived.JoinedTies
import Derived.KernelRfl
namespace Go.Proofs.Ythmgaeecfhmenaa
/- THE CELL 'sum', in the pinned program and in every row, IS THE sha256 OF THE DUMP (.gsa) THAT YthmgaeecfhmenaaProg.lean LOADS. Nothing in Lean hashes anything: it is a label: what it is worth is what the hold of that sum in a sandbox is worth. -/
noncomputable def Try.pinned : Pinned := { name := "ythmgaeecfhmenaa", sum := "fd163e7b9924586f662885d44a04b1ec747e54792bfd89d7372ceef89a335d07", checked := Try.checked }
namespace Rows
def none {H : Type} : Left H := { results := [], args := [] }

/-- 'precentorlaw05.NetTells': WHATEVER THE INPUT: true; the input reads as it did. -/
def netTellsSpec : ChangeSpec := { name := "netTells", fn := fun _ => fun
  | [d] => { results := [.lit (.bool true)], args := [d] }
  | _ => none }
def netTellsRow : OpenClaim := { program := "ythmgaeecfhmenaa", sum := "fd163e7b9924586f662885d44a04b1ec747e54792bfd89d7372ceef89a335d07", func := "precentor/precentorlaw05.NetTells", spec := "netTells", apart := false }
def NetTellsSaid : Prop := netTellsRow.holds Try.pinned (OpenSpec.ofChange netTellsSpec)

/-- ITS FALSE NEIGHBOUR: 'it returns false'. Refute it at one input. -/
def netTellsWrong : ChangeSpec := { name := "netTells", fn := fun _ => fun
  | [d] => { results := [.lit (.bool false)], args := [d] }
  | _ => none }
def NetTellsWrongFalsely : Prop := netTellsRow.holds Try.pinned (OpenSpec.ofChange netTellsWrong)

/-- 'precentorlaw05.NetBack': WHATEVER THE INPUT: true; the input reads as it did. -/
def netBackSpec : ChangeSpec := { name := "netBack", fn := fun _ => fun
  | [d] => { results := [.lit (.bool true)], args := [d] }
  | _ => none }
def netBackRow : OpenClaim := { program := "ythmgaeecfhmenaa", sum := "fd163e7b9924586f662885d44a04b1ec747e54792bfd89d7372ceef89a335d07", func := "precentor/precentorlaw05.NetBack", spec := "netBack", apart := false }
def NetBackSaid : Prop := netBackRow.holds Try.pinned (OpenSpec.ofChange netBackSpec)

/-- ITS FALSE NEIGHBOUR: 'it returns false'. Refute it at one input. -/
def netBackWrong : ChangeSpec := { name := "netBack", fn := fun _ => fun
  | [d] => { results := [.lit (.bool false)], args := [d] }
  | _ => none }
def NetBackWrongFalsely : Prop := netBackRow.holds Try.pinned (OpenSpec.ofChange netBackWrong)

/-- 'precentorlaw05.NetSpoilt': WHATEVER THE INPUT: true; the input reads as it did. -/
def netSpoiltSpec : ChangeSpec := { name := "netSpoilt", fn := fun _ => fun
  | [d] => { results := [.lit (.bool true)], args := [d] }
  | _ => none }
def netSpoiltRow : OpenClaim := { program := "ythmgaeecfhmenaa", sum := "fd163e7b9924586f662885d44a04b1ec747e54792bfd89d7372ceef89a335d07", func := "precentor/precentorlaw05.NetSpoilt", spec := "netSpoilt", apart := false }
def NetSpoiltSaid : Prop := netSpoiltRow.holds Try.pinned (OpenSpec.ofChange netSpoiltSpec)

/-- ITS FALSE NEIGHBOUR: 'it returns false'. Refute it at one input. -/
def netSpoiltWrong : ChangeSpec := { name := "netSpoilt", fn := fun _ => fun
  | [d] => { results := [.lit (.bool false)], args := [d] }
  | _ => none }
def NetSpoiltWrongFalsely : Prop := netSpoiltRow.holds Try.pinned (OpenSpec.ofChange netSpoiltWrong)

/-- 'precentorlaw05.NetAll': WHATEVER THE INPUT: true; the input reads as it did. -/
def netAllSpec : ChangeSpec := { name := "netAll", fn := fun _ => fun
  | [d1, d2] => { results := [.lit (.bool true)], args := [d1, d2] }
  | _ => none }
def netAllRow : OpenClaim := { program := "ythmgaeecfhmenaa", sum := "fd163e7b9924586f662885d44a04b1ec747e54792bfd89d7372ceef89a335d07", func := "precentor/precentorlaw05.NetAll", spec := "netAll", apart := false }
def NetAllSaid : Prop := netAllRow.holds Try.pinned (OpenSpec.ofChange netAllSpec)

/-- ITS FALSE NEIGHBOUR: 'it returns false'. Refute it at one input. -/
def netAllWrong : ChangeSpec := { name := "netAll", fn := fun _ => fun
  | [d1, d2] => { results := [.lit (.bool false)], args := [d1, d2] }
  | _ => none }
def NetAllWrongFalsely : Prop := netAllRow.holds Try.pinned (OpenSpec.ofChange netAllWrong)

/-- 'precentorlaw05.NetGives': WHATEVER THE INPUT: true; the input reads as it did. -/
def netGivesSpec : ChangeSpec := { name := "netGives", fn := fun _ => fun
  | [d1, d2] => { results := [.lit (.bool true)], args := [d1, d2] }
  | _ => none }
def netGivesRow : OpenClaim := { program := "ythmgaeecfhmenaa", sum := "fd163e7b9924586f662885d44a04b1ec747e54792bfd89d7372ceef89a335d07", func := "precentor/precentorlaw05.NetGives", spec := "netGives", apart := false }
def NetGivesSaid : Prop := netGivesRow.holds Try.pinned (OpenSpec.ofChange netGivesSpec)

/-- ITS FALSE NEIGHBOUR: 'it returns false'. Refute it at one input. -/
def netGivesWrong : ChangeSpec := { name := "netGives", fn := fun _ => fun
  | [d1, d2] => { results := [.lit (.bool false)], args := [d1, d2] }
  | _ => none }
def NetGivesWrongFalsely : Prop := netGivesRow.holds Try.pinned (OpenSpec.ofChange netGivesWrong)

/-- 'precentorlaw05.NetDups': WHATEVER THE INPUT: true; the input reads as it did. -/
def netDupsSpec : ChangeSpec := { name := "netDups", fn := fun _ => fun
  | [d1, d2, d3] => { results := [.lit (.bool true)], args := [d1, d2, d3] }
  | _ => none }
def netDupsRow : OpenClaim := { program := "ythmgaeecfhmenaa", sum := "fd163e7b9924586f662885d44a04b1ec747e54792bfd89d7372ceef89a335d07", func := "precentor/precentorlaw05.NetDups", spec := "netDups", apart := false }
def NetDupsSaid : Prop := netDupsRow.holds Try.pinned (OpenSpec.ofChange netDupsSpec)

/-- ITS FALSE NEIGHBOUR: 'it returns false'. Refute it at one input. -/
def netDupsWrong : ChangeSpec := { name := "netDups", fn := fun _ => fun
  | [d1, d2, d3] => { results := [.lit (.bool false)], args := [d1, d2, d3] }
  | _ => none }
def NetDupsWrongFalsely : Prop := netDupsRow.holds Try.pinned (OpenSpec.ofChange netDupsWrong)

/- THE SECOND FORM. 'bulk': how many values and letters a reading holds, each counted each time it is reached (what is shared counts as often as it is met; a slice's spare places count too). A statement '..UptoSaid' is the law's where the arguments, and the package variables that the reading takes, are together of bulk at most 1048576: NARROWER than '..Said'. Prove '..Said' where nothing that the law and all that it calls make is longer than what came in: it says more and counts as full. Else prove '..UptoSaid'. A law counts once. -/
mutual
def uptoBulk {H : Type} : DataW H → Nat
  | .lit (.string bytes) => bytes.length + 1
  | .lit _ => 1
  | .nil => 1
  | .ptr d => uptoBulk d + 1
  | .slice elems spare => uptoBulkAll elems + uptoBulkAll spare + 1
  | .agg parts => uptoBulkAll parts + 1
  | .iface _ d => uptoBulk d + 1
  | .map entries => uptoBulkEntries entries + 1
  | .held _ => 1
def uptoBulkAll {H : Type} : List (DataW H) → Nat
  | [] => 0
  | d :: r => uptoBulk d + uptoBulkAll r
def uptoBulkEntries {H : Type} : List (Lit × DataW H) → Nat
  | [] => 0
  | x :: r => uptoBulkEntry x + uptoBulkEntries r
def uptoBulkEntry {H : Type} : Lit × DataW H → Nat
  | (.string bytes, d) => bytes.length + uptoBulk d + 1
  | (_, d) => uptoBulk d + 1
 end
def uptoSmall : (H : Type) → List (DataW H) → Bool := fun _ ds => decide (uptoBulkAll ds ≤ 1048576)
def OpenSpec.upto (s : _root_.Go.ChangeSpec) : _root_.Go.OpenSpec := { _root_.Go.OpenSpec.ofChange s with cond := some uptoSmall }

/-- 'precentorlaw05.NetTells', WHERE WHAT IT READS IS OF BULK AT MOST 1048576: true; the input reads as it did. -/
def netTellsUptoRow : OpenClaim := { program := "ythmgaeecfhmenaa", sum := "fd163e7b9924586f662885d44a04b1ec747e54792bfd89d7372ceef89a335d07", func := "precentor/precentorlaw05.NetTells", spec := "netTells", apart := false, narrowed := true }
def NetTellsUptoSaid : Prop := netTellsUptoRow.holds Try.pinned (OpenSpec.upto netTellsSpec)

/-- 'precentorlaw05.NetBack', WHERE WHAT IT READS IS OF BULK AT MOST 1048576: true; the input reads as it did. -/
def netBackUptoRow : OpenClaim := { program := "ythmgaeecfhmenaa", sum := "fd163e7b9924586f662885d44a04b1ec747e54792bfd89d7372ceef89a335d07", func := "precentor/precentorlaw05.NetBack", spec := "netBack", apart := false, narrowed := true }
def NetBackUptoSaid : Prop := netBackUptoRow.holds Try.pinned (OpenSpec.upto netBackSpec)

/-- 'precentorlaw05.NetSpoilt', WHERE WHAT IT READS IS OF BULK AT MOST 1048576: true; the input reads as it did. -/
def netSpoiltUptoRow : OpenClaim := { program := "ythmgaeecfhmenaa", sum := "fd163e7b9924586f662885d44a04b1ec747e54792bfd89d7372ceef89a335d07", func := "precentor/precentorlaw05.NetSpoilt", spec := "netSpoilt", apart := false, narrowed := true }
def NetSpoiltUptoSaid : Prop := netSpoiltUptoRow.holds Try.pinned (OpenSpec.upto netSpoiltSpec)

/-- 'precentorlaw05.NetAll', WHERE WHAT IT READS IS OF BULK AT MOST 1048576: true; the input reads as it did. -/
def netAllUptoRow : OpenClaim := { program := "ythmgaeecfhmenaa", sum := "fd163e7b9924586f662885d44a04b1ec747e54792bfd89d7372ceef89a335d07", func := "precentor/precentorlaw05.NetAll", spec := "netAll", apart := false, narrowed := true }
def NetAllUptoSaid : Prop := netAllUptoRow.holds Try.pinned (OpenSpec.upto netAllSpec)

/-- 'precentorlaw05.NetGives', WHERE WHAT IT READS IS OF BULK AT MOST 1048576: true; the input reads as it did. -/
def netGivesUptoRow : OpenClaim := { program := "ythmgaeecfhmenaa", sum := "fd163e7b9924586f662885d44a04b1ec747e54792bfd89d7372ceef89a335d07", func := "precentor/precentorlaw05.NetGives", spec := "netGives", apart := false, narrowed := true }
def NetGivesUptoSaid : Prop := netGivesUptoRow.holds Try.pinned (OpenSpec.upto netGivesSpec)

/-- 'precentorlaw05.NetDups', WHERE WHAT IT READS IS OF BULK AT MOST 1048576: true; the input reads as it did. -/
def netDupsUptoRow : OpenClaim := { program := "ythmgaeecfhmenaa", sum := "fd163e7b9924586f662885d44a04b1ec747e54792bfd89d7372ceef89a335d07", func := "precentor/precentorlaw05.NetDups", spec := "netDups", apart := false, narrowed := true }
def NetDupsUptoSaid : Prop := netDupsUptoRow.holds Try.pinned (OpenSpec.upto netDupsSpec)

end Rows
end Go.Proofs.Ythmgaeecfhmenaa
