/-
  DERIVED. GIVEN WITH THE SEED: THE CARDS: each row of YtejponabffffkaaDoorRows.lean that lists a variable, with what it lists TIED to the program's text (the seventh form; the later family's looks); each row that meets fmt, with fmt's text TOLD by the authors' own Lean function (tested against real Go, not proved from fmt's source: count such statements apart). THE CARD IS WHAT COUNTS. Prove the row's statement (the work); the ties are given (YtejponabffffkaaDoorTie.lean); close each card by the builder's one call (the guide's Derived/Test/ToyasCard.lean, 'card_holds'). Laid BY PROGRAM, IN A SANDBOX (cutbox-door.mjs). By AI agents, Wed Nov 11 2026. No macro, syntax, notation, axiom, sorry.
-/
import Derived.Test.YtejponabffffkaaDoorRows
import GoSem.ClaimSeven
namespace Go.Proofs.YtejponabffffkaaDoor
namespace Rows

/-- THE TIED CARD OF 'precentorlaw02.NumTells'. -/
def numTellsCard : Claim7 := { stood := { row := numTellsRow, standIns := [], harness := (true, "ef4731e8758b72c95a1009ab6e197010340e39f0db6c2a8f4ddd2abf37603893"), looks := false }, kinds := [], alts := [], laidByText := true, laidKinds := [.data], laidTests := true, laidLooks := .later }
def NumTellsCardSaid : Prop := Claim7.holds Tryd.pinned (.plain (OpenSpec.ofChange numTellsSpec)) numTellsCard

/-- THE TIED CARD OF 'precentorlaw02.NumBack'. -/
def numBackCard : Claim7 := { stood := { row := numBackRow, standIns := [], harness := (true, "ef4731e8758b72c95a1009ab6e197010340e39f0db6c2a8f4ddd2abf37603893"), looks := false }, kinds := [], alts := [], laidByText := true, laidKinds := [.data], laidTests := true, laidLooks := .later }
def NumBackCardSaid : Prop := Claim7.holds Tryd.pinned (.plain (OpenSpec.ofChange numBackSpec)) numBackCard

/-- THE TIED CARD OF 'precentorlaw02.NumRows'. -/
def numRowsCard : Claim7 := { stood := { row := numRowsRow, standIns := [], harness := (true, "ef4731e8758b72c95a1009ab6e197010340e39f0db6c2a8f4ddd2abf37603893"), looks := false }, kinds := [], alts := [], laidByText := true, laidKinds := [.data], laidTests := true, laidLooks := .later }
def NumRowsCardSaid : Prop := Claim7.holds Tryd.pinned (.plain (OpenSpec.ofChange numRowsSpec)) numRowsCard

/-- THE TIED CARD OF 'precentorlaw02.NumOrder'. -/
def numOrderCard : Claim7 := { stood := { row := numOrderRow, standIns := [], harness := (true, "ef4731e8758b72c95a1009ab6e197010340e39f0db6c2a8f4ddd2abf37603893"), looks := false }, kinds := [], alts := [], laidByText := true, laidKinds := [.data], laidTests := true, laidLooks := .later }
def NumOrderCardSaid : Prop := Claim7.holds Tryd.pinned (.plain (OpenSpec.ofChange numOrderSpec)) numOrderCard

/-- THE TIED CARD OF 'precentorlaw02.NumSplit'. -/
def numSplitCard : Claim7 := { stood := { row := numSplitRow, standIns := [], harness := (true, "ef4731e8758b72c95a1009ab6e197010340e39f0db6c2a8f4ddd2abf37603893"), looks := false }, kinds := [], alts := [], laidByText := true, laidKinds := [.data], laidTests := true, laidLooks := .later }
def NumSplitCardSaid : Prop := Claim7.holds Tryd.pinned (.plain (OpenSpec.ofChange numSplitSpec)) numSplitCard

/-- THE TIED CARD OF 'precentorlaw02.NumShort'. -/
def numShortCard : Claim7 := { stood := { row := numShortRow, standIns := [], harness := (true, "ef4731e8758b72c95a1009ab6e197010340e39f0db6c2a8f4ddd2abf37603893"), looks := false }, kinds := [], alts := [], laidByText := true, laidKinds := [.data], laidTests := true, laidLooks := .later }
def NumShortCardSaid : Prop := Claim7.holds Tryd.pinned (.plain (OpenSpec.ofChange numShortSpec)) numShortCard

/-- THE SECOND FORM's CARD OF 'precentorlaw02.NumTells'. -/
def numTellsUptoCard : Claim7 := { stood := { row := numTellsUptoRow, standIns := [], harness := (true, "ef4731e8758b72c95a1009ab6e197010340e39f0db6c2a8f4ddd2abf37603893"), looks := false }, kinds := [], alts := [], laidByText := true, laidKinds := [.data], laidTests := true, laidLooks := .later }
def NumTellsUptoCardSaid : Prop := Claim7.holds Tryd.pinned (.plain (OpenSpec.upto numTellsSpec)) numTellsUptoCard

/-- THE SECOND FORM's CARD OF 'precentorlaw02.NumBack'. -/
def numBackUptoCard : Claim7 := { stood := { row := numBackUptoRow, standIns := [], harness := (true, "ef4731e8758b72c95a1009ab6e197010340e39f0db6c2a8f4ddd2abf37603893"), looks := false }, kinds := [], alts := [], laidByText := true, laidKinds := [.data], laidTests := true, laidLooks := .later }
def NumBackUptoCardSaid : Prop := Claim7.holds Tryd.pinned (.plain (OpenSpec.upto numBackSpec)) numBackUptoCard

/-- THE SECOND FORM's CARD OF 'precentorlaw02.NumRows'. -/
def numRowsUptoCard : Claim7 := { stood := { row := numRowsUptoRow, standIns := [], harness := (true, "ef4731e8758b72c95a1009ab6e197010340e39f0db6c2a8f4ddd2abf37603893"), looks := false }, kinds := [], alts := [], laidByText := true, laidKinds := [.data], laidTests := true, laidLooks := .later }
def NumRowsUptoCardSaid : Prop := Claim7.holds Tryd.pinned (.plain (OpenSpec.upto numRowsSpec)) numRowsUptoCard

/-- THE SECOND FORM's CARD OF 'precentorlaw02.NumOrder'. -/
def numOrderUptoCard : Claim7 := { stood := { row := numOrderUptoRow, standIns := [], harness := (true, "ef4731e8758b72c95a1009ab6e197010340e39f0db6c2a8f4ddd2abf37603893"), looks := false }, kinds := [], alts := [], laidByText := true, laidKinds := [.data], laidTests := true, laidLooks := .later }
def NumOrderUptoCardSaid : Prop := Claim7.holds Tryd.pinned (.plain (OpenSpec.upto numOrderSpec)) numOrderUptoCard

/-- THE SECOND FORM's CARD OF 'precentorlaw02.NumSplit'. -/
def numSplitUptoCard : Claim7 := { stood := { row := numSplitUptoRow, standIns := [], harness := (true, "ef4731e8758b72c95a1009ab6e197010340e39f0db6c2a8f4ddd2abf37603893"), looks := false }, kinds := [], alts := [], laidByText := true, laidKinds := [.data], laidTests := true, laidLooks := .later }
def NumSplitUptoCardSaid : Prop := Claim7.holds Tryd.pinned (.plain (OpenSpec.upto numSplitSpec)) numSplitUptoCard

/-- THE SECOND FORM's CARD OF 'precentorlaw02.NumShort'. -/
def numShortUptoCard : Claim7 := { stood := { row := numShortUptoRow, standIns := [], harness := (true, "ef4731e8758b72c95a1009ab6e197010340e39f0db6c2a8f4ddd2abf37603893"), looks := false }, kinds := [], alts := [], laidByText := true, laidKinds := [.data], laidTests := true, laidLooks := .later }
def NumShortUptoCardSaid : Prop := Claim7.holds Tryd.pinned (.plain (OpenSpec.upto numShortSpec)) numShortUptoCard
end Rows
end Go.Proofs.YtejponabffffkaaDoor
