/-
  DERIVED. GIVEN WITH THE SEED: THE CARDS: each row of YtieolhhokepkjaaDoorRows.lean that lists a variable, with what it lists TIED to the program's text (the seventh form; the later family's looks); each row that meets fmt, with fmt's text TOLD by the authors' own Lean function (tested against real Go, not proved from fmt's source: count such statements apart). THE CARD IS WHAT COUNTS. Prove the row's statement (the work); the ties are given (YtieolhhokepkjaaDoorTie.lean); close each card by the builder's one call (the guide's Derived/Test/ToyasCard.lean, 'card_holds'). Laid BY PROGRAM, IN A SANDBOX (cutbox-door.mjs). By AI agents, Wed Nov 11 2026. No macro, syntax, notation, axiom, sorry.
-/
import Derived.Test.YtieolhhokepkjaaDoorRows
import GoSem.ClaimSeven
namespace Go.Proofs.YtieolhhokepkjaaDoor
namespace Rows

/-- THE TIED CARD OF 'precentorlaw04.PktTells'. -/
def pktTellsCard : Claim7 := { stood := { row := pktTellsRow, standIns := [], harness := (true, "5d8351897613072d7bbbb89566714c2dc0f23b68ce45d58b467dc4e0ae1183d0"), looks := false }, kinds := [], alts := [], laidByText := true, laidKinds := [.data], laidTests := true, laidLooks := .later }
def PktTellsCardSaid : Prop := Claim7.holds Tryd.pinned (.plain (OpenSpec.ofChange pktTellsSpec)) pktTellsCard

/-- THE TIED CARD OF 'precentorlaw04.PktSealed'. -/
def pktSealedCard : Claim7 := { stood := { row := pktSealedRow, standIns := [], harness := (true, "5d8351897613072d7bbbb89566714c2dc0f23b68ce45d58b467dc4e0ae1183d0"), looks := false }, kinds := [], alts := [], laidByText := true, laidKinds := [.data], laidTests := true, laidLooks := .later }
def PktSealedCardSaid : Prop := Claim7.holds Tryd.pinned (.plain (OpenSpec.ofChange pktSealedSpec)) pktSealedCard

/-- THE TIED CARD OF 'precentorlaw04.PktBack'. -/
def pktBackCard : Claim7 := { stood := { row := pktBackRow, standIns := [], harness := (true, "5d8351897613072d7bbbb89566714c2dc0f23b68ce45d58b467dc4e0ae1183d0"), looks := false }, kinds := [], alts := [], laidByText := true, laidKinds := [.data], laidTests := true, laidLooks := .later }
def PktBackCardSaid : Prop := Claim7.holds Tryd.pinned (.plain (OpenSpec.ofChange pktBackSpec)) pktBackCard

/-- THE TIED CARD OF 'precentorlaw04.PktSpoilt'. -/
def pktSpoiltCard : Claim7 := { stood := { row := pktSpoiltRow, standIns := [], harness := (true, "5d8351897613072d7bbbb89566714c2dc0f23b68ce45d58b467dc4e0ae1183d0"), looks := false }, kinds := [], alts := [], laidByText := true, laidKinds := [.data], laidTests := true, laidLooks := .later }
def PktSpoiltCardSaid : Prop := Claim7.holds Tryd.pinned (.plain (OpenSpec.ofChange pktSpoiltSpec)) pktSpoiltCard

/-- THE TIED CARD OF 'precentorlaw04.PktLengths'. -/
def pktLengthsCard : Claim7 := { stood := { row := pktLengthsRow, standIns := [], harness := (true, "5d8351897613072d7bbbb89566714c2dc0f23b68ce45d58b467dc4e0ae1183d0"), looks := false }, kinds := [], alts := [], laidByText := true, laidKinds := [.data], laidTests := true, laidLooks := .later }
def PktLengthsCardSaid : Prop := Claim7.holds Tryd.pinned (.plain (OpenSpec.ofChange pktLengthsSpec)) pktLengthsCard

/-- THE TIED CARD OF 'precentorlaw04.PktEach'. -/
def pktEachCard : Claim7 := { stood := { row := pktEachRow, standIns := [], harness := (true, "5d8351897613072d7bbbb89566714c2dc0f23b68ce45d58b467dc4e0ae1183d0"), looks := false }, kinds := [], alts := [], laidByText := true, laidKinds := [.data], laidTests := true, laidLooks := .later }
def PktEachCardSaid : Prop := Claim7.holds Tryd.pinned (.plain (OpenSpec.ofChange pktEachSpec)) pktEachCard

/-- THE SECOND FORM's CARD OF 'precentorlaw04.PktTells'. -/
def pktTellsUptoCard : Claim7 := { stood := { row := pktTellsUptoRow, standIns := [], harness := (true, "5d8351897613072d7bbbb89566714c2dc0f23b68ce45d58b467dc4e0ae1183d0"), looks := false }, kinds := [], alts := [], laidByText := true, laidKinds := [.data], laidTests := true, laidLooks := .later }
def PktTellsUptoCardSaid : Prop := Claim7.holds Tryd.pinned (.plain (OpenSpec.upto pktTellsSpec)) pktTellsUptoCard

/-- THE SECOND FORM's CARD OF 'precentorlaw04.PktSealed'. -/
def pktSealedUptoCard : Claim7 := { stood := { row := pktSealedUptoRow, standIns := [], harness := (true, "5d8351897613072d7bbbb89566714c2dc0f23b68ce45d58b467dc4e0ae1183d0"), looks := false }, kinds := [], alts := [], laidByText := true, laidKinds := [.data], laidTests := true, laidLooks := .later }
def PktSealedUptoCardSaid : Prop := Claim7.holds Tryd.pinned (.plain (OpenSpec.upto pktSealedSpec)) pktSealedUptoCard

/-- THE SECOND FORM's CARD OF 'precentorlaw04.PktBack'. -/
def pktBackUptoCard : Claim7 := { stood := { row := pktBackUptoRow, standIns := [], harness := (true, "5d8351897613072d7bbbb89566714c2dc0f23b68ce45d58b467dc4e0ae1183d0"), looks := false }, kinds := [], alts := [], laidByText := true, laidKinds := [.data], laidTests := true, laidLooks := .later }
def PktBackUptoCardSaid : Prop := Claim7.holds Tryd.pinned (.plain (OpenSpec.upto pktBackSpec)) pktBackUptoCard

/-- THE SECOND FORM's CARD OF 'precentorlaw04.PktSpoilt'. -/
def pktSpoiltUptoCard : Claim7 := { stood := { row := pktSpoiltUptoRow, standIns := [], harness := (true, "5d8351897613072d7bbbb89566714c2dc0f23b68ce45d58b467dc4e0ae1183d0"), looks := false }, kinds := [], alts := [], laidByText := true, laidKinds := [.data], laidTests := true, laidLooks := .later }
def PktSpoiltUptoCardSaid : Prop := Claim7.holds Tryd.pinned (.plain (OpenSpec.upto pktSpoiltSpec)) pktSpoiltUptoCard

/-- THE SECOND FORM's CARD OF 'precentorlaw04.PktLengths'. -/
def pktLengthsUptoCard : Claim7 := { stood := { row := pktLengthsUptoRow, standIns := [], harness := (true, "5d8351897613072d7bbbb89566714c2dc0f23b68ce45d58b467dc4e0ae1183d0"), looks := false }, kinds := [], alts := [], laidByText := true, laidKinds := [.data], laidTests := true, laidLooks := .later }
def PktLengthsUptoCardSaid : Prop := Claim7.holds Tryd.pinned (.plain (OpenSpec.upto pktLengthsSpec)) pktLengthsUptoCard

/-- THE SECOND FORM's CARD OF 'precentorlaw04.PktEach'. -/
def pktEachUptoCard : Claim7 := { stood := { row := pktEachUptoRow, standIns := [], harness := (true, "5d8351897613072d7bbbb89566714c2dc0f23b68ce45d58b467dc4e0ae1183d0"), looks := false }, kinds := [], alts := [], laidByText := true, laidKinds := [.data], laidTests := true, laidLooks := .later }
def PktEachUptoCardSaid : Prop := Claim7.holds Tryd.pinned (.plain (OpenSpec.upto pktEachSpec)) pktEachUptoCard
end Rows
end Go.Proofs.YtieolhhokepkjaaDoor
