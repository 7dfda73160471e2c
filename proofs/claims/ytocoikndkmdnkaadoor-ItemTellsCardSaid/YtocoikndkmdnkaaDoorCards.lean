/-
  DERIVED. GIVEN WITH THE SEED: THE CARDS: each row of YtocoikndkmdnkaaDoorRows.lean that lists a variable, with what it lists TIED to the program's text (the seventh form; the later family's looks); each row that meets fmt, with fmt's text TOLD by the authors' own Lean function (tested against real Go, not proved from fmt's source: count such statements apart). THE CARD IS WHAT COUNTS. Prove the row's statement (the work); the ties are given (YtocoikndkmdnkaaDoorTie.lean); close each card by the builder's one call (the guide's Derived/Test/ToyasCard.lean, 'card_holds'). Laid BY PROGRAM, IN A SANDBOX (cutbox-door.mjs). By AI agents, Wed Nov 11 2026. No macro, syntax, notation, axiom, sorry.
-/
import Derived.Test.YtocoikndkmdnkaaDoorRows
import GoSem.ClaimSeven
namespace Go.Proofs.YtocoikndkmdnkaaDoor
namespace Rows

/-- THE TIED CARD OF 'precentorlaw03.ItemTells'. -/
def itemTellsCard : Claim7 := { stood := { row := itemTellsRow, standIns := [], harness := (true, "6a477303b245fdf2867af35d22a278844d9c6683469a68673748d9afd9f3e2fb"), looks := false }, kinds := [], alts := [], laidByText := true, laidKinds := [.data], laidTests := true, laidLooks := .later }
def ItemTellsCardSaid : Prop := Claim7.holds Tryd.pinned (.plain (OpenSpec.ofChange itemTellsSpec)) itemTellsCard

/-- THE TIED CARD OF 'precentorlaw03.ItemBack'. -/
def itemBackCard : Claim7 := { stood := { row := itemBackRow, standIns := [], harness := (true, "6a477303b245fdf2867af35d22a278844d9c6683469a68673748d9afd9f3e2fb"), looks := false }, kinds := [], alts := [], laidByText := true, laidKinds := [.data], laidTests := true, laidLooks := .later }
def ItemBackCardSaid : Prop := Claim7.holds Tryd.pinned (.plain (OpenSpec.ofChange itemBackSpec)) itemBackCard

/-- THE TIED CARD OF 'precentorlaw03.ItemAlike'. -/
def itemAlikeCard : Claim7 := { stood := { row := itemAlikeRow, standIns := [], harness := (true, "6a477303b245fdf2867af35d22a278844d9c6683469a68673748d9afd9f3e2fb"), looks := false }, kinds := [], alts := [], laidByText := true, laidKinds := [.data], laidTests := true, laidLooks := .later }
def ItemAlikeCardSaid : Prop := Claim7.holds Tryd.pinned (.plain (OpenSpec.ofChange itemAlikeSpec)) itemAlikeCard

/-- THE TIED CARD OF 'precentorlaw03.ItemCut'. -/
def itemCutCard : Claim7 := { stood := { row := itemCutRow, standIns := [], harness := (true, "6a477303b245fdf2867af35d22a278844d9c6683469a68673748d9afd9f3e2fb"), looks := false }, kinds := [], alts := [], laidByText := true, laidKinds := [.data], laidTests := true, laidLooks := .later }
def ItemCutCardSaid : Prop := Claim7.holds Tryd.pinned (.plain (OpenSpec.ofChange itemCutSpec)) itemCutCard

/-- THE TIED CARD OF 'precentorlaw03.ItemHeads'. -/
def itemHeadsCard : Claim7 := { stood := { row := itemHeadsRow, standIns := [], harness := (true, "6a477303b245fdf2867af35d22a278844d9c6683469a68673748d9afd9f3e2fb"), looks := false }, kinds := [], alts := [], laidByText := true, laidKinds := [.data], laidTests := true, laidLooks := .later }
def ItemHeadsCardSaid : Prop := Claim7.holds Tryd.pinned (.plain (OpenSpec.ofChange itemHeadsSpec)) itemHeadsCard

/-- THE TIED CARD OF 'precentorlaw03.ItemBounds'. -/
def itemBoundsCard : Claim7 := { stood := { row := itemBoundsRow, standIns := [], harness := (true, "6a477303b245fdf2867af35d22a278844d9c6683469a68673748d9afd9f3e2fb"), looks := false }, kinds := [], alts := [], laidByText := true, laidKinds := [.data], laidTests := true, laidLooks := .later }
def ItemBoundsCardSaid : Prop := Claim7.holds Tryd.pinned (.plain (OpenSpec.ofChange itemBoundsSpec)) itemBoundsCard

/-- THE SECOND FORM's CARD OF 'precentorlaw03.ItemTells'. -/
def itemTellsUptoCard : Claim7 := { stood := { row := itemTellsUptoRow, standIns := [], harness := (true, "6a477303b245fdf2867af35d22a278844d9c6683469a68673748d9afd9f3e2fb"), looks := false }, kinds := [], alts := [], laidByText := true, laidKinds := [.data], laidTests := true, laidLooks := .later }
def ItemTellsUptoCardSaid : Prop := Claim7.holds Tryd.pinned (.plain (OpenSpec.upto itemTellsSpec)) itemTellsUptoCard

/-- THE SECOND FORM's CARD OF 'precentorlaw03.ItemBack'. -/
def itemBackUptoCard : Claim7 := { stood := { row := itemBackUptoRow, standIns := [], harness := (true, "6a477303b245fdf2867af35d22a278844d9c6683469a68673748d9afd9f3e2fb"), looks := false }, kinds := [], alts := [], laidByText := true, laidKinds := [.data], laidTests := true, laidLooks := .later }
def ItemBackUptoCardSaid : Prop := Claim7.holds Tryd.pinned (.plain (OpenSpec.upto itemBackSpec)) itemBackUptoCard

/-- THE SECOND FORM's CARD OF 'precentorlaw03.ItemAlike'. -/
def itemAlikeUptoCard : Claim7 := { stood := { row := itemAlikeUptoRow, standIns := [], harness := (true, "6a477303b245fdf2867af35d22a278844d9c6683469a68673748d9afd9f3e2fb"), looks := false }, kinds := [], alts := [], laidByText := true, laidKinds := [.data], laidTests := true, laidLooks := .later }
def ItemAlikeUptoCardSaid : Prop := Claim7.holds Tryd.pinned (.plain (OpenSpec.upto itemAlikeSpec)) itemAlikeUptoCard

/-- THE SECOND FORM's CARD OF 'precentorlaw03.ItemCut'. -/
def itemCutUptoCard : Claim7 := { stood := { row := itemCutUptoRow, standIns := [], harness := (true, "6a477303b245fdf2867af35d22a278844d9c6683469a68673748d9afd9f3e2fb"), looks := false }, kinds := [], alts := [], laidByText := true, laidKinds := [.data], laidTests := true, laidLooks := .later }
def ItemCutUptoCardSaid : Prop := Claim7.holds Tryd.pinned (.plain (OpenSpec.upto itemCutSpec)) itemCutUptoCard

/-- THE SECOND FORM's CARD OF 'precentorlaw03.ItemHeads'. -/
def itemHeadsUptoCard : Claim7 := { stood := { row := itemHeadsUptoRow, standIns := [], harness := (true, "6a477303b245fdf2867af35d22a278844d9c6683469a68673748d9afd9f3e2fb"), looks := false }, kinds := [], alts := [], laidByText := true, laidKinds := [.data], laidTests := true, laidLooks := .later }
def ItemHeadsUptoCardSaid : Prop := Claim7.holds Tryd.pinned (.plain (OpenSpec.upto itemHeadsSpec)) itemHeadsUptoCard

/-- THE SECOND FORM's CARD OF 'precentorlaw03.ItemBounds'. -/
def itemBoundsUptoCard : Claim7 := { stood := { row := itemBoundsUptoRow, standIns := [], harness := (true, "6a477303b245fdf2867af35d22a278844d9c6683469a68673748d9afd9f3e2fb"), looks := false }, kinds := [], alts := [], laidByText := true, laidKinds := [.data], laidTests := true, laidLooks := .later }
def ItemBoundsUptoCardSaid : Prop := Claim7.holds Tryd.pinned (.plain (OpenSpec.upto itemBoundsSpec)) itemBoundsUptoCard
end Rows
end Go.Proofs.YtocoikndkmdnkaaDoor
