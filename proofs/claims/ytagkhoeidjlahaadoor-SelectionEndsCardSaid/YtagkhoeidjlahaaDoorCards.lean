/-
  DERIVED. GIVEN WITH THE SEED: THE CARDS: each row of YtagkhoeidjlahaaDoorRows.lean that lists a variable, with what it lists TIED to the program's text (the seventh form; the later family's looks); each row that meets fmt, with fmt's text TOLD by the authors' own Lean function (tested against real Go, not proved from fmt's source: count such statements apart). THE CARD IS WHAT COUNTS. Prove the row's statement (the work); the ties are given (YtagkhoeidjlahaaDoorTie.lean); close each card by the builder's one call (the guide's Derived/Test/ToyasCard.lean, 'card_holds'). Laid BY PROGRAM, IN A SANDBOX (cutbox-door.mjs). By AI agents, Wed Nov 11 2026. No macro, syntax, notation, axiom, sorry.
-/
import Derived.Test.YtagkhoeidjlahaaDoorRows
import GoSem.ClaimSeven
namespace Go.Proofs.YtagkhoeidjlahaaDoor
namespace Rows

/-- THE TIED CARD OF 'vinculumlaw43.BreakpointPlaces'. -/
def breakpointPlacesCard : Claim7 := { stood := { row := breakpointPlacesRow, standIns := [], harness := (true, "c39d0df16196e9f8f3819fe85171d6b94f20910c6b42b30e9fe380aa6e06d008"), looks := false }, kinds := [], alts := [], laidByText := true, laidKinds := [.data, .pinned], laidTests := true, laidLooks := .later }
def BreakpointPlacesCardSaid : Prop := Claim7.holds Tryd.pinned (.plain (OpenSpec.ofChange breakpointPlacesSpec)) breakpointPlacesCard

/-- THE TIED CARD OF 'vinculumlaw43.BreakpointClasses'. -/
def breakpointClassesCard : Claim7 := { stood := { row := breakpointClassesRow, standIns := [], harness := (true, "c39d0df16196e9f8f3819fe85171d6b94f20910c6b42b30e9fe380aa6e06d008"), looks := false }, kinds := [], alts := [], laidByText := true, laidKinds := [.data, .pinned], laidTests := true, laidLooks := .later }
def BreakpointClassesCardSaid : Prop := Claim7.holds Tryd.pinned (.plain (OpenSpec.ofChange breakpointClassesSpec)) breakpointClassesCard

/-- THE TIED CARD OF 'vinculumlaw43.BreakpointBegins'. -/
def breakpointBeginsCard : Claim7 := { stood := { row := breakpointBeginsRow, standIns := [], harness := (true, "c39d0df16196e9f8f3819fe85171d6b94f20910c6b42b30e9fe380aa6e06d008"), looks := false }, kinds := [], alts := [], laidByText := true, laidKinds := [.data, .pinned], laidTests := true, laidLooks := .later }
def BreakpointBeginsCardSaid : Prop := Claim7.holds Tryd.pinned (.plain (OpenSpec.ofChange breakpointBeginsSpec)) breakpointBeginsCard

/-- THE TIED CARD OF 'vinculumlaw10.PositionIndex'. -/
def positionIndexCard : Claim7 := { stood := { row := positionIndexRow, standIns := [], harness := (true, "c39d0df16196e9f8f3819fe85171d6b94f20910c6b42b30e9fe380aa6e06d008"), looks := false }, kinds := [], alts := [], laidByText := true, laidKinds := [.data, .pinned], laidTests := true, laidLooks := .later }
def PositionIndexCardSaid : Prop := Claim7.holds Tryd.pinned (.plain (OpenSpec.ofChange positionIndexSpec)) positionIndexCard

/-- THE TIED CARD OF 'vinculumlaw10.PositionOrder'. -/
def positionOrderCard : Claim7 := { stood := { row := positionOrderRow, standIns := [], harness := (true, "c39d0df16196e9f8f3819fe85171d6b94f20910c6b42b30e9fe380aa6e06d008"), looks := false }, kinds := [], alts := [], laidByText := true, laidKinds := [.data, .pinned], laidTests := true, laidLooks := .later }
def PositionOrderCardSaid : Prop := Claim7.holds Tryd.pinned (.plain (OpenSpec.ofChange positionOrderSpec)) positionOrderCard

/-- THE TIED CARD OF 'vinculumlaw10.PositionNext'. -/
def positionNextCard : Claim7 := { stood := { row := positionNextRow, standIns := [], harness := (true, "c39d0df16196e9f8f3819fe85171d6b94f20910c6b42b30e9fe380aa6e06d008"), looks := false }, kinds := [], alts := [], laidByText := true, laidKinds := [.data, .pinned], laidTests := true, laidLooks := .later }
def PositionNextCardSaid : Prop := Claim7.holds Tryd.pinned (.plain (OpenSpec.ofChange positionNextSpec)) positionNextCard

/-- THE TIED CARD OF 'vinculumlaw10.PositionAll'. -/
def positionAllCard : Claim7 := { stood := { row := positionAllRow, standIns := [], harness := (true, "c39d0df16196e9f8f3819fe85171d6b94f20910c6b42b30e9fe380aa6e06d008"), looks := false }, kinds := [], alts := [], laidByText := true, laidKinds := [.data, .pinned], laidTests := true, laidLooks := .later }
def PositionAllCardSaid : Prop := Claim7.holds Tryd.pinned (.plain (OpenSpec.ofChange positionAllSpec)) positionAllCard

/-- THE TIED CARD OF 'vinculumlaw10.PositionNeighbours'. -/
def positionNeighboursCard : Claim7 := { stood := { row := positionNeighboursRow, standIns := [], harness := (true, "c39d0df16196e9f8f3819fe85171d6b94f20910c6b42b30e9fe380aa6e06d008"), looks := false }, kinds := [], alts := [], laidByText := true, laidKinds := [.data, .pinned], laidTests := true, laidLooks := .later }
def PositionNeighboursCardSaid : Prop := Claim7.holds Tryd.pinned (.plain (OpenSpec.ofChange positionNeighboursSpec)) positionNeighboursCard

/-- THE TIED CARD OF 'vinculumlaw10.PositionValid'. -/
def positionValidCard : Claim7 := { stood := { row := positionValidRow, standIns := [], harness := (true, "c39d0df16196e9f8f3819fe85171d6b94f20910c6b42b30e9fe380aa6e06d008"), looks := false }, kinds := [], alts := [], laidByText := true, laidKinds := [.data, .pinned], laidTests := true, laidLooks := .later }
def PositionValidCardSaid : Prop := Claim7.holds Tryd.pinned (.plain (OpenSpec.ofChange positionValidSpec)) positionValidCard

/-- THE TIED CARD OF 'vinculumlaw10.PositionComplete'. -/
def positionCompleteCard : Claim7 := { stood := { row := positionCompleteRow, standIns := [], harness := (true, "c39d0df16196e9f8f3819fe85171d6b94f20910c6b42b30e9fe380aa6e06d008"), looks := false }, kinds := [], alts := [], laidByText := true, laidKinds := [.data, .pinned], laidTests := true, laidLooks := .later }
def PositionCompleteCardSaid : Prop := Claim7.holds Tryd.pinned (.plain (OpenSpec.ofChange positionCompleteSpec)) positionCompleteCard

/-- THE TIED CARD OF 'vinculumlaw11.SelectionBetween'. -/
def selectionBetweenCard : Claim7 := { stood := { row := selectionBetweenRow, standIns := [], harness := (true, "c39d0df16196e9f8f3819fe85171d6b94f20910c6b42b30e9fe380aa6e06d008"), looks := false }, kinds := [], alts := [], laidByText := true, laidKinds := [.data, .pinned], laidTests := true, laidLooks := .later }
def SelectionBetweenCardSaid : Prop := Claim7.holds Tryd.pinned (.plain (OpenSpec.ofChange selectionBetweenSpec)) selectionBetweenCard

/-- THE TIED CARD OF 'vinculumlaw11.SelectionContains'. -/
def selectionContainsCard : Claim7 := { stood := { row := selectionContainsRow, standIns := [], harness := (true, "c39d0df16196e9f8f3819fe85171d6b94f20910c6b42b30e9fe380aa6e06d008"), looks := false }, kinds := [], alts := [], laidByText := true, laidKinds := [.data, .pinned], laidTests := true, laidLooks := .later }
def SelectionContainsCardSaid : Prop := Claim7.holds Tryd.pinned (.plain (OpenSpec.ofChange selectionContainsSpec)) selectionContainsCard

/-- THE TIED CARD OF 'vinculumlaw11.SelectionItems'. -/
def selectionItemsCard : Claim7 := { stood := { row := selectionItemsRow, standIns := [], harness := (true, "c39d0df16196e9f8f3819fe85171d6b94f20910c6b42b30e9fe380aa6e06d008"), looks := false }, kinds := [], alts := [], laidByText := true, laidKinds := [.data, .pinned], laidTests := true, laidLooks := .later }
def SelectionItemsCardSaid : Prop := Claim7.holds Tryd.pinned (.plain (OpenSpec.ofChange selectionItemsSpec)) selectionItemsCard

/-- THE TIED CARD OF 'vinculumlaw11.SelectionEnds'. -/
def selectionEndsCard : Claim7 := { stood := { row := selectionEndsRow, standIns := [], harness := (true, "c39d0df16196e9f8f3819fe85171d6b94f20910c6b42b30e9fe380aa6e06d008"), looks := false }, kinds := [], alts := [], laidByText := true, laidKinds := [.data, .pinned], laidTests := true, laidLooks := .later }
def SelectionEndsCardSaid : Prop := Claim7.holds Tryd.pinned (.plain (OpenSpec.ofChange selectionEndsSpec)) selectionEndsCard

/-- THE SECOND FORM's CARD OF 'vinculumlaw43.BreakpointPlaces'. -/
def breakpointPlacesUptoCard : Claim7 := { stood := { row := breakpointPlacesUptoRow, standIns := [], harness := (true, "c39d0df16196e9f8f3819fe85171d6b94f20910c6b42b30e9fe380aa6e06d008"), looks := false }, kinds := [], alts := [], laidByText := true, laidKinds := [.data, .pinned], laidTests := true, laidLooks := .later }
def BreakpointPlacesUptoCardSaid : Prop := Claim7.holds Tryd.pinned (.plain (OpenSpec.upto breakpointPlacesSpec)) breakpointPlacesUptoCard

/-- THE SECOND FORM's CARD OF 'vinculumlaw43.BreakpointClasses'. -/
def breakpointClassesUptoCard : Claim7 := { stood := { row := breakpointClassesUptoRow, standIns := [], harness := (true, "c39d0df16196e9f8f3819fe85171d6b94f20910c6b42b30e9fe380aa6e06d008"), looks := false }, kinds := [], alts := [], laidByText := true, laidKinds := [.data, .pinned], laidTests := true, laidLooks := .later }
def BreakpointClassesUptoCardSaid : Prop := Claim7.holds Tryd.pinned (.plain (OpenSpec.upto breakpointClassesSpec)) breakpointClassesUptoCard

/-- THE SECOND FORM's CARD OF 'vinculumlaw43.BreakpointBegins'. -/
def breakpointBeginsUptoCard : Claim7 := { stood := { row := breakpointBeginsUptoRow, standIns := [], harness := (true, "c39d0df16196e9f8f3819fe85171d6b94f20910c6b42b30e9fe380aa6e06d008"), looks := false }, kinds := [], alts := [], laidByText := true, laidKinds := [.data, .pinned], laidTests := true, laidLooks := .later }
def BreakpointBeginsUptoCardSaid : Prop := Claim7.holds Tryd.pinned (.plain (OpenSpec.upto breakpointBeginsSpec)) breakpointBeginsUptoCard

/-- THE SECOND FORM's CARD OF 'vinculumlaw10.PositionIndex'. -/
def positionIndexUptoCard : Claim7 := { stood := { row := positionIndexUptoRow, standIns := [], harness := (true, "c39d0df16196e9f8f3819fe85171d6b94f20910c6b42b30e9fe380aa6e06d008"), looks := false }, kinds := [], alts := [], laidByText := true, laidKinds := [.data, .pinned], laidTests := true, laidLooks := .later }
def PositionIndexUptoCardSaid : Prop := Claim7.holds Tryd.pinned (.plain (OpenSpec.upto positionIndexSpec)) positionIndexUptoCard

/-- THE SECOND FORM's CARD OF 'vinculumlaw10.PositionOrder'. -/
def positionOrderUptoCard : Claim7 := { stood := { row := positionOrderUptoRow, standIns := [], harness := (true, "c39d0df16196e9f8f3819fe85171d6b94f20910c6b42b30e9fe380aa6e06d008"), looks := false }, kinds := [], alts := [], laidByText := true, laidKinds := [.data, .pinned], laidTests := true, laidLooks := .later }
def PositionOrderUptoCardSaid : Prop := Claim7.holds Tryd.pinned (.plain (OpenSpec.upto positionOrderSpec)) positionOrderUptoCard

/-- THE SECOND FORM's CARD OF 'vinculumlaw10.PositionNext'. -/
def positionNextUptoCard : Claim7 := { stood := { row := positionNextUptoRow, standIns := [], harness := (true, "c39d0df16196e9f8f3819fe85171d6b94f20910c6b42b30e9fe380aa6e06d008"), looks := false }, kinds := [], alts := [], laidByText := true, laidKinds := [.data, .pinned], laidTests := true, laidLooks := .later }
def PositionNextUptoCardSaid : Prop := Claim7.holds Tryd.pinned (.plain (OpenSpec.upto positionNextSpec)) positionNextUptoCard

/-- THE SECOND FORM's CARD OF 'vinculumlaw10.PositionAll'. -/
def positionAllUptoCard : Claim7 := { stood := { row := positionAllUptoRow, standIns := [], harness := (true, "c39d0df16196e9f8f3819fe85171d6b94f20910c6b42b30e9fe380aa6e06d008"), looks := false }, kinds := [], alts := [], laidByText := true, laidKinds := [.data, .pinned], laidTests := true, laidLooks := .later }
def PositionAllUptoCardSaid : Prop := Claim7.holds Tryd.pinned (.plain (OpenSpec.upto positionAllSpec)) positionAllUptoCard

/-- THE SECOND FORM's CARD OF 'vinculumlaw10.PositionNeighbours'. -/
def positionNeighboursUptoCard : Claim7 := { stood := { row := positionNeighboursUptoRow, standIns := [], harness := (true, "c39d0df16196e9f8f3819fe85171d6b94f20910c6b42b30e9fe380aa6e06d008"), looks := false }, kinds := [], alts := [], laidByText := true, laidKinds := [.data, .pinned], laidTests := true, laidLooks := .later }
def PositionNeighboursUptoCardSaid : Prop := Claim7.holds Tryd.pinned (.plain (OpenSpec.upto positionNeighboursSpec)) positionNeighboursUptoCard

/-- THE SECOND FORM's CARD OF 'vinculumlaw10.PositionValid'. -/
def positionValidUptoCard : Claim7 := { stood := { row := positionValidUptoRow, standIns := [], harness := (true, "c39d0df16196e9f8f3819fe85171d6b94f20910c6b42b30e9fe380aa6e06d008"), looks := false }, kinds := [], alts := [], laidByText := true, laidKinds := [.data, .pinned], laidTests := true, laidLooks := .later }
def PositionValidUptoCardSaid : Prop := Claim7.holds Tryd.pinned (.plain (OpenSpec.upto positionValidSpec)) positionValidUptoCard

/-- THE SECOND FORM's CARD OF 'vinculumlaw10.PositionComplete'. -/
def positionCompleteUptoCard : Claim7 := { stood := { row := positionCompleteUptoRow, standIns := [], harness := (true, "c39d0df16196e9f8f3819fe85171d6b94f20910c6b42b30e9fe380aa6e06d008"), looks := false }, kinds := [], alts := [], laidByText := true, laidKinds := [.data, .pinned], laidTests := true, laidLooks := .later }
def PositionCompleteUptoCardSaid : Prop := Claim7.holds Tryd.pinned (.plain (OpenSpec.upto positionCompleteSpec)) positionCompleteUptoCard

/-- THE SECOND FORM's CARD OF 'vinculumlaw11.SelectionBetween'. -/
def selectionBetweenUptoCard : Claim7 := { stood := { row := selectionBetweenUptoRow, standIns := [], harness := (true, "c39d0df16196e9f8f3819fe85171d6b94f20910c6b42b30e9fe380aa6e06d008"), looks := false }, kinds := [], alts := [], laidByText := true, laidKinds := [.data, .pinned], laidTests := true, laidLooks := .later }
def SelectionBetweenUptoCardSaid : Prop := Claim7.holds Tryd.pinned (.plain (OpenSpec.upto selectionBetweenSpec)) selectionBetweenUptoCard

/-- THE SECOND FORM's CARD OF 'vinculumlaw11.SelectionContains'. -/
def selectionContainsUptoCard : Claim7 := { stood := { row := selectionContainsUptoRow, standIns := [], harness := (true, "c39d0df16196e9f8f3819fe85171d6b94f20910c6b42b30e9fe380aa6e06d008"), looks := false }, kinds := [], alts := [], laidByText := true, laidKinds := [.data, .pinned], laidTests := true, laidLooks := .later }
def SelectionContainsUptoCardSaid : Prop := Claim7.holds Tryd.pinned (.plain (OpenSpec.upto selectionContainsSpec)) selectionContainsUptoCard

/-- THE SECOND FORM's CARD OF 'vinculumlaw11.SelectionItems'. -/
def selectionItemsUptoCard : Claim7 := { stood := { row := selectionItemsUptoRow, standIns := [], harness := (true, "c39d0df16196e9f8f3819fe85171d6b94f20910c6b42b30e9fe380aa6e06d008"), looks := false }, kinds := [], alts := [], laidByText := true, laidKinds := [.data, .pinned], laidTests := true, laidLooks := .later }
def SelectionItemsUptoCardSaid : Prop := Claim7.holds Tryd.pinned (.plain (OpenSpec.upto selectionItemsSpec)) selectionItemsUptoCard

/-- THE SECOND FORM's CARD OF 'vinculumlaw11.SelectionEnds'. -/
def selectionEndsUptoCard : Claim7 := { stood := { row := selectionEndsUptoRow, standIns := [], harness := (true, "c39d0df16196e9f8f3819fe85171d6b94f20910c6b42b30e9fe380aa6e06d008"), looks := false }, kinds := [], alts := [], laidByText := true, laidKinds := [.data, .pinned], laidTests := true, laidLooks := .later }
def SelectionEndsUptoCardSaid : Prop := Claim7.holds Tryd.pinned (.plain (OpenSpec.upto selectionEndsSpec)) selectionEndsUptoCard
end Rows
end Go.Proofs.YtagkhoeidjlahaaDoor
