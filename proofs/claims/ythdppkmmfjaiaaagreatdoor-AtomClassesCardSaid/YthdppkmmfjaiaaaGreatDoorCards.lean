/-
  DERIVED. GIVEN WITH THE SEED: THE CARDS: each row of YthdppkmmfjaiaaaGreatDoorRows.lean that lists a variable, with what it lists TIED to the program's text (the seventh form; the later family's looks); each row that meets fmt, with fmt's text TOLD by the authors' own Lean function (tested against real Go, not proved from fmt's source: count such statements apart). THE CARD IS WHAT COUNTS. Prove the row's statement (the work); the ties are given (YthdppkmmfjaiaaaGreatDoorTie.lean); close each card by the builder's one call (the guide's Derived/Test/ToyasCard.lean, 'card_holds'). Laid BY PROGRAM, IN A SANDBOX (cutbox-door.mjs). By AI agents, Wed Nov 11 2026. No macro, syntax, notation, axiom, sorry.
-/
import Derived.Test.YthdppkmmfjaiaaaGreatDoorRows
import GoSem.ClaimSeven
namespace Go.Proofs.YthdppkmmfjaiaaaGreatDoor
namespace Rows

/-- THE TIED CARD OF 'vinculumlaw26.AtomClasses'. -/
def atomClassesCard : Claim7 := { stood := { row := atomClassesRow, standIns := [], harness := (true, "a1746a9bf9ab53c564fb9eabe021293ae436fcc39d84d15e2c5c20f460814798"), looks := false }, kinds := [], alts := [], laidByText := true, laidKinds := [.data, .pinned], laidTests := true, laidLooks := .later }
def AtomClassesCardSaid : Prop := Claim7.holds Tryz.pinned (.plain (OpenSpec.ofChange atomClassesSpec)) atomClassesCard

/-- THE TIED CARD OF 'vinculumlaw26.AtomSpaces'. -/
def atomSpacesCard : Claim7 := { stood := { row := atomSpacesRow, standIns := [], harness := (true, "a1746a9bf9ab53c564fb9eabe021293ae436fcc39d84d15e2c5c20f460814798"), looks := false }, kinds := [], alts := [], laidByText := true, laidKinds := [.data, .pinned], laidTests := true, laidLooks := .later }
def AtomSpacesCardSaid : Prop := Claim7.holds Tryz.pinned (.plain (OpenSpec.ofChange atomSpacesSpec)) atomSpacesCard

/-- THE SECOND FORM's CARD OF 'vinculumlaw26.AtomClasses'. -/
def atomClassesUptoCard : Claim7 := { stood := { row := atomClassesUptoRow, standIns := [], harness := (true, "a1746a9bf9ab53c564fb9eabe021293ae436fcc39d84d15e2c5c20f460814798"), looks := false }, kinds := [], alts := [], laidByText := true, laidKinds := [.data, .pinned], laidTests := true, laidLooks := .later }
def AtomClassesUptoCardSaid : Prop := Claim7.holds Tryz.pinned (.plain (OpenSpec.upto atomClassesSpec)) atomClassesUptoCard

/-- THE SECOND FORM's CARD OF 'vinculumlaw26.AtomSpaces'. -/
def atomSpacesUptoCard : Claim7 := { stood := { row := atomSpacesUptoRow, standIns := [], harness := (true, "a1746a9bf9ab53c564fb9eabe021293ae436fcc39d84d15e2c5c20f460814798"), looks := false }, kinds := [], alts := [], laidByText := true, laidKinds := [.data, .pinned], laidTests := true, laidLooks := .later }
def AtomSpacesUptoCardSaid : Prop := Claim7.holds Tryz.pinned (.plain (OpenSpec.upto atomSpacesSpec)) atomSpacesUptoCard
end Rows
end Go.Proofs.YthdppkmmfjaiaaaGreatDoor
