/-
  DERIVED. GIVEN WITH THE SEED: THE CARDS: each row of YthdppkmmfjaiaaaDoorRows.lean that lists a variable, with what it lists TIED to the program's text (the seventh form; the later family's looks); each row that meets fmt, with fmt's text TOLD by the authors' own Lean function (tested against real Go, not proved from fmt's source: count such statements apart). THE CARD IS WHAT COUNTS. Prove the row's statement (the work); the ties are given (YthdppkmmfjaiaaaDoorTie.lean); close each card by the builder's one call (the guide's Derived/Test/ToyasCard.lean, 'card_holds'). Laid BY PROGRAM, IN A SANDBOX (cutbox-door.mjs). By AI agents, Wed Nov 11 2026. No macro, syntax, notation, axiom, sorry.
-/
import Derived.Test.YthdppkmmfjaiaaaDoorRows
import GoSem.ClaimSeven
namespace Go.Proofs.YthdppkmmfjaiaaaDoor
namespace Rows

/-- THE TIED CARD OF 'vinculumlaw26.AtomClass'. -/
def atomClassCard : Claim7 := { stood := { row := atomClassRow, standIns := [], harness := (true, "67734db34f1bce92d6d831cc5660dc68cd0a9c31abe382fca0bd44b935d5faa7"), looks := false }, kinds := [], alts := [], laidByText := true, laidKinds := [.data, .pinned], laidTests := true, laidLooks := .later }
def AtomClassCardSaid : Prop := Claim7.holds Tryd.pinned (.plain (OpenSpec.ofChange atomClassSpec)) atomClassCard

/-- THE TIED CARD OF 'vinculumlaw26.AtomSpace'. -/
def atomSpaceCard : Claim7 := { stood := { row := atomSpaceRow, standIns := [], harness := (true, "67734db34f1bce92d6d831cc5660dc68cd0a9c31abe382fca0bd44b935d5faa7"), looks := false }, kinds := [], alts := [], laidByText := true, laidKinds := [.data, .pinned], laidTests := true, laidLooks := .later }
def AtomSpaceCardSaid : Prop := Claim7.holds Tryd.pinned (.plain (OpenSpec.ofChange atomSpaceSpec)) atomSpaceCard

/-- THE TIED CARD OF 'vinculumlaw26.AtomBinary'. -/
def atomBinaryCard : Claim7 := { stood := { row := atomBinaryRow, standIns := [], harness := (true, "67734db34f1bce92d6d831cc5660dc68cd0a9c31abe382fca0bd44b935d5faa7"), looks := false }, kinds := [], alts := [], laidByText := true, laidKinds := [.data, .pinned], laidTests := true, laidLooks := .later }
def AtomBinaryCardSaid : Prop := Claim7.holds Tryd.pinned (.plain (OpenSpec.ofChange atomBinarySpec)) atomBinaryCard

/-- THE TIED CARD OF 'vinculumlaw26.AtomOwn'. -/
def atomOwnCard : Claim7 := { stood := { row := atomOwnRow, standIns := [], harness := (true, "67734db34f1bce92d6d831cc5660dc68cd0a9c31abe382fca0bd44b935d5faa7"), looks := false }, kinds := [], alts := [], laidByText := true, laidKinds := [.data, .pinned], laidTests := true, laidLooks := .later }
def AtomOwnCardSaid : Prop := Claim7.holds Tryd.pinned (.plain (OpenSpec.ofChange atomOwnSpec)) atomOwnCard

/-- THE TIED CARD OF 'vinculumlaw26.AtomPrefix'. -/
def atomPrefixCard : Claim7 := { stood := { row := atomPrefixRow, standIns := [], harness := (true, "67734db34f1bce92d6d831cc5660dc68cd0a9c31abe382fca0bd44b935d5faa7"), looks := false }, kinds := [], alts := [], laidByText := true, laidKinds := [.data, .pinned], laidTests := true, laidLooks := .later }
def AtomPrefixCardSaid : Prop := Claim7.holds Tryd.pinned (.plain (OpenSpec.ofChange atomPrefixSpec)) atomPrefixCard

/-- THE TIED CARD OF 'vinculumlaw26.AtomStyles'. -/
def atomStylesCard : Claim7 := { stood := { row := atomStylesRow, standIns := [], harness := (true, "67734db34f1bce92d6d831cc5660dc68cd0a9c31abe382fca0bd44b935d5faa7"), looks := false }, kinds := [], alts := [], laidByText := true, laidKinds := [.data, .pinned], laidTests := true, laidLooks := .later }
def AtomStylesCardSaid : Prop := Claim7.holds Tryd.pinned (.plain (OpenSpec.ofChange atomStylesSpec)) atomStylesCard

/-- THE SECOND FORM's CARD OF 'vinculumlaw26.AtomClass'. -/
def atomClassUptoCard : Claim7 := { stood := { row := atomClassUptoRow, standIns := [], harness := (true, "67734db34f1bce92d6d831cc5660dc68cd0a9c31abe382fca0bd44b935d5faa7"), looks := false }, kinds := [], alts := [], laidByText := true, laidKinds := [.data, .pinned], laidTests := true, laidLooks := .later }
def AtomClassUptoCardSaid : Prop := Claim7.holds Tryd.pinned (.plain (OpenSpec.upto atomClassSpec)) atomClassUptoCard

/-- THE SECOND FORM's CARD OF 'vinculumlaw26.AtomSpace'. -/
def atomSpaceUptoCard : Claim7 := { stood := { row := atomSpaceUptoRow, standIns := [], harness := (true, "67734db34f1bce92d6d831cc5660dc68cd0a9c31abe382fca0bd44b935d5faa7"), looks := false }, kinds := [], alts := [], laidByText := true, laidKinds := [.data, .pinned], laidTests := true, laidLooks := .later }
def AtomSpaceUptoCardSaid : Prop := Claim7.holds Tryd.pinned (.plain (OpenSpec.upto atomSpaceSpec)) atomSpaceUptoCard

/-- THE SECOND FORM's CARD OF 'vinculumlaw26.AtomBinary'. -/
def atomBinaryUptoCard : Claim7 := { stood := { row := atomBinaryUptoRow, standIns := [], harness := (true, "67734db34f1bce92d6d831cc5660dc68cd0a9c31abe382fca0bd44b935d5faa7"), looks := false }, kinds := [], alts := [], laidByText := true, laidKinds := [.data, .pinned], laidTests := true, laidLooks := .later }
def AtomBinaryUptoCardSaid : Prop := Claim7.holds Tryd.pinned (.plain (OpenSpec.upto atomBinarySpec)) atomBinaryUptoCard

/-- THE SECOND FORM's CARD OF 'vinculumlaw26.AtomOwn'. -/
def atomOwnUptoCard : Claim7 := { stood := { row := atomOwnUptoRow, standIns := [], harness := (true, "67734db34f1bce92d6d831cc5660dc68cd0a9c31abe382fca0bd44b935d5faa7"), looks := false }, kinds := [], alts := [], laidByText := true, laidKinds := [.data, .pinned], laidTests := true, laidLooks := .later }
def AtomOwnUptoCardSaid : Prop := Claim7.holds Tryd.pinned (.plain (OpenSpec.upto atomOwnSpec)) atomOwnUptoCard

/-- THE SECOND FORM's CARD OF 'vinculumlaw26.AtomPrefix'. -/
def atomPrefixUptoCard : Claim7 := { stood := { row := atomPrefixUptoRow, standIns := [], harness := (true, "67734db34f1bce92d6d831cc5660dc68cd0a9c31abe382fca0bd44b935d5faa7"), looks := false }, kinds := [], alts := [], laidByText := true, laidKinds := [.data, .pinned], laidTests := true, laidLooks := .later }
def AtomPrefixUptoCardSaid : Prop := Claim7.holds Tryd.pinned (.plain (OpenSpec.upto atomPrefixSpec)) atomPrefixUptoCard

/-- THE SECOND FORM's CARD OF 'vinculumlaw26.AtomStyles'. -/
def atomStylesUptoCard : Claim7 := { stood := { row := atomStylesUptoRow, standIns := [], harness := (true, "67734db34f1bce92d6d831cc5660dc68cd0a9c31abe382fca0bd44b935d5faa7"), looks := false }, kinds := [], alts := [], laidByText := true, laidKinds := [.data, .pinned], laidTests := true, laidLooks := .later }
def AtomStylesUptoCardSaid : Prop := Claim7.holds Tryd.pinned (.plain (OpenSpec.upto atomStylesSpec)) atomStylesUptoCard
end Rows
end Go.Proofs.YthdppkmmfjaiaaaDoor
