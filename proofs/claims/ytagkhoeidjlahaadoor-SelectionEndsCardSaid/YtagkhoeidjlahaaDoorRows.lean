/-
  NARROWER THAN 'FOR EVERY INPUT', by the rows' own cells (each row's printed sentence says how): BreakpointPlaces: loops, laid · BreakpointClasses: loops, laid · BreakpointBegins: loops, laid · PositionIndex: loops, laid · PositionOrder: laid · PositionNext: loops, laid · PositionAll: loops, laid · PositionNeighbours: loops, laid · PositionValid: loops, laid · PositionComplete: loops, laid · SelectionBetween: loops, laid · SelectionContains: laid · SelectionItems: loops, laid · SelectionEnds: loops, laid.
  DERIVED. THE GIVEN ROWS OF THIS SEAT. 14 by the template 'for every input the law returns true; each argument reads behind the call as it read before'; 0 by the template 'total and deterministic' (their statements: YtagkhoeidjlahaaDoorTotals.lean).
  GIVEN WITH THE SEED: the statements are not yours to turn. If you find one false, say at which input.
  Laid BY PROGRAM, IN A SANDBOX (cutbox-rows.mjs): the forced cells as the released guide's own fill.sh prints them over the translation 1a66802860bbaa7d… (all of the seat's roots in one cut). By AI agents, Wed Nov 11 2026. No macro, syntax, notation, axiom, sorry.
-/
import Derived.Test.YtagkhoeidjlahaaDoorChecked
import GoSem.PinnedTables
import GoSem.Claim
import GoSem.ClaimJoined
import GoSem.ClaimMapViews
import Derived.JoinedTies
import Derived.KernelRfl
namespace Go.Proofs.YtagkhoeidjlahaaDoor
/- THE CELL 'sum', in the pinned program and in every row, IS THE sha256 OF THE DUMP (.gsa) THAT YtagkhoeidjlahaaDoorProg.lean LOADS. Nothing in Lean hashes anything: it is a label: what it is worth is what the hold of that sum in a sandbox is worth. -/
noncomputable def Tryd.pinned : Pinned := { name := "ytagkhoeidjlahaadoor", sum := "1a66802860bbaa7db818deaae1ce61b0bb00c2a9393eab9275a8bc9e8e554c3a", checked := Tryd.checked }
namespace Rows
def none {H : Type} : Left H := { results := [], args := [] }

/- WHAT THE LISTED PACKAGE-LEVEL VARIABLES READ AS WHEN THE CALL BEGINS. Each datum BY PROGRAM (the guide's laid-datum.mjs) off the statement by which the dump's own 'gosem.cut.vars' lays the variable. In a bare row this is a premise. The card (YtagkhoeidjlahaaDoorCards.lean) ties it to the program's text. -/
def laid_unicode_utf8_acceptRanges {H : Type} : DataW H := .agg [.agg [.lit (.int .u8 128), .lit (.int .u8 191)], .agg [.lit (.int .u8 160), .lit (.int .u8 191)], .agg [.lit (.int .u8 128), .lit (.int .u8 159)], .agg [.lit (.int .u8 144), .lit (.int .u8 191)], .agg [.lit (.int .u8 128), .lit (.int .u8 143)], .agg [.lit (.int .u8 0), .lit (.int .u8 0)], .agg [.lit (.int .u8 0), .lit (.int .u8 0)], .agg [.lit (.int .u8 0), .lit (.int .u8 0)], .agg [.lit (.int .u8 0), .lit (.int .u8 0)], .agg [.lit (.int .u8 0), .lit (.int .u8 0)], .agg [.lit (.int .u8 0), .lit (.int .u8 0)], .agg [.lit (.int .u8 0), .lit (.int .u8 0)], .agg [.lit (.int .u8 0), .lit (.int .u8 0)], .agg [.lit (.int .u8 0), .lit (.int .u8 0)], .agg [.lit (.int .u8 0), .lit (.int .u8 0)], .agg [.lit (.int .u8 0), .lit (.int .u8 0)]]
/-- One of Go's own tables, pinned by name: the form's constant. -/
def laid_unicode_utf8_first : DataW Unit := Go.Pinned.utf8First

/-- 'vinculumlaw43.BreakpointPlaces': WHATEVER THE INPUT: true; the input reads as it did. -/
def breakpointPlacesSpec : ChangeSpec := { name := "breakpointPlaces", fn := fun _ => fun
  | [d1, d2] => { results := [.lit (.bool true)], args := [d1, d2] }
  | _ => none }
def breakpointPlacesRow : OpenClaim := { program := "ytagkhoeidjlahaadoor", sum := "1a66802860bbaa7db818deaae1ce61b0bb00c2a9393eab9275a8bc9e8e554c3a", func := "vinculum/vinculumlaw43.BreakpointPlaces", spec := "breakpointPlaces", inPlace := ["internal/bytealg.IndexByteString", "internal/bytealg.IndexString"], unfollowed := true, recurses := true, named := ["internal/bytealg.MaxLen", "unicode/utf8.first", "unicode/utf8.acceptRanges"], loops := true, apart := false, laid := [("unicode/utf8.acceptRanges", laid_unicode_utf8_acceptRanges), ("unicode/utf8.first", laid_unicode_utf8_first)] }
def BreakpointPlacesSaid : Prop := breakpointPlacesRow.holds Tryd.pinned (OpenSpec.ofChange breakpointPlacesSpec)

/-- ITS FALSE NEIGHBOUR: 'it returns false'. Refute it at one input. -/
def breakpointPlacesWrong : ChangeSpec := { name := "breakpointPlaces", fn := fun _ => fun
  | [d1, d2] => { results := [.lit (.bool false)], args := [d1, d2] }
  | _ => none }
def BreakpointPlacesWrongFalsely : Prop := breakpointPlacesRow.holds Tryd.pinned (OpenSpec.ofChange breakpointPlacesWrong)

/-- 'vinculumlaw43.BreakpointClasses': WHATEVER THE INPUT: true; the input reads as it did. -/
def breakpointClassesSpec : ChangeSpec := { name := "breakpointClasses", fn := fun _ => fun
  | [d1, d2] => { results := [.lit (.bool true)], args := [d1, d2] }
  | _ => none }
def breakpointClassesRow : OpenClaim := { program := "ytagkhoeidjlahaadoor", sum := "1a66802860bbaa7db818deaae1ce61b0bb00c2a9393eab9275a8bc9e8e554c3a", func := "vinculum/vinculumlaw43.BreakpointClasses", spec := "breakpointClasses", inPlace := ["internal/bytealg.IndexByteString", "internal/bytealg.IndexString"], unfollowed := true, recurses := true, named := ["internal/bytealg.MaxLen", "unicode/utf8.first", "unicode/utf8.acceptRanges"], loops := true, apart := false, laid := [("unicode/utf8.acceptRanges", laid_unicode_utf8_acceptRanges), ("unicode/utf8.first", laid_unicode_utf8_first)] }
def BreakpointClassesSaid : Prop := breakpointClassesRow.holds Tryd.pinned (OpenSpec.ofChange breakpointClassesSpec)

/-- ITS FALSE NEIGHBOUR: 'it returns false'. Refute it at one input. -/
def breakpointClassesWrong : ChangeSpec := { name := "breakpointClasses", fn := fun _ => fun
  | [d1, d2] => { results := [.lit (.bool false)], args := [d1, d2] }
  | _ => none }
def BreakpointClassesWrongFalsely : Prop := breakpointClassesRow.holds Tryd.pinned (OpenSpec.ofChange breakpointClassesWrong)

/-- 'vinculumlaw43.BreakpointBegins': WHATEVER THE INPUT: true; the input reads as it did. -/
def breakpointBeginsSpec : ChangeSpec := { name := "breakpointBegins", fn := fun _ => fun
  | [d1, d2, d3] => { results := [.lit (.bool true)], args := [d1, d2, d3] }
  | _ => none }
def breakpointBeginsRow : OpenClaim := { program := "ytagkhoeidjlahaadoor", sum := "1a66802860bbaa7db818deaae1ce61b0bb00c2a9393eab9275a8bc9e8e554c3a", func := "vinculum/vinculumlaw43.BreakpointBegins", spec := "breakpointBegins", inPlace := ["internal/bytealg.IndexByteString", "internal/bytealg.IndexString"], unfollowed := true, recurses := true, named := ["internal/bytealg.MaxLen", "unicode/utf8.first", "unicode/utf8.acceptRanges"], loops := true, apart := false, laid := [("unicode/utf8.acceptRanges", laid_unicode_utf8_acceptRanges), ("unicode/utf8.first", laid_unicode_utf8_first)] }
def BreakpointBeginsSaid : Prop := breakpointBeginsRow.holds Tryd.pinned (OpenSpec.ofChange breakpointBeginsSpec)

/-- ITS FALSE NEIGHBOUR: 'it returns false'. Refute it at one input. -/
def breakpointBeginsWrong : ChangeSpec := { name := "breakpointBegins", fn := fun _ => fun
  | [d1, d2, d3] => { results := [.lit (.bool false)], args := [d1, d2, d3] }
  | _ => none }
def BreakpointBeginsWrongFalsely : Prop := breakpointBeginsRow.holds Tryd.pinned (OpenSpec.ofChange breakpointBeginsWrong)

/-- 'vinculumlaw10.PositionIndex': WHATEVER THE INPUT: true; the input reads as it did. -/
def positionIndexSpec : ChangeSpec := { name := "positionIndex", fn := fun _ => fun
  | [d1, d2, d3] => { results := [.lit (.bool true)], args := [d1, d2, d3] }
  | _ => none }
def positionIndexRow : OpenClaim := { program := "ytagkhoeidjlahaadoor", sum := "1a66802860bbaa7db818deaae1ce61b0bb00c2a9393eab9275a8bc9e8e554c3a", func := "vinculum/vinculumlaw10.PositionIndex", spec := "positionIndex", inPlace := ["internal/bytealg.IndexByteString", "internal/bytealg.IndexString"], unfollowed := true, recurses := true, named := ["internal/bytealg.MaxLen", "unicode/utf8.first", "unicode/utf8.acceptRanges"], loops := true, apart := false, laid := [("unicode/utf8.acceptRanges", laid_unicode_utf8_acceptRanges), ("unicode/utf8.first", laid_unicode_utf8_first)] }
def PositionIndexSaid : Prop := positionIndexRow.holds Tryd.pinned (OpenSpec.ofChange positionIndexSpec)

/-- ITS FALSE NEIGHBOUR: 'it returns false'. Refute it at one input. -/
def positionIndexWrong : ChangeSpec := { name := "positionIndex", fn := fun _ => fun
  | [d1, d2, d3] => { results := [.lit (.bool false)], args := [d1, d2, d3] }
  | _ => none }
def PositionIndexWrongFalsely : Prop := positionIndexRow.holds Tryd.pinned (OpenSpec.ofChange positionIndexWrong)

/-- 'vinculumlaw10.PositionOrder': WHATEVER THE INPUT: true; the input reads as it did. -/
def positionOrderSpec : ChangeSpec := { name := "positionOrder", fn := fun _ => fun
  | [d1, d2, d3] => { results := [.lit (.bool true)], args := [d1, d2, d3] }
  | _ => none }
def positionOrderRow : OpenClaim := { program := "ytagkhoeidjlahaadoor", sum := "1a66802860bbaa7db818deaae1ce61b0bb00c2a9393eab9275a8bc9e8e554c3a", func := "vinculum/vinculumlaw10.PositionOrder", spec := "positionOrder", inPlace := ["internal/bytealg.IndexByteString", "internal/bytealg.IndexString"], unfollowed := true, recurses := true, named := ["internal/bytealg.MaxLen", "unicode/utf8.first", "unicode/utf8.acceptRanges"], apart := false, laid := [("unicode/utf8.acceptRanges", laid_unicode_utf8_acceptRanges), ("unicode/utf8.first", laid_unicode_utf8_first)] }
def PositionOrderSaid : Prop := positionOrderRow.holds Tryd.pinned (OpenSpec.ofChange positionOrderSpec)

/-- ITS FALSE NEIGHBOUR: 'it returns false'. Refute it at one input. -/
def positionOrderWrong : ChangeSpec := { name := "positionOrder", fn := fun _ => fun
  | [d1, d2, d3] => { results := [.lit (.bool false)], args := [d1, d2, d3] }
  | _ => none }
def PositionOrderWrongFalsely : Prop := positionOrderRow.holds Tryd.pinned (OpenSpec.ofChange positionOrderWrong)

/-- 'vinculumlaw10.PositionNext': WHATEVER THE INPUT: true; the input reads as it did. -/
def positionNextSpec : ChangeSpec := { name := "positionNext", fn := fun _ => fun
  | [d1, d2] => { results := [.lit (.bool true)], args := [d1, d2] }
  | _ => none }
def positionNextRow : OpenClaim := { program := "ytagkhoeidjlahaadoor", sum := "1a66802860bbaa7db818deaae1ce61b0bb00c2a9393eab9275a8bc9e8e554c3a", func := "vinculum/vinculumlaw10.PositionNext", spec := "positionNext", inPlace := ["internal/bytealg.IndexByteString", "internal/bytealg.IndexString"], unfollowed := true, recurses := true, named := ["internal/bytealg.MaxLen", "unicode/utf8.first", "unicode/utf8.acceptRanges"], loops := true, apart := false, laid := [("unicode/utf8.acceptRanges", laid_unicode_utf8_acceptRanges), ("unicode/utf8.first", laid_unicode_utf8_first)] }
def PositionNextSaid : Prop := positionNextRow.holds Tryd.pinned (OpenSpec.ofChange positionNextSpec)

/-- ITS FALSE NEIGHBOUR: 'it returns false'. Refute it at one input. -/
def positionNextWrong : ChangeSpec := { name := "positionNext", fn := fun _ => fun
  | [d1, d2] => { results := [.lit (.bool false)], args := [d1, d2] }
  | _ => none }
def PositionNextWrongFalsely : Prop := positionNextRow.holds Tryd.pinned (OpenSpec.ofChange positionNextWrong)

/-- 'vinculumlaw10.PositionAll': WHATEVER THE INPUT: true; the input reads as it did. -/
def positionAllSpec : ChangeSpec := { name := "positionAll", fn := fun _ => fun
  | [d] => { results := [.lit (.bool true)], args := [d] }
  | _ => none }
def positionAllRow : OpenClaim := { program := "ytagkhoeidjlahaadoor", sum := "1a66802860bbaa7db818deaae1ce61b0bb00c2a9393eab9275a8bc9e8e554c3a", func := "vinculum/vinculumlaw10.PositionAll", spec := "positionAll", inPlace := ["internal/bytealg.IndexByteString", "internal/bytealg.IndexString"], unfollowed := true, recurses := true, named := ["internal/bytealg.MaxLen", "unicode/utf8.first", "unicode/utf8.acceptRanges"], loops := true, apart := false, laid := [("unicode/utf8.acceptRanges", laid_unicode_utf8_acceptRanges), ("unicode/utf8.first", laid_unicode_utf8_first)] }
def PositionAllSaid : Prop := positionAllRow.holds Tryd.pinned (OpenSpec.ofChange positionAllSpec)

/-- ITS FALSE NEIGHBOUR: 'it returns false'. Refute it at one input. -/
def positionAllWrong : ChangeSpec := { name := "positionAll", fn := fun _ => fun
  | [d] => { results := [.lit (.bool false)], args := [d] }
  | _ => none }
def PositionAllWrongFalsely : Prop := positionAllRow.holds Tryd.pinned (OpenSpec.ofChange positionAllWrong)

/-- 'vinculumlaw10.PositionNeighbours': WHATEVER THE INPUT: true; the input reads as it did. -/
def positionNeighboursSpec : ChangeSpec := { name := "positionNeighbours", fn := fun _ => fun
  | [d1, d2] => { results := [.lit (.bool true)], args := [d1, d2] }
  | _ => none }
def positionNeighboursRow : OpenClaim := { program := "ytagkhoeidjlahaadoor", sum := "1a66802860bbaa7db818deaae1ce61b0bb00c2a9393eab9275a8bc9e8e554c3a", func := "vinculum/vinculumlaw10.PositionNeighbours", spec := "positionNeighbours", inPlace := ["internal/bytealg.IndexByteString", "internal/bytealg.IndexString"], unfollowed := true, recurses := true, named := ["internal/bytealg.MaxLen", "unicode/utf8.first", "unicode/utf8.acceptRanges"], loops := true, apart := false, laid := [("unicode/utf8.acceptRanges", laid_unicode_utf8_acceptRanges), ("unicode/utf8.first", laid_unicode_utf8_first)] }
def PositionNeighboursSaid : Prop := positionNeighboursRow.holds Tryd.pinned (OpenSpec.ofChange positionNeighboursSpec)

/-- ITS FALSE NEIGHBOUR: 'it returns false'. Refute it at one input. -/
def positionNeighboursWrong : ChangeSpec := { name := "positionNeighbours", fn := fun _ => fun
  | [d1, d2] => { results := [.lit (.bool false)], args := [d1, d2] }
  | _ => none }
def PositionNeighboursWrongFalsely : Prop := positionNeighboursRow.holds Tryd.pinned (OpenSpec.ofChange positionNeighboursWrong)

/-- 'vinculumlaw10.PositionValid': WHATEVER THE INPUT: true; the input reads as it did. -/
def positionValidSpec : ChangeSpec := { name := "positionValid", fn := fun _ => fun
  | [d1, d2] => { results := [.lit (.bool true)], args := [d1, d2] }
  | _ => none }
def positionValidRow : OpenClaim := { program := "ytagkhoeidjlahaadoor", sum := "1a66802860bbaa7db818deaae1ce61b0bb00c2a9393eab9275a8bc9e8e554c3a", func := "vinculum/vinculumlaw10.PositionValid", spec := "positionValid", inPlace := ["internal/bytealg.IndexByteString", "internal/bytealg.IndexString"], unfollowed := true, recurses := true, named := ["internal/bytealg.MaxLen", "unicode/utf8.first", "unicode/utf8.acceptRanges"], loops := true, apart := false, laid := [("unicode/utf8.acceptRanges", laid_unicode_utf8_acceptRanges), ("unicode/utf8.first", laid_unicode_utf8_first)] }
def PositionValidSaid : Prop := positionValidRow.holds Tryd.pinned (OpenSpec.ofChange positionValidSpec)

/-- ITS FALSE NEIGHBOUR: 'it returns false'. Refute it at one input. -/
def positionValidWrong : ChangeSpec := { name := "positionValid", fn := fun _ => fun
  | [d1, d2] => { results := [.lit (.bool false)], args := [d1, d2] }
  | _ => none }
def PositionValidWrongFalsely : Prop := positionValidRow.holds Tryd.pinned (OpenSpec.ofChange positionValidWrong)

/-- 'vinculumlaw10.PositionComplete': WHATEVER THE INPUT: true; the input reads as it did. -/
def positionCompleteSpec : ChangeSpec := { name := "positionComplete", fn := fun _ => fun
  | [d] => { results := [.lit (.bool true)], args := [d] }
  | _ => none }
def positionCompleteRow : OpenClaim := { program := "ytagkhoeidjlahaadoor", sum := "1a66802860bbaa7db818deaae1ce61b0bb00c2a9393eab9275a8bc9e8e554c3a", func := "vinculum/vinculumlaw10.PositionComplete", spec := "positionComplete", inPlace := ["internal/bytealg.IndexByteString", "internal/bytealg.IndexString"], unfollowed := true, recurses := true, named := ["internal/bytealg.MaxLen", "unicode/utf8.first", "unicode/utf8.acceptRanges"], loops := true, apart := false, laid := [("unicode/utf8.acceptRanges", laid_unicode_utf8_acceptRanges), ("unicode/utf8.first", laid_unicode_utf8_first)] }
def PositionCompleteSaid : Prop := positionCompleteRow.holds Tryd.pinned (OpenSpec.ofChange positionCompleteSpec)

/-- ITS FALSE NEIGHBOUR: 'it returns false'. Refute it at one input. -/
def positionCompleteWrong : ChangeSpec := { name := "positionComplete", fn := fun _ => fun
  | [d] => { results := [.lit (.bool false)], args := [d] }
  | _ => none }
def PositionCompleteWrongFalsely : Prop := positionCompleteRow.holds Tryd.pinned (OpenSpec.ofChange positionCompleteWrong)

/-- 'vinculumlaw11.SelectionBetween': WHATEVER THE INPUT: true; the input reads as it did. -/
def selectionBetweenSpec : ChangeSpec := { name := "selectionBetween", fn := fun _ => fun
  | [d1, d2, d3] => { results := [.lit (.bool true)], args := [d1, d2, d3] }
  | _ => none }
def selectionBetweenRow : OpenClaim := { program := "ytagkhoeidjlahaadoor", sum := "1a66802860bbaa7db818deaae1ce61b0bb00c2a9393eab9275a8bc9e8e554c3a", func := "vinculum/vinculumlaw11.SelectionBetween", spec := "selectionBetween", inPlace := ["internal/bytealg.IndexByteString", "internal/bytealg.IndexString"], unfollowed := true, recurses := true, named := ["internal/bytealg.MaxLen", "unicode/utf8.first", "unicode/utf8.acceptRanges"], loops := true, apart := false, laid := [("unicode/utf8.acceptRanges", laid_unicode_utf8_acceptRanges), ("unicode/utf8.first", laid_unicode_utf8_first)] }
def SelectionBetweenSaid : Prop := selectionBetweenRow.holds Tryd.pinned (OpenSpec.ofChange selectionBetweenSpec)

/-- ITS FALSE NEIGHBOUR: 'it returns false'. Refute it at one input. -/
def selectionBetweenWrong : ChangeSpec := { name := "selectionBetween", fn := fun _ => fun
  | [d1, d2, d3] => { results := [.lit (.bool false)], args := [d1, d2, d3] }
  | _ => none }
def SelectionBetweenWrongFalsely : Prop := selectionBetweenRow.holds Tryd.pinned (OpenSpec.ofChange selectionBetweenWrong)

/-- 'vinculumlaw11.SelectionContains': WHATEVER THE INPUT: true; the input reads as it did. -/
def selectionContainsSpec : ChangeSpec := { name := "selectionContains", fn := fun _ => fun
  | [d1, d2] => { results := [.lit (.bool true)], args := [d1, d2] }
  | _ => none }
def selectionContainsRow : OpenClaim := { program := "ytagkhoeidjlahaadoor", sum := "1a66802860bbaa7db818deaae1ce61b0bb00c2a9393eab9275a8bc9e8e554c3a", func := "vinculum/vinculumlaw11.SelectionContains", spec := "selectionContains", inPlace := ["internal/bytealg.IndexByteString", "internal/bytealg.IndexString"], unfollowed := true, recurses := true, named := ["internal/bytealg.MaxLen", "unicode/utf8.first", "unicode/utf8.acceptRanges"], apart := false, laid := [("unicode/utf8.acceptRanges", laid_unicode_utf8_acceptRanges), ("unicode/utf8.first", laid_unicode_utf8_first)] }
def SelectionContainsSaid : Prop := selectionContainsRow.holds Tryd.pinned (OpenSpec.ofChange selectionContainsSpec)

/-- ITS FALSE NEIGHBOUR: 'it returns false'. Refute it at one input. -/
def selectionContainsWrong : ChangeSpec := { name := "selectionContains", fn := fun _ => fun
  | [d1, d2] => { results := [.lit (.bool false)], args := [d1, d2] }
  | _ => none }
def SelectionContainsWrongFalsely : Prop := selectionContainsRow.holds Tryd.pinned (OpenSpec.ofChange selectionContainsWrong)

/-- 'vinculumlaw11.SelectionItems': WHATEVER THE INPUT: true; the input reads as it did. -/
def selectionItemsSpec : ChangeSpec := { name := "selectionItems", fn := fun _ => fun
  | [d1, d2] => { results := [.lit (.bool true)], args := [d1, d2] }
  | _ => none }
def selectionItemsRow : OpenClaim := { program := "ytagkhoeidjlahaadoor", sum := "1a66802860bbaa7db818deaae1ce61b0bb00c2a9393eab9275a8bc9e8e554c3a", func := "vinculum/vinculumlaw11.SelectionItems", spec := "selectionItems", inPlace := ["internal/bytealg.IndexByteString", "internal/bytealg.IndexString"], unfollowed := true, recurses := true, named := ["internal/bytealg.MaxLen", "unicode/utf8.first", "unicode/utf8.acceptRanges"], loops := true, apart := false, laid := [("unicode/utf8.acceptRanges", laid_unicode_utf8_acceptRanges), ("unicode/utf8.first", laid_unicode_utf8_first)] }
def SelectionItemsSaid : Prop := selectionItemsRow.holds Tryd.pinned (OpenSpec.ofChange selectionItemsSpec)

/-- ITS FALSE NEIGHBOUR: 'it returns false'. Refute it at one input. -/
def selectionItemsWrong : ChangeSpec := { name := "selectionItems", fn := fun _ => fun
  | [d1, d2] => { results := [.lit (.bool false)], args := [d1, d2] }
  | _ => none }
def SelectionItemsWrongFalsely : Prop := selectionItemsRow.holds Tryd.pinned (OpenSpec.ofChange selectionItemsWrong)

/-- 'vinculumlaw11.SelectionEnds': WHATEVER THE INPUT: true; the input reads as it did. -/
def selectionEndsSpec : ChangeSpec := { name := "selectionEnds", fn := fun _ => fun
  | [d1, d2] => { results := [.lit (.bool true)], args := [d1, d2] }
  | _ => none }
def selectionEndsRow : OpenClaim := { program := "ytagkhoeidjlahaadoor", sum := "1a66802860bbaa7db818deaae1ce61b0bb00c2a9393eab9275a8bc9e8e554c3a", func := "vinculum/vinculumlaw11.SelectionEnds", spec := "selectionEnds", inPlace := ["internal/bytealg.IndexByteString", "internal/bytealg.IndexString"], unfollowed := true, recurses := true, named := ["internal/bytealg.MaxLen", "unicode/utf8.first", "unicode/utf8.acceptRanges"], loops := true, apart := false, laid := [("unicode/utf8.acceptRanges", laid_unicode_utf8_acceptRanges), ("unicode/utf8.first", laid_unicode_utf8_first)] }
def SelectionEndsSaid : Prop := selectionEndsRow.holds Tryd.pinned (OpenSpec.ofChange selectionEndsSpec)

/-- ITS FALSE NEIGHBOUR: 'it returns false'. Refute it at one input. -/
def selectionEndsWrong : ChangeSpec := { name := "selectionEnds", fn := fun _ => fun
  | [d1, d2] => { results := [.lit (.bool false)], args := [d1, d2] }
  | _ => none }
def SelectionEndsWrongFalsely : Prop := selectionEndsRow.holds Tryd.pinned (OpenSpec.ofChange selectionEndsWrong)

/- THE SECOND FORM. 'bulk': how many values and letters a reading holds, each counted each time it is reached (what is shared counts as often as it is met; a slice's spare places count too). A statement '..UptoSaid' is the law's where the arguments, and the package variables that the reading takes, are together of bulk at most 1048576: NARROWER than '..Said'. Prove '..Said' where nothing that the law and all that it calls make is longer than what came in: it says more and counts as full. Else prove '..UptoSaid'. A law counts once. -/
mutual
def uptoBulk {H : Type} : DataW H → Nat
  | .lit (.string bytes) => bytes.length + 1
  | .lit _ => 1
  | .nil => 1
  | .ptr d => uptoBulk d + 1
  | .slice elems spare => uptoBulkAll elems + uptoBulkAll spare + 1
  | .agg parts => uptoBulkAll parts + 1
  | .iface _ d => uptoBulk d + 1
  | .map entries => uptoBulkEntries entries + 1
  | .held _ => 1
def uptoBulkAll {H : Type} : List (DataW H) → Nat
  | [] => 0
  | d :: r => uptoBulk d + uptoBulkAll r
def uptoBulkEntries {H : Type} : List (Lit × DataW H) → Nat
  | [] => 0
  | x :: r => uptoBulkEntry x + uptoBulkEntries r
def uptoBulkEntry {H : Type} : Lit × DataW H → Nat
  | (.string bytes, d) => bytes.length + uptoBulk d + 1
  | (_, d) => uptoBulk d + 1
 end
def uptoSmall : (H : Type) → List (DataW H) → Bool := fun _ ds => decide (uptoBulkAll ds ≤ 1048576)
def OpenSpec.upto (s : _root_.Go.ChangeSpec) : _root_.Go.OpenSpec := { _root_.Go.OpenSpec.ofChange s with cond := some uptoSmall }

/-- 'vinculumlaw43.BreakpointPlaces', WHERE WHAT IT READS IS OF BULK AT MOST 1048576: true; the input reads as it did. -/
def breakpointPlacesUptoRow : OpenClaim := { program := "ytagkhoeidjlahaadoor", sum := "1a66802860bbaa7db818deaae1ce61b0bb00c2a9393eab9275a8bc9e8e554c3a", func := "vinculum/vinculumlaw43.BreakpointPlaces", spec := "breakpointPlaces", inPlace := ["internal/bytealg.IndexByteString", "internal/bytealg.IndexString"], unfollowed := true, recurses := true, named := ["internal/bytealg.MaxLen", "unicode/utf8.first", "unicode/utf8.acceptRanges"], loops := true, apart := false, laid := [("unicode/utf8.acceptRanges", laid_unicode_utf8_acceptRanges), ("unicode/utf8.first", laid_unicode_utf8_first)], narrowed := true }
def BreakpointPlacesUptoSaid : Prop := breakpointPlacesUptoRow.holds Tryd.pinned (OpenSpec.upto breakpointPlacesSpec)

/-- 'vinculumlaw43.BreakpointClasses', WHERE WHAT IT READS IS OF BULK AT MOST 1048576: true; the input reads as it did. -/
def breakpointClassesUptoRow : OpenClaim := { program := "ytagkhoeidjlahaadoor", sum := "1a66802860bbaa7db818deaae1ce61b0bb00c2a9393eab9275a8bc9e8e554c3a", func := "vinculum/vinculumlaw43.BreakpointClasses", spec := "breakpointClasses", inPlace := ["internal/bytealg.IndexByteString", "internal/bytealg.IndexString"], unfollowed := true, recurses := true, named := ["internal/bytealg.MaxLen", "unicode/utf8.first", "unicode/utf8.acceptRanges"], loops := true, apart := false, laid := [("unicode/utf8.acceptRanges", laid_unicode_utf8_acceptRanges), ("unicode/utf8.first", laid_unicode_utf8_first)], narrowed := true }
def BreakpointClassesUptoSaid : Prop := breakpointClassesUptoRow.holds Tryd.pinned (OpenSpec.upto breakpointClassesSpec)

/-- 'vinculumlaw43.BreakpointBegins', WHERE WHAT IT READS IS OF BULK AT MOST 1048576: true; the input reads as it did. -/
def breakpointBeginsUptoRow : OpenClaim := { program := "ytagkhoeidjlahaadoor", sum := "1a66802860bbaa7db818deaae1ce61b0bb00c2a9393eab9275a8bc9e8e554c3a", func := "vinculum/vinculumlaw43.BreakpointBegins", spec := "breakpointBegins", inPlace := ["internal/bytealg.IndexByteString", "internal/bytealg.IndexString"], unfollowed := true, recurses := true, named := ["internal/bytealg.MaxLen", "unicode/utf8.first", "unicode/utf8.acceptRanges"], loops := true, apart := false, laid := [("unicode/utf8.acceptRanges", laid_unicode_utf8_acceptRanges), ("unicode/utf8.first", laid_unicode_utf8_first)], narrowed := true }
def BreakpointBeginsUptoSaid : Prop := breakpointBeginsUptoRow.holds Tryd.pinned (OpenSpec.upto breakpointBeginsSpec)

/-- 'vinculumlaw10.PositionIndex', WHERE WHAT IT READS IS OF BULK AT MOST 1048576: true; the input reads as it did. -/
def positionIndexUptoRow : OpenClaim := { program := "ytagkhoeidjlahaadoor", sum := "1a66802860bbaa7db818deaae1ce61b0bb00c2a9393eab9275a8bc9e8e554c3a", func := "vinculum/vinculumlaw10.PositionIndex", spec := "positionIndex", inPlace := ["internal/bytealg.IndexByteString", "internal/bytealg.IndexString"], unfollowed := true, recurses := true, named := ["internal/bytealg.MaxLen", "unicode/utf8.first", "unicode/utf8.acceptRanges"], loops := true, apart := false, laid := [("unicode/utf8.acceptRanges", laid_unicode_utf8_acceptRanges), ("unicode/utf8.first", laid_unicode_utf8_first)], narrowed := true }
def PositionIndexUptoSaid : Prop := positionIndexUptoRow.holds Tryd.pinned (OpenSpec.upto positionIndexSpec)

/-- 'vinculumlaw10.PositionOrder', WHERE WHAT IT READS IS OF BULK AT MOST 1048576: true; the input reads as it did. -/
def positionOrderUptoRow : OpenClaim := { program := "ytagkhoeidjlahaadoor", sum := "1a66802860bbaa7db818deaae1ce61b0bb00c2a9393eab9275a8bc9e8e554c3a", func := "vinculum/vinculumlaw10.PositionOrder", spec := "positionOrder", inPlace := ["internal/bytealg.IndexByteString", "internal/bytealg.IndexString"], unfollowed := true, recurses := true, named := ["internal/bytealg.MaxLen", "unicode/utf8.first", "unicode/utf8.acceptRanges"], apart := false, laid := [("unicode/utf8.acceptRanges", laid_unicode_utf8_acceptRanges), ("unicode/utf8.first", laid_unicode_utf8_first)], narrowed := true }
def PositionOrderUptoSaid : Prop := positionOrderUptoRow.holds Tryd.pinned (OpenSpec.upto positionOrderSpec)

/-- 'vinculumlaw10.PositionNext', WHERE WHAT IT READS IS OF BULK AT MOST 1048576: true; the input reads as it did. -/
def positionNextUptoRow : OpenClaim := { program := "ytagkhoeidjlahaadoor", sum := "1a66802860bbaa7db818deaae1ce61b0bb00c2a9393eab9275a8bc9e8e554c3a", func := "vinculum/vinculumlaw10.PositionNext", spec := "positionNext", inPlace := ["internal/bytealg.IndexByteString", "internal/bytealg.IndexString"], unfollowed := true, recurses := true, named := ["internal/bytealg.MaxLen", "unicode/utf8.first", "unicode/utf8.acceptRanges"], loops := true, apart := false, laid := [("unicode/utf8.acceptRanges", laid_unicode_utf8_acceptRanges), ("unicode/utf8.first", laid_unicode_utf8_first)], narrowed := true }
def PositionNextUptoSaid : Prop := positionNextUptoRow.holds Tryd.pinned (OpenSpec.upto positionNextSpec)

/-- 'vinculumlaw10.PositionAll', WHERE WHAT IT READS IS OF BULK AT MOST 1048576: true; the input reads as it did. -/
def positionAllUptoRow : OpenClaim := { program := "ytagkhoeidjlahaadoor", sum := "1a66802860bbaa7db818deaae1ce61b0bb00c2a9393eab9275a8bc9e8e554c3a", func := "vinculum/vinculumlaw10.PositionAll", spec := "positionAll", inPlace := ["internal/bytealg.IndexByteString", "internal/bytealg.IndexString"], unfollowed := true, recurses := true, named := ["internal/bytealg.MaxLen", "unicode/utf8.first", "unicode/utf8.acceptRanges"], loops := true, apart := false, laid := [("unicode/utf8.acceptRanges", laid_unicode_utf8_acceptRanges), ("unicode/utf8.first", laid_unicode_utf8_first)], narrowed := true }
def PositionAllUptoSaid : Prop := positionAllUptoRow.holds Tryd.pinned (OpenSpec.upto positionAllSpec)

/-- 'vinculumlaw10.PositionNeighbours', WHERE WHAT IT READS IS OF BULK AT MOST 1048576: true; the input reads as it did. -/
def positionNeighboursUptoRow : OpenClaim := { program := "ytagkhoeidjlahaadoor", sum := "1a66802860bbaa7db818deaae1ce61b0bb00c2a9393eab9275a8bc9e8e554c3a", func := "vinculum/vinculumlaw10.PositionNeighbours", spec := "positionNeighbours", inPlace := ["internal/bytealg.IndexByteString", "internal/bytealg.IndexString"], unfollowed := true, recurses := true, named := ["internal/bytealg.MaxLen", "unicode/utf8.first", "unicode/utf8.acceptRanges"], loops := true, apart := false, laid := [("unicode/utf8.acceptRanges", laid_unicode_utf8_acceptRanges), ("unicode/utf8.first", laid_unicode_utf8_first)], narrowed := true }
def PositionNeighboursUptoSaid : Prop := positionNeighboursUptoRow.holds Tryd.pinned (OpenSpec.upto positionNeighboursSpec)

/-- 'vinculumlaw10.PositionValid', WHERE WHAT IT READS IS OF BULK AT MOST 1048576: true; the input reads as it did. -/
def positionValidUptoRow : OpenClaim := { program := "ytagkhoeidjlahaadoor", sum := "1a66802860bbaa7db818deaae1ce61b0bb00c2a9393eab9275a8bc9e8e554c3a", func := "vinculum/vinculumlaw10.PositionValid", spec := "positionValid", inPlace := ["internal/bytealg.IndexByteString", "internal/bytealg.IndexString"], unfollowed := true, recurses := true, named := ["internal/bytealg.MaxLen", "unicode/utf8.first", "unicode/utf8.acceptRanges"], loops := true, apart := false, laid := [("unicode/utf8.acceptRanges", laid_unicode_utf8_acceptRanges), ("unicode/utf8.first", laid_unicode_utf8_first)], narrowed := true }
def PositionValidUptoSaid : Prop := positionValidUptoRow.holds Tryd.pinned (OpenSpec.upto positionValidSpec)

/-- 'vinculumlaw10.PositionComplete', WHERE WHAT IT READS IS OF BULK AT MOST 1048576: true; the input reads as it did. -/
def positionCompleteUptoRow : OpenClaim := { program := "ytagkhoeidjlahaadoor", sum := "1a66802860bbaa7db818deaae1ce61b0bb00c2a9393eab9275a8bc9e8e554c3a", func := "vinculum/vinculumlaw10.PositionComplete", spec := "positionComplete", inPlace := ["internal/bytealg.IndexByteString", "internal/bytealg.IndexString"], unfollowed := true, recurses := true, named := ["internal/bytealg.MaxLen", "unicode/utf8.first", "unicode/utf8.acceptRanges"], loops := true, apart := false, laid := [("unicode/utf8.acceptRanges", laid_unicode_utf8_acceptRanges), ("unicode/utf8.first", laid_unicode_utf8_first)], narrowed := true }
def PositionCompleteUptoSaid : Prop := positionCompleteUptoRow.holds Tryd.pinned (OpenSpec.upto positionCompleteSpec)

/-- 'vinculumlaw11.SelectionBetween', WHERE WHAT IT READS IS OF BULK AT MOST 1048576: true; the input reads as it did. -/
def selectionBetweenUptoRow : OpenClaim := { program := "ytagkhoeidjlahaadoor", sum := "1a66802860bbaa7db818deaae1ce61b0bb00c2a9393eab9275a8bc9e8e554c3a", func := "vinculum/vinculumlaw11.SelectionBetween", spec := "selectionBetween", inPlace := ["internal/bytealg.IndexByteString", "internal/bytealg.IndexString"], unfollowed := true, recurses := true, named := ["internal/bytealg.MaxLen", "unicode/utf8.first", "unicode/utf8.acceptRanges"], loops := true, apart := false, laid := [("unicode/utf8.acceptRanges", laid_unicode_utf8_acceptRanges), ("unicode/utf8.first", laid_unicode_utf8_first)], narrowed := true }
def SelectionBetweenUptoSaid : Prop := selectionBetweenUptoRow.holds Tryd.pinned (OpenSpec.upto selectionBetweenSpec)

/-- 'vinculumlaw11.SelectionContains', WHERE WHAT IT READS IS OF BULK AT MOST 1048576: true; the input reads as it did. -/
def selectionContainsUptoRow : OpenClaim := { program := "ytagkhoeidjlahaadoor", sum := "1a66802860bbaa7db818deaae1ce61b0bb00c2a9393eab9275a8bc9e8e554c3a", func := "vinculum/vinculumlaw11.SelectionContains", spec := "selectionContains", inPlace := ["internal/bytealg.IndexByteString", "internal/bytealg.IndexString"], unfollowed := true, recurses := true, named := ["internal/bytealg.MaxLen", "unicode/utf8.first", "unicode/utf8.acceptRanges"], apart := false, laid := [("unicode/utf8.acceptRanges", laid_unicode_utf8_acceptRanges), ("unicode/utf8.first", laid_unicode_utf8_first)], narrowed := true }
def SelectionContainsUptoSaid : Prop := selectionContainsUptoRow.holds Tryd.pinned (OpenSpec.upto selectionContainsSpec)

/-- 'vinculumlaw11.SelectionItems', WHERE WHAT IT READS IS OF BULK AT MOST 1048576: true; the input reads as it did. -/
def selectionItemsUptoRow : OpenClaim := { program := "ytagkhoeidjlahaadoor", sum := "1a66802860bbaa7db818deaae1ce61b0bb00c2a9393eab9275a8bc9e8e554c3a", func := "vinculum/vinculumlaw11.SelectionItems", spec := "selectionItems", inPlace := ["internal/bytealg.IndexByteString", "internal/bytealg.IndexString"], unfollowed := true, recurses := true, named := ["internal/bytealg.MaxLen", "unicode/utf8.first", "unicode/utf8.acceptRanges"], loops := true, apart := false, laid := [("unicode/utf8.acceptRanges", laid_unicode_utf8_acceptRanges), ("unicode/utf8.first", laid_unicode_utf8_first)], narrowed := true }
def SelectionItemsUptoSaid : Prop := selectionItemsUptoRow.holds Tryd.pinned (OpenSpec.upto selectionItemsSpec)

/-- 'vinculumlaw11.SelectionEnds', WHERE WHAT IT READS IS OF BULK AT MOST 1048576: true; the input reads as it did. -/
def selectionEndsUptoRow : OpenClaim := { program := "ytagkhoeidjlahaadoor", sum := "1a66802860bbaa7db818deaae1ce61b0bb00c2a9393eab9275a8bc9e8e554c3a", func := "vinculum/vinculumlaw11.SelectionEnds", spec := "selectionEnds", inPlace := ["internal/bytealg.IndexByteString", "internal/bytealg.IndexString"], unfollowed := true, recurses := true, named := ["internal/bytealg.MaxLen", "unicode/utf8.first", "unicode/utf8.acceptRanges"], loops := true, apart := false, laid := [("unicode/utf8.acceptRanges", laid_unicode_utf8_acceptRanges), ("unicode/utf8.first", laid_unicode_utf8_first)], narrowed := true }
def SelectionEndsUptoSaid : Prop := selectionEndsUptoRow.holds Tryd.pinned (OpenSpec.upto selectionEndsSpec)

end Rows
end Go.Proofs.YtagkhoeidjlahaaDoor
