/-
  DERIVED. GIVEN WITH THE SEED: THE CARDS: each row of YtpcihefhagipmaaGreatDoorRows.lean that lists a variable, with what it lists TIED to the program's text (the seventh form; the later family's looks); each row that meets fmt, with fmt's text TOLD by the authors' own Lean function (tested against real Go, not proved from fmt's source: count such statements apart). THE CARD IS WHAT COUNTS. Prove the row's statement (the work); the ties are given (YtpcihefhagipmaaGreatDoorTie.lean); close each card by the builder's one call (the guide's Derived/Test/ToyasCard.lean, 'card_holds'). Laid BY PROGRAM, IN A SANDBOX (cutbox-door.mjs). By AI agents, Wed Nov 11 2026. No macro, syntax, notation, axiom, sorry.
-/
import Derived.Test.YtpcihefhagipmaaGreatDoorRows
import GoSem.ClaimSeven
namespace Go.Proofs.YtpcihefhagipmaaGreatDoor
namespace Rows

/-- THE TIED CARD OF 'oriellaw11.FuncsTruths'. -/
def funcsTruthsCard : Claim7 := { stood := { row := funcsTruthsRow, standIns := [], harness := (true, "a2c6f6c44783bec1e3c42d6a5da5e9552cae89c496b6cbad7678686c9266da62"), looks := true }, kinds := [], alts := [], laidByText := true, laidKinds := [.data, .data, .data, .data, .sentinel, .sentinel, .pinned], laidTests := true, laidLooks := .later }
def FuncsTruthsCardSaid : Prop := Claim7.holds Tryz.pinned (.plain (OpenSpec.ofChange funcsTruthsSpec)) funcsTruthsCard

/-- THE TIED CARD OF 'oriellaw11.FuncsTakes'. -/
def funcsTakesCard : Claim7 := { stood := { row := funcsTakesRow, standIns := [], harness := (true, "a2c6f6c44783bec1e3c42d6a5da5e9552cae89c496b6cbad7678686c9266da62"), looks := true }, kinds := [], alts := [], laidByText := true, laidKinds := [.data, .data, .data, .data, .sentinel, .sentinel, .pinned], laidTests := true, laidLooks := .later }
def FuncsTakesCardSaid : Prop := Claim7.holds Tryz.pinned (.plain (OpenSpec.ofChange funcsTakesSpec)) funcsTakesCard

/-- THE TIED CARD OF 'oriellaw11.FuncsNames'. -/
def funcsNamesCard : Claim7 := { stood := { row := funcsNamesRow, standIns := [], harness := (true, "a2c6f6c44783bec1e3c42d6a5da5e9552cae89c496b6cbad7678686c9266da62"), looks := true }, kinds := [], alts := [], laidByText := true, laidKinds := [.data, .data, .data, .data, .sentinel, .sentinel, .pinned], laidTests := true, laidLooks := .later }
def FuncsNamesCardSaid : Prop := Claim7.holds Tryz.pinned (.plain (OpenSpec.ofChange funcsNamesSpec)) funcsNamesCard

/-- THE SECOND FORM's CARD OF 'oriellaw11.FuncsTruths'. -/
def funcsTruthsUptoCard : Claim7 := { stood := { row := funcsTruthsUptoRow, standIns := [], harness := (true, "a2c6f6c44783bec1e3c42d6a5da5e9552cae89c496b6cbad7678686c9266da62"), looks := true }, kinds := [], alts := [], laidByText := true, laidKinds := [.data, .data, .data, .data, .sentinel, .sentinel, .pinned], laidTests := true, laidLooks := .later }
def FuncsTruthsUptoCardSaid : Prop := Claim7.holds Tryz.pinned (.plain (OpenSpec.upto funcsTruthsSpec)) funcsTruthsUptoCard

/-- THE SECOND FORM's CARD OF 'oriellaw11.FuncsTakes'. -/
def funcsTakesUptoCard : Claim7 := { stood := { row := funcsTakesUptoRow, standIns := [], harness := (true, "a2c6f6c44783bec1e3c42d6a5da5e9552cae89c496b6cbad7678686c9266da62"), looks := true }, kinds := [], alts := [], laidByText := true, laidKinds := [.data, .data, .data, .data, .sentinel, .sentinel, .pinned], laidTests := true, laidLooks := .later }
def FuncsTakesUptoCardSaid : Prop := Claim7.holds Tryz.pinned (.plain (OpenSpec.upto funcsTakesSpec)) funcsTakesUptoCard

/-- THE SECOND FORM's CARD OF 'oriellaw11.FuncsNames'. -/
def funcsNamesUptoCard : Claim7 := { stood := { row := funcsNamesUptoRow, standIns := [], harness := (true, "a2c6f6c44783bec1e3c42d6a5da5e9552cae89c496b6cbad7678686c9266da62"), looks := true }, kinds := [], alts := [], laidByText := true, laidKinds := [.data, .data, .data, .data, .sentinel, .sentinel, .pinned], laidTests := true, laidLooks := .later }
def FuncsNamesUptoCardSaid : Prop := Claim7.holds Tryz.pinned (.plain (OpenSpec.upto funcsNamesSpec)) funcsNamesUptoCard
end Rows
end Go.Proofs.YtpcihefhagipmaaGreatDoor
