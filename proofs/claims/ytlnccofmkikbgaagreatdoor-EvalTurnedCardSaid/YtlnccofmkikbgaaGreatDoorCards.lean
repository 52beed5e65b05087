/-
  DERIVED. GIVEN WITH THE SEED: THE CARDS: each row of YtlnccofmkikbgaaGreatDoorRows.lean that lists a variable, with what it lists TIED to the program's text (the seventh form; the later family's looks); each row that meets fmt, with fmt's text TOLD by the authors' own Lean function (tested against real Go, not proved from fmt's source: count such statements apart). THE CARD IS WHAT COUNTS. Prove the row's statement (the work); the ties are given (YtlnccofmkikbgaaGreatDoorTie.lean); close each card by the builder's one call (the guide's Derived/Test/ToyasCard.lean, 'card_holds'). Laid BY PROGRAM, IN A SANDBOX (cutbox-door.mjs). By AI agents, Wed Nov 11 2026. No macro, syntax, notation, axiom, sorry.
-/
import Derived.Test.YtlnccofmkikbgaaGreatDoorRows
import GoSem.ClaimSeven
namespace Go.Proofs.YtlnccofmkikbgaaGreatDoor
namespace Rows

/-- THE TIED CARD OF 'oriellaw12.EvalNews'. -/
def evalNewsCard : Claim7 := { stood := { row := evalNewsRow, standIns := [], harness := (true, "d80603bfeecfebbc0ade4c3a422f23bc47e17f419e37f834ed8f66e3940ed289"), looks := true }, kinds := [], alts := [], laidByText := true, laidKinds := [.data, .data, .data, .data, .sentinel, .sentinel, .pinned], laidTests := true, laidLooks := .later }
def EvalNewsCardSaid : Prop := Claim7.holds Tryz.pinned (.plain (OpenSpec.ofChange evalNewsSpec)) evalNewsCard

/-- THE TIED CARD OF 'oriellaw12.EvalParts'. -/
def evalPartsCard : Claim7 := { stood := { row := evalPartsRow, standIns := [], harness := (true, "d80603bfeecfebbc0ade4c3a422f23bc47e17f419e37f834ed8f66e3940ed289"), looks := true }, kinds := [], alts := [], laidByText := true, laidKinds := [.data, .data, .data, .data, .sentinel, .sentinel, .pinned], laidTests := true, laidLooks := .later }
def EvalPartsCardSaid : Prop := Claim7.holds Tryz.pinned (.plain (OpenSpec.ofChange evalPartsSpec)) evalPartsCard

/-- THE TIED CARD OF 'oriellaw12.EvalTurned'. -/
def evalTurnedCard : Claim7 := { stood := { row := evalTurnedRow, standIns := [], harness := (true, "d80603bfeecfebbc0ade4c3a422f23bc47e17f419e37f834ed8f66e3940ed289"), looks := true }, kinds := [], alts := [], laidByText := true, laidKinds := [.data, .data, .data, .data, .sentinel, .sentinel, .pinned], laidTests := true, laidLooks := .later }
def EvalTurnedCardSaid : Prop := Claim7.holds Tryz.pinned (.plain (OpenSpec.ofChange evalTurnedSpec)) evalTurnedCard

/-- THE SECOND FORM's CARD OF 'oriellaw12.EvalNews'. -/
def evalNewsUptoCard : Claim7 := { stood := { row := evalNewsUptoRow, standIns := [], harness := (true, "d80603bfeecfebbc0ade4c3a422f23bc47e17f419e37f834ed8f66e3940ed289"), looks := true }, kinds := [], alts := [], laidByText := true, laidKinds := [.data, .data, .data, .data, .sentinel, .sentinel, .pinned], laidTests := true, laidLooks := .later }
def EvalNewsUptoCardSaid : Prop := Claim7.holds Tryz.pinned (.plain (OpenSpec.upto evalNewsSpec)) evalNewsUptoCard

/-- THE SECOND FORM's CARD OF 'oriellaw12.EvalParts'. -/
def evalPartsUptoCard : Claim7 := { stood := { row := evalPartsUptoRow, standIns := [], harness := (true, "d80603bfeecfebbc0ade4c3a422f23bc47e17f419e37f834ed8f66e3940ed289"), looks := true }, kinds := [], alts := [], laidByText := true, laidKinds := [.data, .data, .data, .data, .sentinel, .sentinel, .pinned], laidTests := true, laidLooks := .later }
def EvalPartsUptoCardSaid : Prop := Claim7.holds Tryz.pinned (.plain (OpenSpec.upto evalPartsSpec)) evalPartsUptoCard

/-- THE SECOND FORM's CARD OF 'oriellaw12.EvalTurned'. -/
def evalTurnedUptoCard : Claim7 := { stood := { row := evalTurnedUptoRow, standIns := [], harness := (true, "d80603bfeecfebbc0ade4c3a422f23bc47e17f419e37f834ed8f66e3940ed289"), looks := true }, kinds := [], alts := [], laidByText := true, laidKinds := [.data, .data, .data, .data, .sentinel, .sentinel, .pinned], laidTests := true, laidLooks := .later }
def EvalTurnedUptoCardSaid : Prop := Claim7.holds Tryz.pinned (.plain (OpenSpec.upto evalTurnedSpec)) evalTurnedUptoCard
end Rows
end Go.Proofs.YtlnccofmkikbgaaGreatDoor
