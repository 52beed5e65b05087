/-
  DERIVED. GIVEN WITH THE SEED: THE CARDS: each row of YtppghgnhlgoagaaGreatDoorRows.lean that lists a variable, with what it lists TIED to the program's text (the seventh form; the later family's looks); each row that meets fmt, with fmt's text TOLD by the authors' own Lean function (tested against real Go, not proved from fmt's source: count such statements apart). THE CARD IS WHAT COUNTS. Prove the row's statement (the work); the ties are given (YtppghgnhlgoagaaGreatDoorTie.lean); close each card by the builder's one call (the guide's Derived/Test/ToyasCard.lean, 'card_holds'). Laid BY PROGRAM, IN A SANDBOX (cutbox-door.mjs). By AI agents, Wed Nov 11 2026. No macro, syntax, notation, axiom, sorry.
-/
import Derived.Test.YtppghgnhlgoagaaGreatDoorRows
import GoSem.ClaimSeven
namespace Go.Proofs.YtppghgnhlgoagaaGreatDoor
namespace Rows

/-- THE TIED CARD OF 'oriellaw12.EvalRefused'. -/
def evalRefusedCard : Claim7 := { stood := { row := evalRefusedRow, standIns := [], harness := (true, "85a56e61769d85dd1228269b44c919233c9c302ec36b94ba4709b35da9cf0abd"), looks := true }, kinds := [], alts := [], laidByText := true, laidKinds := [.data, .data, .data, .data, .sentinel, .sentinel, .pinned], laidTests := true, laidLooks := .later }
def EvalRefusedCardSaid : Prop := Claim7.holds Tryz.pinned (.plain (OpenSpec.ofChange evalRefusedSpec)) evalRefusedCard

/-- THE TIED CARD OF 'oriellaw12.EvalShort'. -/
def evalShortCard : Claim7 := { stood := { row := evalShortRow, standIns := [], harness := (true, "85a56e61769d85dd1228269b44c919233c9c302ec36b94ba4709b35da9cf0abd"), looks := true }, kinds := [], alts := [], laidByText := true, laidKinds := [.data, .data, .data, .data, .sentinel, .sentinel, .pinned], laidTests := true, laidLooks := .later }
def EvalShortCardSaid : Prop := Claim7.holds Tryz.pinned (.plain (OpenSpec.ofChange evalShortSpec)) evalShortCard

/-- THE TIED CARD OF 'oriellaw12.EvalSame'. -/
def evalSameCard : Claim7 := { stood := { row := evalSameRow, standIns := [], harness := (true, "85a56e61769d85dd1228269b44c919233c9c302ec36b94ba4709b35da9cf0abd"), looks := true }, kinds := [], alts := [], laidByText := true, laidKinds := [.data, .data, .data, .data, .sentinel, .sentinel, .pinned], laidTests := true, laidLooks := .later }
def EvalSameCardSaid : Prop := Claim7.holds Tryz.pinned (.plain (OpenSpec.ofChange evalSameSpec)) evalSameCard

/-- THE SECOND FORM's CARD OF 'oriellaw12.EvalRefused'. -/
def evalRefusedUptoCard : Claim7 := { stood := { row := evalRefusedUptoRow, standIns := [], harness := (true, "85a56e61769d85dd1228269b44c919233c9c302ec36b94ba4709b35da9cf0abd"), looks := true }, kinds := [], alts := [], laidByText := true, laidKinds := [.data, .data, .data, .data, .sentinel, .sentinel, .pinned], laidTests := true, laidLooks := .later }
def EvalRefusedUptoCardSaid : Prop := Claim7.holds Tryz.pinned (.plain (OpenSpec.upto evalRefusedSpec)) evalRefusedUptoCard

/-- THE SECOND FORM's CARD OF 'oriellaw12.EvalShort'. -/
def evalShortUptoCard : Claim7 := { stood := { row := evalShortUptoRow, standIns := [], harness := (true, "85a56e61769d85dd1228269b44c919233c9c302ec36b94ba4709b35da9cf0abd"), looks := true }, kinds := [], alts := [], laidByText := true, laidKinds := [.data, .data, .data, .data, .sentinel, .sentinel, .pinned], laidTests := true, laidLooks := .later }
def EvalShortUptoCardSaid : Prop := Claim7.holds Tryz.pinned (.plain (OpenSpec.upto evalShortSpec)) evalShortUptoCard

/-- THE SECOND FORM's CARD OF 'oriellaw12.EvalSame'. -/
def evalSameUptoCard : Claim7 := { stood := { row := evalSameUptoRow, standIns := [], harness := (true, "85a56e61769d85dd1228269b44c919233c9c302ec36b94ba4709b35da9cf0abd"), looks := true }, kinds := [], alts := [], laidByText := true, laidKinds := [.data, .data, .data, .data, .sentinel, .sentinel, .pinned], laidTests := true, laidLooks := .later }
def EvalSameUptoCardSaid : Prop := Claim7.holds Tryz.pinned (.plain (OpenSpec.upto evalSameSpec)) evalSameUptoCard
end Rows
end Go.Proofs.YtppghgnhlgoagaaGreatDoor
