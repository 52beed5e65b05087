/-
  DERIVED. GIVEN WITH THE SEED: THE CARDS: each row of YtnccknhbplaieaaGreatDoorRows.lean that lists a variable, with what it lists TIED to the program's text (the seventh form; the later family's looks); each row that meets fmt, with fmt's text TOLD by the authors' own Lean function (tested against real Go, not proved from fmt's source: count such statements apart). THE CARD IS WHAT COUNTS. Prove the row's statement (the work); the ties are given (YtnccknhbplaieaaGreatDoorTie.lean); close each card by the builder's one call (the guide's Derived/Test/ToyasCard.lean, 'card_holds'). Laid BY PROGRAM, IN A SANDBOX (cutbox-door.mjs). By AI agents, Wed Nov 11 2026. No macro, syntax, notation, axiom, sorry.
-/
import Derived.Test.YtnccknhbplaieaaGreatDoorRows
import GoSem.ClaimSeven
namespace Go.Proofs.YtnccknhbplaieaaGreatDoor
namespace Rows

/-- THE TIED CARD OF 'oriellaw11.FuncsCalls'. -/
def funcsCallsCard : Claim7 := { stood := { row := funcsCallsRow, standIns := [], harness := (true, "e5c0a62d5deefce854e14073952bcbb83768772368cc48e2e029db410c7a08d9"), looks := true }, kinds := [], alts := [], laidByText := true, laidKinds := [.data, .data, .data, .data, .sentinel, .sentinel, .pinned], laidTests := true, laidLooks := .later }
def FuncsCallsCardSaid : Prop := Claim7.holds Tryz.pinned (.plain (OpenSpec.ofChange funcsCallsSpec)) funcsCallsCard

/-- THE SECOND FORM's CARD OF 'oriellaw11.FuncsCalls'. -/
def funcsCallsUptoCard : Claim7 := { stood := { row := funcsCallsUptoRow, standIns := [], harness := (true, "e5c0a62d5deefce854e14073952bcbb83768772368cc48e2e029db410c7a08d9"), looks := true }, kinds := [], alts := [], laidByText := true, laidKinds := [.data, .data, .data, .data, .sentinel, .sentinel, .pinned], laidTests := true, laidLooks := .later }
def FuncsCallsUptoCardSaid : Prop := Claim7.holds Tryz.pinned (.plain (OpenSpec.upto funcsCallsSpec)) funcsCallsUptoCard
end Rows
end Go.Proofs.YtnccknhbplaieaaGreatDoor
