/-
  DERIVED. GIVEN WITH THE SEED: THE CARDS: each row of YtegbhdeaicgpkaaGreatDoorRows.lean that lists a variable, with what it lists TIED to the program's text (the seventh form; the later family's looks); each row that meets fmt, with fmt's text TOLD by the authors' own Lean function (tested against real Go, not proved from fmt's source: count such statements apart). THE CARD IS WHAT COUNTS. Prove the row's statement (the work); the ties are given (YtegbhdeaicgpkaaGreatDoorTie.lean); close each card by the builder's one call (the guide's Derived/Test/ToyasCard.lean, 'card_holds'). Laid BY PROGRAM, IN A SANDBOX (cutbox-door.mjs). By AI agents, Wed Nov 11 2026. No macro, syntax, notation, axiom, sorry.
-/
import Derived.Test.YtegbhdeaicgpkaaGreatDoorRows
import GoSem.ClaimSeven
namespace Go.Proofs.YtegbhdeaicgpkaaGreatDoor
namespace Rows

/-- THE TIED CARD OF 'oriellaw11.FuncsBelow'. -/
def funcsBelowCard : Claim7 := { stood := { row := funcsBelowRow, standIns := [], harness := (true, "2210678010fc492710112b2bfd76566ff456906a0aeb8a9f83fdd8c7ceeb709d"), looks := true }, kinds := [], alts := [], laidByText := true, laidKinds := [.data, .data, .data, .data, .sentinel, .sentinel, .pinned], laidTests := true, laidLooks := .later }
def FuncsBelowCardSaid : Prop := Claim7.holds Tryz.pinned (.plain (OpenSpec.ofChange funcsBelowSpec)) funcsBelowCard

/-- THE TIED CARD OF 'oriellaw11.FuncsFaults'. -/
def funcsFaultsCard : Claim7 := { stood := { row := funcsFaultsRow, standIns := [], harness := (true, "2210678010fc492710112b2bfd76566ff456906a0aeb8a9f83fdd8c7ceeb709d"), looks := true }, kinds := [], alts := [], laidByText := true, laidKinds := [.data, .data, .data, .data, .sentinel, .sentinel, .pinned], laidTests := true, laidLooks := .later }
def FuncsFaultsCardSaid : Prop := Claim7.holds Tryz.pinned (.plain (OpenSpec.ofChange funcsFaultsSpec)) funcsFaultsCard

/-- THE TIED CARD OF 'oriellaw12.EvalParts'. -/
def evalPartsCard : Claim7 := { stood := { row := evalPartsRow, standIns := [], harness := (true, "2210678010fc492710112b2bfd76566ff456906a0aeb8a9f83fdd8c7ceeb709d"), looks := true }, kinds := [], alts := [], laidByText := true, laidKinds := [.data, .data, .data, .data, .sentinel, .sentinel, .pinned], laidTests := true, laidLooks := .later }
def EvalPartsCardSaid : Prop := Claim7.holds Tryz.pinned (.plain (OpenSpec.ofChange evalPartsSpec)) evalPartsCard

/-- THE SECOND FORM's CARD OF 'oriellaw11.FuncsBelow'. -/
def funcsBelowUptoCard : Claim7 := { stood := { row := funcsBelowUptoRow, standIns := [], harness := (true, "2210678010fc492710112b2bfd76566ff456906a0aeb8a9f83fdd8c7ceeb709d"), looks := true }, kinds := [], alts := [], laidByText := true, laidKinds := [.data, .data, .data, .data, .sentinel, .sentinel, .pinned], laidTests := true, laidLooks := .later }
def FuncsBelowUptoCardSaid : Prop := Claim7.holds Tryz.pinned (.plain (OpenSpec.upto funcsBelowSpec)) funcsBelowUptoCard

/-- THE SECOND FORM's CARD OF 'oriellaw11.FuncsFaults'. -/
def funcsFaultsUptoCard : Claim7 := { stood := { row := funcsFaultsUptoRow, standIns := [], harness := (true, "2210678010fc492710112b2bfd76566ff456906a0aeb8a9f83fdd8c7ceeb709d"), looks := true }, kinds := [], alts := [], laidByText := true, laidKinds := [.data, .data, .data, .data, .sentinel, .sentinel, .pinned], laidTests := true, laidLooks := .later }
def FuncsFaultsUptoCardSaid : Prop := Claim7.holds Tryz.pinned (.plain (OpenSpec.upto funcsFaultsSpec)) funcsFaultsUptoCard

/-- THE SECOND FORM's CARD OF 'oriellaw12.EvalParts'. -/
def evalPartsUptoCard : Claim7 := { stood := { row := evalPartsUptoRow, standIns := [], harness := (true, "2210678010fc492710112b2bfd76566ff456906a0aeb8a9f83fdd8c7ceeb709d"), looks := true }, kinds := [], alts := [], laidByText := true, laidKinds := [.data, .data, .data, .data, .sentinel, .sentinel, .pinned], laidTests := true, laidLooks := .later }
def EvalPartsUptoCardSaid : Prop := Claim7.holds Tryz.pinned (.plain (OpenSpec.upto evalPartsSpec)) evalPartsUptoCard
end Rows
end Go.Proofs.YtegbhdeaicgpkaaGreatDoor
