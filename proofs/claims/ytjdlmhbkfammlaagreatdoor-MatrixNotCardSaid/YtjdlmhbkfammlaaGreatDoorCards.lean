/-
  DERIVED. GIVEN WITH THE SEED: THE CARDS: each row of YtjdlmhbkfammlaaGreatDoorRows.lean that lists a variable, with what it lists TIED to the program's text (the seventh form; the later family's looks); each row that meets fmt, with fmt's text TOLD by the authors' own Lean function (tested against real Go, not proved from fmt's source: count such statements apart). THE CARD IS WHAT COUNTS. Prove the row's statement (the work); the ties are given (YtjdlmhbkfammlaaGreatDoorTie.lean); close each card by the builder's one call (the guide's Derived/Test/ToyasCard.lean, 'card_holds'). Laid BY PROGRAM, IN A SANDBOX (cutbox-door.mjs). By AI agents, Wed Nov 11 2026. No macro, syntax, notation, axiom, sorry.
-/
import Derived.Test.YtjdlmhbkfammlaaGreatDoorRows
import GoSem.ClaimSeven
namespace Go.Proofs.YtjdlmhbkfammlaaGreatDoor
namespace Rows

/-- THE TIED CARD OF 'proofprogramslaw29.MatrixSelf'. -/
def matrixSelfCard : Claim7 := { stood := { row := matrixSelfRow, standIns := [], harness := (true, "e4cd8bd68876a66598ac54cda335c560778db9eef3efd88a2eec33d8c72cb6cc"), looks := false }, kinds := [], alts := [], laidByText := true, laidKinds := [.data], laidTests := true, laidLooks := .later }
def MatrixSelfCardSaid : Prop := Claim7.holds Tryz.pinned (.plain (OpenSpec.ofChange matrixSelfSpec)) matrixSelfCard

/-- THE TIED CARD OF 'proofprogramslaw29.MatrixNot'. -/
def matrixNotCard : Claim7 := { stood := { row := matrixNotRow, standIns := [], harness := (true, "e4cd8bd68876a66598ac54cda335c560778db9eef3efd88a2eec33d8c72cb6cc"), looks := false }, kinds := [], alts := [], laidByText := true, laidKinds := [.data], laidTests := true, laidLooks := .later }
def MatrixNotCardSaid : Prop := Claim7.holds Tryz.pinned (.plain (OpenSpec.ofChange matrixNotSpec)) matrixNotCard

/-- THE SECOND FORM's CARD OF 'proofprogramslaw29.MatrixSelf'. -/
def matrixSelfUptoCard : Claim7 := { stood := { row := matrixSelfUptoRow, standIns := [], harness := (true, "e4cd8bd68876a66598ac54cda335c560778db9eef3efd88a2eec33d8c72cb6cc"), looks := false }, kinds := [], alts := [], laidByText := true, laidKinds := [.data], laidTests := true, laidLooks := .later }
def MatrixSelfUptoCardSaid : Prop := Claim7.holds Tryz.pinned (.plain (OpenSpec.upto matrixSelfSpec)) matrixSelfUptoCard

/-- THE SECOND FORM's CARD OF 'proofprogramslaw29.MatrixNot'. -/
def matrixNotUptoCard : Claim7 := { stood := { row := matrixNotUptoRow, standIns := [], harness := (true, "e4cd8bd68876a66598ac54cda335c560778db9eef3efd88a2eec33d8c72cb6cc"), looks := false }, kinds := [], alts := [], laidByText := true, laidKinds := [.data], laidTests := true, laidLooks := .later }
def MatrixNotUptoCardSaid : Prop := Claim7.holds Tryz.pinned (.plain (OpenSpec.upto matrixNotSpec)) matrixNotUptoCard
end Rows
end Go.Proofs.YtjdlmhbkfammlaaGreatDoor
