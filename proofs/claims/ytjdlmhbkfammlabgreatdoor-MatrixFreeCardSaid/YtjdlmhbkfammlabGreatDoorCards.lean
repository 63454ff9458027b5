/-
  DERIVED. GIVEN WITH THE SEED: THE CARDS: each row of YtjdlmhbkfammlabGreatDoorRows.lean that lists a variable, with what it lists TIED to the program's text (the seventh form; the later family's looks); each row that meets fmt, with fmt's text TOLD by the authors' own Lean function (tested against real Go, not proved from fmt's source: count such statements apart). THE CARD IS WHAT COUNTS. Prove the row's statement (the work); the ties are given (YtjdlmhbkfammlabGreatDoorTie.lean); close each card by the builder's one call (the guide's Derived/Test/ToyasCard.lean, 'card_holds'). Laid BY PROGRAM, IN A SANDBOX (cutbox-door.mjs). By AI agents, Wed Nov 11 2026. No macro, syntax, notation, axiom, sorry.
-/
import Derived.Test.YtjdlmhbkfammlabGreatDoorRows
import GoSem.ClaimSeven
namespace Go.Proofs.YtjdlmhbkfammlabGreatDoor
namespace Rows

/-- THE TIED CARD OF 'proofprogramslaw05.ValueDoes'. -/
def valueDoesCard : Claim7 := { stood := { row := valueDoesRow, standIns := [], harness := (true, "c62a318e6ef182235b178dfb79a87a40538878d003ea7f81ce7fe82efea8d768"), looks := false }, kinds := [], alts := [], laidByText := true, laidKinds := [.data], laidTests := true, laidLooks := .later }
def ValueDoesCardSaid : Prop := Claim7.holds Tryz.pinned (.plain (OpenSpec.ofChange valueDoesSpec)) valueDoesCard

/-- THE TIED CARD OF 'proofprogramslaw30.TruthExact'. -/
def truthExactCard : Claim7 := { stood := { row := truthExactRow, standIns := [], harness := (true, "c62a318e6ef182235b178dfb79a87a40538878d003ea7f81ce7fe82efea8d768"), looks := false }, kinds := [], alts := [], laidByText := true, laidKinds := [.data], laidTests := true, laidLooks := .later }
def TruthExactCardSaid : Prop := Claim7.holds Tryz.pinned (.plain (OpenSpec.ofChange truthExactSpec)) truthExactCard

/-- THE TIED CARD OF 'proofprogramslaw30.TruthDecides'. -/
def truthDecidesCard : Claim7 := { stood := { row := truthDecidesRow, standIns := [], harness := (true, "c62a318e6ef182235b178dfb79a87a40538878d003ea7f81ce7fe82efea8d768"), looks := false }, kinds := [], alts := [], laidByText := true, laidKinds := [.data], laidTests := true, laidLooks := .later }
def TruthDecidesCardSaid : Prop := Claim7.holds Tryz.pinned (.plain (OpenSpec.ofChange truthDecidesSpec)) truthDecidesCard

/-- THE TIED CARD OF 'proofprogramslaw30.TruthIf'. -/
def truthIfCard : Claim7 := { stood := { row := truthIfRow, standIns := [], harness := (true, "c62a318e6ef182235b178dfb79a87a40538878d003ea7f81ce7fe82efea8d768"), looks := false }, kinds := [], alts := [], laidByText := true, laidKinds := [.data], laidTests := true, laidLooks := .later }
def TruthIfCardSaid : Prop := Claim7.holds Tryz.pinned (.plain (OpenSpec.ofChange truthIfSpec)) truthIfCard

/-- THE TIED CARD OF 'proofprogramslaw30.TruthWork'. -/
def truthWorkCard : Claim7 := { stood := { row := truthWorkRow, standIns := [], harness := (true, "c62a318e6ef182235b178dfb79a87a40538878d003ea7f81ce7fe82efea8d768"), looks := false }, kinds := [], alts := [], laidByText := true, laidKinds := [.data], laidTests := true, laidLooks := .later }
def TruthWorkCardSaid : Prop := Claim7.holds Tryz.pinned (.plain (OpenSpec.ofChange truthWorkSpec)) truthWorkCard

/-- THE TIED CARD OF 'proofprogramslaw30.TruthNot'. -/
def truthNotCard : Claim7 := { stood := { row := truthNotRow, standIns := [], harness := (true, "c62a318e6ef182235b178dfb79a87a40538878d003ea7f81ce7fe82efea8d768"), looks := false }, kinds := [], alts := [], laidByText := true, laidKinds := [.data], laidTests := true, laidLooks := .later }
def TruthNotCardSaid : Prop := Claim7.holds Tryz.pinned (.plain (OpenSpec.ofChange truthNotSpec)) truthNotCard

/-- THE TIED CARD OF 'proofprogramslaw29.MatrixFree'. -/
def matrixFreeCard : Claim7 := { stood := { row := matrixFreeRow, standIns := [], harness := (true, "c62a318e6ef182235b178dfb79a87a40538878d003ea7f81ce7fe82efea8d768"), looks := false }, kinds := [], alts := [], laidByText := true, laidKinds := [.data], laidTests := true, laidLooks := .later }
def MatrixFreeCardSaid : Prop := Claim7.holds Tryz.pinned (.plain (OpenSpec.ofChange matrixFreeSpec)) matrixFreeCard

/-- THE TIED CARD OF 'proofprogramslaw29.MatrixPut'. -/
def matrixPutCard : Claim7 := { stood := { row := matrixPutRow, standIns := [], harness := (true, "c62a318e6ef182235b178dfb79a87a40538878d003ea7f81ce7fe82efea8d768"), looks := false }, kinds := [], alts := [], laidByText := true, laidKinds := [.data], laidTests := true, laidLooks := .later }
def MatrixPutCardSaid : Prop := Claim7.holds Tryz.pinned (.plain (OpenSpec.ofChange matrixPutSpec)) matrixPutCard

/-- THE SECOND FORM's CARD OF 'proofprogramslaw05.ValueDoes'. -/
def valueDoesUptoCard : Claim7 := { stood := { row := valueDoesUptoRow, standIns := [], harness := (true, "c62a318e6ef182235b178dfb79a87a40538878d003ea7f81ce7fe82efea8d768"), looks := false }, kinds := [], alts := [], laidByText := true, laidKinds := [.data], laidTests := true, laidLooks := .later }
def ValueDoesUptoCardSaid : Prop := Claim7.holds Tryz.pinned (.plain (OpenSpec.upto valueDoesSpec)) valueDoesUptoCard

/-- THE SECOND FORM's CARD OF 'proofprogramslaw30.TruthExact'. -/
def truthExactUptoCard : Claim7 := { stood := { row := truthExactUptoRow, standIns := [], harness := (true, "c62a318e6ef182235b178dfb79a87a40538878d003ea7f81ce7fe82efea8d768"), looks := false }, kinds := [], alts := [], laidByText := true, laidKinds := [.data], laidTests := true, laidLooks := .later }
def TruthExactUptoCardSaid : Prop := Claim7.holds Tryz.pinned (.plain (OpenSpec.upto truthExactSpec)) truthExactUptoCard

/-- THE SECOND FORM's CARD OF 'proofprogramslaw30.TruthDecides'. -/
def truthDecidesUptoCard : Claim7 := { stood := { row := truthDecidesUptoRow, standIns := [], harness := (true, "c62a318e6ef182235b178dfb79a87a40538878d003ea7f81ce7fe82efea8d768"), looks := false }, kinds := [], alts := [], laidByText := true, laidKinds := [.data], laidTests := true, laidLooks := .later }
def TruthDecidesUptoCardSaid : Prop := Claim7.holds Tryz.pinned (.plain (OpenSpec.upto truthDecidesSpec)) truthDecidesUptoCard

/-- THE SECOND FORM's CARD OF 'proofprogramslaw30.TruthIf'. -/
def truthIfUptoCard : Claim7 := { stood := { row := truthIfUptoRow, standIns := [], harness := (true, "c62a318e6ef182235b178dfb79a87a40538878d003ea7f81ce7fe82efea8d768"), looks := false }, kinds := [], alts := [], laidByText := true, laidKinds := [.data], laidTests := true, laidLooks := .later }
def TruthIfUptoCardSaid : Prop := Claim7.holds Tryz.pinned (.plain (OpenSpec.upto truthIfSpec)) truthIfUptoCard

/-- THE SECOND FORM's CARD OF 'proofprogramslaw30.TruthWork'. -/
def truthWorkUptoCard : Claim7 := { stood := { row := truthWorkUptoRow, standIns := [], harness := (true, "c62a318e6ef182235b178dfb79a87a40538878d003ea7f81ce7fe82efea8d768"), looks := false }, kinds := [], alts := [], laidByText := true, laidKinds := [.data], laidTests := true, laidLooks := .later }
def TruthWorkUptoCardSaid : Prop := Claim7.holds Tryz.pinned (.plain (OpenSpec.upto truthWorkSpec)) truthWorkUptoCard

/-- THE SECOND FORM's CARD OF 'proofprogramslaw30.TruthNot'. -/
def truthNotUptoCard : Claim7 := { stood := { row := truthNotUptoRow, standIns := [], harness := (true, "c62a318e6ef182235b178dfb79a87a40538878d003ea7f81ce7fe82efea8d768"), looks := false }, kinds := [], alts := [], laidByText := true, laidKinds := [.data], laidTests := true, laidLooks := .later }
def TruthNotUptoCardSaid : Prop := Claim7.holds Tryz.pinned (.plain (OpenSpec.upto truthNotSpec)) truthNotUptoCard

/-- THE SECOND FORM's CARD OF 'proofprogramslaw29.MatrixFree'. -/
def matrixFreeUptoCard : Claim7 := { stood := { row := matrixFreeUptoRow, standIns := [], harness := (true, "c62a318e6ef182235b178dfb79a87a40538878d003ea7f81ce7fe82efea8d768"), looks := false }, kinds := [], alts := [], laidByText := true, laidKinds := [.data], laidTests := true, laidLooks := .later }
def MatrixFreeUptoCardSaid : Prop := Claim7.holds Tryz.pinned (.plain (OpenSpec.upto matrixFreeSpec)) matrixFreeUptoCard

/-- THE SECOND FORM's CARD OF 'proofprogramslaw29.MatrixPut'. -/
def matrixPutUptoCard : Claim7 := { stood := { row := matrixPutUptoRow, standIns := [], harness := (true, "c62a318e6ef182235b178dfb79a87a40538878d003ea7f81ce7fe82efea8d768"), looks := false }, kinds := [], alts := [], laidByText := true, laidKinds := [.data], laidTests := true, laidLooks := .later }
def MatrixPutUptoCardSaid : Prop := Claim7.holds Tryz.pinned (.plain (OpenSpec.upto matrixPutSpec)) matrixPutUptoCard
end Rows
end Go.Proofs.YtjdlmhbkfammlabGreatDoor
