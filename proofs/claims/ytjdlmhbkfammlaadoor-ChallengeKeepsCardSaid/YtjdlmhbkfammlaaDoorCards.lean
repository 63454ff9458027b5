/-
  DERIVED. GIVEN WITH THE SEED: THE CARDS: each row of YtjdlmhbkfammlaaDoorRows.lean that lists a variable, with what it lists TIED to the program's text (the seventh form; the later family's looks); each row that meets fmt, with fmt's text TOLD by the authors' own Lean function (tested against real Go, not proved from fmt's source: count such statements apart). THE CARD IS WHAT COUNTS. Prove the row's statement (the work); the ties are given (YtjdlmhbkfammlaaDoorTie.lean); close each card by the builder's one call (the guide's Derived/Test/ToyasCard.lean, 'card_holds'). Laid BY PROGRAM, IN A SANDBOX (cutbox-door.mjs). By AI agents, Wed Nov 11 2026. No macro, syntax, notation, axiom, sorry.
-/
import Derived.Test.YtjdlmhbkfammlaaDoorRows
import GoSem.ClaimSeven
namespace Go.Proofs.YtjdlmhbkfammlaaDoor
namespace Rows

/-- THE TIED CARD OF 'proofprogramslaw37.CodeExact'. -/
def codeExactCard : Claim7 := { stood := { row := codeExactRow, standIns := [], harness := (true, "cabc22168aaf92de087c3d8e7d5ea5f38610b2dee22e5f9e6f20f6649f79f6ca"), looks := false }, kinds := [], alts := [], laidByText := true, laidKinds := [.data, .data], laidTests := true, laidLooks := .later }
def CodeExactCardSaid : Prop := Claim7.holds Tryd.pinned (.plain (OpenSpec.ofChange codeExactSpec)) codeExactCard

/-- THE TIED CARD OF 'proofprogramslaw37.CodeBack'. -/
def codeBackCard : Claim7 := { stood := { row := codeBackRow, standIns := [], harness := (true, "cabc22168aaf92de087c3d8e7d5ea5f38610b2dee22e5f9e6f20f6649f79f6ca"), looks := false }, kinds := [], alts := [], laidByText := true, laidKinds := [.data, .data], laidTests := true, laidLooks := .later }
def CodeBackCardSaid : Prop := Claim7.holds Tryd.pinned (.plain (OpenSpec.ofChange codeBackSpec)) codeBackCard

/-- THE TIED CARD OF 'proofprogramslaw37.CodeTypes'. -/
def codeTypesCard : Claim7 := { stood := { row := codeTypesRow, standIns := [], harness := (true, "cabc22168aaf92de087c3d8e7d5ea5f38610b2dee22e5f9e6f20f6649f79f6ca"), looks := false }, kinds := [], alts := [], laidByText := true, laidKinds := [.data, .data], laidTests := true, laidLooks := .later }
def CodeTypesCardSaid : Prop := Claim7.holds Tryd.pinned (.plain (OpenSpec.ofChange codeTypesSpec)) codeTypesCard

/-- THE TIED CARD OF 'proofprogramslaw37.CodeBent'. -/
def codeBentCard : Claim7 := { stood := { row := codeBentRow, standIns := [], harness := (true, "cabc22168aaf92de087c3d8e7d5ea5f38610b2dee22e5f9e6f20f6649f79f6ca"), looks := false }, kinds := [], alts := [], laidByText := true, laidKinds := [.data, .data], laidTests := true, laidLooks := .later }
def CodeBentCardSaid : Prop := Claim7.holds Tryd.pinned (.plain (OpenSpec.ofChange codeBentSpec)) codeBentCard

/-- THE TIED CARD OF 'proofprogramslaw37.CodePairs'. -/
def codePairsCard : Claim7 := { stood := { row := codePairsRow, standIns := [], harness := (true, "cabc22168aaf92de087c3d8e7d5ea5f38610b2dee22e5f9e6f20f6649f79f6ca"), looks := false }, kinds := [], alts := [], laidByText := true, laidKinds := [.data, .data], laidTests := true, laidLooks := .later }
def CodePairsCardSaid : Prop := Claim7.holds Tryd.pinned (.plain (OpenSpec.ofChange codePairsSpec)) codePairsCard

/-- THE TIED CARD OF 'proofprogramslaw28.ChallengeKeeps'. -/
def challengeKeepsCard : Claim7 := { stood := { row := challengeKeepsRow, standIns := [], harness := (true, "cabc22168aaf92de087c3d8e7d5ea5f38610b2dee22e5f9e6f20f6649f79f6ca"), looks := false }, kinds := [], alts := [], laidByText := true, laidKinds := [.data], laidTests := true, laidLooks := .later }
def ChallengeKeepsCardSaid : Prop := Claim7.holds Tryd.pinned (.plain (OpenSpec.ofChange challengeKeepsSpec)) challengeKeepsCard

/-- THE TIED CARD OF 'proofprogramslaw28.ChallengeJoins'. -/
def challengeJoinsCard : Claim7 := { stood := { row := challengeJoinsRow, standIns := [], harness := (true, "cabc22168aaf92de087c3d8e7d5ea5f38610b2dee22e5f9e6f20f6649f79f6ca"), looks := false }, kinds := [], alts := [], laidByText := true, laidKinds := [.data], laidTests := true, laidLooks := .later }
def ChallengeJoinsCardSaid : Prop := Claim7.holds Tryd.pinned (.plain (OpenSpec.ofChange challengeJoinsSpec)) challengeJoinsCard

/-- THE TIED CARD OF 'proofprogramslaw28.ChallengeFree'. -/
def challengeFreeCard : Claim7 := { stood := { row := challengeFreeRow, standIns := [], harness := (true, "cabc22168aaf92de087c3d8e7d5ea5f38610b2dee22e5f9e6f20f6649f79f6ca"), looks := false }, kinds := [], alts := [], laidByText := true, laidKinds := [.data], laidTests := true, laidLooks := .later }
def ChallengeFreeCardSaid : Prop := Claim7.holds Tryd.pinned (.plain (OpenSpec.ofChange challengeFreeSpec)) challengeFreeCard

/-- THE TIED CARD OF 'proofprogramslaw28.ChallengeNot'. -/
def challengeNotCard : Claim7 := { stood := { row := challengeNotRow, standIns := [], harness := (true, "cabc22168aaf92de087c3d8e7d5ea5f38610b2dee22e5f9e6f20f6649f79f6ca"), looks := false }, kinds := [], alts := [], laidByText := true, laidKinds := [.data], laidTests := true, laidLooks := .later }
def ChallengeNotCardSaid : Prop := Claim7.holds Tryd.pinned (.plain (OpenSpec.ofChange challengeNotSpec)) challengeNotCard

/-- THE SECOND FORM's CARD OF 'proofprogramslaw37.CodeExact'. -/
def codeExactUptoCard : Claim7 := { stood := { row := codeExactUptoRow, standIns := [], harness := (true, "cabc22168aaf92de087c3d8e7d5ea5f38610b2dee22e5f9e6f20f6649f79f6ca"), looks := false }, kinds := [], alts := [], laidByText := true, laidKinds := [.data, .data], laidTests := true, laidLooks := .later }
def CodeExactUptoCardSaid : Prop := Claim7.holds Tryd.pinned (.plain (OpenSpec.upto codeExactSpec)) codeExactUptoCard

/-- THE SECOND FORM's CARD OF 'proofprogramslaw37.CodeBack'. -/
def codeBackUptoCard : Claim7 := { stood := { row := codeBackUptoRow, standIns := [], harness := (true, "cabc22168aaf92de087c3d8e7d5ea5f38610b2dee22e5f9e6f20f6649f79f6ca"), looks := false }, kinds := [], alts := [], laidByText := true, laidKinds := [.data, .data], laidTests := true, laidLooks := .later }
def CodeBackUptoCardSaid : Prop := Claim7.holds Tryd.pinned (.plain (OpenSpec.upto codeBackSpec)) codeBackUptoCard

/-- THE SECOND FORM's CARD OF 'proofprogramslaw37.CodeTypes'. -/
def codeTypesUptoCard : Claim7 := { stood := { row := codeTypesUptoRow, standIns := [], harness := (true, "cabc22168aaf92de087c3d8e7d5ea5f38610b2dee22e5f9e6f20f6649f79f6ca"), looks := false }, kinds := [], alts := [], laidByText := true, laidKinds := [.data, .data], laidTests := true, laidLooks := .later }
def CodeTypesUptoCardSaid : Prop := Claim7.holds Tryd.pinned (.plain (OpenSpec.upto codeTypesSpec)) codeTypesUptoCard

/-- THE SECOND FORM's CARD OF 'proofprogramslaw37.CodeBent'. -/
def codeBentUptoCard : Claim7 := { stood := { row := codeBentUptoRow, standIns := [], harness := (true, "cabc22168aaf92de087c3d8e7d5ea5f38610b2dee22e5f9e6f20f6649f79f6ca"), looks := false }, kinds := [], alts := [], laidByText := true, laidKinds := [.data, .data], laidTests := true, laidLooks := .later }
def CodeBentUptoCardSaid : Prop := Claim7.holds Tryd.pinned (.plain (OpenSpec.upto codeBentSpec)) codeBentUptoCard

/-- THE SECOND FORM's CARD OF 'proofprogramslaw37.CodePairs'. -/
def codePairsUptoCard : Claim7 := { stood := { row := codePairsUptoRow, standIns := [], harness := (true, "cabc22168aaf92de087c3d8e7d5ea5f38610b2dee22e5f9e6f20f6649f79f6ca"), looks := false }, kinds := [], alts := [], laidByText := true, laidKinds := [.data, .data], laidTests := true, laidLooks := .later }
def CodePairsUptoCardSaid : Prop := Claim7.holds Tryd.pinned (.plain (OpenSpec.upto codePairsSpec)) codePairsUptoCard

/-- THE SECOND FORM's CARD OF 'proofprogramslaw28.ChallengeKeeps'. -/
def challengeKeepsUptoCard : Claim7 := { stood := { row := challengeKeepsUptoRow, standIns := [], harness := (true, "cabc22168aaf92de087c3d8e7d5ea5f38610b2dee22e5f9e6f20f6649f79f6ca"), looks := false }, kinds := [], alts := [], laidByText := true, laidKinds := [.data], laidTests := true, laidLooks := .later }
def ChallengeKeepsUptoCardSaid : Prop := Claim7.holds Tryd.pinned (.plain (OpenSpec.upto challengeKeepsSpec)) challengeKeepsUptoCard

/-- THE SECOND FORM's CARD OF 'proofprogramslaw28.ChallengeJoins'. -/
def challengeJoinsUptoCard : Claim7 := { stood := { row := challengeJoinsUptoRow, standIns := [], harness := (true, "cabc22168aaf92de087c3d8e7d5ea5f38610b2dee22e5f9e6f20f6649f79f6ca"), looks := false }, kinds := [], alts := [], laidByText := true, laidKinds := [.data], laidTests := true, laidLooks := .later }
def ChallengeJoinsUptoCardSaid : Prop := Claim7.holds Tryd.pinned (.plain (OpenSpec.upto challengeJoinsSpec)) challengeJoinsUptoCard

/-- THE SECOND FORM's CARD OF 'proofprogramslaw28.ChallengeFree'. -/
def challengeFreeUptoCard : Claim7 := { stood := { row := challengeFreeUptoRow, standIns := [], harness := (true, "cabc22168aaf92de087c3d8e7d5ea5f38610b2dee22e5f9e6f20f6649f79f6ca"), looks := false }, kinds := [], alts := [], laidByText := true, laidKinds := [.data], laidTests := true, laidLooks := .later }
def ChallengeFreeUptoCardSaid : Prop := Claim7.holds Tryd.pinned (.plain (OpenSpec.upto challengeFreeSpec)) challengeFreeUptoCard

/-- THE SECOND FORM's CARD OF 'proofprogramslaw28.ChallengeNot'. -/
def challengeNotUptoCard : Claim7 := { stood := { row := challengeNotUptoRow, standIns := [], harness := (true, "cabc22168aaf92de087c3d8e7d5ea5f38610b2dee22e5f9e6f20f6649f79f6ca"), looks := false }, kinds := [], alts := [], laidByText := true, laidKinds := [.data], laidTests := true, laidLooks := .later }
def ChallengeNotUptoCardSaid : Prop := Claim7.holds Tryd.pinned (.plain (OpenSpec.upto challengeNotSpec)) challengeNotUptoCard
end Rows
end Go.Proofs.YtjdlmhbkfammlaaDoor
