/-
  NARROWER THAN 'FOR EVERY INPUT', by the rows' own cells (each row's printed sentence says how): CodeExact: loops, laid · CodeBack: laid · CodeTypes: laid · CodeBent: laid · CodePairs: laid · ChallengeKeeps: laid · ChallengeJoins: laid · ChallengeFree: laid · ChallengeNot: laid.
  DERIVED. THE GIVEN ROWS OF THIS SEAT. 9 by the template 'for every input the law returns true; each argument reads behind the call as it read before'; 0 by the template 'total and deterministic' (their statements: YtjdlmhbkfammlaaDoorTotals.lean).
  GIVEN WITH THE SEED: the statements are not yours to turn. If you find one false, say at which input.
  Laid BY PROGRAM, IN A SANDBOX (cutbox-rows.mjs): the forced cells as the released guide's own fill.sh prints them over the translation 2e91839bfdc5e50f… (all of the seat's roots in one cut). By AI agents, Wed Nov 11 2026. No macro, syntax, notation, axiom, sorry.
-/
import Derived.Test.YtjdlmhbkfammlaaDoorChecked
import GoSem.Claim
import GoSem.ClaimJoined
import GoSem.ClaimMapViews
import Derived.JoinedTies
import Derived.KernelRfl
namespace Go.Proofs.YtjdlmhbkfammlaaDoor
/- THE CELL 'sum', in the pinned program and in every row, IS THE sha256 OF THE DUMP (.gsa) THAT YtjdlmhbkfammlaaDoorProg.lean LOADS. Nothing in Lean hashes anything: it is a label: what it is worth is what the hold of that sum in a sandbox is worth. -/
noncomputable def Tryd.pinned : Pinned := { name := "ytjdlmhbkfammlaadoor", sum := "2e91839bfdc5e50f40a53458d643218f33e3b1193fb1a64e502c382d5a4cf582", checked := Tryd.checked }
namespace Rows
def none {H : Type} : Left H := { results := [], args := [] }

/- WHAT THE LISTED PACKAGE-LEVEL VARIABLES READ AS WHEN THE CALL BEGINS. Each datum BY PROGRAM (the guide's laid-datum.mjs) off the statement by which the dump's own 'gosem.cut.vars' lays the variable. In a bare row this is a premise. The card (YtjdlmhbkfammlaaDoorCards.lean) ties it to the program's text. -/
def laid_proofprograms_tree_arities {H : Type} : DataW H := .agg [.lit (.int .i64 0), .lit (.int .i64 0), .lit (.int .i64 1), .lit (.int .i64 2), .lit (.int .i64 0), .lit (.int .i64 1), .lit (.int .i64 3), .lit (.int .i64 0), .lit (.int .i64 2), .lit (.int .i64 3), .lit (.int .i64 2), .lit (.int .i64 1), .lit (.int .i64 1), .lit (.int .i64 0)]
def laid_proofprograms_code_ops {H : Type} : DataW H := .agg [.agg [.lit (.int .i64 0), .lit (.int .i64 0)], .agg [.lit (.int .i64 0), .lit (.int .i64 1)], .agg [.lit (.int .i64 0), .lit (.int .i64 2)], .agg [.lit (.int .i64 2), .lit (.int .i64 3)], .agg [.lit (.int .i64 0), .lit (.int .i64 4)], .agg [.lit (.int .i64 1), .lit (.int .i64 5)], .agg [.lit (.int .i64 3), .lit (.int .i64 6)], .agg [.lit (.int .i64 0), .lit (.int .i64 7)], .agg [.lit (.int .i64 2), .lit (.int .i64 8)], .agg [.lit (.int .i64 3), .lit (.int .i64 9)], .agg [.lit (.int .i64 2), .lit (.int .i64 10)], .agg [.lit (.int .i64 1), .lit (.int .i64 11)], .agg [.lit (.int .i64 1), .lit (.int .i64 12)], .agg [.lit (.int .i64 0), .lit (.int .i64 13)]]

/-- 'proofprogramslaw37.CodeExact': WHATEVER THE INPUT: true; the input reads as it did. -/
def codeExactSpec : ChangeSpec := { name := "codeExact", fn := fun _ => fun
  | [d1, d2, d3] => { results := [.lit (.bool true)], args := [d1, d2, d3] }
  | _ => none }
def codeExactRow : OpenClaim := { program := "ytjdlmhbkfammlaadoor", sum := "2e91839bfdc5e50f40a53458d643218f33e3b1193fb1a64e502c382d5a4cf582", func := "proofprograms/proofprogramslaw37.CodeExact", spec := "codeExact", unfollowed := true, recurses := true, named := ["proofprograms/tree.arities", "proofprograms/code.ops"], loops := true, apart := false, laid := [("proofprograms/tree.arities", laid_proofprograms_tree_arities), ("proofprograms/code.ops", laid_proofprograms_code_ops)] }
def CodeExactSaid : Prop := codeExactRow.holds Tryd.pinned (OpenSpec.ofChange codeExactSpec)

/-- ITS FALSE NEIGHBOUR: 'it returns false'. Refute it at one input. -/
def codeExactWrong : ChangeSpec := { name := "codeExact", fn := fun _ => fun
  | [d1, d2, d3] => { results := [.lit (.bool false)], args := [d1, d2, d3] }
  | _ => none }
def CodeExactWrongFalsely : Prop := codeExactRow.holds Tryd.pinned (OpenSpec.ofChange codeExactWrong)

/-- 'proofprogramslaw37.CodeBack': WHATEVER THE INPUT: true; the input reads as it did. -/
def codeBackSpec : ChangeSpec := { name := "codeBack", fn := fun _ => fun
  | [d] => { results := [.lit (.bool true)], args := [d] }
  | _ => none }
def codeBackRow : OpenClaim := { program := "ytjdlmhbkfammlaadoor", sum := "2e91839bfdc5e50f40a53458d643218f33e3b1193fb1a64e502c382d5a4cf582", func := "proofprograms/proofprogramslaw37.CodeBack", spec := "codeBack", unfollowed := true, recurses := true, named := ["proofprograms/tree.arities", "proofprograms/code.ops"], apart := false, laid := [("proofprograms/tree.arities", laid_proofprograms_tree_arities), ("proofprograms/code.ops", laid_proofprograms_code_ops)] }
def CodeBackSaid : Prop := codeBackRow.holds Tryd.pinned (OpenSpec.ofChange codeBackSpec)

/-- ITS FALSE NEIGHBOUR: 'it returns false'. Refute it at one input. -/
def codeBackWrong : ChangeSpec := { name := "codeBack", fn := fun _ => fun
  | [d] => { results := [.lit (.bool false)], args := [d] }
  | _ => none }
def CodeBackWrongFalsely : Prop := codeBackRow.holds Tryd.pinned (OpenSpec.ofChange codeBackWrong)

/-- 'proofprogramslaw37.CodeTypes': WHATEVER THE INPUT: true; the input reads as it did. -/
def codeTypesSpec : ChangeSpec := { name := "codeTypes", fn := fun _ => fun
  | [d] => { results := [.lit (.bool true)], args := [d] }
  | _ => none }
def codeTypesRow : OpenClaim := { program := "ytjdlmhbkfammlaadoor", sum := "2e91839bfdc5e50f40a53458d643218f33e3b1193fb1a64e502c382d5a4cf582", func := "proofprograms/proofprogramslaw37.CodeTypes", spec := "codeTypes", unfollowed := true, recurses := true, named := ["proofprograms/tree.arities", "proofprograms/code.ops"], apart := false, laid := [("proofprograms/tree.arities", laid_proofprograms_tree_arities), ("proofprograms/code.ops", laid_proofprograms_code_ops)] }
def CodeTypesSaid : Prop := codeTypesRow.holds Tryd.pinned (OpenSpec.ofChange codeTypesSpec)

/-- ITS FALSE NEIGHBOUR: 'it returns false'. Refute it at one input. -/
def codeTypesWrong : ChangeSpec := { name := "codeTypes", fn := fun _ => fun
  | [d] => { results := [.lit (.bool false)], args := [d] }
  | _ => none }
def CodeTypesWrongFalsely : Prop := codeTypesRow.holds Tryd.pinned (OpenSpec.ofChange codeTypesWrong)

/-- 'proofprogramslaw37.CodeBent': WHATEVER THE INPUT: true; the input reads as it did. -/
def codeBentSpec : ChangeSpec := { name := "codeBent", fn := fun _ => fun
  | [d] => { results := [.lit (.bool true)], args := [d] }
  | _ => none }
def codeBentRow : OpenClaim := { program := "ytjdlmhbkfammlaadoor", sum := "2e91839bfdc5e50f40a53458d643218f33e3b1193fb1a64e502c382d5a4cf582", func := "proofprograms/proofprogramslaw37.CodeBent", spec := "codeBent", unfollowed := true, recurses := true, named := ["proofprograms/tree.arities", "proofprograms/code.ops"], apart := false, laid := [("proofprograms/tree.arities", laid_proofprograms_tree_arities), ("proofprograms/code.ops", laid_proofprograms_code_ops)] }
def CodeBentSaid : Prop := codeBentRow.holds Tryd.pinned (OpenSpec.ofChange codeBentSpec)

/-- ITS FALSE NEIGHBOUR: 'it returns false'. Refute it at one input. -/
def codeBentWrong : ChangeSpec := { name := "codeBent", fn := fun _ => fun
  | [d] => { results := [.lit (.bool false)], args := [d] }
  | _ => none }
def CodeBentWrongFalsely : Prop := codeBentRow.holds Tryd.pinned (OpenSpec.ofChange codeBentWrong)

/-- 'proofprogramslaw37.CodePairs': WHATEVER THE INPUT: true; the input reads as it did. -/
def codePairsSpec : ChangeSpec := { name := "codePairs", fn := fun _ => fun
  | [d] => { results := [.lit (.bool true)], args := [d] }
  | _ => none }
def codePairsRow : OpenClaim := { program := "ytjdlmhbkfammlaadoor", sum := "2e91839bfdc5e50f40a53458d643218f33e3b1193fb1a64e502c382d5a4cf582", func := "proofprograms/proofprogramslaw37.CodePairs", spec := "codePairs", unfollowed := true, recurses := true, named := ["proofprograms/tree.arities", "proofprograms/code.ops"], apart := false, laid := [("proofprograms/tree.arities", laid_proofprograms_tree_arities), ("proofprograms/code.ops", laid_proofprograms_code_ops)] }
def CodePairsSaid : Prop := codePairsRow.holds Tryd.pinned (OpenSpec.ofChange codePairsSpec)

/-- ITS FALSE NEIGHBOUR: 'it returns false'. Refute it at one input. -/
def codePairsWrong : ChangeSpec := { name := "codePairs", fn := fun _ => fun
  | [d] => { results := [.lit (.bool false)], args := [d] }
  | _ => none }
def CodePairsWrongFalsely : Prop := codePairsRow.holds Tryd.pinned (OpenSpec.ofChange codePairsWrong)

/-- 'proofprogramslaw28.ChallengeKeeps': WHATEVER THE INPUT: true; the input reads as it did. -/
def challengeKeepsSpec : ChangeSpec := { name := "challengeKeeps", fn := fun _ => fun
  | [d] => { results := [.lit (.bool true)], args := [d] }
  | _ => none }
def challengeKeepsRow : OpenClaim := { program := "ytjdlmhbkfammlaadoor", sum := "2e91839bfdc5e50f40a53458d643218f33e3b1193fb1a64e502c382d5a4cf582", func := "proofprograms/proofprogramslaw28.ChallengeKeeps", spec := "challengeKeeps", recurses := true, named := ["proofprograms/tree.arities"], apart := false, laid := [("proofprograms/tree.arities", laid_proofprograms_tree_arities)] }
def ChallengeKeepsSaid : Prop := challengeKeepsRow.holds Tryd.pinned (OpenSpec.ofChange challengeKeepsSpec)

/-- ITS FALSE NEIGHBOUR: 'it returns false'. Refute it at one input. -/
def challengeKeepsWrong : ChangeSpec := { name := "challengeKeeps", fn := fun _ => fun
  | [d] => { results := [.lit (.bool false)], args := [d] }
  | _ => none }
def ChallengeKeepsWrongFalsely : Prop := challengeKeepsRow.holds Tryd.pinned (OpenSpec.ofChange challengeKeepsWrong)

/-- 'proofprogramslaw28.ChallengeJoins': WHATEVER THE INPUT: true; the input reads as it did. -/
def challengeJoinsSpec : ChangeSpec := { name := "challengeJoins", fn := fun _ => fun
  | [d] => { results := [.lit (.bool true)], args := [d] }
  | _ => none }
def challengeJoinsRow : OpenClaim := { program := "ytjdlmhbkfammlaadoor", sum := "2e91839bfdc5e50f40a53458d643218f33e3b1193fb1a64e502c382d5a4cf582", func := "proofprograms/proofprogramslaw28.ChallengeJoins", spec := "challengeJoins", recurses := true, named := ["proofprograms/tree.arities"], apart := false, laid := [("proofprograms/tree.arities", laid_proofprograms_tree_arities)] }
def ChallengeJoinsSaid : Prop := challengeJoinsRow.holds Tryd.pinned (OpenSpec.ofChange challengeJoinsSpec)

/-- ITS FALSE NEIGHBOUR: 'it returns false'. Refute it at one input. -/
def challengeJoinsWrong : ChangeSpec := { name := "challengeJoins", fn := fun _ => fun
  | [d] => { results := [.lit (.bool false)], args := [d] }
  | _ => none }
def ChallengeJoinsWrongFalsely : Prop := challengeJoinsRow.holds Tryd.pinned (OpenSpec.ofChange challengeJoinsWrong)

/-- 'proofprogramslaw28.ChallengeFree': WHATEVER THE INPUT: true; the input reads as it did. -/
def challengeFreeSpec : ChangeSpec := { name := "challengeFree", fn := fun _ => fun
  | [d] => { results := [.lit (.bool true)], args := [d] }
  | _ => none }
def challengeFreeRow : OpenClaim := { program := "ytjdlmhbkfammlaadoor", sum := "2e91839bfdc5e50f40a53458d643218f33e3b1193fb1a64e502c382d5a4cf582", func := "proofprograms/proofprogramslaw28.ChallengeFree", spec := "challengeFree", recurses := true, named := ["proofprograms/tree.arities"], apart := false, laid := [("proofprograms/tree.arities", laid_proofprograms_tree_arities)] }
def ChallengeFreeSaid : Prop := challengeFreeRow.holds Tryd.pinned (OpenSpec.ofChange challengeFreeSpec)

/-- ITS FALSE NEIGHBOUR: 'it returns false'. Refute it at one input. -/
def challengeFreeWrong : ChangeSpec := { name := "challengeFree", fn := fun _ => fun
  | [d] => { results := [.lit (.bool false)], args := [d] }
  | _ => none }
def ChallengeFreeWrongFalsely : Prop := challengeFreeRow.holds Tryd.pinned (OpenSpec.ofChange challengeFreeWrong)

/-- 'proofprogramslaw28.ChallengeNot': WHATEVER THE INPUT: true; the input reads as it did. -/
def challengeNotSpec : ChangeSpec := { name := "challengeNot", fn := fun _ => fun
  | [d] => { results := [.lit (.bool true)], args := [d] }
  | _ => none }
def challengeNotRow : OpenClaim := { program := "ytjdlmhbkfammlaadoor", sum := "2e91839bfdc5e50f40a53458d643218f33e3b1193fb1a64e502c382d5a4cf582", func := "proofprograms/proofprogramslaw28.ChallengeNot", spec := "challengeNot", recurses := true, named := ["proofprograms/tree.arities"], apart := false, laid := [("proofprograms/tree.arities", laid_proofprograms_tree_arities)] }
def ChallengeNotSaid : Prop := challengeNotRow.holds Tryd.pinned (OpenSpec.ofChange challengeNotSpec)

/-- ITS FALSE NEIGHBOUR: 'it returns false'. Refute it at one input. -/
def challengeNotWrong : ChangeSpec := { name := "challengeNot", fn := fun _ => fun
  | [d] => { results := [.lit (.bool false)], args := [d] }
  | _ => none }
def ChallengeNotWrongFalsely : Prop := challengeNotRow.holds Tryd.pinned (OpenSpec.ofChange challengeNotWrong)

/- THE SECOND FORM. 'bulk': how many values and letters a reading holds, each counted each time it is reached (what is shared counts as often as it is met; a slice's spare places count too). A statement '..UptoSaid' is the law's where the arguments, and the package variables that the reading takes, are together of bulk at most 1048576: NARROWER than '..Said'. Prove '..Said' where nothing that the law and all that it calls make is longer than what came in: it says more and counts as full. Else prove '..UptoSaid'. A law counts once. -/
mutual
def uptoBulk {H : Type} : DataW H → Nat
  | .lit (.string bytes) => bytes.length + 1
  | .lit _ => 1
  | .nil => 1
  | .ptr d => uptoBulk d + 1
  | .slice elems spare => uptoBulkAll elems + uptoBulkAll spare + 1
  | .agg parts => uptoBulkAll parts + 1
  | .iface _ d => uptoBulk d + 1
  | .map entries => uptoBulkEntries entries + 1
  | .held _ => 1
def uptoBulkAll {H : Type} : List (DataW H) → Nat
  | [] => 0
  | d :: r => uptoBulk d + uptoBulkAll r
def uptoBulkEntries {H : Type} : List (Lit × DataW H) → Nat
  | [] => 0
  | x :: r => uptoBulkEntry x + uptoBulkEntries r
def uptoBulkEntry {H : Type} : Lit × DataW H → Nat
  | (.string bytes, d) => bytes.length + uptoBulk d + 1
  | (_, d) => uptoBulk d + 1
 end
def uptoSmall : (H : Type) → List (DataW H) → Bool := fun _ ds => decide (uptoBulkAll ds ≤ 1048576)
def OpenSpec.upto (s : _root_.Go.ChangeSpec) : _root_.Go.OpenSpec := { _root_.Go.OpenSpec.ofChange s with cond := some uptoSmall }

/-- 'proofprogramslaw37.CodeExact', WHERE WHAT IT READS IS OF BULK AT MOST 1048576: true; the input reads as it did. -/
def codeExactUptoRow : OpenClaim := { program := "ytjdlmhbkfammlaadoor", sum := "2e91839bfdc5e50f40a53458d643218f33e3b1193fb1a64e502c382d5a4cf582", func := "proofprograms/proofprogramslaw37.CodeExact", spec := "codeExact", unfollowed := true, recurses := true, named := ["proofprograms/tree.arities", "proofprograms/code.ops"], loops := true, apart := false, laid := [("proofprograms/tree.arities", laid_proofprograms_tree_arities), ("proofprograms/code.ops", laid_proofprograms_code_ops)], narrowed := true }
def CodeExactUptoSaid : Prop := codeExactUptoRow.holds Tryd.pinned (OpenSpec.upto codeExactSpec)

/-- 'proofprogramslaw37.CodeBack', WHERE WHAT IT READS IS OF BULK AT MOST 1048576: true; the input reads as it did. -/
def codeBackUptoRow : OpenClaim := { program := "ytjdlmhbkfammlaadoor", sum := "2e91839bfdc5e50f40a53458d643218f33e3b1193fb1a64e502c382d5a4cf582", func := "proofprograms/proofprogramslaw37.CodeBack", spec := "codeBack", unfollowed := true, recurses := true, named := ["proofprograms/tree.arities", "proofprograms/code.ops"], apart := false, laid := [("proofprograms/tree.arities", laid_proofprograms_tree_arities), ("proofprograms/code.ops", laid_proofprograms_code_ops)], narrowed := true }
def CodeBackUptoSaid : Prop := codeBackUptoRow.holds Tryd.pinned (OpenSpec.upto codeBackSpec)

/-- 'proofprogramslaw37.CodeTypes', WHERE WHAT IT READS IS OF BULK AT MOST 1048576: true; the input reads as it did. -/
def codeTypesUptoRow : OpenClaim := { program := "ytjdlmhbkfammlaadoor", sum := "2e91839bfdc5e50f40a53458d643218f33e3b1193fb1a64e502c382d5a4cf582", func := "proofprograms/proofprogramslaw37.CodeTypes", spec := "codeTypes", unfollowed := true, recurses := true, named := ["proofprograms/tree.arities", "proofprograms/code.ops"], apart := false, laid := [("proofprograms/tree.arities", laid_proofprograms_tree_arities), ("proofprograms/code.ops", laid_proofprograms_code_ops)], narrowed := true }
def CodeTypesUptoSaid : Prop := codeTypesUptoRow.holds Tryd.pinned (OpenSpec.upto codeTypesSpec)

/-- 'proofprogramslaw37.CodeBent', WHERE WHAT IT READS IS OF BULK AT MOST 1048576: true; the input reads as it did. -/
def codeBentUptoRow : OpenClaim := { program := "ytjdlmhbkfammlaadoor", sum := "2e91839bfdc5e50f40a53458d643218f33e3b1193fb1a64e502c382d5a4cf582", func := "proofprograms/proofprogramslaw37.CodeBent", spec := "codeBent", unfollowed := true, recurses := true, named := ["proofprograms/tree.arities", "proofprograms/code.ops"], apart := false, laid := [("proofprograms/tree.arities", laid_proofprograms_tree_arities), ("proofprograms/code.ops", laid_proofprograms_code_ops)], narrowed := true }
def CodeBentUptoSaid : Prop := codeBentUptoRow.holds Tryd.pinned (OpenSpec.upto codeBentSpec)

/-- 'proofprogramslaw37.CodePairs', WHERE WHAT IT READS IS OF BULK AT MOST 1048576: true; the input reads as it did. -/
def codePairsUptoRow : OpenClaim := { program := "ytjdlmhbkfammlaadoor", sum := "2e91839bfdc5e50f40a53458d643218f33e3b1193fb1a64e502c382d5a4cf582", func := "proofprograms/proofprogramslaw37.CodePairs", spec := "codePairs", unfollowed := true, recurses := true, named := ["proofprograms/tree.arities", "proofprograms/code.ops"], apart := false, laid := [("proofprograms/tree.arities", laid_proofprograms_tree_arities), ("proofprograms/code.ops", laid_proofprograms_code_ops)], narrowed := true }
def CodePairsUptoSaid : Prop := codePairsUptoRow.holds Tryd.pinned (OpenSpec.upto codePairsSpec)

/-- 'proofprogramslaw28.ChallengeKeeps', WHERE WHAT IT READS IS OF BULK AT MOST 1048576: true; the input reads as it did. -/
def challengeKeepsUptoRow : OpenClaim := { program := "ytjdlmhbkfammlaadoor", sum := "2e91839bfdc5e50f40a53458d643218f33e3b1193fb1a64e502c382d5a4cf582", func := "proofprograms/proofprogramslaw28.ChallengeKeeps", spec := "challengeKeeps", recurses := true, named := ["proofprograms/tree.arities"], apart := false, laid := [("proofprograms/tree.arities", laid_proofprograms_tree_arities)], narrowed := true }
def ChallengeKeepsUptoSaid : Prop := challengeKeepsUptoRow.holds Tryd.pinned (OpenSpec.upto challengeKeepsSpec)

/-- 'proofprogramslaw28.ChallengeJoins', WHERE WHAT IT READS IS OF BULK AT MOST 1048576: true; the input reads as it did. -/
def challengeJoinsUptoRow : OpenClaim := { program := "ytjdlmhbkfammlaadoor", sum := "2e91839bfdc5e50f40a53458d643218f33e3b1193fb1a64e502c382d5a4cf582", func := "proofprograms/proofprogramslaw28.ChallengeJoins", spec := "challengeJoins", recurses := true, named := ["proofprograms/tree.arities"], apart := false, laid := [("proofprograms/tree.arities", laid_proofprograms_tree_arities)], narrowed := true }
def ChallengeJoinsUptoSaid : Prop := challengeJoinsUptoRow.holds Tryd.pinned (OpenSpec.upto challengeJoinsSpec)

/-- 'proofprogramslaw28.ChallengeFree', WHERE WHAT IT READS IS OF BULK AT MOST 1048576: true; the input reads as it did. -/
def challengeFreeUptoRow : OpenClaim := { program := "ytjdlmhbkfammlaadoor", sum := "2e91839bfdc5e50f40a53458d643218f33e3b1193fb1a64e502c382d5a4cf582", func := "proofprograms/proofprogramslaw28.ChallengeFree", spec := "challengeFree", recurses := true, named := ["proofprograms/tree.arities"], apart := false, laid := [("proofprograms/tree.arities", laid_proofprograms_tree_arities)], narrowed := true }
def ChallengeFreeUptoSaid : Prop := challengeFreeUptoRow.holds Tryd.pinned (OpenSpec.upto challengeFreeSpec)

/-- 'proofprogramslaw28.ChallengeNot', WHERE WHAT IT READS IS OF BULK AT MOST 1048576: true; the input reads as it did. -/
def challengeNotUptoRow : OpenClaim := { program := "ytjdlmhbkfammlaadoor", sum := "2e91839bfdc5e50f40a53458d643218f33e3b1193fb1a64e502c382d5a4cf582", func := "proofprograms/proofprogramslaw28.ChallengeNot", spec := "challengeNot", recurses := true, named := ["proofprograms/tree.arities"], apart := false, laid := [("proofprograms/tree.arities", laid_proofprograms_tree_arities)], narrowed := true }
def ChallengeNotUptoSaid : Prop := challengeNotUptoRow.holds Tryd.pinned (OpenSpec.upto challengeNotSpec)

end Rows
end Go.Proofs.YtjdlmhbkfammlaaDoor
