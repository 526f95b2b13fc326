/-
  NARROWER THAN 'FOR EVERY INPUT', by the rows' own cells (each row's printed sentence says how): LengthsMatchesReference: laid · LengthsOfMatchesReference: laid · LengthsCanonDecidesEquality: laid · LengthsSetOperations: laid · LengthsSumOfMembers: laid · LengthsAssociative: laid · LengthsOfWords: laid · LengthsLeastMember: laid · LengthsRejectsInvalid: laid.
  DERIVED. THE GIVEN ROWS OF THIS SEAT. 9 by the template 'for every input the law returns true; each argument reads behind the call as it read before'; 0 by the template 'total and deterministic' (their statements: YtpfncffapgkjaaaDoorTotals.lean).
  GIVEN WITH THE SEED: the statements are not yours to turn. If you find one false, say at which input.
  Laid BY PROGRAM, IN A SANDBOX (cutbox-rows.mjs): the forced cells as the released guide's own fill.sh prints them over the translation 58306632b763c32b… (all of the seat's roots in one cut). By AI agents, Wed Nov 11 2026. No macro, syntax, notation, axiom, sorry.
-/
import Derived.Test.YtpfncffapgkjaaaDoorChecked
import GoSem.Claim
import GoSem.ClaimJoined
import GoSem.ClaimMapViews
import Derived.JoinedTies
import Derived.KernelRfl
namespace Go.Proofs.YtpfncffapgkjaaaDoor
/- THE CELL 'sum', in the pinned program and in every row, IS THE sha256 OF THE DUMP (.gsa) THAT YtpfncffapgkjaaaDoorProg.lean LOADS. Nothing in Lean hashes anything: it is a label: what it is worth is what the hold of that sum in a sandbox is worth. -/
noncomputable def Tryd.pinned : Pinned := { name := "ytpfncffapgkjaaadoor", sum := "58306632b763c32b065e177bfdf345cf62aa4c6a3ef79fb3f12d59911d4fd5e4", checked := Tryd.checked }
namespace Rows
def none {H : Type} : Left H := { results := [], args := [] }

/- WHAT THE LISTED PACKAGE-LEVEL VARIABLES READ AS WHEN THE CALL BEGINS. Each datum BY PROGRAM (the guide's laid-datum.mjs) off the statement by which the dump's own 'gosem.cut.vars' lays the variable. In a bare row this is a premise. The card (YtpfncffapgkjaaaDoorCards.lean) ties it to the program's text. -/
def laid_math_bits_deBruijn64tab {H : Type} : DataW H := .agg [.lit (.int .u8 0), .lit (.int .u8 1), .lit (.int .u8 56), .lit (.int .u8 2), .lit (.int .u8 57), .lit (.int .u8 49), .lit (.int .u8 28), .lit (.int .u8 3), .lit (.int .u8 61), .lit (.int .u8 58), .lit (.int .u8 42), .lit (.int .u8 50), .lit (.int .u8 38), .lit (.int .u8 29), .lit (.int .u8 17), .lit (.int .u8 4), .lit (.int .u8 62), .lit (.int .u8 47), .lit (.int .u8 59), .lit (.int .u8 36), .lit (.int .u8 45), .lit (.int .u8 43), .lit (.int .u8 51), .lit (.int .u8 22), .lit (.int .u8 53), .lit (.int .u8 39), .lit (.int .u8 33), .lit (.int .u8 30), .lit (.int .u8 24), .lit (.int .u8 18), .lit (.int .u8 12), .lit (.int .u8 5), .lit (.int .u8 63), .lit (.int .u8 55), .lit (.int .u8 48), .lit (.int .u8 27), .lit (.int .u8 60), .lit (.int .u8 41), .lit (.int .u8 37), .lit (.int .u8 16), .lit (.int .u8 46), .lit (.int .u8 35), .lit (.int .u8 44), .lit (.int .u8 21), .lit (.int .u8 52), .lit (.int .u8 32), .lit (.int .u8 23), .lit (.int .u8 11), .lit (.int .u8 54), .lit (.int .u8 26), .lit (.int .u8 40), .lit (.int .u8 15), .lit (.int .u8 34), .lit (.int .u8 20), .lit (.int .u8 31), .lit (.int .u8 10), .lit (.int .u8 25), .lit (.int .u8 14), .lit (.int .u8 19), .lit (.int .u8 9), .lit (.int .u8 13), .lit (.int .u8 8), .lit (.int .u8 7), .lit (.int .u8 6)]

/-- 'univocallaw05.LengthsMatchesReference': WHATEVER THE INPUT: true; the input reads as it did. -/
def lengthsMatchesReferenceSpec : ChangeSpec := { name := "lengthsMatchesReference", fn := fun _ => fun
  | [d1, d2, d3] => { results := [.lit (.bool true)], args := [d1, d2, d3] }
  | _ => none }
def lengthsMatchesReferenceRow : OpenClaim := { program := "ytpfncffapgkjaaadoor", sum := "58306632b763c32b065e177bfdf345cf62aa4c6a3ef79fb3f12d59911d4fd5e4", func := "univocal/univocallaw05.LengthsMatchesReference", spec := "lengthsMatchesReference", unfollowed := true, recurses := true, named := ["math/bits.deBruijn64tab"], apart := false, laid := [("math/bits.deBruijn64tab", laid_math_bits_deBruijn64tab)] }
def LengthsMatchesReferenceSaid : Prop := lengthsMatchesReferenceRow.holds Tryd.pinned (OpenSpec.ofChange lengthsMatchesReferenceSpec)

/-- ITS FALSE NEIGHBOUR: 'it returns false'. Refute it at one input. -/
def lengthsMatchesReferenceWrong : ChangeSpec := { name := "lengthsMatchesReference", fn := fun _ => fun
  | [d1, d2, d3] => { results := [.lit (.bool false)], args := [d1, d2, d3] }
  | _ => none }
def LengthsMatchesReferenceWrongFalsely : Prop := lengthsMatchesReferenceRow.holds Tryd.pinned (OpenSpec.ofChange lengthsMatchesReferenceWrong)

/-- 'univocallaw05.LengthsOfMatchesReference': WHATEVER THE INPUT: true; the input reads as it did. -/
def lengthsOfMatchesReferenceSpec : ChangeSpec := { name := "lengthsOfMatchesReference", fn := fun _ => fun
  | [d1, d2] => { results := [.lit (.bool true)], args := [d1, d2] }
  | _ => none }
def lengthsOfMatchesReferenceRow : OpenClaim := { program := "ytpfncffapgkjaaadoor", sum := "58306632b763c32b065e177bfdf345cf62aa4c6a3ef79fb3f12d59911d4fd5e4", func := "univocal/univocallaw05.LengthsOfMatchesReference", spec := "lengthsOfMatchesReference", unfollowed := true, recurses := true, named := ["math/bits.deBruijn64tab"], apart := false, laid := [("math/bits.deBruijn64tab", laid_math_bits_deBruijn64tab)] }
def LengthsOfMatchesReferenceSaid : Prop := lengthsOfMatchesReferenceRow.holds Tryd.pinned (OpenSpec.ofChange lengthsOfMatchesReferenceSpec)

/-- ITS FALSE NEIGHBOUR: 'it returns false'. Refute it at one input. -/
def lengthsOfMatchesReferenceWrong : ChangeSpec := { name := "lengthsOfMatchesReference", fn := fun _ => fun
  | [d1, d2] => { results := [.lit (.bool false)], args := [d1, d2] }
  | _ => none }
def LengthsOfMatchesReferenceWrongFalsely : Prop := lengthsOfMatchesReferenceRow.holds Tryd.pinned (OpenSpec.ofChange lengthsOfMatchesReferenceWrong)

/-- 'univocallaw05.LengthsCanonDecidesEquality': WHATEVER THE INPUT: true; the input reads as it did. -/
def lengthsCanonDecidesEqualitySpec : ChangeSpec := { name := "lengthsCanonDecidesEquality", fn := fun _ => fun
  | [d1, d2] => { results := [.lit (.bool true)], args := [d1, d2] }
  | _ => none }
def lengthsCanonDecidesEqualityRow : OpenClaim := { program := "ytpfncffapgkjaaadoor", sum := "58306632b763c32b065e177bfdf345cf62aa4c6a3ef79fb3f12d59911d4fd5e4", func := "univocal/univocallaw05.LengthsCanonDecidesEquality", spec := "lengthsCanonDecidesEquality", unfollowed := true, recurses := true, named := ["math/bits.deBruijn64tab"], apart := false, laid := [("math/bits.deBruijn64tab", laid_math_bits_deBruijn64tab)] }
def LengthsCanonDecidesEqualitySaid : Prop := lengthsCanonDecidesEqualityRow.holds Tryd.pinned (OpenSpec.ofChange lengthsCanonDecidesEqualitySpec)

/-- ITS FALSE NEIGHBOUR: 'it returns false'. Refute it at one input. -/
def lengthsCanonDecidesEqualityWrong : ChangeSpec := { name := "lengthsCanonDecidesEquality", fn := fun _ => fun
  | [d1, d2] => { results := [.lit (.bool false)], args := [d1, d2] }
  | _ => none }
def LengthsCanonDecidesEqualityWrongFalsely : Prop := lengthsCanonDecidesEqualityRow.holds Tryd.pinned (OpenSpec.ofChange lengthsCanonDecidesEqualityWrong)

/-- 'univocallaw05.LengthsSetOperations': WHATEVER THE INPUT: true; the input reads as it did. -/
def lengthsSetOperationsSpec : ChangeSpec := { name := "lengthsSetOperations", fn := fun _ => fun
  | [d1, d2, d3] => { results := [.lit (.bool true)], args := [d1, d2, d3] }
  | _ => none }
def lengthsSetOperationsRow : OpenClaim := { program := "ytpfncffapgkjaaadoor", sum := "58306632b763c32b065e177bfdf345cf62aa4c6a3ef79fb3f12d59911d4fd5e4", func := "univocal/univocallaw05.LengthsSetOperations", spec := "lengthsSetOperations", unfollowed := true, recurses := true, named := ["math/bits.deBruijn64tab"], apart := false, laid := [("math/bits.deBruijn64tab", laid_math_bits_deBruijn64tab)] }
def LengthsSetOperationsSaid : Prop := lengthsSetOperationsRow.holds Tryd.pinned (OpenSpec.ofChange lengthsSetOperationsSpec)

/-- ITS FALSE NEIGHBOUR: 'it returns false'. Refute it at one input. -/
def lengthsSetOperationsWrong : ChangeSpec := { name := "lengthsSetOperations", fn := fun _ => fun
  | [d1, d2, d3] => { results := [.lit (.bool false)], args := [d1, d2, d3] }
  | _ => none }
def LengthsSetOperationsWrongFalsely : Prop := lengthsSetOperationsRow.holds Tryd.pinned (OpenSpec.ofChange lengthsSetOperationsWrong)

/-- 'univocallaw05.LengthsSumOfMembers': WHATEVER THE INPUT: true; the input reads as it did. -/
def lengthsSumOfMembersSpec : ChangeSpec := { name := "lengthsSumOfMembers", fn := fun _ => fun
  | [d1, d2, d3] => { results := [.lit (.bool true)], args := [d1, d2, d3] }
  | _ => none }
def lengthsSumOfMembersRow : OpenClaim := { program := "ytpfncffapgkjaaadoor", sum := "58306632b763c32b065e177bfdf345cf62aa4c6a3ef79fb3f12d59911d4fd5e4", func := "univocal/univocallaw05.LengthsSumOfMembers", spec := "lengthsSumOfMembers", unfollowed := true, recurses := true, named := ["math/bits.deBruijn64tab"], apart := false, laid := [("math/bits.deBruijn64tab", laid_math_bits_deBruijn64tab)] }
def LengthsSumOfMembersSaid : Prop := lengthsSumOfMembersRow.holds Tryd.pinned (OpenSpec.ofChange lengthsSumOfMembersSpec)

/-- ITS FALSE NEIGHBOUR: 'it returns false'. Refute it at one input. -/
def lengthsSumOfMembersWrong : ChangeSpec := { name := "lengthsSumOfMembers", fn := fun _ => fun
  | [d1, d2, d3] => { results := [.lit (.bool false)], args := [d1, d2, d3] }
  | _ => none }
def LengthsSumOfMembersWrongFalsely : Prop := lengthsSumOfMembersRow.holds Tryd.pinned (OpenSpec.ofChange lengthsSumOfMembersWrong)

/-- 'univocallaw05.LengthsAssociative': WHATEVER THE INPUT: true; the input reads as it did. -/
def lengthsAssociativeSpec : ChangeSpec := { name := "lengthsAssociative", fn := fun _ => fun
  | [d1, d2, d3] => { results := [.lit (.bool true)], args := [d1, d2, d3] }
  | _ => none }
def lengthsAssociativeRow : OpenClaim := { program := "ytpfncffapgkjaaadoor", sum := "58306632b763c32b065e177bfdf345cf62aa4c6a3ef79fb3f12d59911d4fd5e4", func := "univocal/univocallaw05.LengthsAssociative", spec := "lengthsAssociative", unfollowed := true, recurses := true, named := ["math/bits.deBruijn64tab"], apart := false, laid := [("math/bits.deBruijn64tab", laid_math_bits_deBruijn64tab)] }
def LengthsAssociativeSaid : Prop := lengthsAssociativeRow.holds Tryd.pinned (OpenSpec.ofChange lengthsAssociativeSpec)

/-- ITS FALSE NEIGHBOUR: 'it returns false'. Refute it at one input. -/
def lengthsAssociativeWrong : ChangeSpec := { name := "lengthsAssociative", fn := fun _ => fun
  | [d1, d2, d3] => { results := [.lit (.bool false)], args := [d1, d2, d3] }
  | _ => none }
def LengthsAssociativeWrongFalsely : Prop := lengthsAssociativeRow.holds Tryd.pinned (OpenSpec.ofChange lengthsAssociativeWrong)

/-- 'univocallaw05.LengthsOfWords': WHATEVER THE INPUT: true; the input reads as it did. -/
def lengthsOfWordsSpec : ChangeSpec := { name := "lengthsOfWords", fn := fun _ => fun
  | [d1, d2] => { results := [.lit (.bool true)], args := [d1, d2] }
  | _ => none }
def lengthsOfWordsRow : OpenClaim := { program := "ytpfncffapgkjaaadoor", sum := "58306632b763c32b065e177bfdf345cf62aa4c6a3ef79fb3f12d59911d4fd5e4", func := "univocal/univocallaw05.LengthsOfWords", spec := "lengthsOfWords", unfollowed := true, recurses := true, named := ["math/bits.deBruijn64tab"], apart := false, laid := [("math/bits.deBruijn64tab", laid_math_bits_deBruijn64tab)] }
def LengthsOfWordsSaid : Prop := lengthsOfWordsRow.holds Tryd.pinned (OpenSpec.ofChange lengthsOfWordsSpec)

/-- ITS FALSE NEIGHBOUR: 'it returns false'. Refute it at one input. -/
def lengthsOfWordsWrong : ChangeSpec := { name := "lengthsOfWords", fn := fun _ => fun
  | [d1, d2] => { results := [.lit (.bool false)], args := [d1, d2] }
  | _ => none }
def LengthsOfWordsWrongFalsely : Prop := lengthsOfWordsRow.holds Tryd.pinned (OpenSpec.ofChange lengthsOfWordsWrong)

/-- 'univocallaw05.LengthsLeastMember': WHATEVER THE INPUT: true; the input reads as it did. -/
def lengthsLeastMemberSpec : ChangeSpec := { name := "lengthsLeastMember", fn := fun _ => fun
  | [d1, d2] => { results := [.lit (.bool true)], args := [d1, d2] }
  | _ => none }
def lengthsLeastMemberRow : OpenClaim := { program := "ytpfncffapgkjaaadoor", sum := "58306632b763c32b065e177bfdf345cf62aa4c6a3ef79fb3f12d59911d4fd5e4", func := "univocal/univocallaw05.LengthsLeastMember", spec := "lengthsLeastMember", unfollowed := true, recurses := true, named := ["math/bits.deBruijn64tab"], apart := false, laid := [("math/bits.deBruijn64tab", laid_math_bits_deBruijn64tab)] }
def LengthsLeastMemberSaid : Prop := lengthsLeastMemberRow.holds Tryd.pinned (OpenSpec.ofChange lengthsLeastMemberSpec)

/-- ITS FALSE NEIGHBOUR: 'it returns false'. Refute it at one input. -/
def lengthsLeastMemberWrong : ChangeSpec := { name := "lengthsLeastMember", fn := fun _ => fun
  | [d1, d2] => { results := [.lit (.bool false)], args := [d1, d2] }
  | _ => none }
def LengthsLeastMemberWrongFalsely : Prop := lengthsLeastMemberRow.holds Tryd.pinned (OpenSpec.ofChange lengthsLeastMemberWrong)

/-- 'univocallaw05.LengthsRejectsInvalid': WHATEVER THE INPUT: true; the input reads as it did. -/
def lengthsRejectsInvalidSpec : ChangeSpec := { name := "lengthsRejectsInvalid", fn := fun _ => fun
  | [d1, d2, d3] => { results := [.lit (.bool true)], args := [d1, d2, d3] }
  | _ => none }
def lengthsRejectsInvalidRow : OpenClaim := { program := "ytpfncffapgkjaaadoor", sum := "58306632b763c32b065e177bfdf345cf62aa4c6a3ef79fb3f12d59911d4fd5e4", func := "univocal/univocallaw05.LengthsRejectsInvalid", spec := "lengthsRejectsInvalid", unfollowed := true, recurses := true, named := ["math/bits.deBruijn64tab"], apart := false, laid := [("math/bits.deBruijn64tab", laid_math_bits_deBruijn64tab)] }
def LengthsRejectsInvalidSaid : Prop := lengthsRejectsInvalidRow.holds Tryd.pinned (OpenSpec.ofChange lengthsRejectsInvalidSpec)

/-- ITS FALSE NEIGHBOUR: 'it returns false'. Refute it at one input. -/
def lengthsRejectsInvalidWrong : ChangeSpec := { name := "lengthsRejectsInvalid", fn := fun _ => fun
  | [d1, d2, d3] => { results := [.lit (.bool false)], args := [d1, d2, d3] }
  | _ => none }
def LengthsRejectsInvalidWrongFalsely : Prop := lengthsRejectsInvalidRow.holds Tryd.pinned (OpenSpec.ofChange lengthsRejectsInvalidWrong)

/- THE SECOND FORM. 'bulk': how many values and letters a reading holds, each counted each time it is reached (what is shared counts as often as it is met; a slice's spare places count too). A statement '..UptoSaid' is the law's where the arguments, and the package variables that the reading takes, are together of bulk at most 1048576: NARROWER than '..Said'. Prove '..Said' where nothing that the law and all that it calls make is longer than what came in: it says more and counts as full. Else prove '..UptoSaid'. A law counts once. -/
mutual
def uptoBulk {H : Type} : DataW H → Nat
  | .lit (.string bytes) => bytes.length + 1
  | .lit _ => 1
  | .nil => 1
  | .ptr d => uptoBulk d + 1
  | .slice elems spare => uptoBulkAll elems + uptoBulkAll spare + 1
  | .agg parts => uptoBulkAll parts + 1
  | .iface _ d => uptoBulk d + 1
  | .map entries => uptoBulkEntries entries + 1
  | .held _ => 1
def uptoBulkAll {H : Type} : List (DataW H) → Nat
  | [] => 0
  | d :: r => uptoBulk d + uptoBulkAll r
def uptoBulkEntries {H : Type} : List (Lit × DataW H) → Nat
  | [] => 0
  | x :: r => uptoBulkEntry x + uptoBulkEntries r
def uptoBulkEntry {H : Type} : Lit × DataW H → Nat
  | (.string bytes, d) => bytes.length + uptoBulk d + 1
  | (_, d) => uptoBulk d + 1
 end
def uptoSmall : (H : Type) → List (DataW H) → Bool := fun _ ds => decide (uptoBulkAll ds ≤ 1048576)
def OpenSpec.upto (s : _root_.Go.ChangeSpec) : _root_.Go.OpenSpec := { _root_.Go.OpenSpec.ofChange s with cond := some uptoSmall }

/-- 'univocallaw05.LengthsMatchesReference', WHERE WHAT IT READS IS OF BULK AT MOST 1048576: true; the input reads as it did. -/
def lengthsMatchesReferenceUptoRow : OpenClaim := { program := "ytpfncffapgkjaaadoor", sum := "58306632b763c32b065e177bfdf345cf62aa4c6a3ef79fb3f12d59911d4fd5e4", func := "univocal/univocallaw05.LengthsMatchesReference", spec := "lengthsMatchesReference", unfollowed := true, recurses := true, named := ["math/bits.deBruijn64tab"], apart := false, laid := [("math/bits.deBruijn64tab", laid_math_bits_deBruijn64tab)], narrowed := true }
def LengthsMatchesReferenceUptoSaid : Prop := lengthsMatchesReferenceUptoRow.holds Tryd.pinned (OpenSpec.upto lengthsMatchesReferenceSpec)

/-- 'univocallaw05.LengthsOfMatchesReference', WHERE WHAT IT READS IS OF BULK AT MOST 1048576: true; the input reads as it did. -/
def lengthsOfMatchesReferenceUptoRow : OpenClaim := { program := "ytpfncffapgkjaaadoor", sum := "58306632b763c32b065e177bfdf345cf62aa4c6a3ef79fb3f12d59911d4fd5e4", func := "univocal/univocallaw05.LengthsOfMatchesReference", spec := "lengthsOfMatchesReference", unfollowed := true, recurses := true, named := ["math/bits.deBruijn64tab"], apart := false, laid := [("math/bits.deBruijn64tab", laid_math_bits_deBruijn64tab)], narrowed := true }
def LengthsOfMatchesReferenceUptoSaid : Prop := lengthsOfMatchesReferenceUptoRow.holds Tryd.pinned (OpenSpec.upto lengthsOfMatchesReferenceSpec)

/-- 'univocallaw05.LengthsCanonDecidesEquality', WHERE WHAT IT READS IS OF BULK AT MOST 1048576: true; the input reads as it did. -/
def lengthsCanonDecidesEqualityUptoRow : OpenClaim := { program := "ytpfncffapgkjaaadoor", sum := "58306632b763c32b065e177bfdf345cf62aa4c6a3ef79fb3f12d59911d4fd5e4", func := "univocal/univocallaw05.LengthsCanonDecidesEquality", spec := "lengthsCanonDecidesEquality", unfollowed := true, recurses := true, named := ["math/bits.deBruijn64tab"], apart := false, laid := [("math/bits.deBruijn64tab", laid_math_bits_deBruijn64tab)], narrowed := true }
def LengthsCanonDecidesEqualityUptoSaid : Prop := lengthsCanonDecidesEqualityUptoRow.holds Tryd.pinned (OpenSpec.upto lengthsCanonDecidesEqualitySpec)

/-- 'univocallaw05.LengthsSetOperations', WHERE WHAT IT READS IS OF BULK AT MOST 1048576: true; the input reads as it did. -/
def lengthsSetOperationsUptoRow : OpenClaim := { program := "ytpfncffapgkjaaadoor", sum := "58306632b763c32b065e177bfdf345cf62aa4c6a3ef79fb3f12d59911d4fd5e4", func := "univocal/univocallaw05.LengthsSetOperations", spec := "lengthsSetOperations", unfollowed := true, recurses := true, named := ["math/bits.deBruijn64tab"], apart := false, laid := [("math/bits.deBruijn64tab", laid_math_bits_deBruijn64tab)], narrowed := true }
def LengthsSetOperationsUptoSaid : Prop := lengthsSetOperationsUptoRow.holds Tryd.pinned (OpenSpec.upto lengthsSetOperationsSpec)

/-- 'univocallaw05.LengthsSumOfMembers', WHERE WHAT IT READS IS OF BULK AT MOST 1048576: true; the input reads as it did. -/
def lengthsSumOfMembersUptoRow : OpenClaim := { program := "ytpfncffapgkjaaadoor", sum := "58306632b763c32b065e177bfdf345cf62aa4c6a3ef79fb3f12d59911d4fd5e4", func := "univocal/univocallaw05.LengthsSumOfMembers", spec := "lengthsSumOfMembers", unfollowed := true, recurses := true, named := ["math/bits.deBruijn64tab"], apart := false, laid := [("math/bits.deBruijn64tab", laid_math_bits_deBruijn64tab)], narrowed := true }
def LengthsSumOfMembersUptoSaid : Prop := lengthsSumOfMembersUptoRow.holds Tryd.pinned (OpenSpec.upto lengthsSumOfMembersSpec)

/-- 'univocallaw05.LengthsAssociative', WHERE WHAT IT READS IS OF BULK AT MOST 1048576: true; the input reads as it did. -/
def lengthsAssociativeUptoRow : OpenClaim := { program := "ytpfncffapgkjaaadoor", sum := "58306632b763c32b065e177bfdf345cf62aa4c6a3ef79fb3f12d59911d4fd5e4", func := "univocal/univocallaw05.LengthsAssociative", spec := "lengthsAssociative", unfollowed := true, recurses := true, named := ["math/bits.deBruijn64tab"], apart := false, laid := [("math/bits.deBruijn64tab", laid_math_bits_deBruijn64tab)], narrowed := true }
def LengthsAssociativeUptoSaid : Prop := lengthsAssociativeUptoRow.holds Tryd.pinned (OpenSpec.upto lengthsAssociativeSpec)

/-- 'univocallaw05.LengthsOfWords', WHERE WHAT IT READS IS OF BULK AT MOST 1048576: true; the input reads as it did. -/
def lengthsOfWordsUptoRow : OpenClaim := { program := "ytpfncffapgkjaaadoor", sum := "58306632b763c32b065e177bfdf345cf62aa4c6a3ef79fb3f12d59911d4fd5e4", func := "univocal/univocallaw05.LengthsOfWords", spec := "lengthsOfWords", unfollowed := true, recurses := true, named := ["math/bits.deBruijn64tab"], apart := false, laid := [("math/bits.deBruijn64tab", laid_math_bits_deBruijn64tab)], narrowed := true }
def LengthsOfWordsUptoSaid : Prop := lengthsOfWordsUptoRow.holds Tryd.pinned (OpenSpec.upto lengthsOfWordsSpec)

/-- 'univocallaw05.LengthsLeastMember', WHERE WHAT IT READS IS OF BULK AT MOST 1048576: true; the input reads as it did. -/
def lengthsLeastMemberUptoRow : OpenClaim := { program := "ytpfncffapgkjaaadoor", sum := "58306632b763c32b065e177bfdf345cf62aa4c6a3ef79fb3f12d59911d4fd5e4", func := "univocal/univocallaw05.LengthsLeastMember", spec := "lengthsLeastMember", unfollowed := true, recurses := true, named := ["math/bits.deBruijn64tab"], apart := false, laid := [("math/bits.deBruijn64tab", laid_math_bits_deBruijn64tab)], narrowed := true }
def LengthsLeastMemberUptoSaid : Prop := lengthsLeastMemberUptoRow.holds Tryd.pinned (OpenSpec.upto lengthsLeastMemberSpec)

/-- 'univocallaw05.LengthsRejectsInvalid', WHERE WHAT IT READS IS OF BULK AT MOST 1048576: true; the input reads as it did. -/
def lengthsRejectsInvalidUptoRow : OpenClaim := { program := "ytpfncffapgkjaaadoor", sum := "58306632b763c32b065e177bfdf345cf62aa4c6a3ef79fb3f12d59911d4fd5e4", func := "univocal/univocallaw05.LengthsRejectsInvalid", spec := "lengthsRejectsInvalid", unfollowed := true, recurses := true, named := ["math/bits.deBruijn64tab"], apart := false, laid := [("math/bits.deBruijn64tab", laid_math_bits_deBruijn64tab)], narrowed := true }
def LengthsRejectsInvalidUptoSaid : Prop := lengthsRejectsInvalidUptoRow.holds Tryd.pinned (OpenSpec.upto lengthsRejectsInvalidSpec)

end Rows
end Go.Proofs.YtpfncffapgkjaaaDoor
