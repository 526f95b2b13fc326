/-
  DERIVED. GIVEN WITH THE SEED: THE CARDS: each row of YtpfncffapgkjaaaDoorRows.lean that lists a variable, with what it lists TIED to the program's text (the seventh form; the later family's looks); each row that meets fmt, with fmt's text TOLD by the authors' own Lean function (tested against real Go, not proved from fmt's source: count such statements apart). THE CARD IS WHAT COUNTS. Prove the row's statement (the work); the ties are given (YtpfncffapgkjaaaDoorTie.lean); close each card by the builder's one call (the guide's Derived/Test/ToyasCard.lean, 'card_holds'). Laid BY PROGRAM, IN A SANDBOX (cutbox-door.mjs). By AI agents, Wed Nov 11 2026. No macro, syntax, notation, axiom, sorry.
-/
import Derived.Test.YtpfncffapgkjaaaDoorRows
import GoSem.ClaimSeven
namespace Go.Proofs.YtpfncffapgkjaaaDoor
namespace Rows

/-- THE TIED CARD OF 'univocallaw05.LengthsMatchesReference'. -/
def lengthsMatchesReferenceCard : Claim7 := { stood := { row := lengthsMatchesReferenceRow, standIns := [], harness := (true, "d7b5f81d5535c9a491269e03ff7f5dc450cf39a82c44e61cbab9a2d2777d4346"), looks := false }, kinds := [], alts := [], laidByText := true, laidKinds := [.data], laidTests := true, laidLooks := .later }
def LengthsMatchesReferenceCardSaid : Prop := Claim7.holds Tryd.pinned (.plain (OpenSpec.ofChange lengthsMatchesReferenceSpec)) lengthsMatchesReferenceCard

/-- THE TIED CARD OF 'univocallaw05.LengthsOfMatchesReference'. -/
def lengthsOfMatchesReferenceCard : Claim7 := { stood := { row := lengthsOfMatchesReferenceRow, standIns := [], harness := (true, "d7b5f81d5535c9a491269e03ff7f5dc450cf39a82c44e61cbab9a2d2777d4346"), looks := false }, kinds := [], alts := [], laidByText := true, laidKinds := [.data], laidTests := true, laidLooks := .later }
def LengthsOfMatchesReferenceCardSaid : Prop := Claim7.holds Tryd.pinned (.plain (OpenSpec.ofChange lengthsOfMatchesReferenceSpec)) lengthsOfMatchesReferenceCard

/-- THE TIED CARD OF 'univocallaw05.LengthsCanonDecidesEquality'. -/
def lengthsCanonDecidesEqualityCard : Claim7 := { stood := { row := lengthsCanonDecidesEqualityRow, standIns := [], harness := (true, "d7b5f81d5535c9a491269e03ff7f5dc450cf39a82c44e61cbab9a2d2777d4346"), looks := false }, kinds := [], alts := [], laidByText := true, laidKinds := [.data], laidTests := true, laidLooks := .later }
def LengthsCanonDecidesEqualityCardSaid : Prop := Claim7.holds Tryd.pinned (.plain (OpenSpec.ofChange lengthsCanonDecidesEqualitySpec)) lengthsCanonDecidesEqualityCard

/-- THE TIED CARD OF 'univocallaw05.LengthsSetOperations'. -/
def lengthsSetOperationsCard : Claim7 := { stood := { row := lengthsSetOperationsRow, standIns := [], harness := (true, "d7b5f81d5535c9a491269e03ff7f5dc450cf39a82c44e61cbab9a2d2777d4346"), looks := false }, kinds := [], alts := [], laidByText := true, laidKinds := [.data], laidTests := true, laidLooks := .later }
def LengthsSetOperationsCardSaid : Prop := Claim7.holds Tryd.pinned (.plain (OpenSpec.ofChange lengthsSetOperationsSpec)) lengthsSetOperationsCard

/-- THE TIED CARD OF 'univocallaw05.LengthsSumOfMembers'. -/
def lengthsSumOfMembersCard : Claim7 := { stood := { row := lengthsSumOfMembersRow, standIns := [], harness := (true, "d7b5f81d5535c9a491269e03ff7f5dc450cf39a82c44e61cbab9a2d2777d4346"), looks := false }, kinds := [], alts := [], laidByText := true, laidKinds := [.data], laidTests := true, laidLooks := .later }
def LengthsSumOfMembersCardSaid : Prop := Claim7.holds Tryd.pinned (.plain (OpenSpec.ofChange lengthsSumOfMembersSpec)) lengthsSumOfMembersCard

/-- THE TIED CARD OF 'univocallaw05.LengthsAssociative'. -/
def lengthsAssociativeCard : Claim7 := { stood := { row := lengthsAssociativeRow, standIns := [], harness := (true, "d7b5f81d5535c9a491269e03ff7f5dc450cf39a82c44e61cbab9a2d2777d4346"), looks := false }, kinds := [], alts := [], laidByText := true, laidKinds := [.data], laidTests := true, laidLooks := .later }
def LengthsAssociativeCardSaid : Prop := Claim7.holds Tryd.pinned (.plain (OpenSpec.ofChange lengthsAssociativeSpec)) lengthsAssociativeCard

/-- THE TIED CARD OF 'univocallaw05.LengthsOfWords'. -/
def lengthsOfWordsCard : Claim7 := { stood := { row := lengthsOfWordsRow, standIns := [], harness := (true, "d7b5f81d5535c9a491269e03ff7f5dc450cf39a82c44e61cbab9a2d2777d4346"), looks := false }, kinds := [], alts := [], laidByText := true, laidKinds := [.data], laidTests := true, laidLooks := .later }
def LengthsOfWordsCardSaid : Prop := Claim7.holds Tryd.pinned (.plain (OpenSpec.ofChange lengthsOfWordsSpec)) lengthsOfWordsCard

/-- THE TIED CARD OF 'univocallaw05.LengthsLeastMember'. -/
def lengthsLeastMemberCard : Claim7 := { stood := { row := lengthsLeastMemberRow, standIns := [], harness := (true, "d7b5f81d5535c9a491269e03ff7f5dc450cf39a82c44e61cbab9a2d2777d4346"), looks := false }, kinds := [], alts := [], laidByText := true, laidKinds := [.data], laidTests := true, laidLooks := .later }
def LengthsLeastMemberCardSaid : Prop := Claim7.holds Tryd.pinned (.plain (OpenSpec.ofChange lengthsLeastMemberSpec)) lengthsLeastMemberCard

/-- THE TIED CARD OF 'univocallaw05.LengthsRejectsInvalid'. -/
def lengthsRejectsInvalidCard : Claim7 := { stood := { row := lengthsRejectsInvalidRow, standIns := [], harness := (true, "d7b5f81d5535c9a491269e03ff7f5dc450cf39a82c44e61cbab9a2d2777d4346"), looks := false }, kinds := [], alts := [], laidByText := true, laidKinds := [.data], laidTests := true, laidLooks := .later }
def LengthsRejectsInvalidCardSaid : Prop := Claim7.holds Tryd.pinned (.plain (OpenSpec.ofChange lengthsRejectsInvalidSpec)) lengthsRejectsInvalidCard

/-- THE SECOND FORM's CARD OF 'univocallaw05.LengthsMatchesReference'. -/
def lengthsMatchesReferenceUptoCard : Claim7 := { stood := { row := lengthsMatchesReferenceUptoRow, standIns := [], harness := (true, "d7b5f81d5535c9a491269e03ff7f5dc450cf39a82c44e61cbab9a2d2777d4346"), looks := false }, kinds := [], alts := [], laidByText := true, laidKinds := [.data], laidTests := true, laidLooks := .later }
def LengthsMatchesReferenceUptoCardSaid : Prop := Claim7.holds Tryd.pinned (.plain (OpenSpec.upto lengthsMatchesReferenceSpec)) lengthsMatchesReferenceUptoCard

/-- THE SECOND FORM's CARD OF 'univocallaw05.LengthsOfMatchesReference'. -/
def lengthsOfMatchesReferenceUptoCard : Claim7 := { stood := { row := lengthsOfMatchesReferenceUptoRow, standIns := [], harness := (true, "d7b5f81d5535c9a491269e03ff7f5dc450cf39a82c44e61cbab9a2d2777d4346"), looks := false }, kinds := [], alts := [], laidByText := true, laidKinds := [.data], laidTests := true, laidLooks := .later }
def LengthsOfMatchesReferenceUptoCardSaid : Prop := Claim7.holds Tryd.pinned (.plain (OpenSpec.upto lengthsOfMatchesReferenceSpec)) lengthsOfMatchesReferenceUptoCard

/-- THE SECOND FORM's CARD OF 'univocallaw05.LengthsCanonDecidesEquality'. -/
def lengthsCanonDecidesEqualityUptoCard : Claim7 := { stood := { row := lengthsCanonDecidesEqualityUptoRow, standIns := [], harness := (true, "d7b5f81d5535c9a491269e03ff7f5dc450cf39a82c44e61cbab9a2d2777d4346"), looks := false }, kinds := [], alts := [], laidByText := true, laidKinds := [.data], laidTests := true, laidLooks := .later }
def LengthsCanonDecidesEqualityUptoCardSaid : Prop := Claim7.holds Tryd.pinned (.plain (OpenSpec.upto lengthsCanonDecidesEqualitySpec)) lengthsCanonDecidesEqualityUptoCard

/-- THE SECOND FORM's CARD OF 'univocallaw05.LengthsSetOperations'. -/
def lengthsSetOperationsUptoCard : Claim7 := { stood := { row := lengthsSetOperationsUptoRow, standIns := [], harness := (true, "d7b5f81d5535c9a491269e03ff7f5dc450cf39a82c44e61cbab9a2d2777d4346"), looks := false }, kinds := [], alts := [], laidByText := true, laidKinds := [.data], laidTests := true, laidLooks := .later }
def LengthsSetOperationsUptoCardSaid : Prop := Claim7.holds Tryd.pinned (.plain (OpenSpec.upto lengthsSetOperationsSpec)) lengthsSetOperationsUptoCard

/-- THE SECOND FORM's CARD OF 'univocallaw05.LengthsSumOfMembers'. -/
def lengthsSumOfMembersUptoCard : Claim7 := { stood := { row := lengthsSumOfMembersUptoRow, standIns := [], harness := (true, "d7b5f81d5535c9a491269e03ff7f5dc450cf39a82c44e61cbab9a2d2777d4346"), looks := false }, kinds := [], alts := [], laidByText := true, laidKinds := [.data], laidTests := true, laidLooks := .later }
def LengthsSumOfMembersUptoCardSaid : Prop := Claim7.holds Tryd.pinned (.plain (OpenSpec.upto lengthsSumOfMembersSpec)) lengthsSumOfMembersUptoCard

/-- THE SECOND FORM's CARD OF 'univocallaw05.LengthsAssociative'. -/
def lengthsAssociativeUptoCard : Claim7 := { stood := { row := lengthsAssociativeUptoRow, standIns := [], harness := (true, "d7b5f81d5535c9a491269e03ff7f5dc450cf39a82c44e61cbab9a2d2777d4346"), looks := false }, kinds := [], alts := [], laidByText := true, laidKinds := [.data], laidTests := true, laidLooks := .later }
def LengthsAssociativeUptoCardSaid : Prop := Claim7.holds Tryd.pinned (.plain (OpenSpec.upto lengthsAssociativeSpec)) lengthsAssociativeUptoCard

/-- THE SECOND FORM's CARD OF 'univocallaw05.LengthsOfWords'. -/
def lengthsOfWordsUptoCard : Claim7 := { stood := { row := lengthsOfWordsUptoRow, standIns := [], harness := (true, "d7b5f81d5535c9a491269e03ff7f5dc450cf39a82c44e61cbab9a2d2777d4346"), looks := false }, kinds := [], alts := [], laidByText := true, laidKinds := [.data], laidTests := true, laidLooks := .later }
def LengthsOfWordsUptoCardSaid : Prop := Claim7.holds Tryd.pinned (.plain (OpenSpec.upto lengthsOfWordsSpec)) lengthsOfWordsUptoCard

/-- THE SECOND FORM's CARD OF 'univocallaw05.LengthsLeastMember'. -/
def lengthsLeastMemberUptoCard : Claim7 := { stood := { row := lengthsLeastMemberUptoRow, standIns := [], harness := (true, "d7b5f81d5535c9a491269e03ff7f5dc450cf39a82c44e61cbab9a2d2777d4346"), looks := false }, kinds := [], alts := [], laidByText := true, laidKinds := [.data], laidTests := true, laidLooks := .later }
def LengthsLeastMemberUptoCardSaid : Prop := Claim7.holds Tryd.pinned (.plain (OpenSpec.upto lengthsLeastMemberSpec)) lengthsLeastMemberUptoCard

/-- THE SECOND FORM's CARD OF 'univocallaw05.LengthsRejectsInvalid'. -/
def lengthsRejectsInvalidUptoCard : Claim7 := { stood := { row := lengthsRejectsInvalidUptoRow, standIns := [], harness := (true, "d7b5f81d5535c9a491269e03ff7f5dc450cf39a82c44e61cbab9a2d2777d4346"), looks := false }, kinds := [], alts := [], laidByText := true, laidKinds := [.data], laidTests := true, laidLooks := .later }
def LengthsRejectsInvalidUptoCardSaid : Prop := Claim7.holds Tryd.pinned (.plain (OpenSpec.upto lengthsRejectsInvalidSpec)) lengthsRejectsInvalidUptoCard
end Rows
end Go.Proofs.YtpfncffapgkjaaaDoor
