/-
  DERIVED. GIVEN WITH THE SEED: THE CARDS: each row of YtnhmglhbhnhnhaaDoorRows.lean that lists a variable, with what it lists TIED to the program's text (the seventh form; the later family's looks); each row that meets fmt, with fmt's text TOLD by the authors' own Lean function (tested against real Go, not proved from fmt's source: count such statements apart). THE CARD IS WHAT COUNTS. Prove the row's statement (the work); the ties are given (YtnhmglhbhnhnhaaDoorTie.lean); close each card by the builder's one call (the guide's Derived/Test/ToyasCard.lean, 'card_holds'). Laid BY PROGRAM, IN A SANDBOX (cutbox-door.mjs). By AI agents, Wed Nov 11 2026. No macro, syntax, notation, axiom, sorry.
-/
import Derived.Test.YtnhmglhbhnhnhaaDoorRows
import GoSem.ClaimSeven
namespace Go.Proofs.YtnhmglhbhnhnhaaDoor
namespace Rows

/-- THE TIED CARD OF 'univocallaw29.StoreMatchesReference'. -/
def storeMatchesReferenceCard : Claim7 := { stood := { row := storeMatchesReferenceRow, standIns := [], harness := (true, "c546a11883056c285c55a9e65bc13f1f282decfabd3e50a8df67fa423f354f07"), looks := false }, kinds := [], alts := [], laidByText := true, laidKinds := [.data], laidTests := true, laidLooks := .later }
def StoreMatchesReferenceCardSaid : Prop := Claim7.holds Tryd.pinned (.plain (OpenSpec.ofChange storeMatchesReferenceSpec)) storeMatchesReferenceCard

/-- THE TIED CARD OF 'univocallaw29.StoreRawMatchesReference'. -/
def storeRawMatchesReferenceCard : Claim7 := { stood := { row := storeRawMatchesReferenceRow, standIns := [], harness := (true, "c546a11883056c285c55a9e65bc13f1f282decfabd3e50a8df67fa423f354f07"), looks := false }, kinds := [], alts := [], laidByText := true, laidKinds := [.data], laidTests := true, laidLooks := .later }
def StoreRawMatchesReferenceCardSaid : Prop := Claim7.holds Tryd.pinned (.plain (OpenSpec.ofChange storeRawMatchesReferenceSpec)) storeRawMatchesReferenceCard

/-- THE TIED CARD OF 'univocallaw29.StoreReads'. -/
def storeReadsCard : Claim7 := { stood := { row := storeReadsRow, standIns := [], harness := (true, "c546a11883056c285c55a9e65bc13f1f282decfabd3e50a8df67fa423f354f07"), looks := false }, kinds := [], alts := [], laidByText := true, laidKinds := [.data], laidTests := true, laidLooks := .later }
def StoreReadsCardSaid : Prop := Claim7.holds Tryd.pinned (.plain (OpenSpec.ofChange storeReadsSpec)) storeReadsCard

/-- THE TIED CARD OF 'univocallaw29.StoreCrashes'. -/
def storeCrashesCard : Claim7 := { stood := { row := storeCrashesRow, standIns := [], harness := (true, "c546a11883056c285c55a9e65bc13f1f282decfabd3e50a8df67fa423f354f07"), looks := false }, kinds := [], alts := [], laidByText := true, laidKinds := [.data], laidTests := true, laidLooks := .later }
def StoreCrashesCardSaid : Prop := Claim7.holds Tryd.pinned (.plain (OpenSpec.ofChange storeCrashesSpec)) storeCrashesCard

/-- THE TIED CARD OF 'univocallaw29.StoreRepairs'. -/
def storeRepairsCard : Claim7 := { stood := { row := storeRepairsRow, standIns := [], harness := (true, "c546a11883056c285c55a9e65bc13f1f282decfabd3e50a8df67fa423f354f07"), looks := false }, kinds := [], alts := [], laidByText := true, laidKinds := [.data], laidTests := true, laidLooks := .later }
def StoreRepairsCardSaid : Prop := Claim7.holds Tryd.pinned (.plain (OpenSpec.ofChange storeRepairsSpec)) storeRepairsCard

/-- THE TIED CARD OF 'univocallaw29.StoreSecrets'. -/
def storeSecretsCard : Claim7 := { stood := { row := storeSecretsRow, standIns := [], harness := (true, "c546a11883056c285c55a9e65bc13f1f282decfabd3e50a8df67fa423f354f07"), looks := false }, kinds := [], alts := [], laidByText := true, laidKinds := [.data], laidTests := true, laidLooks := .later }
def StoreSecretsCardSaid : Prop := Claim7.holds Tryd.pinned (.plain (OpenSpec.ofChange storeSecretsSpec)) storeSecretsCard

/-- THE TIED CARD OF 'univocallaw29.StoreAppends'. -/
def storeAppendsCard : Claim7 := { stood := { row := storeAppendsRow, standIns := [], harness := (true, "c546a11883056c285c55a9e65bc13f1f282decfabd3e50a8df67fa423f354f07"), looks := false }, kinds := [], alts := [], laidByText := true, laidKinds := [.data], laidTests := true, laidLooks := .later }
def StoreAppendsCardSaid : Prop := Claim7.holds Tryd.pinned (.plain (OpenSpec.ofChange storeAppendsSpec)) storeAppendsCard

/-- THE SECOND FORM's CARD OF 'univocallaw29.StoreMatchesReference'. -/
def storeMatchesReferenceUptoCard : Claim7 := { stood := { row := storeMatchesReferenceUptoRow, standIns := [], harness := (true, "c546a11883056c285c55a9e65bc13f1f282decfabd3e50a8df67fa423f354f07"), looks := false }, kinds := [], alts := [], laidByText := true, laidKinds := [.data], laidTests := true, laidLooks := .later }
def StoreMatchesReferenceUptoCardSaid : Prop := Claim7.holds Tryd.pinned (.plain (OpenSpec.upto storeMatchesReferenceSpec)) storeMatchesReferenceUptoCard

/-- THE SECOND FORM's CARD OF 'univocallaw29.StoreRawMatchesReference'. -/
def storeRawMatchesReferenceUptoCard : Claim7 := { stood := { row := storeRawMatchesReferenceUptoRow, standIns := [], harness := (true, "c546a11883056c285c55a9e65bc13f1f282decfabd3e50a8df67fa423f354f07"), looks := false }, kinds := [], alts := [], laidByText := true, laidKinds := [.data], laidTests := true, laidLooks := .later }
def StoreRawMatchesReferenceUptoCardSaid : Prop := Claim7.holds Tryd.pinned (.plain (OpenSpec.upto storeRawMatchesReferenceSpec)) storeRawMatchesReferenceUptoCard

/-- THE SECOND FORM's CARD OF 'univocallaw29.StoreReads'. -/
def storeReadsUptoCard : Claim7 := { stood := { row := storeReadsUptoRow, standIns := [], harness := (true, "c546a11883056c285c55a9e65bc13f1f282decfabd3e50a8df67fa423f354f07"), looks := false }, kinds := [], alts := [], laidByText := true, laidKinds := [.data], laidTests := true, laidLooks := .later }
def StoreReadsUptoCardSaid : Prop := Claim7.holds Tryd.pinned (.plain (OpenSpec.upto storeReadsSpec)) storeReadsUptoCard

/-- THE SECOND FORM's CARD OF 'univocallaw29.StoreCrashes'. -/
def storeCrashesUptoCard : Claim7 := { stood := { row := storeCrashesUptoRow, standIns := [], harness := (true, "c546a11883056c285c55a9e65bc13f1f282decfabd3e50a8df67fa423f354f07"), looks := false }, kinds := [], alts := [], laidByText := true, laidKinds := [.data], laidTests := true, laidLooks := .later }
def StoreCrashesUptoCardSaid : Prop := Claim7.holds Tryd.pinned (.plain (OpenSpec.upto storeCrashesSpec)) storeCrashesUptoCard

/-- THE SECOND FORM's CARD OF 'univocallaw29.StoreRepairs'. -/
def storeRepairsUptoCard : Claim7 := { stood := { row := storeRepairsUptoRow, standIns := [], harness := (true, "c546a11883056c285c55a9e65bc13f1f282decfabd3e50a8df67fa423f354f07"), looks := false }, kinds := [], alts := [], laidByText := true, laidKinds := [.data], laidTests := true, laidLooks := .later }
def StoreRepairsUptoCardSaid : Prop := Claim7.holds Tryd.pinned (.plain (OpenSpec.upto storeRepairsSpec)) storeRepairsUptoCard

/-- THE SECOND FORM's CARD OF 'univocallaw29.StoreSecrets'. -/
def storeSecretsUptoCard : Claim7 := { stood := { row := storeSecretsUptoRow, standIns := [], harness := (true, "c546a11883056c285c55a9e65bc13f1f282decfabd3e50a8df67fa423f354f07"), looks := false }, kinds := [], alts := [], laidByText := true, laidKinds := [.data], laidTests := true, laidLooks := .later }
def StoreSecretsUptoCardSaid : Prop := Claim7.holds Tryd.pinned (.plain (OpenSpec.upto storeSecretsSpec)) storeSecretsUptoCard

/-- THE SECOND FORM's CARD OF 'univocallaw29.StoreAppends'. -/
def storeAppendsUptoCard : Claim7 := { stood := { row := storeAppendsUptoRow, standIns := [], harness := (true, "c546a11883056c285c55a9e65bc13f1f282decfabd3e50a8df67fa423f354f07"), looks := false }, kinds := [], alts := [], laidByText := true, laidKinds := [.data], laidTests := true, laidLooks := .later }
def StoreAppendsUptoCardSaid : Prop := Claim7.holds Tryd.pinned (.plain (OpenSpec.upto storeAppendsSpec)) storeAppendsUptoCard
end Rows
end Go.Proofs.YtnhmglhbhnhnhaaDoor
