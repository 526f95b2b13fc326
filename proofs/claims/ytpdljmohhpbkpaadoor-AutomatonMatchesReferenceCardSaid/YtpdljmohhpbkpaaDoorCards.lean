/-
  DERIVED. GIVEN WITH THE SEED: THE CARDS: each row of YtpdljmohhpbkpaaDoorRows.lean that lists a variable, with what it lists TIED to the program's text (the seventh form; the later family's looks); each row that meets fmt, with fmt's text TOLD by the authors' own Lean function (tested against real Go, not proved from fmt's source: count such statements apart). THE CARD IS WHAT COUNTS. Prove the row's statement (the work); the ties are given (YtpdljmohhpbkpaaDoorTie.lean); close each card by the builder's one call (the guide's Derived/Test/ToyasCard.lean, 'card_holds'). Laid BY PROGRAM, IN A SANDBOX (cutbox-door.mjs). By AI agents, Wed Nov 11 2026. No macro, syntax, notation, axiom, sorry.
-/
import Derived.Test.YtpdljmohhpbkpaaDoorRows
import GoSem.ClaimSeven
namespace Go.Proofs.YtpdljmohhpbkpaaDoor
namespace Rows

/-- THE TIED CARD OF 'univocallaw03.AutomatonMatchesReference'. -/
def automatonMatchesReferenceCard : Claim7 := { stood := { row := automatonMatchesReferenceRow, standIns := [], harness := (true, "a124d293ec31c03cb7c47bfa8d040b93bd105979ac2afeb352d1d6995cba5be5"), looks := false }, kinds := [], alts := [], laidByText := true, laidKinds := [.data], laidTests := true, laidLooks := .later }
def AutomatonMatchesReferenceCardSaid : Prop := Claim7.holds Tryd.pinned (.plain (OpenSpec.ofChange automatonMatchesReferenceSpec)) automatonMatchesReferenceCard

/-- THE SECOND FORM's CARD OF 'univocallaw03.AutomatonMatchesReference'. -/
def automatonMatchesReferenceUptoCard : Claim7 := { stood := { row := automatonMatchesReferenceUptoRow, standIns := [], harness := (true, "a124d293ec31c03cb7c47bfa8d040b93bd105979ac2afeb352d1d6995cba5be5"), looks := false }, kinds := [], alts := [], laidByText := true, laidKinds := [.data], laidTests := true, laidLooks := .later }
def AutomatonMatchesReferenceUptoCardSaid : Prop := Claim7.holds Tryd.pinned (.plain (OpenSpec.upto automatonMatchesReferenceSpec)) automatonMatchesReferenceUptoCard
end Rows
end Go.Proofs.YtpdljmohhpbkpaaDoor
