/-
  DERIVED. GIVEN WITH THE SEED: THE CARDS: each row of YtdanaehfdbdhdaaDoorRows.lean that lists a variable, with what it lists TIED to the program's text (the seventh form; the later family's looks); each row that meets fmt, with fmt's text TOLD by the authors' own Lean function (tested against real Go, not proved from fmt's source: count such statements apart). THE CARD IS WHAT COUNTS. Prove the row's statement (the work); the ties are given (YtdanaehfdbdhdaaDoorTie.lean); close each card by the builder's one call (the guide's Derived/Test/ToyasCard.lean, 'card_holds'). Laid BY PROGRAM, IN A SANDBOX (cutbox-door.mjs). By AI agents, Wed Nov 11 2026. No macro, syntax, notation, axiom, sorry.
-/
import Derived.Test.YtdanaehfdbdhdaaDoorRows
import GoSem.ClaimSeven
namespace Go.Proofs.YtdanaehfdbdhdaaDoor
namespace Rows

/-- THE TIED CARD OF 'univocallaw27.DigestMatchesReference'. -/
def digestMatchesReferenceCard : Claim7 := { stood := { row := digestMatchesReferenceRow, standIns := [], harness := (true, "1208dbc32b2b9a58f311acdbd67b40c749fdea5999c2f1fea911634136c4ffad"), looks := false }, kinds := [], alts := [], laidByText := true, laidKinds := [.data], laidTests := true, laidLooks := .later }
def DigestMatchesReferenceCardSaid : Prop := Claim7.holds Tryd.pinned (.plain (OpenSpec.ofChange digestMatchesReferenceSpec)) digestMatchesReferenceCard

/-- THE TIED CARD OF 'univocallaw27.DigestLengths'. -/
def digestLengthsCard : Claim7 := { stood := { row := digestLengthsRow, standIns := [], harness := (true, "1208dbc32b2b9a58f311acdbd67b40c749fdea5999c2f1fea911634136c4ffad"), looks := false }, kinds := [], alts := [], laidByText := true, laidKinds := [.data], laidTests := true, laidLooks := .later }
def DigestLengthsCardSaid : Prop := Claim7.holds Tryd.pinned (.plain (OpenSpec.ofChange digestLengthsSpec)) digestLengthsCard

/-- THE TIED CARD OF 'univocallaw27.DigestKeyedIsNested'. -/
def digestKeyedIsNestedCard : Claim7 := { stood := { row := digestKeyedIsNestedRow, standIns := [], harness := (true, "1208dbc32b2b9a58f311acdbd67b40c749fdea5999c2f1fea911634136c4ffad"), looks := false }, kinds := [], alts := [], laidByText := true, laidKinds := [.data], laidTests := true, laidLooks := .later }
def DigestKeyedIsNestedCardSaid : Prop := Claim7.holds Tryd.pinned (.plain (OpenSpec.ofChange digestKeyedIsNestedSpec)) digestKeyedIsNestedCard

/-- THE TIED CARD OF 'univocallaw27.DigestFieldsAreInjective'. -/
def digestFieldsAreInjectiveCard : Claim7 := { stood := { row := digestFieldsAreInjectiveRow, standIns := [], harness := (true, "1208dbc32b2b9a58f311acdbd67b40c749fdea5999c2f1fea911634136c4ffad"), looks := false }, kinds := [], alts := [], laidByText := true, laidKinds := [.data], laidTests := true, laidLooks := .later }
def DigestFieldsAreInjectiveCardSaid : Prop := Claim7.holds Tryd.pinned (.plain (OpenSpec.ofChange digestFieldsAreInjectiveSpec)) digestFieldsAreInjectiveCard

/-- THE TIED CARD OF 'univocallaw27.DigestSplits'. -/
def digestSplitsCard : Claim7 := { stood := { row := digestSplitsRow, standIns := [], harness := (true, "1208dbc32b2b9a58f311acdbd67b40c749fdea5999c2f1fea911634136c4ffad"), looks := false }, kinds := [], alts := [], laidByText := true, laidKinds := [.data], laidTests := true, laidLooks := .later }
def DigestSplitsCardSaid : Prop := Claim7.holds Tryd.pinned (.plain (OpenSpec.ofChange digestSplitsSpec)) digestSplitsCard

/-- THE TIED CARD OF 'univocallaw27.DigestHexIsInvertible'. -/
def digestHexIsInvertibleCard : Claim7 := { stood := { row := digestHexIsInvertibleRow, standIns := [], harness := (true, "1208dbc32b2b9a58f311acdbd67b40c749fdea5999c2f1fea911634136c4ffad"), looks := false }, kinds := [], alts := [], laidByText := true, laidKinds := [.data], laidTests := true, laidLooks := .later }
def DigestHexIsInvertibleCardSaid : Prop := Claim7.holds Tryd.pinned (.plain (OpenSpec.ofChange digestHexIsInvertibleSpec)) digestHexIsInvertibleCard

/-- THE TIED CARD OF 'univocallaw27.DigestChanges'. -/
def digestChangesCard : Claim7 := { stood := { row := digestChangesRow, standIns := [], harness := (true, "1208dbc32b2b9a58f311acdbd67b40c749fdea5999c2f1fea911634136c4ffad"), looks := false }, kinds := [], alts := [], laidByText := true, laidKinds := [.data], laidTests := true, laidLooks := .later }
def DigestChangesCardSaid : Prop := Claim7.holds Tryd.pinned (.plain (OpenSpec.ofChange digestChangesSpec)) digestChangesCard

/-- THE TIED CARD OF 'univocallaw27.DigestPurity'. -/
def digestPurityCard : Claim7 := { stood := { row := digestPurityRow, standIns := [], harness := (true, "1208dbc32b2b9a58f311acdbd67b40c749fdea5999c2f1fea911634136c4ffad"), looks := false }, kinds := [], alts := [], laidByText := true, laidKinds := [.data], laidTests := true, laidLooks := .later }
def DigestPurityCardSaid : Prop := Claim7.holds Tryd.pinned (.plain (OpenSpec.ofChange digestPuritySpec)) digestPurityCard

/-- THE SECOND FORM's CARD OF 'univocallaw27.DigestMatchesReference'. -/
def digestMatchesReferenceUptoCard : Claim7 := { stood := { row := digestMatchesReferenceUptoRow, standIns := [], harness := (true, "1208dbc32b2b9a58f311acdbd67b40c749fdea5999c2f1fea911634136c4ffad"), looks := false }, kinds := [], alts := [], laidByText := true, laidKinds := [.data], laidTests := true, laidLooks := .later }
def DigestMatchesReferenceUptoCardSaid : Prop := Claim7.holds Tryd.pinned (.plain (OpenSpec.upto digestMatchesReferenceSpec)) digestMatchesReferenceUptoCard

/-- THE SECOND FORM's CARD OF 'univocallaw27.DigestLengths'. -/
def digestLengthsUptoCard : Claim7 := { stood := { row := digestLengthsUptoRow, standIns := [], harness := (true, "1208dbc32b2b9a58f311acdbd67b40c749fdea5999c2f1fea911634136c4ffad"), looks := false }, kinds := [], alts := [], laidByText := true, laidKinds := [.data], laidTests := true, laidLooks := .later }
def DigestLengthsUptoCardSaid : Prop := Claim7.holds Tryd.pinned (.plain (OpenSpec.upto digestLengthsSpec)) digestLengthsUptoCard

/-- THE SECOND FORM's CARD OF 'univocallaw27.DigestKeyedIsNested'. -/
def digestKeyedIsNestedUptoCard : Claim7 := { stood := { row := digestKeyedIsNestedUptoRow, standIns := [], harness := (true, "1208dbc32b2b9a58f311acdbd67b40c749fdea5999c2f1fea911634136c4ffad"), looks := false }, kinds := [], alts := [], laidByText := true, laidKinds := [.data], laidTests := true, laidLooks := .later }
def DigestKeyedIsNestedUptoCardSaid : Prop := Claim7.holds Tryd.pinned (.plain (OpenSpec.upto digestKeyedIsNestedSpec)) digestKeyedIsNestedUptoCard

/-- THE SECOND FORM's CARD OF 'univocallaw27.DigestFieldsAreInjective'. -/
def digestFieldsAreInjectiveUptoCard : Claim7 := { stood := { row := digestFieldsAreInjectiveUptoRow, standIns := [], harness := (true, "1208dbc32b2b9a58f311acdbd67b40c749fdea5999c2f1fea911634136c4ffad"), looks := false }, kinds := [], alts := [], laidByText := true, laidKinds := [.data], laidTests := true, laidLooks := .later }
def DigestFieldsAreInjectiveUptoCardSaid : Prop := Claim7.holds Tryd.pinned (.plain (OpenSpec.upto digestFieldsAreInjectiveSpec)) digestFieldsAreInjectiveUptoCard

/-- THE SECOND FORM's CARD OF 'univocallaw27.DigestSplits'. -/
def digestSplitsUptoCard : Claim7 := { stood := { row := digestSplitsUptoRow, standIns := [], harness := (true, "1208dbc32b2b9a58f311acdbd67b40c749fdea5999c2f1fea911634136c4ffad"), looks := false }, kinds := [], alts := [], laidByText := true, laidKinds := [.data], laidTests := true, laidLooks := .later }
def DigestSplitsUptoCardSaid : Prop := Claim7.holds Tryd.pinned (.plain (OpenSpec.upto digestSplitsSpec)) digestSplitsUptoCard

/-- THE SECOND FORM's CARD OF 'univocallaw27.DigestHexIsInvertible'. -/
def digestHexIsInvertibleUptoCard : Claim7 := { stood := { row := digestHexIsInvertibleUptoRow, standIns := [], harness := (true, "1208dbc32b2b9a58f311acdbd67b40c749fdea5999c2f1fea911634136c4ffad"), looks := false }, kinds := [], alts := [], laidByText := true, laidKinds := [.data], laidTests := true, laidLooks := .later }
def DigestHexIsInvertibleUptoCardSaid : Prop := Claim7.holds Tryd.pinned (.plain (OpenSpec.upto digestHexIsInvertibleSpec)) digestHexIsInvertibleUptoCard

/-- THE SECOND FORM's CARD OF 'univocallaw27.DigestChanges'. -/
def digestChangesUptoCard : Claim7 := { stood := { row := digestChangesUptoRow, standIns := [], harness := (true, "1208dbc32b2b9a58f311acdbd67b40c749fdea5999c2f1fea911634136c4ffad"), looks := false }, kinds := [], alts := [], laidByText := true, laidKinds := [.data], laidTests := true, laidLooks := .later }
def DigestChangesUptoCardSaid : Prop := Claim7.holds Tryd.pinned (.plain (OpenSpec.upto digestChangesSpec)) digestChangesUptoCard

/-- THE SECOND FORM's CARD OF 'univocallaw27.DigestPurity'. -/
def digestPurityUptoCard : Claim7 := { stood := { row := digestPurityUptoRow, standIns := [], harness := (true, "1208dbc32b2b9a58f311acdbd67b40c749fdea5999c2f1fea911634136c4ffad"), looks := false }, kinds := [], alts := [], laidByText := true, laidKinds := [.data], laidTests := true, laidLooks := .later }
def DigestPurityUptoCardSaid : Prop := Claim7.holds Tryd.pinned (.plain (OpenSpec.upto digestPuritySpec)) digestPurityUptoCard
end Rows
end Go.Proofs.YtdanaehfdbdhdaaDoor
