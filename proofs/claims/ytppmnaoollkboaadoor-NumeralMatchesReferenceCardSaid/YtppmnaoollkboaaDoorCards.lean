/-
  DERIVED. GIVEN WITH THE SEED: THE CARDS: each row of YtppmnaoollkboaaDoorRows.lean that lists a variable, with what it lists TIED to the program's text (the seventh form; the later family's looks); each row that meets fmt, with fmt's text TOLD by the authors' own Lean function (tested against real Go, not proved from fmt's source: count such statements apart). THE CARD IS WHAT COUNTS. Prove the row's statement (the work); the ties are given (YtppmnaoollkboaaDoorTie.lean); close each card by the builder's one call (the guide's Derived/Test/ToyasCard.lean, 'card_holds'). Laid BY PROGRAM, IN A SANDBOX (cutbox-door.mjs). By AI agents, Wed Nov 11 2026. No macro, syntax, notation, axiom, sorry.
-/
import Derived.Test.YtppmnaoollkboaaDoorRows
import GoSem.ClaimSeven
namespace Go.Proofs.YtppmnaoollkboaaDoor
namespace Rows

/-- THE TIED CARD OF 'univocallaw03.AutomatonConcat'. -/
def automatonConcatCard : Claim7 := { stood := { row := automatonConcatRow, standIns := [], harness := (true, "5467b4600fd1fb1484a8ad753bf19ef19094ce21aa16f16cbaf1cb9ac7143c34"), looks := false }, kinds := [], alts := [], laidByText := true, laidKinds := [.data], laidTests := true, laidLooks := .later }
def AutomatonConcatCardSaid : Prop := Claim7.holds Tryd.pinned (.plain (OpenSpec.ofChange automatonConcatSpec)) automatonConcatCard

/-- THE TIED CARD OF 'univocallaw03.AutomatonWords'. -/
def automatonWordsCard : Claim7 := { stood := { row := automatonWordsRow, standIns := [], harness := (true, "5467b4600fd1fb1484a8ad753bf19ef19094ce21aa16f16cbaf1cb9ac7143c34"), looks := false }, kinds := [], alts := [], laidByText := true, laidKinds := [.data], laidTests := true, laidLooks := .later }
def AutomatonWordsCardSaid : Prop := Claim7.holds Tryd.pinned (.plain (OpenSpec.ofChange automatonWordsSpec)) automatonWordsCard

/-- THE TIED CARD OF 'univocallaw03.AutomatonCanonical'. -/
def automatonCanonicalCard : Claim7 := { stood := { row := automatonCanonicalRow, standIns := [], harness := (true, "5467b4600fd1fb1484a8ad753bf19ef19094ce21aa16f16cbaf1cb9ac7143c34"), looks := false }, kinds := [], alts := [], laidByText := true, laidKinds := [.data], laidTests := true, laidLooks := .later }
def AutomatonCanonicalCardSaid : Prop := Claim7.holds Tryd.pinned (.plain (OpenSpec.ofChange automatonCanonicalSpec)) automatonCanonicalCard

/-- THE TIED CARD OF 'univocallaw03.AutomatonMinimal'. -/
def automatonMinimalCard : Claim7 := { stood := { row := automatonMinimalRow, standIns := [], harness := (true, "5467b4600fd1fb1484a8ad753bf19ef19094ce21aa16f16cbaf1cb9ac7143c34"), looks := false }, kinds := [], alts := [], laidByText := true, laidKinds := [.data], laidTests := true, laidLooks := .later }
def AutomatonMinimalCardSaid : Prop := Claim7.holds Tryd.pinned (.plain (OpenSpec.ofChange automatonMinimalSpec)) automatonMinimalCard

/-- THE TIED CARD OF 'univocallaw03.AutomatonLeast'. -/
def automatonLeastCard : Claim7 := { stood := { row := automatonLeastRow, standIns := [], harness := (true, "5467b4600fd1fb1484a8ad753bf19ef19094ce21aa16f16cbaf1cb9ac7143c34"), looks := false }, kinds := [], alts := [], laidByText := true, laidKinds := [.data], laidTests := true, laidLooks := .later }
def AutomatonLeastCardSaid : Prop := Claim7.holds Tryd.pinned (.plain (OpenSpec.ofChange automatonLeastSpec)) automatonLeastCard

/-- THE TIED CARD OF 'univocallaw03.AutomatonMatchesReference'. -/
def automatonMatchesReferenceCard : Claim7 := { stood := { row := automatonMatchesReferenceRow, standIns := [], harness := (true, "5467b4600fd1fb1484a8ad753bf19ef19094ce21aa16f16cbaf1cb9ac7143c34"), looks := false }, kinds := [], alts := [], laidByText := true, laidKinds := [.data], laidTests := true, laidLooks := .later }
def AutomatonMatchesReferenceCardSaid : Prop := Claim7.holds Tryd.pinned (.plain (OpenSpec.ofChange automatonMatchesReferenceSpec)) automatonMatchesReferenceCard

/-- THE TIED CARD OF 'univocallaw03.AutomatonValidation'. -/
def automatonValidationCard : Claim7 := { stood := { row := automatonValidationRow, standIns := [], harness := (true, "5467b4600fd1fb1484a8ad753bf19ef19094ce21aa16f16cbaf1cb9ac7143c34"), looks := false }, kinds := [], alts := [], laidByText := true, laidKinds := [.data], laidTests := true, laidLooks := .later }
def AutomatonValidationCardSaid : Prop := Claim7.holds Tryd.pinned (.plain (OpenSpec.ofChange automatonValidationSpec)) automatonValidationCard

/-- THE TIED CARD OF 'univocallaw03.AutomatonBoolean'. -/
def automatonBooleanCard : Claim7 := { stood := { row := automatonBooleanRow, standIns := [], harness := (true, "5467b4600fd1fb1484a8ad753bf19ef19094ce21aa16f16cbaf1cb9ac7143c34"), looks := false }, kinds := [], alts := [], laidByText := true, laidKinds := [.data], laidTests := true, laidLooks := .later }
def AutomatonBooleanCardSaid : Prop := Claim7.holds Tryd.pinned (.plain (OpenSpec.ofChange automatonBooleanSpec)) automatonBooleanCard

/-- THE TIED CARD OF 'univocallaw03.AutomatonAlgebra'. -/
def automatonAlgebraCard : Claim7 := { stood := { row := automatonAlgebraRow, standIns := [], harness := (true, "5467b4600fd1fb1484a8ad753bf19ef19094ce21aa16f16cbaf1cb9ac7143c34"), looks := false }, kinds := [], alts := [], laidByText := true, laidKinds := [.data], laidTests := true, laidLooks := .later }
def AutomatonAlgebraCardSaid : Prop := Claim7.holds Tryd.pinned (.plain (OpenSpec.ofChange automatonAlgebraSpec)) automatonAlgebraCard

/-- THE TIED CARD OF 'univocallaw09.NumeralRange'. -/
def numeralRangeCard : Claim7 := { stood := { row := numeralRangeRow, standIns := [], harness := (true, "5467b4600fd1fb1484a8ad753bf19ef19094ce21aa16f16cbaf1cb9ac7143c34"), looks := false }, kinds := [], alts := [], laidByText := true, laidKinds := [.data], laidTests := true, laidLooks := .later }
def NumeralRangeCardSaid : Prop := Claim7.holds Tryd.pinned (.plain (OpenSpec.ofChange numeralRangeSpec)) numeralRangeCard

/-- THE TIED CARD OF 'univocallaw09.NumeralRoundTrip'. -/
def numeralRoundTripCard : Claim7 := { stood := { row := numeralRoundTripRow, standIns := [], harness := (true, "5467b4600fd1fb1484a8ad753bf19ef19094ce21aa16f16cbaf1cb9ac7143c34"), looks := false }, kinds := [], alts := [], laidByText := true, laidKinds := [.data], laidTests := true, laidLooks := .later }
def NumeralRoundTripCardSaid : Prop := Claim7.holds Tryd.pinned (.plain (OpenSpec.ofChange numeralRoundTripSpec)) numeralRoundTripCard

/-- THE TIED CARD OF 'univocallaw09.NumeralRules'. -/
def numeralRulesCard : Claim7 := { stood := { row := numeralRulesRow, standIns := [], harness := (true, "5467b4600fd1fb1484a8ad753bf19ef19094ce21aa16f16cbaf1cb9ac7143c34"), looks := false }, kinds := [], alts := [], laidByText := true, laidKinds := [.data], laidTests := true, laidLooks := .later }
def NumeralRulesCardSaid : Prop := Claim7.holds Tryd.pinned (.plain (OpenSpec.ofChange numeralRulesSpec)) numeralRulesCard

/-- THE TIED CARD OF 'univocallaw09.NumeralMatchesReference'. -/
def numeralMatchesReferenceCard : Claim7 := { stood := { row := numeralMatchesReferenceRow, standIns := [], harness := (true, "5467b4600fd1fb1484a8ad753bf19ef19094ce21aa16f16cbaf1cb9ac7143c34"), looks := false }, kinds := [], alts := [], laidByText := true, laidKinds := [.data], laidTests := true, laidLooks := .later }
def NumeralMatchesReferenceCardSaid : Prop := Claim7.holds Tryd.pinned (.plain (OpenSpec.ofChange numeralMatchesReferenceSpec)) numeralMatchesReferenceCard

/-- THE TIED CARD OF 'univocallaw09.NumeralSizes'. -/
def numeralSizesCard : Claim7 := { stood := { row := numeralSizesRow, standIns := [], harness := (true, "5467b4600fd1fb1484a8ad753bf19ef19094ce21aa16f16cbaf1cb9ac7143c34"), looks := false }, kinds := [], alts := [], laidByText := true, laidKinds := [.data], laidTests := true, laidLooks := .later }
def NumeralSizesCardSaid : Prop := Claim7.holds Tryd.pinned (.plain (OpenSpec.ofChange numeralSizesSpec)) numeralSizesCard

/-- THE TIED CARD OF 'univocallaw09.NumeralLanguages'. -/
def numeralLanguagesCard : Claim7 := { stood := { row := numeralLanguagesRow, standIns := [], harness := (true, "5467b4600fd1fb1484a8ad753bf19ef19094ce21aa16f16cbaf1cb9ac7143c34"), looks := false }, kinds := [], alts := [], laidByText := true, laidKinds := [.data], laidTests := true, laidLooks := .later }
def NumeralLanguagesCardSaid : Prop := Claim7.holds Tryd.pinned (.plain (OpenSpec.ofChange numeralLanguagesSpec)) numeralLanguagesCard

/-- THE TIED CARD OF 'univocallaw05.LengthsOfLanguages'. -/
def lengthsOfLanguagesCard : Claim7 := { stood := { row := lengthsOfLanguagesRow, standIns := [], harness := (true, "5467b4600fd1fb1484a8ad753bf19ef19094ce21aa16f16cbaf1cb9ac7143c34"), looks := false }, kinds := [], alts := [], laidByText := true, laidKinds := [.data], laidTests := true, laidLooks := .later }
def LengthsOfLanguagesCardSaid : Prop := Claim7.holds Tryd.pinned (.plain (OpenSpec.ofChange lengthsOfLanguagesSpec)) lengthsOfLanguagesCard

/-- THE TIED CARD OF 'univocallaw09.NumeralPartition'. -/
def numeralPartitionCard : Claim7 := { stood := { row := numeralPartitionRow, standIns := [], harness := (true, "5467b4600fd1fb1484a8ad753bf19ef19094ce21aa16f16cbaf1cb9ac7143c34"), looks := false }, kinds := [], alts := [], laidByText := true, laidKinds := [.data], laidTests := true, laidLooks := .later }
def NumeralPartitionCardSaid : Prop := Claim7.holds Tryd.pinned (.plain (OpenSpec.ofChange numeralPartitionSpec)) numeralPartitionCard

/-- THE SECOND FORM's CARD OF 'univocallaw03.AutomatonConcat'. -/
def automatonConcatUptoCard : Claim7 := { stood := { row := automatonConcatUptoRow, standIns := [], harness := (true, "5467b4600fd1fb1484a8ad753bf19ef19094ce21aa16f16cbaf1cb9ac7143c34"), looks := false }, kinds := [], alts := [], laidByText := true, laidKinds := [.data], laidTests := true, laidLooks := .later }
def AutomatonConcatUptoCardSaid : Prop := Claim7.holds Tryd.pinned (.plain (OpenSpec.upto automatonConcatSpec)) automatonConcatUptoCard

/-- THE SECOND FORM's CARD OF 'univocallaw03.AutomatonWords'. -/
def automatonWordsUptoCard : Claim7 := { stood := { row := automatonWordsUptoRow, standIns := [], harness := (true, "5467b4600fd1fb1484a8ad753bf19ef19094ce21aa16f16cbaf1cb9ac7143c34"), looks := false }, kinds := [], alts := [], laidByText := true, laidKinds := [.data], laidTests := true, laidLooks := .later }
def AutomatonWordsUptoCardSaid : Prop := Claim7.holds Tryd.pinned (.plain (OpenSpec.upto automatonWordsSpec)) automatonWordsUptoCard

/-- THE SECOND FORM's CARD OF 'univocallaw03.AutomatonCanonical'. -/
def automatonCanonicalUptoCard : Claim7 := { stood := { row := automatonCanonicalUptoRow, standIns := [], harness := (true, "5467b4600fd1fb1484a8ad753bf19ef19094ce21aa16f16cbaf1cb9ac7143c34"), looks := false }, kinds := [], alts := [], laidByText := true, laidKinds := [.data], laidTests := true, laidLooks := .later }
def AutomatonCanonicalUptoCardSaid : Prop := Claim7.holds Tryd.pinned (.plain (OpenSpec.upto automatonCanonicalSpec)) automatonCanonicalUptoCard

/-- THE SECOND FORM's CARD OF 'univocallaw03.AutomatonMinimal'. -/
def automatonMinimalUptoCard : Claim7 := { stood := { row := automatonMinimalUptoRow, standIns := [], harness := (true, "5467b4600fd1fb1484a8ad753bf19ef19094ce21aa16f16cbaf1cb9ac7143c34"), looks := false }, kinds := [], alts := [], laidByText := true, laidKinds := [.data], laidTests := true, laidLooks := .later }
def AutomatonMinimalUptoCardSaid : Prop := Claim7.holds Tryd.pinned (.plain (OpenSpec.upto automatonMinimalSpec)) automatonMinimalUptoCard

/-- THE SECOND FORM's CARD OF 'univocallaw03.AutomatonLeast'. -/
def automatonLeastUptoCard : Claim7 := { stood := { row := automatonLeastUptoRow, standIns := [], harness := (true, "5467b4600fd1fb1484a8ad753bf19ef19094ce21aa16f16cbaf1cb9ac7143c34"), looks := false }, kinds := [], alts := [], laidByText := true, laidKinds := [.data], laidTests := true, laidLooks := .later }
def AutomatonLeastUptoCardSaid : Prop := Claim7.holds Tryd.pinned (.plain (OpenSpec.upto automatonLeastSpec)) automatonLeastUptoCard

/-- THE SECOND FORM's CARD OF 'univocallaw03.AutomatonMatchesReference'. -/
def automatonMatchesReferenceUptoCard : Claim7 := { stood := { row := automatonMatchesReferenceUptoRow, standIns := [], harness := (true, "5467b4600fd1fb1484a8ad753bf19ef19094ce21aa16f16cbaf1cb9ac7143c34"), looks := false }, kinds := [], alts := [], laidByText := true, laidKinds := [.data], laidTests := true, laidLooks := .later }
def AutomatonMatchesReferenceUptoCardSaid : Prop := Claim7.holds Tryd.pinned (.plain (OpenSpec.upto automatonMatchesReferenceSpec)) automatonMatchesReferenceUptoCard

/-- THE SECOND FORM's CARD OF 'univocallaw03.AutomatonValidation'. -/
def automatonValidationUptoCard : Claim7 := { stood := { row := automatonValidationUptoRow, standIns := [], harness := (true, "5467b4600fd1fb1484a8ad753bf19ef19094ce21aa16f16cbaf1cb9ac7143c34"), looks := false }, kinds := [], alts := [], laidByText := true, laidKinds := [.data], laidTests := true, laidLooks := .later }
def AutomatonValidationUptoCardSaid : Prop := Claim7.holds Tryd.pinned (.plain (OpenSpec.upto automatonValidationSpec)) automatonValidationUptoCard

/-- THE SECOND FORM's CARD OF 'univocallaw03.AutomatonBoolean'. -/
def automatonBooleanUptoCard : Claim7 := { stood := { row := automatonBooleanUptoRow, standIns := [], harness := (true, "5467b4600fd1fb1484a8ad753bf19ef19094ce21aa16f16cbaf1cb9ac7143c34"), looks := false }, kinds := [], alts := [], laidByText := true, laidKinds := [.data], laidTests := true, laidLooks := .later }
def AutomatonBooleanUptoCardSaid : Prop := Claim7.holds Tryd.pinned (.plain (OpenSpec.upto automatonBooleanSpec)) automatonBooleanUptoCard

/-- THE SECOND FORM's CARD OF 'univocallaw03.AutomatonAlgebra'. -/
def automatonAlgebraUptoCard : Claim7 := { stood := { row := automatonAlgebraUptoRow, standIns := [], harness := (true, "5467b4600fd1fb1484a8ad753bf19ef19094ce21aa16f16cbaf1cb9ac7143c34"), looks := false }, kinds := [], alts := [], laidByText := true, laidKinds := [.data], laidTests := true, laidLooks := .later }
def AutomatonAlgebraUptoCardSaid : Prop := Claim7.holds Tryd.pinned (.plain (OpenSpec.upto automatonAlgebraSpec)) automatonAlgebraUptoCard

/-- THE SECOND FORM's CARD OF 'univocallaw09.NumeralRange'. -/
def numeralRangeUptoCard : Claim7 := { stood := { row := numeralRangeUptoRow, standIns := [], harness := (true, "5467b4600fd1fb1484a8ad753bf19ef19094ce21aa16f16cbaf1cb9ac7143c34"), looks := false }, kinds := [], alts := [], laidByText := true, laidKinds := [.data], laidTests := true, laidLooks := .later }
def NumeralRangeUptoCardSaid : Prop := Claim7.holds Tryd.pinned (.plain (OpenSpec.upto numeralRangeSpec)) numeralRangeUptoCard

/-- THE SECOND FORM's CARD OF 'univocallaw09.NumeralRoundTrip'. -/
def numeralRoundTripUptoCard : Claim7 := { stood := { row := numeralRoundTripUptoRow, standIns := [], harness := (true, "5467b4600fd1fb1484a8ad753bf19ef19094ce21aa16f16cbaf1cb9ac7143c34"), looks := false }, kinds := [], alts := [], laidByText := true, laidKinds := [.data], laidTests := true, laidLooks := .later }
def NumeralRoundTripUptoCardSaid : Prop := Claim7.holds Tryd.pinned (.plain (OpenSpec.upto numeralRoundTripSpec)) numeralRoundTripUptoCard

/-- THE SECOND FORM's CARD OF 'univocallaw09.NumeralRules'. -/
def numeralRulesUptoCard : Claim7 := { stood := { row := numeralRulesUptoRow, standIns := [], harness := (true, "5467b4600fd1fb1484a8ad753bf19ef19094ce21aa16f16cbaf1cb9ac7143c34"), looks := false }, kinds := [], alts := [], laidByText := true, laidKinds := [.data], laidTests := true, laidLooks := .later }
def NumeralRulesUptoCardSaid : Prop := Claim7.holds Tryd.pinned (.plain (OpenSpec.upto numeralRulesSpec)) numeralRulesUptoCard

/-- THE SECOND FORM's CARD OF 'univocallaw09.NumeralMatchesReference'. -/
def numeralMatchesReferenceUptoCard : Claim7 := { stood := { row := numeralMatchesReferenceUptoRow, standIns := [], harness := (true, "5467b4600fd1fb1484a8ad753bf19ef19094ce21aa16f16cbaf1cb9ac7143c34"), looks := false }, kinds := [], alts := [], laidByText := true, laidKinds := [.data], laidTests := true, laidLooks := .later }
def NumeralMatchesReferenceUptoCardSaid : Prop := Claim7.holds Tryd.pinned (.plain (OpenSpec.upto numeralMatchesReferenceSpec)) numeralMatchesReferenceUptoCard

/-- THE SECOND FORM's CARD OF 'univocallaw09.NumeralSizes'. -/
def numeralSizesUptoCard : Claim7 := { stood := { row := numeralSizesUptoRow, standIns := [], harness := (true, "5467b4600fd1fb1484a8ad753bf19ef19094ce21aa16f16cbaf1cb9ac7143c34"), looks := false }, kinds := [], alts := [], laidByText := true, laidKinds := [.data], laidTests := true, laidLooks := .later }
def NumeralSizesUptoCardSaid : Prop := Claim7.holds Tryd.pinned (.plain (OpenSpec.upto numeralSizesSpec)) numeralSizesUptoCard

/-- THE SECOND FORM's CARD OF 'univocallaw09.NumeralLanguages'. -/
def numeralLanguagesUptoCard : Claim7 := { stood := { row := numeralLanguagesUptoRow, standIns := [], harness := (true, "5467b4600fd1fb1484a8ad753bf19ef19094ce21aa16f16cbaf1cb9ac7143c34"), looks := false }, kinds := [], alts := [], laidByText := true, laidKinds := [.data], laidTests := true, laidLooks := .later }
def NumeralLanguagesUptoCardSaid : Prop := Claim7.holds Tryd.pinned (.plain (OpenSpec.upto numeralLanguagesSpec)) numeralLanguagesUptoCard

/-- THE SECOND FORM's CARD OF 'univocallaw05.LengthsOfLanguages'. -/
def lengthsOfLanguagesUptoCard : Claim7 := { stood := { row := lengthsOfLanguagesUptoRow, standIns := [], harness := (true, "5467b4600fd1fb1484a8ad753bf19ef19094ce21aa16f16cbaf1cb9ac7143c34"), looks := false }, kinds := [], alts := [], laidByText := true, laidKinds := [.data], laidTests := true, laidLooks := .later }
def LengthsOfLanguagesUptoCardSaid : Prop := Claim7.holds Tryd.pinned (.plain (OpenSpec.upto lengthsOfLanguagesSpec)) lengthsOfLanguagesUptoCard

/-- THE SECOND FORM's CARD OF 'univocallaw09.NumeralPartition'. -/
def numeralPartitionUptoCard : Claim7 := { stood := { row := numeralPartitionUptoRow, standIns := [], harness := (true, "5467b4600fd1fb1484a8ad753bf19ef19094ce21aa16f16cbaf1cb9ac7143c34"), looks := false }, kinds := [], alts := [], laidByText := true, laidKinds := [.data], laidTests := true, laidLooks := .later }
def NumeralPartitionUptoCardSaid : Prop := Claim7.holds Tryd.pinned (.plain (OpenSpec.upto numeralPartitionSpec)) numeralPartitionUptoCard
end Rows
end Go.Proofs.YtppmnaoollkboaaDoor
