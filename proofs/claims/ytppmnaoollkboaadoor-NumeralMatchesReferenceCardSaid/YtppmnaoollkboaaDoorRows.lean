/-
  NARROWER THAN 'FOR EVERY INPUT', by the rows' own cells (each row's printed sentence says how): AutomatonConcat: laid · AutomatonWords: laid · AutomatonCanonical: laid · AutomatonMinimal: laid · AutomatonLeast: laid · AutomatonMatchesReference: laid · AutomatonValidation: laid · AutomatonBoolean: laid · AutomatonAlgebra: laid · NumeralRange: laid · NumeralRoundTrip: laid · NumeralRules: laid · NumeralMatchesReference: laid · NumeralSizes: laid · NumeralLanguages: laid · LengthsOfLanguages: laid · NumeralPartition: laid.
  DERIVED. THE GIVEN ROWS OF THIS SEAT. 17 by the template 'for every input the law returns true; each argument reads behind the call as it read before'; 0 by the template 'total and deterministic' (their statements: YtppmnaoollkboaaDoorTotals.lean).
  GIVEN WITH THE SEED: the statements are not yours to turn. If you find one false, say at which input.
  Laid BY PROGRAM, IN A SANDBOX (cutbox-rows.mjs): the forced cells as the released guide's own fill.sh prints them over the translation 2e339a70f45a7d87… (all of the seat's roots in one cut). By AI agents, Wed Nov 11 2026. No macro, syntax, notation, axiom, sorry.
-/
import Derived.Test.YtppmnaoollkboaaDoorChecked
import GoSem.Claim
import GoSem.ClaimJoined
import GoSem.ClaimMapViews
import Derived.JoinedTies
import Derived.KernelRfl
namespace Go.Proofs.YtppmnaoollkboaaDoor
/- THE CELL 'sum', in the pinned program and in every row, IS THE sha256 OF THE DUMP (.gsa) THAT YtppmnaoollkboaaDoorProg.lean LOADS. Nothing in Lean hashes anything: it is a label: what it is worth is what the hold of that sum in a sandbox is worth. -/
noncomputable def Tryd.pinned : Pinned := { name := "ytppmnaoollkboaadoor", sum := "2e339a70f45a7d874371c3f79fe6c3b802dcd2494e69c1e0e7e3d069e1558a1d", checked := Tryd.checked }
namespace Rows
def none {H : Type} : Left H := { results := [], args := [] }

/- WHAT THE LISTED PACKAGE-LEVEL VARIABLES READ AS WHEN THE CALL BEGINS. Each datum BY PROGRAM (the guide's laid-datum.mjs) off the statement by which the dump's own 'gosem.cut.vars' lays the variable. In a bare row this is a premise. The card (YtppmnaoollkboaaDoorCards.lean) ties it to the program's text. -/
def laid_math_bits_deBruijn64tab {H : Type} : DataW H := .agg [.lit (.int .u8 0), .lit (.int .u8 1), .lit (.int .u8 56), .lit (.int .u8 2), .lit (.int .u8 57), .lit (.int .u8 49), .lit (.int .u8 28), .lit (.int .u8 3), .lit (.int .u8 61), .lit (.int .u8 58), .lit (.int .u8 42), .lit (.int .u8 50), .lit (.int .u8 38), .lit (.int .u8 29), .lit (.int .u8 17), .lit (.int .u8 4), .lit (.int .u8 62), .lit (.int .u8 47), .lit (.int .u8 59), .lit (.int .u8 36), .lit (.int .u8 45), .lit (.int .u8 43), .lit (.int .u8 51), .lit (.int .u8 22), .lit (.int .u8 53), .lit (.int .u8 39), .lit (.int .u8 33), .lit (.int .u8 30), .lit (.int .u8 24), .lit (.int .u8 18), .lit (.int .u8 12), .lit (.int .u8 5), .lit (.int .u8 63), .lit (.int .u8 55), .lit (.int .u8 48), .lit (.int .u8 27), .lit (.int .u8 60), .lit (.int .u8 41), .lit (.int .u8 37), .lit (.int .u8 16), .lit (.int .u8 46), .lit (.int .u8 35), .lit (.int .u8 44), .lit (.int .u8 21), .lit (.int .u8 52), .lit (.int .u8 32), .lit (.int .u8 23), .lit (.int .u8 11), .lit (.int .u8 54), .lit (.int .u8 26), .lit (.int .u8 40), .lit (.int .u8 15), .lit (.int .u8 34), .lit (.int .u8 20), .lit (.int .u8 31), .lit (.int .u8 10), .lit (.int .u8 25), .lit (.int .u8 14), .lit (.int .u8 19), .lit (.int .u8 9), .lit (.int .u8 13), .lit (.int .u8 8), .lit (.int .u8 7), .lit (.int .u8 6)]

/-- 'univocallaw03.AutomatonConcat': WHATEVER THE INPUT: true; the input reads as it did. -/
def automatonConcatSpec : ChangeSpec := { name := "automatonConcat", fn := fun _ => fun
  | [d1, d2, d3] => { results := [.lit (.bool true)], args := [d1, d2, d3] }
  | _ => none }
def automatonConcatRow : OpenClaim := { program := "ytppmnaoollkboaadoor", sum := "2e339a70f45a7d874371c3f79fe6c3b802dcd2494e69c1e0e7e3d069e1558a1d", func := "univocal/univocallaw03.AutomatonConcat", spec := "automatonConcat", unfollowed := true, recurses := true, named := ["math/bits.deBruijn64tab"], plainKeys := false, apart := false, laid := [("math/bits.deBruijn64tab", laid_math_bits_deBruijn64tab)] }
def AutomatonConcatSaid : Prop := automatonConcatRow.holds Tryd.pinned (OpenSpec.ofChange automatonConcatSpec)

/-- ITS FALSE NEIGHBOUR: 'it returns false'. Refute it at one input. -/
def automatonConcatWrong : ChangeSpec := { name := "automatonConcat", fn := fun _ => fun
  | [d1, d2, d3] => { results := [.lit (.bool false)], args := [d1, d2, d3] }
  | _ => none }
def AutomatonConcatWrongFalsely : Prop := automatonConcatRow.holds Tryd.pinned (OpenSpec.ofChange automatonConcatWrong)

/-- 'univocallaw03.AutomatonWords': WHATEVER THE INPUT: true; the input reads as it did. -/
def automatonWordsSpec : ChangeSpec := { name := "automatonWords", fn := fun _ => fun
  | [d1, d2, d3] => { results := [.lit (.bool true)], args := [d1, d2, d3] }
  | _ => none }
def automatonWordsRow : OpenClaim := { program := "ytppmnaoollkboaadoor", sum := "2e339a70f45a7d874371c3f79fe6c3b802dcd2494e69c1e0e7e3d069e1558a1d", func := "univocal/univocallaw03.AutomatonWords", spec := "automatonWords", unfollowed := true, recurses := true, named := ["math/bits.deBruijn64tab"], plainKeys := false, apart := false, laid := [("math/bits.deBruijn64tab", laid_math_bits_deBruijn64tab)] }
def AutomatonWordsSaid : Prop := automatonWordsRow.holds Tryd.pinned (OpenSpec.ofChange automatonWordsSpec)

/-- ITS FALSE NEIGHBOUR: 'it returns false'. Refute it at one input. -/
def automatonWordsWrong : ChangeSpec := { name := "automatonWords", fn := fun _ => fun
  | [d1, d2, d3] => { results := [.lit (.bool false)], args := [d1, d2, d3] }
  | _ => none }
def AutomatonWordsWrongFalsely : Prop := automatonWordsRow.holds Tryd.pinned (OpenSpec.ofChange automatonWordsWrong)

/-- 'univocallaw03.AutomatonCanonical': WHATEVER THE INPUT: true; the input reads as it did. -/
def automatonCanonicalSpec : ChangeSpec := { name := "automatonCanonical", fn := fun _ => fun
  | [d1, d2, d3] => { results := [.lit (.bool true)], args := [d1, d2, d3] }
  | _ => none }
def automatonCanonicalRow : OpenClaim := { program := "ytppmnaoollkboaadoor", sum := "2e339a70f45a7d874371c3f79fe6c3b802dcd2494e69c1e0e7e3d069e1558a1d", func := "univocal/univocallaw03.AutomatonCanonical", spec := "automatonCanonical", unfollowed := true, recurses := true, named := ["math/bits.deBruijn64tab"], plainKeys := false, apart := false, laid := [("math/bits.deBruijn64tab", laid_math_bits_deBruijn64tab)] }
def AutomatonCanonicalSaid : Prop := automatonCanonicalRow.holds Tryd.pinned (OpenSpec.ofChange automatonCanonicalSpec)

/-- ITS FALSE NEIGHBOUR: 'it returns false'. Refute it at one input. -/
def automatonCanonicalWrong : ChangeSpec := { name := "automatonCanonical", fn := fun _ => fun
  | [d1, d2, d3] => { results := [.lit (.bool false)], args := [d1, d2, d3] }
  | _ => none }
def AutomatonCanonicalWrongFalsely : Prop := automatonCanonicalRow.holds Tryd.pinned (OpenSpec.ofChange automatonCanonicalWrong)

/-- 'univocallaw03.AutomatonMinimal': WHATEVER THE INPUT: true; the input reads as it did. -/
def automatonMinimalSpec : ChangeSpec := { name := "automatonMinimal", fn := fun _ => fun
  | [d] => { results := [.lit (.bool true)], args := [d] }
  | _ => none }
def automatonMinimalRow : OpenClaim := { program := "ytppmnaoollkboaadoor", sum := "2e339a70f45a7d874371c3f79fe6c3b802dcd2494e69c1e0e7e3d069e1558a1d", func := "univocal/univocallaw03.AutomatonMinimal", spec := "automatonMinimal", unfollowed := true, recurses := true, named := ["math/bits.deBruijn64tab"], plainKeys := false, apart := false, laid := [("math/bits.deBruijn64tab", laid_math_bits_deBruijn64tab)] }
def AutomatonMinimalSaid : Prop := automatonMinimalRow.holds Tryd.pinned (OpenSpec.ofChange automatonMinimalSpec)

/-- ITS FALSE NEIGHBOUR: 'it returns false'. Refute it at one input. -/
def automatonMinimalWrong : ChangeSpec := { name := "automatonMinimal", fn := fun _ => fun
  | [d] => { results := [.lit (.bool false)], args := [d] }
  | _ => none }
def AutomatonMinimalWrongFalsely : Prop := automatonMinimalRow.holds Tryd.pinned (OpenSpec.ofChange automatonMinimalWrong)

/-- 'univocallaw03.AutomatonLeast': WHATEVER THE INPUT: true; the input reads as it did. -/
def automatonLeastSpec : ChangeSpec := { name := "automatonLeast", fn := fun _ => fun
  | [d1, d2] => { results := [.lit (.bool true)], args := [d1, d2] }
  | _ => none }
def automatonLeastRow : OpenClaim := { program := "ytppmnaoollkboaadoor", sum := "2e339a70f45a7d874371c3f79fe6c3b802dcd2494e69c1e0e7e3d069e1558a1d", func := "univocal/univocallaw03.AutomatonLeast", spec := "automatonLeast", unfollowed := true, recurses := true, named := ["math/bits.deBruijn64tab"], plainKeys := false, apart := false, laid := [("math/bits.deBruijn64tab", laid_math_bits_deBruijn64tab)] }
def AutomatonLeastSaid : Prop := automatonLeastRow.holds Tryd.pinned (OpenSpec.ofChange automatonLeastSpec)

/-- ITS FALSE NEIGHBOUR: 'it returns false'. Refute it at one input. -/
def automatonLeastWrong : ChangeSpec := { name := "automatonLeast", fn := fun _ => fun
  | [d1, d2] => { results := [.lit (.bool false)], args := [d1, d2] }
  | _ => none }
def AutomatonLeastWrongFalsely : Prop := automatonLeastRow.holds Tryd.pinned (OpenSpec.ofChange automatonLeastWrong)

/-- 'univocallaw03.AutomatonMatchesReference': WHATEVER THE INPUT: true; the input reads as it did. -/
def automatonMatchesReferenceSpec : ChangeSpec := { name := "automatonMatchesReference", fn := fun _ => fun
  | [d1, d2, d3] => { results := [.lit (.bool true)], args := [d1, d2, d3] }
  | _ => none }
def automatonMatchesReferenceRow : OpenClaim := { program := "ytppmnaoollkboaadoor", sum := "2e339a70f45a7d874371c3f79fe6c3b802dcd2494e69c1e0e7e3d069e1558a1d", func := "univocal/univocallaw03.AutomatonMatchesReference", spec := "automatonMatchesReference", unfollowed := true, recurses := true, named := ["math/bits.deBruijn64tab"], plainKeys := false, apart := false, laid := [("math/bits.deBruijn64tab", laid_math_bits_deBruijn64tab)] }
def AutomatonMatchesReferenceSaid : Prop := automatonMatchesReferenceRow.holds Tryd.pinned (OpenSpec.ofChange automatonMatchesReferenceSpec)

/-- ITS FALSE NEIGHBOUR: 'it returns false'. Refute it at one input. -/
def automatonMatchesReferenceWrong : ChangeSpec := { name := "automatonMatchesReference", fn := fun _ => fun
  | [d1, d2, d3] => { results := [.lit (.bool false)], args := [d1, d2, d3] }
  | _ => none }
def AutomatonMatchesReferenceWrongFalsely : Prop := automatonMatchesReferenceRow.holds Tryd.pinned (OpenSpec.ofChange automatonMatchesReferenceWrong)

/-- 'univocallaw03.AutomatonValidation': WHATEVER THE INPUT: true; the input reads as it did. -/
def automatonValidationSpec : ChangeSpec := { name := "automatonValidation", fn := fun _ => fun
  | [d1, d2] => { results := [.lit (.bool true)], args := [d1, d2] }
  | _ => none }
def automatonValidationRow : OpenClaim := { program := "ytppmnaoollkboaadoor", sum := "2e339a70f45a7d874371c3f79fe6c3b802dcd2494e69c1e0e7e3d069e1558a1d", func := "univocal/univocallaw03.AutomatonValidation", spec := "automatonValidation", unfollowed := true, recurses := true, named := ["math/bits.deBruijn64tab"], plainKeys := false, apart := false, laid := [("math/bits.deBruijn64tab", laid_math_bits_deBruijn64tab)] }
def AutomatonValidationSaid : Prop := automatonValidationRow.holds Tryd.pinned (OpenSpec.ofChange automatonValidationSpec)

/-- ITS FALSE NEIGHBOUR: 'it returns false'. Refute it at one input. -/
def automatonValidationWrong : ChangeSpec := { name := "automatonValidation", fn := fun _ => fun
  | [d1, d2] => { results := [.lit (.bool false)], args := [d1, d2] }
  | _ => none }
def AutomatonValidationWrongFalsely : Prop := automatonValidationRow.holds Tryd.pinned (OpenSpec.ofChange automatonValidationWrong)

/-- 'univocallaw03.AutomatonBoolean': WHATEVER THE INPUT: true; the input reads as it did. -/
def automatonBooleanSpec : ChangeSpec := { name := "automatonBoolean", fn := fun _ => fun
  | [d1, d2, d3] => { results := [.lit (.bool true)], args := [d1, d2, d3] }
  | _ => none }
def automatonBooleanRow : OpenClaim := { program := "ytppmnaoollkboaadoor", sum := "2e339a70f45a7d874371c3f79fe6c3b802dcd2494e69c1e0e7e3d069e1558a1d", func := "univocal/univocallaw03.AutomatonBoolean", spec := "automatonBoolean", unfollowed := true, recurses := true, named := ["math/bits.deBruijn64tab"], plainKeys := false, apart := false, laid := [("math/bits.deBruijn64tab", laid_math_bits_deBruijn64tab)] }
def AutomatonBooleanSaid : Prop := automatonBooleanRow.holds Tryd.pinned (OpenSpec.ofChange automatonBooleanSpec)

/-- ITS FALSE NEIGHBOUR: 'it returns false'. Refute it at one input. -/
def automatonBooleanWrong : ChangeSpec := { name := "automatonBoolean", fn := fun _ => fun
  | [d1, d2, d3] => { results := [.lit (.bool false)], args := [d1, d2, d3] }
  | _ => none }
def AutomatonBooleanWrongFalsely : Prop := automatonBooleanRow.holds Tryd.pinned (OpenSpec.ofChange automatonBooleanWrong)

/-- 'univocallaw03.AutomatonAlgebra': WHATEVER THE INPUT: true; the input reads as it did. -/
def automatonAlgebraSpec : ChangeSpec := { name := "automatonAlgebra", fn := fun _ => fun
  | [d1, d2, d3] => { results := [.lit (.bool true)], args := [d1, d2, d3] }
  | _ => none }
def automatonAlgebraRow : OpenClaim := { program := "ytppmnaoollkboaadoor", sum := "2e339a70f45a7d874371c3f79fe6c3b802dcd2494e69c1e0e7e3d069e1558a1d", func := "univocal/univocallaw03.AutomatonAlgebra", spec := "automatonAlgebra", unfollowed := true, recurses := true, named := ["math/bits.deBruijn64tab"], plainKeys := false, apart := false, laid := [("math/bits.deBruijn64tab", laid_math_bits_deBruijn64tab)] }
def AutomatonAlgebraSaid : Prop := automatonAlgebraRow.holds Tryd.pinned (OpenSpec.ofChange automatonAlgebraSpec)

/-- ITS FALSE NEIGHBOUR: 'it returns false'. Refute it at one input. -/
def automatonAlgebraWrong : ChangeSpec := { name := "automatonAlgebra", fn := fun _ => fun
  | [d1, d2, d3] => { results := [.lit (.bool false)], args := [d1, d2, d3] }
  | _ => none }
def AutomatonAlgebraWrongFalsely : Prop := automatonAlgebraRow.holds Tryd.pinned (OpenSpec.ofChange automatonAlgebraWrong)

/-- 'univocallaw09.NumeralRange': WHATEVER THE INPUT: true; the input reads as it did. -/
def numeralRangeSpec : ChangeSpec := { name := "numeralRange", fn := fun _ => fun
  | [d1, d2, d3] => { results := [.lit (.bool true)], args := [d1, d2, d3] }
  | _ => none }
def numeralRangeRow : OpenClaim := { program := "ytppmnaoollkboaadoor", sum := "2e339a70f45a7d874371c3f79fe6c3b802dcd2494e69c1e0e7e3d069e1558a1d", func := "univocal/univocallaw09.NumeralRange", spec := "numeralRange", unfollowed := true, recurses := true, named := ["math/bits.deBruijn64tab"], plainKeys := false, apart := false, laid := [("math/bits.deBruijn64tab", laid_math_bits_deBruijn64tab)] }
def NumeralRangeSaid : Prop := numeralRangeRow.holds Tryd.pinned (OpenSpec.ofChange numeralRangeSpec)

/-- ITS FALSE NEIGHBOUR: 'it returns false'. Refute it at one input. -/
def numeralRangeWrong : ChangeSpec := { name := "numeralRange", fn := fun _ => fun
  | [d1, d2, d3] => { results := [.lit (.bool false)], args := [d1, d2, d3] }
  | _ => none }
def NumeralRangeWrongFalsely : Prop := numeralRangeRow.holds Tryd.pinned (OpenSpec.ofChange numeralRangeWrong)

/-- 'univocallaw09.NumeralRoundTrip': WHATEVER THE INPUT: true; the input reads as it did. -/
def numeralRoundTripSpec : ChangeSpec := { name := "numeralRoundTrip", fn := fun _ => fun
  | [d1, d2, d3] => { results := [.lit (.bool true)], args := [d1, d2, d3] }
  | _ => none }
def numeralRoundTripRow : OpenClaim := { program := "ytppmnaoollkboaadoor", sum := "2e339a70f45a7d874371c3f79fe6c3b802dcd2494e69c1e0e7e3d069e1558a1d", func := "univocal/univocallaw09.NumeralRoundTrip", spec := "numeralRoundTrip", unfollowed := true, recurses := true, named := ["math/bits.deBruijn64tab"], plainKeys := false, apart := false, laid := [("math/bits.deBruijn64tab", laid_math_bits_deBruijn64tab)] }
def NumeralRoundTripSaid : Prop := numeralRoundTripRow.holds Tryd.pinned (OpenSpec.ofChange numeralRoundTripSpec)

/-- ITS FALSE NEIGHBOUR: 'it returns false'. Refute it at one input. -/
def numeralRoundTripWrong : ChangeSpec := { name := "numeralRoundTrip", fn := fun _ => fun
  | [d1, d2, d3] => { results := [.lit (.bool false)], args := [d1, d2, d3] }
  | _ => none }
def NumeralRoundTripWrongFalsely : Prop := numeralRoundTripRow.holds Tryd.pinned (OpenSpec.ofChange numeralRoundTripWrong)

/-- 'univocallaw09.NumeralRules': WHATEVER THE INPUT: true; the input reads as it did. -/
def numeralRulesSpec : ChangeSpec := { name := "numeralRules", fn := fun _ => fun
  | [d1, d2] => { results := [.lit (.bool true)], args := [d1, d2] }
  | _ => none }
def numeralRulesRow : OpenClaim := { program := "ytppmnaoollkboaadoor", sum := "2e339a70f45a7d874371c3f79fe6c3b802dcd2494e69c1e0e7e3d069e1558a1d", func := "univocal/univocallaw09.NumeralRules", spec := "numeralRules", unfollowed := true, recurses := true, named := ["math/bits.deBruijn64tab"], plainKeys := false, apart := false, laid := [("math/bits.deBruijn64tab", laid_math_bits_deBruijn64tab)] }
def NumeralRulesSaid : Prop := numeralRulesRow.holds Tryd.pinned (OpenSpec.ofChange numeralRulesSpec)

/-- ITS FALSE NEIGHBOUR: 'it returns false'. Refute it at one input. -/
def numeralRulesWrong : ChangeSpec := { name := "numeralRules", fn := fun _ => fun
  | [d1, d2] => { results := [.lit (.bool false)], args := [d1, d2] }
  | _ => none }
def NumeralRulesWrongFalsely : Prop := numeralRulesRow.holds Tryd.pinned (OpenSpec.ofChange numeralRulesWrong)

/-- 'univocallaw09.NumeralMatchesReference': WHATEVER THE INPUT: true; the input reads as it did. -/
def numeralMatchesReferenceSpec : ChangeSpec := { name := "numeralMatchesReference", fn := fun _ => fun
  | [d1, d2, d3] => { results := [.lit (.bool true)], args := [d1, d2, d3] }
  | _ => none }
def numeralMatchesReferenceRow : OpenClaim := { program := "ytppmnaoollkboaadoor", sum := "2e339a70f45a7d874371c3f79fe6c3b802dcd2494e69c1e0e7e3d069e1558a1d", func := "univocal/univocallaw09.NumeralMatchesReference", spec := "numeralMatchesReference", unfollowed := true, recurses := true, named := ["math/bits.deBruijn64tab"], plainKeys := false, apart := false, laid := [("math/bits.deBruijn64tab", laid_math_bits_deBruijn64tab)] }
def NumeralMatchesReferenceSaid : Prop := numeralMatchesReferenceRow.holds Tryd.pinned (OpenSpec.ofChange numeralMatchesReferenceSpec)

/-- ITS FALSE NEIGHBOUR: 'it returns false'. Refute it at one input. -/
def numeralMatchesReferenceWrong : ChangeSpec := { name := "numeralMatchesReference", fn := fun _ => fun
  | [d1, d2, d3] => { results := [.lit (.bool false)], args := [d1, d2, d3] }
  | _ => none }
def NumeralMatchesReferenceWrongFalsely : Prop := numeralMatchesReferenceRow.holds Tryd.pinned (OpenSpec.ofChange numeralMatchesReferenceWrong)

/-- 'univocallaw09.NumeralSizes': WHATEVER THE INPUT: true; the input reads as it did. -/
def numeralSizesSpec : ChangeSpec := { name := "numeralSizes", fn := fun _ => fun
  | [d1, d2] => { results := [.lit (.bool true)], args := [d1, d2] }
  | _ => none }
def numeralSizesRow : OpenClaim := { program := "ytppmnaoollkboaadoor", sum := "2e339a70f45a7d874371c3f79fe6c3b802dcd2494e69c1e0e7e3d069e1558a1d", func := "univocal/univocallaw09.NumeralSizes", spec := "numeralSizes", unfollowed := true, recurses := true, named := ["math/bits.deBruijn64tab"], plainKeys := false, apart := false, laid := [("math/bits.deBruijn64tab", laid_math_bits_deBruijn64tab)] }
def NumeralSizesSaid : Prop := numeralSizesRow.holds Tryd.pinned (OpenSpec.ofChange numeralSizesSpec)

/-- ITS FALSE NEIGHBOUR: 'it returns false'. Refute it at one input. -/
def numeralSizesWrong : ChangeSpec := { name := "numeralSizes", fn := fun _ => fun
  | [d1, d2] => { results := [.lit (.bool false)], args := [d1, d2] }
  | _ => none }
def NumeralSizesWrongFalsely : Prop := numeralSizesRow.holds Tryd.pinned (OpenSpec.ofChange numeralSizesWrong)

/-- 'univocallaw09.NumeralLanguages': WHATEVER THE INPUT: true; the input reads as it did. -/
def numeralLanguagesSpec : ChangeSpec := { name := "numeralLanguages", fn := fun _ => fun
  | [d1, d2, d3] => { results := [.lit (.bool true)], args := [d1, d2, d3] }
  | _ => none }
def numeralLanguagesRow : OpenClaim := { program := "ytppmnaoollkboaadoor", sum := "2e339a70f45a7d874371c3f79fe6c3b802dcd2494e69c1e0e7e3d069e1558a1d", func := "univocal/univocallaw09.NumeralLanguages", spec := "numeralLanguages", unfollowed := true, recurses := true, named := ["math/bits.deBruijn64tab"], plainKeys := false, apart := false, laid := [("math/bits.deBruijn64tab", laid_math_bits_deBruijn64tab)] }
def NumeralLanguagesSaid : Prop := numeralLanguagesRow.holds Tryd.pinned (OpenSpec.ofChange numeralLanguagesSpec)

/-- ITS FALSE NEIGHBOUR: 'it returns false'. Refute it at one input. -/
def numeralLanguagesWrong : ChangeSpec := { name := "numeralLanguages", fn := fun _ => fun
  | [d1, d2, d3] => { results := [.lit (.bool false)], args := [d1, d2, d3] }
  | _ => none }
def NumeralLanguagesWrongFalsely : Prop := numeralLanguagesRow.holds Tryd.pinned (OpenSpec.ofChange numeralLanguagesWrong)

/-- 'univocallaw05.LengthsOfLanguages': WHATEVER THE INPUT: true; the input reads as it did. -/
def lengthsOfLanguagesSpec : ChangeSpec := { name := "lengthsOfLanguages", fn := fun _ => fun
  | [d1, d2] => { results := [.lit (.bool true)], args := [d1, d2] }
  | _ => none }
def lengthsOfLanguagesRow : OpenClaim := { program := "ytppmnaoollkboaadoor", sum := "2e339a70f45a7d874371c3f79fe6c3b802dcd2494e69c1e0e7e3d069e1558a1d", func := "univocal/univocallaw05.LengthsOfLanguages", spec := "lengthsOfLanguages", unfollowed := true, recurses := true, named := ["math/bits.deBruijn64tab"], plainKeys := false, apart := false, laid := [("math/bits.deBruijn64tab", laid_math_bits_deBruijn64tab)] }
def LengthsOfLanguagesSaid : Prop := lengthsOfLanguagesRow.holds Tryd.pinned (OpenSpec.ofChange lengthsOfLanguagesSpec)

/-- ITS FALSE NEIGHBOUR: 'it returns false'. Refute it at one input. -/
def lengthsOfLanguagesWrong : ChangeSpec := { name := "lengthsOfLanguages", fn := fun _ => fun
  | [d1, d2] => { results := [.lit (.bool false)], args := [d1, d2] }
  | _ => none }
def LengthsOfLanguagesWrongFalsely : Prop := lengthsOfLanguagesRow.holds Tryd.pinned (OpenSpec.ofChange lengthsOfLanguagesWrong)

/-- 'univocallaw09.NumeralPartition': WHATEVER THE INPUT: true; the input reads as it did. -/
def numeralPartitionSpec : ChangeSpec := { name := "numeralPartition", fn := fun _ => fun
  | [d1, d2, d3] => { results := [.lit (.bool true)], args := [d1, d2, d3] }
  | _ => none }
def numeralPartitionRow : OpenClaim := { program := "ytppmnaoollkboaadoor", sum := "2e339a70f45a7d874371c3f79fe6c3b802dcd2494e69c1e0e7e3d069e1558a1d", func := "univocal/univocallaw09.NumeralPartition", spec := "numeralPartition", unfollowed := true, recurses := true, named := ["math/bits.deBruijn64tab"], plainKeys := false, apart := false, laid := [("math/bits.deBruijn64tab", laid_math_bits_deBruijn64tab)] }
def NumeralPartitionSaid : Prop := numeralPartitionRow.holds Tryd.pinned (OpenSpec.ofChange numeralPartitionSpec)

/-- ITS FALSE NEIGHBOUR: 'it returns false'. Refute it at one input. -/
def numeralPartitionWrong : ChangeSpec := { name := "numeralPartition", fn := fun _ => fun
  | [d1, d2, d3] => { results := [.lit (.bool false)], args := [d1, d2, d3] }
  | _ => none }
def NumeralPartitionWrongFalsely : Prop := numeralPartitionRow.holds Tryd.pinned (OpenSpec.ofChange numeralPartitionWrong)

/- THE SECOND FORM. 'bulk': how many values and letters a reading holds, each counted each time it is reached (what is shared counts as often as it is met; a slice's spare places count too). A statement '..UptoSaid' is the law's where the arguments, and the package variables that the reading takes, are together of bulk at most 1048576: NARROWER than '..Said'. Prove '..Said' where nothing that the law and all that it calls make is longer than what came in: it says more and counts as full. Else prove '..UptoSaid'. A law counts once. -/
mutual
def uptoBulk {H : Type} : DataW H → Nat
  | .lit (.string bytes) => bytes.length + 1
  | .lit _ => 1
  | .nil => 1
  | .ptr d => uptoBulk d + 1
  | .slice elems spare => uptoBulkAll elems + uptoBulkAll spare + 1
  | .agg parts => uptoBulkAll parts + 1
  | .iface _ d => uptoBulk d + 1
  | .map entries => uptoBulkEntries entries + 1
  | .held _ => 1
def uptoBulkAll {H : Type} : List (DataW H) → Nat
  | [] => 0
  | d :: r => uptoBulk d + uptoBulkAll r
def uptoBulkEntries {H : Type} : List (Lit × DataW H) → Nat
  | [] => 0
  | x :: r => uptoBulkEntry x + uptoBulkEntries r
def uptoBulkEntry {H : Type} : Lit × DataW H → Nat
  | (.string bytes, d) => bytes.length + uptoBulk d + 1
  | (_, d) => uptoBulk d + 1
 end
def uptoSmall : (H : Type) → List (DataW H) → Bool := fun _ ds => decide (uptoBulkAll ds ≤ 1048576)
def OpenSpec.upto (s : _root_.Go.ChangeSpec) : _root_.Go.OpenSpec := { _root_.Go.OpenSpec.ofChange s with cond := some uptoSmall }

/-- 'univocallaw03.AutomatonConcat', WHERE WHAT IT READS IS OF BULK AT MOST 1048576: true; the input reads as it did. -/
def automatonConcatUptoRow : OpenClaim := { program := "ytppmnaoollkboaadoor", sum := "2e339a70f45a7d874371c3f79fe6c3b802dcd2494e69c1e0e7e3d069e1558a1d", func := "univocal/univocallaw03.AutomatonConcat", spec := "automatonConcat", unfollowed := true, recurses := true, named := ["math/bits.deBruijn64tab"], plainKeys := false, apart := false, laid := [("math/bits.deBruijn64tab", laid_math_bits_deBruijn64tab)], narrowed := true }
def AutomatonConcatUptoSaid : Prop := automatonConcatUptoRow.holds Tryd.pinned (OpenSpec.upto automatonConcatSpec)

/-- 'univocallaw03.AutomatonWords', WHERE WHAT IT READS IS OF BULK AT MOST 1048576: true; the input reads as it did. -/
def automatonWordsUptoRow : OpenClaim := { program := "ytppmnaoollkboaadoor", sum := "2e339a70f45a7d874371c3f79fe6c3b802dcd2494e69c1e0e7e3d069e1558a1d", func := "univocal/univocallaw03.AutomatonWords", spec := "automatonWords", unfollowed := true, recurses := true, named := ["math/bits.deBruijn64tab"], plainKeys := false, apart := false, laid := [("math/bits.deBruijn64tab", laid_math_bits_deBruijn64tab)], narrowed := true }
def AutomatonWordsUptoSaid : Prop := automatonWordsUptoRow.holds Tryd.pinned (OpenSpec.upto automatonWordsSpec)

/-- 'univocallaw03.AutomatonCanonical', WHERE WHAT IT READS IS OF BULK AT MOST 1048576: true; the input reads as it did. -/
def automatonCanonicalUptoRow : OpenClaim := { program := "ytppmnaoollkboaadoor", sum := "2e339a70f45a7d874371c3f79fe6c3b802dcd2494e69c1e0e7e3d069e1558a1d", func := "univocal/univocallaw03.AutomatonCanonical", spec := "automatonCanonical", unfollowed := true, recurses := true, named := ["math/bits.deBruijn64tab"], plainKeys := false, apart := false, laid := [("math/bits.deBruijn64tab", laid_math_bits_deBruijn64tab)], narrowed := true }
def AutomatonCanonicalUptoSaid : Prop := automatonCanonicalUptoRow.holds Tryd.pinned (OpenSpec.upto automatonCanonicalSpec)

/-- 'univocallaw03.AutomatonMinimal', WHERE WHAT IT READS IS OF BULK AT MOST 1048576: true; the input reads as it did. -/
def automatonMinimalUptoRow : OpenClaim := { program := "ytppmnaoollkboaadoor", sum := "2e339a70f45a7d874371c3f79fe6c3b802dcd2494e69c1e0e7e3d069e1558a1d", func := "univocal/univocallaw03.AutomatonMinimal", spec := "automatonMinimal", unfollowed := true, recurses := true, named := ["math/bits.deBruijn64tab"], plainKeys := false, apart := false, laid := [("math/bits.deBruijn64tab", laid_math_bits_deBruijn64tab)], narrowed := true }
def AutomatonMinimalUptoSaid : Prop := automatonMinimalUptoRow.holds Tryd.pinned (OpenSpec.upto automatonMinimalSpec)

/-- 'univocallaw03.AutomatonLeast', WHERE WHAT IT READS IS OF BULK AT MOST 1048576: true; the input reads as it did. -/
def automatonLeastUptoRow : OpenClaim := { program := "ytppmnaoollkboaadoor", sum := "2e339a70f45a7d874371c3f79fe6c3b802dcd2494e69c1e0e7e3d069e1558a1d", func := "univocal/univocallaw03.AutomatonLeast", spec := "automatonLeast", unfollowed := true, recurses := true, named := ["math/bits.deBruijn64tab"], plainKeys := false, apart := false, laid := [("math/bits.deBruijn64tab", laid_math_bits_deBruijn64tab)], narrowed := true }
def AutomatonLeastUptoSaid : Prop := automatonLeastUptoRow.holds Tryd.pinned (OpenSpec.upto automatonLeastSpec)

/-- 'univocallaw03.AutomatonMatchesReference', WHERE WHAT IT READS IS OF BULK AT MOST 1048576: true; the input reads as it did. -/
def automatonMatchesReferenceUptoRow : OpenClaim := { program := "ytppmnaoollkboaadoor", sum := "2e339a70f45a7d874371c3f79fe6c3b802dcd2494e69c1e0e7e3d069e1558a1d", func := "univocal/univocallaw03.AutomatonMatchesReference", spec := "automatonMatchesReference", unfollowed := true, recurses := true, named := ["math/bits.deBruijn64tab"], plainKeys := false, apart := false, laid := [("math/bits.deBruijn64tab", laid_math_bits_deBruijn64tab)], narrowed := true }
def AutomatonMatchesReferenceUptoSaid : Prop := automatonMatchesReferenceUptoRow.holds Tryd.pinned (OpenSpec.upto automatonMatchesReferenceSpec)

/-- 'univocallaw03.AutomatonValidation', WHERE WHAT IT READS IS OF BULK AT MOST 1048576: true; the input reads as it did. -/
def automatonValidationUptoRow : OpenClaim := { program := "ytppmnaoollkboaadoor", sum := "2e339a70f45a7d874371c3f79fe6c3b802dcd2494e69c1e0e7e3d069e1558a1d", func := "univocal/univocallaw03.AutomatonValidation", spec := "automatonValidation", unfollowed := true, recurses := true, named := ["math/bits.deBruijn64tab"], plainKeys := false, apart := false, laid := [("math/bits.deBruijn64tab", laid_math_bits_deBruijn64tab)], narrowed := true }
def AutomatonValidationUptoSaid : Prop := automatonValidationUptoRow.holds Tryd.pinned (OpenSpec.upto automatonValidationSpec)

/-- 'univocallaw03.AutomatonBoolean', WHERE WHAT IT READS IS OF BULK AT MOST 1048576: true; the input reads as it did. -/
def automatonBooleanUptoRow : OpenClaim := { program := "ytppmnaoollkboaadoor", sum := "2e339a70f45a7d874371c3f79fe6c3b802dcd2494e69c1e0e7e3d069e1558a1d", func := "univocal/univocallaw03.AutomatonBoolean", spec := "automatonBoolean", unfollowed := true, recurses := true, named := ["math/bits.deBruijn64tab"], plainKeys := false, apart := false, laid := [("math/bits.deBruijn64tab", laid_math_bits_deBruijn64tab)], narrowed := true }
def AutomatonBooleanUptoSaid : Prop := automatonBooleanUptoRow.holds Tryd.pinned (OpenSpec.upto automatonBooleanSpec)

/-- 'univocallaw03.AutomatonAlgebra', WHERE WHAT IT READS IS OF BULK AT MOST 1048576: true; the input reads as it did. -/
def automatonAlgebraUptoRow : OpenClaim := { program := "ytppmnaoollkboaadoor", sum := "2e339a70f45a7d874371c3f79fe6c3b802dcd2494e69c1e0e7e3d069e1558a1d", func := "univocal/univocallaw03.AutomatonAlgebra", spec := "automatonAlgebra", unfollowed := true, recurses := true, named := ["math/bits.deBruijn64tab"], plainKeys := false, apart := false, laid := [("math/bits.deBruijn64tab", laid_math_bits_deBruijn64tab)], narrowed := true }
def AutomatonAlgebraUptoSaid : Prop := automatonAlgebraUptoRow.holds Tryd.pinned (OpenSpec.upto automatonAlgebraSpec)

/-- 'univocallaw09.NumeralRange', WHERE WHAT IT READS IS OF BULK AT MOST 1048576: true; the input reads as it did. -/
def numeralRangeUptoRow : OpenClaim := { program := "ytppmnaoollkboaadoor", sum := "2e339a70f45a7d874371c3f79fe6c3b802dcd2494e69c1e0e7e3d069e1558a1d", func := "univocal/univocallaw09.NumeralRange", spec := "numeralRange", unfollowed := true, recurses := true, named := ["math/bits.deBruijn64tab"], plainKeys := false, apart := false, laid := [("math/bits.deBruijn64tab", laid_math_bits_deBruijn64tab)], narrowed := true }
def NumeralRangeUptoSaid : Prop := numeralRangeUptoRow.holds Tryd.pinned (OpenSpec.upto numeralRangeSpec)

/-- 'univocallaw09.NumeralRoundTrip', WHERE WHAT IT READS IS OF BULK AT MOST 1048576: true; the input reads as it did. -/
def numeralRoundTripUptoRow : OpenClaim := { program := "ytppmnaoollkboaadoor", sum := "2e339a70f45a7d874371c3f79fe6c3b802dcd2494e69c1e0e7e3d069e1558a1d", func := "univocal/univocallaw09.NumeralRoundTrip", spec := "numeralRoundTrip", unfollowed := true, recurses := true, named := ["math/bits.deBruijn64tab"], plainKeys := false, apart := false, laid := [("math/bits.deBruijn64tab", laid_math_bits_deBruijn64tab)], narrowed := true }
def NumeralRoundTripUptoSaid : Prop := numeralRoundTripUptoRow.holds Tryd.pinned (OpenSpec.upto numeralRoundTripSpec)

/-- 'univocallaw09.NumeralRules', WHERE WHAT IT READS IS OF BULK AT MOST 1048576: true; the input reads as it did. -/
def numeralRulesUptoRow : OpenClaim := { program := "ytppmnaoollkboaadoor", sum := "2e339a70f45a7d874371c3f79fe6c3b802dcd2494e69c1e0e7e3d069e1558a1d", func := "univocal/univocallaw09.NumeralRules", spec := "numeralRules", unfollowed := true, recurses := true, named := ["math/bits.deBruijn64tab"], plainKeys := false, apart := false, laid := [("math/bits.deBruijn64tab", laid_math_bits_deBruijn64tab)], narrowed := true }
def NumeralRulesUptoSaid : Prop := numeralRulesUptoRow.holds Tryd.pinned (OpenSpec.upto numeralRulesSpec)

/-- 'univocallaw09.NumeralMatchesReference', WHERE WHAT IT READS IS OF BULK AT MOST 1048576: true; the input reads as it did. -/
def numeralMatchesReferenceUptoRow : OpenClaim := { program := "ytppmnaoollkboaadoor", sum := "2e339a70f45a7d874371c3f79fe6c3b802dcd2494e69c1e0e7e3d069e1558a1d", func := "univocal/univocallaw09.NumeralMatchesReference", spec := "numeralMatchesReference", unfollowed := true, recurses := true, named := ["math/bits.deBruijn64tab"], plainKeys := false, apart := false, laid := [("math/bits.deBruijn64tab", laid_math_bits_deBruijn64tab)], narrowed := true }
def NumeralMatchesReferenceUptoSaid : Prop := numeralMatchesReferenceUptoRow.holds Tryd.pinned (OpenSpec.upto numeralMatchesReferenceSpec)

/-- 'univocallaw09.NumeralSizes', WHERE WHAT IT READS IS OF BULK AT MOST 1048576: true; the input reads as it did. -/
def numeralSizesUptoRow : OpenClaim := { program := "ytppmnaoollkboaadoor", sum := "2e339a70f45a7d874371c3f79fe6c3b802dcd2494e69c1e0e7e3d069e1558a1d", func := "univocal/univocallaw09.NumeralSizes", spec := "numeralSizes", unfollowed := true, recurses := true, named := ["math/bits.deBruijn64tab"], plainKeys := false, apart := false, laid := [("math/bits.deBruijn64tab", laid_math_bits_deBruijn64tab)], narrowed := true }
def NumeralSizesUptoSaid : Prop := numeralSizesUptoRow.holds Tryd.pinned (OpenSpec.upto numeralSizesSpec)

/-- 'univocallaw09.NumeralLanguages', WHERE WHAT IT READS IS OF BULK AT MOST 1048576: true; the input reads as it did. -/
def numeralLanguagesUptoRow : OpenClaim := { program := "ytppmnaoollkboaadoor", sum := "2e339a70f45a7d874371c3f79fe6c3b802dcd2494e69c1e0e7e3d069e1558a1d", func := "univocal/univocallaw09.NumeralLanguages", spec := "numeralLanguages", unfollowed := true, recurses := true, named := ["math/bits.deBruijn64tab"], plainKeys := false, apart := false, laid := [("math/bits.deBruijn64tab", laid_math_bits_deBruijn64tab)], narrowed := true }
def NumeralLanguagesUptoSaid : Prop := numeralLanguagesUptoRow.holds Tryd.pinned (OpenSpec.upto numeralLanguagesSpec)

/-- 'univocallaw05.LengthsOfLanguages', WHERE WHAT IT READS IS OF BULK AT MOST 1048576: true; the input reads as it did. -/
def lengthsOfLanguagesUptoRow : OpenClaim := { program := "ytppmnaoollkboaadoor", sum := "2e339a70f45a7d874371c3f79fe6c3b802dcd2494e69c1e0e7e3d069e1558a1d", func := "univocal/univocallaw05.LengthsOfLanguages", spec := "lengthsOfLanguages", unfollowed := true, recurses := true, named := ["math/bits.deBruijn64tab"], plainKeys := false, apart := false, laid := [("math/bits.deBruijn64tab", laid_math_bits_deBruijn64tab)], narrowed := true }
def LengthsOfLanguagesUptoSaid : Prop := lengthsOfLanguagesUptoRow.holds Tryd.pinned (OpenSpec.upto lengthsOfLanguagesSpec)

/-- 'univocallaw09.NumeralPartition', WHERE WHAT IT READS IS OF BULK AT MOST 1048576: true; the input reads as it did. -/
def numeralPartitionUptoRow : OpenClaim := { program := "ytppmnaoollkboaadoor", sum := "2e339a70f45a7d874371c3f79fe6c3b802dcd2494e69c1e0e7e3d069e1558a1d", func := "univocal/univocallaw09.NumeralPartition", spec := "numeralPartition", unfollowed := true, recurses := true, named := ["math/bits.deBruijn64tab"], plainKeys := false, apart := false, laid := [("math/bits.deBruijn64tab", laid_math_bits_deBruijn64tab)], narrowed := true }
def NumeralPartitionUptoSaid : Prop := numeralPartitionUptoRow.holds Tryd.pinned (OpenSpec.upto numeralPartitionSpec)

end Rows
end Go.Proofs.YtppmnaoollkboaaDoor
