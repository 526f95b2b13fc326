/-
  DERIVED. GIVEN WITH THE SEED: THE CARDS: each row of YtegdcifghaldoaaDoorRows.lean that lists a variable, with what it lists TIED to the program's text (the seventh form; the later family's looks); each row that meets fmt, with fmt's text TOLD by the authors' own Lean function (tested against real Go, not proved from fmt's source: count such statements apart). THE CARD IS WHAT COUNTS. Prove the row's statement (the work); the ties are given (YtegdcifghaldoaaDoorTie.lean); close each card by the builder's one call (the guide's Derived/Test/ToyasCard.lean, 'card_holds'). Laid BY PROGRAM, IN A SANDBOX (cutbox-door.mjs). By AI agents, Wed Nov 11 2026. No macro, syntax, notation, axiom, sorry.
-/
import Derived.Test.YtegdcifghaldoaaDoorRows
import GoSem.ClaimSeven
namespace Go.Proofs.YtegdcifghaldoaaDoor
namespace Rows

/-- THE TIED CARD OF 'univocallaw13.AtomTerms'. -/
def atomTermsCard : Claim7 := { stood := { row := atomTermsRow, standIns := [], harness := (true, "875e94544f7b3e3bc550fc01497f23b4b140bca84561ec0ef7272a60241633d0"), looks := false }, kinds := [], alts := [], laidByText := true, laidKinds := [.data], laidTests := true, laidLooks := .later }
def AtomTermsCardSaid : Prop := Claim7.holds Tryd.pinned (.plain (OpenSpec.ofChange atomTermsSpec)) atomTermsCard

/-- THE TIED CARD OF 'univocallaw13.AtomFormulas'. -/
def atomFormulasCard : Claim7 := { stood := { row := atomFormulasRow, standIns := [], harness := (true, "875e94544f7b3e3bc550fc01497f23b4b140bca84561ec0ef7272a60241633d0"), looks := false }, kinds := [], alts := [], laidByText := true, laidKinds := [.data], laidTests := true, laidLooks := .later }
def AtomFormulasCardSaid : Prop := Claim7.holds Tryd.pinned (.plain (OpenSpec.ofChange atomFormulasSpec)) atomFormulasCard

/-- THE TIED CARD OF 'univocallaw13.AtomOrder'. -/
def atomOrderCard : Claim7 := { stood := { row := atomOrderRow, standIns := [], harness := (true, "875e94544f7b3e3bc550fc01497f23b4b140bca84561ec0ef7272a60241633d0"), looks := false }, kinds := [], alts := [], laidByText := true, laidKinds := [.data], laidTests := true, laidLooks := .later }
def AtomOrderCardSaid : Prop := Claim7.holds Tryd.pinned (.plain (OpenSpec.ofChange atomOrderSpec)) atomOrderCard

/-- THE TIED CARD OF 'univocallaw13.AtomSize'. -/
def atomSizeCard : Claim7 := { stood := { row := atomSizeRow, standIns := [], harness := (true, "875e94544f7b3e3bc550fc01497f23b4b140bca84561ec0ef7272a60241633d0"), looks := false }, kinds := [], alts := [], laidByText := true, laidKinds := [.data], laidTests := true, laidLooks := .later }
def AtomSizeCardSaid : Prop := Claim7.holds Tryd.pinned (.plain (OpenSpec.ofChange atomSizeSpec)) atomSizeCard

/-- THE TIED CARD OF 'univocallaw13.AtomConjunction'. -/
def atomConjunctionCard : Claim7 := { stood := { row := atomConjunctionRow, standIns := [], harness := (true, "875e94544f7b3e3bc550fc01497f23b4b140bca84561ec0ef7272a60241633d0"), looks := false }, kinds := [], alts := [], laidByText := true, laidKinds := [.data], laidTests := true, laidLooks := .later }
def AtomConjunctionCardSaid : Prop := Claim7.holds Tryd.pinned (.plain (OpenSpec.ofChange atomConjunctionSpec)) atomConjunctionCard

/-- THE TIED CARD OF 'univocallaw13.AtomKinds'. -/
def atomKindsCard : Claim7 := { stood := { row := atomKindsRow, standIns := [], harness := (true, "875e94544f7b3e3bc550fc01497f23b4b140bca84561ec0ef7272a60241633d0"), looks := false }, kinds := [], alts := [], laidByText := true, laidKinds := [.data], laidTests := true, laidLooks := .later }
def AtomKindsCardSaid : Prop := Claim7.holds Tryd.pinned (.plain (OpenSpec.ofChange atomKindsSpec)) atomKindsCard

/-- THE TIED CARD OF 'univocallaw13.AtomRejectsInvalid'. -/
def atomRejectsInvalidCard : Claim7 := { stood := { row := atomRejectsInvalidRow, standIns := [], harness := (true, "875e94544f7b3e3bc550fc01497f23b4b140bca84561ec0ef7272a60241633d0"), looks := false }, kinds := [], alts := [], laidByText := true, laidKinds := [.data], laidTests := true, laidLooks := .later }
def AtomRejectsInvalidCardSaid : Prop := Claim7.holds Tryd.pinned (.plain (OpenSpec.ofChange atomRejectsInvalidSpec)) atomRejectsInvalidCard

/-- THE SECOND FORM's CARD OF 'univocallaw13.AtomTerms'. -/
def atomTermsUptoCard : Claim7 := { stood := { row := atomTermsUptoRow, standIns := [], harness := (true, "875e94544f7b3e3bc550fc01497f23b4b140bca84561ec0ef7272a60241633d0"), looks := false }, kinds := [], alts := [], laidByText := true, laidKinds := [.data], laidTests := true, laidLooks := .later }
def AtomTermsUptoCardSaid : Prop := Claim7.holds Tryd.pinned (.plain (OpenSpec.upto atomTermsSpec)) atomTermsUptoCard

/-- THE SECOND FORM's CARD OF 'univocallaw13.AtomFormulas'. -/
def atomFormulasUptoCard : Claim7 := { stood := { row := atomFormulasUptoRow, standIns := [], harness := (true, "875e94544f7b3e3bc550fc01497f23b4b140bca84561ec0ef7272a60241633d0"), looks := false }, kinds := [], alts := [], laidByText := true, laidKinds := [.data], laidTests := true, laidLooks := .later }
def AtomFormulasUptoCardSaid : Prop := Claim7.holds Tryd.pinned (.plain (OpenSpec.upto atomFormulasSpec)) atomFormulasUptoCard

/-- THE SECOND FORM's CARD OF 'univocallaw13.AtomOrder'. -/
def atomOrderUptoCard : Claim7 := { stood := { row := atomOrderUptoRow, standIns := [], harness := (true, "875e94544f7b3e3bc550fc01497f23b4b140bca84561ec0ef7272a60241633d0"), looks := false }, kinds := [], alts := [], laidByText := true, laidKinds := [.data], laidTests := true, laidLooks := .later }
def AtomOrderUptoCardSaid : Prop := Claim7.holds Tryd.pinned (.plain (OpenSpec.upto atomOrderSpec)) atomOrderUptoCard

/-- THE SECOND FORM's CARD OF 'univocallaw13.AtomSize'. -/
def atomSizeUptoCard : Claim7 := { stood := { row := atomSizeUptoRow, standIns := [], harness := (true, "875e94544f7b3e3bc550fc01497f23b4b140bca84561ec0ef7272a60241633d0"), looks := false }, kinds := [], alts := [], laidByText := true, laidKinds := [.data], laidTests := true, laidLooks := .later }
def AtomSizeUptoCardSaid : Prop := Claim7.holds Tryd.pinned (.plain (OpenSpec.upto atomSizeSpec)) atomSizeUptoCard

/-- THE SECOND FORM's CARD OF 'univocallaw13.AtomConjunction'. -/
def atomConjunctionUptoCard : Claim7 := { stood := { row := atomConjunctionUptoRow, standIns := [], harness := (true, "875e94544f7b3e3bc550fc01497f23b4b140bca84561ec0ef7272a60241633d0"), looks := false }, kinds := [], alts := [], laidByText := true, laidKinds := [.data], laidTests := true, laidLooks := .later }
def AtomConjunctionUptoCardSaid : Prop := Claim7.holds Tryd.pinned (.plain (OpenSpec.upto atomConjunctionSpec)) atomConjunctionUptoCard

/-- THE SECOND FORM's CARD OF 'univocallaw13.AtomKinds'. -/
def atomKindsUptoCard : Claim7 := { stood := { row := atomKindsUptoRow, standIns := [], harness := (true, "875e94544f7b3e3bc550fc01497f23b4b140bca84561ec0ef7272a60241633d0"), looks := false }, kinds := [], alts := [], laidByText := true, laidKinds := [.data], laidTests := true, laidLooks := .later }
def AtomKindsUptoCardSaid : Prop := Claim7.holds Tryd.pinned (.plain (OpenSpec.upto atomKindsSpec)) atomKindsUptoCard

/-- THE SECOND FORM's CARD OF 'univocallaw13.AtomRejectsInvalid'. -/
def atomRejectsInvalidUptoCard : Claim7 := { stood := { row := atomRejectsInvalidUptoRow, standIns := [], harness := (true, "875e94544f7b3e3bc550fc01497f23b4b140bca84561ec0ef7272a60241633d0"), looks := false }, kinds := [], alts := [], laidByText := true, laidKinds := [.data], laidTests := true, laidLooks := .later }
def AtomRejectsInvalidUptoCardSaid : Prop := Claim7.holds Tryd.pinned (.plain (OpenSpec.upto atomRejectsInvalidSpec)) atomRejectsInvalidUptoCard
end Rows
end Go.Proofs.YtegdcifghaldoaaDoor
