/- What all cards of the laws of lengths share: the table, a world for the witness. -/
import Derived.Test.YtpfncffapgkjaaaDoorCards
import Derived.Test.YtpfncffapgkjaaaDoorTie
import Derived.Test.YtpfncffapgkjaaaDoorAb23
import Derived.Test.YtpfncffapgkjaaaDoorLa
namespace Go.Proofs.YtpfncffapgkjaaaDoor
set_option linter.unusedVariables false
open Go.Ab Go.RowKit Go.ChangeShapes

theorem own : ownKnob Tryd.prog.godebug = none := by kernel_rfl
theorem laidOut : laidOutB Tryd.prog = true := by kernel_rfl
theorem gTab : Tryd.prog.globalNamed "math/bits.deBruijn64tab" = some 0 := by kernel_rfl
theorem gTabType : (Tryd.prog.globals[0]?).map (·.type) = some 73 := by kernel_rfl
theorem cellsTab : Tryd.prog.cellsOf 73 = 64 := by kernel_rfl
theorem cellsU8 : Tryd.prog.cellsOf 5 = 1 := by kernel_rfl
theorem cellsBO : Tryd.prog.cellsOf 4 = 1 := by kernel_rfl
theorem cellsSB : Tryd.prog.cellsOf 22 = 1 := by kernel_rfl
theorem cellsLE : Tryd.prog.cellsOf 24 = 2 := by kernel_rfl
noncomputable def tabZs : List Int := [0, 1, 56, 2, 57, 49, 28, 3, 61, 58, 42, 50, 38, 29, 17, 4, 62, 47, 59, 36, 45, 43, 51, 22, 53, 39, 33, 30, 24, 18, 12, 5, 63, 55, 48, 27, 60, 41, 37, 16, 46, 35, 44, 21, 52, 32, 23, 11, 54, 26, 40, 15, 34, 20, 31, 10, 25, 14, 19, 9, 13, 8, 7, 6]
theorem tabZs_eq : tabZs = debruijn.map (fun x => (x.toNat : Int)) := by decide +kernel
noncomputable abbrev laidL : List (String × DataW Unit) := [("math/bits.deBruijn64tab", Rows.laid_math_bits_deBruijn64tab)]
theorem table {W : World} (h : laidMetH Tryd.prog laidL W) : Lib.TabIs Tryd.prog W "math/bits.deBruijn64tab" .u8 tabZs :=
  Lib.tabIs_of_head (rest := []) gTab gTabType Tryd.underlying73 Tryd.underlying5 cellsU8 cellsTab h
/-- The table of the program, as data. -/
theorem globOK {W : World} (h : laidMetH Tryd.prog laidL W) : GlobOK gl (oldI W) W := by
  intro g c hg
  unfold gl at hg
  split at hg
  · rename_i e
    cases hg
    subst e
    have hlen : debruijn.length = 64 := by decide
    have hc : ∀ j, j < 64 → W.cell? ⟨0, j, none⟩ = some (.int .u8 (tabZs.getD j 0)) := fun j hj => (table h).cell gTab j (by rw [tabZs_eq, List.length_map, hlen]; exact hj)
    refine CellD.dp (.u8s debruijn) 0 0 0 (fun j => .int .u8 (tabZs.getD j 0)) (spot_none (hc 0 (by decide))).2 (by show 0 < debruijn.length; omega) (fun j hj => ?_) (fun j hj => ?_)
    · rw [Nat.zero_add]; exact hc j (hlen ▸ hj)
    · have hj' : j < debruijn.length := hj
      have e : tabZs.getD j 0 = ((debruijn.getD j 0).toNat : Int) := by
        rw [tabZs_eq]
        simp [List.getD_eq_getElem?_getD, hj']
      show CellD _ _ (.u8 (debruijn.getD j 0)) (.int .u8 (tabZs.getD j 0))
      rw [e]
      exact .flat (.u8 _) rfl
  · cases hg
/-- A world for the witness: the table holds what its initialiser lays. -/
noncomputable def laidWorld (os : Os) : World :=
  { World.holding Tryd.prog os ⟨#[], #[], []⟩ with heap := (World.holding Tryd.prog os ⟨#[], #[], []⟩).heap.modify 0 fun
      | .cells _ t frozen => .cells (tabZs.map (Value.int .u8)).toArray t frozen
      | o => o }

end Go.Proofs.YtpfncffapgkjaaaDoor
