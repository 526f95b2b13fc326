/- What all cards of the digest laws share: the table, a world for the witness. -/
import Derived.Test.YtdanaehfdbdhdaaDoorCards
import Derived.Test.YtdanaehfdbdhdaaDoorTie
import Derived.Test.YtdanaehfdbdhdaaDoorAb20
import Derived.Test.YtdanaehfdbdhdaaDoorVa
namespace Go.Proofs.YtdanaehfdbdhdaaDoor
set_option linter.unusedVariables false
open Go.Ab Go.RowKit Go.ChangeShapes

theorem own : ownKnob Tryd.prog.godebug = none := by kernel_rfl
theorem laidOut : laidOutB Tryd.prog = true := by kernel_rfl
theorem gTab : Tryd.prog.globalNamed "univocal/digest.rounds" = some 0 := by kernel_rfl
theorem gTabType : (Tryd.prog.globals[0]?).map (·.type) = some 60 := by kernel_rfl
theorem cells60 : Tryd.prog.cellsOf 60 = 64 := by kernel_rfl
theorem cells48 : Tryd.prog.cellsOf 48 = 1 := by kernel_rfl
theorem cells5 : Tryd.prog.cellsOf 5 = 1 := by kernel_rfl
theorem cells22 : Tryd.prog.cellsOf 22 = 1 := by kernel_rfl
theorem cells24 : Tryd.prog.cellsOf 24 = 32 := by kernel_rfl
noncomputable def roundZs : List Int := [1116352408, 1899447441, 3049323471, 3921009573, 961987163, 1508970993, 2453635748, 2870763221, 3624381080, 310598401, 607225278, 1426881987, 1925078388, 2162078206, 2614888103, 3248222580, 3835390401, 4022224774, 264347078, 604807628, 770255983, 1249150122, 1555081692, 1996064986, 2554220882, 2821834349, 2952996808, 3210313671, 3336571891, 3584528711, 113926993, 338241895, 666307205, 773529912, 1294757372, 1396182291, 1695183700, 1986661051, 2177026350, 2456956037, 2730485921, 2820302411, 3259730800, 3345764771, 3516065817, 3600352804, 4094571909, 275423344, 430227734, 506948616, 659060556, 883997877, 958139571, 1322822218, 1537002063, 1747873779, 1955562222, 2024104815, 2227730452, 2361852424, 2428436474, 2756734187, 3204031479, 3329325298]
theorem roundZs_eq : roundZs = Sha.consts.map (fun x => (x.toNat : Int)) := by decide +kernel
noncomputable abbrev laidL : List (String × DataW Unit) := [("univocal/digest.rounds", Rows.laid_univocal_digest_rounds)]
theorem table {W : World} (h : laidMetH Tryd.prog laidL W) : Lib.TabIs Tryd.prog W "univocal/digest.rounds" .u32 roundZs :=
  Lib.tabIs_of_head (rest := []) gTab gTabType Tryd.underlying60 Tryd.underlying48 cells48 cells60 h
/-- The table of the program, as data. -/
theorem globOK {W : World} (h : laidMetH Tryd.prog laidL W) : GlobOK gl (oldI W) W := by
  intro g c hg
  unfold gl at hg
  split at hg
  · rename_i e
    cases hg
    subst e
    have hlen : Sha.consts.length = 64 := by decide
    have hc : ∀ j, j < 64 → W.cell? ⟨0, j, none⟩ = some (.int .u32 (roundZs.getD j 0)) := fun j hj => (table h).cell gTab j (by rw [roundZs_eq, List.length_map, hlen]; exact hj)
    refine CellD.dp (.u32s Sha.consts) 0 0 0 (fun j => .int .u32 (roundZs.getD j 0)) (spot_none (hc 0 (by decide))).2 (by show 0 < Sha.consts.length; omega) (fun j hj => ?_) (fun j hj => ?_)
    · rw [Nat.zero_add]; exact hc j (hlen ▸ hj)
    · have hj' : j < Sha.consts.length := hj
      have e : roundZs.getD j 0 = ((Sha.consts.getD j 0).toNat : Int) := by
        rw [roundZs_eq]
        simp [List.getD_eq_getElem?_getD, hj']
      show CellD _ _ (.u32 (Sha.consts.getD j 0)) (.int .u32 (roundZs.getD j 0))
      rw [e]
      exact .flat (.u32 _) rfl
  · cases hg
/-- A world for the witness: the table holds what its initialiser lays. -/
noncomputable def laidWorld (os : Os) : World :=
  { World.holding Tryd.prog os ⟨#[], #[], []⟩ with heap := (World.holding Tryd.prog os ⟨#[], #[], []⟩).heap.modify 0 fun
      | .cells _ t frozen => .cells (roundZs.map (Value.int .u32)).toArray t frozen
      | o => o }

end Go.Proofs.YtdanaehfdbdhdaaDoor
