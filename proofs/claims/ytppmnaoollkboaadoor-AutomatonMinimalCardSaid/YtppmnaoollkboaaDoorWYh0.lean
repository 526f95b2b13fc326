/- AutomatonMinimal, all but its card: for every input the law returns true, and each argument reads behind the call as it read before; the package-level table starts as the program's text lays it. -/
import Derived.Test.YtppmnaoollkboaaDoorWVx
import Derived.Test.YtppmnaoollkboaaDoorWYa
namespace Go.Proofs.YtppmnaoollkboaaDoor.automatonMinimal
set_option linter.all false
open Go.Ab Go.RowKit Go.ChangeShapes

set_option maxRecDepth 100000 in
theorem contract (H : Type) (enc : TypeId × Value → H) (W : World) (base : Nat) (args : Array Value) (ds gs : List (DataW H)) (before : List MemPlace)
    (hval : ∀ (j : Nat) t v, Tryd.f6.params[j]? = some t → args[j]? = some v → Value.okWide Tryd.prog W .any base t v)
    (hW : DataW.Whole enc Tryd.prog Tryd.f6.params.toList Rows.automatonMinimalSpec.vars false W args.toList ds gs before) (hL : laidMetH Tryd.prog Rows.automatonMinimalRow.laid W) :
    Calls Tryd.prog 6 args W fun e W' => ∃ v, e = .returned v ∧ Rows.automatonMinimalSpec.post enc Tryd.prog Tryd.f6 false true false false W args v W' := by
  have hW' := hW
  obtain ⟨p, q, hA0, hV, rfl, hfz, hnd⟩ := hW
  have hA : DataW.TrodAll enc Tryd.prog W 0 (fun _ => true) true Tryd.f6.params.toList args.toList ds p := hA0
  rw [Tryd.params6] at hA hval; obtain ⟨v0, vs0, d0, ds0, p0, q0, hargs, rfl, rfl, h0, r0⟩ := trodAll_cons hA; obtain ⟨rfl, rfl, rfl⟩ := trodAll_nil r0
  obtain rfl : args = #[v0] := by cases args; simp_all
  obtain ⟨rfl, rfl⟩ := trodVars_none hV; clear hA0; obtain ⟨us0, cl0, rfl, hd0, a0, l0, m0, rfl, hl0⟩ := z8d Tryd.underlying24 zkg (hval 0 24 v0 rfl rfl) h0; obtain ⟨v, rfl, -, hc⟩ := zkd [shpV a0 l0 m0] (fun v => v = .c (.bool true)) ⟨a0, l0, m0, rfl, hl0, rfl⟩; refine (hc (oldI W) W _ (globOK hL) (fun b h => h) (z8e hd0 zl4)).mono fun e W' ⟨he, hs⟩ => ⟨_, he, ?_⟩; exact zpq zza (by rw [Tryd.params6]; exact of_decide_eq_true (by kernel_rfl)) (by kernel_rfl) Tryd.underlying4 hW' rfl ⟨rfl, rfl, rfl⟩ hs

theorem laid_met (os : Os) : laidMet Tryd.prog Rows.automatonMinimalRow.laid ((z81 os).forCall (fun _ _ => 0) ⟨#[], #[.agg #[.int .u8 0, .slice none 0 0, .int .u8 0]], []⟩).memory :=
  laidMet_of_run' 8 (by kernel_rfl) (by kernel_rfl)
theorem reads (os : Os) {H : Type} (enc : TypeId × Value → H) : ∃ places, DataW.whole enc Tryd.prog ((z81 os).forCall (fun _ _ => 0) ⟨#[], #[.agg #[.int .u8 0, .slice none 0 0, .int .u8 0]], []⟩).memory Tryd.f6.params.toList Rows.automatonMinimalSpec.vars false (#[.agg #[.int .u8 0, .slice none 0 0, .int .u8 0]] : Array Value).toList 8 = some ([.agg [.lit (.int .u8 0), .nil, .lit (.int .u8 0)]], [], places) :=
  ⟨[], by kernel_rfl⟩

set_option maxRecDepth 100000 in
theorem lifted (os : Os) (started : os.Started) (H : Type) (enc : TypeId × Value → H) (F : Stop.Interp) :
    ReturnsInHanded {} Tryd.checked os 6 .any ((OpenSpec.ofChange Rows.automatonMinimalSpec).preRow enc Tryd.prog Tryd.f6 Rows.automatonMinimalRow.domain false Rows.automatonMinimalRow.laid) (((OpenSpec.ofChange Rows.automatonMinimalSpec).at F).post enc Tryd.prog Tryd.f6 false true false false) := by
  obtain ⟨places, hx⟩ := reads os enc
  refine returnsInHanded_of_row (C := Tryd.checked) (s := OpenSpec.ofChange Rows.automatonMinimalSpec) own started (by kernel_rfl) Tryd.func6
    (witness_row_at (enc := enc) (C := Tryd.checked) false (z81 os) #[.agg #[.int .u8 0, .slice none 0 0, .int .u8 0]] rfl (by kernel_rfl) (by kernel_rfl) (by kernel_rfl)
      (OpenSpec.preRow_of_cond 8 hx (by kernel_rfl) (fun k hk => by cases hk) (by kernel_rfl) (laid_met os))) ?_
  intro W base args ds gs before hval hW _ _ _ hL _ _; exact contract H enc W base args ds gs before hval hW hL

set_option maxRecDepth 100000 in
theorem closed : joinedFacts Tryd.prog 6 Tryd.f6 (OpenSpec.ofChange Rows.automatonMinimalSpec).bare Rows.automatonMinimalRow = true := by
  unfold joinedFacts; exact andT (andT (andT (andT (andT (andT (andT (by kernel_rfl) zrx) zmq) zz8) (by kernel_rfl)) (by kernel_rfl)) (by kernel_rfl)) (by kernel_rfl)
theorem said : Rows.AutomatonMinimalSaid :=
  OpenClaim.holds_of_cond 6 Tryd.f6 rfl rfl rfl rfl rfl rfl rfl ⟨rfl, rfl, rfl, rfl, rfl⟩ rfl rfl rfl rfl rfl (by kernel_rfl) Tryd.func6 closed
    (of_decide_eq_true (by kernel_rfl)) (by unfold Func.isWrapper; first | (rw [if_pos (by decide +kernel)]; kernel_rfl) | (rw [if_neg (by decide +kernel)]; exact ⟨rfl, rfl⟩))
    (fun os started H enc _ F => by rw [OpenClaim.pre_eq_preRow]; exact lifted os started H enc F)
end Go.Proofs.YtppmnaoollkboaaDoor.automatonMinimal
