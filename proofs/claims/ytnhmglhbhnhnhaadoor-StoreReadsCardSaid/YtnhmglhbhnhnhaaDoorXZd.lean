/- StoreReads: for every input the law returns true, and each argument reads behind the call as it read before; the package-level table starts as the program's text lays it. -/
import Derived.Test.YtnhmglhbhnhnhaaDoorXTd
import Derived.Test.YtnhmglhbhnhnhaaDoorPe
namespace Go.Proofs.YtnhmglhbhnhnhaaDoor.storeReads
set_option linter.unusedVariables false
open Go.Ab Go.RowKit Go.ChangeShapes

set_option maxRecDepth 100000 in
theorem contract (H : Type) (enc : TypeId × Value → H) (W : World) (base : Nat) (args : Array Value) (ds gs : List (DataW H)) (before : List MemPlace)
    (hval : ∀ (j : Nat) t v, Tryd.f5.params[j]? = some t → args[j]? = some v → Value.okWide Tryd.prog W .any base t v)
    (hW : DataW.Whole enc Tryd.prog Tryd.f5.params.toList Rows.storeReadsSpec.vars false W args.toList ds gs before) (hL : laidMetH Tryd.prog Rows.storeReadsRow.laid W) :
    Calls Tryd.prog 5 args W fun e W' => ∃ v, e = .returned v ∧ Rows.storeReadsSpec.post enc Tryd.prog Tryd.f5 false true false false W args v W' := by
  have hW' := hW
  obtain ⟨p, q, hA0, hV, rfl, hfz, hnd⟩ := hW
  have hA : DataW.TrodAll enc Tryd.prog W 0 (fun _ => true) true Tryd.f5.params.toList args.toList ds p := hA0
  rw [Tryd.params5] at hA hval
  obtain ⟨v0, vs0, d0, ds0, p0, q0, hargs, rfl, rfl, h0, r0⟩ := trodAll_cons hA
  obtain ⟨v1, vs1, d1, ds1, p1, q1, rfl, rfl, rfl, h1, r1⟩ := trodAll_cons r0
  obtain ⟨rfl, rfl, rfl⟩ := trodAll_nil r1
  obtain rfl : args = #[v0, v1] := by cases args; simp_all
  obtain ⟨rfl, rfl⟩ := trodVars_none hV
  clear hA0
  obtain ⟨us0, cl0, rfl, hd0, x0, rfl, hx0⟩ := arg_structN Tryd.underlying28 log_fit (hval 0 28 v0 rfl rfl) h0
  obtain ⟨c1, hd1, l1, rfl⟩ := arg_int Tryd.underlying5 (fit_u8 Tryd.underlying5) (hval 1 5 v1 rfl rfl) h1
  obtain ⟨v, rfl, -, hc⟩ := lawReads_ok [.agg (logC x0), .c (.u8 l1)] (fun v => v = .c (.bool true)) ⟨x0, l1, rfl, hx0, rfl⟩
  refine (hc (oldI W) W _ (globOK hL) (fun b h => h) (argsD_cells hd0 (argsD_cell hd1 argsD_nil))).mono fun e W' ⟨he, hs⟩ => ⟨_, he, ?_⟩
  exact row_post laidOut (by rw [Tryd.params5]; exact of_decide_eq_true (by kernel_rfl)) (by kernel_rfl) Tryd.underlying4 hW' rfl ⟨rfl, rfl, rfl⟩ hs

theorem laid_met (os : Os) : laidMet Tryd.prog Rows.storeReadsRow.laid ((laidWorld os).forCall (fun _ _ => 0) ⟨#[], #[logW, .int .u8 0], []⟩).memory :=
  laidMet_of_run' 8 (by kernel_rfl) (by kernel_rfl)
theorem reads (os : Os) {H : Type} (enc : TypeId × Value → H) : ∃ places, DataW.whole enc Tryd.prog ((laidWorld os).forCall (fun _ _ => 0) ⟨#[], #[logW, .int .u8 0], []⟩).memory Tryd.f5.params.toList Rows.storeReadsSpec.vars false (#[logW, .int .u8 0] : Array Value).toList 8 = some ([.agg [.nil, .lit (.int .u8 0), .agg (List.replicate 32 (.lit (.int .u8 0))), .agg [.lit (.int .u16 0), .lit (.int .u16 0)], .lit (.int .u16 0)], .lit (.int .u8 0)], [], places) :=
  ⟨[], by kernel_rfl⟩

set_option maxRecDepth 100000 in
theorem lifted (os : Os) (started : os.Started) (H : Type) (enc : TypeId × Value → H) (F : Stop.Interp) :
    ReturnsInHanded {} Tryd.checked os 5 .any ((OpenSpec.ofChange Rows.storeReadsSpec).preRow enc Tryd.prog Tryd.f5 Rows.storeReadsRow.domain false Rows.storeReadsRow.laid) (((OpenSpec.ofChange Rows.storeReadsSpec).at F).post enc Tryd.prog Tryd.f5 false true false false) := by
  obtain ⟨places, hx⟩ := reads os enc
  refine returnsInHanded_of_row (C := Tryd.checked) (s := OpenSpec.ofChange Rows.storeReadsSpec) own started (by kernel_rfl) Tryd.func5
    (witness_row_at (enc := enc) (C := Tryd.checked) false (laidWorld os) #[logW, .int .u8 0] rfl (by kernel_rfl) (by kernel_rfl) (by kernel_rfl)
      (OpenSpec.preRow_of_cond 8 hx (by kernel_rfl) (fun k hk => by cases hk) (by kernel_rfl) (laid_met os))) ?_
  intro W base args ds gs before hval hW _ _ _ hL _ _
  exact contract H enc W base args ds gs before hval hW hL

theorem said : Rows.StoreReadsSaid :=
  OpenClaim.holds_of_cond 5 Tryd.f5 rfl rfl rfl rfl rfl rfl rfl ⟨rfl, rfl, rfl, rfl, rfl⟩ rfl rfl rfl rfl rfl (by kernel_rfl) Tryd.func5 (by kernel_rfl)
    (of_decide_eq_true (by kernel_rfl)) (by unfold Func.isWrapper; first | (rw [if_pos (by decide +kernel)]; kernel_rfl) | (rw [if_neg (by decide +kernel)]; exact ⟨rfl, rfl⟩))
    (fun os started H enc _ F => by rw [OpenClaim.pre_eq_preRow]; exact lifted os started H enc F)

theorem plain (f : FuncId) (fn : Func) (hf : Tryd.pinned.checked.prog.funcNamed "univocal/univocallaw29.StoreReads" = some f) (hfn : Tryd.pinned.checked.prog.funcs[f]? = some fn) :
    false = Tryd.pinned.checked.prog.looks [] ∧ ∀ (j : Nat) t, fn.params[j]? = some t → Tryd.pinned.checked.prog.wantsStandIn t = false := by
  obtain rfl : f = 5 := Option.some.inj ((show Tryd.prog.funcNamed "univocal/univocallaw29.StoreReads" = some 5 by kernel_rfl).symm.trans hf) |>.symm
  obtain rfl : fn = Tryd.f5 := (Option.some.inj (Tryd.func5.symm.trans hfn)).symm
  refine ⟨by kernel_rfl, fun j t ht => ?_⟩
  rw [Tryd.params5] at ht
  have hall : ∀ u ∈ [28, 5], Tryd.prog.wantsStandIn u = false := of_decide_eq_true (by kernel_rfl)
  exact hall t (by simpa using Array.mem_of_getElem? ht)

theorem card : Rows.StoreReadsCardSaid :=
  Claim7.holds_tied_plain_at .later [] _ _ _ _ said (fun _ h => by cases h) (by kernel_rfl) (fun _ h => by cases h) storeReads_row_tie rfl ⟨rfl, rfl⟩ (by kernel_rfl) rfl plain (by kernel_rfl)
end Go.Proofs.YtnhmglhbhnhnhaaDoor.storeReads
