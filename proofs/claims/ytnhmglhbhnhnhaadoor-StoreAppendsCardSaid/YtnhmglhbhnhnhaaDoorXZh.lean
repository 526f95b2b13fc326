/- StoreAppends: for every input the law returns true, and each argument reads behind the call as it read before; the package-level table starts as the program's text lays it. -/
import Derived.Test.YtnhmglhbhnhnhaaDoorXTh
import Derived.Test.YtnhmglhbhnhnhaaDoorPe
namespace Go.Proofs.YtnhmglhbhnhnhaaDoor.storeAppends
set_option linter.unusedVariables false
open Go.Ab Go.RowKit Go.ChangeShapes

set_option maxRecDepth 100000 in
theorem contract (H : Type) (enc : TypeId × Value → H) (W : World) (base : Nat) (args : Array Value) (ds gs : List (DataW H)) (before : List MemPlace)
    (hval : ∀ (j : Nat) t v, Tryd.f9.params[j]? = some t → args[j]? = some v → Value.okWide Tryd.prog W .any base t v)
    (hW : DataW.Whole enc Tryd.prog Tryd.f9.params.toList Rows.storeAppendsSpec.vars false W args.toList ds gs before) (hL : laidMetH Tryd.prog Rows.storeAppendsRow.laid W) :
    Calls Tryd.prog 9 args W fun e W' => ∃ v, e = .returned v ∧ Rows.storeAppendsSpec.post enc Tryd.prog Tryd.f9 false true false false W args v W' := by
  have hW' := hW
  obtain ⟨p, q, hA0, hV, rfl, hfz, hnd⟩ := hW
  have hA : DataW.TrodAll enc Tryd.prog W 0 (fun _ => true) true Tryd.f9.params.toList args.toList ds p := hA0
  rw [Tryd.params9] at hA hval
  obtain ⟨v0, vs0, d0, ds0, p0, q0, hargs, rfl, rfl, h0, r0⟩ := trodAll_cons hA
  obtain ⟨v1, vs1, d1, ds1, p1, q1, rfl, rfl, rfl, h1, r1⟩ := trodAll_cons r0
  obtain ⟨v2, vs2, d2, ds2, p2, q2, rfl, rfl, rfl, h2, r2⟩ := trodAll_cons r1
  obtain ⟨rfl, rfl, rfl⟩ := trodAll_nil r2
  obtain rfl : args = #[v0, v1, v2] := by cases args; simp_all
  obtain ⟨rfl, rfl⟩ := trodVars_none hV
  clear hA0
  obtain ⟨us0, cl0, rfl, hd0, x0, rfl, hx0⟩ := arg_structN Tryd.underlying28 log_fit (hval 0 28 v0 rfl rfl) h0
  obtain ⟨us1, cl1, rfl, hd1, x1, rfl, hx1⟩ := arg_structN Tryd.underlying33 raw_fit (hval 1 33 v1 rfl rfl) h1
  obtain ⟨c2, hd2, l2, rfl, hl2⟩ := arg_slice Tryd.underlying31 (fit_bytes Tryd.underlying31 cellsU8 Tryd.underlying5) (hval 2 31 v2 rfl rfl) h2
  obtain ⟨v, rfl, -, hc⟩ := lawAppends_ok [.agg (logC x0), .agg (.cells (rawC x1)), .c (.ds l2.length (.u8s l2))] (fun v => v = .c (.bool true)) ⟨x0, x1, l2, rfl, ⟨hx0, hx1, hl2⟩, rfl⟩
  refine (hc (oldI W) W _ (globOK hL) (fun b h => h) (argsD_cells hd0 (argsD_cells hd1 (argsD_cell hd2 argsD_nil)))).mono fun e W' ⟨he, hs⟩ => ⟨_, he, ?_⟩
  exact row_post laidOut (by rw [Tryd.params9]; exact of_decide_eq_true (by kernel_rfl)) (by kernel_rfl) Tryd.underlying4 hW' rfl ⟨rfl, rfl, rfl⟩ hs

theorem laid_met (os : Os) : laidMet Tryd.prog Rows.storeAppendsRow.laid ((laidWorld os).forCall (fun _ _ => 0) ⟨#[], #[logW, .agg #[.int .u8 0, .slice none 0 0, .bool false], .slice none 0 0], []⟩).memory :=
  laidMet_of_run' 8 (by kernel_rfl) (by kernel_rfl)
theorem reads (os : Os) {H : Type} (enc : TypeId × Value → H) : ∃ places, DataW.whole enc Tryd.prog ((laidWorld os).forCall (fun _ _ => 0) ⟨#[], #[logW, .agg #[.int .u8 0, .slice none 0 0, .bool false], .slice none 0 0], []⟩).memory Tryd.f9.params.toList Rows.storeAppendsSpec.vars false (#[logW, .agg #[.int .u8 0, .slice none 0 0, .bool false], .slice none 0 0] : Array Value).toList 8 = some ([.agg [.nil, .lit (.int .u8 0), .agg (List.replicate 32 (.lit (.int .u8 0))), .agg [.lit (.int .u16 0), .lit (.int .u16 0)], .lit (.int .u16 0)], .agg [.lit (.int .u8 0), .nil, .lit (.bool false)], .nil], [], places) :=
  ⟨[], by kernel_rfl⟩

set_option maxRecDepth 100000 in
theorem lifted (os : Os) (started : os.Started) (H : Type) (enc : TypeId × Value → H) (F : Stop.Interp) :
    ReturnsInHanded {} Tryd.checked os 9 .any ((OpenSpec.ofChange Rows.storeAppendsSpec).preRow enc Tryd.prog Tryd.f9 Rows.storeAppendsRow.domain false Rows.storeAppendsRow.laid) (((OpenSpec.ofChange Rows.storeAppendsSpec).at F).post enc Tryd.prog Tryd.f9 false true false false) := by
  obtain ⟨places, hx⟩ := reads os enc
  refine returnsInHanded_of_row (C := Tryd.checked) (s := OpenSpec.ofChange Rows.storeAppendsSpec) own started (by kernel_rfl) Tryd.func9
    (witness_row_at (enc := enc) (C := Tryd.checked) false (laidWorld os) #[logW, .agg #[.int .u8 0, .slice none 0 0, .bool false], .slice none 0 0] rfl (by kernel_rfl) (by kernel_rfl) (by kernel_rfl)
      (OpenSpec.preRow_of_cond 8 hx (by kernel_rfl) (fun k hk => by cases hk) (by kernel_rfl) (laid_met os))) ?_
  intro W base args ds gs before hval hW _ _ _ hL _ _
  exact contract H enc W base args ds gs before hval hW hL

theorem said : Rows.StoreAppendsSaid :=
  OpenClaim.holds_of_cond 9 Tryd.f9 rfl rfl rfl rfl rfl rfl rfl ⟨rfl, rfl, rfl, rfl, rfl⟩ rfl rfl rfl rfl rfl (by kernel_rfl) Tryd.func9 (by kernel_rfl)
    (of_decide_eq_true (by kernel_rfl)) (by unfold Func.isWrapper; first | (rw [if_pos (by decide +kernel)]; kernel_rfl) | (rw [if_neg (by decide +kernel)]; exact ⟨rfl, rfl⟩))
    (fun os started H enc _ F => by rw [OpenClaim.pre_eq_preRow]; exact lifted os started H enc F)

theorem plain (f : FuncId) (fn : Func) (hf : Tryd.pinned.checked.prog.funcNamed "univocal/univocallaw29.StoreAppends" = some f) (hfn : Tryd.pinned.checked.prog.funcs[f]? = some fn) :
    false = Tryd.pinned.checked.prog.looks [] ∧ ∀ (j : Nat) t, fn.params[j]? = some t → Tryd.pinned.checked.prog.wantsStandIn t = false := by
  obtain rfl : f = 9 := Option.some.inj ((show Tryd.prog.funcNamed "univocal/univocallaw29.StoreAppends" = some 9 by kernel_rfl).symm.trans hf) |>.symm
  obtain rfl : fn = Tryd.f9 := (Option.some.inj (Tryd.func9.symm.trans hfn)).symm
  refine ⟨by kernel_rfl, fun j t ht => ?_⟩
  rw [Tryd.params9] at ht
  have hall : ∀ u ∈ [28, 33, 31], Tryd.prog.wantsStandIn u = false := of_decide_eq_true (by kernel_rfl)
  exact hall t (by simpa using Array.mem_of_getElem? ht)

theorem card : Rows.StoreAppendsCardSaid :=
  Claim7.holds_tied_plain_at .later [] _ _ _ _ said (fun _ h => by cases h) (by kernel_rfl) (fun _ h => by cases h) storeAppends_row_tie rfl ⟨rfl, rfl⟩ (by kernel_rfl) rfl plain (by kernel_rfl)
end Go.Proofs.YtnhmglhbhnhnhaaDoor.storeAppends
