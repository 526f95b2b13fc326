/- StoreRawMatchesReference: for every input the law returns true, and each argument reads behind the call as it read before; the package-level table starts as the program's text lays it. -/
import Derived.Test.YtnhmglhbhnhnhaaDoorXTc
import Derived.Test.YtnhmglhbhnhnhaaDoorPe
namespace Go.Proofs.YtnhmglhbhnhnhaaDoor.storeRawMatchesReference
set_option linter.unusedVariables false
open Go.Ab Go.RowKit Go.ChangeShapes

set_option maxRecDepth 100000 in
theorem contract (H : Type) (enc : TypeId × Value → H) (W : World) (base : Nat) (args : Array Value) (ds gs : List (DataW H)) (before : List MemPlace)
    (hval : ∀ (j : Nat) t v, Tryd.f4.params[j]? = some t → args[j]? = some v → Value.okWide Tryd.prog W .any base t v)
    (hW : DataW.Whole enc Tryd.prog Tryd.f4.params.toList Rows.storeRawMatchesReferenceSpec.vars false W args.toList ds gs before) (hL : laidMetH Tryd.prog Rows.storeRawMatchesReferenceRow.laid W) :
    Calls Tryd.prog 4 args W fun e W' => ∃ v, e = .returned v ∧ Rows.storeRawMatchesReferenceSpec.post enc Tryd.prog Tryd.f4 false true false false W args v W' := by
  have hW' := hW
  obtain ⟨p, q, hA0, hV, rfl, hfz, hnd⟩ := hW
  have hA : DataW.TrodAll enc Tryd.prog W 0 (fun _ => true) true Tryd.f4.params.toList args.toList ds p := hA0
  rw [Tryd.params4] at hA hval
  obtain ⟨v0, vs0, d0, ds0, p0, q0, hargs, rfl, rfl, h0, r0⟩ := trodAll_cons hA
  obtain ⟨v1, vs1, d1, ds1, p1, q1, rfl, rfl, rfl, h1, r1⟩ := trodAll_cons r0
  obtain ⟨v2, vs2, d2, ds2, p2, q2, rfl, rfl, rfl, h2, r2⟩ := trodAll_cons r1
  obtain ⟨rfl, rfl, rfl⟩ := trodAll_nil r2
  obtain rfl : args = #[v0, v1, v2] := by cases args; simp_all
  obtain ⟨rfl, rfl⟩ := trodVars_none hV
  clear hA0
  obtain ⟨c0, hd0, l0, rfl, hl0⟩ := arg_slice Tryd.underlying31 (fit_bytes Tryd.underlying31 cellsU8 Tryd.underlying5) (hval 0 31 v0 rfl rfl) h0
  obtain ⟨c1, hd1, l1, rfl, hl1⟩ := arg_int Tryd.underlying3 (fit_int Tryd.underlying3) (hval 1 3 v1 rfl rfl) h1
  rw [inR_i64] at hl1
  obtain ⟨c2, hd2, z2, rfl, hl2⟩ := arg_int Tryd.underlying25 (fit_int Tryd.underlying25) (hval 2 25 v2 rfl rfl) h2
  obtain ⟨m2, rfl, hm2⟩ := u16_nat hl2
  obtain ⟨v, rfl, -, hc⟩ := lawRaw_ok [.c (.ds l0.length (.u8s l0)), .c (.int .i64 l1), .c (.int .u16 (m2 : Nat))] (fun v => v = .c (.bool true)) ⟨l0, l1, m2, rfl, ⟨hl0, hl1.1, hl1.2, hm2⟩, rfl⟩
  refine (hc (oldI W) W _ (globOK hL) (fun b h => h) (argsD_cell hd0 (argsD_cell hd1 (argsD_cell hd2 argsD_nil)))).mono fun e W' ⟨he, hs⟩ => ⟨_, he, ?_⟩
  exact row_post laidOut (by rw [Tryd.params4]; exact of_decide_eq_true (by kernel_rfl)) (by kernel_rfl) Tryd.underlying4 hW' rfl ⟨rfl, rfl, rfl⟩ hs

theorem laid_met (os : Os) : laidMet Tryd.prog Rows.storeRawMatchesReferenceRow.laid ((laidWorld os).forCall (fun _ _ => 0) ⟨#[], #[.slice none 0 0, .int .i64 0, .int .u16 0], []⟩).memory :=
  laidMet_of_run' 8 (by kernel_rfl) (by kernel_rfl)
theorem reads (os : Os) {H : Type} (enc : TypeId × Value → H) : ∃ places, DataW.whole enc Tryd.prog ((laidWorld os).forCall (fun _ _ => 0) ⟨#[], #[.slice none 0 0, .int .i64 0, .int .u16 0], []⟩).memory Tryd.f4.params.toList Rows.storeRawMatchesReferenceSpec.vars false (#[.slice none 0 0, .int .i64 0, .int .u16 0] : Array Value).toList 8 = some ([.nil, .lit (.int .i64 0), .lit (.int .u16 0)], [], places) :=
  ⟨[], by kernel_rfl⟩

set_option maxRecDepth 100000 in
theorem lifted (os : Os) (started : os.Started) (H : Type) (enc : TypeId × Value → H) (F : Stop.Interp) :
    ReturnsInHanded {} Tryd.checked os 4 .any ((OpenSpec.ofChange Rows.storeRawMatchesReferenceSpec).preRow enc Tryd.prog Tryd.f4 Rows.storeRawMatchesReferenceRow.domain false Rows.storeRawMatchesReferenceRow.laid) (((OpenSpec.ofChange Rows.storeRawMatchesReferenceSpec).at F).post enc Tryd.prog Tryd.f4 false true false false) := by
  obtain ⟨places, hx⟩ := reads os enc
  refine returnsInHanded_of_row (C := Tryd.checked) (s := OpenSpec.ofChange Rows.storeRawMatchesReferenceSpec) own started (by kernel_rfl) Tryd.func4
    (witness_row_at (enc := enc) (C := Tryd.checked) false (laidWorld os) #[.slice none 0 0, .int .i64 0, .int .u16 0] rfl (by kernel_rfl) (by kernel_rfl) (by kernel_rfl)
      (OpenSpec.preRow_of_cond 8 hx (by kernel_rfl) (fun k hk => by cases hk) (by kernel_rfl) (laid_met os))) ?_
  intro W base args ds gs before hval hW _ _ _ hL _ _
  exact contract H enc W base args ds gs before hval hW hL

theorem said : Rows.StoreRawMatchesReferenceSaid :=
  OpenClaim.holds_of_cond 4 Tryd.f4 rfl rfl rfl rfl rfl rfl rfl ⟨rfl, rfl, rfl, rfl, rfl⟩ rfl rfl rfl rfl rfl (by kernel_rfl) Tryd.func4 (by kernel_rfl)
    (of_decide_eq_true (by kernel_rfl)) (by unfold Func.isWrapper; first | (rw [if_pos (by decide +kernel)]; kernel_rfl) | (rw [if_neg (by decide +kernel)]; exact ⟨rfl, rfl⟩))
    (fun os started H enc _ F => by rw [OpenClaim.pre_eq_preRow]; exact lifted os started H enc F)

theorem plain (f : FuncId) (fn : Func) (hf : Tryd.pinned.checked.prog.funcNamed "univocal/univocallaw29.StoreRawMatchesReference" = some f) (hfn : Tryd.pinned.checked.prog.funcs[f]? = some fn) :
    false = Tryd.pinned.checked.prog.looks [] ∧ ∀ (j : Nat) t, fn.params[j]? = some t → Tryd.pinned.checked.prog.wantsStandIn t = false := by
  obtain rfl : f = 4 := Option.some.inj ((show Tryd.prog.funcNamed "univocal/univocallaw29.StoreRawMatchesReference" = some 4 by kernel_rfl).symm.trans hf) |>.symm
  obtain rfl : fn = Tryd.f4 := (Option.some.inj (Tryd.func4.symm.trans hfn)).symm
  refine ⟨by kernel_rfl, fun j t ht => ?_⟩
  rw [Tryd.params4] at ht
  have hall : ∀ u ∈ [31, 3, 25], Tryd.prog.wantsStandIn u = false := of_decide_eq_true (by kernel_rfl)
  exact hall t (by simpa using Array.mem_of_getElem? ht)

theorem card : Rows.StoreRawMatchesReferenceCardSaid :=
  Claim7.holds_tied_plain_at .later [] _ _ _ _ said (fun _ h => by cases h) (by kernel_rfl) (fun _ h => by cases h) storeRawMatchesReference_row_tie rfl ⟨rfl, rfl⟩ (by kernel_rfl) rfl plain (by kernel_rfl)
end Go.Proofs.YtnhmglhbhnhnhaaDoor.storeRawMatchesReference
