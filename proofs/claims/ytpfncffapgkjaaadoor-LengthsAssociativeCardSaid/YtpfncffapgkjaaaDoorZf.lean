/- LengthsAssociative: for every input the law returns true, and each argument reads behind the call as it read before; the package-level table starts as the program's text lays it. -/
import Derived.Test.YtpfncffapgkjaaaDoorNe
import Derived.Test.YtpfncffapgkjaaaDoorZa
namespace Go.Proofs.YtpfncffapgkjaaaDoor.lengthsAssociative
set_option linter.unusedVariables false
open Go.Ab Go.RowKit Go.ChangeShapes

theorem contract (H : Type) (enc : TypeId × Value → H) (W : World) (base : Nat) (args : Array Value) (ds gs : List (DataW H)) (before : List MemPlace)
    (hval : ∀ (j : Nat) t v, Tryd.f8.params[j]? = some t → args[j]? = some v → Value.okWide Tryd.prog W .any base t v)
    (hW : DataW.Whole enc Tryd.prog Tryd.f8.params.toList Rows.lengthsAssociativeSpec.vars false W args.toList ds gs before) (hL : laidMetH Tryd.prog Rows.lengthsAssociativeRow.laid W) :
    Calls Tryd.prog 8 args W fun e W' => ∃ v, e = .returned v ∧ Rows.lengthsAssociativeSpec.post enc Tryd.prog Tryd.f8 false true false false W args v W' := by
  have hW' := hW
  obtain ⟨p, q, hA0, hV, rfl, hfz, hnd⟩ := hW
  have hA : DataW.TrodAll enc Tryd.prog W 0 (fun _ => true) true Tryd.f8.params.toList args.toList ds p := hA0
  rw [Tryd.params8] at hA hval
  obtain ⟨v0, vs0, d0, ds0, p0, q0, hargs, rfl, rfl, h0, r0⟩ := trodAll_cons hA
  obtain ⟨v1, vs1, d1, ds1, p1, q1, rfl, rfl, rfl, h1, r1⟩ := trodAll_cons r0
  obtain ⟨v2, vs2, d2, ds2, p2, q2, rfl, rfl, rfl, h2, r2⟩ := trodAll_cons r1
  obtain ⟨rfl, rfl, rfl⟩ := trodAll_nil r2
  obtain rfl : args = #[v0, v1, v2] := by cases args; simp_all
  obtain ⟨rfl, rfl⟩ := trodVars_none hV
  clear hA0
  obtain ⟨ya0, yb0, ca0, cb0, rfl, hda0, hdb0, ⟨la0, rfl, hla0⟩, ⟨lb0, rfl, hlb0⟩⟩ := arg_struct2 Tryd.underlying24 rfl rfl cellsSB cellsSB cellsLE (fit_bools Tryd.underlying22 cellsBO Tryd.underlying4) (fit_bools Tryd.underlying22 cellsBO Tryd.underlying4) (hval 0 24 v0 rfl rfl) h0
  obtain ⟨ya1, yb1, ca1, cb1, rfl, hda1, hdb1, ⟨la1, rfl, hla1⟩, ⟨lb1, rfl, hlb1⟩⟩ := arg_struct2 Tryd.underlying24 rfl rfl cellsSB cellsSB cellsLE (fit_bools Tryd.underlying22 cellsBO Tryd.underlying4) (fit_bools Tryd.underlying22 cellsBO Tryd.underlying4) (hval 1 24 v1 rfl rfl) h1
  obtain ⟨ya2, yb2, ca2, cb2, rfl, hda2, hdb2, ⟨la2, rfl, hla2⟩, ⟨lb2, rfl, hlb2⟩⟩ := arg_struct2 Tryd.underlying24 rfl rfl cellsSB cellsSB cellsLE (fit_bools Tryd.underlying22 cellsBO Tryd.underlying4) (fit_bools Tryd.underlying22 cellsBO Tryd.underlying4) (hval 2 24 v2 rfl rfl) h2
  obtain ⟨v, rfl, -, hc⟩ := lawAssoc_ok [lsV la0 lb0, lsV la1 lb1, lsV la2 lb2] (fun v => v = .c (.bool true)) ⟨la0, lb0, la1, lb1, la2, lb2, rfl, ⟨hla0, hlb0, hla1, hlb1, hla2, hlb2⟩, rfl⟩
  refine (hc (oldI W) W _ (globOK hL) (fun b h => h) (argsD_pair hda0 hdb0 (argsD_pair hda1 hdb1 (argsD_pair hda2 hdb2 argsD_nil)))).mono fun e W' ⟨he, hs⟩ => ⟨_, he, ?_⟩
  exact row_post laidOut (by rw [Tryd.params8]; exact of_decide_eq_true (by kernel_rfl)) (by kernel_rfl) Tryd.underlying4 hW' rfl ⟨rfl, rfl, rfl⟩ hs

theorem laid_met (os : Os) : laidMet Tryd.prog Rows.lengthsAssociativeRow.laid ((laidWorld os).forCall (fun _ _ => 0) ⟨#[], #[.agg #[.slice none 0 0, .slice none 0 0], .agg #[.slice none 0 0, .slice none 0 0], .agg #[.slice none 0 0, .slice none 0 0]], []⟩).memory :=
  laidMet_of_run' 8 (by kernel_rfl) (by kernel_rfl)
theorem reads (os : Os) {H : Type} (enc : TypeId × Value → H) : ∃ places, DataW.whole enc Tryd.prog ((laidWorld os).forCall (fun _ _ => 0) ⟨#[], #[.agg #[.slice none 0 0, .slice none 0 0], .agg #[.slice none 0 0, .slice none 0 0], .agg #[.slice none 0 0, .slice none 0 0]], []⟩).memory Tryd.f8.params.toList Rows.lengthsAssociativeSpec.vars false (#[.agg #[.slice none 0 0, .slice none 0 0], .agg #[.slice none 0 0, .slice none 0 0], .agg #[.slice none 0 0, .slice none 0 0]] : Array Value).toList 8 = some ([.agg [.nil, .nil], .agg [.nil, .nil], .agg [.nil, .nil]], [], places) :=
  ⟨[], by kernel_rfl⟩

set_option maxRecDepth 100000 in
theorem lifted (os : Os) (started : os.Started) (H : Type) (enc : TypeId × Value → H) (F : Stop.Interp) :
    ReturnsInHanded {} Tryd.checked os 8 .any ((OpenSpec.ofChange Rows.lengthsAssociativeSpec).preRow enc Tryd.prog Tryd.f8 Rows.lengthsAssociativeRow.domain false Rows.lengthsAssociativeRow.laid) (((OpenSpec.ofChange Rows.lengthsAssociativeSpec).at F).post enc Tryd.prog Tryd.f8 false true false false) := by
  obtain ⟨places, hx⟩ := reads os enc
  refine returnsInHanded_of_row (C := Tryd.checked) (s := OpenSpec.ofChange Rows.lengthsAssociativeSpec) own started (by kernel_rfl) Tryd.func8
    (witness_row_at (enc := enc) (C := Tryd.checked) false (laidWorld os) #[.agg #[.slice none 0 0, .slice none 0 0], .agg #[.slice none 0 0, .slice none 0 0], .agg #[.slice none 0 0, .slice none 0 0]] rfl (by kernel_rfl) (by kernel_rfl) (by kernel_rfl)
      (OpenSpec.preRow_of_cond 8 hx (by kernel_rfl) (fun k hk => by cases hk) (by kernel_rfl) (laid_met os))) ?_
  intro W base args ds gs before hval hW _ _ _ hL _ _
  exact contract H enc W base args ds gs before hval hW hL

theorem said : Rows.LengthsAssociativeSaid :=
  OpenClaim.holds_of_cond 8 Tryd.f8 rfl rfl rfl rfl rfl rfl rfl ⟨rfl, rfl, rfl, rfl, rfl⟩ rfl rfl rfl rfl rfl (by kernel_rfl) Tryd.func8 (by kernel_rfl)
    (of_decide_eq_true (by kernel_rfl)) (by unfold Func.isWrapper; first | (rw [if_pos (by decide +kernel)]; kernel_rfl) | (rw [if_neg (by decide +kernel)]; exact ⟨rfl, rfl⟩))
    (fun os started H enc _ F => by rw [OpenClaim.pre_eq_preRow]; exact lifted os started H enc F)

/-- No parameter wants a stand-in; the program's own looks are off. -/
theorem plain (f : FuncId) (fn : Func) (hf : Tryd.pinned.checked.prog.funcNamed "univocal/univocallaw05.LengthsAssociative" = some f) (hfn : Tryd.pinned.checked.prog.funcs[f]? = some fn) :
    false = Tryd.pinned.checked.prog.looks [] ∧ ∀ (j : Nat) t, fn.params[j]? = some t → Tryd.pinned.checked.prog.wantsStandIn t = false := by
  obtain rfl : f = 8 := Option.some.inj ((show Tryd.prog.funcNamed "univocal/univocallaw05.LengthsAssociative" = some 8 by kernel_rfl).symm.trans hf) |>.symm
  obtain rfl : fn = Tryd.f8 := (Option.some.inj (Tryd.func8.symm.trans hfn)).symm
  refine ⟨by kernel_rfl, fun j t ht => ?_⟩
  rw [Tryd.params8] at ht
  have hall : ∀ u ∈ [24, 24, 24], Tryd.prog.wantsStandIn u = false := of_decide_eq_true (by kernel_rfl)
  exact hall t (by simpa using Array.mem_of_getElem? ht)

/-- The card. -/
theorem card : Rows.LengthsAssociativeCardSaid :=
  Claim7.holds_tied_plain_at .later [] _ _ _ _ said (fun _ h => by cases h) (by kernel_rfl) (fun _ h => by cases h) lengthsAssociative_row_tie rfl ⟨rfl, rfl⟩ (by kernel_rfl) rfl plain (by kernel_rfl)
end Go.Proofs.YtpfncffapgkjaaaDoor.lengthsAssociative
