/- LengthsOfWords: for every input the law returns true, and each argument reads behind the call as it read before; the package-level table starts as the program's text lays it. -/
import Derived.Test.YtpfncffapgkjaaaDoorNi
import Derived.Test.YtpfncffapgkjaaaDoorZa
namespace Go.Proofs.YtpfncffapgkjaaaDoor.lengthsOfWords
set_option linter.unusedVariables false
open Go.Ab Go.RowKit Go.ChangeShapes

theorem contract (H : Type) (enc : TypeId × Value → H) (W : World) (base : Nat) (args : Array Value) (ds gs : List (DataW H)) (before : List MemPlace)
    (hval : ∀ (j : Nat) t v, Tryd.f9.params[j]? = some t → args[j]? = some v → Value.okWide Tryd.prog W .any base t v)
    (hW : DataW.Whole enc Tryd.prog Tryd.f9.params.toList Rows.lengthsOfWordsSpec.vars false W args.toList ds gs before) (hL : laidMetH Tryd.prog Rows.lengthsOfWordsRow.laid W) :
    Calls Tryd.prog 9 args W fun e W' => ∃ v, e = .returned v ∧ Rows.lengthsOfWordsSpec.post enc Tryd.prog Tryd.f9 false true false false W args v W' := by
  have hW' := hW
  obtain ⟨p, q, hA0, hV, rfl, hfz, hnd⟩ := hW
  have hA : DataW.TrodAll enc Tryd.prog W 0 (fun _ => true) true Tryd.f9.params.toList args.toList ds p := hA0
  rw [Tryd.params9] at hA hval
  obtain ⟨v0, vs0, d0, ds0, p0, q0, hargs, rfl, rfl, h0, r0⟩ := trodAll_cons hA
  obtain ⟨v1, vs1, d1, ds1, p1, q1, rfl, rfl, rfl, h1, r1⟩ := trodAll_cons r0
  obtain ⟨rfl, rfl, rfl⟩ := trodAll_nil r1
  obtain rfl : args = #[v0, v1] := by cases args; simp_all
  obtain ⟨rfl, rfl⟩ := trodVars_none hV
  clear hA0
  obtain ⟨c0, hd0, l0, rfl, hl0⟩ := arg_slice Tryd.underlying36 (fit_bytes Tryd.underlying36 cellsU8 Tryd.underlying5) (hval 0 36 v0 rfl rfl) h0
  obtain ⟨c1, hd1, l1, rfl, hl1⟩ := arg_int Tryd.underlying44 (fit_int Tryd.underlying44) (hval 1 44 v1 rfl rfl) h1
  have hlo1 : 0 ≤ l1 := by have := hl1.1; simpa [IntKind.min, IntKind.signed] using this
  have hhi1 : l1 ≤ 65535 := by have := hl1.2; simpa [IntKind.max, IntKind.signed, IntKind.bits] using this
  clear hl1
  obtain ⟨m1, rfl⟩ := Int.eq_ofNat_of_zero_le hlo1
  obtain ⟨v, rfl, -, hc⟩ := lawWords_ok [.c (.ds l0.length (.u8s l0)), .c (.int .u16 (m1 : Nat))] (fun v => v = .c (.bool true)) ⟨l0, m1, rfl, ⟨hl0, by omega⟩, rfl⟩
  refine (hc (oldI W) W _ (globOK hL) (fun b h => h) (argsD_cell hd0 (argsD_cell hd1 argsD_nil))).mono fun e W' ⟨he, hs⟩ => ⟨_, he, ?_⟩
  exact row_post laidOut (by rw [Tryd.params9]; exact of_decide_eq_true (by kernel_rfl)) (by kernel_rfl) Tryd.underlying4 hW' rfl ⟨rfl, rfl, rfl⟩ hs

theorem laid_met (os : Os) : laidMet Tryd.prog Rows.lengthsOfWordsRow.laid ((laidWorld os).forCall (fun _ _ => 0) ⟨#[], #[.slice none 0 0, .int .u16 0], []⟩).memory :=
  laidMet_of_run' 8 (by kernel_rfl) (by kernel_rfl)
theorem reads (os : Os) {H : Type} (enc : TypeId × Value → H) : ∃ places, DataW.whole enc Tryd.prog ((laidWorld os).forCall (fun _ _ => 0) ⟨#[], #[.slice none 0 0, .int .u16 0], []⟩).memory Tryd.f9.params.toList Rows.lengthsOfWordsSpec.vars false (#[.slice none 0 0, .int .u16 0] : Array Value).toList 8 = some ([.nil, .lit (.int .u16 0)], [], places) :=
  ⟨[], by kernel_rfl⟩

set_option maxRecDepth 100000 in
theorem lifted (os : Os) (started : os.Started) (H : Type) (enc : TypeId × Value → H) (F : Stop.Interp) :
    ReturnsInHanded {} Tryd.checked os 9 .any ((OpenSpec.ofChange Rows.lengthsOfWordsSpec).preRow enc Tryd.prog Tryd.f9 Rows.lengthsOfWordsRow.domain false Rows.lengthsOfWordsRow.laid) (((OpenSpec.ofChange Rows.lengthsOfWordsSpec).at F).post enc Tryd.prog Tryd.f9 false true false false) := by
  obtain ⟨places, hx⟩ := reads os enc
  refine returnsInHanded_of_row (C := Tryd.checked) (s := OpenSpec.ofChange Rows.lengthsOfWordsSpec) own started (by kernel_rfl) Tryd.func9
    (witness_row_at (enc := enc) (C := Tryd.checked) false (laidWorld os) #[.slice none 0 0, .int .u16 0] rfl (by kernel_rfl) (by kernel_rfl) (by kernel_rfl)
      (OpenSpec.preRow_of_cond 8 hx (by kernel_rfl) (fun k hk => by cases hk) (by kernel_rfl) (laid_met os))) ?_
  intro W base args ds gs before hval hW _ _ _ hL _ _
  exact contract H enc W base args ds gs before hval hW hL

theorem said : Rows.LengthsOfWordsSaid :=
  OpenClaim.holds_of_cond 9 Tryd.f9 rfl rfl rfl rfl rfl rfl rfl ⟨rfl, rfl, rfl, rfl, rfl⟩ rfl rfl rfl rfl rfl (by kernel_rfl) Tryd.func9 (by kernel_rfl)
    (of_decide_eq_true (by kernel_rfl)) (by unfold Func.isWrapper; first | (rw [if_pos (by decide +kernel)]; kernel_rfl) | (rw [if_neg (by decide +kernel)]; exact ⟨rfl, rfl⟩))
    (fun os started H enc _ F => by rw [OpenClaim.pre_eq_preRow]; exact lifted os started H enc F)

/-- No parameter wants a stand-in; the program's own looks are off. -/
theorem plain (f : FuncId) (fn : Func) (hf : Tryd.pinned.checked.prog.funcNamed "univocal/univocallaw05.LengthsOfWords" = some f) (hfn : Tryd.pinned.checked.prog.funcs[f]? = some fn) :
    false = Tryd.pinned.checked.prog.looks [] ∧ ∀ (j : Nat) t, fn.params[j]? = some t → Tryd.pinned.checked.prog.wantsStandIn t = false := by
  obtain rfl : f = 9 := Option.some.inj ((show Tryd.prog.funcNamed "univocal/univocallaw05.LengthsOfWords" = some 9 by kernel_rfl).symm.trans hf) |>.symm
  obtain rfl : fn = Tryd.f9 := (Option.some.inj (Tryd.func9.symm.trans hfn)).symm
  refine ⟨by kernel_rfl, fun j t ht => ?_⟩
  rw [Tryd.params9] at ht
  have hall : ∀ u ∈ [36, 44], Tryd.prog.wantsStandIn u = false := of_decide_eq_true (by kernel_rfl)
  exact hall t (by simpa using Array.mem_of_getElem? ht)

/-- The card. -/
theorem card : Rows.LengthsOfWordsCardSaid :=
  Claim7.holds_tied_plain_at .later [] _ _ _ _ said (fun _ h => by cases h) (by kernel_rfl) (fun _ h => by cases h) lengthsOfWords_row_tie rfl ⟨rfl, rfl⟩ (by kernel_rfl) rfl plain (by kernel_rfl)
end Go.Proofs.YtpfncffapgkjaaaDoor.lengthsOfWords
