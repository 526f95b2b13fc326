/- NumeralPartition, all but its card: for every input the law returns true, and each argument reads behind the call as it read before; the package-level table starts as the program's text lays it. -/
import Derived.Test.YtppmnaoollkboaaDoorWRx
import Derived.Test.YtppmnaoollkboaaDoorWZa
namespace Go.Proofs.YtppmnaoollkboaaDoor.numeralPartition
set_option linter.all false
open Go.Ab Go.RowKit Go.ChangeShapes

set_option maxRecDepth 100000 in
theorem contract (H : Type) (enc : TypeId × Value → H) (W : World) (base : Nat) (args : Array Value) (ds gs : List (DataW H)) (before : List MemPlace)
    (hval : ∀ (j : Nat) t v, Tryd.f19.params[j]? = some t → args[j]? = some v → Value.okWide Tryd.prog W .any base t v)
    (hW : DataW.Whole enc Tryd.prog Tryd.f19.params.toList Rows.numeralPartitionSpec.vars false W args.toList ds gs before) (hL : laidMetH Tryd.prog Rows.numeralPartitionRow.laid W) :
    Calls Tryd.prog 19 args W fun e W' => ∃ v, e = .returned v ∧ Rows.numeralPartitionSpec.post enc Tryd.prog Tryd.f19 false true false false W args v W' := by
  have hW' := hW
  obtain ⟨p, q, hA0, hV, rfl, hfz, hnd⟩ := hW
  have hA : DataW.TrodAll enc Tryd.prog W 0 (fun _ => true) true Tryd.f19.params.toList args.toList ds p := hA0
  rw [Tryd.params19] at hA hval; obtain ⟨v0, vs0, d0, ds0, p0, q0, hargs, rfl, rfl, h0, r0⟩ := trodAll_cons hA; obtain ⟨v1, vs1, d1, ds1, p1, q1, rfl, rfl, rfl, h1, r1⟩ := trodAll_cons r0; obtain ⟨v2, vs2, d2, ds2, p2, q2, rfl, rfl, rfl, h2, r2⟩ := trodAll_cons r1; obtain ⟨rfl, rfl, rfl⟩ := trodAll_nil r2
  obtain rfl : args = #[v0, v1, v2] := by cases args; simp_all
  obtain ⟨rfl, rfl⟩ := trodVars_none hV; clear hA0; obtain ⟨us0, cl0, rfl, hd0, a0, b0, rfl⟩ := zlh Tryd.underlying59 raw_fit (hval 0 59 v0 rfl rfl) h0; obtain ⟨c1, hd1, n1, rfl⟩ := zri Tryd.underlying5 (zn8 Tryd.underlying5) (hval 1 5 v1 rfl rfl) h1; obtain ⟨c2, hd2, n2, rfl⟩ := zri Tryd.underlying5 (zn8 Tryd.underlying5) (hval 2 5 v2 rfl rfl) h2; obtain ⟨v, rfl, -, hc⟩ := zfb [.agg (.u8s [a0, b0]), .c (.u8 n1), .c (.u8 n2)] (fun v => v = .c (.bool true)) ⟨a0, b0, n1, n2, rfl, rfl⟩; refine (hc (oldI W) W _ (globOK hL) (fun b h => h) (zw6 hd0 (zfr hd1 (zfr hd2 zrh)))).mono fun e W' ⟨he, hs⟩ => ⟨_, he, ?_⟩; exact row_post laidOut (by rw [Tryd.params19]; exact of_decide_eq_true (by kernel_rfl)) (by kernel_rfl) Tryd.underlying4 hW' rfl ⟨rfl, rfl, rfl⟩ hs

theorem laid_met (os : Os) : laidMet Tryd.prog Rows.numeralPartitionRow.laid ((zfc os).forCall (fun _ _ => 0) ⟨#[], #[.agg #[.int .u8 0, .int .u8 0], .int .u8 0, .int .u8 0], []⟩).memory :=
  laidMet_of_run' 8 (by kernel_rfl) (by kernel_rfl)
theorem reads (os : Os) {H : Type} (enc : TypeId × Value → H) : ∃ places, DataW.whole enc Tryd.prog ((zfc os).forCall (fun _ _ => 0) ⟨#[], #[.agg #[.int .u8 0, .int .u8 0], .int .u8 0, .int .u8 0], []⟩).memory Tryd.f19.params.toList Rows.numeralPartitionSpec.vars false (#[.agg #[.int .u8 0, .int .u8 0], .int .u8 0, .int .u8 0] : Array Value).toList 8 = some ([.agg [.lit (.int .u8 0), .lit (.int .u8 0)], .lit (.int .u8 0), .lit (.int .u8 0)], [], places) :=
  ⟨[], by kernel_rfl⟩

set_option maxRecDepth 100000 in
theorem lifted (os : Os) (started : os.Started) (H : Type) (enc : TypeId × Value → H) (F : Stop.Interp) :
    ReturnsInHanded {} Tryd.checked os 19 .any ((OpenSpec.ofChange Rows.numeralPartitionSpec).preRow enc Tryd.prog Tryd.f19 Rows.numeralPartitionRow.domain false Rows.numeralPartitionRow.laid) (((OpenSpec.ofChange Rows.numeralPartitionSpec).at F).post enc Tryd.prog Tryd.f19 false true false false) := by
  obtain ⟨places, hx⟩ := reads os enc
  refine returnsInHanded_of_row (C := Tryd.checked) (s := OpenSpec.ofChange Rows.numeralPartitionSpec) own started (by kernel_rfl) Tryd.func19
    (witness_row_at (enc := enc) (C := Tryd.checked) false (zfc os) #[.agg #[.int .u8 0, .int .u8 0], .int .u8 0, .int .u8 0] rfl (by kernel_rfl) (by kernel_rfl) (by kernel_rfl)
      (OpenSpec.preRow_of_cond 8 hx (by kernel_rfl) (fun k hk => by cases hk) (by kernel_rfl) (laid_met os))) ?_
  intro W base args ds gs before hval hW _ _ _ hL _ _; exact contract H enc W base args ds gs before hval hW hL

set_option maxRecDepth 100000 in
theorem closed : joinedFacts Tryd.prog 19 Tryd.f19 (OpenSpec.ofChange Rows.numeralPartitionSpec).bare Rows.numeralPartitionRow = true := by
  unfold joinedFacts; exact andT (andT (andT (andT (andT (andT (andT (by kernel_rfl) allEnter) zw7) allMake) (by kernel_rfl)) (by kernel_rfl)) (by kernel_rfl)) (by kernel_rfl)
theorem said : Rows.NumeralPartitionSaid :=
  OpenClaim.holds_of_cond 19 Tryd.f19 rfl rfl rfl rfl rfl rfl rfl ⟨rfl, rfl, rfl, rfl, rfl⟩ rfl rfl rfl rfl rfl (by kernel_rfl) Tryd.func19 closed
    (of_decide_eq_true (by kernel_rfl)) (by unfold Func.isWrapper; first | (rw [if_pos (by decide +kernel)]; kernel_rfl) | (rw [if_neg (by decide +kernel)]; exact ⟨rfl, rfl⟩))
    (fun os started H enc _ F => by rw [OpenClaim.pre_eq_preRow]; exact lifted os started H enc F)
end Go.Proofs.YtppmnaoollkboaaDoor.numeralPartition
