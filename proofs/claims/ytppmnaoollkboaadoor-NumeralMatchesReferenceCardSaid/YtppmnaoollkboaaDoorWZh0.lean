/- NumeralMatchesReference, all but its card: for every input the law returns true, and each argument reads behind the call as it read before; the package-level table starts as the program's text lays it. -/
import Derived.Test.YtppmnaoollkboaaDoorWKg
import Derived.Test.YtppmnaoollkboaaDoorWKh
import Derived.Test.YtppmnaoollkboaaDoorWZa
namespace Go.Proofs.YtppmnaoollkboaaDoor.numeralMatchesReference
set_option linter.all false
open Go.Ab Go.RowKit Go.ChangeShapes

set_option maxRecDepth 100000 in
theorem contract(H:Type)(enc:TypeId×Value→H)(W:World)(base:Nat)(args:Array Value)(ds gs:List (DataW H))(before:List MemPlace)
    (hval:∀ (j:Nat) t v,Tryd.f15.params[j]? =some t→args[j]? =some v→Value.okWide Tryd.prog W .any base t v)
    (hW:DataW.Whole enc Tryd.prog Tryd.f15.params.toList Rows.numeralMatchesReferenceSpec.vars false W args.toList ds gs before) (hL:laidMetH Tryd.prog Rows.numeralMatchesReferenceRow.laid W):
    Calls Tryd.prog 15 args W fun e W'=>∃ v,e= .returned v∧Rows.numeralMatchesReferenceSpec.post enc Tryd.prog Tryd.f15 false true false false W args v W':=by
  have hW':=hW
  obtain⟨p,q,hA0,hV,rfl,hfz,hnd⟩:=hW
  have hA:DataW.TrodAll enc Tryd.prog W 0 (fun _=>true) true Tryd.f15.params.toList args.toList ds p:=hA0
  rw[Tryd.params15]at hA hval;obtain⟨v0,vs0,d0,ds0,p0,q0,hargs,rfl,rfl,h0,r0⟩:=trodAll_cons hA;obtain⟨v1,vs1,d1,ds1,p1,q1,rfl,rfl,rfl,h1,r1⟩:=trodAll_cons r0;obtain⟨v2,vs2,d2,ds2,p2,q2,rfl,rfl,rfl,h2,r2⟩:=trodAll_cons r1;obtain⟨rfl,rfl,rfl⟩:=trodAll_nil r2
  obtain rfl:args= #[v0,v1,v2]:=by cases args;simp_all
  obtain⟨rfl,rfl⟩:=trodVars_none hV;clear hA0;obtain⟨us0,cl0,rfl,hd0,r0_,rfl⟩:=zo7 Tryd.underlying61 rul_fit (hval 0 61 v0 rfl rfl) h0;obtain⟨c1,hd1,l1,rfl,hl1⟩:=zuu Tryd.underlying22 (zus Tryd.underlying22 y0a Tryd.underlying5) (hval 1 22 v1 rfl rfl) h1;obtain⟨c2,hd2,l2,rfl,hl2⟩:=arg_int Tryd.underlying3 (zfl Tryd.underlying3) (hval 2 3 v2 rfl rfl) h2;rw[z76]at hl2;obtain⟨v,rfl,-,hc⟩:=ze9 [rulV r0_,.c (.ds l1.length (.u8s l1)),.c (.int .i64 l2)] (fun v=>v= .c (.bool true)) ⟨r0_,l1,l2,rfl,hl1,rfl⟩;refine(hc (oldI W) W _ (globOK hL) (fun b h=>h) (zo8 hd0 (zhk hd1 (zhk hd2 zut)))).mono fun e W' ⟨he,hs⟩=>⟨_,he,?_⟩;exact row_post laidOut (by rw[Tryd.params15];exact of_decide_eq_true (by kernel_rfl)) (by kernel_rfl) Tryd.underlying4 hW' rfl ⟨rfl,rfl,rfl⟩ hs

theorem laid_met(os:Os):laidMet Tryd.prog Rows.numeralMatchesReferenceRow.laid ((zh8 os).forCall (fun _ _=>0) ⟨#[], #[.agg #[.int .i64 0,.int .i64 0,.int .i64 0,.int .i64 0,.bool false],.slice none 0 0,.int .i64 0],[]⟩).memory:=
  laidMet_of_run' 8 (by kernel_rfl) (by kernel_rfl)
theorem reads(os:Os){H:Type}(enc:TypeId×Value→H):∃ places,DataW.whole enc Tryd.prog ((zh8 os).forCall (fun _ _=>0) ⟨#[], #[.agg #[.int .i64 0,.int .i64 0,.int .i64 0,.int .i64 0,.bool false],.slice none 0 0,.int .i64 0],[]⟩).memory Tryd.f15.params.toList Rows.numeralMatchesReferenceSpec.vars false (#[.agg #[.int .i64 0,.int .i64 0,.int .i64 0,.int .i64 0,.bool false],.slice none 0 0,.int .i64 0]:Array Value).toList 8=some ([.agg [.lit (.int .i64 0),.lit (.int .i64 0),.lit (.int .i64 0),.lit (.int .i64 0),.lit (.bool false)],.nil,.lit (.int .i64 0)],[],places):=
  ⟨[],by kernel_rfl⟩

set_option maxRecDepth 100000 in
theorem lifted(os:Os)(started:os.Started)(H:Type)(enc:TypeId×Value→H)(F:Stop.Interp):
    ReturnsInHanded {} Tryd.checked os 15 .any ((OpenSpec.ofChange Rows.numeralMatchesReferenceSpec).preRow enc Tryd.prog Tryd.f15 Rows.numeralMatchesReferenceRow.domain false Rows.numeralMatchesReferenceRow.laid) (((OpenSpec.ofChange Rows.numeralMatchesReferenceSpec).at F).post enc Tryd.prog Tryd.f15 false true false false):=by
  obtain⟨places,hx⟩:=reads os enc
  refine returnsInHanded_of_row (C:=Tryd.checked) (s:=OpenSpec.ofChange Rows.numeralMatchesReferenceSpec) own started (by kernel_rfl) Tryd.func15
    (witness_row_at (enc:=enc) (C:=Tryd.checked) false (zh8 os) #[.agg #[.int .i64 0,.int .i64 0,.int .i64 0,.int .i64 0,.bool false],.slice none 0 0,.int .i64 0] rfl (by kernel_rfl) (by kernel_rfl) (by kernel_rfl)
      (OpenSpec.preRow_of_cond 8 hx (by kernel_rfl) (fun k hk=>by cases hk) (by kernel_rfl) (laid_met os))) ?_
  intro W base args ds gs before hval hW _ _ _ hL _ _;exact contract H enc W base args ds gs before hval hW hL

set_option maxRecDepth 100000 in
theorem closed:joinedFacts Tryd.prog 15 Tryd.f15 (OpenSpec.ofChange Rows.numeralMatchesReferenceSpec).bare Rows.numeralMatchesReferenceRow=true:=by
  unfold joinedFacts;exact andT (andT (andT (andT (andT (andT (andT (by kernel_rfl) allEnter) y0b) allMake) (by kernel_rfl)) (by kernel_rfl)) (by kernel_rfl)) (by kernel_rfl)
theorem said:Rows.NumeralMatchesReferenceSaid:=
  OpenClaim.holds_of_cond 15 Tryd.f15 rfl rfl rfl rfl rfl rfl rfl ⟨rfl,rfl,rfl,rfl,rfl⟩ rfl rfl rfl rfl rfl (by kernel_rfl) Tryd.func15 closed
    (of_decide_eq_true (by kernel_rfl)) (by unfold Func.isWrapper;first|(rw[if_pos (by decide+kernel)];kernel_rfl)|(rw[if_neg (by decide+kernel)];exact⟨rfl,rfl⟩))
    (fun os started H enc _ F=>by rw[OpenClaim.pre_eq_preRow];exact lifted os started H enc F)
end Go.Proofs.YtppmnaoollkboaaDoor.numeralMatchesReference
