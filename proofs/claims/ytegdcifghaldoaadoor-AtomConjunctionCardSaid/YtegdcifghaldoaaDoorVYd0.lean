/- AtomConjunction, all but its card: for every input the law returns true, and each argument reads behind the call as it read before; the package-level table starts as the program's text lays it. -/
import Derived.Test.YtegdcifghaldoaaDoorVCs
import Derived.Test.YtegdcifghaldoaaDoorVYa
namespace Go.Proofs.YtegdcifghaldoaaDoor.atomConjunction
set_option linter.all false
open Go.Ab Go.RowKit Go.ChangeShapes

set_option maxRecDepth 100000 in
theorem contract(H:Type)(enc:TypeId×Value→H)(W:World)(base:Nat)(args:Array Value)(ds gs:List (DataW H))(before:List MemPlace)
    (hval:∀ (j:Nat) t v,Tryd.f7.params[j]? =some t→args[j]? =some v→Value.okWide Tryd.prog W .any base t v)
    (hW:DataW.Whole enc Tryd.prog Tryd.f7.params.toList Rows.atomConjunctionSpec.vars false W args.toList ds gs before) (hL:laidMetH Tryd.prog Rows.atomConjunctionRow.laid W):
    Calls Tryd.prog 7 args W fun e W'=>∃ v,e= .returned v∧Rows.atomConjunctionSpec.post enc Tryd.prog Tryd.f7 false true false false W args v W':=by
  have hW':=hW
  obtain⟨p,q,hA0,hV,rfl,hfz,hnd⟩:=hW
  have hA:DataW.TrodAll enc Tryd.prog W 0 (fun _=>true) true Tryd.f7.params.toList args.toList ds p:=hA0
  rw[Tryd.params7]at hA hval;obtain⟨v0,vs0,d0,ds0,p0,q0,hargs,rfl,rfl,h0,r0⟩:=trodAll_cons hA;obtain⟨v1,vs1,d1,ds1,p1,q1,rfl,rfl,rfl,h1,r1⟩:=trodAll_cons r0;obtain⟨v2,vs2,d2,ds2,p2,q2,rfl,rfl,rfl,h2,r2⟩:=trodAll_cons r1;obtain⟨rfl,rfl,rfl⟩:=trodAll_nil r2
  obtain rfl:args= #[v0,v1,v2]:=by cases args;simp_all
  obtain⟨rfl,rfl⟩:=trodVars_none hV;clear hA0;obtain⟨us0,cl0,rfl,hd0,sh0,wa0,wb0,nd0,rfl,hwa0,hwb0,hnd0⟩:=z9g Tryd.underlying55 raw_fit (hval 0 55 v0 rfl rfl) h0;obtain⟨c1,hd1,l1,rfl,hl1⟩:=zhi Tryd.underlying28 (z8a Tryd.underlying28 z7u Tryd.underlying5) (hval 1 28 v1 rfl rfl) h1;obtain⟨us2,cl2,rfl,hd2,ws2,vn2,rfl,hw2,hvn2,hwl2⟩:=z9g Tryd.underlying47 ztx (hval 2 47 v2 rfl rfl) h2;obtain⟨v,rfl,-,hc⟩:=zpb [.agg (.cells (rawL sh0 wa0 wb0 nd0)),.c (.ds l1.length (.u8s l1)),.agg (.cells (vlsL ws2 vn2))] (fun v=>v= .c (.bool true)) ⟨sh0,wa0,wb0,nd0,l1,ws2,vn2,rfl,⟨⟨hwa0.1,hwb0.1,hnd0,hwa0.2,hwb0.2⟩,hl1,hw2,hvn2,hwl2⟩,rfl⟩;refine(hc (oldI W) W _ (globOK hL) (fun b h=>h) (z9h hd0 (zel hd1 (z9h hd2 zhh)))).mono fun e W' ⟨he,hs⟩=>⟨_,he,?_⟩;exact zlr ztw (by rw[Tryd.params7];exact of_decide_eq_true (by kernel_rfl)) (by kernel_rfl) Tryd.underlying4 hW' rfl ⟨rfl,rfl,rfl⟩ hs

theorem laid_met(os:Os):laidMet Tryd.prog Rows.atomConjunctionRow.laid ((z79 os).forCall (fun _ _=>0) ⟨#[], #[.agg #[.int .u8 0,.slice none 0 0,.slice none 0 0,.slice none 0 0],.slice none 0 0,.agg #[.slice none 0 0,.slice none 0 0]],[]⟩).memory:=
  laidMet_of_run' 8 (by kernel_rfl) (by kernel_rfl)
theorem reads(os:Os){H:Type}(enc:TypeId×Value→H):∃ places,DataW.whole enc Tryd.prog ((z79 os).forCall (fun _ _=>0) ⟨#[], #[.agg #[.int .u8 0,.slice none 0 0,.slice none 0 0,.slice none 0 0],.slice none 0 0,.agg #[.slice none 0 0,.slice none 0 0]],[]⟩).memory Tryd.f7.params.toList Rows.atomConjunctionSpec.vars false (#[.agg #[.int .u8 0,.slice none 0 0,.slice none 0 0,.slice none 0 0],.slice none 0 0,.agg #[.slice none 0 0,.slice none 0 0]]:Array Value).toList 8=some ([.agg [.lit (.int .u8 0),.nil,.nil,.nil],.nil,.agg [.nil,.nil]],[],places):=
  ⟨[],by kernel_rfl⟩

set_option maxRecDepth 100000 in
theorem lifted(os:Os)(started:os.Started)(H:Type)(enc:TypeId×Value→H)(F:Stop.Interp):
    ReturnsInHanded {} Tryd.checked os 7 .any ((OpenSpec.ofChange Rows.atomConjunctionSpec).preRow enc Tryd.prog Tryd.f7 Rows.atomConjunctionRow.domain false Rows.atomConjunctionRow.laid) (((OpenSpec.ofChange Rows.atomConjunctionSpec).at F).post enc Tryd.prog Tryd.f7 false true false false):=by
  obtain⟨places,hx⟩:=reads os enc
  refine returnsInHanded_of_row (C:=Tryd.checked) (s:=OpenSpec.ofChange Rows.atomConjunctionSpec) own started (by kernel_rfl) Tryd.func7
    (witness_row_at (enc:=enc) (C:=Tryd.checked) false (z79 os) #[.agg #[.int .u8 0,.slice none 0 0,.slice none 0 0,.slice none 0 0],.slice none 0 0,.agg #[.slice none 0 0,.slice none 0 0]] rfl (by kernel_rfl) (by kernel_rfl) (by kernel_rfl)
      (OpenSpec.preRow_of_cond 8 hx (by kernel_rfl) (fun k hk=>by cases hk) (by kernel_rfl) (laid_met os))) ?_
  intro W base args ds gs before hval hW _ _ _ hL _ _;exact contract H enc W base args ds gs before hval hW hL

set_option maxRecDepth 100000 in
theorem closed:joinedFacts Tryd.prog 7 Tryd.f7 (OpenSpec.ofChange Rows.atomConjunctionSpec).bare Rows.atomConjunctionRow=true:=by
  unfold joinedFacts;exact andT (andT (andT (andT (andT (andT (andT (by kernel_rfl) zns) zj1) ztu) (by kernel_rfl)) (by kernel_rfl)) (by kernel_rfl)) (by kernel_rfl)
theorem said:Rows.AtomConjunctionSaid:=
  OpenClaim.holds_of_cond 7 Tryd.f7 rfl rfl rfl rfl rfl rfl rfl ⟨rfl,rfl,rfl,rfl,rfl⟩ rfl rfl rfl rfl rfl (by kernel_rfl) Tryd.func7 closed
    (of_decide_eq_true (by kernel_rfl)) (by unfold Func.isWrapper;first|(rw[if_pos (by decide+kernel)];kernel_rfl)|(rw[if_neg (by decide+kernel)];exact⟨rfl,rfl⟩))
    (fun os started H enc _ F=>by rw[OpenClaim.pre_eq_preRow];exact lifted os started H enc F)
end Go.Proofs.YtegdcifghaldoaaDoor.atomConjunction
