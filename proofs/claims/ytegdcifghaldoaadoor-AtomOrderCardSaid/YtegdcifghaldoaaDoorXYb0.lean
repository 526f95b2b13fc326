/- AtomOrder, all but its card: for every input the law returns true, and each argument reads behind the call as it read before; the package-level table starts as the program's text lays it. -/
import Derived.Test.YtegdcifghaldoaaDoorXCh
import Derived.Test.YtegdcifghaldoaaDoorXYa
namespace Go.Proofs.YtegdcifghaldoaaDoor.atomOrder
set_option linter.all false
open Go.Ab Go.RowKit Go.ChangeShapes

set_option maxRecDepth 100000 in
theorem contract(H:Type)(enc:TypeId×Value→H)(W:World)(base:Nat)(args:Array Value)(ds gs:List (DataW H))(before:List MemPlace)
    (hval:∀ (j:Nat) t v,Tryd.f5.params[j]? =some t→args[j]? =some v→Value.okWide Tryd.prog W .any base t v)
    (hW:DataW.Whole enc Tryd.prog Tryd.f5.params.toList Rows.atomOrderSpec.vars false W args.toList ds gs before) (hL:laidMetH Tryd.prog Rows.atomOrderRow.laid W):
    Calls Tryd.prog 5 args W fun e W'=>∃ v,e= .returned v∧Rows.atomOrderSpec.post enc Tryd.prog Tryd.f5 false true false false W args v W':=by
  have hW':=hW
  obtain⟨p,q,hA0,hV,rfl,hfz,hnd⟩:=hW
  have hA:DataW.TrodAll enc Tryd.prog W 0 (fun _=>true) true Tryd.f5.params.toList args.toList ds p:=hA0
  rw[Tryd.params5]at hA hval;obtain⟨v0,vs0,d0,ds0,p0,q0,hargs,rfl,rfl,h0,r0⟩:=trodAll_cons hA;obtain⟨v1,vs1,d1,ds1,p1,q1,rfl,rfl,rfl,h1,r1⟩:=trodAll_cons r0;obtain⟨v2,vs2,d2,ds2,p2,q2,rfl,rfl,rfl,h2,r2⟩:=trodAll_cons r1;obtain⟨rfl,rfl,rfl⟩:=trodAll_nil r2
  obtain rfl:args= #[v0,v1,v2]:=by cases args;simp_all
  obtain⟨rfl,rfl⟩:=trodVars_none hV;clear hA0;obtain⟨us0,cl0,rfl,hd0,m0,rfl,hs0,hn0⟩:=z7p Tryd.underlying43 zho (hval 0 43 v0 rfl rfl) h0;obtain⟨us1,cl1,rfl,hd1,m1,rfl,hs1,hn1⟩:=z7p Tryd.underlying43 zho (hval 1 43 v1 rfl rfl) h1;obtain⟨us2,cl2,rfl,hd2,m2,rfl,hs2,hn2⟩:=z7p Tryd.underlying43 zho (hval 2 43 v2 rfl rfl) h2;obtain⟨v,rfl,-,hc⟩:=zhn [mdlV m0,mdlV m1,mdlV m2] (fun v=>v= .c (.bool true)) ⟨m0,m1,m2,rfl,⟨hs0,hn0,hs1,hn1,hs2,hn2⟩,rfl⟩;refine(hc (oldI W) W _ (globOK hL) (fun b h=>h) (z7q hd0 (z7q hd1 (z7q hd2 zlx)))).mono fun e W' ⟨he,hs⟩=>⟨_,he,?_⟩;exact row_post laidOut (by rw[Tryd.params5];exact of_decide_eq_true (by kernel_rfl)) (by kernel_rfl) Tryd.underlying4 hW' rfl ⟨rfl,rfl,rfl⟩ hs

theorem laid_met(os:Os):laidMet Tryd.prog Rows.atomOrderRow.laid ((zbx os).forCall (fun _ _=>0) ⟨#[], #[.agg #[.slice none 0 0,.slice none 0 0],.agg #[.slice none 0 0,.slice none 0 0],.agg #[.slice none 0 0,.slice none 0 0]],[]⟩).memory:=
  laidMet_of_run' 8 (by kernel_rfl) (by kernel_rfl)
theorem reads(os:Os){H:Type}(enc:TypeId×Value→H):∃ places,DataW.whole enc Tryd.prog ((zbx os).forCall (fun _ _=>0) ⟨#[], #[.agg #[.slice none 0 0,.slice none 0 0],.agg #[.slice none 0 0,.slice none 0 0],.agg #[.slice none 0 0,.slice none 0 0]],[]⟩).memory Tryd.f5.params.toList Rows.atomOrderSpec.vars false (#[.agg #[.slice none 0 0,.slice none 0 0],.agg #[.slice none 0 0,.slice none 0 0],.agg #[.slice none 0 0,.slice none 0 0]]:Array Value).toList 8=some ([.agg [.nil,.nil],.agg [.nil,.nil],.agg [.nil,.nil]],[],places):=
  ⟨[],by kernel_rfl⟩

set_option maxRecDepth 100000 in
theorem lifted(os:Os)(started:os.Started)(H:Type)(enc:TypeId×Value→H)(F:Stop.Interp):
    ReturnsInHanded {} Tryd.checked os 5 .any ((OpenSpec.ofChange Rows.atomOrderSpec).preRow enc Tryd.prog Tryd.f5 Rows.atomOrderRow.domain false Rows.atomOrderRow.laid) (((OpenSpec.ofChange Rows.atomOrderSpec).at F).post enc Tryd.prog Tryd.f5 false true false false):=by
  obtain⟨places,hx⟩:=reads os enc
  refine returnsInHanded_of_row (C:=Tryd.checked) (s:=OpenSpec.ofChange Rows.atomOrderSpec) own started (by kernel_rfl) Tryd.func5
    (witness_row_at (enc:=enc) (C:=Tryd.checked) false (zbx os) #[.agg #[.slice none 0 0,.slice none 0 0],.agg #[.slice none 0 0,.slice none 0 0],.agg #[.slice none 0 0,.slice none 0 0]] rfl (by kernel_rfl) (by kernel_rfl) (by kernel_rfl)
      (OpenSpec.preRow_of_cond 8 hx (by kernel_rfl) (fun k hk=>by cases hk) (by kernel_rfl) (laid_met os))) ?_
  intro W base args ds gs before hval hW _ _ _ hL _ _;exact contract H enc W base args ds gs before hval hW hL

set_option maxRecDepth 100000 in
theorem closed:joinedFacts Tryd.prog 5 Tryd.f5 (OpenSpec.ofChange Rows.atomOrderSpec).bare Rows.atomOrderRow=true:=by
  unfold joinedFacts;exact andT (andT (andT (andT (andT (andT (andT (by kernel_rfl) allEnter) zpc) allMake) (by kernel_rfl)) (by kernel_rfl)) (by kernel_rfl)) (by kernel_rfl)
theorem said:Rows.AtomOrderSaid:=
  OpenClaim.holds_of_cond 5 Tryd.f5 rfl rfl rfl rfl rfl rfl rfl ⟨rfl,rfl,rfl,rfl,rfl⟩ rfl rfl rfl rfl rfl (by kernel_rfl) Tryd.func5 closed
    (of_decide_eq_true (by kernel_rfl)) (by unfold Func.isWrapper;first|(rw[if_pos (by decide+kernel)];kernel_rfl)|(rw[if_neg (by decide+kernel)];exact⟨rfl,rfl⟩))
    (fun os started H enc _ F=>by rw[OpenClaim.pre_eq_preRow];exact lifted os started H enc F)
end Go.Proofs.YtegdcifghaldoaaDoor.atomOrder
