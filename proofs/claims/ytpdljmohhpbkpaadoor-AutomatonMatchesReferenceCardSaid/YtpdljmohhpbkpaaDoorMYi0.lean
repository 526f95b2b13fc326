/- AutomatonMatchesReference, all but its card: for every input the law returns true, and each argument reads behind the call as it read before; the package-level table starts as the program's text lays it. -/
import Derived.Test.YtpdljmohhpbkpaaDoorMWz
import Derived.Test.YtpdljmohhpbkpaaDoorMYa
set_option linter.all false
namespace Go.Proofs.YtpdljmohhpbkpaaDoor.automatonMatchesReference
open Go.Ab Go.RowKit Go.ChangeShapes

set_option maxRecDepth 100000 in
theorem contract(H:Type)(enc:TypeId×Value->H)(W:World)(base:Nat)(args:Array Value)(ds gs:List (DataW H))(before:List MemPlace)
    (hval:∀ (j:Nat) t v,Tryd.f3.params[j]? =some t->args[j]? =some v->Value.okWide Tryd.prog W .any base t v)
    (hW:DataW.Whole enc Tryd.prog Tryd.f3.params.toList Rows.automatonMatchesReferenceSpec.vars false W args.toList ds gs before) (hL:laidMetH Tryd.prog Rows.automatonMatchesReferenceRow.laid W):
    Calls Tryd.prog 3 args W fun e W'=>∃ v,e= .returned v/\Rows.automatonMatchesReferenceSpec.post enc Tryd.prog Tryd.f3 false true false false W args v W':=by
  have hW':=hW
  obtain⟨p,q,hA0,hV,rfl,hfz,hnd⟩:=hW
  have hA:DataW.TrodAll enc Tryd.prog W 0 (fun _=>true) true Tryd.f3.params.toList args.toList ds p:=hA0
  rw[Tryd.params3]at hA hval;obtain⟨v0,vs0,d0,ds0,p0,q0,hargs,rfl,rfl,h0,r0⟩:=trodAll_cons hA;obtain⟨v1,vs1,d1,ds1,p1,q1,rfl,rfl,rfl,h1,r1⟩:=trodAll_cons r0;obtain⟨v2,vs2,d2,ds2,p2,q2,rfl,rfl,rfl,h2,r2⟩:=trodAll_cons r1;obtain⟨rfl,rfl,rfl⟩:=trodAll_nil r2
  obtain rfl:args= #[v0,v1,v2]:=by cases args;simp_all
  obtain⟨rfl,rfl⟩:=trodVars_none hV;clear hA0;obtain⟨us0,cl0,rfl,hd0,a0,l0,m0,rfl,hl0⟩:=zix Tryd.underlying24 y5s (hval 0 24 v0 rfl rfl) h0;obtain⟨us1,cl1,rfl,hd1,a1,l1,m1,rfl,hl1⟩:=zix Tryd.underlying24 y5s (hval 1 24 v1 rfl rfl) h1;obtain⟨c2,hd2,l2,rfl,hl2⟩:=zzh Tryd.underlying22 (zpn Tryd.underlying22 zuc Tryd.underlying5) (hval 2 22 v2 rfl rfl) h2;obtain⟨v,rfl,-,hc⟩:=zoy [Av a0 l0 m0,Av a1 l1 m1,.c (.ds l2.length (.u8s l2))] (fun v=>v= .c (.bool true)) ⟨a0,l0,m0,a1,l1,m1,l2,rfl,⟨hl0,hl1,hl2⟩,rfl⟩;refine(hc (qQ W) W _ (KS hL) (fun b h=>h) (ziy hd0 (ziy hd1 (zxm hd2 zzg)))).mono fun e W' ⟨he,hs⟩=>⟨_,he,?_⟩;exact AO laidOut (by rw[Tryd.params3];exact of_decide_eq_true (by kernel_rfl)) (by kernel_rfl) Tryd.underlying4 hW' rfl ⟨rfl,rfl,rfl⟩ hs

theorem laid_met(os:Os):laidMet Tryd.prog Rows.automatonMatchesReferenceRow.laid ((YG os).forCall (fun _ _=>0) ⟨#[], #[.agg #[.int .u8 0,.slice none 0 0,.int .u8 0],.agg #[.int .u8 0,.slice none 0 0,.int .u8 0],.slice none 0 0],[]⟩).memory:=
  laidMet_of_run' 8 (by kernel_rfl) (by kernel_rfl)
theorem reads(os:Os){H:Type}(enc:TypeId×Value->H):∃ places,DataW.whole enc Tryd.prog ((YG os).forCall (fun _ _=>0) ⟨#[], #[.agg #[.int .u8 0,.slice none 0 0,.int .u8 0],.agg #[.int .u8 0,.slice none 0 0,.int .u8 0],.slice none 0 0],[]⟩).memory Tryd.f3.params.toList Rows.automatonMatchesReferenceSpec.vars false (#[.agg #[.int .u8 0,.slice none 0 0,.int .u8 0],.agg #[.int .u8 0,.slice none 0 0,.int .u8 0],.slice none 0 0]:Array Value).toList 8=some ([.agg [.lit (.int .u8 0),.nil,.lit (.int .u8 0)],.agg [.lit (.int .u8 0),.nil,.lit (.int .u8 0)],.nil],[],places):=
  ⟨[],by kernel_rfl⟩

set_option maxRecDepth 100000 in
theorem lifted(os:Os)(started:os.Started)(H:Type)(enc:TypeId×Value->H)(F:Stop.Interp):
    ReturnsInHanded {} Tryd.checked os 3 .any ((OpenSpec.ofChange Rows.automatonMatchesReferenceSpec).preRow enc Tryd.prog Tryd.f3 Rows.automatonMatchesReferenceRow.domain false Rows.automatonMatchesReferenceRow.laid) (((OpenSpec.ofChange Rows.automatonMatchesReferenceSpec).at F).post enc Tryd.prog Tryd.f3 false true false false):=by
  obtain⟨places,hx⟩:=reads os enc
  refine returnsInHanded_of_row (C:=Tryd.checked) (s:=OpenSpec.ofChange Rows.automatonMatchesReferenceSpec) own started (by kernel_rfl) Tryd.func3
    (witness_row_at (enc:=enc) (C:=Tryd.checked) false (YG os) #[.agg #[.int .u8 0,.slice none 0 0,.int .u8 0],.agg #[.int .u8 0,.slice none 0 0,.int .u8 0],.slice none 0 0] rfl (by kernel_rfl) (by kernel_rfl) (by kernel_rfl)
      (OpenSpec.preRow_of_cond 8 hx (by kernel_rfl) (fun k hk=>by cases hk) (by kernel_rfl) (laid_met os))) ?_
  intro W base args ds gs before hval hW _ _ _ hL _ _;exact contract H enc W base args ds gs before hval hW hL

set_option maxRecDepth 100000 in
theorem closed:joinedFacts Tryd.prog 3 Tryd.f3 (OpenSpec.ofChange Rows.automatonMatchesReferenceSpec).bare Rows.automatonMatchesReferenceRow=true:=by
  unfold joinedFacts;exact sG (sG (sG (sG (sG (sG (sG (by kernel_rfl) wu) y5t) Cr) (by kernel_rfl)) (by kernel_rfl)) (by kernel_rfl)) (by kernel_rfl)
theorem said:Rows.AutomatonMatchesReferenceSaid:=
  OpenClaim.holds_of_cond 3 Tryd.f3 rfl rfl rfl rfl rfl rfl rfl ⟨rfl,rfl,rfl,rfl,rfl⟩ rfl rfl rfl rfl rfl (by kernel_rfl) Tryd.func3 closed
    (of_decide_eq_true (by kernel_rfl)) (by unfold Func.isWrapper;first|(rw[if_pos (by decide+kernel)];kernel_rfl)|(rw[if_neg (by decide+kernel)];exact⟨rfl,rfl⟩))
    (fun os started H enc _ F=>by rw[OpenClaim.pre_eq_preRow];exact lifted os started H enc F)
end Go.Proofs.YtpdljmohhpbkpaaDoor.automatonMatchesReference
