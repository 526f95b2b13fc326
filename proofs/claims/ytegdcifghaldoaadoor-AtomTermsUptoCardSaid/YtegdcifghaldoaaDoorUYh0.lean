/- AtomTerms: for every input whose reading has a bulk of at most 1048576 the law returns true, and each argument reads behind the call as it read before; the package-level table starts as the program's text lays it. -/
import Derived.Test.YtegdcifghaldoaaDoorUCt
import Derived.Test.YtegdcifghaldoaaDoorUYg
import Derived.Test.YtegdcifghaldoaaDoorUYa
namespace Go.Proofs.YtegdcifghaldoaaDoor.atomTerms
set_option linter.all false
open Go.Ab Go.RowKit Go.ChangeShapes

set_option maxRecDepth 100000 in
theorem contract(H:Type)(enc:TypeId×Value→H)(W:World)(base:Nat)(args:Array Value)(ds gs:List (DataW H))(before:List MemPlace)
    (hval:∀ (j:Nat) t v,Tryd.f3.params[j]? =some t→args[j]? =some v→Value.okWide Tryd.prog W .any base t v)
    (hW:DataW.Whole enc Tryd.prog Tryd.f3.params.toList Rows.atomTermsSpec.vars false W args.toList ds gs before) (hk:Rows.uptoSmall H (ds++gs)=true) (hL:laidMetH Tryd.prog Rows.atomTermsUptoRow.laid W):
    Calls Tryd.prog 3 args W fun e W'=>∃ v,e= .returned v∧Rows.atomTermsSpec.post enc Tryd.prog Tryd.f3 false true false false W args v W':=by
  have hW':=hW
  obtain⟨p,q,hA0,hV,rfl,hfz,hnd⟩:=hW
  have hA:DataW.TrodAll enc Tryd.prog W 0 (fun _=>true) true Tryd.f3.params.toList args.toList ds p:=hA0
  rw[Tryd.params3]at hA hval;obtain⟨v0,vs0,d0,ds0,p0,q0,hargs,rfl,rfl,h0,r0⟩:=trodAll_cons hA;obtain⟨v1,vs1,d1,ds1,p1,q1,rfl,rfl,rfl,h1,r1⟩:=trodAll_cons r0;obtain⟨v2,vs2,d2,ds2,p2,q2,rfl,rfl,rfl,h2,r2⟩:=trodAll_cons r1;obtain⟨rfl,rfl,rfl⟩:=trodAll_nil r2
  obtain rfl:args= #[v0,v1,v2]:=by cases args;simp_all
  obtain⟨rfl,rfl⟩:=trodVars_none hV;clear hA0
  have hkb:=of_decide_eq_true hk
  simp only[List.append_nil,Rows.uptoBulkAll]at hkb
  obtain⟨c0,hd0,l0,rfl,hl0,-⟩:=zba Tryd.underlying22 (zin Tryd.underlying22 (by kernel_rfl) (by decide:0< 2) zpl) (hval 0 22 v0 rfl rfl) h0
  have hb0:=zed Tryd.underlying22 hd0 h0
  obtain⟨c1,hd1,l1,rfl,hl1,-⟩:=zba Tryd.underlying22 (zin Tryd.underlying22 (by kernel_rfl) (by decide:0< 2) zpl) (hval 1 22 v1 rfl rfl) h1
  have hb1:=zed Tryd.underlying22 hd1 h1
  obtain⟨c2,hd2,l2,rfl,hl2,hp2⟩:=zba Tryd.underlying23 (z6x Tryd.underlying23 z9o Tryd.underlying28 z76 Tryd.underlying5) (hval 2 23 v2 rfl rfl) h2
  have hb2:=zed Tryd.underlying23 hd2 h2
  have hq2:=zll Tryd.underlying23 z9o Tryd.underlying28 hd2 h2
  obtain⟨v,rfl,-,hc⟩:=zi7 [.c (itmsX l0),.c (itmsX l1),.c (.ds l2.length (.cells (lists l2)))] (fun v=>v= .c (.bool true)) ⟨l0,l1,l2,rfl,⟨by omega,by omega,by omega,fun p hp=>by have:=hq2 p hp;omega⟩,rfl⟩;refine(hc (oldI W) W _ (globOK hL) (fun b h=>h) (z96 hd0 (z96 hd1 (z96 hd2 zmf)))).mono fun e W' ⟨he,hs⟩=>⟨_,he,?_⟩;exact row_post laidOut (by rw[Tryd.params3];exact of_decide_eq_true (by kernel_rfl)) (by kernel_rfl) Tryd.underlying4 hW' rfl ⟨rfl,rfl,rfl⟩ hs

theorem laid_met(os:Os):laidMet Tryd.prog Rows.atomTermsUptoRow.laid ((zca os).forCall (fun _ _=>0) ⟨#[], #[.slice none 0 0,.slice none 0 0,.slice none 0 0],[]⟩).memory:=
  laidMet_of_run' 8 (by kernel_rfl) (by kernel_rfl)
theorem reads(os:Os){H:Type}(enc:TypeId×Value→H):∃ places,DataW.whole enc Tryd.prog ((zca os).forCall (fun _ _=>0) ⟨#[], #[.slice none 0 0,.slice none 0 0,.slice none 0 0],[]⟩).memory Tryd.f3.params.toList Rows.atomTermsSpec.vars false (#[.slice none 0 0,.slice none 0 0,.slice none 0 0]:Array Value).toList 8=some ([.nil,.nil,.nil],[],places):=
  ⟨[],by kernel_rfl⟩

set_option maxRecDepth 100000 in
theorem lifted(os:Os)(started:os.Started)(H:Type)(enc:TypeId×Value→H)(F:Stop.Interp):
    ReturnsInHanded {} Tryd.checked os 3 .any ((Rows.OpenSpec.upto Rows.atomTermsSpec).preRow enc Tryd.prog Tryd.f3 Rows.atomTermsUptoRow.domain false Rows.atomTermsUptoRow.laid) (((Rows.OpenSpec.upto Rows.atomTermsSpec).at F).post enc Tryd.prog Tryd.f3 false true false false):=by
  obtain⟨places,hx⟩:=reads os enc
  refine returnsInHanded_of_row (C:=Tryd.checked) (s:=Rows.OpenSpec.upto Rows.atomTermsSpec) own started (by kernel_rfl) Tryd.func3
    (witness_row_at (enc:=enc) (C:=Tryd.checked) false (zca os) #[.slice none 0 0,.slice none 0 0,.slice none 0 0] rfl (by kernel_rfl) (by kernel_rfl) (by kernel_rfl)
      (OpenSpec.preRow_of_cond 8 hx (by kernel_rfl) (fun k hk=>by cases hk;kernel_rfl) (by kernel_rfl) (laid_met os))) ?_
  intro W base args ds gs before hval hW _ hcond _ hL _ _;exact contract H enc W base args ds gs before hval hW (hcond _ rfl) hL

set_option maxRecDepth 100000 in
theorem closed:joinedFacts Tryd.prog 3 Tryd.f3 (Rows.OpenSpec.upto Rows.atomTermsSpec).bare Rows.atomTermsUptoRow=true:=by
  unfold joinedFacts;exact andT (andT (andT (andT (andT (andT (andT (by kernel_rfl) allEnter) zpk) allMake) (by kernel_rfl)) (by kernel_rfl)) (by kernel_rfl)) (by kernel_rfl)
theorem said:Rows.AtomTermsUptoSaid:=
  OpenClaim.holds_of_cond 3 Tryd.f3 rfl rfl rfl rfl rfl rfl rfl ⟨rfl,rfl,rfl,rfl,rfl⟩ rfl rfl rfl rfl rfl (by kernel_rfl) Tryd.func3 closed
    (of_decide_eq_true (by kernel_rfl)) (by unfold Func.isWrapper;first|(rw[if_pos (by decide+kernel)];kernel_rfl)|(rw[if_neg (by decide+kernel)];exact⟨rfl,rfl⟩))
    (fun os started H enc _ F=>by rw[OpenClaim.pre_eq_preRow];exact lifted os started H enc F)
end Go.Proofs.YtegdcifghaldoaaDoor.atomTerms
