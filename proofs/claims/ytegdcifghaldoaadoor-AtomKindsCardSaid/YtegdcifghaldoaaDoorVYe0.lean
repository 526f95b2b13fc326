/- AtomKinds, all but its card: for every input the law returns true, and each argument reads behind the call as it read before; the package-level table starts as the program's text lays it. -/
import Derived.Test.YtegdcifghaldoaaDoorVCr
import Derived.Test.YtegdcifghaldoaaDoorVYa
namespace Go.Proofs.YtegdcifghaldoaaDoor.atomKinds
set_option linter.all false
open Go.Ab Go.RowKit Go.ChangeShapes

set_option maxRecDepth 100000 in
theorem contract(H:Type)(enc:TypeId×Value→H)(W:World)(base:Nat)(args:Array Value)(ds gs:List (DataW H))(before:List MemPlace)
    (hval:∀ (j:Nat) t v,Tryd.f8.params[j]? =some t→args[j]? =some v→Value.okWide Tryd.prog W .any base t v)
    (hW:DataW.Whole enc Tryd.prog Tryd.f8.params.toList Rows.atomKindsSpec.vars false W args.toList ds gs before) (hL:laidMetH Tryd.prog Rows.atomKindsRow.laid W):
    Calls Tryd.prog 8 args W fun e W'=>∃ v,e= .returned v∧Rows.atomKindsSpec.post enc Tryd.prog Tryd.f8 false true false false W args v W':=by
  have hW':=hW
  obtain⟨p,q,hA0,hV,rfl,hfz,hnd⟩:=hW
  have hA:DataW.TrodAll enc Tryd.prog W 0 (fun _=>true) true Tryd.f8.params.toList args.toList ds p:=hA0
  rw[Tryd.params8]at hA hval;obtain⟨v0,vs0,d0,ds0,p0,q0,hargs,rfl,rfl,h0,r0⟩:=trodAll_cons hA;obtain⟨v1,vs1,d1,ds1,p1,q1,rfl,rfl,rfl,h1,r1⟩:=trodAll_cons r0;obtain⟨rfl,rfl,rfl⟩:=trodAll_nil r1
  obtain rfl:args= #[v0,v1]:=by cases args;simp_all
  obtain⟨rfl,rfl⟩:=trodVars_none hV;clear hA0;obtain⟨c0,hd0,l0,rfl,hl0⟩:=zhi Tryd.underlying28 (z8a Tryd.underlying28 z7u Tryd.underlying5) (hval 0 28 v0 rfl rfl) h0;obtain⟨us1,cl1,rfl,hd1,ws1,vn1,rfl,hw1,hvn1,hwl1⟩:=z9g Tryd.underlying47 ztx (hval 1 47 v1 rfl rfl) h1;obtain⟨v,rfl,-,hc⟩:=zlb [.c (.ds l0.length (.u8s l0)),.agg (.cells (vlsL ws1 vn1))] (fun v=>v= .c (.bool true)) ⟨l0,ws1,vn1,rfl,⟨hl0,hw1,hvn1,hwl1⟩,rfl⟩;refine(hc (oldI W) W _ (globOK hL) (fun b h=>h) (zel hd0 (z9h hd1 zhh))).mono fun e W' ⟨he,hs⟩=>⟨_,he,?_⟩;exact zlr ztw (by rw[Tryd.params8];exact of_decide_eq_true (by kernel_rfl)) (by kernel_rfl) Tryd.underlying4 hW' rfl ⟨rfl,rfl,rfl⟩ hs

theorem laid_met(os:Os):laidMet Tryd.prog Rows.atomKindsRow.laid ((z79 os).forCall (fun _ _=>0) ⟨#[], #[.slice none 0 0,.agg #[.slice none 0 0,.slice none 0 0]],[]⟩).memory:=
  laidMet_of_run' 8 (by kernel_rfl) (by kernel_rfl)
theorem reads(os:Os){H:Type}(enc:TypeId×Value→H):∃ places,DataW.whole enc Tryd.prog ((z79 os).forCall (fun _ _=>0) ⟨#[], #[.slice none 0 0,.agg #[.slice none 0 0,.slice none 0 0]],[]⟩).memory Tryd.f8.params.toList Rows.atomKindsSpec.vars false (#[.slice none 0 0,.agg #[.slice none 0 0,.slice none 0 0]]:Array Value).toList 8=some ([.nil,.agg [.nil,.nil]],[],places):=
  ⟨[],by kernel_rfl⟩

set_option maxRecDepth 100000 in
theorem lifted(os:Os)(started:os.Started)(H:Type)(enc:TypeId×Value→H)(F:Stop.Interp):
    ReturnsInHanded {} Tryd.checked os 8 .any ((OpenSpec.ofChange Rows.atomKindsSpec).preRow enc Tryd.prog Tryd.f8 Rows.atomKindsRow.domain false Rows.atomKindsRow.laid) (((OpenSpec.ofChange Rows.atomKindsSpec).at F).post enc Tryd.prog Tryd.f8 false true false false):=by
  obtain⟨places,hx⟩:=reads os enc
  refine returnsInHanded_of_row (C:=Tryd.checked) (s:=OpenSpec.ofChange Rows.atomKindsSpec) own started (by kernel_rfl) Tryd.func8
    (witness_row_at (enc:=enc) (C:=Tryd.checked) false (z79 os) #[.slice none 0 0,.agg #[.slice none 0 0,.slice none 0 0]] rfl (by kernel_rfl) (by kernel_rfl) (by kernel_rfl)
      (OpenSpec.preRow_of_cond 8 hx (by kernel_rfl) (fun k hk=>by cases hk) (by kernel_rfl) (laid_met os))) ?_
  intro W base args ds gs before hval hW _ _ _ hL _ _;exact contract H enc W base args ds gs before hval hW hL

set_option maxRecDepth 100000 in
theorem closed:joinedFacts Tryd.prog 8 Tryd.f8 (OpenSpec.ofChange Rows.atomKindsSpec).bare Rows.atomKindsRow=true:=by
  unfold joinedFacts;exact andT (andT (andT (andT (andT (andT (andT (by kernel_rfl) zns) zj1) ztu) (by kernel_rfl)) (by kernel_rfl)) (by kernel_rfl)) (by kernel_rfl)
theorem said:Rows.AtomKindsSaid:=
  OpenClaim.holds_of_cond 8 Tryd.f8 rfl rfl rfl rfl rfl rfl rfl ⟨rfl,rfl,rfl,rfl,rfl⟩ rfl rfl rfl rfl rfl (by kernel_rfl) Tryd.func8 closed
    (of_decide_eq_true (by kernel_rfl)) (by unfold Func.isWrapper;first|(rw[if_pos (by decide+kernel)];kernel_rfl)|(rw[if_neg (by decide+kernel)];exact⟨rfl,rfl⟩))
    (fun os started H enc _ F=>by rw[OpenClaim.pre_eq_preRow];exact lifted os started H enc F)
end Go.Proofs.YtegdcifghaldoaaDoor.atomKinds
