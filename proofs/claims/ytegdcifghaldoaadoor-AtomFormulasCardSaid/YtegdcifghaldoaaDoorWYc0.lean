/- AtomFormulas, all but its card: for every input the law returns true, and each argument reads behind the call as it read before; the package-level table starts as the program's text lays it. -/
import Derived.Test.YtegdcifghaldoaaDoorWCj
import Derived.Test.YtegdcifghaldoaaDoorWYa
namespace Go.Proofs.YtegdcifghaldoaaDoor.atomFormulas
set_option linter.all false
open Go.Ab Go.RowKit Go.ChangeShapes

set_option maxRecDepth 100000 in
theorem contract(H:Type)(enc:TypeId×Value→H)(W:World)(base:Nat)(args:Array Value)(ds gs:List (DataW H))(before:List MemPlace)
    (hval:∀ (j:Nat) t v,Tryd.f4.params[j]? =some t→args[j]? =some v→Value.okWide Tryd.prog W .any base t v)
    (hW:DataW.Whole enc Tryd.prog Tryd.f4.params.toList Rows.atomFormulasSpec.vars false W args.toList ds gs before) (hL:laidMetH Tryd.prog Rows.atomFormulasRow.laid W):
    Calls Tryd.prog 4 args W fun e W'=>∃ v,e= .returned v∧Rows.atomFormulasSpec.post enc Tryd.prog Tryd.f4 false true false false W args v W':=by
  have hW':=hW
  obtain⟨p,q,hA0,hV,rfl,hfz,hnd⟩:=hW
  have hA:DataW.TrodAll enc Tryd.prog W 0 (fun _=>true) true Tryd.f4.params.toList args.toList ds p:=hA0
  rw[Tryd.params4]at hA hval;obtain⟨v0,vs0,d0,ds0,p0,q0,hargs,rfl,rfl,h0,r0⟩:=trodAll_cons hA;obtain⟨v1,vs1,d1,ds1,p1,q1,rfl,rfl,rfl,h1,r1⟩:=trodAll_cons r0;obtain⟨rfl,rfl,rfl⟩:=trodAll_nil r1
  obtain rfl:args= #[v0,v1]:=by cases args;simp_all
  obtain⟨rfl,rfl⟩:=trodVars_none hV;clear hA0;obtain⟨c0,hd0,l0,rfl,hl0⟩:=zmv Tryd.underlying28 (z8o Tryd.underlying28 z7e Tryd.underlying5) (hval 0 28 v0 rfl rfl) h0;obtain⟨us1,cl1,rfl,hd1,x1,y1,z1,rfl⟩:=zlj Tryd.underlying31 b3_fit (hval 1 31 v1 rfl rfl) h1;obtain⟨v,rfl,-,hc⟩:=zcl [.c (.ds l0.length (.u8s l0)),.agg (.bools [x1,y1,z1])] (fun v=>v= .c (.bool true)) ⟨l0,x1,y1,z1,rfl,hl0,rfl⟩;refine(hc (oldI W) W _ (globOK hL) (fun b h=>h) (zle hd0 (argsD_b3 hd1 zmu))).mono fun e W' ⟨he,hs⟩=>⟨_,he,?_⟩;exact row_post laidOut (by rw[Tryd.params4];exact of_decide_eq_true (by kernel_rfl)) (by kernel_rfl) Tryd.underlying4 hW' rfl ⟨rfl,rfl,rfl⟩ hs

theorem laid_met(os:Os):laidMet Tryd.prog Rows.atomFormulasRow.laid ((zcg os).forCall (fun _ _=>0) ⟨#[], #[.slice none 0 0,.agg #[.bool false,.bool false,.bool false]],[]⟩).memory:=
  laidMet_of_run' 8 (by kernel_rfl) (by kernel_rfl)
theorem reads(os:Os){H:Type}(enc:TypeId×Value→H):∃ places,DataW.whole enc Tryd.prog ((zcg os).forCall (fun _ _=>0) ⟨#[], #[.slice none 0 0,.agg #[.bool false,.bool false,.bool false]],[]⟩).memory Tryd.f4.params.toList Rows.atomFormulasSpec.vars false (#[.slice none 0 0,.agg #[.bool false,.bool false,.bool false]]:Array Value).toList 8=some ([.nil,.agg [.lit (.bool false),.lit (.bool false),.lit (.bool false)]],[],places):=
  ⟨[],by kernel_rfl⟩

set_option maxRecDepth 100000 in
theorem lifted(os:Os)(started:os.Started)(H:Type)(enc:TypeId×Value→H)(F:Stop.Interp):
    ReturnsInHanded {} Tryd.checked os 4 .any ((OpenSpec.ofChange Rows.atomFormulasSpec).preRow enc Tryd.prog Tryd.f4 Rows.atomFormulasRow.domain false Rows.atomFormulasRow.laid) (((OpenSpec.ofChange Rows.atomFormulasSpec).at F).post enc Tryd.prog Tryd.f4 false true false false):=by
  obtain⟨places,hx⟩:=reads os enc
  refine returnsInHanded_of_row (C:=Tryd.checked) (s:=OpenSpec.ofChange Rows.atomFormulasSpec) own started (by kernel_rfl) Tryd.func4
    (witness_row_at (enc:=enc) (C:=Tryd.checked) false (zcg os) #[.slice none 0 0,.agg #[.bool false,.bool false,.bool false]] rfl (by kernel_rfl) (by kernel_rfl) (by kernel_rfl)
      (OpenSpec.preRow_of_cond 8 hx (by kernel_rfl) (fun k hk=>by cases hk) (by kernel_rfl) (laid_met os))) ?_
  intro W base args ds gs before hval hW _ _ _ hL _ _;exact contract H enc W base args ds gs before hval hW hL

set_option maxRecDepth 100000 in
theorem closed:joinedFacts Tryd.prog 4 Tryd.f4 (OpenSpec.ofChange Rows.atomFormulasSpec).bare Rows.atomFormulasRow=true:=by
  unfold joinedFacts;exact andT (andT (andT (andT (andT (andT (andT (by kernel_rfl) allEnter) zq3) allMake) (by kernel_rfl)) (by kernel_rfl)) (by kernel_rfl)) (by kernel_rfl)
theorem said:Rows.AtomFormulasSaid:=
  OpenClaim.holds_of_cond 4 Tryd.f4 rfl rfl rfl rfl rfl rfl rfl ⟨rfl,rfl,rfl,rfl,rfl⟩ rfl rfl rfl rfl rfl (by kernel_rfl) Tryd.func4 closed
    (of_decide_eq_true (by kernel_rfl)) (by unfold Func.isWrapper;first|(rw[if_pos (by decide+kernel)];kernel_rfl)|(rw[if_neg (by decide+kernel)];exact⟨rfl,rfl⟩))
    (fun os started H enc _ F=>by rw[OpenClaim.pre_eq_preRow];exact lifted os started H enc F)
end Go.Proofs.YtegdcifghaldoaaDoor.atomFormulas
