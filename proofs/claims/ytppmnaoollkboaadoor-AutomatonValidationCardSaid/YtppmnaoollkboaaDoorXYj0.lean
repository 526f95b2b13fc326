/- AutomatonValidation, all but its card: for every input the law returns true, and each argument reads behind the call as it read before; the package-level table starts as the program's text lays it. -/
import Derived.Test.YtppmnaoollkboaaDoorXJu
import Derived.Test.YtppmnaoollkboaaDoorXJw
import Derived.Test.YtppmnaoollkboaaDoorXYa
namespace Go.Proofs.YtppmnaoollkboaaDoor.automatonValidation
set_option linter.all false
open Go.Ab Go.RowKit Go.ChangeShapes

set_option maxRecDepth 100000 in
theorem contract(H:Type)(enc:TypeId×Value→H)(W:World)(base:Nat)(args:Array Value)(ds gs:List (DataW H))(before:List MemPlace)
    (hval:∀ (j:Nat) t v,Tryd.f9.params[j]? =some t→args[j]? =some v→Value.okWide Tryd.prog W .any base t v)
    (hW:DataW.Whole enc Tryd.prog Tryd.f9.params.toList Rows.automatonValidationSpec.vars false W args.toList ds gs before) (hL:laidMetH Tryd.prog Rows.automatonValidationRow.laid W):
    Calls Tryd.prog 9 args W fun e W'=>∃ v,e= .returned v∧Rows.automatonValidationSpec.post enc Tryd.prog Tryd.f9 false true false false W args v W':=by
  have hW':=hW
  obtain⟨p,q,hA0,hV,rfl,hfz,hnd⟩:=hW
  have hA:DataW.TrodAll enc Tryd.prog W 0 (fun _=>true) true Tryd.f9.params.toList args.toList ds p:=hA0
  rw[Tryd.params9]at hA hval;obtain⟨v0,vs0,d0,ds0,p0,q0,hargs,rfl,rfl,h0,r0⟩:=trodAll_cons hA;obtain⟨v1,vs1,d1,ds1,p1,q1,rfl,rfl,rfl,h1,r1⟩:=trodAll_cons r0;obtain⟨rfl,rfl,rfl⟩:=trodAll_nil r1
  obtain rfl:args= #[v0,v1]:=by cases args;simp_all
  obtain⟨rfl,rfl⟩:=trodVars_none hV;clear hA0;obtain⟨us0,cl0,rfl,hd0,e0,rfl,hw0⟩:=zpo Tryd.underlying30 dfa_fit (hval 0 30 v0 rfl rfl) h0;obtain⟨c1,hd1,l1,rfl,hl1⟩:=zwn Tryd.underlying22 (znc Tryd.underlying22 zrl Tryd.underlying5) (hval 1 22 v1 rfl rfl) h1;obtain⟨v,rfl,-,hc⟩:=zfs [dfaV e0,.c (.ds l1.length (.u8s l1))] (fun v=>v= .c (.bool true)) ⟨e0,l1,rfl,⟨hw0,hl1⟩,rfl⟩;refine(hc (oldI W) W _ (globOK hL) (fun b h=>h) (zpp hd0 (zur hd1 zwm))).mono fun e W' ⟨he,hs⟩=>⟨_,he,?_⟩;exact row_post laidOut (by rw[Tryd.params9];exact of_decide_eq_true (by kernel_rfl)) (by kernel_rfl) Tryd.underlying4 hW' rfl ⟨rfl,rfl,rfl⟩ hs

theorem laid_met(os:Os):laidMet Tryd.prog Rows.automatonValidationRow.laid ((zj7 os).forCall (fun _ _=>0) ⟨#[], #[.agg #[.slice none 0 0,.slice none 0 0,.slice none 0 0],.slice none 0 0],[]⟩).memory:=
  laidMet_of_run' 8 (by kernel_rfl) (by kernel_rfl)
theorem reads(os:Os){H:Type}(enc:TypeId×Value→H):∃ places,DataW.whole enc Tryd.prog ((zj7 os).forCall (fun _ _=>0) ⟨#[], #[.agg #[.slice none 0 0,.slice none 0 0,.slice none 0 0],.slice none 0 0],[]⟩).memory Tryd.f9.params.toList Rows.automatonValidationSpec.vars false (#[.agg #[.slice none 0 0,.slice none 0 0,.slice none 0 0],.slice none 0 0]:Array Value).toList 8=some ([.agg [.nil,.nil,.nil],.nil],[],places):=
  ⟨[],by kernel_rfl⟩

set_option maxRecDepth 100000 in
theorem lifted(os:Os)(started:os.Started)(H:Type)(enc:TypeId×Value→H)(F:Stop.Interp):
    ReturnsInHanded {} Tryd.checked os 9 .any ((OpenSpec.ofChange Rows.automatonValidationSpec).preRow enc Tryd.prog Tryd.f9 Rows.automatonValidationRow.domain false Rows.automatonValidationRow.laid) (((OpenSpec.ofChange Rows.automatonValidationSpec).at F).post enc Tryd.prog Tryd.f9 false true false false):=by
  obtain⟨places,hx⟩:=reads os enc
  refine returnsInHanded_of_row (C:=Tryd.checked) (s:=OpenSpec.ofChange Rows.automatonValidationSpec) own started (by kernel_rfl) Tryd.func9
    (witness_row_at (enc:=enc) (C:=Tryd.checked) false (zj7 os) #[.agg #[.slice none 0 0,.slice none 0 0,.slice none 0 0],.slice none 0 0] rfl (by kernel_rfl) (by kernel_rfl) (by kernel_rfl)
      (OpenSpec.preRow_of_cond 8 hx (by kernel_rfl) (fun k hk=>by cases hk) (by kernel_rfl) (laid_met os))) ?_
  intro W base args ds gs before hval hW _ _ _ hL _ _;exact contract H enc W base args ds gs before hval hW hL

set_option maxRecDepth 100000 in
theorem closed:joinedFacts Tryd.prog 9 Tryd.f9 (OpenSpec.ofChange Rows.automatonValidationSpec).bare Rows.automatonValidationRow=true:=by
  unfold joinedFacts;exact andT (andT (andT (andT (andT (andT (andT (by kernel_rfl) allEnter) y28) allMake) (by kernel_rfl)) (by kernel_rfl)) (by kernel_rfl)) (by kernel_rfl)
theorem said:Rows.AutomatonValidationSaid:=
  OpenClaim.holds_of_cond 9 Tryd.f9 rfl rfl rfl rfl rfl rfl rfl ⟨rfl,rfl,rfl,rfl,rfl⟩ rfl rfl rfl rfl rfl (by kernel_rfl) Tryd.func9 closed
    (of_decide_eq_true (by kernel_rfl)) (by unfold Func.isWrapper;first|(rw[if_pos (by decide+kernel)];kernel_rfl)|(rw[if_neg (by decide+kernel)];exact⟨rfl,rfl⟩))
    (fun os started H enc _ F=>by rw[OpenClaim.pre_eq_preRow];exact lifted os started H enc F)
end Go.Proofs.YtppmnaoollkboaaDoor.automatonValidation
