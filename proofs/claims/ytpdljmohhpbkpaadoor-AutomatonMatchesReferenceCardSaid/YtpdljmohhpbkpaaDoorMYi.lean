/- AutomatonMatchesReference: for every input the law returns true, and each argument reads behind the call as it read before; the package-level table starts as the program's text lays it. -/
import Derived.Test.YtpdljmohhpbkpaaDoorMYi0
set_option linter.all false
namespace Go.Proofs.YtpdljmohhpbkpaaDoor.automatonMatchesReference
open Go.Ab Go.RowKit Go.ChangeShapes

theorem plain(f:FuncId)(fn:Func)(hf:Tryd.pinned.checked.prog.funcNamed "univocal/univocallaw03.AutomatonMatchesReference" =some f) (hfn:Tryd.pinned.checked.prog.funcs[f]? =some fn):
    false=Tryd.pinned.checked.prog.looks []/\∀ (j:Nat) t,fn.params[j]? =some t->Tryd.pinned.checked.prog.wantsStandIn t=false:=by
  obtain rfl:f=3:=Option.some.inj ((show Tryd.prog.funcNamed "univocal/univocallaw03.AutomatonMatchesReference" =some 3 by kernel_rfl).symm.trans hf) |>.symm;obtain rfl:fn=Tryd.f3:=(Option.some.inj (Tryd.func3.symm.trans hfn)).symm;refine⟨by kernel_rfl,fun j t ht=>?_⟩;rw[Tryd.params3]at ht
  have hall:∀ u∈[24,24,22],Tryd.prog.wantsStandIn u=false:=of_decide_eq_true (by kernel_rfl)
  exact hall t (by simpa using Array.mem_of_getElem? ht)

theorem card:Rows.AutomatonMatchesReferenceCardSaid:=
  Claim7.holds_tied_plain_at .later [] _ _ (true, "a124d293ec31c03cb7c47bfa8d040b93bd105979ac2afeb352d1d6995cba5be5") false said (fun _ h=>by cases h) (by kernel_rfl) (fun _ h=>by cases h) automatonMatchesReference_row_tie rfl ⟨rfl,rfl⟩ Cq rfl plain (by kernel_rfl)
end Go.Proofs.YtpdljmohhpbkpaaDoor.automatonMatchesReference
