/- AutomatonValidation: for every input the law returns true, and each argument reads behind the call as it read before; the package-level table starts as the program's text lays it. -/
import Derived.Test.YtppmnaoollkboaaDoorXYj0
namespace Go.Proofs.YtppmnaoollkboaaDoor.automatonValidation
set_option linter.all false
open Go.Ab Go.RowKit Go.ChangeShapes

theorem plain(f:FuncId)(fn:Func)(hf:Tryd.pinned.checked.prog.funcNamed "univocal/univocallaw03.AutomatonValidation" =some f) (hfn:Tryd.pinned.checked.prog.funcs[f]? =some fn):
    false=Tryd.pinned.checked.prog.looks []∧∀ (j:Nat) t,fn.params[j]? =some t→Tryd.pinned.checked.prog.wantsStandIn t=false:=by
  obtain rfl:f=9:=Option.some.inj ((show Tryd.prog.funcNamed "univocal/univocallaw03.AutomatonValidation" =some 9 by kernel_rfl).symm.trans hf) |>.symm;obtain rfl:fn=Tryd.f9:=(Option.some.inj (Tryd.func9.symm.trans hfn)).symm;refine⟨by kernel_rfl,fun j t ht=>?_⟩;rw[Tryd.params9]at ht
  have hall:∀ u∈[30,22],Tryd.prog.wantsStandIn u=false:=of_decide_eq_true (by kernel_rfl)
  exact hall t (by simpa using Array.mem_of_getElem? ht)

theorem card:Rows.AutomatonValidationCardSaid:=
  Claim7.holds_tied_plain_at .later [] _ _ (true, "5467b4600fd1fb1484a8ad753bf19ef19094ce21aa16f16cbaf1cb9ac7143c34") false said (fun _ h=>by cases h) (by kernel_rfl) (fun _ h=>by cases h) automatonValidation_row_tie rfl ⟨rfl,rfl⟩ allMain rfl plain (by kernel_rfl)
end Go.Proofs.YtppmnaoollkboaaDoor.automatonValidation
