/- NumeralMatchesReference: for every input the law returns true, and each argument reads behind the call as it read before; the package-level table starts as the program's text lays it. -/
import Derived.Test.YtppmnaoollkboaaDoorWZh0
namespace Go.Proofs.YtppmnaoollkboaaDoor.numeralMatchesReference
set_option linter.all false
open Go.Ab Go.RowKit Go.ChangeShapes

theorem plain(f:FuncId)(fn:Func)(hf:Tryd.pinned.checked.prog.funcNamed "univocal/univocallaw09.NumeralMatchesReference" =some f) (hfn:Tryd.pinned.checked.prog.funcs[f]? =some fn):
    false=Tryd.pinned.checked.prog.looks []∧∀ (j:Nat) t,fn.params[j]? =some t→Tryd.pinned.checked.prog.wantsStandIn t=false:=by
  obtain rfl:f=15:=Option.some.inj ((show Tryd.prog.funcNamed "univocal/univocallaw09.NumeralMatchesReference" =some 15 by kernel_rfl).symm.trans hf) |>.symm;obtain rfl:fn=Tryd.f15:=(Option.some.inj (Tryd.func15.symm.trans hfn)).symm;refine⟨by kernel_rfl,fun j t ht=>?_⟩;rw[Tryd.params15]at ht
  have hall:∀ u∈[61,22,3],Tryd.prog.wantsStandIn u=false:=of_decide_eq_true (by kernel_rfl)
  exact hall t (by simpa using Array.mem_of_getElem? ht)

theorem card:Rows.NumeralMatchesReferenceCardSaid:=
  Claim7.holds_tied_plain_at .later [] _ _ (true, "5467b4600fd1fb1484a8ad753bf19ef19094ce21aa16f16cbaf1cb9ac7143c34") false said (fun _ h=>by cases h) (by kernel_rfl) (fun _ h=>by cases h) numeralMatchesReference_row_tie rfl ⟨rfl,rfl⟩ allMain rfl plain (by kernel_rfl)
end Go.Proofs.YtppmnaoollkboaaDoor.numeralMatchesReference
