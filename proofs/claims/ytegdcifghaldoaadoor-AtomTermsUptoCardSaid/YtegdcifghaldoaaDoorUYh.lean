/- AtomTerms: for every input whose reading has a bulk of at most 1048576 the law returns true, and each argument reads behind the call as it read before; the package-level table starts as the program's text lays it. -/
import Derived.Test.YtegdcifghaldoaaDoorUYh0
namespace Go.Proofs.YtegdcifghaldoaaDoor.atomTerms
set_option linter.all false
open Go.Ab Go.RowKit Go.ChangeShapes

theorem plain(f:FuncId)(fn:Func)(hf:Tryd.pinned.checked.prog.funcNamed "univocal/univocallaw13.AtomTerms" =some f) (hfn:Tryd.pinned.checked.prog.funcs[f]? =some fn):
    false=Tryd.pinned.checked.prog.looks []∧∀ (j:Nat) t,fn.params[j]? =some t→Tryd.pinned.checked.prog.wantsStandIn t=false:=by
  obtain rfl:f=3:=Option.some.inj ((show Tryd.prog.funcNamed "univocal/univocallaw13.AtomTerms" =some 3 by kernel_rfl).symm.trans hf) |>.symm;obtain rfl:fn=Tryd.f3:=(Option.some.inj (Tryd.func3.symm.trans hfn)).symm;refine⟨by kernel_rfl,fun j t ht=>?_⟩;rw[Tryd.params3]at ht
  have hall:∀ u∈[22,22,23],Tryd.prog.wantsStandIn u=false:=of_decide_eq_true (by kernel_rfl)
  exact hall t (by simpa using Array.mem_of_getElem? ht)

theorem card:Rows.AtomTermsUptoCardSaid:=
  Claim7.holds_tied_plain_at .later [] _ _ (true, "875e94544f7b3e3bc550fc01497f23b4b140bca84561ec0ef7272a60241633d0") false said (fun _ h=>by cases h) (by kernel_rfl) (fun _ h=>by cases h) atomTermsUpto_row_tie rfl ⟨rfl,rfl⟩ allMain rfl plain (by kernel_rfl)
end Go.Proofs.YtegdcifghaldoaaDoor.atomTerms
