/- AtomKinds: for every input the law returns true, and each argument reads behind the call as it read before; the package-level table starts as the program's text lays it. -/
import Derived.Test.YtegdcifghaldoaaDoorVYe0
namespace Go.Proofs.YtegdcifghaldoaaDoor.atomKinds
set_option linter.all false
open Go.Ab Go.RowKit Go.ChangeShapes

theorem plain(f:FuncId)(fn:Func)(hf:Tryd.pinned.checked.prog.funcNamed "univocal/univocallaw13.AtomKinds" =some f) (hfn:Tryd.pinned.checked.prog.funcs[f]? =some fn):
    false=Tryd.pinned.checked.prog.looks []∧∀ (j:Nat) t,fn.params[j]? =some t→Tryd.pinned.checked.prog.wantsStandIn t=false:=by
  obtain rfl:f=8:=Option.some.inj ((show Tryd.prog.funcNamed "univocal/univocallaw13.AtomKinds" =some 8 by kernel_rfl).symm.trans hf) |>.symm;obtain rfl:fn=Tryd.f8:=(Option.some.inj (Tryd.func8.symm.trans hfn)).symm;refine⟨by kernel_rfl,fun j t ht=>?_⟩;rw[Tryd.params8]at ht
  have hall:∀ u∈[28,47],Tryd.prog.wantsStandIn u=false:=of_decide_eq_true (by kernel_rfl)
  exact hall t (by simpa using Array.mem_of_getElem? ht)

theorem card:Rows.AtomKindsCardSaid:=
  Claim7.holds_tied_plain_at .later [] _ _ (true, "875e94544f7b3e3bc550fc01497f23b4b140bca84561ec0ef7272a60241633d0") false said (fun _ h=>by cases h) (by kernel_rfl) (fun _ h=>by cases h) atomKinds_row_tie rfl ⟨rfl,rfl⟩ ztv rfl plain (by kernel_rfl)
end Go.Proofs.YtegdcifghaldoaaDoor.atomKinds
