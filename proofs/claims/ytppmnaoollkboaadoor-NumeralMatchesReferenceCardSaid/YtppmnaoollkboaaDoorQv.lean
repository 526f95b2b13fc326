/- Contracts of functions and plain facts, part 22. -/
import Derived.Test.YtppmnaoollkboaaDoorQu
namespace Go.Proofs.YtppmnaoollkboaaDoor
set_option linter.all false
open Go.Ab Go.RowKit

open Go.Aut
theorem rt_at1{cell:List Int}{x y:Cell}(h:cell.length=256):(rt cell x y)[257]? =some y:=by
  rw[rt,List.getElem?_append_right (by simp[h])]
  simp[h]
theorem rt_y{cell:List Int}{x y:Cell}(h:cell.length=256):(Cont.cells (rt cell x y)).get (0+257)=y:=by rw[Nat.zero_add,zk8 h 1];rfl
attribute [local irreducible] z0o z0y zl z08 z0v putB rt rzl cbK jL jrep jcell prRow zzg prAcc
end Go.Proofs.YtppmnaoollkboaaDoor
