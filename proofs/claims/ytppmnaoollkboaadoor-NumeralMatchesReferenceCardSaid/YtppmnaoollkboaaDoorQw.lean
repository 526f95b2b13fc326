/- Contracts of functions and plain facts, part 23. -/
import Derived.Test.YtppmnaoollkboaaDoorQv
import Derived.Test.YtppmnaoollkboaaDoorQi
namespace Go.Proofs.YtppmnaoollkboaaDoor
set_option linter.all false
open Go.Ab Go.RowKit

open Go.Aut
theorem ztv:((Cont.cells (List.replicate 256 (Cell.int .i64 0)++List.replicate 2 .nils)).sub 257 1).list=[.nils]:=by
  show List.take 1 (List.drop 257 (List.replicate 256 _++List.replicate 2 _))=_
  rw[List.drop_append,List.length_replicate,List.drop_of_length_le (by rw[List.length_replicate];decide)]
  rfl
theorem zpt:((Cont.cells (List.replicate 256 (Cell.int .i64 0)++List.replicate 2 .nils)).sub 0 256).list++(((Cont.cells (List.replicate 256 (Cell.int .i64 0)++List.replicate 2 .nils)).sub 256 1).list++(((Cont.cells (List.replicate 256 (Cell.int .i64 0)++List.replicate 2 .nils)).sub 257 1).list++[]))=rt (idL 0) .nils .nils:=by
  rw[ztv, ←idL_zero];exact zi9 .nils
attribute [local irreducible] z0o z0y zl z08 z0v putB rt rzl cbK canD idL rowW rowsW accW fillN
end Go.Proofs.YtppmnaoollkboaaDoor
