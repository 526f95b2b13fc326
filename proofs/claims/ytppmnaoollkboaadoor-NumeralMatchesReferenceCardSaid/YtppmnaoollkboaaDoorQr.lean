/- Contracts of functions and plain facts, part 18. -/
import Derived.Test.YtppmnaoollkboaaDoorQq
import Derived.Test.YtppmnaoollkboaaDoorQl
import Derived.Test.YtppmnaoollkboaaDoorQj
namespace Go.Proofs.YtppmnaoollkboaaDoor
set_option linter.all false
open Go.Ab Go.RowKit

open Go.Aut
attribute [local irreducible] z0o z0y zl z08 z0v putB rt rzl cbK
end Go.Proofs.YtppmnaoollkboaaDoor

namespace Go.Proofs.YtppmnaoollkboaaDoor
set_option linter.all false
open Go.Ab Go.RowKit

open Go.Aut
attribute [local irreducible] z0o z0y zl z08 z0v putB rt rzl cbK jL jcell jrep
end Go.Proofs.YtppmnaoollkboaaDoor
