/- A closed fact of the whole program, by itself. -/
import Derived.ProofKit
import Derived.Test.YtegdcifghaldoaaDoorCards
import Derived.Test.YtegdcifghaldoaaDoorTie
namespace Go.Proofs.YtegdcifghaldoaaDoor
set_option linter.all false
theorem allMain:Tryd.pinned.checked.prog.mainIs=some ((true, "875e94544f7b3e3bc550fc01497f23b4b140bca84561ec0ef7272a60241633d0").1,(true, "875e94544f7b3e3bc550fc01497f23b4b140bca84561ec0ef7272a60241633d0").2.toList):=by kernel_rfl
end Go.Proofs.YtegdcifghaldoaaDoor
