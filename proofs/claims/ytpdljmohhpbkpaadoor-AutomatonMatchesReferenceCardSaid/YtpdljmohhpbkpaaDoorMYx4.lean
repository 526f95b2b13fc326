/- A closed fact of the whole program, by itself. -/
import Derived.ProofKit
import Derived.Test.YtpdljmohhpbkpaaDoorCards
import Derived.Test.YtpdljmohhpbkpaaDoorTie
set_option linter.all false
namespace Go.Proofs.YtpdljmohhpbkpaaDoor
theorem Cq:Tryd.pinned.checked.prog.mainIs=some ((true, "a124d293ec31c03cb7c47bfa8d040b93bd105979ac2afeb352d1d6995cba5be5").1,(true, "a124d293ec31c03cb7c47bfa8d040b93bd105979ac2afeb352d1d6995cba5be5").2.toList):=by kernel_rfl
end Go.Proofs.YtpdljmohhpbkpaaDoor
