/- A closed fact of the whole program, by itself. -/
import Derived.ProofKit
import Derived.Test.YtpdljmohhpbkpaaDoorCards
import Derived.Test.YtpdljmohhpbkpaaDoorTie
set_option linter.all false
namespace Go.Proofs.YtpdljmohhpbkpaaDoor
theorem wu:Tryd.prog.mayEnter=true:=by kernel_rfl
end Go.Proofs.YtpdljmohhpbkpaaDoor
