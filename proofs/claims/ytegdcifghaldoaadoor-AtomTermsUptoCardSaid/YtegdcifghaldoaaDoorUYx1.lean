/- A closed fact of the whole program, by itself. -/
import Derived.ProofKit
import Derived.Test.YtegdcifghaldoaaDoorCards
import Derived.Test.YtegdcifghaldoaaDoorTie
namespace Go.Proofs.YtegdcifghaldoaaDoor
set_option linter.all false
theorem allEnter:Tryd.prog.mayEnter=true:=by kernel_rfl
end Go.Proofs.YtegdcifghaldoaaDoor
