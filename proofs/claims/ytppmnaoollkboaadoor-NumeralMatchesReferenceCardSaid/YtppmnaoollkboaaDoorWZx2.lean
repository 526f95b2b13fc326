/- A closed fact of the whole program, by itself. -/
import Derived.ProofKit
import Derived.Test.YtppmnaoollkboaaDoorCards
import Derived.Test.YtppmnaoollkboaaDoorTie
namespace Go.Proofs.YtppmnaoollkboaaDoor
set_option linter.all false
theorem y0b:(Rows.numeralRangeRow.lifted==Tryd.prog.liftsFinal)=true:=by kernel_rfl
end Go.Proofs.YtppmnaoollkboaaDoor
