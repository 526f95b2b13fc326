/- A closed fact of the whole program, by itself. -/
import Derived.ProofKit
import Derived.Test.YtppmnaoollkboaaDoorCards
import Derived.Test.YtppmnaoollkboaaDoorTie
namespace Go.Proofs.YtppmnaoollkboaaDoor
set_option linter.all false
theorem allMain:Tryd.pinned.checked.prog.mainIs=some ((true, "5467b4600fd1fb1484a8ad753bf19ef19094ce21aa16f16cbaf1cb9ac7143c34").1,(true, "5467b4600fd1fb1484a8ad753bf19ef19094ce21aa16f16cbaf1cb9ac7143c34").2.toList):=by kernel_rfl
end Go.Proofs.YtppmnaoollkboaaDoor
