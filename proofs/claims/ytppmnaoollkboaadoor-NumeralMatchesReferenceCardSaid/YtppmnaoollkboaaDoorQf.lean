/- Contracts of functions and plain facts, part 6. -/
import Derived.Test.YtppmnaoollkboaaDoorQd
import Derived.Test.YtppmnaoollkboaaDoorQb
namespace Go.Proofs.YtppmnaoollkboaaDoor
set_option linter.all false
open Go.Ab Go.RowKit

open Go.Aut
structure ExIn(q1 q2:QSpec)(g:Stt→Nat→Stt)(acc:Stt→Bool)(Inv:Stt→Prop)(cell:List Int)(bytes:List Nat)(s0:Stt)(c1 c2:List Cell)(most:Nat):Prop where
  clen:cell.length=256
  npos:0< bytes.length
  nmax:bytes.length≤256
  byte:∀ b∈bytes,b< 256
  mpos:0< most
  mmax:most≤1073741824
  d1:∀ x∈c1,dataC x
  d2:∀ x∈c2,dataC x
  i0:Inv s0
  iok:∀ s,Inv s→okS s
  ig:∀ (s:Stt) (b:Nat),Inv s→b< 256→Inv (g s b)
  h1:∀ (s:Stt) (b:Nat),Inv s→b< 256→q1 ([stV s,.c (.int .i64 (b:Int))]++c1.map .c) (fun v=>v=stV (g s b))
  h2:∀ s:Stt,Inv s→q2 ([stV s]++c2.map .c) (fun v=>v= .c (.bool (acc s)))
attribute [local irreducible] z0o z0y zl z08 z0v putB rowQ rowsQ accQ
end Go.Proofs.YtppmnaoollkboaaDoor
