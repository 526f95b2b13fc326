/- Contracts of functions and plain facts, part 11. -/
import Derived.Test.YtppmnaoollkboaaDoorQj
import Derived.Test.YtppmnaoollkboaaDoorQf
import Derived.Test.YtppmnaoollkboaaDoorQh
namespace Go.Proofs.YtppmnaoollkboaaDoor
set_option linter.all false
open Go.Ab Go.RowKit

open Go.Aut
attribute [local irreducible] allB
structure JIn(a b:Tab):Prop where
  pos:0< (jrep (cN a) (cN b)).length
  max:(jrep (cN a) (cN b)).length≤256
  byte:∀ x∈jrep (cN a) (cN b),x< 256
  cl:∀ x∈jL a b 256,0≤x∧x< ((jrep (cN a) (cN b)).length:Nat)
  on:∀ c,c< (jrep (cN a) (cN b)).length→∃ x,x< 256∧((jL a b 256).getD x 0).toNat=c
  at':∀ x,x< 256→((jL a b 256).getD x 0).toNat< (jrep (cN a) (cN b)).length∧∃ r,(jrep (cN a) (cN b)).getD ((jL a b 256).getD x 0).toNat 0=r∧cN a r=cN a x∧cN b r=cN b x∧r< 256
def prodG(a b:Tab)(s:Stt)(c:Nat):Stt:=((tblT a).δ s.1 (cN a c),(tblT b).δ s.2.1 (cN b c),0)
def prodA(op:Bool→Bool→Bool)(a b:Tab)(s:Stt):Bool:=op (a.acc.getD s.1 false) (b.acc.getD s.2.1 false)
noncomputable def prodT(op:Bool→Bool→Bool)(a b:Tab):Tab:=(exR (prodG a b) (prodA op a b) (jL a b 256) (jrep (cN a) (cN b)) (0,0,0) 1073741824).1
attribute [local irreducible] z0o z0y zl z08 z0v putB jL jcell jrep
attribute [local irreducible] prodT exR
end Go.Proofs.YtppmnaoollkboaaDoor

namespace Go.Proofs.YtppmnaoollkboaaDoor
set_option linter.all false
open Go.Ab Go.RowKit

open Go.Aut
attribute [local irreducible] z0o z0y zl z08 z0v putB prodT canD
end Go.Proofs.YtppmnaoollkboaaDoor
