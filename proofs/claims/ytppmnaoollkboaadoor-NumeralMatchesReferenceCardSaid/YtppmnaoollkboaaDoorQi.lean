/- Contracts of functions and plain facts, part 9. -/
import Derived.Test.YtppmnaoollkboaaDoorQh
import Derived.Test.YtppmnaoollkboaaDoorQd
import Derived.Test.YtppmnaoollkboaaDoorQc
namespace Go.Proofs.YtppmnaoollkboaaDoor
set_option linter.all false
open Go.Ab Go.RowKit

open Go.Aut
def idL(k:Nat):List Int:=(List.range 256).map fun i=>if i< k then(i:Int)else 0
theorem z3s(k:Nat):(idL k).length=256:=by simp[idL]
theorem idL_zero:z0y=idL 0:=by simp[idL,z0y,List.map_const']
def rowW(x:List UInt8)(s:Nat):List Int:=(List.range 256).map fun b=>if s< x.length∧b=(x.getD s 0).toNat then((s:Int)+1) else((x.length:Int)+1)
def rowsW(x:List UInt8)(k:Nat):List (List Int):=(List.range k).map (rowW x)
def accW(x:List UInt8)(k:Nat):List Bool:=(List.range k).map fun s:Nat=>decide ((s:Int)=(x.length:Int))
@[simp] theorem rowsW_length(x:List UInt8)(k:Nat):(rowsW x k).length=k:=by simp[rowsW]
@[simp] theorem accW_length(x:List UInt8)(k:Nat):(accW x k).length=k:=by simp[accW]
theorem rowsW_succ(x:List UInt8)(k:Nat):rowsW x k++[rowW x k]=rowsW x (k+1):=by simp[rowsW,List.range_succ]
attribute [local irreducible] z0o z0y zl z08 z0v putB fillN canD idL rowsW accW rowW
end Go.Proofs.YtppmnaoollkboaaDoor
