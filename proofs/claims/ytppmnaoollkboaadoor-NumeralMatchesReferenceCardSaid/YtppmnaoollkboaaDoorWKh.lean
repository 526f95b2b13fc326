/- A rule as an argument. -/
import Derived.Test.YtppmnaoollkboaaDoorQn
import Derived.Test.YtppmnaoollkboaaDoorQb
namespace Go.Proofs.YtppmnaoollkboaaDoor
set_option linter.all false
open Go.Ab Go.RowKit

open Go.ChangeShapes
section
variable {H:Type} {enc:TypeId×Value→H} {W:World}
theorem rul_fit:FitN enc Tryd.prog W 61 fun l=>∃ r:Rul,l=[.int .i64 r.base,.int .i64 r.digits,.int .i64 r.top,.int .i64 r.over,.bool r.zeros]:=
  (zfs Tryd.underlying61 kR (show FitFs enc Tryd.prog W 0 _ [_,_,_,_,_] from⟨rfl,z85 (zfl Tryd.underlying3),kR,z85 (zfl Tryd.underlying3),kR,z85 (zfl Tryd.underlying3),kR,z85 (zfl Tryd.underlying3),kR,z85 (fit_bool Tryd.underlying4),trivial⟩)).mono fun l ⟨ls,e,h⟩=>by
    obtain⟨l0,ls0,rfl,h0,h⟩:=z6a h;obtain⟨l1,ls1,rfl,h1,h⟩:=z6a h;obtain⟨l2,ls2,rfl,h2,h⟩:=z6a h;obtain⟨l3,ls3,rfl,h3,h⟩:=z6a h;obtain⟨l4,ls4,rfl,h4,h⟩:=z6a h;obtain rfl:=zqi h;obtain⟨_,rfl,a,rfl,_⟩:=h0;obtain⟨_,rfl,b,rfl,_⟩:=h1;obtain⟨_,rfl,c,rfl,_⟩:=h2;obtain⟨_,rfl,d,rfl,_⟩:=h3;obtain⟨_,rfl,z,rfl⟩:=h4;exact⟨⟨a,b,c,d,z⟩,e⟩
end

end Go.Proofs.YtppmnaoollkboaaDoor
