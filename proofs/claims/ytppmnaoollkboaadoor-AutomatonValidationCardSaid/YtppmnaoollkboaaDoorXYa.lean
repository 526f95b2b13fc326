/- What all cards of the laws of automata share: the table, a world for the witness, the arguments' shapes. -/
import Derived.Test.YtppmnaoollkboaaDoorCards
import Derived.Test.YtppmnaoollkboaaDoorTie
import Derived.Test.YtppmnaoollkboaaDoorPb
import Derived.Test.YtppmnaoollkboaaDoorPd
import Derived.Test.YtppmnaoollkboaaDoorPn
import Derived.Test.YtppmnaoollkboaaDoorXYx1
import Derived.Test.YtppmnaoollkboaaDoorXYx2
import Derived.Test.YtppmnaoollkboaaDoorXYx3
import Derived.Test.YtppmnaoollkboaaDoorXYx4
namespace Go.Proofs.YtppmnaoollkboaaDoor
set_option linter.all false
open Go.Ab Go.RowKit Go.ChangeShapes

theorem own:ownKnob Tryd.prog.godebug=none:=by kernel_rfl
theorem laidOut:laidOutB Tryd.prog=true:=by kernel_rfl
theorem gTab:Tryd.prog.globalNamed "math/bits.deBruijn64tab" =some 0:=by kernel_rfl
theorem gTabType:(Tryd.prog.globals[0]?).map (·.type)=some 177:=by kernel_rfl
theorem cellsTab:Tryd.prog.cellsOf 177=64:=by kernel_rfl
theorem zrl:Tryd.prog.cellsOf 5=1:=by kernel_rfl
theorem cellsBO:Tryd.prog.cellsOf 4=1:=by kernel_rfl
theorem cellsSB:Tryd.prog.cellsOf 28=1:=by kernel_rfl
theorem cellsLE:Tryd.prog.cellsOf 77=2:=by kernel_rfl
noncomputable def tabZs:List Int:=[0,1,56,2,57,49,28,3,61,58,42,50,38,29,17,4,62,47,59,36,45,43,51,22,53,39,33,30,24,18,12,5,63,55,48,27,60,41,37,16,46,35,44,21,52,32,23,11,54,26,40,15,34,20,31,10,25,14,19,9,13,8,7,6]
theorem zu7:tabZs=z4h.map (fun x=>(x.toNat:Int)):=by decide+kernel
noncomputable abbrev laidL:List (String×DataW Unit):=[("math/bits.deBruijn64tab",Rows.laid_math_bits_deBruijn64tab)]
theorem table{W:World}(h:laidMetH Tryd.prog laidL W):Lib.TabIs Tryd.prog W "math/bits.deBruijn64tab" .u8 tabZs:=
  Lib.tabIs_of_head (rest:=[]) gTab gTabType Tryd.underlying177 Tryd.underlying5 zrl cellsTab h
theorem globOK {W:World} (h:laidMetH Tryd.prog laidL W):z2s gl (oldI W) W:=by
  intro g c hg;unfold gl at hg
  split at hg
  · rename_i e
    cases hg;subst e
    have hlen:z4h.length=64:=by decide
    have hc:∀ j,j< 64→W.cell? ⟨0,j,none⟩=some (.int .u8 (tabZs.getD j 0)):=fun j hj=>(table h).cell gTab j (by rw[zu7,List.length_map,hlen];exact hj)
    refine CellD.dp (.u8s z4h) 0 0 0 (fun j=>.int .u8 (tabZs.getD j 0)) (zhb (hc 0 (by decide))).2 (by show 0< z4h.length;omega) (fun j hj=>?_) (fun j hj=>?_)
    · rw[Nat.zero_add];exact hc j (hlen▸hj)
    · have hj':j< z4h.length:=hj
      have e:tabZs.getD j 0=((z4h.getD j 0).toNat:Int):=by
        rw[zu7]
        simp[List.getD_eq_getElem?_getD,hj']
      show CellD _ _ (.u8 (z4h.getD j 0)) (.int .u8 (tabZs.getD j 0))
      rw[e];exact .flat (.u8 _) rfl
  · cases hg
theorem andT{a b:Bool}(h:a=true)(k:b=true):(a&&b)=true:=by rw[h,k];rfl
noncomputable def zj7(os:Os):World:=
  { World.holding Tryd.prog os ⟨#[], #[],[]⟩with heap:=(World.holding Tryd.prog os ⟨#[], #[],[]⟩).heap.modify 0 fun
      | .cells _ t frozen=>.cells (tabZs.map (Value.int .u8)).toArray t frozen
      |o=>o }
theorem cellsBY:Tryd.prog.cellsOf 22=1:=by kernel_rfl
section
variable {H:Type} {enc:TypeId×Value→H} {W:World}
theorem raw_fit:FitN enc Tryd.prog W 24 fun l=>∃ (a:UInt8) (x:List UInt8) (m:UInt8),l=[.u8 a,.ds x.length (.u8s x),.u8 m]∧x.length≤9223372036854775807:=
  (zhg Tryd.underlying24 (by kernel_rfl) (show FitFs enc Tryd.prog W 0 _ [_,_,_] from⟨rfl,z93 (zwk Tryd.underlying5),by kernel_rfl,z93 (znc Tryd.underlying22 zrl Tryd.underlying5),by kernel_rfl,z93 (zwk Tryd.underlying5),trivial⟩)).mono fun l ⟨ls,e,h⟩=>by
    obtain⟨l0,ls0,rfl,h0,h⟩:=z87 h;obtain⟨l1,ls1,rfl,h1,h⟩:=z87 h;obtain⟨l2,ls2,rfl,h2,h⟩:=z87 h;obtain rfl:=zs5 h;obtain⟨_,rfl,a,rfl⟩:=h0;obtain⟨_,rfl,b,rfl,hb⟩:=h1;obtain⟨_,rfl,m,rfl⟩:=h2;exact⟨a,b,m,e,hb⟩
end

end Go.Proofs.YtppmnaoollkboaaDoor
