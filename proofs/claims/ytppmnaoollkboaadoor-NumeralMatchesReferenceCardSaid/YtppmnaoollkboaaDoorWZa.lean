/- What all cards of the laws of numerals share: the table, a world for the witness, the arguments' shapes. -/
import Derived.Test.YtppmnaoollkboaaDoorCards
import Derived.Test.YtppmnaoollkboaaDoorTie
import Derived.Test.YtppmnaoollkboaaDoorQb
import Derived.Test.YtppmnaoollkboaaDoorQd
import Derived.Test.YtppmnaoollkboaaDoorQp
import Derived.Test.YtppmnaoollkboaaDoorWZx1
import Derived.Test.YtppmnaoollkboaaDoorWZx2
import Derived.Test.YtppmnaoollkboaaDoorWZx3
import Derived.Test.YtppmnaoollkboaaDoorWZx4
namespace Go.Proofs.YtppmnaoollkboaaDoor
set_option linter.all false
open Go.Ab Go.RowKit Go.ChangeShapes

theorem own:ownKnob Tryd.prog.godebug=none:=by kernel_rfl
theorem laidOut:laidOutB Tryd.prog=true:=by kernel_rfl
theorem gTab:Tryd.prog.globalNamed "math/bits.deBruijn64tab" =some 0:=by kernel_rfl
theorem gTabType:(Tryd.prog.globals[0]?).map (·.type)=some 177:=by kernel_rfl
theorem cellsTab:Tryd.prog.cellsOf 177=64:=by kernel_rfl
theorem y0a:Tryd.prog.cellsOf 5=1:=by kernel_rfl
theorem cellsBO:Tryd.prog.cellsOf 4=1:=by kernel_rfl
theorem cellsSB:Tryd.prog.cellsOf 28=1:=by kernel_rfl
theorem cellsLE:Tryd.prog.cellsOf 77=2:=by kernel_rfl
noncomputable def tabZs:List Int:=[0,1,56,2,57,49,28,3,61,58,42,50,38,29,17,4,62,47,59,36,45,43,51,22,53,39,33,30,24,18,12,5,63,55,48,27,60,41,37,16,46,35,44,21,52,32,23,11,54,26,40,15,34,20,31,10,25,14,19,9,13,8,7,6]
theorem zsg:tabZs=z3q.map (fun x=>(x.toNat:Int)):=by decide+kernel
noncomputable abbrev laidL:List (String×DataW Unit):=[("math/bits.deBruijn64tab",Rows.laid_math_bits_deBruijn64tab)]
theorem table{W:World}(h:laidMetH Tryd.prog laidL W):Lib.TabIs Tryd.prog W "math/bits.deBruijn64tab" .u8 tabZs:=
  Lib.tabIs_of_head (rest:=[]) gTab gTabType Tryd.underlying177 Tryd.underlying5 y0a cellsTab h
theorem globOK {W:World} (h:laidMetH Tryd.prog laidL W):z2j gl (oldI W) W:=by
  intro g c hg;unfold gl at hg
  split at hg
  · rename_i e
    cases hg;subst e
    have hlen:z3q.length=64:=by decide
    have hc:∀ j,j< 64→W.cell? ⟨0,j,none⟩=some (.int .u8 (tabZs.getD j 0)):=fun j hj=>(table h).cell gTab j (by rw[zsg,List.length_map,hlen];exact hj)
    refine CellD.dp (.u8s z3q) 0 0 0 (fun j=>.int .u8 (tabZs.getD j 0)) (zlb (hc 0 (by decide))).2 (by show 0< z3q.length;omega) (fun j hj=>?_) (fun j hj=>?_)
    · rw[Nat.zero_add];exact hc j (hlen▸hj)
    · have hj':j< z3q.length:=hj
      have e:tabZs.getD j 0=((z3q.getD j 0).toNat:Int):=by
        rw[zsg]
        simp[List.getD_eq_getElem?_getD,hj']
      show CellD _ _ (.u8 (z3q.getD j 0)) (.int .u8 (tabZs.getD j 0))
      rw[e];exact .flat (.u8 _) rfl
  · cases hg
theorem andT{a b:Bool}(h:a=true)(k:b=true):(a&&b)=true:=by rw[h,k];rfl
noncomputable def zh8(os:Os):World:=
  { World.holding Tryd.prog os ⟨#[], #[],[]⟩with heap:=(World.holding Tryd.prog os ⟨#[], #[],[]⟩).heap.modify 0 fun
      | .cells _ t frozen=>.cells (tabZs.map (Value.int .u8)).toArray t frozen
      |o=>o }
theorem cellsBY:Tryd.prog.cellsOf 22=1:=by kernel_rfl
section
variable {H:Type} {enc:TypeId×Value→H} {W:World}
theorem raw_fit:FitN enc Tryd.prog W 59 fun l=>∃ (a b:UInt8),l=[.u8 a,.u8 b]:=
  (zfs Tryd.underlying59 (by kernel_rfl) (show FitFs enc Tryd.prog W 0 _ [_,_] from⟨rfl,z85 (zup Tryd.underlying5),by kernel_rfl,z85 (zup Tryd.underlying5),trivial⟩)).mono fun l ⟨ls,e,h⟩=>by
    obtain⟨l0,ls0,rfl,h0,h⟩:=z6a h;obtain⟨l1,ls1,rfl,h1,h⟩:=z6a h;obtain rfl:=zqi h;obtain⟨_,rfl,a,rfl⟩:=h0;obtain⟨_,rfl,b,rfl⟩:=h1;exact⟨a,b,e⟩
theorem argsD_two{a b:UInt8}{us:List Value}{vs:List SV}{xs:List Value}(hc:z4f W [.u8 a,.u8 b] us)(h:ArgsD (oldI W) W vs xs):ArgsD (oldI W) W (.agg (.u8s [a,b])::vs) (.agg us.toArray::xs):=by
  refine zcu (s:=.agg (.u8s [a,b])) ⟨us,by simp,hc.len,fun j hj=>?_⟩ (SV.flat_low rfl) h
  have hj':j< [Cell.u8 a,Cell.u8 b].length:=hj
  obtain⟨v,hv,hd⟩:=hc.get j _ (List.getElem?_eq_getElem hj');refine⟨v,hv,?_⟩
  match j,hj',hd with
  |0,_,hd=>exact Cell.rel_of hd
  |1,_,hd=>exact Cell.rel_of hd
end

end Go.Proofs.YtppmnaoollkboaaDoor
