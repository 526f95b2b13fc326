/- What all cards of the laws of atoms share: the table, a world for the witness, the arguments' shapes. -/
import Derived.Test.YtegdcifghaldoaaDoorCards
import Derived.Test.YtegdcifghaldoaaDoorTie
import Derived.Test.YtegdcifghaldoaaDoorPb
import Derived.Test.YtegdcifghaldoaaDoorPd
import Derived.Test.YtegdcifghaldoaaDoorPf
import Derived.Test.YtegdcifghaldoaaDoorXYx1
import Derived.Test.YtegdcifghaldoaaDoorXYx2
import Derived.Test.YtegdcifghaldoaaDoorXYx3
import Derived.Test.YtegdcifghaldoaaDoorXYx4
namespace Go.Proofs.YtegdcifghaldoaaDoor
set_option linter.all false
open Go.Ab Go.RowKit Go.ChangeShapes

theorem own:ownKnob Tryd.prog.godebug=none:=by kernel_rfl
theorem laidOut:laidOutB Tryd.prog=true:=by kernel_rfl
theorem gTab:Tryd.prog.globalNamed "math/bits.deBruijn64tab" =some 1:=by kernel_rfl
theorem gTabType:(Tryd.prog.globals[1]?).map (·.type)=some 175:=by kernel_rfl
theorem cellsTab:Tryd.prog.cellsOf 175=64:=by kernel_rfl
theorem zpd:Tryd.prog.cellsOf 5=1:=by kernel_rfl
theorem cellsBO:Tryd.prog.cellsOf 4=1:=by kernel_rfl
theorem cellsSB:Tryd.prog.cellsOf 36=1:=by kernel_rfl
noncomputable def tabZs:List Int:=[0,1,56,2,57,49,28,3,61,58,42,50,38,29,17,4,62,47,59,36,45,43,51,22,53,39,33,30,24,18,12,5,63,55,48,27,60,41,37,16,46,35,44,21,52,32,23,11,54,26,40,15,34,20,31,10,25,14,19,9,13,8,7,6]
theorem zjy:tabZs=z30.map (fun x=>(x.toNat:Int)):=by decide+kernel
noncomputable abbrev laidL:List (String×DataW Unit):=[("math/bits.deBruijn64tab",Rows.laid_math_bits_deBruijn64tab)]
theorem table{W:World}(h:laidMetH Tryd.prog laidL W):Lib.TabIs Tryd.prog W "math/bits.deBruijn64tab" .u8 tabZs:=
  Lib.tabIs_of_head (rest:=[]) gTab gTabType Tryd.underlying175 Tryd.underlying5 zpd cellsTab h
theorem globOK {W:World} (h:laidMetH Tryd.prog laidL W):z27 gl (oldI W) W:=by
  intro g c hg;unfold gl at hg
  split at hg
  · rename_i e
    cases hg;subst e
    have hlen:z30.length=64:=by decide
    have hc:∀ j,j< 64→W.cell? ⟨1,j,none⟩=some (.int .u8 (tabZs.getD j 0)):=fun j hj=>(table h).cell gTab j (by rw[zjy,List.length_map,hlen];exact hj)
    refine CellD.dp (.u8s z30) 0 1 0 (fun j=>.int .u8 (tabZs.getD j 0)) (zek (hc 0 (by decide))).2 (by show 0< z30.length;omega) (fun j hj=>?_) (fun j hj=>?_)
    · rw[Nat.zero_add];exact hc j (hlen▸hj)
    · have hj':j< z30.length:=hj
      have e:tabZs.getD j 0=((z30.getD j 0).toNat:Int):=by
        rw[zjy]
        simp[List.getD_eq_getElem?_getD,hj']
      show CellD _ _ (.u8 (z30.getD j 0)) (.int .u8 (tabZs.getD j 0))
      rw[e];exact .flat (.u8 _) rfl
  · cases hg
theorem andT{a b:Bool}(h:a=true)(k:b=true):(a&&b)=true:=by rw[h,k];rfl
noncomputable def zbx(os:Os):World:=
  { World.holding Tryd.prog os ⟨#[], #[],[]⟩with heap:=(World.holding Tryd.prog os ⟨#[], #[],[]⟩).heap.modify 1 fun
      | .cells _ t frozen=>.cells (tabZs.map (Value.int .u8)).toArray t frozen
      |o=>o }
theorem cellsBY:Tryd.prog.cellsOf 28=1:=by kernel_rfl
theorem cellsIN:Tryd.prog.cellsOf 3=1:=by kernel_rfl
section
variable {H:Type} {enc:TypeId×Value→H} {W:World}
theorem fit_ints{t e:TypeId}(ht:Tryd.prog.underlying t=some (.slice e))(hc:Tryd.prog.cellsOf e=1)(he:Tryd.prog.underlying e=some (.int .i64)):Fit enc Tryd.prog W t fun c=>∃ l:List Int,c= .ds l.length (.ints .i64 l)∧l.length≤9223372036854775807:=
  zem ht hc (fit_int he) (fun _ ⟨n,h,_⟩=>⟨n,h⟩) (fun l=>⟨rfl,fun j h=>by simp[Cont.get,List.getD_eq_getElem?_getD,h]⟩)
theorem zho:FitN enc Tryd.prog W 43 fun l=>∃ m:Mdl,l=mdlL m∧m.s.length≤9223372036854775807∧m.n.length≤9223372036854775807:=
  (zgn Tryd.underlying43 (by kernel_rfl) (show FitFs enc Tryd.prog W 0 _ [_,_] from⟨rfl,zi5 (zlw Tryd.underlying23 cellsBY Tryd.underlying28 zpd Tryd.underlying5),by kernel_rfl,zi5 (fit_ints Tryd.underlying41 cellsIN Tryd.underlying3),trivial⟩)).mono fun l ⟨ls,e,h⟩=>by
    obtain⟨l0,ls0,rfl,h0,h⟩:=zeu h;obtain⟨l1,ls1,rfl,h1,h⟩:=zeu h;obtain rfl:=allS_nil h;obtain⟨_,rfl,ps,rfl,hp,_⟩:=h0;obtain⟨_,rfl,n,rfl,hn⟩:=h1;exact⟨⟨ps,n⟩,e.trans (by simp[mdlL,lists]),hp,hn⟩
end

end Go.Proofs.YtegdcifghaldoaaDoor
