/- What all cards of the laws of automata share: the table, a world for the witness, the arguments' shapes. -/
import Derived.Test.YtpdljmohhpbkpaaDoorCards
import Derived.Test.YtpdljmohhpbkpaaDoorTie
import Derived.Test.YtpdljmohhpbkpaaDoorNb
import Derived.Test.YtpdljmohhpbkpaaDoorNd
import Derived.Test.YtpdljmohhpbkpaaDoorNn
import Derived.Test.YtpdljmohhpbkpaaDoorMYx1
import Derived.Test.YtpdljmohhpbkpaaDoorMYx2
import Derived.Test.YtpdljmohhpbkpaaDoorMYx3
import Derived.Test.YtpdljmohhpbkpaaDoorMYx4
set_option linter.all false
namespace Go.Proofs.YtpdljmohhpbkpaaDoor
open Go.Ab Go.RowKit Go.ChangeShapes

theorem own:ownKnob Tryd.prog.godebug=none:=by kernel_rfl
theorem laidOut:laidOutB Tryd.prog=true:=by kernel_rfl
theorem OW:Tryd.prog.globalNamed "math/bits.deBruijn64tab" =some 0:=by kernel_rfl
theorem yI:(Tryd.prog.globals[0]?).map (·.type)=some 130:=by kernel_rfl
theorem xZ:Tryd.prog.cellsOf 130=64:=by kernel_rfl
theorem zuc:Tryd.prog.cellsOf 5=1:=by kernel_rfl
theorem Qc:Tryd.prog.cellsOf 4=1:=by kernel_rfl
theorem Qe:Tryd.prog.cellsOf 28=1:=by kernel_rfl
noncomputable def o7:List Int:=[0,1,56,2,57,49,28,3,61,58,42,50,38,29,17,4,62,47,59,36,45,43,51,22,53,39,33,30,24,18,12,5,63,55,48,27,60,41,37,16,46,35,44,21,52,32,23,11,54,26,40,15,34,20,31,10,25,14,19,9,13,8,7,6]
theorem zx2:o7=uz.map (fun x=>(x.toNat:Int)):=by decide+kernel
noncomputable abbrev IU:List (String×DataW Unit):=[("math/bits.deBruijn64tab",Rows.laid_math_bits_deBruijn64tab)]
theorem table{W:World}(h:laidMetH Tryd.prog IU W):Lib.TabIs Tryd.prog W "math/bits.deBruijn64tab" .u8 o7:=
  Lib.tabIs_of_head (rest:=[]) OW yI Tryd.underlying130 Tryd.underlying5 zuc xZ h
theorem KS {W:World} (h:laidMetH Tryd.prog IU W):mF gl (qQ W) W:=by
  intro g c hg;unfold gl at hg
  split at hg
  · rename_i e
    cases hg;subst e
    have hlen:uz.length=64:=by decide
    have hc:∀ j,j< 64->W.cell? ⟨0,j,none⟩=some (.int .u8 (o7.getD j 0)):=fun j hj=>(table h).cell OW j (by rw[zx2,List.length_map,hlen];exact hj)
    refine aZ.dp (.u8s uz) 0 0 0 (fun j=>.int .u8 (o7.getD j 0)) (zpm (hc 0 (by decide))).2 (by show 0< uz.length;omega) (fun j hj=>?_) (fun j hj=>?_)
    · rw[Nat.zero_add];exact hc j (hlen▸hj)
    · have hj':j< uz.length:=hj
      have e:o7.getD j 0=((uz.getD j 0).toNat:Int):=by
        rw[zx2]
        simp[List.getD_eq_getElem?_getD,hj']
      show aZ _ _ (.u8 (uz.getD j 0)) (.int .u8 (o7.getD j 0))
      rw[e];exact .flat (.u8 _) rfl
  · cases hg
theorem sG{a b:Bool}(h:a=true)(k:b=true):(a&&b)=true:=by rw[h,k];rfl
noncomputable def YG(os:Os):World:=
  { World.holding Tryd.prog os ⟨#[], #[],[]⟩with heap:=(World.holding Tryd.prog os ⟨#[], #[],[]⟩).heap.modify 0 fun
      | .cells _ t frozen=>.cells (o7.map (Value.int .u8)).toArray t frozen
      |o=>o }
theorem Qd:Tryd.prog.cellsOf 22=1:=by kernel_rfl
section
variable {H:Type} {enc:TypeId×Value->H} {W:World}
theorem y5s:qo enc Tryd.prog W 24 fun l=>∃ (a:UInt8) (x:List UInt8) (m:UInt8),l=[.u8 a,.ds x.length (.u8s x),.u8 m]/\x.length<=9223372036854775807:=
  (zsa Tryd.underlying24 (by kernel_rfl) (show tV enc Tryd.prog W 0 _ [_,_,_] from⟨rfl,YS (Zs Tryd.underlying5),by kernel_rfl,YS (zpn Tryd.underlying22 zuc Tryd.underlying5),by kernel_rfl,YS (Zs Tryd.underlying5),trivial⟩)).mono fun l ⟨ls,e,h⟩=>by
    obtain⟨l0,ls0,rfl,h0,h⟩:=Xb h;obtain⟨l1,ls1,rfl,h1,h⟩:=Xb h;obtain⟨l2,ls2,rfl,h2,h⟩:=Xb h;obtain rfl:=ww h;obtain⟨_,rfl,a,rfl⟩:=h0;obtain⟨_,rfl,b,rfl,hb⟩:=h1;obtain⟨_,rfl,m,rfl⟩:=h2;exact⟨a,b,m,e,hb⟩
end

end Go.Proofs.YtpdljmohhpbkpaaDoor
