/- What all cards of the laws of atoms share: the table, a world for the witness, the arguments' shapes. -/
import Derived.Test.YtegdcifghaldoaaDoorCards
import Derived.Test.YtegdcifghaldoaaDoorTie
import Derived.Test.YtegdcifghaldoaaDoorTb
import Derived.Test.YtegdcifghaldoaaDoorTd
import Derived.Test.YtegdcifghaldoaaDoorTf
import Derived.Test.YtegdcifghaldoaaDoorUYx1
import Derived.Test.YtegdcifghaldoaaDoorUYx2
import Derived.Test.YtegdcifghaldoaaDoorUYx3
import Derived.Test.YtegdcifghaldoaaDoorUYx4
namespace Go.Proofs.YtegdcifghaldoaaDoor
set_option linter.all false
open Go.Ab Go.RowKit Go.ChangeShapes

theorem own:ownKnob Tryd.prog.godebug=none:=by kernel_rfl
theorem laidOut:laidOutB Tryd.prog=true:=by kernel_rfl
theorem gTab:Tryd.prog.globalNamed "math/bits.deBruijn64tab" =some 1:=by kernel_rfl
theorem gTabType:(Tryd.prog.globals[1]?).map (·.type)=some 175:=by kernel_rfl
theorem cellsTab:Tryd.prog.cellsOf 175=64:=by kernel_rfl
theorem z76:Tryd.prog.cellsOf 5=1:=by kernel_rfl
theorem cellsBO:Tryd.prog.cellsOf 4=1:=by kernel_rfl
theorem cellsSB:Tryd.prog.cellsOf 36=1:=by kernel_rfl
noncomputable def tabZs:List Int:=[0,1,56,2,57,49,28,3,61,58,42,50,38,29,17,4,62,47,59,36,45,43,51,22,53,39,33,30,24,18,12,5,63,55,48,27,60,41,37,16,46,35,44,21,52,32,23,11,54,26,40,15,34,20,31,10,25,14,19,9,13,8,7,6]
theorem zkd:tabZs=z32.map (fun x=>(x.toNat:Int)):=by decide+kernel
noncomputable abbrev laidL:List (String×DataW Unit):=[("math/bits.deBruijn64tab",Rows.laid_math_bits_deBruijn64tab)]
theorem table{W:World}(h:laidMetH Tryd.prog laidL W):Lib.TabIs Tryd.prog W "math/bits.deBruijn64tab" .u8 tabZs:=
  Lib.tabIs_of_head (rest:=[]) gTab gTabType Tryd.underlying175 Tryd.underlying5 z76 cellsTab h
theorem globOK {W:World} (h:laidMetH Tryd.prog laidL W):z26 gl (oldI W) W:=by
  intro g c hg;unfold gl at hg
  split at hg
  · rename_i e
    cases hg;subst e
    have hlen:z32.length=64:=by decide
    have hc:∀ j,j< 64→W.cell? ⟨1,j,none⟩=some (.int .u8 (tabZs.getD j 0)):=fun j hj=>(table h).cell gTab j (by rw[zkd,List.length_map,hlen];exact hj)
    refine CellD.dp (.u8s z32) 0 1 0 (fun j=>.int .u8 (tabZs.getD j 0)) (zb8 (hc 0 (by decide))).2 (by show 0< z32.length;omega) (fun j hj=>?_) (fun j hj=>?_)
    · rw[Nat.zero_add];exact hc j (hlen▸hj)
    · have hj':j< z32.length:=hj
      have e:tabZs.getD j 0=((z32.getD j 0).toNat:Int):=by
        rw[zkd]
        simp[List.getD_eq_getElem?_getD,hj']
      show CellD _ _ (.u8 (z32.getD j 0)) (.int .u8 (tabZs.getD j 0))
      rw[e];exact .flat (.u8 _) rfl
  · cases hg
theorem andT{a b:Bool}(h:a=true)(k:b=true):(a&&b)=true:=by rw[h,k];rfl
noncomputable def zca(os:Os):World:=
  { World.holding Tryd.prog os ⟨#[], #[],[]⟩with heap:=(World.holding Tryd.prog os ⟨#[], #[],[]⟩).heap.modify 1 fun
      | .cells _ t frozen=>.cells (tabZs.map (Value.int .u8)).toArray t frozen
      |o=>o }
theorem z9o:Tryd.prog.cellsOf 28=1:=by kernel_rfl
theorem cellsIN:Tryd.prog.cellsOf 3=1:=by kernel_rfl
section
variable {H:Type} {enc:TypeId×Value→H} {W:World}
theorem fit_ints{t e:TypeId}(ht:Tryd.prog.underlying t=some (.slice e))(hc:Tryd.prog.cellsOf e=1)(he:Tryd.prog.underlying e=some (.int .i64)):Fit enc Tryd.prog W t fun c=>∃ l:List Int,c= .ds l.length (.ints .i64 l)∧l.length≤9223372036854775807:=
  zf2 ht hc (zmd he) (fun _ ⟨n,h,_⟩=>⟨n,h⟩) (fun l=>⟨rfl,fun j h=>by simp[Cont.get,List.getD_eq_getElem?_getD,h]⟩)
theorem mdl_fit:FitN enc Tryd.prog W 43 fun l=>∃ m:Mdl,l=mdlL m∧m.s.length≤9223372036854775807∧m.n.length≤9223372036854775807:=
  (z6a Tryd.underlying43 (by kernel_rfl) (show FitFs enc Tryd.prog W 0 _ [_,_] from⟨rfl,z3q (z6x Tryd.underlying23 z9o Tryd.underlying28 z76 Tryd.underlying5),by kernel_rfl,z3q (fit_ints Tryd.underlying41 cellsIN Tryd.underlying3),trivial⟩)).mono fun l ⟨ls,e,h⟩=>by
    obtain⟨l0,ls0,rfl,h0,h⟩:=z3c h;obtain⟨l1,ls1,rfl,h1,h⟩:=z3c h;obtain rfl:=zab h;obtain⟨_,rfl,ps,rfl,hp,_⟩:=h0;obtain⟨_,rfl,n,rfl,hn⟩:=h1;exact⟨⟨ps,n⟩,e.trans (by simp[mdlL,lists]),hp,hn⟩
theorem vls_fit:FitN enc Tryd.prog W 47 fun l=>∃ (ws:List (List UInt8)) (n:List UInt8),l=[.ds ws.length (.cells (lists ws)),.ds n.length (.u8s n)]∧ws.length≤9223372036854775807∧n.length≤9223372036854775807∧∀ p∈ws,p.length≤9223372036854775807:=
  (z6a Tryd.underlying47 (by kernel_rfl) (show FitFs enc Tryd.prog W 0 _ [_,_] from⟨rfl,z3q (z6x Tryd.underlying23 z9o Tryd.underlying28 z76 Tryd.underlying5),by kernel_rfl,z3q (zb9 Tryd.underlying28 z76 Tryd.underlying5),trivial⟩)).mono fun l ⟨ls,e,h⟩=>by
    obtain⟨l0,ls0,rfl,h0,h⟩:=z3c h;obtain⟨l1,ls1,rfl,h1,h⟩:=z3c h;obtain rfl:=zab h;obtain⟨_,rfl,ps,rfl,hp,hw⟩:=h0;obtain⟨_,rfl,n,rfl,hn⟩:=h1;exact⟨ps,n,e.trans (by simp[lists]),hp,hn,hw⟩
theorem raw_fit:FitN enc Tryd.prog W 55 fun l=>∃ (s:UInt8) (ws vs:List (List UInt8)) (n:List UInt8),l=[.u8 s,.ds ws.length (.cells (lists ws)),.ds vs.length (.cells (lists vs)),.ds n.length (.u8s n)]∧(ws.length≤9223372036854775807∧∀ p∈ws,p.length≤9223372036854775807)∧(vs.length≤9223372036854775807∧∀ p∈vs,p.length≤9223372036854775807)∧n.length≤9223372036854775807:=
  (z6a Tryd.underlying55 (by kernel_rfl) (show FitFs enc Tryd.prog W 0 _ [_,_,_,_] from⟨rfl,z3q (zme Tryd.underlying5),by kernel_rfl,z3q (z6x Tryd.underlying23 z9o Tryd.underlying28 z76 Tryd.underlying5),by kernel_rfl,z3q (z6x Tryd.underlying23 z9o Tryd.underlying28 z76 Tryd.underlying5),by kernel_rfl,z3q (zb9 Tryd.underlying28 z76 Tryd.underlying5),trivial⟩)).mono fun l ⟨ls,e,h⟩=>by
    obtain⟨l0,ls0,rfl,h0,h⟩:=z3c h;obtain⟨l1,ls1,rfl,h1,h⟩:=z3c h;obtain⟨l2,ls2,rfl,h2,h⟩:=z3c h;obtain⟨l3,ls3,rfl,h3,h⟩:=z3c h;obtain rfl:=zab h;obtain⟨_,rfl,s,rfl⟩:=h0;obtain⟨_,rfl,ps,rfl,hp⟩:=h1;obtain⟨_,rfl,qs,rfl,hq⟩:=h2;obtain⟨_,rfl,n,rfl,hn⟩:=h3;exact⟨s,ps,qs,n,e.trans (by simp[lists]),hp,hq,hn⟩
theorem zpl:FitN enc Tryd.prog W 27 fun l=>∃ a:Itm,l=itmL a∧True:=
  (z6a Tryd.underlying27 (by kernel_rfl) (show FitFs enc Tryd.prog W 0 _ [_,_] from⟨rfl,z3q (zmd Tryd.underlying3),by kernel_rfl,z3q (zme Tryd.underlying5),trivial⟩)).mono fun l ⟨ls,e,h⟩=>by
    obtain⟨l0,ls0,rfl,h0,h⟩:=z3c h;obtain⟨l1,ls1,rfl,h1,h⟩:=z3c h;obtain rfl:=zab h;obtain⟨_,rfl,x,rfl,-⟩:=h0;obtain⟨_,rfl,b,rfl⟩:=h1;exact⟨⟨x,b⟩,e,trivial⟩
theorem b3_fit:FitN enc Tryd.prog W 31 fun l=>∃ a b c:Bool,l=[.bool a,.bool b,.bool c]:=
  (zl1 (n:=3) Tryd.underlying31 cellsBO (by kernel_rfl) (z3q (fit_bool Tryd.underlying4))).mono fun l ⟨ls,e,hl,h⟩=>by
    match ls,hl,h with
    | [x,y,z],_,h=>
      obtain⟨_,rfl,a,rfl⟩:=h x (by simp);obtain⟨_,rfl,b,rfl⟩:=h y (by simp);obtain⟨_,rfl,c,rfl⟩:=h z (by simp);exact⟨a,b,c,e⟩
theorem argsD_b3{a b c:Bool}{us:List Value}{vs:List SV}{xs:List Value}(hc:z3b W [.bool a,.bool b,.bool c] us)(h:ArgsD (oldI W) W vs xs):ArgsD (oldI W) W (.agg (.bools [a,b,c])::vs) (.agg us.toArray::xs):=by
  refine zcp (s:=.agg (.bools [a,b,c])) ⟨us,by simp,hc.len,fun j hj=>?_⟩ (SV.flat_low rfl) h
  have hj':j< [Cell.bool a,Cell.bool b,Cell.bool c].length:=hj
  obtain⟨v,hv,hd⟩:=hc.get j _ (List.getElem?_eq_getElem hj');refine⟨v,hv,?_⟩
  match j,hj',hd with
  |0,_,hd=>exact Cell.rel_of hd
  |1,_,hd=>exact Cell.rel_of hd
  |2,_,hd=>exact Cell.rel_of hd
end

end Go.Proofs.YtegdcifghaldoaaDoor
