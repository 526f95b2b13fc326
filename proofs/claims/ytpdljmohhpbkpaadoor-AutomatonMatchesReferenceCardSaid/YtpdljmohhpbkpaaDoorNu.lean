/- Contracts of functions and plain facts, part 21. -/
import Derived.Test.YtpdljmohhpbkpaaDoorNt
set_option linter.all false
set_option maxHeartbeats 4000000
set_option maxRecDepth 4000
namespace Go.Proofs.YtpdljmohhpbkpaaDoor
open Go.Ab Go.RowKit

section
variable {a b:Prop}
theorem Eh(h:a:=by first|exact gG|(simp[-List.reduceReplicate]<;>omega)|exact Vk|exact Vl|exact PG|(simp only[jH];omega)|(simp only[jI,jH];omega)|exact hmI|exact And.intro hjl trivial|(show(List.replicate 256 (0:Int)).length=(jL _ _ _).length;rw[fI,List.length_replicate])|(show 256=(jL _ _ _).length;rw[fI])|(show 0< (jL _ _ _).length;rw[fI];decide)|(show 0+(jL _ _ _).length<=(List.replicate 256 (0:Int)).length;rw[fI,List.length_replicate];decide)|(show 0+256*1<=(jL _ _ _).length;rw[fI];decide)|(show 0+256<=(jL _ _ _).length;rw[fI];decide)|(show(jL _ _ _).length=256*1;rw[fI])|(show(jL _ _ _).length=256;rw[fI])|(simp only[jI,My hk1];omega)|exact⟨by omega,by omega,trivial,trivial⟩|exact⟨by omega,by omega,trivial⟩|exact gH):a:=h
theorem cB(h:a:=by
    repeat' (first|exact pJ|exact pT|exact trivial|refine aI ?_ ?_|exact iM|refine low_cons' ?_ ?_|exact iN|fail)
    all_goals first|omega|(show(0:Nat)< (rt _ _ _).length;rw[bG hjl];decide)|(show aB.low _ (aB.cells (List.replicate 256 _++_));exact ou)|(show(0:Nat)< (rt _ _ _).length;rw[bG ha.1.clen];decide)|(show(0:Nat)< (rt _ _ _).length;rw[bG hb.1.clen];decide)|exact Bv trivial (by show(2:Nat)< _;decide)|exact Bv (by show(2:Nat)< _;decide) (by show(3:Nat)< _;decide)|exact hpr1|exact hpr2|(show(_:List Int)=_;first|assumption|rfl)|(show(_:List Bool)=_;first|assumption|rfl)|(show aB.to _ _ _ _ _ _;exact rY trivial trivial)|(show bR _ _ _;first|(rw[hXR];exact nI _)|(rw[hXR];trivial)|exact nI _)|(show bR _ _ _;(try rw[Ca hjl rfl]);(try rw[Gv hjl rfl]);refine rY ?_ ?_<;>(repeat' (first|exact trivial|refine aI ?_ ?_|rfl|omega|decide|exact z31 _|(simp;done)|rw[if_pos ⟨rfl,by simp⟩])))|(show 0+_*1<=(jD _ _ _ _).length;rw[My (Nat.le_refl _)];omega)|exact(if_pos ⟨rfl,by show(jD _ _ _ _).length=_*1;rw[My (Nat.le_refl _)];omega⟩).symm|(simp[-List.reduceReplicate];done)|(show(0:Nat)< (au _ _ _ _).length;rw[dJ hcl];decide)|(simp[-List.reduceReplicate];done)|(simp[-List.reduceReplicate]<;>omega)|skip):a:=h
theorem lh(kZ:b)(h:aK b->a:=by intro kZ;(repeat first|refine aI Eh ?_|refine bW Eh ?_|refine dC Eh ?_|refine fT Eh ?_|refine fA ?_);exact kZ.out):a:=h ⟨kZ⟩
theorem pF(kZ:b)(h:aK b->a:=by intro kZ;refine sX ?_;refine lh ?_;refine aL ?_;exact kZ.out):a:=h ⟨kZ⟩
theorem Tv(kZ:b)(h:aK b->a:=by intro kZ;refine jl ?_;refine lh ?_;refine aL ?_;exact kZ.out):a:=h ⟨kZ⟩
theorem qh(kZ:b)(h:aK b->a:=by intro kZ;refine dX ?_;refine lh ?_;refine aL ?_;exact kZ.out):a:=h ⟨kZ⟩
theorem yO(kZ:b)(h:aK b->a:=by intro kZ;refine gX ?_;refine lh ?_;refine aL ?_;exact kZ.out):a:=h ⟨kZ⟩
theorem Db(kZ:b)(h:aK b->a:=by intro kZ;refine pu ?_;refine lh ?_;refine aL ?_;exact kZ.out):a:=h ⟨kZ⟩
theorem JL(kZ:b)(h:aK b->a:=by intro kZ;refine sX ?_;refine lh ?_;exact kZ.out):a:=h ⟨kZ⟩
theorem z55(kZ:b)(h:aK b->a:=by intro kZ;refine dX ?_;refine lh ?_;exact kZ.out):a:=h ⟨kZ⟩
theorem Zh(kZ:b)(h:aK b->a:=by intro kZ;refine gX ?_;refine lh ?_;exact kZ.out):a:=h ⟨kZ⟩
end
open Go.Aut
theorem XZ{l:List Int}(h:l.length=256):(l.map (Cell.int .i64)++((aB.cells (List.replicate 256 (Cell.int .i64 0)++List.replicate 2 .nils)).sub 256 2).list)=rt l .nils .nils:=by
  rw[rt]
  congr 1
theorem UT{cell:List Int}{x y:Cell}(h:cell.length=256):(rt cell x y)[257]? =some y:=by
  rw[rt,List.getElem?_append_right (by simp[h])]
  simp[h]
theorem Fq{cell:List Int}{x y:Cell}(h:cell.length=256):(aB.cells (rt cell x y)).get (0+257)=y:=by rw[Nat.zero_add,Tg h 1];rfl
theorem zyh(a b:Tab)(p:Nat):([]:List Int)=jD a b p 0:=by unfold jD;rfl
attribute [local irreducible] eG z12 zl au gz cr rt dz lc jL aA iR jD pY jQ
noncomputable def Uw:Ctx:={ P:=Tryd.prog,ty:=ty,glob:=gl,fs:=[(45,.data Tn),(74,.flat y47)] }
theorem qa:Uw.OK:=⟨dS,⟨⟨bX Tryd.func45 aN rfl,YB⟩,⟨bX Tryd.func74 aN rfl,y48⟩,trivial⟩,mixed⟩
@[simp] theorem Ux:Uw.ty=ty:=rfl

def YE:aW:=fun vs K=>∃ (op:Int) (a b:Tab),vs=[jw a,jw b,.c (.int .i64 op)]/\(a.fit/\b.fit/\a.next.length<=64/\b.next.length<=64)/\K (jw (oW (mJ op) a b))
theorem zkr:jr Tryd.prog gl 57 YE:=by
 refine kJ (Γ:=Uw) (N:=103) Tryd.func57 rfl rfl fun vs K h=>?_;obtain⟨op,a,b,rfl,⟨ha,hb,h64⟩,h⟩:=h;refine⟨_,h,Nu _,by simp,fun w I=>?_⟩
 have hjl:(jL a b 256).length=256:=fI a b 256
 refine aO qa fun _ K2=>?_
 iterate 3 refine pF ?_
 refine aJ K2 (aO qa fun _ K4=>JL ?_);refine aU (jw a) (SV.as_refl _) (JL ?_);refine aU (jw b) (SV.as_refl _) (JL ?_);refine aI (lI a) (lJ a (aI (lI b) (lJ b ⟨a,b,rfl,⟨ha,hb⟩,?_⟩)));rw[Q4]
 simp only[q8]
 refine lh ?_
 first|refine aL ?_|(intro cap2 hcap2;refine aL ?_)
 iterate 4 refine pF ?_
 refine Tv ?_;refine pF ?_;refine aJ K4 (aO qa fun _ K6=>pF ?_);refine JL ?_;refine aU (.agg (.cells (rt (jL a b 256) .nils .nils))) (bq (congrArg (fun l=>SV.agg (aB.cells l)) (XZ hjl))) (pF ?_);refine Tv ?_;refine aJ K6 (fQ [0,1] (fun i=>if i=0 then 2 else 4) [(2,.c (.int .i64 op)),(3,.c (.dp (eT a) 0)),(4,.c (.dp (eT b) 0)),(6,.c (.ptr 0 0)),(8,.c (.ds (aA (cN a) (cN b)).length (.ints .i64 (aG (aA (cN a) (cN b)))))),(9,.c (.ptr 1 0))] [(0,.own 74 (.cells dz) 258),(1,.own 74 (.cells (rt (jL a b 256) .nils .nils)) 258)] 2 [2,4] cB cB cB cB (aO qa fun _ K8=>pF ?_));refine JL ?_;refine aU (.c (.ds b.next.length (.cells (aS b.next)))) (ak (iC hb.1.clen)) ?_
 iterate 2 refine pF ?_
 refine aJ K8 (aH fun _ K9=>aO qa fun _ K11=>pF ?_);refine aJ K11 (bO (z30 1 256 44 (.cells []) rfl (Q9 hjl) rfl low_nil' ?_));rw[Ca hjl rfl];refine z30 1 257 4 (.bools []) rfl (UT hjl) rfl trivial ?_;rw[Gv hjl rfl];refine fM (α:=Nat×Nat×Nat) (fun g=>[(2,.c (.int .i64 op)),(3,.c (.dp (eT a) 0)),(4,.c (.dp (eT b) 0)),(6,.c (.ptr 0 0)),(8,.c (.ds (aA (cN a) (cN b)).length (.ints .i64 (aG (aA (cN a) (cN b)))))),(9,.c (.ptr 1 0)),(10,.c (.int .i64 (b.next.length:Nat))),(11,.c (.int .i64 (g.1:Nat)))]) (fun g=>[(0,.own 74 (.cells dz) 258),(1,.own 74 (.cells (rt (jL a b 256) (.slice 2 0 (g.1*b.next.length) g.2.1) (.slice 3 0 (g.1*b.next.length) g.2.2))) 258),(2,.own 44 (.cells (aS (pY a b (g.1*b.next.length)))) g.2.1),(3,.own 4 (.bools (jQ (mJ op) a b (g.1*b.next.length))) g.2.2)]) 4 (fun g=>g.1<=a.next.length/\(g.1*b.next.length)<=g.2.1/\(g.1*b.next.length)<=g.2.2) (fun g=>a.next.length - g.1) ?_ ?_
 ·have hz:0*b.next.length=0:=Nat.zero_mul _
  have hXR:aS (pY a b (0*b.next.length))=[]:=by rw[hz];unfold pY;rfl
  have hX3:([]:List Bool)=jQ (mJ op) a b (0*b.next.length):=by rw[hz];unfold jQ;rfl
  refine ai [] id (0,0,0) ⟨Nat.zero_le _,by rw[hz];exact Nat.le_refl _,by rw[hz];exact Nat.le_refl _⟩ [0,1,2,3] ?_ ?_ ?_ ?_
  ·exact cB
  ·exact cB
  ·exact cB
  ·exact cB
 ·intro g hg
  obtain⟨hg1,hg2,hg3⟩:=hg;refine aH fun _ K12=>aO qa fun _ K14=>?_
  iterate 2 refine pF ?_
  refine JL ?_;refine aU (.c (.ds a.next.length (.cells (aS a.next)))) (ak (iC ha.1.clen)) ?_
  iterate 2 refine pF ?_
  refine aJ K14 (bC (b:=_) rfl (fun h_t30=>?_) (fun h_t30=>?_))
  ·try simp only[dQ,reduceIte]at h_t30
   refine bK (K12 _ _ _ (aH fun _ K15=>bO ?_))
   have hgi:g.1< a.next.length:=by omega
   have hrwa:=oz ha.1 hgi
   refine aO qa fun _ K17=>pF ?_;refine aJ K17 (bO (fM (α:=Nat×Nat×Nat) (fun q=>[(2,.c (.int .i64 op)),(3,.c (.dp (eT a) 0)),(4,.c (.dp (eT b) 0)),(6,.c (.ptr 0 0)),(8,.c (.ds (aA (cN a) (cN b)).length (.ints .i64 (aG (aA (cN a) (cN b)))))),(9,.c (.ptr 1 0)),(10,.c (.int .i64 (b.next.length:Nat))),(11,.c (.int .i64 (g.1:Nat))),(12,.c (.int .i64 (q.1:Nat)))]) (fun q=>[(0,.own 74 (.cells dz) 258),(1,.own 74 (.cells (rt (jL a b 256) (.slice 2 0 (g.1*b.next.length+q.1) q.2.1) (.slice 3 0 (g.1*b.next.length+q.1) q.2.2))) 258),(2,.own 44 (.cells (aS (pY a b (g.1*b.next.length+q.1)))) q.2.1),(3,.own 4 (.bools (jQ (mJ op) a b (g.1*b.next.length+q.1))) q.2.2)]) 4 (fun q=>q.1<=b.next.length/\(g.1*b.next.length+q.1)<=q.2.1/\(g.1*b.next.length+q.1)<=q.2.2) (fun q=>b.next.length - q.1) ?_ ?_))
   ·refine ai [] id (0,g.2.1,g.2.2) ⟨Nat.zero_le _,hg2,hg3⟩ [0,1,2,3] cB cB cB cB
   ·intro q hq
    obtain⟨hq1,hq2,hq3⟩:=hq;refine aH fun _ K18=>aO qa fun _ K20=>?_
    iterate 3 refine pF ?_
    refine aJ K20 (bC (b:=_) rfl (fun h_t35=>?_) (fun h_t35=>?_))
    ·try simp only[dQ,reduceIte]at h_t35
     refine bK (K18 _ _ _ (aH fun _ K21=>bO ?_))
     have hqj:q.1< b.next.length:=by omega
     have hrwb:=oz hb.1 hqj
     have hplt:=rP hgi hqj
     have hpmx:=zm h64.1 h64.2
     refine aO qa fun _ K23=>?_
     iterate 2 refine pF ?_
     refine aJ K23 (aH fun _ K24=>aO qa fun _ K26=>pF ?_);refine aJ K26 (bO (fM (α:=Nat×Nat) (fun k=>[(2,.c (.int .i64 op)),(3,.c (.dp (eT a) 0)),(4,.c (.dp (eT b) 0)),(6,.c (.ptr 0 0)),(8,.c (.ds (aA (cN a) (cN b)).length (.ints .i64 (aG (aA (cN a) (cN b)))))),(9,.c (.ptr 1 0)),(10,.c (.int .i64 (b.next.length:Nat))),(11,.c (.int .i64 (g.1:Nat))),(12,.c (.int .i64 (q.1:Nat))),(13,.c (.slice 4 0 k.1 k.2)),(14,.c (.int .i64 (k.1:Nat)))]) (fun k=>[(0,.own 74 (.cells dz) 258),(1,.own 74 (.cells (rt (jL a b 256) (.slice 2 0 (g.1*b.next.length+q.1) q.2.1) (.slice 3 0 (g.1*b.next.length+q.1) q.2.2))) 258),(2,.own 44 (.cells (aS (pY a b (g.1*b.next.length+q.1)))) q.2.1),(3,.own 4 (.bools (jQ (mJ op) a b (g.1*b.next.length+q.1))) q.2.2),(4,.own 3 (.ints .i64 (jD a b (g.1*b.next.length+q.1) k.1)) k.2)]) 5 (fun k=>k.1<=(aA (cN a) (cN b)).length/\k.1<=k.2) (fun k=>(aA (cN a) (cN b)).length - k.1) ?_ ?_))
     ·have hX1:=zyh a b (g.1*b.next.length+q.1)
      refine ai [] id (0,0) ⟨Nat.zero_le _,Nat.le_refl _⟩ [0,1,2,3,4] cB cB cB cB
     ·intro k hk
      obtain⟨hk1,hk2⟩:=hk
      have hjm9:=(gF a b).max
      have hrl9:=My (a:=a) (b:=b) (p:=(g.1*b.next.length+q.1)) hk1
      refine aH fun _ K27=>aO qa fun _ K29=>?_
      iterate 4 refine pF ?_
      refine aJ K29 (bC (b:=_) rfl (fun h_t42=>?_) (fun h_t42=>?_))
      ·try simp only[dQ,reduceIte]at h_t42
       refine bK (K27 _ _ _ (aH fun _ K30=>bO ?_))
       have hkl:k.1< (aA (cN a) (cN b)).length:=by omega
       have hx256:((aA (cN a) (cN b)).getD k.1 0)< 256:=(gF a b).byte _ (getD_mem' hkl)
       have hxa:=bz ha.1 hgi (av ha.1 hx256).1
       have hxb:=bz hb.1 hqj (av hb.1 hx256).1
       have hxa2:(a.next.getD g.1 []).getD (cN a ((aA (cN a) (cN b)).getD k.1 0)) 0=((((aD a).δ g.1 (cN a ((aA (cN a) (cN b)).getD k.1 0))):Nat):Int):=hxa.2
       have hxb2:(b.next.getD q.1 []).getD (cN b ((aA (cN a) (cN b)).getD k.1 0)) 0=((((aD b).δ q.1 (cN b ((aA (cN a) (cN b)).getD k.1 0))):Nat):Int):=hxb.2
       have hca:=(av ha.1 hx256).1
       have hcb:=(av hb.1 hx256).1
       have hca:cN a ((aA (cN a) (cN b)).getD k.1 0)< a.nc:=hca
       have hcb:cN b ((aA (cN a) (cN b)).getD k.1 0)< b.nc:=hcb
       have hlt2:((aD a).δ g.1 (cN a ((aA (cN a) (cN b)).getD k.1 0)))*b.next.length+((aD b).δ q.1 (cN b ((aA (cN a) (cN b)).getD k.1 0)))< a.next.length*b.next.length:=rP hxa.1 hxb.1
       have hjm:=(gF a b).max
       have hmI:sJ .i64 (((((aD a).δ g.1 (cN a ((aA (cN a) (cN b)).getD k.1 0))):Nat):Int)*((b.next.length:Nat):Int)):=by
        rw[<-Int.natCast_mul]
        have hz9:((aD a).δ g.1 (cN a ((aA (cN a) (cN b)).getD k.1 0)))*b.next.length<=4096:=by omega
        generalize ((aD a).δ g.1 (cN a ((aA (cN a) (cN b)).getD k.1 0)))*b.next.length=z9 at hz9
        exact And.intro (by show(-9223372036854775808:Int)<=_;omega) (by show _<=(9223372036854775807:Int);omega)
       refine ry qa [(0,true),(1,true),(2,true),(3,true),(4,true),(5,true),(6,true),(7,true),(8,true),(9,true),(10,true),(11,true),(12,true),(13,true),(14,true),(15,true),(16,true),(17,true),(18,true),(19,true),(20,true),(21,true),(22,true),(23,true),(24,true),(25,true),(26,true),(27,true),(28,true),(29,true),(30,true),(31,true),(32,false),(33,false),(34,true)] rfl aN aN fun _ K31=>?_
       iterate 2 refine qh ?_
       refine z55 ?_;refine aU (.c (.ds a.next.length (.cells (aS a.next)))) (ak (iC ha.1.clen)) ?_
       iterate 2 refine qh ?_
       refine z55 ?_;refine aU (.c (.ds (a.next.getD g.1 []).length (.ints .i64 (a.next.getD g.1 [])))) (ak (oh ⟨hgi,by omega⟩)) ?_
       iterate 3 refine qh ?_
       refine z55 ?_;refine aU (.c (.int .i64 (((((aA (cN a) (cN b)).getD k.1 0):Nat):Int)))) (az ((congrArg (fun i=>(aG (aA (cN a) (cN b))).getD i 0) (by omega)).trans jd)) ?_
       iterate 2 refine qh ?_
       refine z55 ?_;refine aU (.c (.int .i64 ((cN a ((aA (cN a) (cN b)).getD k.1 0):Nat):Int))) (ak ((z52 ha.1.clen (by first|omega|(simp;done)) hx256).trans (congrArg (Cell.int IntKind.i64) (av ha.1 hx256).2))) (qh ?_);refine z55 ?_;refine aU (.c (.int .i64 (((((aD a).δ g.1 (cN a ((aA (cN a) (cN b)).getD k.1 0))):Nat):Int)))) (az ((congrArg (fun i=>(a.next.getD g.1 []).getD i 0) (by omega)).trans hxa2)) (qh ?_);refine z55 ?_;refine aU (.c (.int .i64 (((((aD a).δ g.1 (cN a ((aA (cN a) (cN b)).getD k.1 0)))*b.next.length:Nat):Int)))) (az (Int.natCast_mul _ _ |>.symm)) (qh ?_);refine z55 ?_;refine aU (.c (.ds b.next.length (.cells (aS b.next)))) (ak (iC hb.1.clen)) ?_
       iterate 2 refine qh ?_
       refine z55 ?_;refine aU (.c (.ds (b.next.getD q.1 []).length (.ints .i64 (b.next.getD q.1 [])))) (ak (oh ⟨hqj,by omega⟩)) ?_
       iterate 3 refine qh ?_
       refine z55 ?_;refine aU (.c (.int .i64 (((((aA (cN a) (cN b)).getD k.1 0):Nat):Int)))) (az ((congrArg (fun i=>(aG (aA (cN a) (cN b))).getD i 0) (by omega)).trans jd)) ?_
       iterate 2 refine qh ?_
       refine z55 ?_;refine aU (.c (.int .i64 ((cN b ((aA (cN a) (cN b)).getD k.1 0):Nat):Int))) (ak ((z52 hb.1.clen (by first|omega|(simp;done)) hx256).trans (congrArg (Cell.int IntKind.i64) (av hb.1 hx256).2))) (qh ?_);refine z55 ?_;refine aU (.c (.int .i64 (((((aD b).δ q.1 (cN b ((aA (cN a) (cN b)).getD k.1 0))):Nat):Int)))) (az ((congrArg (fun i=>(b.next.getD q.1 []).getD i 0) (by omega)).trans hxb2)) (z55 ?_);refine aU (.c (.int .i64 (((((aD a).δ g.1 (cN a ((aA (cN a) (cN b)).getD k.1 0)))*b.next.length+((aD b).δ q.1 (cN b ((aA (cN a) (cN b)).getD k.1 0))):Nat):Int)))) (az (Int.natCast_add _ _ |>.symm)) (yO ?_);refine Zh ?_;intro cap33 hcap33;refine aL (qh ?_);refine iF K31 (dD (K30 _ _ _ (bB qa fun _ K32=>?_)))
       iterate 3 refine pF ?_
       refine aJ K32 ?_
       have hX1:=zyg (a:=a) (i:=g.1) hqj hkl
       refine ai [] (fun i=>if i=4 then 6 else i) (k.1+1,cap33) ⟨⟨by show k.1+1<=_;omega,by show k.1+1<=cap33;omega⟩,by show _ - (k.1+1)< _;omega⟩ [0,1,2,3,6] ?_ ?_ ?_ ?_
       ·exact cB
       ·exact cB
       ·exact cB
       ·exact cB
      ·try simp only[dQ,reduceIte]at h_t42
       refine eY (bJ (bJ (eX (K24 _ _ _ ?_))))
       have hke:k.1=(aA (cN a) (cN b)).length:=by omega
       rw[hke];refine fQ [4] id [(2,.c (.int .i64 op)),(3,.c (.dp (eT a) 0)),(4,.c (.dp (eT b) 0)),(6,.c (.ptr 0 0)),(8,.c (.ds (aA (cN a) (cN b)).length (.ints .i64 (aG (aA (cN a) (cN b)))))),(9,.c (.ptr 1 0)),(10,.c (.int .i64 (b.next.length:Nat))),(11,.c (.int .i64 (g.1:Nat))),(12,.c (.int .i64 (q.1:Nat))),(13,.c (.ds (aA (cN a) (cN b)).length (.ints .i64 (jD a b (g.1*b.next.length+q.1) (aA (cN a) (cN b)).length))))] [(0,.own 74 (.cells dz) 258),(1,.own 74 (.cells (rt (jL a b 256) (.slice 2 0 (g.1*b.next.length+q.1) q.2.1) (.slice 3 0 (g.1*b.next.length+q.1) q.2.2))) 258),(2,.own 44 (.cells (aS (pY a b (g.1*b.next.length+q.1)))) q.2.1),(3,.own 4 (.bools (jQ (mJ op) a b (g.1*b.next.length+q.1))) q.2.2)] 4 [0,1,2,3] cB cB cB cB (aO qa fun _ K34=>pF ?_);refine JL ?_;refine aU (.c (.slice 2 0 (g.1*b.next.length+q.1) q.2.1)) (ak (AX hjl)) ?_
       iterate 2 refine pF ?_
       refine JL ?_;intro cap4 hcap4;refine aL (pF ?_);refine Tv ?_;refine aJ K34 ?_
       have hXR:aS (pY a b (g.1*b.next.length+q.1))++([]++[.ds (aA (cN a) (cN b)).length (.ints .i64 (jD a b (g.1*b.next.length+q.1) (aA (cN a) (cN b)).length))])=aS (pY a b (g.1*b.next.length+(q.1+1))):=by
        have:=Gg (pY a b (g.1*b.next.length+q.1)) (jD a b (g.1*b.next.length+q.1) (aA (cN a) (cN b)).length)
        rw[My (Nat.le_refl _),zu3]at this;exact this
       refine fQ [] (fun i=>if i=2 then 5 else i) [(2,.c (.int .i64 op)),(3,.c (.dp (eT a) 0)),(4,.c (.dp (eT b) 0)),(6,.c (.ptr 0 0)),(8,.c (.ds (aA (cN a) (cN b)).length (.ints .i64 (aG (aA (cN a) (cN b)))))),(9,.c (.ptr 1 0)),(10,.c (.int .i64 (b.next.length:Nat))),(11,.c (.int .i64 (g.1:Nat))),(12,.c (.int .i64 (q.1:Nat)))] [(0,.own 74 (.cells dz) 258),(1,.own 74 (.cells (rt (jL a b 256) (.slice 2 0 (g.1*b.next.length+(q.1+1)) cap4) (.slice 3 0 (g.1*b.next.length+q.1) q.2.2))) 258),(2,.own 44 (.cells (aS (pY a b (g.1*b.next.length+(q.1+1))))) cap4),(3,.own 4 (.bools (jQ (mJ op) a b (g.1*b.next.length+q.1))) q.2.2)] 4 [0,1,5,3] cB cB cB cB ?_
       have hala:=ha.1.alen
       have halb:=hb.1.alen
       refine ry qa [(0,true),(1,true),(2,true),(3,true),(4,true),(5,true),(6,true),(7,true),(8,true),(9,true),(10,true),(11,true),(12,true),(13,false),(14,false),(15,false),(16,true),(17,false)] rfl aN aN fun _ K35=>qh ?_;refine z55 ?_;refine aU (.c (.slice 3 0 (g.1*b.next.length+q.1) q.2.2)) (ak (Fq hjl)) ?_
       iterate 2 refine qh ?_
       refine z55 ?_;refine aU (.c (.ds a.acc.length (.bools a.acc))) (ak (nW ha.1.clen)) ?_
       iterate 2 refine qh ?_
       refine z55 ?_;refine aU (.c (.bool (a.acc.getD g.1 false))) (dN (congrArg (fun i=>a.acc.getD i false) (by omega))) (qh ?_);refine z55 ?_;refine aU (.c (.ds b.acc.length (.bools b.acc))) (ak (nW hb.1.clen)) ?_
       iterate 2 refine qh ?_
       refine z55 ?_;refine aU (.c (.bool (b.acc.getD q.1 false))) (dN (congrArg (fun i=>b.acc.getD i false) (by omega))) (Zh ?_);refine⟨op,a.acc.getD g.1 false,b.acc.getD q.1 false,rfl,lh ?_⟩
       first|refine aL ?_|(intro cap13 hcap13;refine aL ?_)
       refine yO ?_;refine Zh ?_;intro cap15 hcap15;refine aL (qh ?_);refine Db ?_;refine iF K35 (dD (K21 _ _ _ (bB qa fun _ K36=>?_)))
       iterate 3 refine pF ?_
       refine aJ K36 ?_
       have hX3:=zyf (op:=(mJ op)) (a:=a) (i:=g.1) hqj
       refine ai [] (fun i=>if i=3 then 5 else i) (q.1+1,cap4,cap15) ⟨⟨by show q.1+1<=_;omega,by show(g.1*b.next.length+(q.1+1))<=cap4;omega,by show(g.1*b.next.length+(q.1+1))<=cap15;omega⟩,by show _ - (q.1+1)< _;omega⟩ [0,1,2,5] ?_ ?_ ?_ ?_
       ·exact cB
       ·exact cB
       ·exact cB
       ·exact cB
    ·try simp only[dQ,reduceIte]at h_t35
     refine eY (bJ (bJ (eX (dD (K15 _ _ _ (bB qa fun _ K37=>?_))))))
     iterate 3 refine pF ?_
     refine aJ K37 ?_
     have hqe:q.1=b.next.length:=by omega
     have hpe:g.1*b.next.length+q.1=(g.1+1)*b.next.length:=by rw[hqe,Nat.succ_mul]
     rw[hpe]at hq2 hq3;rw[hpe];refine ai [] id (g.1+1,q.2.1,q.2.2) ⟨⟨by show g.1+1<=_;omega,hq2,hq3⟩,by show _ - (g.1+1)< _;omega⟩ [0,1,2,3] ?_ ?_ ?_ ?_
     ·exact cB
     ·exact cB
     ·exact cB
     ·exact cB
  ·try simp only[dQ,reduceIte]at h_t30
   refine eY (bJ (bJ (eX (K9 _ _ _ ?_))))
   have hge:g.1=a.next.length:=by omega
   rw[hge]
   have hpr1:a.next.length*b.next.length=(oW (mJ op) a b).next.length:=(WV _ _ _).symm
   have hpr2:a.next.length*b.next.length=(oW (mJ op) a b).acc.length:=(zh6 _ _ _ _).symm
   refine fQ [2,3] id [(6,.c (.ptr 0 0)),(9,.c (.ptr 1 0))] [(0,.own 74 (.cells dz) 258),(1,.own 74 (.cells (rt (jL a b 256) (.ds (a.next.length*b.next.length) (.cells (aS (pY a b (a.next.length*b.next.length))))) (.ds (a.next.length*b.next.length) (.bools (jQ (mJ op) a b (a.next.length*b.next.length)))))) 258)] 2 [0,1] cB cB cB cB (aO qa fun _ K39=>pF ?_);refine Tv ?_;refine aJ K39 (bQ (gT qa (fun _ _ h=>h) (Nu _) [] [.cell 6 74] rfl ?_))
   repeat first|refine aI (by first|omega|exact trivial|rfl|exact PG) ?_|refine bW (bG hjl) ?_|refine dC (by rw[jA];exact(bG hjl).symm) ?_
   all_goals exact cB


end Go.Proofs.YtpdljmohhpbkpaaDoor

namespace Go.Proofs.YtpdljmohhpbkpaaDoor
open Go.Ab Go.RowKit

section
variable {a b:Prop}
theorem Ei(h:a:=by first|exact gG|(simp[-List.reduceReplicate]<;>omega)|exact vRd|exact vRe|exact vRp|exact gH):a:=h
theorem Ej(h:a:=by first|exact gG|(simp[-List.reduceReplicate]<;>omega)|exact vRz|exact gH):a:=h
theorem qE(h:a:=by
    repeat' (first|exact pJ|exact pT|exact trivial|refine aI ?_ ?_|exact iM|refine low_cons' ?_ ?_|exact iN|fail)
    all_goals first|omega|(show(0:Nat)< (rt _ _ _).length;rw[bG (nJ hge.1).clen];decide)|(show aB.low _ (aB.cells (List.replicate 256 _++_));exact ou)|exact lw _|(show(0:Nat)< (au _ _ _ _).length;rw[dJ hcl];decide)|(simp[-List.reduceReplicate];done)|(simp[-List.reduceReplicate]<;>omega)|skip):a:=h
theorem iH(kZ:b)(h:aK b->a:=by intro kZ;(repeat first|refine aI Ei ?_|refine bW Ei ?_|refine dC Ei ?_|refine fT Ei ?_|refine fA ?_);exact kZ.out):a:=h ⟨kZ⟩
theorem sF(kZ:b)(h:aK b->a:=by intro kZ;refine sX ?_;refine iH ?_;refine aL ?_;exact kZ.out):a:=h ⟨kZ⟩
theorem y4x(kZ:b)(h:aK b->a:=by intro kZ;refine jl ?_;refine iH ?_;refine aL ?_;exact kZ.out):a:=h ⟨kZ⟩
theorem R3(kZ:b)(h:aK b->a:=by intro kZ;refine mX ?_;refine iH ?_;refine aL ?_;exact kZ.out):a:=h ⟨kZ⟩
theorem PK(kZ:b)(h:aK b->a:=by intro kZ;refine dX ?_;refine iH ?_;refine aL ?_;exact kZ.out):a:=h ⟨kZ⟩
theorem Dc(kZ:b)(h:aK b->a:=by intro kZ;refine pu ?_;refine iH ?_;refine aL ?_;exact kZ.out):a:=h ⟨kZ⟩
theorem p9(kZ:b)(h:aK b->a:=by intro kZ;(repeat first|refine aI Ej ?_|refine bW Ej ?_|refine dC Ej ?_|refine fT Ej ?_|refine fA ?_);exact kZ.out):a:=h ⟨kZ⟩
theorem wH(kZ:b)(h:aK b->a:=by intro kZ;refine sX ?_;refine p9 ?_;refine aL ?_;exact kZ.out):a:=h ⟨kZ⟩
theorem Zi(kZ:b)(h:aK b->a:=by intro kZ;refine jl ?_;refine p9 ?_;refine aL ?_;exact kZ.out):a:=h ⟨kZ⟩
theorem R4(kZ:b)(h:aK b->a:=by intro kZ;refine sX ?_;refine iH ?_;exact kZ.out):a:=h ⟨kZ⟩
theorem y51(kZ:b)(h:aK b->a:=by intro kZ;refine mX ?_;refine iH ?_;exact kZ.out):a:=h ⟨kZ⟩
theorem Jh(kZ:b)(h:aK b->a:=by intro kZ;refine gX ?_;refine iH ?_;exact kZ.out):a:=h ⟨kZ⟩
theorem Yp(kZ:b)(h:aK b->a:=by intro kZ;refine sX ?_;refine p9 ?_;exact kZ.out):a:=h ⟨kZ⟩
end
open Go.Aut
theorem E4{op:Bool->Bool->Bool}{d e:Dfa}(hd:d.good)(he:e.good):af ((aD (oW op (ag d) (ag e))).lang 0)=af (lQ op d e):=CK fun w hw=>by
  rw[zwv (nJ hd.1) (nJ he.1) hw,uT d 0 hw,uT e 0 hw];rfl
theorem EL{op:Bool->Bool->Bool}{d e:Dfa}(hd:d.good)(he:e.good):mh ((aD (oW op (ag d) (ag e))).lang 0)=mh (lQ op d e):=Ra fun w hw=>by
  rw[zwv (nJ hd.1) (nJ he.1) hw,uT d 0 hw,uT e 0 hw];rfl
theorem Dv:mJ 0=fun x y=>x&&y:=by funext x y;rfl
theorem Dw:mJ 1=fun x y=>x||y:=by funext x y;rfl
theorem Dx:mJ 2=fun x y=>x&& !y:=by funext x y;rfl
theorem Dy:mJ 3=fun x y=>x !=y:=by funext x y;rfl
attribute [local irreducible] eG z12 zl au gz cr rt dz lc af oW mh
noncomputable def Uy:Ctx:={ P:=Tryd.prog,ty:=ty,glob:=gl,fs:=[(42,.flat NK),(43,.data um),(57,.data YE),(50,.data Tu)] }
theorem Jf:Uy.OK:=⟨dS,⟨⟨bX Tryd.func42 aN rfl,PZ⟩,⟨bX Tryd.func43 aN rfl,Q6⟩,⟨bX Tryd.func57 aN rfl,zkr⟩,⟨bX Tryd.func50 aN rfl,YD⟩,trivial⟩,mixed⟩
@[simp] theorem Uz:Uy.ty=ty:=rfl

def zrg:aW:=fun vs K=>∃ (op:Int) (d e:Dfa),vs=[df d,df e,.c (.int .i64 op)]/\(d.wf/\e.wf)/\K (lX (jO (mJ op) d e))
theorem zu6:jr Tryd.prog gl 29 zrg:=by
 refine kJ (Γ:=Uy) (N:=26) Tryd.func29 rfl rfl fun vs K h=>?_;obtain⟨op,d,e,rfl,⟨hd,he⟩,h⟩:=h;refine⟨_,h,ib _,by simp,fun w I=>?_⟩;refine aO Jf fun _ K2=>?_
 iterate 4 refine sF ?_
 refine aJ K2 (aH fun _ K3=>aO Jf fun _ K5=>sF ?_);refine R4 ?_;refine⟨d,rfl,hd,iH ?_⟩
 first|refine aL ?_|(intro cap1 hcap1;refine aL ?_)
 refine sF ?_;refine R4 ?_;refine fO (fun hb3=>?_) (fun hb3=>?_)
 ·try simp only[dQ,reduceIte]at hb3
  iterate 3 refine sN ?_
  refine sF ?_;refine aJ K5 (bC (b:=_) rfl (fun _=>?_) (fun h_t15=>?_))
  rotate_left 1
  ·exfalso;simp at h_t15
  refine aO Jf fun _ K7=>sF ?_;refine y4x ?_;refine sF ?_;refine aJ K7 ?_
  have hno:¬ (eQ d=true/\eQ e=true):=by
   rw[<-qI hd, <-qI he];intro hh;simp_all
  rw[jO,if_neg hno];refine bQ (gT Jf (fun _ _ h=>h) (ib _) [] [.cell 6 30,.tmp 7] rfl ?_)
  repeat first|refine aI (by first|exact trivial|rfl|exact⟨rfl,rfl⟩|decide) ?_|refine bW (by first|rfl|decide) ?_|refine dC (by first|rfl|decide) ?_
  all_goals exact qE
 ·try simp only[dQ,reduceIte]at hb3
  refine R3 ?_;refine y51 ?_;refine⟨e,rfl,he,iH ?_⟩
  first|refine aL ?_|(intro cap5 hcap5;refine aL ?_)
  refine R3 ?_;refine sF ?_;refine aJ K5 (bC (b:=_) rfl (fun h_t15=>?_) (fun h_t15=>?_))
  ·try simp only[dQ,reduceIte]at h_t15
   refine aO Jf fun _ K9=>sF ?_;refine y4x ?_;refine sF ?_;refine aJ K9 ?_
   have hno:¬ (eQ d=true/\eQ e=true):=by
    rw[<-qI hd, <-qI he];intro hh;simp_all
   rw[jO,if_neg hno];refine bQ (gT Jf (fun _ _ h=>h) (ib _) [] [.cell 6 30,.tmp 7] rfl ?_)
   repeat first|refine aI (by first|exact trivial|rfl|exact⟨rfl,rfl⟩|decide) ?_|refine bW (by first|rfl|decide) ?_|refine dC (by first|rfl|decide) ?_
   all_goals exact qE
  ·try simp only[dQ,reduceIte]at h_t15
   refine bK (K3 _ _ _ ?_)
   have hvd:eQ d=true:=(qI hd).symm.trans (by simp_all)
   have hve:eQ e=true:=(qI he).symm.trans (by simp_all)
   have hgd:=(z22 hd).1 hvd
   have hge:=(z22 he).1 hve
   have hfd:=kS hgd
   have hfe:=kS hge
   have hpf:=y4v (op:=mJ op) hfd hfe ⟨hgd.2,hge.2⟩
   refine vR Jf [(0,true),(2,true),(4,true),(1,false),(3,false),(5,false),(6,false),(7,true),(8,true),(9,false),(10,true)] rfl aN aN fun _ K11=>?_
   iterate 3 refine PK ?_
   refine Jh ?_;refine⟨d,rfl,hgd.1,iH ?_⟩
   first|refine aL ?_|(intro cap1 hcap1;refine aL ?_)
   refine Jh ?_;refine⟨e,rfl,hge.1,iH ?_⟩
   first|refine aL ?_|(intro cap3 hcap3;refine aL ?_)
   refine Jh ?_;refine aI (lI (ag d)) (lJ (ag d) (aI (lI (ag e)) (lJ (ag e) ⟨op,ag d,ag e,rfl,⟨hfd,hfe,hgd.2,hge.2⟩,?_⟩)))
   simp only[q8]
   refine iH ?_
   first|refine aL ?_|(intro cap5 hcap5;refine aL ?_)
   refine Jh ?_;refine aI (lI (oW (mJ op) (ag d) (ag e))) (lJ (oW (mJ op) (ag d) (ag e)) ⟨_,rfl,hpf,?_⟩);rw[E4 hgd hge]
   simp only[q8]
   refine iH ?_
   first|refine aL ?_|(intro cap6 hcap6;refine aL ?_)
   iterate 2 refine PK ?_
   refine Dc ?_;refine PK ?_;refine iF K11 ?_
   have hyes:eQ d=true/\eQ e=true:=⟨hvd,hve⟩
   rw[jO,if_pos hyes];refine bQ (gT Jf (fun _ _ h=>h) (ib _) [] [.cell 6 30,.tmp 7] rfl ?_)
   repeat first|refine aI (by first|exact trivial|rfl|exact⟨rfl,rfl⟩|decide) ?_|refine bW (by first|rfl|decide) ?_|refine dC (by first|rfl|decide) ?_
   all_goals exact qE

noncomputable def OX:Ctx:={ P:=Tryd.prog,ty:=ty,glob:=gl,fs:=[(29,.data zrg)] }
theorem Ha:OX.OK:=⟨dS,⟨⟨bX Tryd.func29 aN rfl,zu6⟩,trivial⟩,mixed⟩
@[simp] theorem VA:OX.ty=ty:=rfl

def wy:aW:=fun vs K=>∃ d e:Dfa,vs=[df d,df e]/\(d.wf/\e.wf)/\K (lX (jO (fun x y=>x&&y) d e))
theorem wz:jr Tryd.prog gl 8 wy:=by
 refine kJ (Γ:=OX) (N:=11) Tryd.func8 rfl rfl fun vs K h=>?_;obtain⟨d,e,rfl,⟨hd,he⟩,h⟩:=h;refine⟨_,h,ib _,by simp,fun w I=>?_⟩;refine aO Ha fun _ K2=>?_
 iterate 4 refine wH ?_
 refine aJ K2 (aO Ha fun _ K4=>?_)
 iterate 2 refine wH ?_
 refine Yp ?_;refine⟨0,d,e,rfl,⟨hd,he⟩,?_⟩;rw[Dv];refine p9 ?_
 first|refine aL ?_|(intro cap2 hcap2;refine aL ?_)
 iterate 2 refine wH ?_
 refine Zi ?_;refine wH ?_;refine aJ K4 (bQ (gT Ha (fun _ _ h=>h) (ib _) [] [.cell 4 30,.tmp 5] rfl ?_))
 repeat first|refine aI (by first|exact trivial|rfl|exact⟨rfl,rfl⟩|decide) ?_|refine bW (by first|rfl|decide) ?_|refine dC (by first|rfl|decide) ?_
 all_goals exact qE

def I6:aW:=fun vs K=>∃ d e:Dfa,vs=[df d,df e]/\(d.wf/\e.wf)/\K (lX (jO (fun x y=>x||y) d e))
theorem EY:jr Tryd.prog gl 10 I6:=by
 refine kJ (Γ:=OX) (N:=11) Tryd.func10 rfl rfl fun vs K h=>?_;obtain⟨d,e,rfl,⟨hd,he⟩,h⟩:=h;refine⟨_,h,ib _,by simp,fun w I=>?_⟩;refine aO Ha fun _ K2=>?_
 iterate 4 refine wH ?_
 refine aJ K2 (aO Ha fun _ K4=>?_)
 iterate 2 refine wH ?_
 refine Yp ?_;refine⟨1,d,e,rfl,⟨hd,he⟩,?_⟩;rw[Dw];refine p9 ?_
 first|refine aL ?_|(intro cap2 hcap2;refine aL ?_)
 iterate 2 refine wH ?_
 refine Zi ?_;refine wH ?_;refine aJ K4 (bQ (gT Ha (fun _ _ h=>h) (ib _) [] [.cell 4 30,.tmp 5] rfl ?_))
 repeat first|refine aI (by first|exact trivial|rfl|exact⟨rfl,rfl⟩|decide) ?_|refine bW (by first|rfl|decide) ?_|refine dC (by first|rfl|decide) ?_
 all_goals exact qE

def zwx:aW:=fun vs K=>∃ d e:Dfa,vs=[df d,df e]/\(d.wf/\e.wf)/\K (lX (jO (fun x y=>x&& !y) d e))
theorem zyi:jr Tryd.prog gl 13 zwx:=by
 refine kJ (Γ:=OX) (N:=11) Tryd.func13 rfl rfl fun vs K h=>?_;obtain⟨d,e,rfl,⟨hd,he⟩,h⟩:=h;refine⟨_,h,ib _,by simp,fun w I=>?_⟩;refine aO Ha fun _ K2=>?_
 iterate 4 refine wH ?_
 refine aJ K2 (aO Ha fun _ K4=>?_)
 iterate 2 refine wH ?_
 refine Yp ?_;refine⟨2,d,e,rfl,⟨hd,he⟩,?_⟩;rw[Dx];refine p9 ?_
 first|refine aL ?_|(intro cap2 hcap2;refine aL ?_)
 iterate 2 refine wH ?_
 refine Zi ?_;refine wH ?_;refine aJ K4 (bQ (gT Ha (fun _ _ h=>h) (ib _) [] [.cell 4 30,.tmp 5] rfl ?_))
 repeat first|refine aI (by first|exact trivial|rfl|exact⟨rfl,rfl⟩|decide) ?_|refine bW (by first|rfl|decide) ?_|refine dC (by first|rfl|decide) ?_
 all_goals exact qE


end Go.Proofs.YtpdljmohhpbkpaaDoor
