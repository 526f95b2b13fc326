/- Contracts of functions and plain facts, part 19. -/
import Derived.Test.YtpdljmohhpbkpaaDoorNr
import Derived.Test.YtpdljmohhpbkpaaDoorNd
set_option linter.all false
set_option maxHeartbeats 3000000
set_option maxRecDepth 4000
namespace Go.Proofs.YtpdljmohhpbkpaaDoor
open Go.Ab Go.RowKit

section
variable {a b:Prop}
theorem Ed(h:a:=by first|exact gG|(simp[-List.reduceReplicate]<;>omega)|exact vU|(simp only[jI,jH];omega)|(rw[jH];omega)|(simp only[jI,rU];omega)|exact⟨by omega,by omega,trivial,trivial⟩|(show(List.replicate 256 (0:Int)).length=(cY _ _ _ _).length;rw[rU,List.length_replicate])|(show 256=(cY _ _ _ _).length;rw[rU])|(show 0+(cY _ _ _ _).length<=(List.replicate 256 (0:Int)).length;rw[rU,List.length_replicate];decide)|(show 0+256*1<=(cY _ _ _ _).length;rw[rU];decide)|(show(cY _ _ _ _).length=256*1;rw[rU])|exact gH):a:=h
theorem bL(h:a:=by
    repeat' (first|exact pJ|exact pT|exact trivial|refine aI ?_ ?_|exact iM|refine low_cons' ?_ ?_|exact iN|fail)
    all_goals first|omega|(show(0:Nat)< (rt _ _ _).length;rw[bG hcl];decide)|(show aB.low _ (aB.cells (List.replicate 256 _++_));exact ou)|exact hXL|(show(_:Bool)=_;exact hd9)|(show(_:List Int)=_;first|assumption|exact Cy t bl reps)|(rw[rU];done)|(show _=(cY _ _ _ _).length;rw[rU])|(simp[-List.reduceReplicate];done)|(show(0:Nat)< (au _ _ _ _).length;rw[dJ hcl];decide)|(simp[-List.reduceReplicate];done)|(simp[-List.reduceReplicate]<;>omega)|skip):a:=h
theorem lg(kZ:b)(h:aK b->a:=by intro kZ;(repeat first|refine aI Ed ?_|refine bW Ed ?_|refine dC Ed ?_|refine fT Ed ?_|refine fA ?_);exact kZ.out):a:=h ⟨kZ⟩
theorem oG(kZ:b)(h:aK b->a:=by intro kZ;refine sX ?_;refine lg ?_;refine aL ?_;exact kZ.out):a:=h ⟨kZ⟩
theorem Ze(kZ:b)(h:aK b->a:=by intro kZ;refine jl ?_;refine lg ?_;refine aL ?_;exact kZ.out):a:=h ⟨kZ⟩
theorem GJ(kZ:b)(h:aK b->a:=by intro kZ;refine mX ?_;refine lg ?_;refine aL ?_;exact kZ.out):a:=h ⟨kZ⟩
theorem qg(kZ:b)(h:aK b->a:=by intro kZ;refine qX ?_;refine lg ?_;refine aL ?_;exact kZ.out):a:=h ⟨kZ⟩
theorem QL(kZ:b)(h:aK b->a:=by intro kZ;refine Md ?_;refine lg ?_;refine aL ?_;exact kZ.out):a:=h ⟨kZ⟩
theorem Jy(kZ:b)(h:aK b->a:=by intro kZ;refine dX ?_;refine lg ?_;refine aL ?_;exact kZ.out):a:=h ⟨kZ⟩
theorem D9(kZ:b)(h:aK b->a:=by intro kZ;refine pu ?_;refine lg ?_;refine aL ?_;exact kZ.out):a:=h ⟨kZ⟩
theorem y4j(kZ:b)(h:aK b->a:=by intro kZ;refine sX ?_;refine lg ?_;exact kZ.out):a:=h ⟨kZ⟩
theorem vE(kZ:b)(h:aK b->a:=by intro kZ;refine qX ?_;refine lg ?_;exact kZ.out):a:=h ⟨kZ⟩
theorem YC(kZ:b)(h:aK b->a:=by intro kZ;refine Md ?_;refine lg ?_;exact kZ.out):a:=h ⟨kZ⟩
end
open Go.Aut
def kY(t:Tab)(bl reps:List Nat)(b:Nat):List Nat:=keyBy (aD t) (aM bl) (eD reps) reps.length b
def lY(t:Tab)(bl reps:List Nat)(b:Nat):List Nat:=dK (kY t bl reps) (List.range b)
def cY(t:Tab)(bl reps:List Nat)(b:Nat):List Int:=(List.range 256).map fun x=>if x< b then((oC t bl reps ((aD t).cell x):Nat):Int)else 0
theorem rG{t:Tab}{bl reps:List Nat}{a b:Nat}:kY t bl reps a=kY t bl reps b↔∀ i,i< reps.length->aM bl ((aD t).δ (eD reps i) ((aD t).cell a))=aM bl ((aD t).δ (eD reps i) ((aD t).cell b)):=zzy
theorem Zf{t:Tab}{bl reps:List Nat}{a b:Nat}(h:(aD t).cell a=(aD t).cell b):kY t bl reps a=kY t bl reps b:=rG.2 fun i _=>by rw[h]
@[simp] theorem rU(t:Tab)(bl reps:List Nat)(b:Nat):(cY t bl reps b).length=256:=by simp[cY]
theorem Cy(t:Tab)(bl reps:List Nat):List.replicate 256 (0:Int)=cY t bl reps 0:=by simp[cY,List.map_const']
theorem xM{t:Tab}{bl reps:List Nat}{b:Nat}(h:b< 256):(cY t bl reps b).set b ((oC t bl reps ((aD t).cell b):Nat):Int)=cY t bl reps (b+1):=by
  refine o9 0 (by simp) fun i hi=>?_
  have hi:i< 256:=by simpa using hi
  rw[my (by simpa using hi),cY,cY,iy hi,iy hi]
  by_cases e:b=i
  · subst e;rw[if_pos rfl,if_pos (Nat.lt_succ_self b)]
  · rw[if_neg e]
    by_cases h2:i< b
    · rw[if_pos h2,if_pos (by omega)]
    · rw[if_neg h2,if_neg (by omega)]
theorem IR{t:Tab}{bl reps:List Nat}{b j:Nat}(hj:j< (lY t bl reps b).length):(lY t bl reps b).getD j 0< b:=List.mem_range.1 (PW (key:=kY t bl reps) (getD_mem' hj))
theorem WQ(t:Tab)(bl reps:List Nat)(b:Nat):(lY t bl reps b).length=(mK t bl reps b).length:=qU _
theorem O5(t:Tab)(bl reps:List Nat)(b:Nat):(lY t bl reps b).length<=b:=by
  rw[WQ];exact Nat.le_trans (vZ _) (by simp)
theorem yh(t:Tab)(bl reps:List Nat){b x:Nat}(h:x< (lY t bl reps b).length):(mK t bl reps b)[x]? =some (kY t bl reps ((lY t bl reps b).getD x 0)):=by
  have:mK t bl reps b=(lY t bl reps b).map (kY t bl reps):=(Lb _).symm
  rw[this,List.getElem?_map,jB (d:=0) h];rfl
def Bc(t:Tab)(bl reps:List Nat)(x i id:Nat):Prop:=(id=(lY t bl reps x).length/\i<=(lY t bl reps x).length/\∀ j,j< i->kY t bl reps ((lY t bl reps x).getD j 0)≠kY t bl reps x)\/(id< (lY t bl reps x).length/\i<=(lY t bl reps x).length/\kY t bl reps ((lY t bl reps x).getD id 0)=kY t bl reps x)
theorem Gd{t:Tab}{bl reps:List Nat}{x i id:Nat}(h:Bc t bl reps x i id)(he:id=(lY t bl reps x).length)(hi:(lY t bl reps x).length<=i):kY t bl reps x∉mK t bl reps x:=by
  rcases h with⟨_,_,h⟩|⟨h,_⟩
  · intro hm
    obtain⟨j,hj⟩:=List.getElem?_of_mem hm
    have hl:j< (lY t bl reps x).length:=by rw[WQ];exact(List.getElem?_eq_some_iff.1 hj).1
    have h1:=yh t bl reps hl
    rw[hj]at h1;exact h j (by omega) (Option.some.inj h1).symm
  · omega
theorem Bd{t:Tab}{bl reps:List Nat}{x i id:Nat}(h:Bc t bl reps x i id)(he:id< (lY t bl reps x).length):kY t bl reps x∈mK t bl reps x/\fF (mK t bl reps x) (kY t bl reps x)=id:=by
  rcases h with⟨h,_⟩|⟨_,_,h⟩
  · omega
  · have hg:=yh t bl reps he
    rw[h]at hg;exact⟨List.mem_of_getElem? hg,MF (Gh _) hg⟩
theorem O6{t:Tab}{bl reps:List Nat}{x:Nat}(hx:x< 256)(h:kY t bl reps x∉mK t bl reps x):lY t bl reps (x+1)=lY t bl reps x++[x]/\oC t bl reps ((aD t).cell x)=(lY t bl reps x).length:=by
  refine⟨?_,by rw[WQ];exact y08 hx h⟩;rw[lY,List.range_succ,Bg];exact if_neg h
theorem KW{t:Tab}{bl reps:List Nat}{x:Nat}(hx:x< 256)(h:kY t bl reps x∈mK t bl reps x):lY t bl reps (x+1)=lY t bl reps x/\oC t bl reps ((aD t).cell x)=fF (mK t bl reps x) (kY t bl reps x):=by
  refine⟨?_,(QW (by omega) h).symm⟩;rw[lY,List.range_succ,Bg];exact if_pos h
theorem zrc(t:Tab)(bl reps:List Nat):SV.low 0 (.tup [.c (.ds (lY t bl reps 256).length (.ints .i64 (aG (lY t bl reps 256)))),.agg (.ints .i64 (cY t bl reps 256))]):=List.forall_mem_cons.2 ⟨trivial,List.forall_mem_cons.2 ⟨trivial,fun _ h=>by cases h⟩⟩
attribute [local irreducible] eG z12 zl au gz cr rt dz lc cY lY kY mG
def y4l:aW:=fun vs K=>∃ (t:Tab) (bl reps l:List Nat),vs=[jw t,.c (.ds bl.length (.ints .i64 (aG bl))),.c (.ds reps.length (.ints .i64 (aG reps)))]/\(t.fit/\kg (aD t) l bl reps t.next.length/\∀ s∈l,s< t.next.length)/\K (.tup [.c (.ds (lY t bl reps 256).length (.ints .i64 (aG (lY t bl reps 256)))),.agg (.ints .i64 (cY t bl reps 256))])
theorem y4m : jr Tryd.prog gl 71 y4l:=by
 refine kJ (Γ:=g0) (N:=106) Tryd.func71 rfl rfl fun vs K h=>?_;obtain⟨t,bl,reps,l,rfl,⟨ht,ho,hlt⟩,h⟩:=h;refine⟨_,h,zrc t bl reps,by simp,fun w I=>?_⟩
 have ht0:=ht
 obtain⟨hok,hlen,hnc⟩:=ht0
 have hcl:=hok.clen
 have hrl:reps.length<=65535:=Nat.le_trans (Ry ho hlt) hlen
 refine aO aF fun _ K2=>?_
 iterate 3 refine oG ?_
 refine aJ K2 (fQ [0] (fun _=>1) [(1,.c (.ds bl.length (.ints .i64 (aG bl)))),(2,.c (.ds reps.length (.ints .i64 (aG reps)))),(3,.c (.dp (eT t) 0)),(7,.c (.ptr 0 0))] [(0,.own 54 (.ints .i64 (List.replicate 256 0)) 256)] 1 [1] bL bL bL bL (aO aF fun _ K4=>?_))
 iterate 2 refine oG ?_
 refine aJ K4 (aO aF fun _ K6=>?_)
 iterate 2 refine oG ?_
 refine Ze ?_;refine aJ K6 (aH fun _ K7=>aO aF fun _ K9=>oG ?_);refine aJ K9 (bO (fM (α:=Nat×Nat) (fun q=>[(1,.c (.ds bl.length (.ints .i64 (aG bl)))),(2,.c (.ds reps.length (.ints .i64 (aG reps)))),(3,.c (.dp (eT t) 0)),(7,.c (.ptr 0 0)),(8,.c (.slice 1 0 (lY t bl reps q.1).length q.2)),(9,.c (.ptr 2 0)),(10,.c (.int .i64 (q.1:Nat)))]) (fun q=>[(0,.own 54 (.ints .i64 (List.replicate 256 0)) 256),(1,.own 3 (.ints .i64 (aG (lY t bl reps q.1))) q.2),(2,.own 54 (.ints .i64 (cY t bl reps q.1)) 256)]) 3 (fun q=>q.1<=256/\(lY t bl reps q.1).length<=q.2) (fun q=>256 - q.1) ?_ ?_))
 ·have hz0:lY t bl reps 0=[]:=by unfold lY;rfl
  have hX3:([]:List Int)=aG (lY t bl reps 0):=by rw[hz0];rfl
  have hXL:0=(lY t bl reps 0).length:=by rw[hz0];rfl
  refine ai [] id (0,0) ⟨Nat.zero_le _,Nat.le_of_eq hXL.symm⟩ [0,1,2] bL bL bL bL
 ·intro q hq
  have hly:=O5 t bl reps q.1
  refine aH fun _ K10=>aO aF fun _ K12=>?_
  iterate 2 refine oG ?_
  refine aJ K12 (bC (b:=_) rfl (fun h_t19=>?_) (fun h_t19=>?_))
  ·try simp only[dQ,reduceIte]at h_t19
   refine bK (K10 _ _ _ (aH fun _ K13=>bO (aO aF fun _ K15=>?_)))
   iterate 3 refine oG ?_
   refine aJ K15 (qf (α:=Nat×Nat) (fun p=>[(1,.c (.ds bl.length (.ints .i64 (aG bl)))),(2,.c (.ds reps.length (.ints .i64 (aG reps)))),(3,.c (.dp (eT t) 0)),(7,.c (.ptr 0 0)),(8,.c (.slice 1 0 (lY t bl reps q.1).length q.2)),(9,.c (.ptr 2 0)),(10,.c (.int .i64 (q.1:Nat))),(11,.c (.int .i64 (p.2:Nat))),(12,.c (.int .i64 (p.1:Nat)))]) (fun p=>[(0,.own 54 (.ints .i64 (List.replicate 256 0)) 256),(1,.own 3 (.ints .i64 (aG (lY t bl reps q.1))) q.2),(2,.own 54 (.ints .i64 (cY t bl reps q.1)) 256)]) 3 (fun p=>Bc t bl reps q.1 p.1 p.2/\(p.2=(lY t bl reps q.1).length->(lY t bl reps q.1).length<=p.1)) ?_ ?_)
   ·refine aO aF fun _ K17=>oG ?_;refine aJ K17 (bO (fM (α:=Nat×Nat) (fun p=>[(1,.c (.ds bl.length (.ints .i64 (aG bl)))),(2,.c (.ds reps.length (.ints .i64 (aG reps)))),(3,.c (.dp (eT t) 0)),(7,.c (.ptr 0 0)),(8,.c (.slice 1 0 (lY t bl reps q.1).length q.2)),(9,.c (.ptr 2 0)),(10,.c (.int .i64 (q.1:Nat))),(11,.c (.int .i64 (p.2:Nat))),(12,.c (.int .i64 (p.1:Nat)))]) (fun p=>[(0,.own 54 (.ints .i64 (List.replicate 256 0)) 256),(1,.own 3 (.ints .i64 (aG (lY t bl reps q.1))) q.2),(2,.own 54 (.ints .i64 (cY t bl reps q.1)) 256)]) 3 (fun p=>Bc t bl reps q.1 p.1 p.2) (fun p=>(lY t bl reps q.1).length - p.1) ?_ ?_))
    ·refine ai [] id (0,(lY t bl reps q.1).length) (.inl ⟨rfl,Nat.zero_le _,fun j hj=>absurd hj (Nat.not_lt_zero j)⟩) [0,1,2] bL bL bL bL
    ·intro p hp;refine aH fun _ K18=>aO aF fun _ K20=>?_
     iterate 4 refine oG ?_
     refine y4j ?_;refine fO (fun hb4=>?_) (fun hb4=>?_)
     ·try simp only[dQ,reduceIte]at hb4
      iterate 4 refine GJ ?_
      refine oG ?_;refine aJ K20 (bC (b:=_) rfl (fun h_t33=>?_) (fun h_t33=>?_))
      ·try simp only[dQ,reduceIte]at h_t33
       refine bK (K18 _ _ _ (aH fun _ K21=>bO ?_))
       have hpi:p.1< (lY t bl reps q.1).length:=by omega
       have hpl:=IR hpi
       have hq256:q.1< 256:=by omega
       have hp256:((lY t bl reps q.1).getD p.1 0)< 256:=by omega
       have hcq:=av hok hq256
       have hcp:=av hok hp256
       refine aO aF fun _ K23=>oG ?_;refine aJ K23 (qf (α:=Bool) (fun y=>[(1,.c (.ds bl.length (.ints .i64 (aG bl)))),(2,.c (.ds reps.length (.ints .i64 (aG reps)))),(3,.c (.dp (eT t) 0)),(7,.c (.ptr 0 0)),(8,.c (.slice 1 0 (lY t bl reps q.1).length q.2)),(9,.c (.ptr 2 0)),(10,.c (.int .i64 (q.1:Nat))),(11,.c (.int .i64 (p.2:Nat))),(12,.c (.int .i64 (p.1:Nat))),(13,.c (.bool y))]) (fun y=>[(0,.own 54 (.ints .i64 (List.replicate 256 0)) 256),(1,.own 3 (.ints .i64 (aG (lY t bl reps q.1))) q.2),(2,.own 54 (.ints .i64 (cY t bl reps q.1)) 256)]) 3 (fun y=>y=decide (kY t bl reps q.1=kY t bl reps ((lY t bl reps q.1).getD p.1 0))) ?_ ?_)
       ·refine aO aF fun _ K25=>oG ?_;refine aJ K25 (bO (fM (α:=Nat×Bool) (fun k=>[(1,.c (.ds bl.length (.ints .i64 (aG bl)))),(2,.c (.ds reps.length (.ints .i64 (aG reps)))),(3,.c (.dp (eT t) 0)),(7,.c (.ptr 0 0)),(8,.c (.slice 1 0 (lY t bl reps q.1).length q.2)),(9,.c (.ptr 2 0)),(10,.c (.int .i64 (q.1:Nat))),(11,.c (.int .i64 (p.2:Nat))),(12,.c (.int .i64 (p.1:Nat))),(13,.c (.bool k.2)),(14,.c (.int .i64 (k.1:Nat)))]) (fun k=>[(0,.own 54 (.ints .i64 (List.replicate 256 0)) 256),(1,.own 3 (.ints .i64 (aG (lY t bl reps q.1))) q.2),(2,.own 54 (.ints .i64 (cY t bl reps q.1)) 256)]) 3 (fun k=>k.1<=reps.length/\(k.2=true->∀ x,x< k.1->aM bl ((aD t).δ (eD reps x) ((aD t).cell q.1))=aM bl ((aD t).δ (eD reps x) ((aD t).cell ((lY t bl reps q.1).getD p.1 0))))/\(k.2=false->¬ kY t bl reps q.1=kY t bl reps ((lY t bl reps q.1).getD p.1 0))) (fun k=>reps.length - k.1) ?_ ?_))
        ·refine ai [] id (0,true) ⟨Nat.zero_le _,fun _ x hx=>absurd hx (Nat.not_lt_zero x),fun e=>by cases e⟩ [0,1,2] bL bL bL bL
        ·intro k hk
         obtain⟨hk1,hk2,hk3⟩:=hk;refine aH fun _ K26=>qB aF aN fun _ K28=>?_
         iterate 4 refine qg ?_
         refine vE ?_;refine fO (fun hb4=>?_) (fun hb4=>?_)
         ·try simp only[dQ,reduceIte]at hb4
          refine QL ?_;refine qg ?_;refine vE ?_;refine fO (fun hb7=>?_) (fun hb7=>?_)
          ·try simp only[dQ,reduceIte]at hb7
           iterate 3 refine QL ?_
           refine YC ?_;refine aU (.c (.int .i64 (((aD t).cell q.1:Nat):Int))) (ak ((z52 hcl (by first|omega|(simp;done)) hq256).trans (congrArg (Cell.int IntKind.i64) (av hok hq256).2))) ?_
           iterate 3 refine QL ?_
           refine YC ?_;refine aU (.c (.int .i64 (((((lY t bl reps q.1).getD p.1 0):Nat):Int)))) (az ((congrArg (fun i=>(aG (lY t bl reps q.1)).getD i 0) (by omega)).trans jd)) ?_
           iterate 2 refine QL ?_
           refine YC ?_;refine aU (.c (.int .i64 (((aD t).cell ((lY t bl reps q.1).getD p.1 0):Nat):Int))) (ak ((z52 hcl (by first|omega|(simp;done)) hp256).trans (congrArg (Cell.int IntKind.i64) (av hok hp256).2))) (QL ?_);refine qg ?_;refine nG K28 (bC (b:=_) rfl (fun h_t56=>?_) (fun h_t56=>?_))
           ·try simp only[dQ,reduceIte]at h_t56
            refine bK (K26 _ _ _ (aH fun _ K29=>bO ?_))
            have hkr:k.1< reps.length:=by omega
            have hpn:=hlt _ (ho.rep k.1 hkr).1
            have hpn:(eD reps k.1)< t.next.length:=hpn
            have hrw:=oz hok hpn
            have hxq:=bz hok hpn hcq.1
            have hxp:=bz hok hpn hcp.1
            have hbl:=ho.len
            refine qB aF aN fun _ K31=>qg ?_;refine vE ?_;refine aU (.c (.ds t.next.length (.cells (aS t.next)))) (ak (iC hcl)) ?_
            iterate 3 refine qg ?_
            refine vE ?_;refine aU (.c (.int .i64 ((((eD reps k.1):Nat):Int)))) (az ((congrArg (fun i=>(aG reps).getD i 0) (by omega)).trans jd)) (qg ?_);refine vE ?_;refine aU (.c (.ds (t.next.getD (eD reps k.1) []).length (.ints .i64 (t.next.getD (eD reps k.1) [])))) (ak (oh ⟨hpn,by omega⟩)) (qg ?_);refine nG K31 (TS aF aN fun _ K32=>?_)
            iterate 5 refine qg ?_
            refine vE ?_;refine aU (.c (.int .i64 (((aD t).cell q.1:Nat):Int))) (ak ((z52 hcl (by first|omega|(simp;done)) hq256).trans (congrArg (Cell.int IntKind.i64) (av hok hq256).2))) (qg ?_);refine vE ?_;refine aU (.c (.int .i64 ((((aD t).δ (eD reps k.1) ((aD t).cell q.1):Nat):Int)))) (az ((congrArg (fun i=>(t.next.getD (eD reps k.1) []).getD i 0) (by omega)).trans hxq.2)) (qg ?_);refine vE ?_;refine aU (.c (.int .i64 (((aM bl ((aD t).δ (eD reps k.1) ((aD t).cell q.1)):Nat):Int)))) (az ((congrArg (fun i=>(aG bl).getD i 0) (by omega)).trans jd)) ?_
            iterate 5 refine qg ?_
            refine vE ?_;refine aU (.c (.int .i64 (((((lY t bl reps q.1).getD p.1 0):Nat):Int)))) (az ((congrArg (fun i=>(aG (lY t bl reps q.1)).getD i 0) (by omega)).trans jd)) ?_
            iterate 2 refine qg ?_
            refine vE ?_;refine aU (.c (.int .i64 (((aD t).cell ((lY t bl reps q.1).getD p.1 0):Nat):Int))) (ak ((z52 hcl (by first|omega|(simp;done)) hp256).trans (congrArg (Cell.int IntKind.i64) (av hok hp256).2))) (qg ?_);refine vE ?_;refine aU (.c (.int .i64 ((((aD t).δ (eD reps k.1) ((aD t).cell ((lY t bl reps q.1).getD p.1 0)):Nat):Int)))) (az ((congrArg (fun i=>(t.next.getD (eD reps k.1) []).getD i 0) (by omega)).trans hxp.2)) (qg ?_);refine vE ?_;refine aU (.c (.int .i64 (((aM bl ((aD t).δ (eD reps k.1) ((aD t).cell ((lY t bl reps q.1).getD p.1 0))):Nat):Int)))) (az ((congrArg (fun i=>(aG bl).getD i 0) (by omega)).trans jd)) ?_
            iterate 2 refine qg ?_
            refine nG K32 (dD (K29 _ _ _ (bB aF fun _ K33=>?_)))
            iterate 3 refine oG ?_
            refine aJ K33 ?_
            have hsame:k.2=true:=by first|assumption|(simp_all;done)
            have hd9:decide (((aM bl ((aD t).δ (eD reps k.1) ((aD t).cell q.1)):Nat):Int)=((aM bl ((aD t).δ (eD reps k.1) ((aD t).cell ((lY t bl reps q.1).getD p.1 0))):Nat):Int))=decide (aM bl ((aD t).δ (eD reps k.1) ((aD t).cell q.1))=aM bl ((aD t).δ (eD reps k.1) ((aD t).cell ((lY t bl reps q.1).getD p.1 0)))):=by rw[decide_eq_decide];omega
            refine ai [] id (k.1+1,decide (aM bl ((aD t).δ (eD reps k.1) ((aD t).cell q.1))=aM bl ((aD t).δ (eD reps k.1) ((aD t).cell ((lY t bl reps q.1).getD p.1 0))))) ⟨⟨by show k.1+1<=_;omega,fun e x hx=>(Nat.lt_succ_iff_lt_or_eq.1 hx).elim (hk2 hsame x) fun e2=>by rw[e2];exact of_decide_eq_true e,fun e hkk=>of_decide_eq_false e (rG.1 hkk k.1 hkr)⟩,by show _ - (k.1+1)< _;omega⟩ [0,1,2] ?_ ?_ ?_ ?_
            ·exact bL
            ·exact bL
            ·exact bL
            ·exact bL
           ·try simp only[dQ,reduceIte]at h_t56
            refine eY (bJ (bJ (eX ?_)))
            have hfin:k.2=decide (kY t bl reps q.1=kY t bl reps ((lY t bl reps q.1).getD p.1 0)):=by
             cases hq9:k.2
             ·exact(decide_eq_false (hk3 hq9)).symm
             ·refine(decide_eq_true ?_).symm
              first|exact rG.2 fun x hx=>hk2 hq9 x (by omega)|exact Zf (by omega)|(simp_all;done)
            refine ai [] id k.2 hfin [0,1,2] bL bL bL bL
          ·try simp only[dQ,reduceIte]at hb7
           iterate 12 refine qN ?_
           refine qg ?_;refine nG K28 (bC (b:=_) rfl (fun h_t56=>?_) (fun _=>?_))
           ·exfalso;simp at h_t56
           refine eY (bJ (bJ (eX ?_)))
           have hfin:k.2=decide (kY t bl reps q.1=kY t bl reps ((lY t bl reps q.1).getD p.1 0)):=by
            cases hq9:k.2
            ·exact(decide_eq_false (hk3 hq9)).symm
            ·refine(decide_eq_true ?_).symm
             first|exact rG.2 fun x hx=>hk2 hq9 x (by omega)|exact Zf (by omega)|(simp_all;done)
           refine ai [] id k.2 hfin [0,1,2] bL bL bL bL
         ·try simp only[dQ,reduceIte]at hb4
          refine qN ?_;refine qg ?_;refine vE ?_;refine fO (fun hb7=>?_) (fun hb7=>?_)
          ·exfalso;simp at hb7
          iterate 12 refine qN ?_
          refine qg ?_;refine nG K28 (bC (b:=_) rfl (fun h_t56=>?_) (fun _=>?_))
          ·exfalso;simp at h_t56
          refine eY (bJ (bJ (eX ?_)))
          have hfin:k.2=decide (kY t bl reps q.1=kY t bl reps ((lY t bl reps q.1).getD p.1 0)):=by
           cases hq9:k.2
           ·exact(decide_eq_false (hk3 hq9)).symm
           ·refine(decide_eq_true ?_).symm
            first|exact rG.2 fun x hx=>hk2 hq9 x (by omega)|exact Zf (by omega)|(simp_all;done)
          refine ai [] id k.2 hfin [0,1,2] bL bL bL bL
       ·intro y hy;refine aO aF fun _ K35=>oG ?_;refine aJ K35 (bC (b:=_) rfl (fun h_t91=>?_) (fun h_t91=>?_))
        ·refine bB aF fun _ K36=>?_
         iterate 2 refine oG ?_
         refine aJ K36 (dD (K21 _ _ _ (bB aF fun _ K37=>?_)))
         iterate 3 refine oG ?_
         refine aJ K37 ?_
         have hhit:kY t bl reps ((lY t bl reps q.1).getD p.1 0)=kY t bl reps q.1:=by
          rw[hy]at h_t91;exact(of_decide_eq_true h_t91).symm
         refine ai [] id (p.1+1,p.1) ⟨.inr ⟨hpi,by omega,hhit⟩,by show _ - (p.1+1)< _;omega⟩ [0,1,2] ?_ ?_ ?_ ?_
         ·exact bL
         ·exact bL
         ·exact bL
         ·exact bL
        ·refine bK (dD (K21 _ _ _ (bB aF fun _ K38=>?_)))
         iterate 3 refine oG ?_
         refine aJ K38 ?_
         have hmiss:Bc t bl reps q.1 (p.1+1) p.2:=by
          rw[hy]at h_t91
          have h91:=of_decide_eq_false h_t91
          rcases hp with⟨e,hi,hno⟩|⟨e,_⟩
          ·refine .inl ⟨e,by omega,fun j hj=>?_⟩
           rcases Nat.lt_succ_iff_lt_or_eq.1 hj with h1|h1
           ·exact hno j h1
           ·subst h1
            exact fun hk=>h91 hk.symm
          ·omega
         refine ai [] id (p.1+1,p.2) ⟨hmiss,by show _ - (p.1+1)< _;omega⟩ [0,1,2] ?_ ?_ ?_ ?_
         ·exact bL
         ·exact bL
         ·exact bL
         ·exact bL
      ·try simp only[dQ,reduceIte]at h_t33
       refine eY (bJ (bJ (eX (ai [] id p ⟨hp,fun e=>by omega⟩ [0,1,2] bL bL bL bL))))
     ·try simp only[dQ,reduceIte]at hb4
      iterate 4 refine sN ?_
      refine oG ?_;refine aJ K20 (bC (b:=_) rfl (fun h_t33=>?_) (fun _=>?_))
      ·exfalso;simp at h_t33
      refine eY (bJ (bJ (eX (ai [] id p ⟨hp,fun e=>by omega⟩ [0,1,2] bL bL bL bL))))
   ·intro p hp0
    obtain⟨hp,hpe⟩:=hp0;refine aH fun _ K39=>?_
    have hq256:q.1< 256:=by omega
    refine aO aF fun _ K41=>?_
    iterate 4 refine oG ?_
    refine aJ K41 (bC (b:=_) rfl (fun h_t96=>?_) (fun h_t96=>?_))
    ·try simp only[dQ,reduceIte]at h_t96
     refine bB aF fun _ K42=>?_
     iterate 3 refine oG ?_
     refine y4j ?_;intro cap3 hcap3;refine aL (oG ?_);refine aJ K42 (K39 _ _ _ ?_)
     have hset:(0+((q.1:Nat):Int).toNat*1)=q.1:=by omega
     refine bB aF fun _ K43=>?_
     iterate 3 refine oG ?_
     refine Ze ?_;refine aJ K43 (dD (K13 _ _ _ (bB aF fun _ K44=>?_)))
     iterate 3 refine oG ?_
     refine aJ K44 ?_
     have he9:p.2=(lY t bl reps q.1).length:=by omega
     have hno:=Gd hp he9 (hpe he9)
     obtain⟨hR,hC⟩:=O6 hq256 hno
     have hX1:(cY t bl reps q.1).set (0+((q.1:Nat):Int).toNat*1) ((p.2:Nat):Int)=cY t bl reps (q.1+1):=by rw[hset,show p.2=oC t bl reps ((aD t).cell q.1) by rw[hC];omega];exact xM hq256
     have hX2:aG (lY t bl reps q.1)++([]++[((q.1:Nat):Int)])=aG (lY t bl reps (q.1+1)):=by rw[hR,List.nil_append];exact z39 _ _
     have hXL:(lY t bl reps q.1).length+1=(lY t bl reps (q.1+1)).length:=by rw[hR,List.length_append];rfl
     refine ai [] (fun i=>if i=1 then 4 else i) (q.1+1,cap3) ⟨⟨by show q.1+1<=256;omega,by show _<=cap3;rw[<-hXL];omega⟩,by show 256 - (q.1+1)< _;omega⟩ [0,4,2] ?_ ?_ ?_ ?_
     ·exact bL
     ·exact bL
     ·exact bL
     ·exact bL
    ·try simp only[dQ,reduceIte]at h_t96
     refine bK (K39 _ _ _ ?_)
     have hset:(0+((q.1:Nat):Int).toNat*1)=q.1:=by omega
     refine bB aF fun _ K45=>?_
     iterate 3 refine oG ?_
     refine Ze ?_;refine aJ K45 (dD (K13 _ _ _ (bB aF fun _ K46=>?_)))
     iterate 3 refine oG ?_
     refine aJ K46 ?_
     have hlt9:p.2< (lY t bl reps q.1).length:=by rcases hp with⟨e,_⟩|⟨e,_⟩<;>omega
     obtain⟨hyes,hid⟩:=Bd hp hlt9;obtain⟨hR,hC⟩:=KW hq256 hyes
     have hX1:(cY t bl reps q.1).set (0+((q.1:Nat):Int).toNat*1) ((p.2:Nat):Int)=cY t bl reps (q.1+1):=by rw[hset,show p.2=oC t bl reps ((aD t).cell q.1) by rw[hC,hid]];exact xM hq256
     have hX2:aG (lY t bl reps q.1)=aG (lY t bl reps (q.1+1)):=by rw[hR]
     have hXL:(lY t bl reps q.1).length=(lY t bl reps (q.1+1)).length:=by rw[hR]
     refine ai [] id (q.1+1,q.2) ⟨⟨by show q.1+1<=256;omega,by show _<=q.2;rw[<-hXL];omega⟩,by show 256 - (q.1+1)< _;omega⟩ [0,1,2] ?_ ?_ ?_ ?_
     ·exact bL
     ·exact bL
     ·exact bL
     ·exact bL
  ·try simp only[dQ,reduceIte]at h_t19
   refine eY (bJ (bJ (eX (K7 _ _ _ (vR aF [(0,true),(1,true),(2,true),(3,false)] rfl aN aN fun _ K48=>?_)))))
   iterate 3 refine Jy ?_
   refine D9 ?_;refine iF K48 ?_
   obtain hq9:q.1=256:=by omega
   rw[hq9];refine bQ (gT aF (fun _ _ h=>h) (zrc t bl reps) [1] [.tmp 6,.cell 7 54] rfl ?_)
   generalize lY t bl reps 256=J9
   repeat first|refine aI (by first|exact trivial|(show 0+256*1<=(cY _ _ _ _).length;rw[rU];decide)|(show(0:Nat)< 256;decide)|omega|exact vU|(simp only[jI,jH];omega)|(rw[jH];omega)|(simp only[jI,rU];omega)|exact⟨by omega,by omega,trivial,trivial⟩|(show(List.replicate 256 (0:Int)).length=(cY _ _ _ _).length;rw[rU,List.length_replicate])|(show 256=(cY _ _ _ _).length;rw[rU])|(show 0+(cY _ _ _ _).length<=(List.replicate 256 (0:Int)).length;rw[rU,List.length_replicate];decide)|(show 0+256*1<=(cY _ _ _ _).length;rw[rU];decide)|(show(cY _ _ _ _).length=256*1;rw[rU])) ?_|refine bW (by show(cY _ _ _ _).length=256*1;rw[rU]) ?_
   all_goals exact bL


end Go.Proofs.YtpdljmohhpbkpaaDoor

namespace Go.Proofs.YtpdljmohhpbkpaaDoor
open Go.Ab Go.RowKit

section
variable {a b:Prop}
theorem Ee(h:a:=by first|exact gG|(simp[-List.reduceReplicate]<;>omega)|exact vU|exact vRl|exact Vm|(simp only[jI,jH];omega)|exact⟨by omega,by omega,trivial,trivial⟩|exact⟨by omega,by omega,trivial⟩|(show _< (rt _ _ _).length;rw[bG (qH _ _)];omega)|(show _< ((rt _ _ _).set _ _).length;rw[List.length_set,bG (qH _ _)];omega)|(rw[MM (by omega)];done)|(simp only[jI];rw[MM (by omega)];omega)|exact gH):a:=h
theorem bH(h:a:=by
    repeat' (first|exact pJ|exact pT|exact trivial|refine aI ?_ ?_|exact iM|refine low_cons' ?_ ?_|exact iN|fail)
    all_goals first|omega|(show(0:Nat)< (rt _ _ _).length;rw[bG (qH _ _)];decide)|(show aB.low _ (aB.cells (List.replicate 256 _++_));exact ou)|exact hXL|(show(0:Nat)< (rt _ _ _).length;rw[bG hcl];decide)|exact(Li t t.next.length).symm|exact Bv (by show(2:Nat)< _;decide) trivial|(show 0+_*1<=(pz _ _ _).length;rw[MM (Nat.le_refl _)];omega)|exact(if_pos ⟨rfl,by show(pz _ _ _).length=_*1;rw[MM (Nat.le_refl _)];omega⟩).symm|(show(_:List Int)=_;first|assumption|rfl)|(show aB.to _ _ _ _ _ _;rw[ym t];exact rY trivial ⟨rfl,rfl⟩)|(show aB.to _ _ _ _ _ _;exact WN (qH _ _) hset.1 hset.2 trivial ⟨rfl,rfl⟩)|(show bR _ _ _;first|exact nI _|(rw[hXR];exact nI _)|(rw[hXR];trivial))|(show bR _ _ _;(try rw[Ca (qH _ _) rfl]);refine rY ?_ ?_<;>(repeat' (first|exact trivial|refine aI ?_ ?_|rfl|omega|decide|exact z31 _|(simp;done)|rw[if_pos ⟨rfl,by simp⟩])))|(simp[-List.reduceReplicate];done)|(show(0:Nat)< (au _ _ _ _).length;rw[dJ hcl];decide)|(simp[-List.reduceReplicate];done)|(simp[-List.reduceReplicate]<;>omega)|skip):a:=h
theorem lM(kZ:b)(h:aK b->a:=by intro kZ;(repeat first|refine aI Ee ?_|refine bW Ee ?_|refine dC Ee ?_|refine fT Ee ?_|refine fA ?_);exact kZ.out):a:=h ⟨kZ⟩
theorem z40(kZ:b)(h:aK b->a:=by intro kZ;refine sX ?_;refine lM ?_;refine aL ?_;exact kZ.out):a:=h ⟨kZ⟩
theorem QM(kZ:b)(h:aK b->a:=by intro kZ;refine jl ?_;refine lM ?_;refine aL ?_;exact kZ.out):a:=h ⟨kZ⟩
theorem WR(kZ:b)(h:aK b->a:=by intro kZ;refine qX ?_;refine lM ?_;refine aL ?_;exact kZ.out):a:=h ⟨kZ⟩
theorem Zg(kZ:b)(h:aK b->a:=by intro kZ;refine Md ?_;refine lM ?_;refine aL ?_;exact kZ.out):a:=h ⟨kZ⟩
theorem Q8(kZ:b)(h:aK b->a:=by intro kZ;refine dX ?_;refine lM ?_;refine aL ?_;exact kZ.out):a:=h ⟨kZ⟩
theorem KM(kZ:b)(h:aK b->a:=by intro kZ;refine gX ?_;refine lM ?_;refine aL ?_;exact kZ.out):a:=h ⟨kZ⟩
theorem ML(kZ:b)(h:aK b->a:=by intro kZ;refine sX ?_;refine lM ?_;exact kZ.out):a:=h ⟨kZ⟩
theorem F9(kZ:b)(h:aK b->a:=by intro kZ;refine qX ?_;refine lM ?_;exact kZ.out):a:=h ⟨kZ⟩
theorem zwq(kZ:b)(h:aK b->a:=by intro kZ;refine Md ?_;refine lM ?_;exact kZ.out):a:=h ⟨kZ⟩
theorem TP(kZ:b)(h:aK b->a:=by intro kZ;refine dX ?_;refine lM ?_;exact kZ.out):a:=h ⟨kZ⟩
theorem yN(kZ:b)(h:aK b->a:=by intro kZ;refine gX ?_;refine lM ?_;exact kZ.out):a:=h ⟨kZ⟩
end
open Go.Aut
def cK(t:Tab)(b:Nat):List Nat:=aY (aD t).cell (List.range b)
def ni(t:Tab)(b:Nat):List Int:=(List.range 256).map fun x=>if x< b then((lH (aD t).cell dm x:Nat):Int)else 0
@[simp] theorem qH(t:Tab)(b:Nat):(ni t b).length=256:=by simp[ni]
theorem ym(t:Tab):z12=ni t 0:=by simp[ni,z12,List.map_const']
theorem y4o{t:Tab}{b:Nat}(h:b< 256):(ni t b).set b ((lH (aD t).cell dm b:Nat):Int)=ni t (b+1):=by
  refine o9 0 (by simp) fun i hi=>?_
  have hi:i< 256:=by simpa using hi
  rw[my (by simpa using hi),ni,ni,iy hi,iy hi]
  by_cases e:b=i
  · subst e;rw[if_pos rfl,if_pos (Nat.lt_succ_self b)]
  · rw[if_neg e]
    by_cases h2:i< b
    · rw[if_pos h2,if_pos (by omega)]
    · rw[if_neg h2,if_neg (by omega)]
theorem SA{b:Nat}(h:b<=256):dm.take b=List.range b:=by rw[dm,List.take_range,Nat.min_eq_left h]
def ko(t:Tab):List Nat:=aY (aD t).cell dm
theorem qx(t:Tab):cK t 256=ko t:=by unfold cK ko dm;rfl
attribute [local irreducible] dm
theorem xI(t:Tab)(b:Nat):(cK t b).length<=b:=Nat.le_trans (vZ _) (by simp)
theorem IE{t:Tab}(h:t.ok){b:Nat}(hb:b<=256):∀ c∈cK t b,c< t.nc:=fun c hc=>by
  obtain⟨x,hx,rfl⟩:=(qW _ _).1 hc;exact(av h (by have:=List.mem_range.1 hx;omega)).1
theorem OQ{t:Tab}{b:Nat}(hb:b< 256)(h:(aD t).cell b∉cK t b):cK t (b+1)=cK t b++[(aD t).cell b]/\lH (aD t).cell dm b=(cK t b).length:=by
  have e:cK t (b+1)=cK t b++[(aD t).cell b]:=by rw[cK,List.range_succ,z41,fZ];exact if_neg h
  refine⟨e,?_⟩
  have:=YZ (key:=(aD t).cell) (l:=dm) (j:=b+1) (s:=b) (by rw[SA (by omega)];exact List.mem_range.2 (Nat.lt_succ_self b))
  rw[SA (by omega)]at this;rw[<-this]
  show fF (cK t (b+1)) _=_
  rw[e,Ls h]
theorem Jt{t:Tab}{b:Nat}(hb:b< 256)(h:(aD t).cell b∈cK t b):cK t (b+1)=cK t b/\lH (aD t).cell dm b=fF (cK t b) ((aD t).cell b):=by
  have e:cK t (b+1)=cK t b:=by rw[cK,List.range_succ,z41,fZ];exact if_pos h
  refine⟨e,?_⟩
  have:=YZ (key:=(aD t).cell) (l:=dm) (j:=b+1) (s:=b) (by rw[SA (by omega)];exact List.mem_range.2 (Nat.lt_succ_self b))
  rw[SA (by omega)]at this;rw[<-this];exact congrArg (fun o=>fF o _) e
def pz(t:Tab)(s k:Nat):List Int:=((ko t).take k).map fun c=>(t.next.getD s []).getD c 0
def oq(t:Tab)(s:Nat):List (List Int):=(List.range s).map fun i=>pz t i (ko t).length
def kM(t:Tab):Tab:={ cell:=ni t 256,nc:=(ko t).length,next:=oq t t.next.length,acc:=t.acc }
theorem MM{t:Tab}{s k:Nat}(h:k<=(ko t).length):(pz t s k).length=k:=by rw[pz,List.length_map,List.length_take];omega
theorem zC{t:Tab}{s k:Nat}(h:k< (ko t).length){v:Int}(hv:v=(t.next.getD s []).getD ((ko t).getD k 0) 0):pz t s k++([]++[v])=pz t s (k+1):=by
  rw[pz,pz,List.take_add_one,jB (d:=0) h,List.map_append,hv];rfl
@[simp] theorem Li(t:Tab)(s:Nat):(oq t s).length=s:=by simp[oq]
theorem zD(t:Tab)(s:Nat):oq t s++[pz t s (ko t).length]=oq t (s+1):=by simp[oq,List.range_succ]
theorem zre{t:Tab}{b:Nat}(hb:b< 256):(aD (kM t)).cell b=lH (aD t).cell dm b:=by
  show((ni t 256).getD b 0).toNat=_
  rw[ni,iy hb,if_pos hb];rfl
theorem y4p{t:Tab}{s b:Nat}(hs:s< t.next.length)(hb:b< 256):(aD (kM t)).δ s ((aD (kM t)).cell b)=(aD t).δ s ((aD t).cell b):=by
  have hm:b∈dm:=z57.2 hb
  have hg:=NR (key:=(aD t).cell) hm
  rw[zre hb]
  show(((oq t t.next.length).getD s []).getD _ 0).toNat=((t.next.getD s []).getD _ 0).toNat
  rw[oq,iy hs,pz,List.take_length]
  congr 1
  refine JC ?_;rw[List.getElem?_map,ko,hg];rfl
theorem EI{t:Tab}(h:t.ok):(kM t).ok:=by
 refine⟨qH t 256,fun x hx=>?_,by show 0< (oq t t.next.length).length;rw[Li];exact h.npos,by show t.acc.length=(oq t t.next.length).length;rw[Li];exact h.alen,fun r hr=>?_,fun c hc=>?_⟩
 ·obtain⟨b,hb,rfl⟩:=List.mem_map.1 hx
  have hb:=List.mem_range.1 hb
  rw[if_pos hb]
  have:=vG (key:=(aD t).cell) (z57.2 hb)
  show 0<=_/\_< ((ko t).length:Int)
  rw[ko];omega
 ·obtain⟨i,hi,rfl⟩:=List.mem_map.1 hr
  have hi:=List.mem_range.1 hi
  refine⟨MM (Nat.le_refl _),fun x hx=>?_⟩;obtain⟨c,hc,rfl⟩:=List.mem_map.1 hx;rw[List.take_length]at hc
  have:=bz h hi (IE h (Nat.le_refl 256) c (by rw[qx];exact hc))
  show 0<=_/\_< (((oq t t.next.length).length:Nat):Int)
  rw[Li,this.2];omega
 ·have hc:c< (ko t).length:=hc
  rw[ko]at hc;obtain⟨b,hb,e⟩:=Iv (key:=(aD t).cell) (l:=dm) (v:=c) hc;exact⟨b,z57.1 hb,by rw[zre (z57.1 hb)];exact e⟩
theorem yu{t:Tab}(h:t.fit):(kM t).fit:=⟨EI h.1,by show(oq t t.next.length).length<=_;rw[Li];exact h.2.1,by show(ko t).length<=256;rw[<-qx];exact xI t 256⟩
theorem zwr{t:Tab}(h:t.ok):∀ (w:List Nat) (s:Nat),Bytes w->s< t.next.length->(aD (kM t)).run s w=(aD t).run s w
  |[],_,_,_=>rfl
  | b::w,s,hw,hs=>by
    have hb:=hw b List.mem_cons_self
    show(aD (kM t)).run ((aD (kM t)).δ s ((aD (kM t)).cell b)) w=(aD t).run ((aD t).δ s ((aD t).cell b)) w
    rw[y4p hs hb];exact zwr h w _ (fun x hx=>hw x (List.mem_cons_of_mem _ hx)) (bz h hs (av h hb).1).1
theorem y4q{t:Tab}(h:t.ok){w:List Nat}(hw:Bytes w):(aD (kM t)).lang 0 w=(aD t).lang 0 w:=by
  show t.acc.getD _ false=t.acc.getD _ false
  rw[zwr h w 0 hw h.npos]
theorem zm9(y:Cell):((aB.cells (List.replicate 256 (Cell.int .i64 0)++List.replicate 2 .nils)).sub 0 256).list++(((aB.cells (List.replicate 256 (Cell.int .i64 0)++List.replicate 2 .nils)).sub 256 1).list++([y]++[]))=rt z12 .nils y:=by
  rw[<-AV]
  show List.take 256 (List.drop 0 (List.replicate 256 _++List.replicate 2 _))++(List.take 1 (List.drop 256 (List.replicate 256 _++List.replicate 2 _))++_)=_
  rw[List.drop_zero,List.take_append_of_le_length (by rw[List.length_replicate];decide),List.take_replicate,List.drop_append_of_le_length (by rw[List.length_replicate];decide),List.drop_replicate]
  rfl
theorem Ca{cell:List Int}{x y z:Cell}(h:cell.length=256){i:Nat}(hi:i=256):(rt cell x y).set i z=rt cell z y:=by
  subst hi;rw[rt,rt,List.set_append_right _ _ (by simp[h])]
  simp[h]
theorem Q9{cell:List Int}{x y:Cell}(h:cell.length=256):(rt cell x y)[256]? =some x:=by
  rw[rt,List.getElem?_append_right (by simp[h])]
  simp[h]
theorem AX{cell:List Int}{x y:Cell}(h:cell.length=256):(aB.cells (rt cell x y)).get (0+256)=x:=by rw[Nat.zero_add,Tg h 0];rfl
def OH(t:Tab)(b y:Nat):Prop:=(y=(cK t b).length/\(aD t).cell b∉cK t b)\/(y< (cK t b).length/\(aD t).cell b∈cK t b/\fF (cK t b) ((aD t).cell b)=y)
theorem BF{t:Tab}{b y:Nat}(h:∀ x,x< y->(cK t b).getD x 0≠(aD t).cell b)(hy:y=(cK t b).length):OH t b y:=by
  refine .inl ⟨hy,fun hm=>?_⟩;obtain⟨x,hx,e⟩:=List.getElem_of_mem hm;exact h x (by omega) (by rw[qb hx];exact e)
theorem y4r{t:Tab}{b y:Nat}(hy:y< (cK t b).length)(e:(cK t b).getD y 0=(aD t).cell b):OH t b y:=by
  have h1:(cK t b)[y]? =some ((aD t).cell b):=by rw[jB (d:=0) hy,e]
  exact .inr ⟨hy,List.mem_of_getElem? h1,MF (Gh _) h1⟩
attribute [local irreducible] eG z12 zl au gz cr rt dz lc ni cK ko pz oq
def yn:aW:=fun vs K=>∃ t:Tab,vs=[jw t]/\t.fit/\K (jw (kM t))
theorem yo:jr Tryd.prog gl 68 yn:=by
 refine kJ (Γ:=g0) (N:=85) Tryd.func68 rfl rfl fun vs K h=>?_;obtain⟨t,rfl,ht,h⟩:=h;refine⟨_,h,Nu _,by simp,fun w I=>?_⟩
 have ht0:=ht
 obtain⟨hok,hlen,hnc⟩:=ht0
 have hcl:=hok.clen
 refine aO aF fun _ K2=>?_
 iterate 2 refine z40 ?_
 refine aJ K2 (fQ [0] (fun _=>1) [(1,.c (.dp (eT t) 0)),(2,.c (.ptr 0 0))] [(0,.own 74 (.cells dz) 258)] 1 [1] bH bH bH bH (aO aF fun _ K4=>z40 ?_));refine ML ?_;refine aU (.c (.ds t.acc.length (.bools t.acc))) (ak (nW hcl)) (ML ?_);refine aU (.agg (.cells (rt z12 .nils (.ds t.acc.length (.bools t.acc))))) (bq (congrArg (fun l=>SV.agg (aB.cells l)) (zm9 _))) (z40 ?_);refine QM ?_;refine aJ K4 (aO aF fun _ K6=>?_)
 iterate 2 refine z40 ?_
 refine aJ K6 (aH fun _ K7=>aO aF fun _ K9=>z40 ?_);refine aJ K9 (bO (fM (α:=Nat×Nat) (fun g=>[(1,.c (.dp (eT t) 0)),(2,.c (.ptr 0 0)),(3,.c (.ptr 1 0)),(4,.c (.slice 2 0 (cK t g.1).length g.2)),(5,.c (.int .i64 (g.1:Nat)))]) (fun g=>[(0,.own 74 (.cells dz) 258),(1,.own 74 (.cells (rt (ni t g.1) .nils (.ds t.acc.length (.bools t.acc)))) 258),(2,.own 3 (.ints .i64 (aG (cK t g.1))) g.2)]) 3 (fun g=>g.1<=256/\(cK t g.1).length<=g.2) (fun g=>256 - g.1) ?_ ?_))
 ·have hz0:cK t 0=[]:=by unfold cK;rfl
  have hX3:([]:List Int)=aG (cK t 0):=by rw[hz0];rfl
  have hXL:0=(cK t 0).length:=by rw[hz0];rfl
  refine ai [] id (0,0) ⟨Nat.zero_le _,Nat.le_of_eq hXL.symm⟩ [0,1,2] bH bH bH bH
 ·intro g hg
  obtain⟨hg1,hg2⟩:=hg
  have hcl9:=xI t g.1
  refine aH fun _ K10=>aO aF fun _ K12=>?_
  iterate 2 refine z40 ?_
  refine aJ K12 (bC (b:=_) rfl (fun h_t15=>?_) (fun h_t15=>?_))
  ·try simp only[dQ,reduceIte]at h_t15
   refine bK (K10 _ _ _ (aH fun _ K13=>bO (aO aF fun _ K15=>z40 ?_)));refine aJ K15 (qf (α:=Nat) (fun y=>[(1,.c (.dp (eT t) 0)),(2,.c (.ptr 0 0)),(3,.c (.ptr 1 0)),(4,.c (.slice 2 0 (cK t g.1).length g.2)),(5,.c (.int .i64 (g.1:Nat))),(6,.c (.int .i64 (y:Nat)))]) (fun y=>[(0,.own 74 (.cells dz) 258),(1,.own 74 (.cells (rt (ni t g.1) .nils (.ds t.acc.length (.bools t.acc)))) 258),(2,.own 3 (.ints .i64 (aG (cK t g.1))) g.2)]) 3 (fun y=>OH t g.1 y) ?_ ?_)
   ·refine bO (fM (α:=Nat) (fun k=>[(1,.c (.dp (eT t) 0)),(2,.c (.ptr 0 0)),(3,.c (.ptr 1 0)),(4,.c (.slice 2 0 (cK t g.1).length g.2)),(5,.c (.int .i64 (g.1:Nat))),(6,.c (.int .i64 (k:Nat)))]) (fun k=>[(0,.own 74 (.cells dz) 258),(1,.own 74 (.cells (rt (ni t g.1) .nils (.ds t.acc.length (.bools t.acc)))) 258),(2,.own 3 (.ints .i64 (aG (cK t g.1))) g.2)]) 3 (fun k=>k<=(cK t g.1).length/\∀ x,x< k->(cK t g.1).getD x 0≠(aD t).cell g.1) (fun k=>(cK t g.1).length - k) ?_ ?_)
    ·have hg256:g.1< 256:=by omega
     refine ai [] id 0 ⟨Nat.zero_le _,fun x hx=>absurd hx (Nat.not_lt_zero x)⟩ [0,1,2] bH bH bH bH
    ·intro k hk
     obtain⟨hk1,hk2⟩:=hk
     have hg256:g.1< 256:=by omega
     have hcb:=av hok hg256
     refine aH fun _ K16=>?_
     have hg256:g.1< 256:=by omega
     refine qB aF aN fun _ K18=>?_
     iterate 4 refine WR ?_
     refine F9 ?_;refine fO (fun hb4=>?_) (fun hb4=>?_)
     ·try simp only[dQ,reduceIte]at hb4
      iterate 3 refine Zg ?_
      refine zwq ?_;refine aU (.c (.int .i64 ((((cK t g.1).getD k 0:Nat):Int)))) (az ((congrArg (fun i=>(aG (cK t g.1)).getD i 0) (by omega)).trans jd)) ?_
      iterate 3 refine Zg ?_
      refine zwq ?_;refine aU (.c (.int .i64 (((aD t).cell g.1:Nat):Int))) (ak ((z52 hcl (by first|omega|(simp;done)) hg256).trans (congrArg (Cell.int IntKind.i64) (av hok hg256).2))) (Zg ?_);refine WR ?_;refine nG K18 (bC (b:=_) rfl (fun h_t32=>?_) (fun h_t32=>?_))
      ·try simp only[dQ,reduceIte]at h_t32
       refine bK (K16 _ _ _ (bO (bB aF fun _ K19=>?_)))
       iterate 3 refine z40 ?_
       refine aJ K19 (dD (ai [] id (k+1) ⟨⟨by omega,fun x hx=>(Nat.lt_succ_iff_lt_or_eq.1 hx).elim (hk2 x) fun e=>by rw[e];omega⟩,by omega⟩ [0,1,2] ?_ ?_ ?_ ?_))
       ·exact bH
       ·exact bH
       ·exact bH
       ·exact bH
      ·try simp only[dQ,reduceIte]at h_t32
       refine eY (bJ (bJ (eX ?_)))
       have hsp:OH t g.1 k:=by
        by_cases hkl:k< (cK t g.1).length
        ·exact y4r hkl (by first|omega|(simp_all;omega))
        ·exact BF hk2 (by omega)
       refine ai [] id k hsp [0,1,2] bH bH bH bH
     ·try simp only[dQ,reduceIte]at hb4
      iterate 9 refine qN ?_
      refine WR ?_;refine nG K18 (bC (b:=_) rfl (fun h_t32=>?_) (fun _=>?_))
      ·exfalso;simp at h_t32
      refine eY (bJ (bJ (eX ?_)))
      have hsp:OH t g.1 k:=by
       by_cases hkl:k< (cK t g.1).length
       ·exact y4r hkl (by first|omega|(simp_all;omega))
       ·exact BF hk2 (by omega)
      refine ai [] id k hsp [0,1,2] bH bH bH bH
   ·intro y hy;refine aH fun _ K20=>aO aF fun _ K22=>?_
    iterate 4 refine z40 ?_
    refine aJ K22 (bC (b:=_) rfl (fun h_t38=>?_) (fun h_t38=>?_))
    ·have hg256:g.1< 256:=by omega
     have hnk:(aD t).cell g.1∉(cK t g.1):=by
      rcases hy with hy|hy
      ·exact hy.2
      ·have h9:=of_decide_eq_true h_t38
       omega
     obtain⟨hR,hid⟩:=OQ hg256 hnk
     have hid:lH (aD t).cell dm g.1=y:=by
      rw[hid]
      rcases hy with hy|hy
      ·exact hy.1.symm
      ·exact absurd hy.2.1 hnk
     have hX2:aG (cK t g.1)++([]++[(((aD t).cell g.1:Nat):Int)])=aG (cK t (g.1+1)):=by rw[hR,List.nil_append];exact z39 _ _
     have hXL:(cK t g.1).length+1=(cK t (g.1+1)).length:=by rw[hR,List.length_append];rfl
     have hg256:g.1< 256:=by omega
     refine bB aF fun _ K23=>?_
     iterate 4 refine z40 ?_
     refine ML ?_;refine aU (.c (.int .i64 (((aD t).cell g.1:Nat):Int))) (ak ((z52 hcl (by first|omega|(simp;done)) hg256).trans (congrArg (Cell.int IntKind.i64) (av hok hg256).2))) (z40 ?_);refine ML ?_;intro cap6 hcap6;refine aL (z40 ?_);refine aJ K23 (K20 _ _ _ ?_)
     have hset:(0+0+((g.1:Nat):Int).toNat*1)< 256/\(ni t g.1).set (0+0+((g.1:Nat):Int).toNat*1) ((y:Nat):Int)=ni t (g.1+1):=by
      have e:(0+0+((g.1:Nat):Int).toNat*1)=g.1:=by omega
      rw[e, <-hid];exact⟨hg256,y4o hg256⟩
     refine bB aF fun _ K24=>?_
     iterate 4 refine z40 ?_
     refine QM ?_;refine aJ K24 (dD (K13 _ _ _ (bB aF fun _ K25=>?_)))
     iterate 3 refine z40 ?_
     refine aJ K25 (ai [] (fun i=>if i=2 then 4 else i) (g.1+1,cap6) ⟨⟨by show g.1+1<=256;omega,by show _<=cap6;rw[<-hXL];omega⟩,by show 256 - (g.1+1)< _;omega⟩ [0,1,4] ?_ ?_ ?_ ?_)
     ·exact bH
     ·exact bH
     ·exact bH
     ·exact bH
    ·have hg256:g.1< 256:=by omega
     obtain⟨hyk,hyi⟩:(aD t).cell g.1∈(cK t g.1)/\fF (cK t g.1) ((aD t).cell g.1)=y:=by
      rcases hy with hy|hy
      ·have h9:=of_decide_eq_false h_t38
       omega
      ·exact hy.2
     obtain⟨hR,hid⟩:=Jt hg256 hyk
     have hid:lH (aD t).cell dm g.1=y:=hid.trans hyi
     have hX2:aG (cK t g.1)=aG (cK t (g.1+1)):=by rw[hR]
     have hXL:(cK t g.1).length=(cK t (g.1+1)).length:=by rw[hR]
     refine bK (K20 _ _ _ ?_)
     have hset:(0+0+((g.1:Nat):Int).toNat*1)< 256/\(ni t g.1).set (0+0+((g.1:Nat):Int).toNat*1) ((y:Nat):Int)=ni t (g.1+1):=by
      have e:(0+0+((g.1:Nat):Int).toNat*1)=g.1:=by omega
      rw[e, <-hid];exact⟨hg256,y4o hg256⟩
     refine bB aF fun _ K26=>?_
     iterate 4 refine z40 ?_
     refine QM ?_;refine aJ K26 (dD (K13 _ _ _ (bB aF fun _ K27=>?_)))
     iterate 3 refine z40 ?_
     refine aJ K27 (ai [] id (g.1+1,g.2) ⟨⟨by show g.1+1<=256;omega,by show _<=g.2;rw[<-hXL];omega⟩,by show 256 - (g.1+1)< _;omega⟩ [0,1,2] ?_ ?_ ?_ ?_)
     ·exact bH
     ·exact bH
     ·exact bH
     ·exact bH
  ·try simp only[dQ,reduceIte]at h_t15
   refine eY (bJ (bJ (eX (K7 _ _ _ (aH fun _ K28=>?_)))))
   have hge:g.1=256:=by omega
   rw[hge];rw[qx]
   have hnp:=hok.npos
   refine fQ [2] id [(1,.c (.dp (eT t) 0)),(2,.c (.ptr 0 0)),(3,.c (.ptr 1 0)),(4,.c (.ds (ko t).length (.ints .i64 (aG (ko t)))))] [(0,.own 74 (.cells dz) 258),(1,.own 74 (.cells (rt (ni t 256) .nils (.ds t.acc.length (.bools t.acc)))) 258)] 2 [0,1] bH bH bH bH (aO aF fun _ K30=>z40 ?_);refine aJ K30 (bO (z30 1 256 44 (.cells []) rfl (Q9 (qH _ _)) rfl low_nil' ?_));rw[Ca (qH _ _) rfl];refine fM (α:=Nat×Nat) (fun s=>[(1,.c (.dp (eT t) 0)),(2,.c (.ptr 0 0)),(3,.c (.ptr 1 0)),(4,.c (.ds (ko t).length (.ints .i64 (aG (ko t))))),(7,.c (.int .i64 (s.1:Nat)))]) (fun s=>[(0,.own 74 (.cells dz) 258),(1,.own 74 (.cells (rt (ni t 256) (.slice 2 0 s.1 s.2) (.ds t.acc.length (.bools t.acc)))) 258),(2,.own 44 (.cells (aS (oq t s.1))) s.2)]) 3 (fun s=>s.1<=t.next.length/\s.1<=s.2) (fun s=>t.next.length - s.1) ?_ ?_
   ·have hXR:aS (oq t 0)=[]:=by unfold oq;rfl
    refine ai [] id (0,0) ⟨Nat.zero_le _,Nat.le_refl _⟩ [0,1,2] bH bH bH bH
   ·intro s hs
    obtain⟨hs1,hs2⟩:=hs
    have hlr9:=Li t s.1
    refine aH fun _ K31=>aO aF fun _ K33=>?_
    iterate 2 refine z40 ?_
    refine ML ?_;refine aU (.c (.ds t.next.length (.cells (aS t.next)))) (ak (iC hcl)) ?_
    iterate 2 refine z40 ?_
    refine aJ K33 (bC (b:=_) rfl (fun h_t54=>?_) (fun h_t54=>?_))
    ·try simp only[dQ,reduceIte]at h_t54
     refine bK (K31 _ _ _ (aH fun _ K34=>bO ?_))
     have hsn:s.1< t.next.length:=by omega
     have hrw:=oz hok hsn
     refine aO aF fun _ K36=>?_
     iterate 2 refine z40 ?_
     refine aJ K36 (aH fun _ K37=>aO aF fun _ K39=>z40 ?_);refine aJ K39 (bO (fM (α:=Nat×Nat) (fun k=>[(1,.c (.dp (eT t) 0)),(2,.c (.ptr 0 0)),(3,.c (.ptr 1 0)),(4,.c (.ds (ko t).length (.ints .i64 (aG (ko t))))),(7,.c (.int .i64 (s.1:Nat))),(8,.c (.slice 3 0 k.1 k.2)),(9,.c (.int .i64 (k.1:Nat)))]) (fun k=>[(0,.own 74 (.cells dz) 258),(1,.own 74 (.cells (rt (ni t 256) (.slice 2 0 s.1 s.2) (.ds t.acc.length (.bools t.acc)))) 258),(2,.own 44 (.cells (aS (oq t s.1))) s.2),(3,.own 3 (.ints .i64 (pz t s.1 k.1)) k.2)]) 4 (fun k=>k.1<=(ko t).length/\k.1<=k.2) (fun k=>(ko t).length - k.1) ?_ ?_))
     ·have hX3:([]:List Int)=pz t s.1 0:=by unfold pz;rfl
      refine ai [] id (0,0) ⟨Nat.zero_le _,Nat.le_refl _⟩ [0,1,2,3] bH bH bH bH
     ·intro k hk
      obtain⟨hk1,hk2⟩:=hk
      have hlp:=MM (t:=t) (s:=s.1) hk1
      refine aH fun _ K40=>aO aF fun _ K42=>?_
      iterate 4 refine z40 ?_
      refine aJ K42 (bC (b:=_) rfl (fun h_t61=>?_) (fun h_t61=>?_))
      ·try simp only[dQ,reduceIte]at h_t61
       refine bK (K40 _ _ _ (aH fun _ K43=>bO ?_))
       have hcl8:(ko t).length<=256:=by rw[<-qx];exact xI t 256
       have hkl:k.1< (ko t).length:=by omega
       have hkc:=IE hok (Nat.le_refl 256) _ (by rw[qx];exact getD_mem' hkl)
       refine ry aF [(0,true),(1,true),(2,true),(3,true),(4,true),(5,true),(6,true),(7,true),(8,true),(9,true),(10,true),(11,true),(12,false),(13,false),(14,true)] rfl aN aN fun _ K44=>?_
       iterate 2 refine Q8 ?_
       refine TP ?_;refine aU (.c (.ds t.next.length (.cells (aS t.next)))) (ak (iC hcl)) ?_
       iterate 2 refine Q8 ?_
       refine TP ?_;refine aU (.c (.ds (t.next.getD s.1 []).length (.ints .i64 (t.next.getD s.1 [])))) (ak (oh ⟨hsn,by omega⟩)) ?_
       iterate 3 refine Q8 ?_
       refine TP ?_;refine aU (.c (.int .i64 ((((ko t).getD k.1 0:Nat):Int)))) (az ((congrArg (fun i=>(aG (ko t)).getD i 0) (by omega)).trans jd)) (Q8 ?_);refine TP ?_;refine aU (.c (.int .i64 ((t.next.getD s.1 []).getD ((ko t).getD k.1 0) 0))) (az (congrArg (fun i=>(t.next.getD s.1 []).getD i 0) (by omega))) (KM ?_);refine yN ?_;intro cap13 hcap13;refine aL (Q8 ?_);refine iF K44 (dD (K43 _ _ _ (bB aF fun _ K45=>?_)))
       iterate 3 refine z40 ?_
       refine aJ K45 ?_
       have hX2:pz t s.1 k.1++([]++[(t.next.getD s.1 []).getD ((ko t).getD k.1 0) 0])=pz t s.1 (k.1+1):=zC hkl rfl
       refine ai [] (fun i=>if i=3 then 5 else i) (k.1+1,cap13) ⟨⟨by show k.1+1<=_;omega,by show k.1+1<=cap13;omega⟩,by show _ - (k.1+1)< _;omega⟩ [0,1,2,5] ?_ ?_ ?_ ?_
       ·exact bH
       ·exact bH
       ·exact bH
       ·exact bH
      ·try simp only[dQ,reduceIte]at h_t61
       refine eY (bJ (bJ (eX (K37 _ _ _ ?_))))
       have hke:k.1=(ko t).length:=by omega
       rw[hke];refine fQ [3] id [(1,.c (.dp (eT t) 0)),(2,.c (.ptr 0 0)),(3,.c (.ptr 1 0)),(4,.c (.ds (ko t).length (.ints .i64 (aG (ko t))))),(7,.c (.int .i64 (s.1:Nat))),(8,.c (.ds (ko t).length (.ints .i64 (pz t s.1 (ko t).length))))] [(0,.own 74 (.cells dz) 258),(1,.own 74 (.cells (rt (ni t 256) (.slice 2 0 s.1 s.2) (.ds t.acc.length (.bools t.acc)))) 258),(2,.own 44 (.cells (aS (oq t s.1))) s.2)] 3 [0,1,2] bH bH bH bH (bB aF fun _ K46=>z40 ?_);refine ML ?_;refine aU (.c (.slice 2 0 s.1 s.2)) (ak (AX (qH _ _))) ?_
       iterate 2 refine z40 ?_
       refine ML ?_;intro cap4 hcap4;refine aL (z40 ?_);refine QM ?_;refine aJ K46 (dD (K34 _ _ _ (bB aF fun _ K47=>?_)))
       iterate 3 refine z40 ?_
       refine aJ K47 ?_
       have hXR:aS (oq t s.1)++([]++[.ds (ko t).length (.ints .i64 (pz t s.1 (ko t).length))])=aS (oq t (s.1+1)):=by
        have:=Gg (oq t s.1) (pz t s.1 (ko t).length)
        rw[MM (Nat.le_refl _),zD]at this;exact this
       refine ai [] (fun i=>if i=2 then 4 else i) (s.1+1,cap4) ⟨⟨by show s.1+1<=_;omega,by show s.1+1<=cap4;omega⟩,by show _ - (s.1+1)< _;omega⟩ [0,1,4] ?_ ?_ ?_ ?_
       ·exact bH
       ·exact bH
       ·exact bH
       ·exact bH
    ·try simp only[dQ,reduceIte]at h_t54
     refine eY (bJ (bJ (eX (K28 _ _ _ ?_))))
     have hLL:t.next.length=(kM t).next.length:=(Li t t.next.length).symm
     have hse:s.1=t.next.length:=by omega
     rw[hse];refine fQ [2] id [(2,.c (.ptr 0 0)),(3,.c (.ptr 1 0))] [(0,.own 74 (.cells dz) 258),(1,.own 74 (.cells (rt (ni t 256) (.ds t.next.length (.cells (aS (oq t t.next.length)))) (.ds t.acc.length (.bools t.acc)))) 258)] 2 [0,1] bH bH bH bH (aO aF fun _ K49=>z40 ?_);refine QM ?_;refine aJ K49 (bQ (gT aF (fun _ _ h=>h) (Nu _) [] [.cell 2 74] rfl ?_))
     repeat first|refine aI (by first|omega|exact trivial|rfl|exact vRl) ?_|refine bW (bG (qH _ _)) ?_|refine dC (by rw[jA];exact(bG (qH _ _)).symm) ?_
     all_goals exact bH


end Go.Proofs.YtpdljmohhpbkpaaDoor
