/- Contracts of functions and plain facts, part 20. -/
import Derived.Test.YtppmnaoollkboaaDoorQs
import Derived.Test.YtppmnaoollkboaaDoorQd
set_option maxHeartbeats 3000000
set_option maxRecDepth 4000
namespace Go.Proofs.YtppmnaoollkboaaDoor
set_option linter.all false
open Go.Ab Go.RowKit

section
variable {a b:Prop}
theorem qJk0(h:a:=by first|exact vcA|(simp[-List.reduceReplicate]<;>omega)|exact vRh|(simp only[z10,z0n];omega)|(rw[z0n];omega)|(simp only[z10,z2d];omega)|exact⟨by omega,by omega,trivial,trivial⟩|(show(List.replicate 256 (0:Int)).length=(cY _ _ _ _).length;rw[z2d,List.length_replicate])|(show 256=(cY _ _ _ _).length;rw[z2d])|(show 0+(cY _ _ _ _).length≤(List.replicate 256 (0:Int)).length;rw[z2d,List.length_replicate];decide)|(show 0+256*1≤(cY _ _ _ _).length;rw[z2d];decide)|(show(cY _ _ _ _).length=256*1;rw[z2d])|exact vcB):a:=h
theorem uJk_0(h:a:=by
    repeat' (first|exact pJ|exact pT|exact trivial|refine aI ?_ ?_|exact cC0|refine low_cons' ?_ ?_|exact cC1|fail)
    all_goals first|omega|(show(0:Nat)< (rt _ _ _).length;rw[z02 hcl];decide)|(show Cont.low _ (Cont.cells (List.replicate 256 _++_));exact z5a)|exact hXL|(show(_:Bool)=_;exact hd9)|(show(_:List Int)=_;first|assumption|exact cY_zero t bl reps)|(rw[z2d];done)|(show _=(cY _ _ _ _).length;rw[z2d])|(simp[-List.reduceReplicate];done)|(show(0:Nat)< (z08 _ _ _ _).length;rw[z06 hcl];decide)|(simp[-List.reduceReplicate];done)|(simp[-List.reduceReplicate]<;>omega)|skip):a:=h
theorem DJk_0(kZ:b)(h:HidB b→a:=by intro kZ;(repeat first|refine aI qJk0 ?_|refine z0a qJk0 ?_|refine z07 qJk0 ?_|refine z0l qJk0 ?_|refine z0c ?_);exact kZ.out):a:=h ⟨kZ⟩
theorem z3e(kZ:b)(h:HidB b→a:=by intro kZ;refine sX ?_;refine DJk_0 ?_;refine exI ?_;exact kZ.out):a:=h ⟨kZ⟩
theorem zpm(kZ:b)(h:HidB b→a:=by intro kZ;refine sX0 ?_;refine DJk_0 ?_;refine exI ?_;exact kZ.out):a:=h ⟨kZ⟩
theorem sXTJk_3(kZ:b)(h:HidB b→a:=by intro kZ;refine sXT ?_;refine DJk_0 ?_;refine exI ?_;exact kZ.out):a:=h ⟨kZ⟩
theorem z4z(kZ:b)(h:HidB b→a:=by intro kZ;refine qX ?_;refine DJk_0 ?_;refine exI ?_;exact kZ.out):a:=h ⟨kZ⟩
theorem zgz(kZ:b)(h:HidB b→a:=by intro kZ;refine qXT ?_;refine DJk_0 ?_;refine exI ?_;exact kZ.out):a:=h ⟨kZ⟩
theorem dXJk_6(kZ:b)(h:HidB b→a:=by intro kZ;refine dX ?_;refine DJk_0 ?_;refine exI ?_;exact kZ.out):a:=h ⟨kZ⟩
theorem gX0Jk_7(kZ:b)(h:HidB b→a:=by intro kZ;refine gX0 ?_;refine DJk_0 ?_;refine exI ?_;exact kZ.out):a:=h ⟨kZ⟩
theorem zz2(kZ:b)(h:HidB b→a:=by intro kZ;refine sX ?_;refine DJk_0 ?_;exact kZ.out):a:=h ⟨kZ⟩
theorem z5b(kZ:b)(h:HidB b→a:=by intro kZ;refine qX ?_;refine DJk_0 ?_;exact kZ.out):a:=h ⟨kZ⟩
theorem zh0(kZ:b)(h:HidB b→a:=by intro kZ;refine qXT ?_;refine DJk_0 ?_;exact kZ.out):a:=h ⟨kZ⟩
end
open Go.Aut
def kY(t:Tab)(bl reps:List Nat)(b:Nat):List Nat:=keyBy (tblT t) (blkF bl) (rpF reps) reps.length b
def lY(t:Tab)(bl reps:List Nat)(b:Nat):List Nat:=z0k (kY t bl reps) (List.range b)
def cY(t:Tab)(bl reps:List Nat)(b:Nat):List Int:=(List.range 256).map fun x=>if x< b then((oC t bl reps ((tblT t).cell x):Nat):Int)else 0
theorem kY_eq{t:Tab}{bl reps:List Nat}{a b:Nat}:kY t bl reps a=kY t bl reps b↔∀ i,i< reps.length→blkF bl ((tblT t).δ (rpF reps i) ((tblT t).cell a))=blkF bl ((tblT t).δ (rpF reps i) ((tblT t).cell b)):=zva
theorem zpn{t:Tab}{bl reps:List Nat}{a b:Nat}(h:(tblT t).cell a=(tblT t).cell b):kY t bl reps a=kY t bl reps b:=kY_eq.2 fun i _=>by rw[h]
@[simp] theorem z2d(t:Tab)(bl reps:List Nat)(b:Nat):(cY t bl reps b).length=256:=by simp[cY]
theorem cY_zero(t:Tab)(bl reps:List Nat):List.replicate 256 (0:Int)=cY t bl reps 0:=by simp[cY,List.map_const']
theorem cY_set{t:Tab}{bl reps:List Nat}{b:Nat}(h:b< 256):(cY t bl reps b).set b ((oC t bl reps ((tblT t).cell b):Nat):Int)=cY t bl reps (b+1):=by
  refine z1j 0 (by simp) fun i hi=>?_
  have hi:i< 256:=by simpa using hi
  rw[z19 (by simpa using hi),cY,cY,z0j hi,z0j hi]
  by_cases e:b=i
  · subst e;rw[if_pos rfl,if_pos (Nat.lt_succ_self b)]
  · rw[if_neg e]
    by_cases h2:i< b
    · rw[if_pos h2,if_pos (by omega)]
    · rw[if_neg h2,if_neg (by omega)]
theorem lY_lt{t:Tab}{bl reps:List Nat}{b j:Nat}(hj:j< (lY t bl reps b).length):(lY t bl reps b).getD j 0< b:=List.mem_range.1 (z9k (key:=kY t bl reps) (getD_mem' hj))
theorem zz3(t:Tab)(bl reps:List Nat)(b:Nat):(lY t bl reps b).length=(mK t bl reps b).length:=z25 _
theorem lY_le(t:Tab)(bl reps:List Nat)(b:Nat):(lY t bl reps b).length≤b:=by
  rw[zz3];exact Nat.le_trans (z2x _) (by simp)
theorem lY_get(t:Tab)(bl reps:List Nat){b x:Nat}(h:x< (lY t bl reps b).length):(mK t bl reps b)[x]? =some (kY t bl reps ((lY t bl reps b).getD x 0)):=by
  have:mK t bl reps b=(lY t bl reps b).map (kY t bl reps):=(z6b _).symm
  rw[this,List.getElem?_map,at_of (d:=0) h];rfl
def yInv(t:Tab)(bl reps:List Nat)(x i id:Nat):Prop:=(id=(lY t bl reps x).length∧i≤(lY t bl reps x).length∧∀ j,j< i→kY t bl reps ((lY t bl reps x).getD j 0)≠kY t bl reps x)∨(id< (lY t bl reps x).length∧i≤(lY t bl reps x).length∧kY t bl reps ((lY t bl reps x).getD id 0)=kY t bl reps x)
theorem yInv_no{t:Tab}{bl reps:List Nat}{x i id:Nat}(h:yInv t bl reps x i id)(he:id=(lY t bl reps x).length)(hi:(lY t bl reps x).length≤i):kY t bl reps x∉mK t bl reps x:=by
  rcases h with⟨_,_,h⟩|⟨h,_⟩
  · intro hm
    obtain⟨j,hj⟩:=List.getElem?_of_mem hm
    have hl:j< (lY t bl reps x).length:=by rw[zz3];exact(List.getElem?_eq_some_iff.1 hj).1
    have h1:=lY_get t bl reps hl
    rw[hj]at h1;exact h j (by omega) (Option.some.inj h1).symm
  · omega
theorem yInv_yes{t:Tab}{bl reps:List Nat}{x i id:Nat}(h:yInv t bl reps x i id)(he:id< (lY t bl reps x).length):kY t bl reps x∈mK t bl reps x∧idxK (mK t bl reps x) (kY t bl reps x)=id:=by
  rcases h with⟨h,_⟩|⟨_,_,h⟩
  · omega
  · have hg:=lY_get t bl reps he
    rw[h]at hg;exact⟨List.mem_of_getElem? hg,zd2 (z31 _) hg⟩
theorem lY_no{t:Tab}{bl reps:List Nat}{x:Nat}(hx:x< 256)(h:kY t bl reps x∉mK t bl reps x):lY t bl reps (x+1)=lY t bl reps x++[x]∧oC t bl reps ((tblT t).cell x)=(lY t bl reps x).length:=by
  refine⟨?_,by rw[zz3];exact zvk hx h⟩;rw[lY,List.range_succ,z32];exact if_neg h
theorem lY_yes{t:Tab}{bl reps:List Nat}{x:Nat}(hx:x< 256)(h:kY t bl reps x∈mK t bl reps x):lY t bl reps (x+1)=lY t bl reps x∧oC t bl reps ((tblT t).cell x)=idxK (mK t bl reps x) (kY t bl reps x):=by
  refine⟨?_,(zlv (by omega) h).symm⟩;rw[lY,List.range_succ,z32];exact if_pos h
theorem zn7(t:Tab)(bl reps:List Nat):SV.low 0 (.tup [.c (.ds (lY t bl reps 256).length (.ints .i64 (natsI (lY t bl reps 256)))),.agg (.ints .i64 (cY t bl reps 256))]):=List.forall_mem_cons.2 ⟨trivial,List.forall_mem_cons.2 ⟨trivial,fun _ h=>by cases h⟩⟩
attribute [local irreducible] z0o z0y zl z08 z0v putB rt rzl cbK cY lY kY ofC
def zz4:QSpec:=fun vs K=>∃ (t:Tab) (bl reps l:List Nat),vs=[rtV t,.c (.ds bl.length (.ints .i64 (natsI bl))),.c (.ds reps.length (.ints .i64 (natsI reps)))]∧(t.fit∧BlkOut (tblT t) l bl reps t.next.length∧∀ s∈l,s< t.next.length)∧K (.tup [.c (.ds (lY t bl reps 256).length (.ints .i64 (natsI (lY t bl reps 256)))),.agg (.ints .i64 (cY t bl reps 256))])
theorem zz5 : z1x Tryd.prog gl 149 zz4:=by
 refine z1c (Γ:=g0) (N:=106) Tryd.func149 rfl rfl fun vs K h=>?_;obtain⟨t,bl,reps,l,rfl,⟨ht,ho,hlt⟩,h⟩:=h;refine⟨_,h,zn7 t bl reps,by simp,fun w I=>?_⟩
 have ht0:=ht
 obtain⟨hok,hlen,hnc⟩:=ht0
 have hcl:=hok.clen
 have hrl:reps.length≤65535:=Nat.le_trans (z9u ho hlt) hlen
 refine srR g0_ok fun _ K2=>?_
 iterate 3 refine z3e ?_
 refine s_n K2 ?_;refine leW [0] (fun _=>1) [(1,.c (.ds bl.length (.ints .i64 (natsI bl)))),(2,.c (.ds reps.length (.ints .i64 (natsI reps)))),(3,.c (.dp (rtC t) 0)),(7,.c (.ptr 0 0))] [(0,.own 85 (.ints .i64 (List.replicate 256 0)) 256)] 1 [1] uJk_0 uJk_0 uJk_0 uJk_0 ?_;refine srR g0_ok fun _ K4=>?_
 iterate 2 refine z3e ?_
 refine s_n K4 ?_;refine srR g0_ok fun _ K6=>?_
 iterate 2 refine z3e ?_
 refine zpm ?_;refine s_n K6 ?_;refine seq_k fun _ K7=>?_;refine srR g0_ok fun _ K9=>?_;refine z3e ?_;refine s_n K9 ?_;refine z03 ?_;refine z0m (α:=Nat×Nat) (fun q=>[(1,.c (.ds bl.length (.ints .i64 (natsI bl)))),(2,.c (.ds reps.length (.ints .i64 (natsI reps)))),(3,.c (.dp (rtC t) 0)),(7,.c (.ptr 0 0)),(8,.c (.slice 1 0 (lY t bl reps q.1).length q.2)),(9,.c (.ptr 2 0)),(10,.c (.int .i64 (q.1:Nat)))]) (fun q=>[(0,.own 85 (.ints .i64 (List.replicate 256 0)) 256),(1,.own 3 (.ints .i64 (natsI (lY t bl reps q.1))) q.2),(2,.own 85 (.ints .i64 (cY t bl reps q.1)) 256)]) 3 (fun q=>q.1≤256∧(lY t bl reps q.1).length≤q.2) (fun q=>256 - q.1) ?_ ?_
 ·have hz0:lY t bl reps 0=[]:=by unfold lY;rfl
  have hX3:([]:List Int)=natsI (lY t bl reps 0):=by rw[hz0];rfl
  have hXL:0=(lY t bl reps 0).length:=by rw[hz0];rfl
  refine dnS [] id (0,0) ⟨Nat.zero_le _,Nat.le_of_eq hXL.symm⟩ [0,1,2] uJk_0 uJk_0 uJk_0 uJk_0
 ·intro q hq
  have hly:=lY_le t bl reps q.1
  refine seq_k fun _ K10=>?_;refine srR g0_ok fun _ K12=>?_
  iterate 2 refine z3e ?_
  refine s_n K12 ?_;refine z04 (b:=_) rfl (fun h_t19=>?_) (fun h_t19=>?_)
  ·try simp only[dQ,reduceIte]at h_t19
   refine z09 ?_;apply K10;refine seq_k fun _ K13=>?_;refine z03 ?_;refine srR g0_ok fun _ K15=>?_
   iterate 3 refine z3e ?_
   refine s_n K15 ?_;refine z27 (α:=Nat×Nat) (fun p=>[(1,.c (.ds bl.length (.ints .i64 (natsI bl)))),(2,.c (.ds reps.length (.ints .i64 (natsI reps)))),(3,.c (.dp (rtC t) 0)),(7,.c (.ptr 0 0)),(8,.c (.slice 1 0 (lY t bl reps q.1).length q.2)),(9,.c (.ptr 2 0)),(10,.c (.int .i64 (q.1:Nat))),(11,.c (.int .i64 (p.2:Nat))),(12,.c (.int .i64 (p.1:Nat)))]) (fun p=>[(0,.own 85 (.ints .i64 (List.replicate 256 0)) 256),(1,.own 3 (.ints .i64 (natsI (lY t bl reps q.1))) q.2),(2,.own 85 (.ints .i64 (cY t bl reps q.1)) 256)]) 3 (fun p=>yInv t bl reps q.1 p.1 p.2∧(p.2=(lY t bl reps q.1).length→(lY t bl reps q.1).length≤p.1)) ?_ ?_
   ·refine srR g0_ok fun _ K17=>?_
    refine z3e ?_;refine s_n K17 ?_;refine z03 ?_;refine z0m (α:=Nat×Nat) (fun p=>[(1,.c (.ds bl.length (.ints .i64 (natsI bl)))),(2,.c (.ds reps.length (.ints .i64 (natsI reps)))),(3,.c (.dp (rtC t) 0)),(7,.c (.ptr 0 0)),(8,.c (.slice 1 0 (lY t bl reps q.1).length q.2)),(9,.c (.ptr 2 0)),(10,.c (.int .i64 (q.1:Nat))),(11,.c (.int .i64 (p.2:Nat))),(12,.c (.int .i64 (p.1:Nat)))]) (fun p=>[(0,.own 85 (.ints .i64 (List.replicate 256 0)) 256),(1,.own 3 (.ints .i64 (natsI (lY t bl reps q.1))) q.2),(2,.own 85 (.ints .i64 (cY t bl reps q.1)) 256)]) 3 (fun p=>yInv t bl reps q.1 p.1 p.2) (fun p=>(lY t bl reps q.1).length - p.1) ?_ ?_
    ·refine dnS [] id (0,(lY t bl reps q.1).length) (.inl ⟨rfl,Nat.zero_le _,fun j hj=>absurd hj (Nat.not_lt_zero j)⟩) [0,1,2] uJk_0 uJk_0 uJk_0 uJk_0
    ·intro p hp
     refine seq_k fun _ K18=>?_;refine srR g0_ok fun _ K20=>?_
     iterate 4 refine z3e ?_
     refine zz2 ?_;refine exB (fun hb4=>?_) (fun hb4=>?_)
     ·try simp only[dQ,reduceIte]at hb4
      iterate 4 refine sXTJk_3 ?_
      refine z3e ?_;refine s_n K20 ?_;refine z04 (b:=_) rfl (fun h_t33=>?_) (fun h_t33=>?_)
      ·try simp only[dQ,reduceIte]at h_t33
       refine z09 ?_;apply K18;refine seq_k fun _ K21=>?_;refine z03 ?_
       have hpi:p.1< (lY t bl reps q.1).length:=by omega
       have hpl:=lY_lt hpi
       have hq256:q.1< 256:=by omega
       have hp256:((lY t bl reps q.1).getD p.1 0)< 256:=by omega
       have hcq:=cellN hok hq256
       have hcp:=cellN hok hp256
       refine srR g0_ok fun _ K23=>?_;refine z3e ?_;refine s_n K23 ?_;refine z27 (α:=Bool) (fun y=>[(1,.c (.ds bl.length (.ints .i64 (natsI bl)))),(2,.c (.ds reps.length (.ints .i64 (natsI reps)))),(3,.c (.dp (rtC t) 0)),(7,.c (.ptr 0 0)),(8,.c (.slice 1 0 (lY t bl reps q.1).length q.2)),(9,.c (.ptr 2 0)),(10,.c (.int .i64 (q.1:Nat))),(11,.c (.int .i64 (p.2:Nat))),(12,.c (.int .i64 (p.1:Nat))),(13,.c (.bool y))]) (fun y=>[(0,.own 85 (.ints .i64 (List.replicate 256 0)) 256),(1,.own 3 (.ints .i64 (natsI (lY t bl reps q.1))) q.2),(2,.own 85 (.ints .i64 (cY t bl reps q.1)) 256)]) 3 (fun y=>y=decide (kY t bl reps q.1=kY t bl reps ((lY t bl reps q.1).getD p.1 0))) ?_ ?_
       ·refine srR g0_ok fun _ K25=>?_
        refine z3e ?_;refine s_n K25 ?_;refine z03 ?_;refine z0m (α:=Nat×Bool) (fun k=>[(1,.c (.ds bl.length (.ints .i64 (natsI bl)))),(2,.c (.ds reps.length (.ints .i64 (natsI reps)))),(3,.c (.dp (rtC t) 0)),(7,.c (.ptr 0 0)),(8,.c (.slice 1 0 (lY t bl reps q.1).length q.2)),(9,.c (.ptr 2 0)),(10,.c (.int .i64 (q.1:Nat))),(11,.c (.int .i64 (p.2:Nat))),(12,.c (.int .i64 (p.1:Nat))),(13,.c (.bool k.2)),(14,.c (.int .i64 (k.1:Nat)))]) (fun k=>[(0,.own 85 (.ints .i64 (List.replicate 256 0)) 256),(1,.own 3 (.ints .i64 (natsI (lY t bl reps q.1))) q.2),(2,.own 85 (.ints .i64 (cY t bl reps q.1)) 256)]) 3 (fun k=>k.1≤reps.length∧(k.2=true→∀ x,x< k.1→blkF bl ((tblT t).δ (rpF reps x) ((tblT t).cell q.1))=blkF bl ((tblT t).δ (rpF reps x) ((tblT t).cell ((lY t bl reps q.1).getD p.1 0))))∧(k.2=false→¬ kY t bl reps q.1=kY t bl reps ((lY t bl reps q.1).getD p.1 0))) (fun k=>reps.length - k.1) ?_ ?_
        ·refine dnS [] id (0,true) ⟨Nat.zero_le _,fun _ x hx=>absurd hx (Nat.not_lt_zero x),fun e=>by cases e⟩ [0,1,2] uJk_0 uJk_0 uJk_0 uJk_0
        ·intro k hk
         obtain⟨hk1,hk2,hk3⟩:=hk;refine seq_k fun _ K26=>?_;refine srQ g0_ok kR fun _ K28=>?_
         iterate 4 refine z4z ?_
         refine z5b ?_;refine exB (fun hb4=>?_) (fun hb4=>?_)
         ·try simp only[dQ,reduceIte]at hb4
          refine zgz ?_;refine z4z ?_;refine z5b ?_;refine exB (fun hb7=>?_) (fun hb7=>?_)
          ·try simp only[dQ,reduceIte]at hb7
           iterate 3 refine zgz ?_
           refine zh0 ?_;refine exA (.c (.int .i64 (((tblT t).cell q.1:Nat):Int))) (as_c ((zav hcl (by first|omega|(simp;done)) hq256).trans (congrArg (Cell.int IntKind.i64) (cellN hok hq256).2))) ?_
           iterate 3 refine zgz ?_
           refine zh0 ?_;refine exA (.c (.int .i64 (((((lY t bl reps q.1).getD p.1 0):Nat):Int)))) (as_i ((congrArg (fun i=>(natsI (lY t bl reps q.1)).getD i 0) (by omega)).trans z0q)) ?_
           iterate 2 refine zgz ?_
           refine zh0 ?_;refine exA (.c (.int .i64 (((tblT t).cell ((lY t bl reps q.1).getD p.1 0):Nat):Int))) (as_c ((zav hcl (by first|omega|(simp;done)) hp256).trans (congrArg (Cell.int IntKind.i64) (cellN hok hp256).2))) ?_;refine zgz ?_;refine z4z ?_;refine q_n K28 ?_;refine z04 (b:=_) rfl (fun h_t56=>?_) (fun h_t56=>?_)
           ·try simp only[dQ,reduceIte]at h_t56
            refine z09 ?_;apply K26;refine seq_k fun _ K29=>?_;refine z03 ?_
            have hkr:k.1< reps.length:=by omega
            have hpn:=hlt _ (ho.rep k.1 hkr).1
            have hpn:(rpF reps k.1)< t.next.length:=hpn
            have hrw:=z8z hok hpn
            have hxq:=nextN hok hpn hcq.1
            have hxp:=nextN hok hpn hcp.1
            have hbl:=ho.len
            refine srQ g0_ok kR fun _ K31=>?_;refine z4z ?_;refine z5b ?_;refine exA (.c (.ds t.next.length (.cells (rowsC t.next)))) (as_c (rt_nx hcl)) ?_
            iterate 3 refine z4z ?_
            refine z5b ?_;refine exA (.c (.int .i64 ((((rpF reps k.1):Nat):Int)))) (as_i ((congrArg (fun i=>(natsI reps).getD i 0) (by omega)).trans z0q)) ?_;refine z4z ?_;refine z5b ?_;refine exA (.c (.ds (t.next.getD (rpF reps k.1) []).length (.ints .i64 (t.next.getD (rpF reps k.1) [])))) (as_c (z6e ⟨hpn,by omega⟩)) ?_;refine z4z ?_;refine q_n K31 ?_;refine zuj g0_ok kR fun _ K32=>?_
            iterate 5 refine z4z ?_
            refine z5b ?_;refine exA (.c (.int .i64 (((tblT t).cell q.1:Nat):Int))) (as_c ((zav hcl (by first|omega|(simp;done)) hq256).trans (congrArg (Cell.int IntKind.i64) (cellN hok hq256).2))) ?_;refine z4z ?_;refine z5b ?_;refine exA (.c (.int .i64 ((((tblT t).δ (rpF reps k.1) ((tblT t).cell q.1):Nat):Int)))) (as_i ((congrArg (fun i=>(t.next.getD (rpF reps k.1) []).getD i 0) (by omega)).trans hxq.2)) ?_;refine z4z ?_;refine z5b ?_;refine exA (.c (.int .i64 (((blkF bl ((tblT t).δ (rpF reps k.1) ((tblT t).cell q.1)):Nat):Int)))) (as_i ((congrArg (fun i=>(natsI bl).getD i 0) (by omega)).trans z0q)) ?_
            iterate 5 refine z4z ?_
            refine z5b ?_;refine exA (.c (.int .i64 (((((lY t bl reps q.1).getD p.1 0):Nat):Int)))) (as_i ((congrArg (fun i=>(natsI (lY t bl reps q.1)).getD i 0) (by omega)).trans z0q)) ?_
            iterate 2 refine z4z ?_
            refine z5b ?_;refine exA (.c (.int .i64 (((tblT t).cell ((lY t bl reps q.1).getD p.1 0):Nat):Int))) (as_c ((zav hcl (by first|omega|(simp;done)) hp256).trans (congrArg (Cell.int IntKind.i64) (cellN hok hp256).2))) ?_;refine z4z ?_;refine z5b ?_;refine exA (.c (.int .i64 ((((tblT t).δ (rpF reps k.1) ((tblT t).cell ((lY t bl reps q.1).getD p.1 0)):Nat):Int)))) (as_i ((congrArg (fun i=>(t.next.getD (rpF reps k.1) []).getD i 0) (by omega)).trans hxp.2)) ?_;refine z4z ?_;refine z5b ?_;refine exA (.c (.int .i64 (((blkF bl ((tblT t).δ (rpF reps k.1) ((tblT t).cell ((lY t bl reps q.1).getD p.1 0))):Nat):Int)))) (as_i ((congrArg (fun i=>(natsI bl).getD i 0) (by omega)).trans z0q)) ?_
            iterate 2 refine z4z ?_
            refine q_n K32 ?_;refine z05 ?_;apply K29;refine z01 g0_ok fun _ K33=>?_
            iterate 3 refine z3e ?_
            refine s_n K33 ?_
            have hsame:k.2=true:=by first|assumption|(simp_all;done)
            have hd9:decide (((blkF bl ((tblT t).δ (rpF reps k.1) ((tblT t).cell q.1)):Nat):Int)=((blkF bl ((tblT t).δ (rpF reps k.1) ((tblT t).cell ((lY t bl reps q.1).getD p.1 0))):Nat):Int))=decide (blkF bl ((tblT t).δ (rpF reps k.1) ((tblT t).cell q.1))=blkF bl ((tblT t).δ (rpF reps k.1) ((tblT t).cell ((lY t bl reps q.1).getD p.1 0)))):=by rw[decide_eq_decide];omega
            refine dnS [] id (k.1+1,decide (blkF bl ((tblT t).δ (rpF reps k.1) ((tblT t).cell q.1))=blkF bl ((tblT t).δ (rpF reps k.1) ((tblT t).cell ((lY t bl reps q.1).getD p.1 0))))) ⟨⟨by show k.1+1≤_;omega,fun e x hx=>(Nat.lt_succ_iff_lt_or_eq.1 hx).elim (hk2 hsame x) fun e2=>by rw[e2];exact of_decide_eq_true e,fun e hkk=>of_decide_eq_false e (kY_eq.1 hkk k.1 hkr)⟩,by show _ - (k.1+1)< _;omega⟩ [0,1,2] ?_ ?_ ?_ ?_
            ·exact uJk_0
            ·exact uJk_0
            ·exact uJk_0
            ·exact uJk_0
           ·try simp only[dQ,reduceIte]at h_t56
            refine z0i ?_;refine z00 ?_;refine z00 ?_;refine z0f ?_
            have hfin:k.2=decide (kY t bl reps q.1=kY t bl reps ((lY t bl reps q.1).getD p.1 0)):=by
             cases hq9:k.2
             ·exact(decide_eq_false (hk3 hq9)).symm
             ·refine(decide_eq_true ?_).symm
              first|exact kY_eq.2 fun x hx=>hk2 hq9 x (by omega)|exact zpn (by omega)|(simp_all;done)
            refine dnS [] id k.2 hfin [0,1,2] uJk_0 uJk_0 uJk_0 uJk_0
          ·try simp only[dQ,reduceIte]at hb7
           iterate 12 refine qN ?_
           refine z4z ?_;refine q_n K28 ?_;refine z04 (b:=_) rfl (fun h_t56=>?_) (fun _=>?_)
           ·exfalso;simp at h_t56
           refine z0i ?_;refine z00 ?_;refine z00 ?_;refine z0f ?_
           have hfin:k.2=decide (kY t bl reps q.1=kY t bl reps ((lY t bl reps q.1).getD p.1 0)):=by
            cases hq9:k.2
            ·exact(decide_eq_false (hk3 hq9)).symm
            ·refine(decide_eq_true ?_).symm
             first|exact kY_eq.2 fun x hx=>hk2 hq9 x (by omega)|exact zpn (by omega)|(simp_all;done)
           refine dnS [] id k.2 hfin [0,1,2] uJk_0 uJk_0 uJk_0 uJk_0
         ·try simp only[dQ,reduceIte]at hb4
          refine qN ?_;refine z4z ?_;refine z5b ?_;refine exB (fun hb7=>?_) (fun hb7=>?_)
          ·exfalso;simp at hb7
          iterate 12 refine qN ?_
          refine z4z ?_;refine q_n K28 ?_;refine z04 (b:=_) rfl (fun h_t56=>?_) (fun _=>?_)
          ·exfalso;simp at h_t56
          refine z0i ?_;refine z00 ?_;refine z00 ?_;refine z0f ?_
          have hfin:k.2=decide (kY t bl reps q.1=kY t bl reps ((lY t bl reps q.1).getD p.1 0)):=by
           cases hq9:k.2
           ·exact(decide_eq_false (hk3 hq9)).symm
           ·refine(decide_eq_true ?_).symm
            first|exact kY_eq.2 fun x hx=>hk2 hq9 x (by omega)|exact zpn (by omega)|(simp_all;done)
          refine dnS [] id k.2 hfin [0,1,2] uJk_0 uJk_0 uJk_0 uJk_0
       ·intro y hy
        refine srR g0_ok fun _ K35=>?_;refine z3e ?_;refine s_n K35 ?_;refine z04 (b:=_) rfl (fun h_t91=>?_) (fun h_t91=>?_)
        ·refine z01 g0_ok fun _ K36=>?_
         iterate 2 refine z3e ?_
         refine s_n K36 ?_;refine z05 ?_;apply K21;refine z01 g0_ok fun _ K37=>?_
         iterate 3 refine z3e ?_
         refine s_n K37 ?_
         have hhit:kY t bl reps ((lY t bl reps q.1).getD p.1 0)=kY t bl reps q.1:=by
          rw[hy]at h_t91;exact(of_decide_eq_true h_t91).symm
         refine dnS [] id (p.1+1,p.1) ⟨.inr ⟨hpi,by omega,hhit⟩,by show _ - (p.1+1)< _;omega⟩ [0,1,2] ?_ ?_ ?_ ?_
         ·exact uJk_0
         ·exact uJk_0
         ·exact uJk_0
         ·exact uJk_0
        ·refine z09 ?_;refine z05 ?_;apply K21;refine z01 g0_ok fun _ K38=>?_
         iterate 3 refine z3e ?_
         refine s_n K38 ?_
         have hmiss:yInv t bl reps q.1 (p.1+1) p.2:=by
          rw[hy]at h_t91
          have h91:=of_decide_eq_false h_t91
          rcases hp with⟨e,hi,hno⟩|⟨e,_⟩
          ·refine .inl ⟨e,by omega,fun j hj=>?_⟩
           rcases Nat.lt_succ_iff_lt_or_eq.1 hj with h1|h1
           ·exact hno j h1
           ·subst h1
            exact fun hk=>h91 hk.symm
          ·omega
         refine dnS [] id (p.1+1,p.2) ⟨hmiss,by show _ - (p.1+1)< _;omega⟩ [0,1,2] ?_ ?_ ?_ ?_
         ·exact uJk_0
         ·exact uJk_0
         ·exact uJk_0
         ·exact uJk_0
      ·try simp only[dQ,reduceIte]at h_t33
       refine z0i ?_;refine z00 ?_;refine z00 ?_;refine z0f ?_;refine dnS [] id p ⟨hp,fun e=>by omega⟩ [0,1,2] uJk_0 uJk_0 uJk_0 uJk_0
     ·try simp only[dQ,reduceIte]at hb4
      iterate 4 refine sN ?_
      refine z3e ?_;refine s_n K20 ?_;refine z04 (b:=_) rfl (fun h_t33=>?_) (fun _=>?_)
      ·exfalso;simp at h_t33
      refine z0i ?_;refine z00 ?_;refine z00 ?_;refine z0f ?_;refine dnS [] id p ⟨hp,fun e=>by omega⟩ [0,1,2] uJk_0 uJk_0 uJk_0 uJk_0
   ·intro p hp0
    obtain⟨hp,hpe⟩:=hp0;refine seq_k fun _ K39=>?_
    have hq256:q.1< 256:=by omega
    refine srR g0_ok fun _ K41=>?_
    iterate 4 refine z3e ?_
    refine s_n K41 ?_;refine z04 (b:=_) rfl (fun h_t96=>?_) (fun h_t96=>?_)
    ·try simp only[dQ,reduceIte]at h_t96
     refine z01 g0_ok fun _ K42=>?_
     iterate 3 refine z3e ?_
     refine zz2 ?_;intro cap3 hcap3;refine exI ?_;refine z3e ?_;refine s_n K42 ?_;apply K39
     have hset:(0+((q.1:Nat):Int).toNat*1)=q.1:=by omega
     refine z01 g0_ok fun _ K43=>?_
     iterate 3 refine z3e ?_
     refine zpm ?_;refine s_n K43 ?_;refine z05 ?_;apply K13;refine z01 g0_ok fun _ K44=>?_
     iterate 3 refine z3e ?_
     refine s_n K44 ?_
     have he9:p.2=(lY t bl reps q.1).length:=by omega
     have hno:=yInv_no hp he9 (hpe he9)
     obtain⟨hR,hC⟩:=lY_no hq256 hno
     have hX1:(cY t bl reps q.1).set (0+((q.1:Nat):Int).toNat*1) ((p.2:Nat):Int)=cY t bl reps (q.1+1):=by rw[hset,show p.2=oC t bl reps ((tblT t).cell q.1) by rw[hC];omega];exact cY_set hq256
     have hX2:natsI (lY t bl reps q.1)++([]++[((q.1:Nat):Int)])=natsI (lY t bl reps (q.1+1)):=by rw[hR,List.nil_append];exact z39 _ _
     have hXL:(lY t bl reps q.1).length+1=(lY t bl reps (q.1+1)).length:=by rw[hR,List.length_append];rfl
     refine dnS [] (fun i=>if i=1 then 4 else i) (q.1+1,cap3) ⟨⟨by show q.1+1≤256;omega,by show _≤cap3;rw[←hXL];omega⟩,by show 256 - (q.1+1)< _;omega⟩ [0,4,2] ?_ ?_ ?_ ?_
     ·exact uJk_0
     ·exact uJk_0
     ·exact uJk_0
     ·exact uJk_0
    ·try simp only[dQ,reduceIte]at h_t96
     refine z09 ?_;apply K39
     have hset:(0+((q.1:Nat):Int).toNat*1)=q.1:=by omega
     refine z01 g0_ok fun _ K45=>?_
     iterate 3 refine z3e ?_
     refine zpm ?_;refine s_n K45 ?_;refine z05 ?_;apply K13;refine z01 g0_ok fun _ K46=>?_
     iterate 3 refine z3e ?_
     refine s_n K46 ?_
     have hlt9:p.2< (lY t bl reps q.1).length:=by rcases hp with⟨e,_⟩|⟨e,_⟩<;>omega
     obtain⟨hyes,hid⟩:=yInv_yes hp hlt9;obtain⟨hR,hC⟩:=lY_yes hq256 hyes
     have hX1:(cY t bl reps q.1).set (0+((q.1:Nat):Int).toNat*1) ((p.2:Nat):Int)=cY t bl reps (q.1+1):=by rw[hset,show p.2=oC t bl reps ((tblT t).cell q.1) by rw[hC,hid]];exact cY_set hq256
     have hX2:natsI (lY t bl reps q.1)=natsI (lY t bl reps (q.1+1)):=by rw[hR]
     have hXL:(lY t bl reps q.1).length=(lY t bl reps (q.1+1)).length:=by rw[hR]
     refine dnS [] id (q.1+1,q.2) ⟨⟨by show q.1+1≤256;omega,by show _≤q.2;rw[←hXL];omega⟩,by show 256 - (q.1+1)< _;omega⟩ [0,1,2] ?_ ?_ ?_ ?_
     ·exact uJk_0
     ·exact uJk_0
     ·exact uJk_0
     ·exact uJk_0
  ·try simp only[dQ,reduceIte]at h_t19
   refine z0i ?_;refine z00 ?_;refine z00 ?_;refine z0f ?_;apply K7;refine srD g0_ok [(0,true),(1,true),(2,true),(3,false)] rfl kR kR fun _ K48=>?_
   iterate 3 refine dXJk_6 ?_
   refine gX0Jk_7 ?_;refine d_n K48 ?_
   obtain hq9:q.1=256:=by omega
   rw[hq9];refine z0e (z0g g0_ok (fun _ _ h=>h) (zn7 t bl reps) [1] [.tmp 6,.cell 7 85] rfl ?_)
   generalize lY t bl reps 256=J9
   repeat first|refine aI (by first|exact trivial|(show 0+256*1≤(cY _ _ _ _).length;rw[z2d];decide)|(show(0:Nat)< 256;decide)|omega|exact vRh|(simp only[z10,z0n];omega)|(rw[z0n];omega)|(simp only[z10,z2d];omega)|exact⟨by omega,by omega,trivial,trivial⟩|(show(List.replicate 256 (0:Int)).length=(cY _ _ _ _).length;rw[z2d,List.length_replicate])|(show 256=(cY _ _ _ _).length;rw[z2d])|(show 0+(cY _ _ _ _).length≤(List.replicate 256 (0:Int)).length;rw[z2d,List.length_replicate];decide)|(show 0+256*1≤(cY _ _ _ _).length;rw[z2d];decide)|(show(cY _ _ _ _).length=256*1;rw[z2d])) ?_|refine z0a (by show(cY _ _ _ _).length=256*1;rw[z2d]) ?_
   all_goals exact uJk_0


end Go.Proofs.YtppmnaoollkboaaDoor

namespace Go.Proofs.YtppmnaoollkboaaDoor
set_option linter.all false
open Go.Ab Go.RowKit

section
variable {a b:Prop}
theorem qJl0(h:a:=by first|exact vcA|(simp[-List.reduceReplicate]<;>omega)|exact vRh|exact vRl|exact vRc|(simp only[z10,z0n];omega)|exact⟨by omega,by omega,trivial,trivial⟩|exact⟨by omega,by omega,trivial⟩|(show _< (rt _ _ _).length;rw[z02 (z1b _ _)];omega)|(show _< ((rt _ _ _).set _ _).length;rw[List.length_set,z02 (z1b _ _)];omega)|(rw[zax (by omega)];done)|(simp only[z10];rw[zax (by omega)];omega)|exact vcB):a:=h
theorem uJl_0(h:a:=by
    repeat' (first|exact pJ|exact pT|exact trivial|refine aI ?_ ?_|exact cC0|refine low_cons' ?_ ?_|exact cC1|fail)
    all_goals first|omega|(show(0:Nat)< (rt _ _ _).length;rw[z02 (z1b _ _)];decide)|(show Cont.low _ (Cont.cells (List.replicate 256 _++_));exact z5a)|exact hXL|(show(0:Nat)< (rt _ _ _).length;rw[z02 hcl];decide)|exact(z5c t t.next.length).symm|exact zn4 (by show(2:Nat)< _;decide) trivial|(show 0+_*1≤(lnP _ _ _).length;rw[zax (Nat.le_refl _)];omega)|exact(if_pos ⟨rfl,by show(lnP _ _ _).length=_*1;rw[zax (Nat.le_refl _)];omega⟩).symm|(show(_:List Int)=_;first|assumption|rfl)|(show Cont.to _ _ _ _ _ _;rw[leC_zero t];exact z4u trivial ⟨rfl,rfl⟩)|(show Cont.to _ _ _ _ _ _;exact zyt (z1b _ _) hset.1 hset.2 trivial ⟨rfl,rfl⟩)|(show allTo _ _ _;first|exact z26 _|(rw[hXR];exact z26 _)|(rw[hXR];trivial))|(show allTo _ _ _;(try rw[zpp (z1b _ _) rfl]);refine z4u ?_ ?_<;>(repeat' (first|exact trivial|refine aI ?_ ?_|rfl|omega|decide|exact z8w _|(simp;done)|rw[if_pos ⟨rfl,by simp⟩])))|(simp[-List.reduceReplicate];done)|(show(0:Nat)< (z08 _ _ _ _).length;rw[z06 hcl];decide)|(simp[-List.reduceReplicate];done)|(simp[-List.reduceReplicate]<;>omega)|skip):a:=h
theorem DJl_0(kZ:b)(h:HidB b→a:=by intro kZ;(repeat first|refine aI qJl0 ?_|refine z0a qJl0 ?_|refine z07 qJl0 ?_|refine z0l qJl0 ?_|refine z0c ?_);exact kZ.out):a:=h ⟨kZ⟩
theorem z2v(kZ:b)(h:HidB b→a:=by intro kZ;refine sX ?_;refine DJl_0 ?_;refine exI ?_;exact kZ.out):a:=h ⟨kZ⟩
theorem zh1(kZ:b)(h:HidB b→a:=by intro kZ;refine sX0 ?_;refine DJl_0 ?_;refine exI ?_;exact kZ.out):a:=h ⟨kZ⟩
theorem zz6(kZ:b)(h:HidB b→a:=by intro kZ;refine qX ?_;refine DJl_0 ?_;refine exI ?_;exact kZ.out):a:=h ⟨kZ⟩
theorem zpo(kZ:b)(h:HidB b→a:=by intro kZ;refine qXT ?_;refine DJl_0 ?_;refine exI ?_;exact kZ.out):a:=h ⟨kZ⟩
theorem zn8(kZ:b)(h:HidB b→a:=by intro kZ;refine dX ?_;refine DJl_0 ?_;refine exI ?_;exact kZ.out):a:=h ⟨kZ⟩
theorem gXJl_6(kZ:b)(h:HidB b→a:=by intro kZ;refine gX ?_;refine DJl_0 ?_;refine exI ?_;exact kZ.out):a:=h ⟨kZ⟩
theorem zaw(kZ:b)(h:HidB b→a:=by intro kZ;refine sX ?_;refine DJl_0 ?_;exact kZ.out):a:=h ⟨kZ⟩
theorem qXEJl_8(kZ:b)(h:HidB b→a:=by intro kZ;refine qX ?_;refine DJl_0 ?_;exact kZ.out):a:=h ⟨kZ⟩
theorem zs0(kZ:b)(h:HidB b→a:=by intro kZ;refine qXT ?_;refine DJl_0 ?_;exact kZ.out):a:=h ⟨kZ⟩
theorem zeq(kZ:b)(h:HidB b→a:=by intro kZ;refine dX ?_;refine DJl_0 ?_;exact kZ.out):a:=h ⟨kZ⟩
theorem gXEJl_11(kZ:b)(h:HidB b→a:=by intro kZ;refine gX ?_;refine DJl_0 ?_;exact kZ.out):a:=h ⟨kZ⟩
end
open Go.Aut
def cK(t:Tab)(b:Nat):List Nat:=keysO (tblT t).cell (List.range b)
def leC(t:Tab)(b:Nat):List Int:=(List.range 256).map fun x=>if x< b then((idK (tblT t).cell allB x:Nat):Int)else 0
@[simp] theorem z1b(t:Tab)(b:Nat):(leC t b).length=256:=by simp[leC]
theorem leC_zero(t:Tab):z0y=leC t 0:=by simp[leC,z0y,List.map_const']
theorem zz7{t:Tab}{b:Nat}(h:b< 256):(leC t b).set b ((idK (tblT t).cell allB b:Nat):Int)=leC t (b+1):=by
  refine z1j 0 (by simp) fun i hi=>?_
  have hi:i< 256:=by simpa using hi
  rw[z19 (by simpa using hi),leC,leC,z0j hi,z0j hi]
  by_cases e:b=i
  · subst e;rw[if_pos rfl,if_pos (Nat.lt_succ_self b)]
  · rw[if_neg e]
    by_cases h2:i< b
    · rw[if_pos h2,if_pos (by omega)]
    · rw[if_neg h2,if_neg (by omega)]
theorem za0{b:Nat}(h:b≤256):allB.take b=List.range b:=by rw[allB,List.take_range,Nat.min_eq_left h]
def cKa(t:Tab):List Nat:=keysO (tblT t).cell allB
theorem cK256(t:Tab):cK t 256=cKa t:=by unfold cK cKa allB;rfl
attribute [local irreducible] allB
theorem cK_le(t:Tab)(b:Nat):(cK t b).length≤b:=Nat.le_trans (z2x _) (by simp)
theorem cK_lt{t:Tab}(h:t.ok){b:Nat}(hb:b≤256):∀ c∈cK t b,c< t.nc:=fun c hc=>by
  obtain⟨x,hx,rfl⟩:=(z1z _ _).1 hc;exact(cellN h (by have:=List.mem_range.1 hx;omega)).1
theorem cK_no{t:Tab}{b:Nat}(hb:b< 256)(h:(tblT t).cell b∉cK t b):cK t (b+1)=cK t b++[(tblT t).cell b]∧idK (tblT t).cell allB b=(cK t b).length:=by
  have e:cK t (b+1)=cK t b++[(tblT t).cell b]:=by rw[cK,List.range_succ,z38,addK];exact if_neg h
  refine⟨e,?_⟩
  have:=z9o (key:=(tblT t).cell) (l:=allB) (j:=b+1) (s:=b) (by rw[za0 (by omega)];exact List.mem_range.2 (Nat.lt_succ_self b))
  rw[za0 (by omega)]at this;rw[←this]
  show idxK (cK t (b+1)) _=_
  rw[e,z87 h]
theorem cK_yes{t:Tab}{b:Nat}(hb:b< 256)(h:(tblT t).cell b∈cK t b):cK t (b+1)=cK t b∧idK (tblT t).cell allB b=idxK (cK t b) ((tblT t).cell b):=by
  have e:cK t (b+1)=cK t b:=by rw[cK,List.range_succ,z38,addK];exact if_pos h
  refine⟨e,?_⟩
  have:=z9o (key:=(tblT t).cell) (l:=allB) (j:=b+1) (s:=b) (by rw[za0 (by omega)];exact List.mem_range.2 (Nat.lt_succ_self b))
  rw[za0 (by omega)]at this;rw[←this];exact congrArg (fun o=>idxK o _) e
def lnP(t:Tab)(s k:Nat):List Int:=((cKa t).take k).map fun c=>(t.next.getD s []).getD c 0
def lnR(t:Tab)(s:Nat):List (List Int):=(List.range s).map fun i=>lnP t i (cKa t).length
def leanT(t:Tab):Tab:={ cell:=leC t 256,nc:=(cKa t).length,next:=lnR t t.next.length,acc:=t.acc }
theorem zax{t:Tab}{s k:Nat}(h:k≤(cKa t).length):(lnP t s k).length=k:=by rw[lnP,List.length_map,List.length_take];omega
theorem lnP_succ{t:Tab}{s k:Nat}(h:k< (cKa t).length){v:Int}(hv:v=(t.next.getD s []).getD ((cKa t).getD k 0) 0):lnP t s k++([]++[v])=lnP t s (k+1):=by
  rw[lnP,lnP,List.take_add_one,at_of (d:=0) h,List.map_append,hv];rfl
@[simp] theorem z5c(t:Tab)(s:Nat):(lnR t s).length=s:=by simp[lnR]
theorem lnR_succ(t:Tab)(s:Nat):lnR t s++[lnP t s (cKa t).length]=lnR t (s+1):=by simp[lnR,List.range_succ]
theorem zn9{t:Tab}{b:Nat}(hb:b< 256):(tblT (leanT t)).cell b=idK (tblT t).cell allB b:=by
  show((leC t 256).getD b 0).toNat=_
  rw[leC,z0j hb,if_pos hb];rfl
theorem zz8{t:Tab}{s b:Nat}(hs:s< t.next.length)(hb:b< 256):(tblT (leanT t)).δ s ((tblT (leanT t)).cell b)=(tblT t).δ s ((tblT t).cell b):=by
  have hm:b∈allB:=z6s.2 hb
  have hg:=zcz (key:=(tblT t).cell) hm
  rw[zn9 hb]
  show(((lnR t t.next.length).getD s []).getD _ 0).toNat=((t.next.getD s []).getD _ 0).toNat
  rw[lnR,z0j hs,lnP,List.take_length]
  congr 1
  refine z78 ?_;rw[List.getElem?_map,cKa,hg];rfl
theorem lean_ok{t:Tab}(h:t.ok):(leanT t).ok:=by
 refine⟨z1b t 256,fun x hx=>?_,by show 0< (lnR t t.next.length).length;rw[z5c];exact h.npos,by show t.acc.length=(lnR t t.next.length).length;rw[z5c];exact h.alen,fun r hr=>?_,fun c hc=>?_⟩
 ·obtain⟨b,hb,rfl⟩:=List.mem_map.1 hx
  have hb:=List.mem_range.1 hb
  rw[if_pos hb]
  have:=z7l (key:=(tblT t).cell) (z6s.2 hb)
  show 0≤_∧_< ((cKa t).length:Int)
  rw[cKa];omega
 ·obtain⟨i,hi,rfl⟩:=List.mem_map.1 hr
  have hi:=List.mem_range.1 hi
  refine⟨zax (Nat.le_refl _),fun x hx=>?_⟩;obtain⟨c,hc,rfl⟩:=List.mem_map.1 hx;rw[List.take_length]at hc
  have:=nextN h hi (cK_lt h (Nat.le_refl 256) c (by rw[cK256];exact hc))
  show 0≤_∧_< (((lnR t t.next.length).length:Nat):Int)
  rw[z5c,this.2];omega
 ·have hc:c< (cKa t).length:=hc
  rw[cKa]at hc;obtain⟨b,hb,e⟩:=z5y (key:=(tblT t).cell) (l:=allB) (v:=c) hc;exact⟨b,z6s.1 hb,by rw[zn9 (z6s.1 hb)];exact e⟩
theorem lean_fit{t:Tab}(h:t.fit):(leanT t).fit:=⟨lean_ok h.1,by show(lnR t t.next.length).length≤_;rw[z5c];exact h.2.1,by show(cKa t).length≤256;rw[←cK256];exact cK_le t 256⟩
theorem zs1{t:Tab}(h:t.ok):∀ (w:List Nat) (s:Nat),Bytes w→s< t.next.length→(tblT (leanT t)).run s w=(tblT t).run s w
  |[],_,_,_=>rfl
  | b::w,s,hw,hs=>by
    have hb:=hw b List.mem_cons_self
    show(tblT (leanT t)).run ((tblT (leanT t)).δ s ((tblT (leanT t)).cell b)) w=(tblT t).run ((tblT t).δ s ((tblT t).cell b)) w
    rw[zz8 hs hb];exact zs1 h w _ (fun x hx=>hw x (List.mem_cons_of_mem _ hx)) (nextN h hs (cellN h hb).1).1
theorem zz9{t:Tab}(h:t.ok){w:List Nat}(hw:Bytes w):(tblT (leanT t)).lang 0 w=(tblT t).lang 0 w:=by
  show t.acc.getD _ false=t.acc.getD _ false
  rw[zs1 h w 0 hw h.npos]
theorem zi9(y:Cell):((Cont.cells (List.replicate 256 (Cell.int .i64 0)++List.replicate 2 .nils)).sub 0 256).list++(((Cont.cells (List.replicate 256 (Cell.int .i64 0)++List.replicate 2 .nils)).sub 256 1).list++([y]++[]))=rt z0y .nils y:=by
  rw[←rt0_eq]
  show List.take 256 (List.drop 0 (List.replicate 256 _++List.replicate 2 _))++(List.take 1 (List.drop 256 (List.replicate 256 _++List.replicate 2 _))++_)=_
  rw[List.drop_zero,List.take_append_of_le_length (by rw[List.length_replicate];decide),List.take_replicate,List.drop_append_of_le_length (by rw[List.length_replicate];decide),List.drop_replicate]
  rfl
theorem zpp{cell:List Int}{x y z:Cell}(h:cell.length=256){i:Nat}(hi:i=256):(rt cell x y).set i z=rt cell z y:=by
  subst hi;rw[rt,rt,List.set_append_right _ _ (by simp[h])]
  simp[h]
theorem rt_at0{cell:List Int}{x y:Cell}(h:cell.length=256):(rt cell x y)[256]? =some x:=by
  rw[rt,List.getElem?_append_right (by simp[h])]
  simp[h]
theorem rt_x{cell:List Int}{x y:Cell}(h:cell.length=256):(Cont.cells (rt cell x y)).get (0+256)=x:=by rw[Nat.zero_add,zk8 h 0];rfl
def SpK(t:Tab)(b y:Nat):Prop:=(y=(cK t b).length∧(tblT t).cell b∉cK t b)∨(y< (cK t b).length∧(tblT t).cell b∈cK t b∧idxK (cK t b) ((tblT t).cell b)=y)
theorem spk_no{t:Tab}{b y:Nat}(h:∀ x,x< y→(cK t b).getD x 0≠(tblT t).cell b)(hy:y=(cK t b).length):SpK t b y:=by
  refine .inl ⟨hy,fun hm=>?_⟩;obtain⟨x,hx,e⟩:=List.getElem_of_mem hm;exact h x (by omega) (by rw[z49 hx];exact e)
theorem zza{t:Tab}{b y:Nat}(hy:y< (cK t b).length)(e:(cK t b).getD y 0=(tblT t).cell b):SpK t b y:=by
  have h1:(cK t b)[y]? =some ((tblT t).cell b):=by rw[at_of (d:=0) hy,e]
  exact .inr ⟨hy,List.mem_of_getElem? h1,zd2 (z31 _) h1⟩
attribute [local irreducible] z0o z0y zl z08 z0v putB rt rzl cbK leC cK cKa lnP lnR
def leanRS:QSpec:=fun vs K=>∃ t:Tab,vs=[rtV t]∧t.fit∧K (rtV (leanT t))
theorem leanR_ok:z1x Tryd.prog gl 146 leanRS:=by
 refine z1c (Γ:=g0) (N:=85) Tryd.func146 rfl rfl fun vs K h=>?_;obtain⟨t,rfl,ht,h⟩:=h;refine⟨_,h,zry _,by simp,fun w I=>?_⟩
 have ht0:=ht
 obtain⟨hok,hlen,hnc⟩:=ht0
 have hcl:=hok.clen
 refine srR g0_ok fun _ K2=>?_
 iterate 2 refine z2v ?_
 refine s_n K2 ?_;refine leW [0] (fun _=>1) [(1,.c (.dp (rtC t) 0)),(2,.c (.ptr 0 0))] [(0,.own 111 (.cells rzl) 258)] 1 [1] uJl_0 uJl_0 uJl_0 uJl_0 ?_;refine srR g0_ok fun _ K4=>?_;refine z2v ?_;refine zaw ?_;refine exA (.c (.ds t.acc.length (.bools t.acc))) (as_c (rt_ac hcl)) ?_;refine zaw ?_;refine exA (.agg (.cells (rt z0y .nils (.ds t.acc.length (.bools t.acc))))) (as_eq (congrArg (fun l=>SV.agg (Cont.cells l)) (zi9 _))) ?_;refine z2v ?_;refine zh1 ?_;refine s_n K4 ?_;refine srR g0_ok fun _ K6=>?_
 iterate 2 refine z2v ?_
 refine s_n K6 ?_;refine seq_k fun _ K7=>?_;refine srR g0_ok fun _ K9=>?_;refine z2v ?_;refine s_n K9 ?_;refine z03 ?_;refine z0m (α:=Nat×Nat) (fun g=>[(1,.c (.dp (rtC t) 0)),(2,.c (.ptr 0 0)),(3,.c (.ptr 1 0)),(4,.c (.slice 2 0 (cK t g.1).length g.2)),(5,.c (.int .i64 (g.1:Nat)))]) (fun g=>[(0,.own 111 (.cells rzl) 258),(1,.own 111 (.cells (rt (leC t g.1) .nils (.ds t.acc.length (.bools t.acc)))) 258),(2,.own 3 (.ints .i64 (natsI (cK t g.1))) g.2)]) 3 (fun g=>g.1≤256∧(cK t g.1).length≤g.2) (fun g=>256 - g.1) ?_ ?_
 ·have hz0:cK t 0=[]:=by unfold cK;rfl
  have hX3:([]:List Int)=natsI (cK t 0):=by rw[hz0];rfl
  have hXL:0=(cK t 0).length:=by rw[hz0];rfl
  refine dnS [] id (0,0) ⟨Nat.zero_le _,Nat.le_of_eq hXL.symm⟩ [0,1,2] uJl_0 uJl_0 uJl_0 uJl_0
 ·intro g hg
  obtain⟨hg1,hg2⟩:=hg
  have hcl9:=cK_le t g.1
  refine seq_k fun _ K10=>?_;refine srR g0_ok fun _ K12=>?_
  iterate 2 refine z2v ?_
  refine s_n K12 ?_;refine z04 (b:=_) rfl (fun h_t15=>?_) (fun h_t15=>?_)
  ·try simp only[dQ,reduceIte]at h_t15
   refine z09 ?_;apply K10;refine seq_k fun _ K13=>?_;refine z03 ?_;refine srR g0_ok fun _ K15=>?_;refine z2v ?_;refine s_n K15 ?_;refine z27 (α:=Nat) (fun y=>[(1,.c (.dp (rtC t) 0)),(2,.c (.ptr 0 0)),(3,.c (.ptr 1 0)),(4,.c (.slice 2 0 (cK t g.1).length g.2)),(5,.c (.int .i64 (g.1:Nat))),(6,.c (.int .i64 (y:Nat)))]) (fun y=>[(0,.own 111 (.cells rzl) 258),(1,.own 111 (.cells (rt (leC t g.1) .nils (.ds t.acc.length (.bools t.acc)))) 258),(2,.own 3 (.ints .i64 (natsI (cK t g.1))) g.2)]) 3 (fun y=>SpK t g.1 y) ?_ ?_
   ·refine z03 ?_
    refine z0m (α:=Nat) (fun k=>[(1,.c (.dp (rtC t) 0)),(2,.c (.ptr 0 0)),(3,.c (.ptr 1 0)),(4,.c (.slice 2 0 (cK t g.1).length g.2)),(5,.c (.int .i64 (g.1:Nat))),(6,.c (.int .i64 (k:Nat)))]) (fun k=>[(0,.own 111 (.cells rzl) 258),(1,.own 111 (.cells (rt (leC t g.1) .nils (.ds t.acc.length (.bools t.acc)))) 258),(2,.own 3 (.ints .i64 (natsI (cK t g.1))) g.2)]) 3 (fun k=>k≤(cK t g.1).length∧∀ x,x< k→(cK t g.1).getD x 0≠(tblT t).cell g.1) (fun k=>(cK t g.1).length - k) ?_ ?_
    ·have hg256:g.1< 256:=by omega
     refine dnS [] id 0 ⟨Nat.zero_le _,fun x hx=>absurd hx (Nat.not_lt_zero x)⟩ [0,1,2] uJl_0 uJl_0 uJl_0 uJl_0
    ·intro k hk
     obtain⟨hk1,hk2⟩:=hk
     have hg256:g.1< 256:=by omega
     have hcb:=cellN hok hg256
     refine seq_k fun _ K16=>?_
     have hg256:g.1< 256:=by omega
     refine srQ g0_ok kR fun _ K18=>?_
     iterate 4 refine zz6 ?_
     refine qXEJl_8 ?_;refine exB (fun hb4=>?_) (fun hb4=>?_)
     ·try simp only[dQ,reduceIte]at hb4
      iterate 3 refine zpo ?_
      refine zs0 ?_;refine exA (.c (.int .i64 ((((cK t g.1).getD k 0:Nat):Int)))) (as_i ((congrArg (fun i=>(natsI (cK t g.1)).getD i 0) (by omega)).trans z0q)) ?_
      iterate 3 refine zpo ?_
      refine zs0 ?_;refine exA (.c (.int .i64 (((tblT t).cell g.1:Nat):Int))) (as_c ((zav hcl (by first|omega|(simp;done)) hg256).trans (congrArg (Cell.int IntKind.i64) (cellN hok hg256).2))) ?_;refine zpo ?_;refine zz6 ?_;refine q_n K18 ?_;refine z04 (b:=_) rfl (fun h_t32=>?_) (fun h_t32=>?_)
      ·try simp only[dQ,reduceIte]at h_t32
       refine z09 ?_;apply K16;refine z03 ?_;refine z01 g0_ok fun _ K19=>?_
       iterate 3 refine z2v ?_
       refine s_n K19 ?_;refine z05 ?_;refine dnS [] id (k+1) ⟨⟨by omega,fun x hx=>(Nat.lt_succ_iff_lt_or_eq.1 hx).elim (hk2 x) fun e=>by rw[e];omega⟩,by omega⟩ [0,1,2] ?_ ?_ ?_ ?_
       ·exact uJl_0
       ·exact uJl_0
       ·exact uJl_0
       ·exact uJl_0
      ·try simp only[dQ,reduceIte]at h_t32
       refine z0i ?_;refine z00 ?_;refine z00 ?_;refine z0f ?_
       have hsp:SpK t g.1 k:=by
        by_cases hkl:k< (cK t g.1).length
        ·exact zza hkl (by first|omega|(simp_all;omega))
        ·exact spk_no hk2 (by omega)
       refine dnS [] id k hsp [0,1,2] uJl_0 uJl_0 uJl_0 uJl_0
     ·try simp only[dQ,reduceIte]at hb4
      iterate 9 refine qN ?_
      refine zz6 ?_;refine q_n K18 ?_;refine z04 (b:=_) rfl (fun h_t32=>?_) (fun _=>?_)
      ·exfalso;simp at h_t32
      refine z0i ?_;refine z00 ?_;refine z00 ?_;refine z0f ?_
      have hsp:SpK t g.1 k:=by
       by_cases hkl:k< (cK t g.1).length
       ·exact zza hkl (by first|omega|(simp_all;omega))
       ·exact spk_no hk2 (by omega)
      refine dnS [] id k hsp [0,1,2] uJl_0 uJl_0 uJl_0 uJl_0
   ·intro y hy
    refine seq_k fun _ K20=>?_;refine srR g0_ok fun _ K22=>?_
    iterate 4 refine z2v ?_
    refine s_n K22 ?_;refine z04 (b:=_) rfl (fun h_t38=>?_) (fun h_t38=>?_)
    ·have hg256:g.1< 256:=by omega
     have hnk:(tblT t).cell g.1∉(cK t g.1):=by
      rcases hy with hy|hy
      ·exact hy.2
      ·have h9:=of_decide_eq_true h_t38
       omega
     obtain⟨hR,hid⟩:=cK_no hg256 hnk
     have hid:idK (tblT t).cell allB g.1=y:=by
      rw[hid]
      rcases hy with hy|hy
      ·exact hy.1.symm
      ·exact absurd hy.2.1 hnk
     have hX2:natsI (cK t g.1)++([]++[(((tblT t).cell g.1:Nat):Int)])=natsI (cK t (g.1+1)):=by rw[hR,List.nil_append];exact z39 _ _
     have hXL:(cK t g.1).length+1=(cK t (g.1+1)).length:=by rw[hR,List.length_append];rfl
     have hg256:g.1< 256:=by omega
     refine z01 g0_ok fun _ K23=>?_
     iterate 4 refine z2v ?_
     refine zaw ?_;refine exA (.c (.int .i64 (((tblT t).cell g.1:Nat):Int))) (as_c ((zav hcl (by first|omega|(simp;done)) hg256).trans (congrArg (Cell.int IntKind.i64) (cellN hok hg256).2))) ?_;refine z2v ?_;refine zaw ?_;intro cap6 hcap6;refine exI ?_;refine z2v ?_;refine s_n K23 ?_;apply K20
     have hset:(0+0+((g.1:Nat):Int).toNat*1)< 256∧(leC t g.1).set (0+0+((g.1:Nat):Int).toNat*1) ((y:Nat):Int)=leC t (g.1+1):=by
      have e:(0+0+((g.1:Nat):Int).toNat*1)=g.1:=by omega
      rw[e, ←hid];exact⟨hg256,zz7 hg256⟩
     refine z01 g0_ok fun _ K24=>?_
     iterate 4 refine z2v ?_
     refine zh1 ?_;refine s_n K24 ?_;refine z05 ?_;apply K13;refine z01 g0_ok fun _ K25=>?_
     iterate 3 refine z2v ?_
     refine s_n K25 ?_;refine dnS [] (fun i=>if i=2 then 4 else i) (g.1+1,cap6) ⟨⟨by show g.1+1≤256;omega,by show _≤cap6;rw[←hXL];omega⟩,by show 256 - (g.1+1)< _;omega⟩ [0,1,4] ?_ ?_ ?_ ?_
     ·exact uJl_0
     ·exact uJl_0
     ·exact uJl_0
     ·exact uJl_0
    ·have hg256:g.1< 256:=by omega
     obtain⟨hyk,hyi⟩:(tblT t).cell g.1∈(cK t g.1)∧idxK (cK t g.1) ((tblT t).cell g.1)=y:=by
      rcases hy with hy|hy
      ·have h9:=of_decide_eq_false h_t38
       omega
      ·exact hy.2
     obtain⟨hR,hid⟩:=cK_yes hg256 hyk
     have hid:idK (tblT t).cell allB g.1=y:=hid.trans hyi
     have hX2:natsI (cK t g.1)=natsI (cK t (g.1+1)):=by rw[hR]
     have hXL:(cK t g.1).length=(cK t (g.1+1)).length:=by rw[hR]
     refine z09 ?_;apply K20
     have hset:(0+0+((g.1:Nat):Int).toNat*1)< 256∧(leC t g.1).set (0+0+((g.1:Nat):Int).toNat*1) ((y:Nat):Int)=leC t (g.1+1):=by
      have e:(0+0+((g.1:Nat):Int).toNat*1)=g.1:=by omega
      rw[e, ←hid];exact⟨hg256,zz7 hg256⟩
     refine z01 g0_ok fun _ K26=>?_
     iterate 4 refine z2v ?_
     refine zh1 ?_;refine s_n K26 ?_;refine z05 ?_;apply K13;refine z01 g0_ok fun _ K27=>?_
     iterate 3 refine z2v ?_
     refine s_n K27 ?_;refine dnS [] id (g.1+1,g.2) ⟨⟨by show g.1+1≤256;omega,by show _≤g.2;rw[←hXL];omega⟩,by show 256 - (g.1+1)< _;omega⟩ [0,1,2] ?_ ?_ ?_ ?_
     ·exact uJl_0
     ·exact uJl_0
     ·exact uJl_0
     ·exact uJl_0
  ·try simp only[dQ,reduceIte]at h_t15
   refine z0i ?_;refine z00 ?_;refine z00 ?_;refine z0f ?_;apply K7;refine seq_k fun _ K28=>?_
   have hge:g.1=256:=by omega
   rw[hge];rw[cK256]
   have hnp:=hok.npos
   refine leW [2] id [(1,.c (.dp (rtC t) 0)),(2,.c (.ptr 0 0)),(3,.c (.ptr 1 0)),(4,.c (.ds (cKa t).length (.ints .i64 (natsI (cKa t)))))] [(0,.own 111 (.cells rzl) 258),(1,.own 111 (.cells (rt (leC t 256) .nils (.ds t.acc.length (.bools t.acc)))) 258)] 2 [0,1] uJl_0 uJl_0 uJl_0 uJl_0 ?_;refine srR g0_ok fun _ K30=>?_;refine z2v ?_;refine s_n K30 ?_;refine z03 ?_;refine z5g 1 256 51 (.cells []) rfl (rt_at0 (z1b _ _)) rfl low_nil' ?_;rw[zpp (z1b _ _) rfl];refine z0m (α:=Nat×Nat) (fun s=>[(1,.c (.dp (rtC t) 0)),(2,.c (.ptr 0 0)),(3,.c (.ptr 1 0)),(4,.c (.ds (cKa t).length (.ints .i64 (natsI (cKa t))))),(7,.c (.int .i64 (s.1:Nat)))]) (fun s=>[(0,.own 111 (.cells rzl) 258),(1,.own 111 (.cells (rt (leC t 256) (.slice 2 0 s.1 s.2) (.ds t.acc.length (.bools t.acc)))) 258),(2,.own 51 (.cells (rowsC (lnR t s.1))) s.2)]) 3 (fun s=>s.1≤t.next.length∧s.1≤s.2) (fun s=>t.next.length - s.1) ?_ ?_
   ·have hXR:rowsC (lnR t 0)=[]:=by unfold lnR;rfl
    refine dnS [] id (0,0) ⟨Nat.zero_le _,Nat.le_refl _⟩ [0,1,2] uJl_0 uJl_0 uJl_0 uJl_0
   ·intro s hs
    obtain⟨hs1,hs2⟩:=hs
    have hlr9:=z5c t s.1
    refine seq_k fun _ K31=>?_;refine srR g0_ok fun _ K33=>?_
    iterate 2 refine z2v ?_
    refine zaw ?_;refine exA (.c (.ds t.next.length (.cells (rowsC t.next)))) (as_c (rt_nx hcl)) ?_
    iterate 2 refine z2v ?_
    refine s_n K33 ?_;refine z04 (b:=_) rfl (fun h_t54=>?_) (fun h_t54=>?_)
    ·try simp only[dQ,reduceIte]at h_t54
     refine z09 ?_;apply K31;refine seq_k fun _ K34=>?_;refine z03 ?_
     have hsn:s.1< t.next.length:=by omega
     have hrw:=z8z hok hsn
     refine srR g0_ok fun _ K36=>?_
     iterate 2 refine z2v ?_
     refine s_n K36 ?_;refine seq_k fun _ K37=>?_;refine srR g0_ok fun _ K39=>?_;refine z2v ?_;refine s_n K39 ?_;refine z03 ?_;refine z0m (α:=Nat×Nat) (fun k=>[(1,.c (.dp (rtC t) 0)),(2,.c (.ptr 0 0)),(3,.c (.ptr 1 0)),(4,.c (.ds (cKa t).length (.ints .i64 (natsI (cKa t))))),(7,.c (.int .i64 (s.1:Nat))),(8,.c (.slice 3 0 k.1 k.2)),(9,.c (.int .i64 (k.1:Nat)))]) (fun k=>[(0,.own 111 (.cells rzl) 258),(1,.own 111 (.cells (rt (leC t 256) (.slice 2 0 s.1 s.2) (.ds t.acc.length (.bools t.acc)))) 258),(2,.own 51 (.cells (rowsC (lnR t s.1))) s.2),(3,.own 3 (.ints .i64 (lnP t s.1 k.1)) k.2)]) 4 (fun k=>k.1≤(cKa t).length∧k.1≤k.2) (fun k=>(cKa t).length - k.1) ?_ ?_
     ·have hX3:([]:List Int)=lnP t s.1 0:=by unfold lnP;rfl
      refine dnS [] id (0,0) ⟨Nat.zero_le _,Nat.le_refl _⟩ [0,1,2,3] uJl_0 uJl_0 uJl_0 uJl_0
     ·intro k hk
      obtain⟨hk1,hk2⟩:=hk
      have hlp:=zax (t:=t) (s:=s.1) hk1
      refine seq_k fun _ K40=>?_;refine srR g0_ok fun _ K42=>?_
      iterate 4 refine z2v ?_
      refine s_n K42 ?_;refine z04 (b:=_) rfl (fun h_t61=>?_) (fun h_t61=>?_)
      ·try simp only[dQ,reduceIte]at h_t61
       refine z09 ?_;apply K40;refine seq_k fun _ K43=>?_;refine z03 ?_
       have hcl8:(cKa t).length≤256:=by rw[←cK256];exact cK_le t 256
       have hkl:k.1< (cKa t).length:=by omega
       have hkc:=cK_lt hok (Nat.le_refl 256) _ (by rw[cK256];exact getD_mem' hkl)
       refine z69 g0_ok [(0,true),(1,true),(2,true),(3,true),(4,true),(5,true),(6,true),(7,true),(8,true),(9,true),(10,true),(11,true),(12,false),(13,false),(14,true)] rfl kR kR fun _ K44=>?_
       iterate 2 refine zn8 ?_
       refine zeq ?_;refine exA (.c (.ds t.next.length (.cells (rowsC t.next)))) (as_c (rt_nx hcl)) ?_
       iterate 2 refine zn8 ?_
       refine zeq ?_;refine exA (.c (.ds (t.next.getD s.1 []).length (.ints .i64 (t.next.getD s.1 [])))) (as_c (z6e ⟨hsn,by omega⟩)) ?_
       iterate 3 refine zn8 ?_
       refine zeq ?_;refine exA (.c (.int .i64 ((((cKa t).getD k.1 0:Nat):Int)))) (as_i ((congrArg (fun i=>(natsI (cKa t)).getD i 0) (by omega)).trans z0q)) ?_;refine zn8 ?_;refine zeq ?_;refine exA (.c (.int .i64 ((t.next.getD s.1 []).getD ((cKa t).getD k.1 0) 0))) (as_i (congrArg (fun i=>(t.next.getD s.1 []).getD i 0) (by omega))) ?_;refine gXJl_6 ?_;refine gXEJl_11 ?_;intro cap13 hcap13;refine exI ?_;refine zn8 ?_;refine d_n K44 ?_;refine z05 ?_;apply K43;refine z01 g0_ok fun _ K45=>?_
       iterate 3 refine z2v ?_
       refine s_n K45 ?_
       have hX2:lnP t s.1 k.1++([]++[(t.next.getD s.1 []).getD ((cKa t).getD k.1 0) 0])=lnP t s.1 (k.1+1):=lnP_succ hkl rfl
       refine dnS [] (fun i=>if i=3 then 5 else i) (k.1+1,cap13) ⟨⟨by show k.1+1≤_;omega,by show k.1+1≤cap13;omega⟩,by show _ - (k.1+1)< _;omega⟩ [0,1,2,5] ?_ ?_ ?_ ?_
       ·exact uJl_0
       ·exact uJl_0
       ·exact uJl_0
       ·exact uJl_0
      ·try simp only[dQ,reduceIte]at h_t61
       refine z0i ?_;refine z00 ?_;refine z00 ?_;refine z0f ?_;apply K37
       have hke:k.1=(cKa t).length:=by omega
       rw[hke];refine leW [3] id [(1,.c (.dp (rtC t) 0)),(2,.c (.ptr 0 0)),(3,.c (.ptr 1 0)),(4,.c (.ds (cKa t).length (.ints .i64 (natsI (cKa t))))),(7,.c (.int .i64 (s.1:Nat))),(8,.c (.ds (cKa t).length (.ints .i64 (lnP t s.1 (cKa t).length))))] [(0,.own 111 (.cells rzl) 258),(1,.own 111 (.cells (rt (leC t 256) (.slice 2 0 s.1 s.2) (.ds t.acc.length (.bools t.acc)))) 258),(2,.own 51 (.cells (rowsC (lnR t s.1))) s.2)] 3 [0,1,2] uJl_0 uJl_0 uJl_0 uJl_0 ?_;refine z01 g0_ok fun _ K46=>?_;refine z2v ?_;refine zaw ?_;refine exA (.c (.slice 2 0 s.1 s.2)) (as_c (rt_x (z1b _ _))) ?_
       iterate 2 refine z2v ?_
       refine zaw ?_;intro cap4 hcap4;refine exI ?_;refine z2v ?_;refine zh1 ?_;refine s_n K46 ?_;refine z05 ?_;apply K34;refine z01 g0_ok fun _ K47=>?_
       iterate 3 refine z2v ?_
       refine s_n K47 ?_
       have hXR:rowsC (lnR t s.1)++([]++[.ds (cKa t).length (.ints .i64 (lnP t s.1 (cKa t).length))])=rowsC (lnR t (s.1+1)):=by
        have:=z4g (lnR t s.1) (lnP t s.1 (cKa t).length)
        rw[zax (Nat.le_refl _),lnR_succ]at this;exact this
       refine dnS [] (fun i=>if i=2 then 4 else i) (s.1+1,cap4) ⟨⟨by show s.1+1≤_;omega,by show s.1+1≤cap4;omega⟩,by show _ - (s.1+1)< _;omega⟩ [0,1,4] ?_ ?_ ?_ ?_
       ·exact uJl_0
       ·exact uJl_0
       ·exact uJl_0
       ·exact uJl_0
    ·try simp only[dQ,reduceIte]at h_t54
     refine z0i ?_;refine z00 ?_;refine z00 ?_;refine z0f ?_;apply K28
     have hLL:t.next.length=(leanT t).next.length:=(z5c t t.next.length).symm
     have hse:s.1=t.next.length:=by omega
     rw[hse];refine leW [2] id [(2,.c (.ptr 0 0)),(3,.c (.ptr 1 0))] [(0,.own 111 (.cells rzl) 258),(1,.own 111 (.cells (rt (leC t 256) (.ds t.next.length (.cells (rowsC (lnR t t.next.length)))) (.ds t.acc.length (.bools t.acc)))) 258)] 2 [0,1] uJl_0 uJl_0 uJl_0 uJl_0 ?_;refine srR g0_ok fun _ K49=>?_;refine z2v ?_;refine zh1 ?_;refine s_n K49 ?_;refine z0e (z0g g0_ok (fun _ _ h=>h) (zry _) [] [.cell 2 111] rfl ?_)
     repeat first|refine aI (by first|omega|exact trivial|rfl|exact vRl) ?_|refine z0a (z02 (z1b _ _)) ?_|refine z07 (by rw[z11];exact(z02 (z1b _ _)).symm) ?_
     all_goals exact uJl_0


end Go.Proofs.YtppmnaoollkboaaDoor
