/- Contracts of functions and plain facts, part 7. -/
import Derived.Test.YtpdljmohhpbkpaaDoorNd
import Derived.Test.YtpdljmohhpbkpaaDoorNe
set_option linter.all false
set_option maxHeartbeats 2000000
set_option maxRecDepth 4000
namespace Go.Proofs.YtpdljmohhpbkpaaDoor
open Go.Ab Go.RowKit

section
variable {a b:Prop}
theorem FL(h:a:=by first|exact gG|(simp[-List.reduceReplicate]<;>omega)|exact vV|exact⟨by omega,by omega,trivial⟩|(simp only[NQ,T8];omega)|(rw[NQ,T8];omega)|(simp only[jI,z37];omega)|(simp only[jI,XK];exact hcb.1)|(simp only[jI,XK];have:=hcb.1;show _< t.nc;omega)|exact gH):a:=h
theorem FM(h:a:=by first|exact gG|(simp[-List.reduceReplicate]<;>omega)|exact vV|(simp only[z66,Ld];omega)|(simp only[jI,XK];have:=hcb.1;show _< t.nc;omega)|(show _/\_;refine⟨by omega,by omega,?_⟩)|exact gH):a:=h
theorem bn(h:a:=by
    repeat' (first|assumption|exact JG|exact Iy|exact ve QC _ _|exact qY QC _|exact pT|exact trivial|refine aI ?_ ?_|exact iM|refine low_cons' ?_ ?_|exact iN|fail)
    all_goals first|omega|exact JG|exact Iy|exact hM0|(refine Eq.symm (if_pos (And.intro rfl ?_));first|exact hw5|(show(aG _).length=_;rw[jH,Nat.mul_one]))|(rw[Nat.zero_add];exact Nat.le_of_eq hw5.symm)|exact hL0|exact hL1|(show(_:List Int)=_;first|assumption|rfl)|(show(_:List UInt8)=_;first|assumption|exact K0|rfl)|(show(_:List UInt64)=_;first|assumption|rfl)|(show(_:List (SV×SV))=_;first|assumption|rfl)|exact ve QC _ _|exact qY QC _|(rw[hX4];exact qY QC _)|(show(0:Nat)< (au _ _ _ _).length;rw[dJ hcl];decide)|(simp[-List.reduceReplicate];done)|(simp[-List.reduceReplicate]<;>omega)|skip):a:=h
theorem wO(kZ:b)(h:aK b->a:=by intro kZ;(repeat first|refine aI FL ?_|refine bW FL ?_|refine dC FL ?_|refine fT FL ?_|refine fA ?_);exact kZ.out):a:=h ⟨kZ⟩
theorem jv(kZ:b)(h:aK b->a:=by intro kZ;refine sX ?_;refine wO ?_;refine aL ?_;exact kZ.out):a:=h ⟨kZ⟩
theorem ZN(kZ:b)(h:aK b->a:=by intro kZ;refine jl ?_;refine wO ?_;refine aL ?_;exact kZ.out):a:=h ⟨kZ⟩
theorem oL(kZ:b)(h:aK b->a:=by intro kZ;(repeat first|refine aI FM ?_|refine bW FM ?_|refine dC FM ?_|refine fT FM ?_|refine fA ?_);exact kZ.out):a:=h ⟨kZ⟩
theorem Q3(kZ:b)(h:aK b->a:=by intro kZ;refine dX ?_;refine oL ?_;refine aL ?_;exact kZ.out):a:=h ⟨kZ⟩
theorem KO(kZ:b)(h:aK b->a:=by intro kZ;refine gX ?_;refine oL ?_;refine aL ?_;exact kZ.out):a:=h ⟨kZ⟩
theorem vD(kZ:b)(h:aK b->a:=by intro kZ;refine sX ?_;refine wO ?_;exact kZ.out):a:=h ⟨kZ⟩
theorem Tc(kZ:b)(h:aK b->a:=by intro kZ;refine dX ?_;refine oL ?_;exact kZ.out):a:=h ⟨kZ⟩
theorem y1t(kZ:b)(h:aK b->a:=by intro kZ;refine gX ?_;refine oL ?_;exact kZ.out):a:=h ⟨kZ⟩
theorem yJ(kZ:b)(h:aK b->a:=by intro kZ;refine pu ?_;refine oL ?_;exact kZ.out):a:=h ⟨kZ⟩
end
open Go.Aut
attribute [local irreducible] eG z12 zl au gz cr gU r9 bM tq mq rf mG pM
noncomputable def Qg:Ctx:={ P:=Tryd.prog,ty:=ty,glob:=gl,fs:=[(81,.flat Oa),(59,.flat Vt)] }
theorem l7:Qg.OK:=⟨dS,⟨⟨bX Tryd.func81 aN rfl,Kh⟩,⟨bX Tryd.func59 aN rfl,zv8⟩,trivial⟩,mixed⟩
@[simp] theorem VJ:Qg.ty=ty:=rfl

def zQ:qp:=fun vs K=>∃ (t:Tab) (bl reps l:List Nat),vs=[bu t,.c (.ds bl.length (.ints .i64 (aG bl))),.c (.ds reps.length (.ints .i64 (aG reps)))]/\t.fit/\kg (aD t) l bl reps t.next.length/\(∀ s∈l,s< t.next.length)/\∀ cw:List UInt64,Cw (aD t) (aM bl) (eD reps) reps.length cw (l9 (aD t) (aM bl) (eD reps) reps.length) 256->K (.tup [.c (.ds (mC t bl reps 256).length (.ints .i64 (aG (mC t bl reps 256)))),.c (.ds (mC t bl reps 256).length (.u64s cw))]) [] 0
theorem zR:wW Tryd.prog gl 65 zQ:=by
 refine Kg (Γ:=Qg) (N:=124) Tryd.func65 rfl rfl fun vs K h=>?_;obtain⟨t,bl,reps,l,rfl,ht,ho,hlt,h⟩:=h;refine⟨by simp,fun w I=>?_⟩
 have ht0:=ht
 obtain⟨hok,hlen,hnc⟩:=ht0
 have hcl:=hok.clen
 have hrl:reps.length<=65535:=Nat.le_trans (Ry ho hlt) hlen
 refine aO l7 fun _ K2=>?_
 iterate 3 refine jv ?_
 refine aJ K2 (aO l7 fun _ K4=>?_)
 iterate 2 refine jv ?_
 refine aJ K4 (aO l7 fun _ K6=>jv ?_);refine aJ K6 (aO l7 fun _ K8=>jv ?_);refine aJ K8 (fQ [0] (fun _=>1) [(1,.c (.ds bl.length (.ints .i64 (aG bl)))),(2,.c (.ds reps.length (.ints .i64 (aG reps)))),(3,.c (.dp (dP t) 0)),(8,.c (.map 0)),(9,.c .nils),(10,.c .nils)] [(0,.mp 118 [])] 1 [1] bn bn bn bn (aO l7 fun _ K10=>jv ?_));refine vD ?_;refine aU (.c (.int .i64 (t.nc:Nat))) (ak (G4 hcl)) ?_
 iterate 2 refine jv ?_
 refine aJ K10 (aH fun _ K11=>aO l7 fun _ K13=>?_)
 iterate 3 refine jv ?_
 refine aJ K13 (bO (fM (α:=Nat) (fun k=>[(1,.c (.ds bl.length (.ints .i64 (aG bl)))),(2,.c (.ds reps.length (.ints .i64 (aG reps)))),(3,.c (.dp (dP t) 0)),(8,.c (.map 1)),(9,.c .nils),(10,.c .nils),(11,.c (.slice 0 0 t.nc t.nc)),(26,.c (.int .i64 (t.nc:Nat))),(27,.c (.int .i64 (k:Nat)))]) (fun k=>[(0,.own 3 (.ints .i64 (bM t.nc (-1) k)) t.nc),(1,.mp 118 [])]) 2 (fun k=>k<=t.nc) (fun k=>t.nc - k) ?_ ?_))
 ·have hZ:List.replicate t.nc (0:Int)=bM t.nc (-1) 0:=(Mk _ _).symm
  refine ai [] (fun i=>if i=0 then 1 else 0) 0 (Nat.zero_le _) [1,0] bn bn bn bn
 ·intro k hk;refine aO l7 fun _ K15=>jv ?_;refine aJ K15 (aH fun _ K16=>bC (b:=_) rfl (fun h_t28=>?_) (fun h_t28=>?_))
  ·try simp only[dQ,reduceIte]at h_t28
   refine bK (K16 _ _ _ (aH fun _ K17=>bO (aO l7 fun _ K19=>?_)))
   iterate 2 refine jv ?_
   refine aJ K19 ?_
   have hkl:k< t.nc:=by omega
   refine bB l7 fun _ K20=>?_
   iterate 3 refine jv ?_
   refine ZN ?_;refine aJ K20 (dD (K17 _ _ _ (bB l7 fun _ K21=>?_)))
   iterate 2 refine jv ?_
   refine aJ K21 ?_
   have hX1:(bM t.nc (-1) k).set (0+((k:Nat):Int).toNat*1) (-1)=bM t.nc (-1) (k+1):=by rw[show 0+((k:Nat):Int).toNat*1=k by omega];exact Mv _ hkl
   refine ai [] id (k+1) ⟨by omega,by omega⟩ [0,1] bn bn bn bn
  ·try simp only[dQ,reduceIte]at h_t28
   refine eY (bJ (bJ (eX (K11 _ _ _ (aH fun _ K22=>aO l7 fun _ K24=>jv ?_)))));refine aJ K24 (bO ?_)
   obtain rfl:k=t.nc:=by omega
   refine UD 9 3 (.ints .i64 []) rfl rfl trivial (UD 10 53 (.u64s []) rfl rfl trivial (fM (α:=Nat×List UInt64×Nat×Nat) (fun g=>[(1,.c (.ds bl.length (.ints .i64 (aG bl)))),(2,.c (.ds reps.length (.ints .i64 (aG reps)))),(3,.c (.dp (dP t) 0)),(8,.c (.map 1)),(9,.c (.slice 2 0 (mC t bl reps g.1).length g.2.2.1)),(10,.c (.slice 3 0 (mC t bl reps g.1).length g.2.2.2)),(11,.c (.slice 0 0 t.nc t.nc)),(34,.c (.int .i64 (g.1:Nat)))]) (fun g=>[(0,.own 3 (.ints .i64 (mO t bl reps g.1)) t.nc),(1,.mp 118 (dh eL (mK t bl reps g.1))),(2,.own 3 (.ints .i64 (aG (mC t bl reps g.1))) g.2.2.1),(3,.own 53 (.u64s g.2.1) (g.2.2.2*4))]) 4 (fun g=>g.1<=256/\Cw (aD t) (aM bl) (eD reps) reps.length g.2.1 (mC t bl reps g.1).length g.1/\(mC t bl reps g.1).length<=g.2.2.1/\(mC t bl reps g.1).length<=g.2.2.2) (fun g=>256 - g.1) ?_ ?_))
   ·have hZ:bM t.nc (-1) t.nc=(mO t bl reps 0):=by rw[Se];exact EN t bl reps
    have hL0:0=(mC t bl reps 0).length:=by rw[y1g];rfl
    have hM0:=EM t bl reps
    have hN0:([]:List Int)=aG (mC t bl reps 0):=by rw[y1g];rfl
    refine ai [] id (0,[],0,0) ⟨Nat.zero_le _,O7 t bl reps,IV t bl reps,IV t bl reps⟩ [0,1,2,3] bn bn bn bn
   ·intro g hg
    have hg1:=hg.1
    have hcw:=hg.2.1
    have h9:=hg.2.2.1
    have h10:=hg.2.2.2
    have hcwl:=hcw.len
    have hml:=z59 (t:=aD t) (block:=aM bl) (reps:=eD reps) (k:=reps.length) g.1
    have hmb:(mC t bl reps g.1).length<=256:=Nat.le_trans (zL t bl reps g.1) hg1
    refine aO l7 fun _ K26=>jv ?_;refine aJ K26 (aH fun _ K27=>bC (b:=_) rfl (fun h_t35=>?_) (fun h_t35=>?_))
    ·try simp only[dQ,reduceIte]at h_t35
     refine bK (K27 _ _ _ (aH fun _ K28=>bO (aO l7 fun _ K30=>?_)))
     iterate 2 refine jv ?_
     refine aJ K30 ?_
     have hb256:g.1< 256:=by omega
     have hcb:=av hok hb256
     refine aO l7 fun _ K32=>?_
     iterate 3 refine jv ?_
     refine vD ?_;refine aU (.c (.int .i64 ((((aD t).cell g.1):Nat):Int))) (ak ((HY hcl (by first|omega|(simp;done)) hb256).trans (congrArg (Cell.int IntKind.i64) hcb.2))) (jv ?_);refine aJ K32 (qf (α:=List UInt64×Nat×Nat) (fun y=>[(1,.c (.ds bl.length (.ints .i64 (aG bl)))),(2,.c (.ds reps.length (.ints .i64 (aG reps)))),(3,.c (.dp (dP t) 0)),(8,.c (.map 1)),(9,.c (.slice 2 0 (mC t bl reps (g.1+1)).length y.2.1)),(10,.c (.slice 3 0 (mC t bl reps (g.1+1)).length y.2.2)),(11,.c (.slice 0 0 t.nc t.nc)),(34,.c (.int .i64 (g.1:Nat))),(13,.c (.int .i64 (g.1:Nat))),(14,.c (.int .i64 (((aD t).cell g.1):Nat)))]) (fun y=>[(0,.own 3 (.ints .i64 (mO t bl reps (g.1+1))) t.nc),(1,.mp 118 (dh eL (mK t bl reps (g.1+1)))),(2,.own 3 (.ints .i64 (aG (mC t bl reps (g.1+1)))) y.2.1),(3,.own 53 (.u64s y.1) (y.2.2*4))]) 4 (fun y=>Cw (aD t) (aM bl) (eD reps) reps.length y.1 (mC t bl reps (g.1+1)).length g.1/\(mC t bl reps (g.1+1)).length<=y.2.1/\(mC t bl reps (g.1+1)).length<=y.2.2) ?_ ?_)
     ·refine aO l7 fun _ K34=>?_
      iterate 3 refine jv ?_
      refine vD ?_;refine aU (.c (.int .i64 ((mO t bl reps g.1).getD ((aD t).cell g.1) 0))) (az (congrArg (fun i=>((mO t bl reps g.1)).getD i 0) (by omega))) (jv ?_);refine aJ K34 (bC (b:=_) rfl (fun h_t45=>?_) (fun h_t45=>?_))
      ·have hnex:¬ ∃ a,a< g.1/\(aD t).cell a=((aD t).cell g.1):=fun hx=>by
        have e:=JD (block:=aM bl) (reps:=eD reps) (k:=reps.length) hcb.1 hx
        simp only[decide_eq_true_eq]at h_t45
        rw[e]at h_t45;omega
       have hrl2:reps.length<=65535:=hrl
       refine aO l7 fun _ K36=>?_
       iterate 5 refine jv ?_
       refine aJ K36 (aH fun _ K37=>aO l7 fun _ K39=>?_)
       iterate 3 refine jv ?_
       refine aJ K39 (bO (fM (α:=Nat×Nat) (fun j=>[(1,.c (.ds bl.length (.ints .i64 (aG bl)))),(2,.c (.ds reps.length (.ints .i64 (aG reps)))),(3,.c (.dp (dP t) 0)),(8,.c (.map 1)),(9,.c (.slice 2 0 (mC t bl reps g.1).length g.2.2.1)),(10,.c (.slice 3 0 (mC t bl reps g.1).length g.2.2.2)),(11,.c (.slice 0 0 t.nc t.nc)),(34,.c (.int .i64 (g.1:Nat))),(13,.c (.int .i64 (g.1:Nat))),(14,.c (.int .i64 (((aD t).cell g.1):Nat))),(15,.c (.slice 4 0 (2*j.1) j.2)),(50,.c (.ds reps.length (.ints .i64 (aG reps)))),(51,.c (.int .i64 (reps.length:Nat))),(52,.c (.int .i64 (j.1:Nat)))]) (fun j=>[(0,.own 3 (.ints .i64 (mO t bl reps g.1)) t.nc),(1,.mp 118 (dh eL (mK t bl reps g.1))),(2,.own 3 (.ints .i64 (aG (mC t bl reps g.1))) g.2.2.1),(3,.own 53 (.u64s g.2.1) (g.2.2.2*4)),(4,.own 5 (.u8s (gU (r9 t bl reps ((aD t).cell g.1) j.1))) j.2)]) 5 (fun j=>j.1<=reps.length/\2*j.1<=j.2) (fun j=>reps.length - j.1) ?_ ?_))
       ·have K0:=y9 t bl reps ((aD t).cell g.1)
        refine ai [] id (0,2*reps.length) ⟨Nat.zero_le _,by omega⟩ [0,1,2,3,4] bn bn bn bn
       ·intro j hj
        have hj1:=hj.1
        have hj2:=hj.2
        have hkl:=T8 t bl reps ((aD t).cell g.1) j.1
        refine aO l7 fun _ K41=>jv ?_;refine aJ K41 (aH fun _ K42=>bC (b:=_) rfl (fun h_t53=>?_) (fun h_t53=>?_))
        ·try simp only[dQ,reduceIte]at h_t53
         refine bK (K42 _ _ _ (aH fun _ K43=>bO ?_))
         have hjl:j.1< reps.length:=by omega
         have hpl:=hlt _ (ho.rep j.1 hjl).1
         have hpl:(eD reps j.1)< t.next.length:=hpl
         have hrw:=oz hok hpl
         have hx:=bz hok hpl hcb.1
         have hbl:=ho.len
         refine aO l7 fun _ K45=>jv ?_;refine vD ?_;refine aU (.c (.int .i64 ((((eD reps j.1):Nat):Int)))) (az ((congrArg (fun i=>(aG reps).getD i 0) (by omega)).trans jd)) (jv ?_);refine aJ K45 (aO l7 fun _ K47=>?_)
         iterate 2 refine jv ?_
         refine vD ?_;refine aU (.c (.ds t.next.length (.cells (aS t.next)))) (ak (sD hcl)) ?_
         iterate 2 refine jv ?_
         refine vD ?_;refine aU (.c (.ds (t.next.getD (eD reps j.1) []).length (.ints .i64 (t.next.getD (eD reps j.1) [])))) (ak (oh ⟨hpl,by omega⟩)) ?_
         iterate 2 refine jv ?_
         refine vD ?_;refine aU (.c (.int .i64 (((((aD t).δ (eD reps j.1) ((aD t).cell g.1)):Nat):Int)))) (az ((congrArg (fun i=>(t.next.getD (eD reps j.1) []).getD i 0) (by omega)).trans hx.2)) (jv ?_);refine vD ?_;refine aU (.c (.int .i64 (((aM bl ((aD t).δ (eD reps j.1) ((aD t).cell g.1)):Nat):Int)))) (az ((congrArg (fun i=>(aG bl).getD i 0) (by omega)).trans jd)) (jv ?_);refine aJ K47 (bB l7 fun _ K48=>?_)
         iterate 4 refine jv ?_
         refine vD ?_;refine aU (.c (.int .i64 (((aM bl ((aD t).δ (eD reps j.1) ((aD t).cell g.1)):Nat):Int) / 2 ^ 8))) (az (rfl)) ?_
         iterate 2 refine jv ?_
         refine vD ?_;intro cap7 hcap7;refine aL (jv ?_);refine aJ K48 (dD (K43 _ _ _ (bB l7 fun _ K49=>?_)))
         iterate 2 refine jv ?_
         refine aJ K49 ?_
         have K1:gU (r9 t bl reps ((aD t).cell g.1) j.1)++([]++[UInt8.ofInt ((aM bl ((aD t).δ (eD reps j.1) ((aD t).cell g.1)):Nat):Int),UInt8.ofInt (((aM bl ((aD t).δ (eD reps j.1) ((aD t).cell g.1)):Nat):Int) / 2 ^ 8)])=gU (r9 t bl reps ((aD t).cell g.1) (j.1+1)):=y8 t bl reps ((aD t).cell g.1) j.1
         refine ai [] (fun i=>if i=4 then 6 else i) (j.1+1,cap7) ⟨⟨by show j.1+1<=_;omega,by show 2*(j.1+1)<=cap7;omega⟩,by show _ - (j.1+1)< _;omega⟩ [0,1,2,3,6] ?_ ?_ ?_ ?_
         ·exact bn
         ·exact bn
         ·exact bn
         ·exact bn
        ·try simp only[dQ,reduceIte]at h_t53
         refine eY (bJ (bJ (eX (K37 _ _ _ ?_))))
         have hjn:j.1=reps.length:=by omega
         have hkl:=T8 t bl reps ((aD t).cell g.1) j.1
         rw[hjn];rw[hjn]at hkl;refine aO l7 fun _ K51=>?_
         iterate 3 refine jv ?_
         refine vD ?_;refine aI (y1e _) (And.intro (fun jj v hj=>?_) (fun hno=>?_))
         ·obtain⟨rfl,hkin⟩:=zvn ho.few hj
          refine aL ?_
          iterate 5 refine jv ?_
          refine aJ K51 (aH fun _ K52=>aO l7 fun _ K54=>?_)
          iterate 2 refine jv ?_
          refine aJ K54 (bC (b:=_) rfl (fun h_t84=>?_) (fun _=>?_))
          ·exfalso;cases h_t84
          refine bK (K52 _ _ _ (bB l7 fun _ K55=>?_))
          iterate 4 refine jv ?_
          refine ZN ?_;refine aJ K55 ?_
          have hoc:=QW (Nat.le_of_lt hb256) hkin
          have hX0:((mO t bl reps g.1).set (0+((((aD t).cell g.1):Nat):Int).toNat*1) (((fF (mK t bl reps g.1) (kC t bl reps ((aD t).cell g.1)):Nat):Int)))=(mO t bl reps (g.1+1)):=by
           rw[show 0+((((aD t).cell g.1):Nat):Int).toNat*1=((aD t).cell g.1) by omega,hoc];exact y09 hcb.1
          have hX1:(mK t bl reps g.1)=(mK t bl reps (g.1+1)):=(zT (c:=0) hkin).symm
          have hX3:(mC t bl reps g.1)=(mC t bl reps (g.1+1)):=(zP (c:=0) hkin).symm
          rw[hX1]at hX0;rw[hX1,hX3];rw[hX3]at hcw h9 h10;refine ai [] id (g.2.1,g.2.2.1,g.2.2.2) ⟨hcw,h9,h10⟩ [0,1,2,3] bn bn bn bn
         ·have hkno:=ES hno
          refine aL ?_
          iterate 5 refine jv ?_
          refine aJ K51 (aH fun _ K56=>aO l7 fun _ K58=>?_)
          iterate 2 refine jv ?_
          refine aJ K58 (bC (b:=_) rfl (fun _=>?_) (fun h_t84=>?_))
          rotate_left 1
          ·exfalso;cases h_t84
          refine aO l7 fun _ K60=>?_
          iterate 3 refine jv ?_
          refine aJ K60 (aO l7 fun _ K62=>?_)
          iterate 4 refine jv ?_
          refine jl ?_;refine aI rfl (And.intro (y1e _) (And.intro (fun jj u hj=>absurd (zvn ho.few hj).2 hkno) (fun hno2=>?_)));refine aL (aJ K62 (aO l7 fun _ K64=>?_))
          iterate 3 refine jv ?_
          refine vD ?_;intro cap3 hcap3;refine aL (jv ?_);refine aJ K64 ?_
          revert cap3 hcap3
          intro capA hcapA;refine bB l7 fun _ K65=>?_
          iterate 3 refine jv ?_
          refine vD ?_;intro cap3 hcap3;refine aL (jv ?_);refine aJ K65 (K56 _ _ _ (bB l7 fun _ K66=>?_))
          iterate 4 refine jv ?_
          refine ZN ?_;refine aJ K66 ?_
          have hoc:=y08 hb256 hkno
          have hml:=z59 (t:=aD t) (block:=aM bl) (reps:=eD reps) (k:=reps.length) g.1
          have hX0:((mO t bl reps g.1).set (0+((((aD t).cell g.1):Nat):Int).toNat*1) ((((mC t bl reps g.1).length:Nat):Int)))=(mO t bl reps (g.1+1)):=by
           rw[show 0+((((aD t).cell g.1):Nat):Int).toNat*1=((aD t).cell g.1) by omega,hml, <-hoc];exact y09 hcb.1
          have hX1:=ER (c:=0) hkno
          have hX3:=EP (c:=0) hkno
          have hX4:dh eL (mK t bl reps g.1)++[(.c (.str (gU (r9 t bl reps ((aD t).cell g.1) reps.length))),.c (.int .i64 (((mC t bl reps g.1).length:Nat):Int)))]=dh eL (mK t bl reps (g.1+1)):=by
           rw[show(mK t bl reps (g.1+1))=_ from hX1,hml, <-Sd, <-y1f]
          have hX5:aG (mC t bl reps g.1)++([]++[((((aD t).cell g.1):Nat):Int)])=aG (mC t bl reps (g.1+1)):=by rw[show(mC t bl reps (g.1+1))=_ from hX3,List.nil_append,z39]
          have hL0:(mC t bl reps g.1).length+1=(mC t bl reps (g.1+1)).length:=by rw[show(mC t bl reps (g.1+1))=_ from hX3,List.length_append];rfl
          have hcw2:=hcw.more (Nat.le_of_lt hb256) hml
          rw[hL0]at hcw2;refine ai [] (fun i=>if i=2 then 6 else if i=3 then 8 else i) (g.2.1++List.replicate 4 0,capA,cap3) ⟨hcw2,(by show _<=capA;omega),(by show _<=cap3;omega)⟩ [0,1,6,8] ?_ ?_ ?_ ?_
          ·exact bn
          ·exact bn
          ·exact bn
          ·exact bn
      ·have hex:∃ a,a< g.1/\(aD t).cell a=((aD t).cell g.1):=Classical.byContradiction fun hx=>by
        have e:=QB (block:=aM bl) (reps:=eD reps) (k:=reps.length) hcb.1 hx
        simp only[decide_eq_false_iff_not]at h_t45
        rw[e]at h_t45;exact h_t45 (by decide)
       refine bK ?_
       have hkin:=KZ (block:=aM bl) (reps:=eD reps) (k:=reps.length) hex
       have hX0:(mO t bl reps g.1)=(mO t bl reps (g.1+1)):=zU hex
       have hX1:(mK t bl reps g.1)=(mK t bl reps (g.1+1)):=(zT (c:=0) hkin).symm
       have hX3:(mC t bl reps g.1)=(mC t bl reps (g.1+1)):=(zP (c:=0) hkin).symm
       rw[hX0,hX1,hX3];rw[hX3]at hcw h9 h10;refine ai [] id (g.2.1,g.2.2.1,g.2.2.2) ⟨hcw,h9,h10⟩ [0,1,2,3] bn bn bn bn
     ·intro y hy
      have hyw:=hy.1
      have hy9:=hy.2.1
      have hy10:=hy.2.2
      have hywl:=hyw.len
      have hin1:kC t bl reps ((aD t).cell g.1)∈mK t bl reps (g.1+1):=TY.2 ⟨g.1,Nat.lt_succ_self _,rfl⟩
      have hol:(oC t bl reps ((aD t).cell g.1))< (mC t bl reps (g.1+1)).length:=by
       rw[z59]
       have h1:=Py hin1
       rwa [QW (by omega) hin1]at h1
      refine ry l7 [(0,true),(1,true),(2,true),(3,true),(4,true),(5,true),(6,true),(7,true),(8,true),(9,true),(10,true),(11,true),(12,true),(13,true),(14,false),(15,false),(16,false),(17,true),(18,false)] rfl aN aN fun _ K67=>?_
      iterate 4 refine Q3 ?_
      refine Tc ?_;refine aU (.c (.int .i64 ((((oC t bl reps ((aD t).cell g.1)):Nat):Int)))) (az ((congrArg (fun i=>((mO t bl reps (g.1+1))).getD i 0) (by omega)).trans (JD hcb.1 ⟨g.1,Nat.lt_succ_self _,rfl⟩))) ?_
      iterate 4 refine Q3 ?_
      refine Tc ?_;refine aU (.c (.int .i64 ((((oC t bl reps ((aD t).cell g.1)):Nat):Int)))) (az ((congrArg (fun i=>((mO t bl reps (g.1+1))).getD i 0) (by omega)).trans (JD hcb.1 ⟨g.1,Nat.lt_succ_self _,rfl⟩))) (Q3 ?_);refine Tc ?_;refine aU (.agg (.u64s ((y.1.drop ((oC t bl reps ((aD t).cell g.1))*4)).take 4))) (bq (congrArg (fun i=>SV.agg ((aB.u64s y.1).sub i 4)) (by omega))) (Q3 ?_);refine Tc ?_;refine aU (.c (.u8 (UInt8.ofNat g.1))) (bq (congrArg (fun v=>SV.c (Cell.u8 v)) (Sb _))) (KO ?_);refine y1t ?_;refine⟨[UInt8.ofNat g.1],rfl,(by show 1<=_;decide),oL ?_⟩
      first|refine aL ?_|(intro cap15 hcap15;refine aL ?_)
      refine y1t ?_;refine⟨(y.1.drop ((oC t bl reps ((aD t).cell g.1))*4)).take 4,vP [UInt8.ofNat g.1],rfl,⟨by rw[List.length_take,List.length_drop];omega,by simp⟩,oL ?_⟩
      first|refine aL ?_|(intro cap16 hcap16;refine aL ?_)
      refine Q3 ?_;refine yJ ?_;refine PQ (by simp only[Ld];omega) (aL (iF K67 (dD (K28 _ _ _ (bB l7 fun _ K68=>?_)))))
      iterate 2 refine jv ?_
      refine aJ K68 ?_
      have hP:y.1.take (0+(((oC t bl reps ((aD t).cell g.1)):Nat):Int).toNat*4)++l8 (fun x y=>x ||| y) ((y.1.drop ((oC t bl reps ((aD t).cell g.1))*4)).take 4) (vP [UInt8.ofNat g.1])++y.1.drop (0+(((oC t bl reps ((aD t).cell g.1)):Nat):Int).toNat*4+(l8 (fun x y=>x ||| y) ((y.1.drop ((oC t bl reps ((aD t).cell g.1))*4)).take 4) (vP [UInt8.ofNat g.1])).length)=pM y.1 (oC t bl reps ((aD t).cell g.1)) g.1:=by
       rw[Ld,show 0+(((oC t bl reps ((aD t).cell g.1)):Nat):Int).toNat*4=(oC t bl reps ((aD t).cell g.1))*4 by omega];unfold pM;rfl
      have hcp:=Jv hyw hb256 hol
      refine ai [] id (g.1+1,pM y.1 (oC t bl reps ((aD t).cell g.1)) g.1,y.2.1,y.2.2) ⟨⟨by show g.1+1<=256;omega,hcp,hy9,hy10⟩,by show 256 - (g.1+1)< _;omega⟩ [0,1,2,3] ?_ ?_ ?_ ?_
      ·exact bn
      ·exact bn
      ·exact bn
      ·exact bn
    ·try simp only[dQ,reduceIte]at h_t35
     refine eY (bJ (bJ (eX (K22 _ _ _ ?_))))
     have hgb:g.1=256:=by omega
     rw[hgb];rw[hgb]at hcw hml
     have hw5:(aB.u64s g.2.1).len=(mC t bl reps 256).length*(Qg.ty 53).size:=hcw.len
     refine aO l7 fun _ K70=>?_
     iterate 4 refine jv ?_
     refine aJ K70 (fQ [2,3] id [(6,.c (.ds (mC t bl reps 256).length (.ints .i64 (aG (mC t bl reps 256))))),(7,.c (.ds (mC t bl reps 256).length (.u64s g.2.1)))] [] 0 [] bn bn bn bn ?_);rw[hml, <-QX]at hcw;refine bQ (wU l7 (fun _ _ h=>h) [.tmp 6,.tmp 7] rfl ?_);exact h _ hcw


end Go.Proofs.YtpdljmohhpbkpaaDoor
