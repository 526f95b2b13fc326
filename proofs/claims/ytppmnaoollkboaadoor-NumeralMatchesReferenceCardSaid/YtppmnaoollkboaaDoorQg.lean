/- Contracts of functions and plain facts, part 7. -/
import Derived.Test.YtppmnaoollkboaaDoorQd
import Derived.Test.YtppmnaoollkboaaDoorQe
set_option maxHeartbeats 2000000
set_option maxRecDepth 4000
namespace Go.Proofs.YtppmnaoollkboaaDoor
set_option linter.all false
open Go.Ab Go.RowKit

section
variable {a b:Prop}
theorem qUn0(h:a:=by first|exact vcA|(simp[-List.reduceReplicate]<;>omega)|exact vTh|exact⟨by omega,by omega,trivial⟩|(simp only[zai,zjl];omega)|(rw[zai,zjl];omega)|(simp only[z10,z4h];omega)|(simp only[z10,zd3];exact hcb.1)|(simp only[z10,zd3];have:=hcb.1;show _< t.nc;omega)|exact vcB):a:=h
theorem qUn1(h:a:=by first|exact vcA|(simp[-List.reduceReplicate]<;>omega)|exact vTh|(simp only[z4n,z33];omega)|(simp only[z10,zd3];have:=hcb.1;show _< t.nc;omega)|(show _∧_;refine⟨by omega,by omega,?_⟩)|exact vcB):a:=h
theorem uUn_0(h:a:=by
    repeat' (first|assumption|exact zx5|exact zr9|exact z9t zgj _ _|exact z3i zgj _|exact pT|exact trivial|refine aI ?_ ?_|exact cC0|refine low_cons' ?_ ?_|exact cC1|fail)
    all_goals first|omega|exact zx5|exact zr9|exact hM0|(refine Eq.symm (if_pos (And.intro rfl ?_));first|exact hw5|(show(natsI _).length=_;rw[z0n,Nat.mul_one]))|(rw[Nat.zero_add];exact Nat.le_of_eq hw5.symm)|exact hL0|exact hL1|(show(_:List Int)=_;first|assumption|rfl)|(show(_:List UInt8)=_;first|assumption|exact K0|rfl)|(show(_:List UInt64)=_;first|assumption|rfl)|(show(_:List (SV×SV))=_;first|assumption|rfl)|exact z9t zgj _ _|exact z3i zgj _|(rw[hX4];exact z3i zgj _)|(show(0:Nat)< (z08 _ _ _ _).length;rw[z06 hcl];decide)|(simp[-List.reduceReplicate];done)|(simp[-List.reduceReplicate]<;>omega)|skip):a:=h
theorem DUn_0(kZ:b)(h:HidB b→a:=by intro kZ;(repeat first|refine aI qUn0 ?_|refine z0a qUn0 ?_|refine z07 qUn0 ?_|refine z0l qUn0 ?_|refine z0c ?_);exact kZ.out):a:=h ⟨kZ⟩
theorem z1d(kZ:b)(h:HidB b→a:=by intro kZ;refine sX ?_;refine DUn_0 ?_;refine exI ?_;exact kZ.out):a:=h ⟨kZ⟩
theorem zox(kZ:b)(h:HidB b→a:=by intro kZ;refine sX0 ?_;refine DUn_0 ?_;refine exI ?_;exact kZ.out):a:=h ⟨kZ⟩
theorem DUn_3(kZ:b)(h:HidB b→a:=by intro kZ;(repeat first|refine aI qUn1 ?_|refine z0a qUn1 ?_|refine z07 qUn1 ?_|refine z0l qUn1 ?_|refine z0c ?_);exact kZ.out):a:=h ⟨kZ⟩
theorem zmb(kZ:b)(h:HidB b→a:=by intro kZ;refine dX ?_;refine DUn_3 ?_;refine exI ?_;exact kZ.out):a:=h ⟨kZ⟩
theorem gXUn_5(kZ:b)(h:HidB b→a:=by intro kZ;refine gX ?_;refine DUn_3 ?_;refine exI ?_;exact kZ.out):a:=h ⟨kZ⟩
theorem z56(kZ:b)(h:HidB b→a:=by intro kZ;refine sX ?_;refine DUn_0 ?_;exact kZ.out):a:=h ⟨kZ⟩
theorem zjm(kZ:b)(h:HidB b→a:=by intro kZ;refine dX ?_;refine DUn_3 ?_;exact kZ.out):a:=h ⟨kZ⟩
theorem zx9(kZ:b)(h:HidB b→a:=by intro kZ;refine gX ?_;refine DUn_3 ?_;exact kZ.out):a:=h ⟨kZ⟩
theorem gX0EUn_9(kZ:b)(h:HidB b→a:=by intro kZ;refine gX0 ?_;refine DUn_3 ?_;exact kZ.out):a:=h ⟨kZ⟩
end
open Go.Aut
attribute [local irreducible] z0o z0y zl z08 z0v putB encN kcN fillN mof mks mcs ofC putC
noncomputable def gm1:Ctx:={ P:=Tryd.prog,ty:=ty,glob:=gl,fs:=[(155,.flat ofBS),(107,.flat zqx)] }
theorem z2a:gm1.OK:=⟨tyOK,⟨⟨z0b Tryd.func155 kR rfl,ofB_ok⟩,⟨z0b Tryd.func107 kR rfl,zj9⟩,trivial⟩,mixed⟩
@[simp] theorem gm1_ty:gm1.ty=ty:=rfl

def mergeS:NSpec:=fun vs K=>∃ (t:Tab) (bl reps l:List Nat),vs=[tabV t,.c (.ds bl.length (.ints .i64 (natsI bl))),.c (.ds reps.length (.ints .i64 (natsI reps)))]∧t.fit∧BlkOut (tblT t) l bl reps t.next.length∧(∀ s∈l,s< t.next.length)∧∀ cw:List UInt64,Cw (tblT t) (blkF bl) (rpF reps) reps.length cw (ncC (tblT t) (blkF bl) (rpF reps) reps.length) 256→K (.tup [.c (.ds (mC t bl reps 256).length (.ints .i64 (natsI (mC t bl reps 256)))),.c (.ds (mC t bl reps 256).length (.u64s cw))]) [] 0
theorem merge_ok:NewOK Tryd.prog gl 141 mergeS:=by
 refine new_of (Γ:=gm1) (N:=124) Tryd.func141 rfl rfl fun vs K h=>?_;obtain⟨t,bl,reps,l,rfl,ht,ho,hlt,h⟩:=h;refine⟨by simp,fun w I=>?_⟩;obtain⟨hok,hlen,hnc⟩:=ht
 have hcl:=hok.clen
 have hrl:reps.length≤65535:=Nat.le_trans (z9u ho hlt) hlen
 refine srR z2a fun _ K2=>?_
 iterate 3 refine z1d ?_
 refine s_n K2 ?_;refine srR z2a fun _ K4=>?_
 iterate 2 refine z1d ?_
 refine s_n K4 ?_;refine srR z2a fun _ K6=>?_;refine z1d ?_;refine s_n K6 ?_;refine srR z2a fun _ K8=>?_;refine z1d ?_;refine s_n K8 ?_;refine leW [0] (fun _=>1) [(1,.c (.ds bl.length (.ints .i64 (natsI bl)))),(2,.c (.ds reps.length (.ints .i64 (natsI reps)))),(3,.c (.dp (tabC t) 0)),(8,.c (.map 0)),(9,.c .nils),(10,.c .nils)] [(0,.mp 184 [])] 1 [1] uUn_0 uUn_0 uUn_0 uUn_0 ?_;refine srR z2a fun _ K10=>?_;refine z1d ?_;refine z56 ?_;refine exA (.c (.int .i64 (t.nc:Nat))) (as_c (tab_ncl hcl)) ?_
 iterate 2 refine z1d ?_
 refine s_n K10 ?_;refine seq_k fun _ K11=>?_;refine srR z2a fun _ K13=>?_
 iterate 3 refine z1d ?_
 refine s_n K13 ?_;refine z03 ?_;refine z0m (α:=Nat) (fun k=>[(1,.c (.ds bl.length (.ints .i64 (natsI bl)))),(2,.c (.ds reps.length (.ints .i64 (natsI reps)))),(3,.c (.dp (tabC t) 0)),(8,.c (.map 1)),(9,.c .nils),(10,.c .nils),(11,.c (.slice 0 0 t.nc t.nc)),(26,.c (.int .i64 (t.nc:Nat))),(27,.c (.int .i64 (k:Nat)))]) (fun k=>[(0,.own 3 (.ints .i64 (fillN t.nc (-1) k)) t.nc),(1,.mp 184 [])]) 2 (fun k=>k≤t.nc) (fun k=>t.nc - k) ?_ ?_
 ·have hZ:List.replicate t.nc (0:Int)=fillN t.nc (-1) 0:=(z7u _ _).symm
  refine dnS [] (fun i=>if i=0 then 1 else 0) 0 (Nat.zero_le _) [1,0] uUn_0 uUn_0 uUn_0 uUn_0
 ·intro k hk
  refine srR z2a fun _ K15=>?_;refine z1d ?_;refine s_n K15 ?_;refine seq_k fun _ K16=>?_;refine z04 (b:=_) rfl (fun h_t28=>?_) (fun h_t28=>?_)
  ·try simp only[dQ,reduceIte]at h_t28
   refine z09 ?_;apply K16;refine seq_k fun _ K17=>?_;refine z03 ?_;refine srR z2a fun _ K19=>?_
   iterate 2 refine z1d ?_
   refine s_n K19 ?_
   have hkl:k< t.nc:=by omega
   refine z01 z2a fun _ K20=>?_
   iterate 3 refine z1d ?_
   refine zox ?_;refine s_n K20 ?_;refine z05 ?_;apply K17;refine z01 z2a fun _ K21=>?_
   iterate 2 refine z1d ?_
   refine s_n K21 ?_
   have hX1:(fillN t.nc (-1) k).set (0+((k:Nat):Int).toNat*1) (-1)=fillN t.nc (-1) (k+1):=by rw[show 0+((k:Nat):Int).toNat*1=k by omega];exact z92 _ hkl
   refine dnS [] id (k+1) ⟨by omega,by omega⟩ [0,1] uUn_0 uUn_0 uUn_0 uUn_0
  ·try simp only[dQ,reduceIte]at h_t28
   refine z0i ?_;refine z00 ?_;refine z00 ?_;refine z0f ?_;apply K11;refine seq_k fun _ K22=>?_;refine srR z2a fun _ K24=>?_;refine z1d ?_;refine s_n K24 ?_;refine z03 ?_
   obtain rfl:k=t.nc:=by omega
   refine zqb 9 3 (.ints .i64 []) rfl rfl trivial ?_;refine zqb 10 50 (.u64s []) rfl rfl trivial ?_;refine z0m (α:=Nat×List UInt64×Nat×Nat) (fun g=>[(1,.c (.ds bl.length (.ints .i64 (natsI bl)))),(2,.c (.ds reps.length (.ints .i64 (natsI reps)))),(3,.c (.dp (tabC t) 0)),(8,.c (.map 1)),(9,.c (.slice 2 0 (mC t bl reps g.1).length g.2.2.1)),(10,.c (.slice 3 0 (mC t bl reps g.1).length g.2.2.2)),(11,.c (.slice 0 0 t.nc t.nc)),(34,.c (.int .i64 (g.1:Nat)))]) (fun g=>[(0,.own 3 (.ints .i64 (mO t bl reps g.1)) t.nc),(1,.mp 184 (mapE eL (mK t bl reps g.1))),(2,.own 3 (.ints .i64 (natsI (mC t bl reps g.1))) g.2.2.1),(3,.own 50 (.u64s g.2.1) (g.2.2.2*4))]) 4 (fun g=>g.1≤256∧Cw (tblT t) (blkF bl) (rpF reps) reps.length g.2.1 (mC t bl reps g.1).length g.1∧(mC t bl reps g.1).length≤g.2.2.1∧(mC t bl reps g.1).length≤g.2.2.2) (fun g=>256 - g.1) ?_ ?_
   ·have hZ:fillN t.nc (-1) t.nc=(mO t bl reps 0):=by rw[z91];exact mO_zero t bl reps
    have hL0:0=(mC t bl reps 0).length:=by rw[zx4];rfl
    have hM0:=mK_zero t bl reps
    have hN0:([]:List Int)=natsI (mC t bl reps 0):=by rw[zx4];rfl
    refine dnS [] id (0,[],0,0) ⟨Nat.zero_le _,mC_cw t bl reps,mC_zl t bl reps,mC_zl t bl reps⟩ [0,1,2,3] uUn_0 uUn_0 uUn_0 uUn_0
   ·intro g hg
    have hg1:=hg.1
    have hcw:=hg.2.1
    have h9:=hg.2.2.1
    have h10:=hg.2.2.2
    have hcwl:=hcw.len
    have hml:=z3p (t:=tblT t) (block:=blkF bl) (reps:=rpF reps) (k:=reps.length) g.1
    have hmb:(mC t bl reps g.1).length≤256:=Nat.le_trans (mC_le t bl reps g.1) hg1
    refine srR z2a fun _ K26=>?_;refine z1d ?_;refine s_n K26 ?_;refine seq_k fun _ K27=>?_;refine z04 (b:=_) rfl (fun h_t35=>?_) (fun h_t35=>?_)
    ·try simp only[dQ,reduceIte]at h_t35
     refine z09 ?_;apply K27;refine seq_k fun _ K28=>?_;refine z03 ?_;refine srR z2a fun _ K30=>?_
     iterate 2 refine z1d ?_
     refine s_n K30 ?_
     have hb256:g.1< 256:=by omega
     have hcb:=cellN hok hb256
     refine srR z2a fun _ K32=>?_
     iterate 3 refine z1d ?_
     refine z56 ?_;refine exA (.c (.int .i64 ((((tblT t).cell g.1):Nat):Int))) (as_c ((tab_cl hcl (by first|omega|(simp;done)) hb256).trans (congrArg (Cell.int IntKind.i64) hcb.2))) ?_;refine z1d ?_;refine s_n K32 ?_;refine z27 (α:=List UInt64×Nat×Nat) (fun y=>[(1,.c (.ds bl.length (.ints .i64 (natsI bl)))),(2,.c (.ds reps.length (.ints .i64 (natsI reps)))),(3,.c (.dp (tabC t) 0)),(8,.c (.map 1)),(9,.c (.slice 2 0 (mC t bl reps (g.1+1)).length y.2.1)),(10,.c (.slice 3 0 (mC t bl reps (g.1+1)).length y.2.2)),(11,.c (.slice 0 0 t.nc t.nc)),(34,.c (.int .i64 (g.1:Nat))),(13,.c (.int .i64 (g.1:Nat))),(14,.c (.int .i64 (((tblT t).cell g.1):Nat)))]) (fun y=>[(0,.own 3 (.ints .i64 (mO t bl reps (g.1+1))) t.nc),(1,.mp 184 (mapE eL (mK t bl reps (g.1+1)))),(2,.own 3 (.ints .i64 (natsI (mC t bl reps (g.1+1)))) y.2.1),(3,.own 50 (.u64s y.1) (y.2.2*4))]) 4 (fun y=>Cw (tblT t) (blkF bl) (rpF reps) reps.length y.1 (mC t bl reps (g.1+1)).length g.1∧(mC t bl reps (g.1+1)).length≤y.2.1∧(mC t bl reps (g.1+1)).length≤y.2.2) ?_ ?_
     ·refine srR z2a fun _ K34=>?_
      iterate 3 refine z1d ?_
      refine z56 ?_;refine exA (.c (.int .i64 ((mO t bl reps g.1).getD ((tblT t).cell g.1) 0))) (as_i (congrArg (fun i=>((mO t bl reps g.1)).getD i 0) (by omega))) ?_;refine z1d ?_;refine s_n K34 ?_;refine z04 (b:=_) rfl (fun h_t45=>?_) (fun h_t45=>?_)
      ·have hnex:¬ ∃ a,a< g.1∧(tblT t).cell a=((tblT t).cell g.1):=fun hx=>by
        have e:=z8u (block:=blkF bl) (reps:=rpF reps) (k:=reps.length) hcb.1 hx
        simp only[decide_eq_true_eq]at h_t45
        rw[e]at h_t45;omega
       have hrl2:reps.length≤65535:=hrl
       refine srR z2a fun _ K36=>?_
       iterate 5 refine z1d ?_
       refine s_n K36 ?_;refine seq_k fun _ K37=>?_;refine srR z2a fun _ K39=>?_
       iterate 3 refine z1d ?_
       refine s_n K39 ?_;refine z03 ?_;refine z0m (α:=Nat×Nat) (fun j=>[(1,.c (.ds bl.length (.ints .i64 (natsI bl)))),(2,.c (.ds reps.length (.ints .i64 (natsI reps)))),(3,.c (.dp (tabC t) 0)),(8,.c (.map 1)),(9,.c (.slice 2 0 (mC t bl reps g.1).length g.2.2.1)),(10,.c (.slice 3 0 (mC t bl reps g.1).length g.2.2.2)),(11,.c (.slice 0 0 t.nc t.nc)),(34,.c (.int .i64 (g.1:Nat))),(13,.c (.int .i64 (g.1:Nat))),(14,.c (.int .i64 (((tblT t).cell g.1):Nat))),(15,.c (.slice 4 0 (2*j.1) j.2)),(50,.c (.ds reps.length (.ints .i64 (natsI reps)))),(51,.c (.int .i64 (reps.length:Nat))),(52,.c (.int .i64 (j.1:Nat)))]) (fun j=>[(0,.own 3 (.ints .i64 (mO t bl reps g.1)) t.nc),(1,.mp 184 (mapE eL (mK t bl reps g.1))),(2,.own 3 (.ints .i64 (natsI (mC t bl reps g.1))) g.2.2.1),(3,.own 50 (.u64s g.2.1) (g.2.2.2*4)),(4,.own 5 (.u8s (encN (kcN t bl reps ((tblT t).cell g.1) j.1))) j.2)]) 5 (fun j=>j.1≤reps.length∧2*j.1≤j.2) (fun j=>reps.length - j.1) ?_ ?_
       ·have K0:=kcN_zero t bl reps ((tblT t).cell g.1)
        refine dnS [] id (0,2*reps.length) ⟨Nat.zero_le _,by omega⟩ [0,1,2,3,4] uUn_0 uUn_0 uUn_0 uUn_0
       ·intro j hj
        have hj1:=hj.1
        have hj2:=hj.2
        have hkl:=zjl t bl reps ((tblT t).cell g.1) j.1
        refine srR z2a fun _ K41=>?_;refine z1d ?_;refine s_n K41 ?_;refine seq_k fun _ K42=>?_;refine z04 (b:=_) rfl (fun h_t53=>?_) (fun h_t53=>?_)
        ·try simp only[dQ,reduceIte]at h_t53
         refine z09 ?_;apply K42;refine seq_k fun _ K43=>?_;refine z03 ?_
         have hjl:j.1< reps.length:=by omega
         have hpl:=hlt _ (ho.rep j.1 hjl).1
         have hpl:(rpF reps j.1)< t.next.length:=hpl
         have hrw:=z8z hok hpl
         have hx:=nextN hok hpl hcb.1
         have hbl:=ho.len
         refine srR z2a fun _ K45=>?_;refine z1d ?_;refine z56 ?_;refine exA (.c (.int .i64 ((((rpF reps j.1):Nat):Int)))) (as_i ((congrArg (fun i=>(natsI reps).getD i 0) (by omega)).trans z0q)) ?_;refine z1d ?_;refine s_n K45 ?_;refine srR z2a fun _ K47=>?_
         iterate 2 refine z1d ?_
         refine z56 ?_;refine exA (.c (.ds t.next.length (.cells (rowsC t.next)))) (as_c (zaa hcl)) ?_
         iterate 2 refine z1d ?_
         refine z56 ?_;refine exA (.c (.ds (t.next.getD (rpF reps j.1) []).length (.ints .i64 (t.next.getD (rpF reps j.1) [])))) (as_c (z6e ⟨hpl,by omega⟩)) ?_
         iterate 2 refine z1d ?_
         refine z56 ?_;refine exA (.c (.int .i64 (((((tblT t).δ (rpF reps j.1) ((tblT t).cell g.1)):Nat):Int)))) (as_i ((congrArg (fun i=>(t.next.getD (rpF reps j.1) []).getD i 0) (by omega)).trans hx.2)) ?_;refine z1d ?_;refine z56 ?_;refine exA (.c (.int .i64 (((blkF bl ((tblT t).δ (rpF reps j.1) ((tblT t).cell g.1)):Nat):Int)))) (as_i ((congrArg (fun i=>(natsI bl).getD i 0) (by omega)).trans z0q)) ?_;refine z1d ?_;refine s_n K47 ?_;refine z01 z2a fun _ K48=>?_
         iterate 4 refine z1d ?_
         refine z56 ?_;refine exA (.c (.int .i64 (((blkF bl ((tblT t).δ (rpF reps j.1) ((tblT t).cell g.1)):Nat):Int) / 2 ^ 8))) (as_i (rfl)) ?_
         iterate 2 refine z1d ?_
         refine z56 ?_;intro cap7 hcap7;refine exI ?_;refine z1d ?_;refine s_n K48 ?_;refine z05 ?_;apply K43;refine z01 z2a fun _ K49=>?_
         iterate 2 refine z1d ?_
         refine s_n K49 ?_
         have K1:encN (kcN t bl reps ((tblT t).cell g.1) j.1)++([]++[UInt8.ofInt ((blkF bl ((tblT t).δ (rpF reps j.1) ((tblT t).cell g.1)):Nat):Int),UInt8.ofInt (((blkF bl ((tblT t).δ (rpF reps j.1) ((tblT t).cell g.1)):Nat):Int) / 2 ^ 8)])=encN (kcN t bl reps ((tblT t).cell g.1) (j.1+1)):=kcN_succ t bl reps ((tblT t).cell g.1) j.1
         refine dnS [] (fun i=>if i=4 then 6 else i) (j.1+1,cap7) ⟨⟨by show j.1+1≤_;omega,by show 2*(j.1+1)≤cap7;omega⟩,by show _ - (j.1+1)< _;omega⟩ [0,1,2,3,6] ?_ ?_ ?_ ?_
         ·exact uUn_0
         ·exact uUn_0
         ·exact uUn_0
         ·exact uUn_0
        ·try simp only[dQ,reduceIte]at h_t53
         refine z0i ?_;refine z00 ?_;refine z00 ?_;refine z0f ?_;apply K37
         have hjn:j.1=reps.length:=by omega
         have hkl:=zjl t bl reps ((tblT t).cell g.1) j.1
         rw[hjn];rw[hjn]at hkl;refine srR z2a fun _ K51=>?_
         iterate 3 refine z1d ?_
         refine z56 ?_;refine aI (zx2 _) (And.intro (fun jj v hj=>?_) (fun hno=>?_))
         ·obtain⟨rfl,hkin⟩:=zr8 ho.few hj
          refine exI ?_
          iterate 5 refine z1d ?_
          refine s_n K51 ?_;refine seq_k fun _ K52=>?_;refine srR z2a fun _ K54=>?_
          iterate 2 refine z1d ?_
          refine s_n K54 ?_;refine z04 (b:=_) rfl (fun h_t84=>?_) (fun _=>?_)
          ·exfalso;cases h_t84
          refine z09 ?_;apply K52;refine z01 z2a fun _ K55=>?_
          iterate 4 refine z1d ?_
          refine zox ?_;refine s_n K55 ?_
          have hoc:=zlv (Nat.le_of_lt hb256) hkin
          have hX0:((mO t bl reps g.1).set (0+((((tblT t).cell g.1):Nat):Int).toNat*1) (((idxK (mK t bl reps g.1) (kC t bl reps ((tblT t).cell g.1)):Nat):Int)))=(mO t bl reps (g.1+1)):=by
           rw[show 0+((((tblT t).cell g.1):Nat):Int).toNat*1=((tblT t).cell g.1) by omega,hoc];exact zvl hcb.1
          have hX1:(mK t bl reps g.1)=(mK t bl reps (g.1+1)):=(mks_in (c:=0) hkin).symm
          have hX3:(mC t bl reps g.1)=(mC t bl reps (g.1+1)):=(mcs_in (c:=0) hkin).symm
          rw[hX1]at hX0;rw[hX1,hX3];rw[hX3]at hcw h9 h10;refine dnS [] id (g.2.1,g.2.2.1,g.2.2.2) ⟨hcw,h9,h10⟩ [0,1,2,3] uUn_0 uUn_0 uUn_0 uUn_0
         ·have hkno:=mmap_no hno
          refine exI ?_
          iterate 5 refine z1d ?_
          refine s_n K51 ?_;refine seq_k fun _ K56=>?_;refine srR z2a fun _ K58=>?_
          iterate 2 refine z1d ?_
          refine s_n K58 ?_;refine z04 (b:=_) rfl (fun _=>?_) (fun h_t84=>?_)
          rotate_left 1
          ·exfalso;cases h_t84
          refine srR z2a fun _ K60=>?_
          iterate 3 refine z1d ?_
          refine s_n K60 ?_;refine srR z2a fun _ K62=>?_
          iterate 4 refine z1d ?_
          refine sX0 ?_;refine aI rfl (And.intro (zx2 _) (And.intro (fun jj u hj=>absurd (zr8 ho.few hj).2 hkno) (fun hno2=>?_)));refine exI ?_;refine s_n K62 ?_;refine srR z2a fun _ K64=>?_
          iterate 3 refine z1d ?_
          refine z56 ?_;intro cap3 hcap3;refine exI ?_;refine z1d ?_;refine s_n K64 ?_
          revert cap3 hcap3
          intro capA hcapA;refine z01 z2a fun _ K65=>?_
          iterate 3 refine z1d ?_
          refine z56 ?_;intro cap3 hcap3;refine exI ?_;refine z1d ?_;refine s_n K65 ?_;apply K56;refine z01 z2a fun _ K66=>?_
          iterate 4 refine z1d ?_
          refine zox ?_;refine s_n K66 ?_
          have hoc:=zvk hb256 hkno
          have hml:=z3p (t:=tblT t) (block:=blkF bl) (reps:=rpF reps) (k:=reps.length) g.1
          have hX0:((mO t bl reps g.1).set (0+((((tblT t).cell g.1):Nat):Int).toNat*1) ((((mC t bl reps g.1).length:Nat):Int)))=(mO t bl reps (g.1+1)):=by
           rw[show 0+((((tblT t).cell g.1):Nat):Int).toNat*1=((tblT t).cell g.1) by omega,hml, ←hoc];exact zvl hcb.1
          have hX1:=mks_out (c:=0) hkno
          have hX3:=mcs_out (c:=0) hkno
          have hX4:mapE eL (mK t bl reps g.1)++[(.c (.str (encN (kcN t bl reps ((tblT t).cell g.1) reps.length))),.c (.int .i64 (((mC t bl reps g.1).length:Nat):Int)))]=mapE eL (mK t bl reps (g.1+1)):=by
           rw[show(mK t bl reps (g.1+1))=_ from hX1,hml, ←zgg, ←zx3]
          have hX5:natsI (mC t bl reps g.1)++([]++[((((tblT t).cell g.1):Nat):Int)])=natsI (mC t bl reps (g.1+1)):=by rw[show(mC t bl reps (g.1+1))=_ from hX3,List.nil_append,z39]
          have hL0:(mC t bl reps g.1).length+1=(mC t bl reps (g.1+1)).length:=by rw[show(mC t bl reps (g.1+1))=_ from hX3,List.length_append];rfl
          have hcw2:=hcw.more (Nat.le_of_lt hb256) hml
          rw[hL0]at hcw2;refine dnS [] (fun i=>if i=2 then 6 else if i=3 then 8 else i) (g.2.1++List.replicate 4 0,capA,cap3) ⟨hcw2,(by show _≤capA;omega),(by show _≤cap3;omega)⟩ [0,1,6,8] ?_ ?_ ?_ ?_
          ·exact uUn_0
          ·exact uUn_0
          ·exact uUn_0
          ·exact uUn_0
      ·have hex:∃ a,a< g.1∧(tblT t).cell a=((tblT t).cell g.1):=Classical.byContradiction fun hx=>by
        have e:=zg4 (block:=blkF bl) (reps:=rpF reps) (k:=reps.length) hcb.1 hx
        simp only[decide_eq_false_iff_not]at h_t45
        rw[e]at h_t45;exact h_t45 (by decide)
       refine z09 ?_
       have hkin:=met_in (block:=blkF bl) (reps:=rpF reps) (k:=reps.length) hex
       have hX0:(mO t bl reps g.1)=(mO t bl reps (g.1+1)):=mof_same hex
       have hX1:(mK t bl reps g.1)=(mK t bl reps (g.1+1)):=(mks_in (c:=0) hkin).symm
       have hX3:(mC t bl reps g.1)=(mC t bl reps (g.1+1)):=(mcs_in (c:=0) hkin).symm
       rw[hX0,hX1,hX3];rw[hX3]at hcw h9 h10;refine dnS [] id (g.2.1,g.2.2.1,g.2.2.2) ⟨hcw,h9,h10⟩ [0,1,2,3] uUn_0 uUn_0 uUn_0 uUn_0
     ·intro y hy
      have hyw:=hy.1
      have hy9:=hy.2.1
      have hy10:=hy.2.2
      have hywl:=hyw.len
      have hin1:kC t bl reps ((tblT t).cell g.1)∈mK t bl reps (g.1+1):=zj6.2 ⟨g.1,Nat.lt_succ_self _,rfl⟩
      have hol:(oC t bl reps ((tblT t).cell g.1))< (mC t bl reps (g.1+1)).length:=by
       rw[z3p]
       have h1:=zak hin1
       rwa [zlv (by omega) hin1]at h1
      refine z69 z2a [(0,true),(1,true),(2,true),(3,true),(4,true),(5,true),(6,true),(7,true),(8,true),(9,true),(10,true),(11,true),(12,true),(13,true),(14,false),(15,false),(16,false),(17,true),(18,false)] rfl kR kR fun _ K67=>?_
      iterate 4 refine zmb ?_
      refine zjm ?_;refine exA (.c (.int .i64 ((((oC t bl reps ((tblT t).cell g.1)):Nat):Int)))) (as_i ((congrArg (fun i=>((mO t bl reps (g.1+1))).getD i 0) (by omega)).trans (z8u hcb.1 ⟨g.1,Nat.lt_succ_self _,rfl⟩))) ?_
      iterate 4 refine zmb ?_
      refine zjm ?_;refine exA (.c (.int .i64 ((((oC t bl reps ((tblT t).cell g.1)):Nat):Int)))) (as_i ((congrArg (fun i=>((mO t bl reps (g.1+1))).getD i 0) (by omega)).trans (z8u hcb.1 ⟨g.1,Nat.lt_succ_self _,rfl⟩))) ?_;refine zmb ?_;refine zjm ?_;refine exA (.agg (.u64s ((y.1.drop ((oC t bl reps ((tblT t).cell g.1))*4)).take 4))) (as_eq (congrArg (fun i=>SV.agg ((Cont.u64s y.1).sub i 4)) (by omega))) ?_;refine zmb ?_;refine zjm ?_;refine exA (.c (.u8 (UInt8.ofNat g.1))) (as_eq (congrArg (fun v=>SV.c (Cell.u8 v)) (z2y _))) ?_;refine gXUn_5 ?_;refine zx9 ?_;refine⟨[UInt8.ofNat g.1],rfl,(by show 1≤_;decide),?_⟩;refine DUn_3 ?_
      first|refine exI ?_|(intro cap15 hcap15;refine exI ?_)
      refine zx9 ?_;refine⟨(y.1.drop ((oC t bl reps ((tblT t).cell g.1))*4)).take 4,ofW [UInt8.ofNat g.1],rfl,⟨by rw[List.length_take,List.length_drop];omega,by simp⟩,?_⟩;refine DUn_3 ?_
      first|refine exI ?_|(intro cap16 hcap16;refine exI ?_)
      refine zmb ?_;refine gX0EUn_9 ?_;refine zgi (by simp only[z33];omega) ?_;refine exI ?_;refine d_n K67 ?_;refine z05 ?_;apply K28;refine z01 z2a fun _ K68=>?_
      iterate 2 refine z1d ?_
      refine s_n K68 ?_
      have hP:y.1.take (0+(((oC t bl reps ((tblT t).cell g.1)):Nat):Int).toNat*4)++zipC (fun x y=>x ||| y) ((y.1.drop ((oC t bl reps ((tblT t).cell g.1))*4)).take 4) (ofW [UInt8.ofNat g.1])++y.1.drop (0+(((oC t bl reps ((tblT t).cell g.1)):Nat):Int).toNat*4+(zipC (fun x y=>x ||| y) ((y.1.drop ((oC t bl reps ((tblT t).cell g.1))*4)).take 4) (ofW [UInt8.ofNat g.1])).length)=putC y.1 (oC t bl reps ((tblT t).cell g.1)) g.1:=by
       rw[z33,show 0+(((oC t bl reps ((tblT t).cell g.1)):Nat):Int).toNat*4=(oC t bl reps ((tblT t).cell g.1))*4 by omega];unfold putC;rfl
      have hcp:=cw_put hyw hb256 hol
      refine dnS [] id (g.1+1,putC y.1 (oC t bl reps ((tblT t).cell g.1)) g.1,y.2.1,y.2.2) ⟨⟨by show g.1+1≤256;omega,hcp,hy9,hy10⟩,by show 256 - (g.1+1)< _;omega⟩ [0,1,2,3] ?_ ?_ ?_ ?_
      ·exact uUn_0
      ·exact uUn_0
      ·exact uUn_0
      ·exact uUn_0
    ·try simp only[dQ,reduceIte]at h_t35
     refine z0i ?_;refine z00 ?_;refine z00 ?_;refine z0f ?_;apply K22
     have hgb:g.1=256:=by omega
     rw[hgb];rw[hgb]at hcw hml
     have hw5:(Cont.u64s g.2.1).len=(mC t bl reps 256).length*(gm1.ty 50).size:=hcw.len
     refine srR z2a fun _ K70=>?_
     iterate 4 refine z1d ?_
     refine s_n K70 ?_;refine leW [2,3] id [(6,.c (.ds (mC t bl reps 256).length (.ints .i64 (natsI (mC t bl reps 256))))),(7,.c (.ds (mC t bl reps 256).length (.u64s g.2.1)))] [] 0 [] uUn_0 uUn_0 uUn_0 uUn_0 ?_;rw[hml, ←zlw]at hcw;refine z0e (Done_new z2a (fun _ _ h=>h) [.tmp 6,.tmp 7] rfl ?_);exact h _ hcw


end Go.Proofs.YtppmnaoollkboaaDoor
