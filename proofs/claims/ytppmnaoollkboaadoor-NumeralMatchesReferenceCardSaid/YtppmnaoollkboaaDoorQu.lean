/- Contracts of functions and plain facts, part 21. -/
import Derived.Test.YtppmnaoollkboaaDoorQt
import Derived.Test.YtppmnaoollkboaaDoorQh
import Derived.Test.YtppmnaoollkboaaDoorQm
import Derived.Test.YtppmnaoollkboaaDoorQr
import Derived.Test.YtppmnaoollkboaaDoorQk
set_option maxHeartbeats 4000000
set_option maxRecDepth 4000
namespace Go.Proofs.YtppmnaoollkboaaDoor
set_option linter.all false
open Go.Ab Go.RowKit

section
variable {a b:Prop}
theorem qJm0(h:a:=by first|exact vcA|(simp[-List.reduceReplicate]<;>omega)|exact vRh|exact vRt|exact vRc|(simp only[z0n];omega)|(simp only[z10,z0n];omega)|(rw[z0n];omega)|exact⟨by omega,by omega,trivial⟩|exact⟨by omega,by omega,trivial,trivial⟩|(show _< (z28 _ _).length;rw[zbs];omega)|(show _< (fillN _ _ _).length;rw[z4h];omega)|(simp only[z10,z88];omega)|(show _< (cY _ _ _ _).length;rw[z2d];omega)|(simp only[z4n,z5l];omega)|(simp only[z4n];omega)|(rw[zkc];done)|(show rzl.length=(rt _ _ _).length;rw[z11,z02 hcl])|exact vcB):a:=h
theorem uJm_0(h:a:=by
    repeat' (first|exact pJ|exact pT|exact trivial|refine aI ?_ ?_|exact cC0|refine low_cons' ?_ ?_|exact cC1|fail)
    all_goals first|omega|(show(0:Nat)< (rt _ _ _).length;rw[z02 ht.1.clen];decide)|(show Cont.low _ (Cont.cells (List.replicate 256 _++_));exact z5a)|(show 0+_*4≤(_:List UInt64).length;omega)|(show Cont.u64s cw=_;exact(if_pos ⟨rfl,hcwl⟩).symm)|exact hL0|exact hL1|exact z2w _|(show(_:List Int)=_;first|assumption|exact hZ0|rfl)|(show(_:List Bool)=_;first|assumption|rfl)|(show(_:List UInt64)=_;first|assumption|rfl)|(show allTo _ _ _;first|(rw[hXR];exact z26 _)|(rw[hXR];trivial)|exact z26 _)|(rw[zkc];done)|(show(natsI _).length=_;rw[z0n])|(simp[-List.reduceReplicate];done)|(show(0:Nat)< (z08 _ _ _ _).length;rw[z06 ht.1.clen];decide)|(simp[-List.reduceReplicate];done)|(simp[-List.reduceReplicate]<;>omega)|skip):a:=h
theorem uJm_1(h:a:=by
    repeat' (first|exact pJ|exact pT|exact trivial|refine aI ?_ ?_|exact cC0|refine low_cons' ?_ ?_|exact cC1|fail)
    all_goals first|omega|(show(0:Nat)< (rt _ _ _).length;rw[z02 hcl];decide)|(show Cont.low _ (Cont.cells (List.replicate 256 _++_));exact z5a)|(show 0+_*4≤(_:List UInt64).length;omega)|(show Cont.u64s cw=_;exact(if_pos ⟨rfl,hcwl⟩).symm)|exact hL0|exact hL1|exact z2w _|(show(_:List Int)=_;first|assumption|exact hZ0|rfl)|(show(_:List Bool)=_;first|assumption|rfl)|(show(_:List UInt64)=_;first|assumption|rfl)|(show allTo _ _ _;first|(rw[hXR];exact z26 _)|(rw[hXR];trivial)|exact z26 _)|(rw[zkc];done)|(show(natsI _).length=_;rw[z0n])|(simp[-List.reduceReplicate];done)|(show(0:Nat)< (z08 _ _ _ _).length;rw[z06 hcl];decide)|(simp[-List.reduceReplicate];done)|(simp[-List.reduceReplicate]<;>omega)|skip):a:=h
theorem DJm_0(kZ:b)(h:HidB b→a:=by intro kZ;(repeat first|refine aI qJm0 ?_|refine z0a qJm0 ?_|refine z07 qJm0 ?_|refine z0l qJm0 ?_|refine z0c ?_);exact kZ.out):a:=h ⟨kZ⟩
theorem z23(kZ:b)(h:HidB b→a:=by intro kZ;refine sX ?_;refine DJm_0 ?_;refine exI ?_;exact kZ.out):a:=h ⟨kZ⟩
theorem z9d(kZ:b)(h:HidB b→a:=by intro kZ;refine sX0 ?_;refine DJm_0 ?_;refine exI ?_;exact kZ.out):a:=h ⟨kZ⟩
theorem zcc(kZ:b)(h:HidB b→a:=by intro kZ;refine dX ?_;refine DJm_0 ?_;refine exI ?_;exact kZ.out):a:=h ⟨kZ⟩
theorem zh2(kZ:b)(h:HidB b→a:=by intro kZ;refine qX ?_;refine DJm_0 ?_;refine exI ?_;exact kZ.out):a:=h ⟨kZ⟩
theorem gXJm_5(kZ:b)(h:HidB b→a:=by intro kZ;refine gX ?_;refine DJm_0 ?_;refine exI ?_;exact kZ.out):a:=h ⟨kZ⟩
theorem gX0Jm_6(kZ:b)(h:HidB b→a:=by intro kZ;refine gX0 ?_;refine DJm_0 ?_;refine exI ?_;exact kZ.out):a:=h ⟨kZ⟩
theorem z5d(kZ:b)(h:HidB b→a:=by intro kZ;refine sX ?_;refine DJm_0 ?_;exact kZ.out):a:=h ⟨kZ⟩
theorem zay(kZ:b)(h:HidB b→a:=by intro kZ;refine dX ?_;refine DJm_0 ?_;exact kZ.out):a:=h ⟨kZ⟩
theorem zkb(kZ:b)(h:HidB b→a:=by intro kZ;refine gX ?_;refine DJm_0 ?_;exact kZ.out):a:=h ⟨kZ⟩
theorem zzb(kZ:b)(h:HidB b→a:=by intro kZ;refine gX0 ?_;refine DJm_0 ?_;exact kZ.out):a:=h ⟨kZ⟩
theorem za1(kZ:b)(h:HidB b→a:=by intro kZ;refine qX ?_;refine DJm_0 ?_;exact kZ.out):a:=h ⟨kZ⟩
end
open Go.Aut
theorem cY_get{t:Tab}{bl reps:List Nat}{b:Nat}(h:b< 256):(cY t bl reps 256).getD b 0=((oC t bl reps ((tblT t).cell b):Nat):Int):=by rw[cY,z0j h,if_pos h]
theorem lY_mC(t:Tab)(bl reps:List Nat):(mC t bl reps 256)=(lY t bl reps 256).map (tblT t).cell:=by unfold lY kY;rfl
theorem zkc(t:Tab)(bl reps:List Nat):(lY t bl reps 256).length=(mC t bl reps 256).length:=by rw[lY_mC,List.length_map]
theorem lY_cell{t:Tab}{bl reps:List Nat}{c:Nat}(h:c< (mC t bl reps 256).length):(tblT t).cell ((lY t bl reps 256).getD c 0)=rpF (mC t bl reps 256) c:=by
  rw[lY_mC,List.length_map]at h;rw[rpF,lY_mC,List.getD_eq_getElem?_getD,List.getD_eq_getElem?_getD,List.getElem?_map,List.getElem?_eq_getElem h];rfl
theorem ofC_lt{t:Tbl}{block reps:Nat→Nat}{k b:Nat}(hb:b< 256):ofC t block reps k (t.cell b)< ncC t block reps k:=by rw[zll];exact z7l (z6s.2 hb)
theorem zer_mem{n:Nat}:∀ x∈(List.replicate n (List.replicate 4 (0:UInt64))).flatten,x=0:=fun x hx=>by
  obtain⟨l,hl,hx⟩:=List.mem_flatten.1 hx;rw[(List.mem_replicate.1 hl).2]at hx;exact(List.mem_replicate.1 hx).2
theorem zer_len(n:Nat):((List.replicate n (List.replicate 4 (0:UInt64))).flatten).length=n*4:=by
  induction n with
  |zero=>rfl
  |succ n ih=>rw[List.replicate_succ,List.flatten_cons,List.length_append,ih,List.length_replicate];omega
theorem zer_cw{t:Tbl}{block reps:Nat→Nat}{k n:Nat}:Cw t block reps k (List.replicate n (List.replicate 4 (0:UInt64))).flatten n 0:=by
  refine⟨zer_len n,fun j x _ _=>?_⟩
  have e:hasC (List.replicate n (List.replicate 4 (0:UInt64))).flatten j x=false:=by
    rw[hasC,List.getD_eq_getElem?_getD]
    cases h:(List.replicate n (List.replicate 4 (0:UInt64))).flatten[j*4+x / 64]? with
    |none=>simp
    |some y=>rw[zer_mem y (List.mem_of_getElem? h)];simp
  rw[e];exact⟨fun h=>(by cases h),fun h=>absurd h.1 (Nat.not_lt_zero x)⟩
def putV(cw:List UInt64)(j b:Nat):List UInt64:=cw.take (j*4)++withW ((cw.drop (j*4)).take 4) b++cw.drop (j*4+4)
theorem putV_len{cw:List UInt64}{n j b:Nat}(h:cw.length=n*4)(hj:j< n):(putV cw j b).length=cw.length:=by
  simp only[putV,List.length_append,List.length_take,List.length_drop,z5l]
  omega
theorem zzc{c:List UInt64}{b x:Nat}(hc:c.length=4)(hb:b< 256)(hx:x< 256):hasW (withW c b) x=(hasW c x||decide (x=b)):=by
  rw[withW,hasW,z19 (by omega),hasW]
  by_cases e:b / 64=x / 64
  · rw[if_pos e,e,UInt64.toNat_or,Nat.testBit_or]
    have:=zbw (b%64) (x%64)
    rw[zjb]at this;rw[this]
    congr 1
    rw[Bool.eq_iff_iff];simp;omega
  · rw[if_neg e]
    have:¬ x=b:=fun h=>e (by rw[h])
    simp[this]
theorem putV_bit{cw:List UInt64}{n j b i x:Nat}(h:cw.length=n*4)(hj:j< n)(hb:b< 256)(hi:i< n)(hx:x< 256):hasC (putV cw j b) i x=(hasC cw i x||(decide (i=j)&&decide (x=b))):=by
  have hc4:((cw.drop (j*4)).take 4).length=4:=by rw[List.length_take,List.length_drop];omega
  have hz:(withW ((cw.drop (j*4)).take 4) b).length=4:=by rw[z5l];exact hc4
  have hs:=z4d (l:=cw) (m:=withW ((cw.drop (j*4)).take 4) b) (off:=j*4) (j:=i*4+x / 64) (d:=0) (by rw[hz];omega)
  rw[hz]at hs;rw[hasC,putV,hs]
  by_cases e:i=j
  · subst e
    rw[if_neg (by omega),if_pos (by omega),show i*4+x / 64 - i*4=x / 64 by omega]
    have h1:=zj3 (l:=cw) (k:=i) hx
    have h2:=zzc hc4 hb hx
    rw[hasW,hasW]at h2;rw[h2,h1];simp
  · rw[decide_eq_false e,Bool.false_and,Bool.or_false,hasC]
    by_cases e2:i< j
    · rw[if_pos (by omega)]
    · rw[if_neg (by omega),if_neg (by omega)]
theorem cw_putV{t:Tbl}{block reps:Nat→Nat}{k n b:Nat}{cw:List UInt64}(h:Cw t block reps k cw n b)(hb:b< 256)(hj:ofC t block reps k (t.cell b)< n):Cw t block reps k (putV cw (ofC t block reps k (t.cell b)) b) n (b+1):=
  h.put (putV_len h.len hj) rfl hb fun i x hi hx=>putV_bit h.len hj hb hi hx
attribute [local irreducible] z0o z0y zl z08 z0v putB rt rzl cbK fillN mcs ofC z28 rowsP rowP accP z36 lY cY canD leC cKa putV
noncomputable def gj6:Ctx:={ P:=Tryd.prog,ty:=ty,glob:=gl,fs:=[(146,.data leanRS),(148,.data zn5),(147,.data zrz),(149,.data zz4),(137,.flat withRS)] }
theorem z2f:gj6.OK:=⟨tyOK,⟨⟨z0b Tryd.func146 kR rfl,leanR_ok⟩,⟨z0b Tryd.func148 kR rfl,zpl⟩,⟨z0b Tryd.func147 kR rfl,ztu⟩,⟨z0b Tryd.func149 kR rfl,zz5⟩,⟨z0b Tryd.func137 kR rfl,withR_ok⟩,trivial⟩,mixed⟩
@[simp] theorem gj6_ty:gj6.ty=ty:=rfl

def zna:QSpec:=fun vs K=>∃ t:Tab,vs=[rtV t]∧t.fit∧K (dfaV (canD ((tblT t).lang 0)))
theorem zpq :z1x Tryd.prog gl 97 zna:=by
 refine z1c (Γ:=gj6) (N:=153) Tryd.func97 rfl rfl fun vs K h=>?_;obtain⟨t,rfl,ht,h⟩:=h;refine⟨_,h,zjq _,by simp,fun w I=>?_⟩;refine srR z2f fun _ K2=>?_
 iterate 2 refine z23 ?_
 refine s_n K2 ?_;refine leW [0] (fun _=>1) [(1,.c (.dp (rtC t) 0)),(2,.c (.ptr 0 0))] [(0,.own 30 (.cells [.nils,.nils,.nils]) 3)] 1 [1] uJm_0 uJm_0 uJm_0 uJm_0 ?_;refine srR z2f fun _ K4=>?_;refine z5d ?_;refine exA (rtV t) (SV.as_refl _) ?_;refine z5d ?_;refine aI (z61 t) ?_;refine z8c t ?_;refine⟨t,rfl,ht,?_⟩
 simp only[z9a]
 obtain⟨u,hu⟩:∃ u,u=leanT t:=⟨_,rfl⟩;rw[←hu]
 have hfu:u.fit:=hu▸lean_fit ht
 have hlang:canD ((tblT t).lang 0)=canD ((tblT u).lang 0):=by rw[hu];exact(z55 fun w hw=>zz9 ht.1 hw).symm
 obtain⟨hok,hlen,hnc⟩:=hfu
 have hfu:u.fit:=⟨hok,hlen,hnc⟩
 have hcl:=hok.clen
 have hlr:=zgh hfu
 refine DJm_0 ?_
 first|refine exI ?_|(intro cap1 hcap1;refine exI ?_)
 refine z23 ?_;refine z9d ?_;refine s_n K4 ?_;refine leW [1] id [(2,.c (.ptr 0 0)),(3,.c (.dp (rtC u) 0))] [(0,.own 30 (.cells [.nils,.nils,.nils]) 3)] 1 [0] uJm_1 uJm_1 uJm_1 uJm_1 ?_;refine srD z2f [(0,true),(1,true),(2,false),(3,false),(4,true),(5,true),(6,true),(7,true),(8,true)] rfl kR kR fun _ K6=>?_;refine zay ?_;refine exA (rtV u) (SV.as_refl _) ?_;refine zay ?_;refine exA (rtV u) (SV.as_refl _) ?_;refine zkb ?_;refine aI (z61 u) ?_;refine z8c u ?_;refine⟨u,rfl,hfu,?_⟩
 simp only[z9a]
 refine DJm_0 ?_
 first|refine exI ?_|(intro cap2 hcap2;refine exI ?_)
 refine zkb ?_;refine aI (z61 u) ?_;refine z8c u ?_;refine⟨u,z36 (tblT u),rfl,hfu,hlr,?_⟩
 simp only[z9a]
 refine DJm_0 ?_
 first|refine exI ?_|(intro cap3 hcap3;refine exI ?_)
 iterate 5 refine zcc ?_
 refine d_n K6 ?_
 have hout:=zx1 hfu hlr
 obtain⟨bl,hbl⟩:∃ bl,bl=finL u (z36 (tblT u)):=⟨_,rfl⟩;obtain⟨reps,hreps⟩:∃ reps,reps=finR u (z36 (tblT u)):=⟨_,rfl⟩;rw[←hbl, ←hreps]at hout;rw[←hbl, ←hreps];refine srR z2f fun _ K8=>?_;refine z5d ?_;refine exA (rtV u) (SV.as_refl _) ?_
 iterate 2 refine z23 ?_
 refine z5d ?_;refine aI (z61 u) ?_;refine z8c u ?_;refine⟨u,bl,reps,z36 (tblT u),rfl,⟨hfu,hout,hlr.lt⟩,?_⟩
 simp only[z9a]
 refine DJm_0 ?_
 first|refine exI ?_|(intro cap3 hcap3;refine exI ?_)
 iterate 5 refine z23 ?_
 refine z9d ?_;refine s_n K8 ?_
 have hrn:=hout.rep
 have hbll:=hout.len
 have hnp:=hok.npos
 have hb0:=hout.blk 0 z3a
 have hrl:reps.length≤65535:=Nat.le_trans (z9u hout hlr.lt) hlen
 have hmp:=zxa u bl reps
 have hml:=mC_le u bl reps 256
 have hll:=zkc u bl reps
 refine leW [1] id [(2,.c (.ptr 0 0)),(3,.c (.dp (rtC u) 0)),(4,.c (.ds bl.length (.ints .i64 (natsI bl)))),(5,.c (.ds reps.length (.ints .i64 (natsI reps)))),(6,.c (.ds (mC u bl reps 256).length (.ints .i64 (natsI (lY u bl reps 256))))),(7,.c (.dp (.ints .i64 (cY u bl reps 256)) 0))] [(0,.own 30 (.cells [.nils,.nils,.nils]) 3)] 1 [0] uJm_1 uJm_1 uJm_1 uJm_1 ?_;refine srR z2f fun _ K10=>?_
 iterate 4 refine z23 ?_
 refine s_n K10 ?_;refine seq_k fun _ K11=>?_;refine srR z2f fun _ K13=>?_;refine z23 ?_;refine s_n K13 ?_;refine z03 ?_;refine z0m (α:=Nat) (fun k=>[(2,.c (.ptr 0 0)),(3,.c (.dp (rtC u) 0)),(4,.c (.ds bl.length (.ints .i64 (natsI bl)))),(5,.c (.ds reps.length (.ints .i64 (natsI reps)))),(6,.c (.ds (mC u bl reps 256).length (.ints .i64 (natsI (lY u bl reps 256))))),(7,.c (.dp (.ints .i64 (cY u bl reps 256)) 0)),(8,.c (.slice 1 0 reps.length reps.length)),(9,.c (.int .i64 (k:Nat)))]) (fun k=>[(0,.own 30 (.cells [.nils,.nils,.nils]) 3),(1,.own 3 (.ints .i64 (fillN reps.length (-1) k)) reps.length)]) 2 (fun k=>k≤reps.length) (fun k=>reps.length - k) ?_ ?_
 ·have hZ0:List.replicate reps.length (0:Int)=fillN reps.length (-1) 0:=(z7u _ _).symm
  refine dnS [] id 0 (Nat.zero_le _) [0,1] uJm_1 uJm_1 uJm_1 uJm_1
 ·intro k hk
  refine seq_k fun _ K14=>?_;refine srR z2f fun _ K16=>?_
  iterate 4 refine z23 ?_
  refine s_n K16 ?_;refine z04 (b:=_) rfl (fun h_t40=>?_) (fun h_t40=>?_)
  ·try simp only[dQ,reduceIte]at h_t40
   refine z09 ?_;apply K14;refine seq_k fun _ K17=>?_;refine z03 ?_
   have hkl:k< reps.length:=by omega
   refine z01 z2f fun _ K18=>?_
   iterate 3 refine z23 ?_
   refine z9d ?_;refine s_n K18 ?_;refine z05 ?_;apply K17;refine z01 z2f fun _ K19=>?_
   iterate 3 refine z23 ?_
   refine s_n K19 ?_
   have hX1:(fillN reps.length (-1) k).set (0+((k:Nat):Int).toNat*1) (-1)=fillN reps.length (-1) (k+1):=by rw[show 0+((k:Nat):Int).toNat*1=k by omega];exact z92 _ hkl
   refine dnS [] id (k+1) ⟨by omega,by omega⟩ [0,1] uJm_1 uJm_1 uJm_1 uJm_1
  ·try simp only[dQ,reduceIte]at h_t40
   refine z0i ?_;refine z00 ?_;refine z00 ?_;refine z0f ?_;apply K11
   obtain rfl:k=reps.length:=by omega
   refine srR z2f fun _ K21=>?_
   iterate 3 refine z23 ?_
   refine z5d ?_;refine exA (.c (.int .i64 ((((blkF bl 0):Nat):Int)))) (as_i ((congrArg (fun i=>(natsI bl).getD i 0) (by omega)).trans z0q)) ?_;refine z23 ?_;refine z9d ?_;refine s_n K21 ?_;refine srR z2f fun _ K23=>?_
   iterate 2 refine z23 ?_
   refine z5d ?_;refine exA (.c (.int .i64 ((((blkF bl 0):Nat):Int)))) (as_i ((congrArg (fun i=>(natsI bl).getD i 0) (by omega)).trans z0q)) ?_
   iterate 2 refine z23 ?_
   refine s_n K23 ?_;refine srR z2f fun _ K25=>?_
   iterate 5 refine z23 ?_
   refine z9d ?_;refine s_n K25 ?_;refine seq_k fun _ K26=>?_;refine srR z2f fun _ K28=>?_;refine z23 ?_;refine s_n K28 ?_;refine z03 ?_;refine z0m (α:=List UInt64×Nat) (fun g=>[(2,.c (.ptr 0 0)),(3,.c (.dp (rtC u) 0)),(4,.c (.ds bl.length (.ints .i64 (natsI bl)))),(5,.c (.ds reps.length (.ints .i64 (natsI reps)))),(6,.c (.ds (mC u bl reps 256).length (.ints .i64 (natsI (lY u bl reps 256))))),(7,.c (.dp (.ints .i64 (cY u bl reps 256)) 0)),(8,.c (.slice 1 0 reps.length reps.length)),(10,.c (.slice 2 0 1 1)),(11,.c (.ptr 4 0)),(12,.c (.int .i64 (g.2:Nat)))]) (fun g=>[(0,.own 30 (.cells [.nils,.nils,.nils]) 3),(1,.own 3 (.ints .i64 (z28 (ordO (bF u bl reps) (mC u bl reps 256).length (blkF bl 0) (0*(mC u bl reps 256).length)) reps.length)) reps.length),(2,.own 3 (.ints .i64 (natsI [(blkF bl 0)])) 1),(3,.own 50 (.u64s g.1) ((mC u bl reps 256).length*4)),(4,.own 30 (.cells [.slice 3 0 (mC u bl reps 256).length (mC u bl reps 256).length,.nils,.nils]) 3)]) 5 (fun g=>g.2≤256∧Cw (tblT u) (blkF bl) (rpF reps) reps.length g.1 (mC u bl reps 256).length g.2) (fun g=>256 - g.2) ?_ ?_
   ·have hz:(ordO (bF u bl reps) (mC u bl reps 256).length (blkF bl 0) (0*(mC u bl reps 256).length))=[(blkF bl 0)]:=by rw[Nat.zero_mul];rfl
    have hX1:(fillN reps.length (-1) reps.length).set (0+(((blkF bl 0):Nat):Int).toNat*1) 0=z28 (ordO (bF u bl reps) (mC u bl reps 256).length (blkF bl 0) (0*(mC u bl reps 256).length)) reps.length:=by
     rw[hz,z91, ←zhv,show 0+(((blkF bl 0):Nat):Int).toNat*1=(blkF bl 0) by omega];exact z9r (o:=[]) (by simp)
    refine dnS [] id ((List.replicate (mC u bl reps 256).length (List.replicate 4 (0:UInt64))).flatten,0) ⟨Nat.zero_le _,zer_cw⟩ [0,1,2,3,4] uJm_1 uJm_1 uJm_1 uJm_1
   ·intro g hg9
    obtain⟨hg1,hcw⟩:=hg9;refine seq_k fun _ K29=>?_;refine srR z2f fun _ K31=>?_
    iterate 2 refine z23 ?_
    refine s_n K31 ?_;refine z04 (b:=_) rfl (fun h_t60=>?_) (fun h_t60=>?_)
    ·try simp only[dQ,reduceIte]at h_t60
     refine z09 ?_;apply K29;refine seq_k fun _ K32=>?_;refine z03 ?_
     have hb256:g.2< 256:=by omega
     have hcb:=cellN hok hb256
     have hcwl:=hcw.len
     have hol:(oC u bl reps ((tblT u).cell g.2))< (mC u bl reps 256).length:=by
      rw[z3p, ←zlw]
      have h9:=ofC_lt (t:=tblT u) (block:=blkF bl) (reps:=rpF reps) (k:=reps.length) hb256
      exact h9
     have hcw4:((g.1.drop ((oC u bl reps ((tblT u).cell g.2))*4)).take 4).length=4:=by rw[List.length_take,List.length_drop];omega
     refine z69 z2f [(0,true),(1,true),(2,true),(3,true),(4,true),(5,true),(6,true),(7,true),(8,true),(9,true),(10,true),(11,true),(12,true),(13,false),(14,true),(15,false)] rfl kR kR fun _ K33=>?_
     iterate 4 refine zcc ?_
     refine zay ?_;refine exA (.c (.int .i64 ((((oC u bl reps ((tblT u).cell g.2)):Nat):Int)))) (as_i ((congrArg (fun i=>(cY u bl reps 256).getD i 0) (by omega)).trans (cY_get hb256))) ?_
     iterate 4 refine zcc ?_
     refine zay ?_;refine exA (.c (.int .i64 ((((oC u bl reps ((tblT u).cell g.2)):Nat):Int)))) (as_i ((congrArg (fun i=>(cY u bl reps 256).getD i 0) (by omega)).trans (cY_get hb256))) ?_;refine zcc ?_;refine zay ?_;refine exA (.agg (.u64s ((g.1.drop ((oC u bl reps ((tblT u).cell g.2))*4)).take 4))) (as_eq (congrArg (fun i=>SV.agg ((Cont.u64s g.1).sub i 4)) (by omega))) ?_;refine zcc ?_;refine zkb ?_;refine⟨(g.1.drop ((oC u bl reps ((tblT u).cell g.2))*4)).take 4,g.2,rfl,⟨hcw4,hb256⟩,?_⟩;refine DJm_0 ?_
     first|refine exI ?_|(intro cap13 hcap13;refine exI ?_)
     refine zcc ?_;refine zzb ?_;refine zgi (by simp only[z5l];omega) ?_;refine exI ?_;refine d_n K33 ?_;refine z05 ?_;apply K32;refine z01 z2f fun _ K34=>?_
     iterate 3 refine z23 ?_
     refine s_n K34 ?_
     have hP:g.1.take (0+(((oC u bl reps ((tblT u).cell g.2)):Nat):Int).toNat*4)++withW ((g.1.drop ((oC u bl reps ((tblT u).cell g.2))*4)).take 4) g.2++g.1.drop (0+(((oC u bl reps ((tblT u).cell g.2)):Nat):Int).toNat*4+(withW ((g.1.drop ((oC u bl reps ((tblT u).cell g.2))*4)).take 4) g.2).length)=putV g.1 (oC u bl reps ((tblT u).cell g.2)) g.2:=by
      rw[z5l,hcw4,show 0+(((oC u bl reps ((tblT u).cell g.2)):Nat):Int).toNat*4=(oC u bl reps ((tblT u).cell g.2))*4 by omega];unfold putV;rfl
     have hcp:=cw_putV hcw hb256 hol
     refine dnS [] id (putV g.1 (oC u bl reps ((tblT u).cell g.2)) g.2,g.2+1) ⟨⟨by show g.2+1≤256;omega,hcp⟩,by show 256 - (g.2+1)< _;omega⟩ [0,1,2,3,4] ?_ ?_ ?_ ?_
     ·exact uJm_1
     ·exact uJm_1
     ·exact uJm_1
     ·exact uJm_1
    ·try simp only[dQ,reduceIte]at h_t60
     refine z0i ?_;refine z00 ?_;refine z00 ?_;refine z0f ?_;apply K26;refine seq_k fun _ K35=>?_
     have hg256:g.2=256:=by omega
     rw[hg256]at hcw;obtain⟨cw,hcwe⟩:∃ cw,cw=g.1:=⟨_,rfl⟩;rw[←hcwe]at hcw;rw[←hcwe]
     have hcwl:=hcw.len
     rw[z3p, ←zlw]at hcw;refine leW [3] (fun i=>if i=1 then 4 else if i=2 then 1 else if i=3 then 2 else i) [(2,.c (.ptr 0 0)),(3,.c (.dp (rtC u) 0)),(4,.c (.ds bl.length (.ints .i64 (natsI bl)))),(5,.c (.ds reps.length (.ints .i64 (natsI reps)))),(6,.c (.ds (mC u bl reps 256).length (.ints .i64 (natsI (lY u bl reps 256))))),(7,.c (.dp (.ints .i64 (cY u bl reps 256)) 0)),(8,.c (.slice 2 0 reps.length reps.length)),(10,.c (.slice 3 0 1 1)),(11,.c (.ptr 1 0))] [(0,.own 30 (.cells [.nils,.nils,.nils]) 3),(1,.own 30 (.cells [.ds (mC u bl reps 256).length (.u64s cw),.nils,.nils]) 3),(2,.own 3 (.ints .i64 (z28 (ordO (bF u bl reps) (mC u bl reps 256).length (blkF bl 0) (0*(mC u bl reps 256).length)) reps.length)) reps.length),(3,.own 3 (.ints .i64 (natsI [(blkF bl 0)])) 1)] 4 [0,4,1,2] uJm_1 uJm_1 uJm_1 uJm_1 ?_;refine srR z2f fun _ K37=>?_;refine z23 ?_;refine s_n K37 ?_;refine z03 ?_;refine z5g 1 1 51 (.cells []) rfl rfl rfl low_nil' ?_;refine z5g 1 2 4 (.bools []) rfl rfl rfl trivial ?_;refine z0m (α:=Nat×Nat×Nat×Nat) (fun g=>[(2,.c (.ptr 0 0)),(3,.c (.dp (rtC u) 0)),(4,.c (.ds bl.length (.ints .i64 (natsI bl)))),(5,.c (.ds reps.length (.ints .i64 (natsI reps)))),(6,.c (.ds (mC u bl reps 256).length (.ints .i64 (natsI (lY u bl reps 256))))),(7,.c (.dp (.ints .i64 (cY u bl reps 256)) 0)),(8,.c (.slice 2 0 reps.length reps.length)),(10,.c (.slice 3 0 (ordO (bF u bl reps) (mC u bl reps 256).length (blkF bl 0) (g.1*(mC u bl reps 256).length)).length g.2.1)),(11,.c (.ptr 1 0)),(13,.c (.int .i64 (g.1:Nat)))]) (fun g=>[(0,.own 30 (.cells [.nils,.nils,.nils]) 3),(1,.own 30 (.cells [.ds (mC u bl reps 256).length (.u64s cw),.slice 4 0 g.1 g.2.2.1,.slice 5 0 g.1 g.2.2.2]) 3),(2,.own 3 (.ints .i64 (z28 (ordO (bF u bl reps) (mC u bl reps 256).length (blkF bl 0) (g.1*(mC u bl reps 256).length)) reps.length)) reps.length),(3,.own 3 (.ints .i64 (natsI (ordO (bF u bl reps) (mC u bl reps 256).length (blkF bl 0) (g.1*(mC u bl reps 256).length)))) g.2.1),(4,.own 51 (.cells (rowsC (rowsP (bF u bl reps) (mC u bl reps 256).length (blkF bl 0) g.1))) g.2.2.1),(5,.own 4 (.bools (accP u bl reps g.1)) g.2.2.2)]) 6 (fun g=>g.1≤reps.length∧(∀ j,j< g.1→j< (ordO (bF u bl reps) (mC u bl reps 256).length (blkF bl 0) (j*(mC u bl reps 256).length)).length)∧g.1≤(ordO (bF u bl reps) (mC u bl reps 256).length (blkF bl 0) (g.1*(mC u bl reps 256).length)).length∧(ordO (bF u bl reps) (mC u bl reps 256).length (blkF bl 0) (g.1*(mC u bl reps 256).length)).length≤g.2.1∧g.1≤g.2.2.1∧g.1≤g.2.2.2) (fun g=>reps.length - g.1) ?_ ?_
     ·have hz:(ordO (bF u bl reps) (mC u bl reps 256).length (blkF bl 0) (0*(mC u bl reps 256).length))=[(blkF bl 0)]:=by rw[Nat.zero_mul];rfl
      have hX2:natsI [(blkF bl 0)]=natsI (ordO (bF u bl reps) (mC u bl reps 256).length (blkF bl 0) (0*(mC u bl reps 256).length)):=by rw[hz]
      have hL0:1=(ordO (bF u bl reps) (mC u bl reps 256).length (blkF bl 0) (0*(mC u bl reps 256).length)).length:=by rw[hz];rfl
      have hX3:([]:List Bool)=accP u bl reps 0:=by unfold accP;rfl
      have hXR:rowsC (rowsP (bF u bl reps) (mC u bl reps 256).length (blkF bl 0) 0)=[]:=by unfold rowsP;rfl
      refine dnS [] id (0,1,0,0) ⟨Nat.zero_le _,fun j hj=>absurd hj (Nat.not_lt_zero j),Nat.zero_le _,by rw[hz];exact Nat.le_refl _,Nat.le_refl _,Nat.le_refl _⟩ [0,1,2,3,4,5] ?_ ?_ ?_ ?_
      ·exact uJm_1
      ·exact uJm_1
      ·exact uJm_1
      ·exact uJm_1
     ·intro g hg
      obtain⟨hg1,hga,hg3,hg4,hg5,hg6⟩:=hg
      have hg:=And.intro hg1 (And.intro hga hg3)
      refine seq_k fun _ K38=>?_;refine srR z2f fun _ K40=>?_
      iterate 4 refine z23 ?_
      refine s_n K40 ?_;refine z04 (b:=_) rfl (fun h_t81=>?_) (fun h_t81=>?_)
      ·try simp only[dQ,reduceIte]at h_t81
       refine z09 ?_;apply K38;refine seq_k fun _ K41=>?_;refine z03 ?_
       have hi:g.1< (ordO (bF u bl reps) (mC u bl reps 256).length (blkF bl 0) (g.1*(mC u bl reps 256).length)).length:=by omega
       have hxl:=zoz hok hout hlr.cl z3a _ _ (getD_mem' hi)
       have hole:=zdd hok hout hlr.cl z3a (g.1*(mC u bl reps 256).length)
       have hsl:=hlr.lt _ (hout.rep _ hxl).1
       have hsl:(rpF reps ((ordO (bF u bl reps) (mC u bl reps 256).length (blkF bl 0) (g.1*(mC u bl reps 256).length)).getD g.1 0))< u.next.length:=hsl
       have hrw:=z8z hok hsl
       refine srR z2f fun _ K43=>?_
       iterate 4 refine z23 ?_
       refine z5d ?_;refine exA (.c (.int .i64 (((((ordO (bF u bl reps) (mC u bl reps 256).length (blkF bl 0) (g.1*(mC u bl reps 256).length)).getD g.1 0):Nat):Int)))) (as_i ((congrArg (fun i=>(natsI (ordO (bF u bl reps) (mC u bl reps 256).length (blkF bl 0) (g.1*(mC u bl reps 256).length))).getD i 0) (by omega)).trans z0q)) ?_;refine z23 ?_;refine z5d ?_;refine exA (.c (.int .i64 (((rpF reps ((ordO (bF u bl reps) (mC u bl reps 256).length (blkF bl 0) (g.1*(mC u bl reps 256).length)).getD g.1 0):Nat):Int)))) (as_i ((congrArg (fun i=>(natsI reps).getD i 0) (by omega)).trans z0q)) ?_;refine z23 ?_;refine s_n K43 ?_;refine srR z2f fun _ K45=>?_
       iterate 2 refine z23 ?_
       refine s_n K45 ?_;refine seq_k fun _ K46=>?_;refine srR z2f fun _ K48=>?_;refine z23 ?_;refine s_n K48 ?_;refine z03 ?_;refine z0m (α:=Nat×Nat×Nat) (fun c=>[(2,.c (.ptr 0 0)),(3,.c (.dp (rtC u) 0)),(4,.c (.ds bl.length (.ints .i64 (natsI bl)))),(5,.c (.ds reps.length (.ints .i64 (natsI reps)))),(6,.c (.ds (mC u bl reps 256).length (.ints .i64 (natsI (lY u bl reps 256))))),(7,.c (.dp (.ints .i64 (cY u bl reps 256)) 0)),(8,.c (.slice 2 0 reps.length reps.length)),(10,.c (.slice 3 0 (ordO (bF u bl reps) (mC u bl reps 256).length (blkF bl 0) (g.1*(mC u bl reps 256).length+c.1)).length c.2.1)),(11,.c (.ptr 1 0)),(13,.c (.int .i64 (g.1:Nat))),(14,.c (.int .i64 ((rpF reps ((ordO (bF u bl reps) (mC u bl reps 256).length (blkF bl 0) (g.1*(mC u bl reps 256).length)).getD g.1 0)):Nat))),(15,.c (.slice 6 0 c.1 c.2.2)),(16,.c (.int .i64 (c.1:Nat)))]) (fun c=>[(0,.own 30 (.cells [.nils,.nils,.nils]) 3),(1,.own 30 (.cells [.ds (mC u bl reps 256).length (.u64s cw),.slice 4 0 g.1 g.2.2.1,.slice 5 0 g.1 g.2.2.2]) 3),(2,.own 3 (.ints .i64 (z28 (ordO (bF u bl reps) (mC u bl reps 256).length (blkF bl 0) (g.1*(mC u bl reps 256).length+c.1)) reps.length)) reps.length),(3,.own 3 (.ints .i64 (natsI (ordO (bF u bl reps) (mC u bl reps 256).length (blkF bl 0) (g.1*(mC u bl reps 256).length+c.1)))) c.2.1),(4,.own 51 (.cells (rowsC (rowsP (bF u bl reps) (mC u bl reps 256).length (blkF bl 0) g.1))) g.2.2.1),(5,.own 4 (.bools (accP u bl reps g.1)) g.2.2.2),(6,.own 3 (.ints .i64 (rowP (bF u bl reps) (mC u bl reps 256).length (blkF bl 0) g.1 c.1)) c.2.2)]) 7 (fun c=>c.1≤(mC u bl reps 256).length∧(ordO (bF u bl reps) (mC u bl reps 256).length (blkF bl 0) (g.1*(mC u bl reps 256).length+c.1)).length≤c.2.1∧c.1≤c.2.2) (fun c=>(mC u bl reps 256).length - c.1) ?_ ?_
       ·have hX1:([]:List Int)=rowP (bF u bl reps) (mC u bl reps 256).length (blkF bl 0) g.1 0:=by unfold rowP;rfl
        refine dnS [] id (0,g.2.1,0) ⟨Nat.zero_le _,hg4,Nat.le_refl _⟩ [0,1,2,3,4,5,6] uJm_1 uJm_1 uJm_1 uJm_1
       ·intro c hc0
        obtain⟨hc1,hc2,hc3⟩:=hc0
        have hrpl:=z88 (f:=(bF u bl reps)) (nc:=(mC u bl reps 256).length) (b0:=(blkF bl 0)) g.1 c.1
        refine seq_k fun _ K49=>?_;refine srR z2f fun _ K51=>?_
        iterate 4 refine z23 ?_
        refine s_n K51 ?_;refine z04 (b:=_) rfl (fun h_t95=>?_) (fun h_t95=>?_)
        ·try simp only[dQ,reduceIte]at h_t95
         refine z09 ?_;apply K49;refine seq_k fun _ K52=>?_;refine z03 ?_
         have hc:c.1< (mC u bl reps 256).length:=by omega
         have hrc:=zxb hok bl reps hc
         have hx:=nextN hok hsl hrc
         have htl:((bF u bl reps) ((ordO (bF u bl reps) (mC u bl reps 256).length (blkF bl 0) (g.1*(mC u bl reps 256).length)).getD g.1 0) c.1)< reps.length:=bF_lt hok hout hlr.cl hxl hc
         have hat:=zlx (f:=(bF u bl reps)) (b0:=(blkF bl 0)) hi (Nat.le_add_right (g.1*(mC u bl reps 256).length) c.1)
         have hst:(ordO (bF u bl reps) (mC u bl reps 256).length (blkF bl 0) (g.1*(mC u bl reps 256).length+(c.1+1)))=addC (ordO (bF u bl reps) (mC u bl reps 256).length (blkF bl 0) (g.1*(mC u bl reps 256).length+c.1)) ((bF u bl reps) ((ordO (bF u bl reps) (mC u bl reps 256).length (blkF bl 0) (g.1*(mC u bl reps 256).length+c.1)).getD g.1 0) c.1):=zbn (f:=(bF u bl reps)) (b0:=(blkF bl 0)) (i:=g.1) hc
         rw[hat]at hst
         have hst2:=hst
         have hol:=zdd hok hout hlr.cl z3a (g.1*(mC u bl reps 256).length+c.1)
         have hly9:=lY_cell (bl:=bl) (reps:=reps) (t:=u) hc
         have hlb:(lY u bl reps 256).getD c.1 0< 256:=lY_lt (by rw[hll];exact hc)
         refine srQ z2f kR fun _ K54=>?_
         iterate 2 refine zh2 ?_
         refine za1 ?_;refine exA (.c (.ds u.next.length (.cells (rowsC u.next)))) (as_c (rt_nx hcl)) ?_
         iterate 2 refine zh2 ?_
         refine za1 ?_;refine exA (.c (.ds (u.next.getD (rpF reps ((ordO (bF u bl reps) (mC u bl reps 256).length (blkF bl 0) (g.1*(mC u bl reps 256).length)).getD g.1 0)) []).length (.ints .i64 (u.next.getD (rpF reps ((ordO (bF u bl reps) (mC u bl reps 256).length (blkF bl 0) (g.1*(mC u bl reps 256).length)).getD g.1 0)) [])))) (as_c (z6e ⟨hsl,by omega⟩)) ?_
         iterate 3 refine zh2 ?_
         refine za1 ?_;refine exA (.c (.int .i64 ((((lY u bl reps 256).getD c.1 0:Nat):Int)))) (as_i ((congrArg (fun i=>(natsI (lY u bl reps 256)).getD i 0) (by omega)).trans z0q)) ?_
         iterate 2 refine zh2 ?_
         refine za1 ?_;refine exA (.c (.int .i64 (((rpF (mC u bl reps 256) c.1):Nat):Int))) (as_c ((zav hcl (by first|omega|(simp;done)) hlb).trans (congrArg (Cell.int IntKind.i64) ((cellN hok hlb).2.trans (congrArg Nat.cast hly9))))) ?_;refine zh2 ?_;refine za1 ?_;refine exA (.c (.int .i64 ((((tblT u).δ (rpF reps ((ordO (bF u bl reps) (mC u bl reps 256).length (blkF bl 0) (g.1*(mC u bl reps 256).length)).getD g.1 0)) (rpF (mC u bl reps 256) c.1):Nat):Int)))) (as_i ((congrArg (fun i=>(u.next.getD (rpF reps ((ordO (bF u bl reps) (mC u bl reps 256).length (blkF bl 0) (g.1*(mC u bl reps 256).length)).getD g.1 0)) []).getD i 0) (by omega)).trans hx.2)) ?_;refine zh2 ?_;refine za1 ?_;refine exA (.c (.int .i64 (((((bF u bl reps) ((ordO (bF u bl reps) (mC u bl reps 256).length (blkF bl 0) (g.1*(mC u bl reps 256).length)).getD g.1 0) c.1):Nat):Int)))) (as_i ((congrArg (fun i=>(natsI bl).getD i 0) (by omega)).trans z0q)) ?_;refine zh2 ?_;refine q_n K54 ?_;refine z27 (α:=Nat) (fun y=>[(2,.c (.ptr 0 0)),(3,.c (.dp (rtC u) 0)),(4,.c (.ds bl.length (.ints .i64 (natsI bl)))),(5,.c (.ds reps.length (.ints .i64 (natsI reps)))),(6,.c (.ds (mC u bl reps 256).length (.ints .i64 (natsI (lY u bl reps 256))))),(7,.c (.dp (.ints .i64 (cY u bl reps 256)) 0)),(8,.c (.slice 2 0 reps.length reps.length)),(10,.c (.slice 3 0 (ordO (bF u bl reps) (mC u bl reps 256).length (blkF bl 0) (g.1*(mC u bl reps 256).length+(c.1+1))).length y)),(11,.c (.ptr 1 0)),(13,.c (.int .i64 (g.1:Nat))),(14,.c (.int .i64 ((rpF reps ((ordO (bF u bl reps) (mC u bl reps 256).length (blkF bl 0) (g.1*(mC u bl reps 256).length)).getD g.1 0)):Nat))),(15,.c (.slice 6 0 c.1 c.2.2)),(16,.c (.int .i64 (c.1:Nat))),(17,.c (.int .i64 (((bF u bl reps) ((ordO (bF u bl reps) (mC u bl reps 256).length (blkF bl 0) (g.1*(mC u bl reps 256).length)).getD g.1 0) c.1):Nat)))]) (fun y=>[(0,.own 30 (.cells [.nils,.nils,.nils]) 3),(1,.own 30 (.cells [.ds (mC u bl reps 256).length (.u64s cw),.slice 4 0 g.1 g.2.2.1,.slice 5 0 g.1 g.2.2.2]) 3),(2,.own 3 (.ints .i64 (z28 (ordO (bF u bl reps) (mC u bl reps 256).length (blkF bl 0) (g.1*(mC u bl reps 256).length+(c.1+1))) reps.length)) reps.length),(3,.own 3 (.ints .i64 (natsI (ordO (bF u bl reps) (mC u bl reps 256).length (blkF bl 0) (g.1*(mC u bl reps 256).length+(c.1+1))))) y),(4,.own 51 (.cells (rowsC (rowsP (bF u bl reps) (mC u bl reps 256).length (blkF bl 0) g.1))) g.2.2.1),(5,.own 4 (.bools (accP u bl reps g.1)) g.2.2.2),(6,.own 3 (.ints .i64 (rowP (bF u bl reps) (mC u bl reps 256).length (blkF bl 0) g.1 c.1)) c.2.2)]) 7 (fun y=>(ordO (bF u bl reps) (mC u bl reps 256).length (blkF bl 0) (g.1*(mC u bl reps 256).length+(c.1+1))).length≤y) ?_ ?_
         ·refine srR z2f fun _ K56=>?_
          iterate 3 refine z23 ?_
          refine z5d ?_;refine exA (.c (.int .i64 ((z28 (ordO (bF u bl reps) (mC u bl reps 256).length (blkF bl 0) (g.1*(mC u bl reps 256).length+c.1)) reps.length).getD ((bF u bl reps) ((ordO (bF u bl reps) (mC u bl reps 256).length (blkF bl 0) (g.1*(mC u bl reps 256).length)).getD g.1 0) c.1) 0))) (as_i (congrArg (fun i=>(z28 (ordO (bF u bl reps) (mC u bl reps 256).length (blkF bl 0) (g.1*(mC u bl reps 256).length+c.1)) reps.length).getD i 0) (by omega))) ?_;refine z23 ?_;refine s_n K56 ?_;refine z04 (b:=_) rfl (fun h_t119=>?_) (fun h_t119=>?_)
          ·have hno:((bF u bl reps) ((ordO (bF u bl reps) (mC u bl reps 256).length (blkF bl 0) (g.1*(mC u bl reps 256).length)).getD g.1 0) c.1)∉(ordO (bF u bl reps) (mC u bl reps 256).length (blkF bl 0) (g.1*(mC u bl reps 256).length+c.1)):=fun hx=>by
            rw[z6d htl hx]at h_t119
            simp at h_t119;omega
           refine srR z2f fun _ K58=>?_
           iterate 5 refine z23 ?_
           refine z9d ?_;refine s_n K58 ?_;refine z01 z2f fun _ K59=>?_
           iterate 3 refine z23 ?_
           refine z5d ?_;intro cap3 hcap3;refine exI ?_;refine z23 ?_;refine s_n K59 ?_;rw[addC,if_neg hno]at hst
           have hX1:(z28 (ordO (bF u bl reps) (mC u bl reps 256).length (blkF bl 0) (g.1*(mC u bl reps 256).length+c.1)) reps.length).set (0+((((bF u bl reps) ((ordO (bF u bl reps) (mC u bl reps 256).length (blkF bl 0) (g.1*(mC u bl reps 256).length)).getD g.1 0) c.1):Nat):Int).toNat*1) (((ordO (bF u bl reps) (mC u bl reps 256).length (blkF bl 0) (g.1*(mC u bl reps 256).length+c.1)).length:Nat):Int)=z28 (ordO (bF u bl reps) (mC u bl reps 256).length (blkF bl 0) (g.1*(mC u bl reps 256).length+(c.1+1))) reps.length:=by rw[show 0+((((bF u bl reps) ((ordO (bF u bl reps) (mC u bl reps 256).length (blkF bl 0) (g.1*(mC u bl reps 256).length)).getD g.1 0) c.1):Nat):Int).toNat*1=((bF u bl reps) ((ordO (bF u bl reps) (mC u bl reps 256).length (blkF bl 0) (g.1*(mC u bl reps 256).length)).getD g.1 0) c.1) by omega,z9r hno,hst]
           have hX2:natsI (ordO (bF u bl reps) (mC u bl reps 256).length (blkF bl 0) (g.1*(mC u bl reps 256).length+c.1))++([]++[((((bF u bl reps) ((ordO (bF u bl reps) (mC u bl reps 256).length (blkF bl 0) (g.1*(mC u bl reps 256).length)).getD g.1 0) c.1):Nat):Int)])=natsI (ordO (bF u bl reps) (mC u bl reps 256).length (blkF bl 0) (g.1*(mC u bl reps 256).length+(c.1+1))):=by rw[hst,List.nil_append,z39]
           have hL0:(ordO (bF u bl reps) (mC u bl reps 256).length (blkF bl 0) (g.1*(mC u bl reps 256).length+c.1)).length+1=(ordO (bF u bl reps) (mC u bl reps 256).length (blkF bl 0) (g.1*(mC u bl reps 256).length+(c.1+1))).length:=by rw[hst,List.length_append];rfl
           refine dnS [] (fun i=>if i=3 then 8 else i) cap3 (by omega) [0,1,2,8,4,5,6] uJm_1 uJm_1 uJm_1 uJm_1
          ·have hin:((bF u bl reps) ((ordO (bF u bl reps) (mC u bl reps 256).length (blkF bl 0) (g.1*(mC u bl reps 256).length)).getD g.1 0) c.1)∈(ordO (bF u bl reps) (mC u bl reps 256).length (blkF bl 0) (g.1*(mC u bl reps 256).length+c.1)):=Classical.byContradiction fun hx=>by
            rw[z9q htl hx]at h_t119;exact absurd h_t119 (by decide)
           refine z09 ?_;rw[addC,if_pos hin]at hst;rw[hst];refine dnS [] id c.2.1 hc2 [0,1,2,3,4,5,6] uJm_1 uJm_1 uJm_1 uJm_1
         ·intro y hy
          have hmem:((bF u bl reps) ((ordO (bF u bl reps) (mC u bl reps 256).length (blkF bl 0) (g.1*(mC u bl reps 256).length)).getD g.1 0) c.1)∈(ordO (bF u bl reps) (mC u bl reps 256).length (blkF bl 0) (g.1*(mC u bl reps 256).length+(c.1+1))):=by rw[hst2];exact ziw _ _
          have hpl:=z6d (k:=reps.length) htl hmem
          have hol3:=zdd hok hout hlr.cl z3a (g.1*(mC u bl reps 256).length+(c.1+1))
          refine z01 z2f fun _ K60=>?_
          iterate 4 refine z23 ?_
          refine z5d ?_;refine exA (.c (.int .i64 (((numP (bF u bl reps) (mC u bl reps 256).length (blkF bl 0) g.1 c.1:Nat):Int)))) (as_i ((congrArg (fun i=>(z28 (ordO (bF u bl reps) (mC u bl reps 256).length (blkF bl 0) (g.1*(mC u bl reps 256).length+(c.1+1))) reps.length).getD i 0) (by omega)).trans (hpl.trans (congrArg Nat.cast (zxd hi hc).symm)))) ?_;refine z23 ?_;refine z5d ?_;intro cap6 hcap6;refine exI ?_;refine z23 ?_;refine s_n K60 ?_;refine z05 ?_;apply K52;refine z01 z2f fun _ K61=>?_
          iterate 3 refine z23 ?_
          refine s_n K61 ?_
          have hX1:rowP (bF u bl reps) (mC u bl reps 256).length (blkF bl 0) g.1 c.1++([]++[((numP (bF u bl reps) (mC u bl reps 256).length (blkF bl 0) g.1 c.1:Nat):Int)])=rowP (bF u bl reps) (mC u bl reps 256).length (blkF bl 0) g.1 (c.1+1):=zvn _ _
          refine dnS [] (fun i=>if i=6 then 8 else i) (c.1+1,y,cap6) ⟨⟨by show c.1+1≤_;omega,hy,(by show c.1+1≤cap6;omega)⟩,by show _ - (c.1+1)< _;omega⟩ [0,1,2,3,4,5,8] ?_ ?_ ?_ ?_
          ·exact uJm_1
          ·exact uJm_1
          ·exact uJm_1
          ·exact uJm_1
        ·try simp only[dQ,reduceIte]at h_t95
         refine z0i ?_;refine z00 ?_;refine z00 ?_;refine z0f ?_;apply K46
         have hce:c.1=(mC u bl reps 256).length:=by omega
         have hpe:g.1*(mC u bl reps 256).length+c.1=(g.1+1)*(mC u bl reps 256).length:=by rw[hce,Nat.succ_mul]
         rw[hpe];rw[hpe]at hc2;rw[hce];refine leW [6] id [(2,.c (.ptr 0 0)),(3,.c (.dp (rtC u) 0)),(4,.c (.ds bl.length (.ints .i64 (natsI bl)))),(5,.c (.ds reps.length (.ints .i64 (natsI reps)))),(6,.c (.ds (mC u bl reps 256).length (.ints .i64 (natsI (lY u bl reps 256))))),(7,.c (.dp (.ints .i64 (cY u bl reps 256)) 0)),(8,.c (.slice 2 0 reps.length reps.length)),(10,.c (.slice 3 0 (ordO (bF u bl reps) (mC u bl reps 256).length (blkF bl 0) ((g.1+1)*(mC u bl reps 256).length)).length c.2.1)),(11,.c (.ptr 1 0)),(13,.c (.int .i64 (g.1:Nat))),(14,.c (.int .i64 ((rpF reps ((ordO (bF u bl reps) (mC u bl reps 256).length (blkF bl 0) (g.1*(mC u bl reps 256).length)).getD g.1 0)):Nat))),(15,.c (.ds (mC u bl reps 256).length (.ints .i64 (rowP (bF u bl reps) (mC u bl reps 256).length (blkF bl 0) g.1 (mC u bl reps 256).length))))] [(0,.own 30 (.cells [.nils,.nils,.nils]) 3),(1,.own 30 (.cells [.ds (mC u bl reps 256).length (.u64s cw),.slice 4 0 g.1 g.2.2.1,.slice 5 0 g.1 g.2.2.2]) 3),(2,.own 3 (.ints .i64 (z28 (ordO (bF u bl reps) (mC u bl reps 256).length (blkF bl 0) ((g.1+1)*(mC u bl reps 256).length)) reps.length)) reps.length),(3,.own 3 (.ints .i64 (natsI (ordO (bF u bl reps) (mC u bl reps 256).length (blkF bl 0) ((g.1+1)*(mC u bl reps 256).length)))) c.2.1),(4,.own 51 (.cells (rowsC (rowsP (bF u bl reps) (mC u bl reps 256).length (blkF bl 0) g.1))) g.2.2.1),(5,.own 4 (.bools (accP u bl reps g.1)) g.2.2.2)] 6 [0,1,2,3,4,5] uJm_1 uJm_1 uJm_1 uJm_1 ?_;refine srR z2f fun _ K63=>?_
         iterate 4 refine z23 ?_
         refine z5d ?_;intro cap4 hcap4;refine exI ?_;refine z23 ?_;refine z9d ?_;refine s_n K63 ?_
         revert cap4 hcap4
         intro capA hcapA
         have hal:=hok.alen
         refine z69 z2f [(0,true),(1,true),(2,true),(3,true),(4,true),(5,true),(6,true),(7,false),(8,false),(9,true),(10,false)] rfl kR kR fun _ K64=>?_
         iterate 3 refine zcc ?_
         refine zay ?_;refine exA (.c (.ds u.acc.length (.bools u.acc))) (as_c (rt_ac hcl)) ?_
         iterate 2 refine zcc ?_
         refine zay ?_;refine exA (.c (.bool (u.acc.getD (rpF reps ((ordO (bF u bl reps) (mC u bl reps 256).length (blkF bl 0) (g.1*(mC u bl reps 256).length)).getD g.1 0)) false))) (as_b (congrArg (fun i=>u.acc.getD i false) (by omega))) ?_;refine gXJm_5 ?_;refine zkb ?_;intro cap8 hcap8;refine exI ?_;refine zcc ?_;refine gX0Jm_6 ?_;refine d_n K64 ?_;refine z05 ?_;apply K41;refine z01 z2f fun _ K65=>?_
         iterate 3 refine z23 ?_
         refine s_n K65 ?_
         have hlen2:=z2k (f:=(bF u bl reps)) (nc:=(mC u bl reps 256).length) (b0:=(blkF bl 0)) (p:=g.1*(mC u bl reps 256).length) (q:=(g.1+1)*(mC u bl reps 256).length) (Nat.mul_le_mul_right _ (by omega))
         have hah:∀ j,j< g.1+1→j< (ordO (bF u bl reps) (mC u bl reps 256).length (blkF bl 0) (j*(mC u bl reps 256).length)).length:=fun j hj=>by
          rcases Nat.lt_or_ge j g.1 with h1|h1
          ·exact hga j h1
          ·obtain rfl:j=g.1:=by omega
           exact hi
         have hX3:accP u bl reps g.1++([]++[u.acc.getD (rpF reps ((ordO (bF u bl reps) (mC u bl reps 256).length (blkF bl 0) (g.1*(mC u bl reps 256).length)).getD g.1 0)) false])=accP u bl reps (g.1+1):=zmc u bl reps g.1
         have hXR:rowsC (rowsP (bF u bl reps) (mC u bl reps 256).length (blkF bl 0) g.1)++([]++[.ds (mC u bl reps 256).length (.ints .i64 (rowP (bF u bl reps) (mC u bl reps 256).length (blkF bl 0) g.1 (mC u bl reps 256).length))])=rowsC (rowsP (bF u bl reps) (mC u bl reps 256).length (blkF bl 0) (g.1+1)):=by
          have:=z4g (rowsP (bF u bl reps) (mC u bl reps 256).length (blkF bl 0) g.1) (rowP (bF u bl reps) (mC u bl reps 256).length (blkF bl 0) g.1 (mC u bl reps 256).length)
          rw[z88,zhw]at this;exact this
         refine dnS [] (fun i=>if i=4 then 7 else if i=5 then 9 else i) (g.1+1,c.2.1,capA,cap8) ⟨⟨by show g.1+1≤_;omega,hah,(by show g.1+1≤(ordO (bF u bl reps) (mC u bl reps 256).length (blkF bl 0) ((g.1+1)*(mC u bl reps 256).length)).length;omega),hc2,(by show g.1+1≤capA;omega),(by show g.1+1≤cap8;omega)⟩,by show _ - (g.1+1)< _;omega⟩ [0,1,2,3,7,9] ?_ ?_ ?_ ?_
         ·exact uJm_1
         ·exact uJm_1
         ·exact uJm_1
         ·exact uJm_1
      ·try simp only[dQ,reduceIte]at h_t81
       refine z0i ?_;refine z00 ?_;refine z00 ?_;refine z0f ?_;apply K35
       have hclo:=zbo hmp hg.2.1 (by omega)
       have hcan:=zxc hfu hout hcw hclo
       refine leW [4,5] id [(2,.c (.ptr 0 0)),(11,.c (.ptr 1 0))] [(0,.own 30 (.cells [.nils,.nils,.nils]) 3),(1,.own 30 (.cells [.ds (mC u bl reps 256).length (.u64s cw),.ds g.1 (.cells (rowsC (rowsP (bF u bl reps) (mC u bl reps 256).length (blkF bl 0) g.1))),.ds g.1 (.bools (accP u bl reps g.1))]) 3)] 2 [0,1] uJm_1 uJm_1 uJm_1 uJm_1 ?_;refine srR z2f fun _ K67=>?_;refine z23 ?_;refine z9d ?_;refine s_n K67 ?_;rw[hlang,hcan];refine z0e (z0g z2f (fun _ _ h=>h) (zjq _) [] [.cell 2 30] rfl ?_)
       repeat first|refine aI (by first|exact trivial|rfl|exact⟨rfl,rfl⟩|decide) ?_|refine z0a (by first|exact⟨rfl,rfl⟩|rfl|decide) ?_|refine z07 (by first|rfl|decide) ?_
       all_goals exact uJm_1


end Go.Proofs.YtppmnaoollkboaaDoor

namespace Go.Proofs.YtppmnaoollkboaaDoor
set_option linter.all false
open Go.Ab Go.RowKit

section
variable {a b:Prop}
theorem qJn0(h:a:=by first|exact vcA|(simp[-List.reduceReplicate]<;>omega)|exact vRh|exact vRt|exact vcB):a:=h
theorem uJn_0(h:a:=by
    repeat' (first|exact pJ|exact pT|exact trivial|refine aI ?_ ?_|exact cC0|refine low_cons' ?_ ?_|exact cC1|fail)
    all_goals first|omega|(show(0:Nat)< (rt _ _ _).length;rw[z02 hcl];decide)|(show Cont.low _ (Cont.cells (List.replicate 256 _++_));exact z5a)|exact z2w _|(show(_:List Bool)=_;first|assumption|rfl)|exact(zs2 (Nat.le_refl _))|exact(zs2 (Nat.le_refl _)).symm|(show allTo _ _ _;rw[zps hcl rfl];refine z4u ⟨rfl,rfl⟩ ?_;(repeat' (first|exact trivial|refine aI ?_ ?_|rfl|omega|decide|(simp;done)|rw[if_pos ⟨rfl,by simp⟩])))|(show(_:Nat)=0∧_;exact⟨rfl,rfl⟩)|(show(0:Nat)< (z08 _ _ _ _).length;rw[z06 hcl];decide)|(simp[-List.reduceReplicate];done)|(simp[-List.reduceReplicate]<;>omega)|skip):a:=h
theorem DJn_0(kZ:b)(h:HidB b→a:=by intro kZ;(repeat first|refine aI qJn0 ?_|refine z0a qJn0 ?_|refine z07 qJn0 ?_|refine z0l qJn0 ?_|refine z0c ?_);exact kZ.out):a:=h ⟨kZ⟩
theorem zh3(kZ:b)(h:HidB b→a:=by intro kZ;refine sX ?_;refine DJn_0 ?_;refine exI ?_;exact kZ.out):a:=h ⟨kZ⟩
theorem zpr(kZ:b)(h:HidB b→a:=by intro kZ;refine sX0 ?_;refine DJn_0 ?_;refine exI ?_;exact kZ.out):a:=h ⟨kZ⟩
theorem zzd(kZ:b)(h:HidB b→a:=by intro kZ;refine sX ?_;refine DJn_0 ?_;exact kZ.out):a:=h ⟨kZ⟩
end
open Go.Aut
theorem zps{cell:List Int}{x y z:Cell}(h:cell.length=256){i:Nat}(hi:i=257):(rt cell x y).set i z=rt cell x z:=by
  subst hi;rw[rt,rt,List.set_append_right _ _ (by simp[h])]
  simp[h]
def notP(t:Tab)(k:Nat):List Bool:=(t.acc.take k).map not
theorem zs2{t:Tab}{k:Nat}(h:k≤t.acc.length):(notP t k).length=k:=by rw[notP,List.length_map,List.length_take];omega
attribute [local irreducible] z0o z0y zl z08 z0v putB rt rzl cbK canD notP
noncomputable def gj7:Ctx:={ P:=Tryd.prog,ty:=ty,glob:=gl,fs:=[(97,.data zna),(32,.flat zrf),(96,.data ofRS)] }
theorem zh4:gj7.OK:=⟨tyOK,⟨⟨z0b Tryd.func97 kR rfl,zpq⟩,⟨z0b Tryd.func32 kR rfl,ztn⟩,⟨z0b Tryd.func96 kR rfl,ofR_ok⟩,trivial⟩,mixed⟩
@[simp] theorem gj7_ty:gj7.ty=ty:=rfl

def zze:QSpec:=fun vs K=>∃ t:Tab,vs=[rtV t]∧t.fit∧K (resV (limL (canD ((tblT t).lang 0))))
theorem zzf:z1x Tryd.prog gl 103 zze:=by
 refine z1c (Γ:=gj7) (N:=13) Tryd.func103 rfl rfl fun vs K h=>?_;obtain⟨t,rfl,ht,h⟩:=h;refine⟨_,h,z1h _,by simp,fun w I=>?_⟩
 have ht0:=ht
 obtain⟨hok,hlen,hnc⟩:=ht0
 have hcl:=hok.clen
 refine srR zh4 fun _ K2=>?_
 iterate 3 refine zh3 ?_
 refine s_n K2 ?_;refine leW [0] (fun _=>1) [(1,.c (.dp (rtC t) 0)),(2,.c (.ptr 0 0))] [(0,.own 30 (.cells [.nils,.nils,.nils]) 3)] 1 [1] uJn_0 uJn_0 uJn_0 uJn_0 ?_;refine srR zh4 fun _ K4=>?_;refine zzd ?_;refine exA (rtV t) (SV.as_refl _) ?_;refine zzd ?_;refine aI (z61 t) ?_;refine z8c t ?_;refine⟨t,rfl,ht,?_⟩;obtain⟨d,hd⟩:∃ d,d=canD ((tblT t).lang 0):=⟨_,rfl⟩;rw[←hd]
 simp only[z9a]
 refine DJn_0 ?_
 first|refine exI ?_|(intro cap1 hcap1;refine exI ?_)
 refine zh3 ?_;refine zpr ?_;refine s_n K4 ?_;refine seq_k fun _ K5=>?_;refine srR zh4 fun _ K7=>?_
 iterate 4 refine zh3 ?_
 refine s_n K7 ?_;refine z04 (b:=_) rfl (fun h_t10=>?_) (fun h_t10=>?_)
 ·try simp only[dQ,reduceIte]at h_t10
  refine srR zh4 fun _ K9=>?_;refine zh3 ?_;refine zpr ?_;refine zh3 ?_;refine s_n K9 ?_;rw[←hd,limL,if_pos (by omega)];refine z0e (z0g zh4 (fun _ _ h=>h) (z1h _) [] [.cell 2 30,.tmp 3] rfl ?_)
  repeat first|refine aI (by first|exact trivial|rfl|exact⟨rfl,rfl⟩|decide) ?_|refine z0a (by first|rfl|decide) ?_|refine z07 (by first|rfl|decide) ?_
  all_goals exact uJn_0
 ·try simp only[dQ,reduceIte]at h_t10
  refine z09 ?_;apply K5;refine srR zh4 fun _ K11=>?_;refine zh3 ?_;refine zpr ?_;refine zh3 ?_;refine s_n K11 ?_;rw[←hd,limL,if_neg (by omega)];refine z0e (z0g zh4 (fun _ _ h=>h) (z1h _) [] [.cell 2 30,.tmp 3] rfl ?_)
  repeat first|refine aI (by first|exact trivial|rfl|exact⟨rfl,rfl⟩|decide) ?_|refine z0a (by first|rfl|decide) ?_|refine z07 (by first|rfl|decide) ?_
  all_goals exact uJn_0

end Go.Proofs.YtppmnaoollkboaaDoor

namespace Go.Proofs.YtppmnaoollkboaaDoor
set_option linter.all false
open Go.Ab Go.RowKit

open Go.Aut
attribute [local irreducible] jrep jL
def prN(a b:Tab)(p x:Nat):Nat:=(tblT a).δ (p / b.next.length) (cN a x)*b.next.length+(tblT b).δ (p%b.next.length) (cN b x)
def prRow(a b:Tab)(p m:Nat):List Int:=((jrep (cN a) (cN b)).take m).map fun x=>((prN a b p x:Nat):Int)
def zzg(a b:Tab)(p:Nat):List (List Int):=(List.range p).map fun q=>prRow a b q (jrep (cN a) (cN b)).length
def prAcc(op:Bool→Bool→Bool)(a b:Tab)(p:Nat):List Bool:=(List.range p).map fun q=>op (a.acc.getD (q / b.next.length) false) (b.acc.getD (q%b.next.length) false)
@[simp] theorem prRows_length(a b:Tab)(p:Nat):(zzg a b p).length=p:=by simp[zzg]
@[simp] theorem prAcc_length(op:Bool→Bool→Bool)(a b:Tab)(p:Nat):(prAcc op a b p).length=p:=by simp[prAcc]
theorem prRow_len{a b:Tab}{p m:Nat}(h:m≤(jrep (cN a) (cN b)).length):(prRow a b p m).length=m:=by rw[prRow,List.length_map,List.length_take];omega
end Go.Proofs.YtppmnaoollkboaaDoor
