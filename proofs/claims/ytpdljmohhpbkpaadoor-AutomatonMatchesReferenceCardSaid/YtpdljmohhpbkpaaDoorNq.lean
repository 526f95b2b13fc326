/- Contracts of functions and plain facts, part 17. -/
import Derived.Test.YtpdljmohhpbkpaaDoorNp
import Derived.Test.YtpdljmohhpbkpaaDoorNl
import Derived.Test.YtpdljmohhpbkpaaDoorNj
set_option linter.all false
set_option maxHeartbeats 2000000
set_option maxRecDepth 4000
namespace Go.Proofs.YtpdljmohhpbkpaaDoor
open Go.Ab Go.RowKit

section
variable {a b:Prop}
theorem E7(h:a:=by first|exact gG|(simp[-List.reduceReplicate]<;>omega)|exact vU|exact gH):a:=h
theorem ky(h:a:=by
    repeat' (first|exact pJ|exact pT|exact trivial|refine aI ?_ ?_|exact iM|refine low_cons' ?_ ?_|exact iN|fail)
    all_goals first|omega|(show(0:Nat)< (rt _ _ _).length;rw[bG hcl];decide)|(show aB.low _ (aB.cells (List.replicate 256 _++_));exact ou)|(show(_:UInt64)=_;rw[NI,if_pos hbq];rfl)|(show(_:UInt64)=_;rw[NI,if_neg (by rw[hbq];decide)];done)|(show(_:UInt64)=qC _ _ _ 0;rfl)|(simp;done)|(show(0:Nat)< (au _ _ _ _).length;rw[dJ hcl];decide)|(simp[-List.reduceReplicate];done)|(simp[-List.reduceReplicate]<;>omega)|skip):a:=h
theorem j6(h:a:=by
    repeat' (first|exact pJ|exact pT|exact trivial|refine aI ?_ ?_|exact iM|refine low_cons' ?_ ?_|exact iN|fail)
    all_goals first|omega|(show(0:Nat)< (rt _ _ _).length;rw[bG hcl];decide)|(show aB.low _ (aB.cells (List.replicate 256 _++_));exact ou)|(simp;done)|(show(0:Nat)< (au _ _ _ _).length;rw[dJ hcl];decide)|(simp[-List.reduceReplicate];done)|(simp[-List.reduceReplicate]<;>omega)|skip):a:=h
theorem p8(kZ:b)(h:aK b->a:=by intro kZ;(repeat first|refine aI E7 ?_|refine bW E7 ?_|refine dC E7 ?_|refine fT E7 ?_|refine fA ?_);exact kZ.out):a:=h ⟨kZ⟩
theorem z61(kZ:b)(h:aK b->a:=by intro kZ;refine sX ?_;refine p8 ?_;refine aL ?_;exact kZ.out):a:=h ⟨kZ⟩
theorem Q7(kZ:b)(h:aK b->a:=by intro kZ;refine qX ?_;refine p8 ?_;refine aL ?_;exact kZ.out):a:=h ⟨kZ⟩
theorem y46(kZ:b)(h:aK b->a:=by intro kZ;refine mX ?_;refine p8 ?_;refine aL ?_;exact kZ.out):a:=h ⟨kZ⟩
theorem Nz(kZ:b)(h:aK b->a:=by intro kZ;refine sX ?_;refine p8 ?_;exact kZ.out):a:=h ⟨kZ⟩
theorem Ti(kZ:b)(h:aK b->a:=by intro kZ;refine qX ?_;refine p8 ?_;exact kZ.out):a:=h ⟨kZ⟩
theorem zr8(kZ:b)(h:aK b->a:=by intro kZ;refine mX ?_;refine p8 ?_;exact kZ.out):a:=h ⟨kZ⟩
end
open Go.Aut
theorem Zd(x:UInt64){q:Nat}(h:q< 64):decide (iD x q%2=1)=bit x q:=by
  have hn:(iD x q).toNat=x.toNat >>> q:=by
    unfold iD;rw[if_pos h,UInt64.toNat_shiftRight]
    congr 1
    rw[show q.toUInt64.toNat=q from UInt64.toNat_ofNat_of_lt' (Nat.lt_trans h (by decide))]
    omega
  rw[NG,Bool.eq_iff_iff,decide_eq_true_eq,Nat.testBit_eq_decide_div_mod_eq,decide_eq_true_eq, <-UInt64.toNat_inj,UInt64.toNat_mod,hn,Nat.shiftRight_eq_div_pow];exact Iff.rfl
def mJ(k:Int)(x y:Bool):Bool:=if k=0 then x&&y else if k=1 then x||y else if k=2 then x&& !y else x !=y
attribute [local irreducible] eG z12 zl au gz cr rt dz lc
def y47:aW:=fun vs K=>∃ (k:Int) (x y:Bool),vs=[.c (.int .i64 k),.c (.bool x),.c (.bool y)]/\K (.c (.bool (mJ k x y)))
theorem y48:jJ Tryd.prog gl 74 y47:=by
 refine kU (Γ:=g0) (N:=30) Tryd.func74 rfl rfl fun vs K h=>?_;obtain⟨k,x,y,rfl,h⟩:=h;refine⟨_,h,rfl,by simp,fun w I=>?_⟩;refine aO aF fun _ K2=>fU ?_;refine aJ K2 (aH fun _ K3=>aO aF fun _ K5=>fU ?_);refine aJ K5 (bO (aO aF fun _ K7=>?_))
 iterate 2 refine fU ?_
 refine aJ K7 (bC (b:=_) rfl (fun h_t8=>?_) (fun h_t8=>?_))
 ·try simp only[dQ,reduceIte]at h_t8
  refine aO aF fun _ K9=>fU ?_;refine gm ?_;refine fO (fun hb1=>?_) (fun hb1=>?_)
  ·try simp only[dQ,reduceIte]at hb1
   refine Ch ?_
   iterate 2 refine fU ?_
   refine aJ K9 (bQ (eU aF (fun _ _ h=>h) (by first|rfl|assumption) [.tmp 6] rfl ?_));refine gV ?_
   show SV.c (.bool _)=_
   rw[mJ,if_pos h_t8]
   first|rfl|(rw[hb1];rfl)|(simp[hb1];done)|(cases x<;>cases y<;>rfl)
  ·try simp only[dQ,reduceIte]at hb1
   refine sN ?_
   iterate 2 refine fU ?_
   refine aJ K9 (bQ (eU aF (fun _ _ h=>h) (by first|rfl|assumption) [.tmp 6] rfl ?_));refine gV ?_
   show SV.c (.bool _)=_
   rw[mJ,if_pos h_t8]
   first|rfl|(rw[hb1];rfl)|(simp[hb1];done)|(cases x<;>cases y<;>rfl)
 ·try simp only[dQ,reduceIte]at h_t8
  refine aO aF fun _ K11=>?_
  iterate 2 refine fU ?_
  refine aJ K11 (bC (b:=_) rfl (fun h_t14=>?_) (fun h_t14=>?_))
  ·try simp only[dQ,reduceIte]at h_t14
   refine aO aF fun _ K13=>fU ?_;refine gm ?_;refine fO (fun hb1=>?_) (fun hb1=>?_)
   ·try simp only[dQ,reduceIte]at hb1
    refine sN ?_
    iterate 2 refine fU ?_
    refine aJ K13 (bQ (eU aF (fun _ _ h=>h) (by first|rfl|assumption) [.tmp 6] rfl ?_));refine gV ?_
    show SV.c (.bool _)=_
    rw[mJ,if_neg h_t8,if_pos h_t14]
    first|rfl|(rw[hb1];rfl)|(simp[hb1];done)|(cases x<;>cases y<;>rfl)
   ·try simp only[dQ,reduceIte]at hb1
    refine Ch ?_
    iterate 2 refine fU ?_
    refine aJ K13 (bQ (eU aF (fun _ _ h=>h) (by first|rfl|assumption) [.tmp 6] rfl ?_));refine gV ?_
    show SV.c (.bool _)=_
    rw[mJ,if_neg h_t8,if_pos h_t14]
    first|rfl|(rw[hb1];rfl)|(simp[hb1];done)|(cases x<;>cases y<;>rfl)
  ·try simp only[dQ,reduceIte]at h_t14
   refine aO aF fun _ K15=>?_
   iterate 2 refine fU ?_
   refine aJ K15 (bC (b:=_) rfl (fun h_t20=>?_) (fun h_t20=>?_))
   ·try simp only[dQ,reduceIte]at h_t20
    refine aO aF fun _ K17=>fU ?_;refine gm ?_;refine fO (fun hb1=>?_) (fun hb1=>?_)
    ·try simp only[dQ,reduceIte]at hb1
     iterate 2 refine Ch ?_
     iterate 2 refine fU ?_
     refine aJ K17 (bQ (eU aF (fun _ _ h=>h) (by first|rfl|assumption) [.tmp 6] rfl ?_));refine gV ?_
     show SV.c (.bool _)=_
     rw[mJ,if_neg h_t8,if_neg h_t14,if_pos h_t20]
     first|rfl|(rw[hb1];rfl)|(simp[hb1];done)|(cases x<;>cases y<;>rfl)
    ·try simp only[dQ,reduceIte]at hb1
     iterate 2 refine sN ?_
     iterate 2 refine fU ?_
     refine aJ K17 (bQ (eU aF (fun _ _ h=>h) (by first|rfl|assumption) [.tmp 6] rfl ?_));refine gV ?_
     show SV.c (.bool _)=_
     rw[mJ,if_neg h_t8,if_neg h_t14,if_pos h_t20]
     first|rfl|(rw[hb1];rfl)|(simp[hb1];done)|(cases x<;>cases y<;>rfl)
   ·try simp only[dQ,reduceIte]at h_t20
    refine bK (dD (K3 _ _ _ (aO aF fun _ K19=>?_)))
    iterate 4 refine fU ?_
    refine aJ K19 (bQ (eU aF (fun _ _ h=>h) (by first|rfl|assumption) [.tmp 6] rfl ?_));refine gV ?_
    show SV.c (.bool _)=_
    rw[mJ,if_neg h_t8,if_neg h_t14,if_neg h_t20]
    first|rfl|(rw[hb1];rfl)|(simp[hb1];done)|(cases x<;>cases y<;>rfl)

def YA:aW:=fun vs K=>∃ (t:Tab) (x:UInt64) (b:Nat),vs=[jw t,.c (.u64 x),.c (.int .i64 (b:Nat))]/\(t.ok/\t.next.length<=64/\b< 256)/\K (.c (.u64 (iO t x b)))
theorem zkg:jJ Tryd.prog gl 47 YA:=by
 refine kU (Γ:=g0) (N:=36) Tryd.func47 rfl rfl fun vs K h=>?_;obtain⟨t,x,b,rfl,⟨hok,h64,hb⟩,h⟩:=h;refine⟨_,h,rfl,by simp,fun w I=>?_⟩
 have hcl:=hok.clen
 refine aO aF fun _ K2=>?_
 iterate 2 refine z61 ?_
 refine aJ K2 (aO aF fun _ K4=>z61 ?_);refine aJ K4 (aH fun _ K5=>aO aF fun _ K7=>z61 ?_);refine aJ K7 (bO (fM (α:=Nat) (fun q=>[(1,.c (.u64 x)),(2,.c (.int .i64 (b:Nat))),(3,.c (.dp (eT t) 0)),(7,.c (.u64 (qC t x b q))),(8,.c (.int .i64 (q:Nat)))]) (fun q=>[]) 0 (fun q=>q<=t.next.length) (fun q=>t.next.length - q) ?_ ?_))
 ·refine ai [0] id 0 (Nat.zero_le _) [] ky ky ky ky
 ·intro q hq;refine aH fun _ K8=>aO aF fun _ K10=>?_
  iterate 2 refine z61 ?_
  refine Nz ?_;refine aU (.c (.ds t.next.length (.cells (aS t.next)))) (ak (iC hcl)) ?_
  iterate 2 refine z61 ?_
  refine aJ K10 (bC (b:=_) rfl (fun h_t13=>?_) (fun h_t13=>?_))
  ·try simp only[dQ,reduceIte]at h_t13
   refine bK (K8 _ _ _ (aH fun _ K11=>bO ?_))
   have hqn:q< t.next.length:=by omega
   refine aO aF fun _ K13=>?_
   iterate 5 refine z61 ?_
   refine aJ K13 (bC (b:=_) rfl (fun h_t20=>?_) (fun h_t20=>?_))
   ·have hbq:bit x q=true:=by rw[<-Zd x (by omega)];simpa using h_t20
    have hc:=av hok hb
    have hxn:=bz hok hqn hc.1
    have hr:=oz hok hqn
    have hc2:(aD t).cell b< t.nc:=hc.1
    have hx64:(aD t).δ q ((aD t).cell b)< 64:=by omega
    refine TS aF aN fun _ K14=>?_
    iterate 2 refine Q7 ?_
    refine Ti ?_;refine aU (.c (.ds t.next.length (.cells (aS t.next)))) (ak (iC hcl)) ?_
    iterate 2 refine Q7 ?_
    refine Ti ?_;refine aU (.c (.ds (t.next.getD q []).length (.ints .i64 (t.next.getD q [])))) (ak (oh ⟨hqn,by omega⟩)) ?_
    iterate 3 refine Q7 ?_
    refine Ti ?_;refine aU (.c (.int .i64 (((aD t).cell b:Nat):Int))) (ak ((z52 hcl (by first|omega|(simp;done)) hb).trans (congrArg (Cell.int IntKind.i64) (av hok hb).2))) (Q7 ?_);refine Ti ?_;refine aU (.c (.int .i64 (((aD t).δ q (cN t b):Nat):Int))) (az ((congrArg (fun i=>(t.next.getD q []).getD i 0) (by omega)).trans hxn.2)) ?_
    iterate 3 refine Q7 ?_
    refine nG K14 (dD (K11 _ _ _ (bB aF fun _ K15=>?_)))
    iterate 3 refine z61 ?_
    refine aJ K15 (ai [] id (q+1) ⟨by omega,by omega⟩ [] ky ky ky ky)
   ·refine bK (dD (K11 _ _ _ (bB aF fun _ K16=>?_)))
    iterate 3 refine z61 ?_
    refine aJ K16 ?_
    have hbq:bit x q=false:=by rw[<-Zd x (by omega)];simpa using h_t20
    refine ai [] id (q+1) ⟨by omega,by omega⟩ [] ky ky ky ky
  ·try simp only[dQ,reduceIte]at h_t13
   refine eY (bJ (bJ (eX (K5 _ _ _ ?_))))
   obtain rfl:q=t.next.length:=by omega
   refine aO aF fun _ K18=>?_
   iterate 2 refine z61 ?_
   refine aJ K18 (bQ (eU aF (fun _ _ h=>h) (by first|rfl|assumption) [.tmp 6] rfl ?_));refine gV ?_
   rfl

def WO:aW:=fun vs K=>∃ (t:Tab) (x:UInt64),vs=[jw t,.c (.u64 x)]/\(t.ok/\t.next.length<=64)/\K (.c (.bool (iV t x)))
theorem zwo:jJ Tryd.prog gl 49 WO:=by
 refine kU (Γ:=g0) (N:=25) Tryd.func49 rfl rfl fun vs K h=>?_;obtain⟨t,x,rfl,⟨hok,h64⟩,h⟩:=h;refine⟨_,h,rfl,by simp,fun w I=>?_⟩
 have hcl:=hok.clen
 have hal:=hok.alen
 refine aO aF fun _ K2=>?_
 iterate 2 refine z61 ?_
 refine aJ K2 (aH fun _ K3=>aO aF fun _ K5=>z61 ?_);refine aJ K5 (bO (fM (α:=Nat) (fun q=>[(1,.c (.u64 x)),(2,.c (.dp (eT t) 0)),(5,.c (.int .i64 (q:Nat)))]) (fun q=>[]) 0 (fun q=>q<=t.next.length/\uu t x q=false) (fun q=>t.next.length - q) ?_ ?_))
 ·refine ai [0] id 0 ⟨Nat.zero_le _,rfl⟩ [] j6 j6 j6 j6
 ·intro q hq;refine aH fun _ K6=>aO aF fun _ K8=>?_
  iterate 2 refine z61 ?_
  refine Nz ?_;refine aU (.c (.ds t.next.length (.cells (aS t.next)))) (ak (iC hcl)) ?_
  iterate 2 refine z61 ?_
  refine aJ K8 (bC (b:=_) rfl (fun h_t10=>?_) (fun h_t10=>?_))
  ·try simp only[dQ,reduceIte]at h_t10
   refine bK (K6 _ _ _ (aH fun _ K9=>bO ?_))
   have hqn:q< t.next.length:=by omega
   have hqa:q< t.acc.length:=by omega
   have hbm:=Zd x (q:=q) (by omega)
   refine aO aF fun _ K11=>?_
   iterate 4 refine z61 ?_
   refine Nz ?_;refine aU (.c (.bool (bit x q))) (dN (hbm)) (Nz ?_);refine fO (fun hb5=>?_) (fun hb5=>?_)
   ·try simp only[dQ,reduceIte]at hb5
    refine y46 ?_;refine zr8 ?_;refine aU (.c (.ds t.acc.length (.bools t.acc))) (ak (nW hcl)) ?_
    iterate 2 refine y46 ?_
    refine zr8 ?_;refine aU (.c (.bool (t.acc.getD q false))) (dN (congrArg (fun i=>t.acc.getD i false) (by omega))) (z61 ?_);refine aJ K11 (bC (b:=_) rfl (fun h_t24=>?_) (fun h_t24=>?_))
    ·refine aO aF fun _ K13=>z61 ?_;refine aJ K13 (bQ (eU aF (fun _ _ h=>h) (by first|rfl|assumption) [.tmp 4] rfl ?_));refine gV ?_
     show SV.c (.bool true)=_
     have hst:uu t x (q+1)=true:=by
      rw[Po]
      first|(simp[hb5]at h_t24 ⊢;exact .inr h_t24)|(simp_all;done)
     have hs2:iV t x=true:=List.any_eq_true.2 (by obtain⟨i,hi,hp⟩:=List.any_eq_true.1 hst;exact⟨i,List.mem_range.2 (by have:=List.mem_range.1 hi;omega),hp⟩)
     rw[hs2]
    ·refine bK (dD (K9 _ _ _ (bB aF fun _ K14=>?_)))
     iterate 3 refine z61 ?_
     refine aJ K14 ?_
     have hsm:uu t x (q+1)=false:=by
      rw[Po,hq.2]
      first|(simp[hb5];done)|(simp[hb5]at h_t24 ⊢;exact h_t24)|(simp_all;done)
     refine ai [] id (q+1) ⟨⟨by omega,hsm⟩,by omega⟩ [] j6 j6 j6 j6
   ·try simp only[dQ,reduceIte]at hb5
    iterate 5 refine sN ?_
    refine z61 ?_;refine aJ K11 (bC (b:=_) rfl (fun h_t24=>?_) (fun _=>?_))
    ·exfalso;simp at h_t24
    refine bK (dD (K9 _ _ _ (bB aF fun _ K15=>?_)))
    iterate 3 refine z61 ?_
    refine aJ K15 ?_
    have hsm:uu t x (q+1)=false:=by
     rw[Po,hq.2]
     first|(simp[hb5];done)|(simp[hb5]at h_t24 ⊢;exact h_t24)|(simp_all;done)
    refine ai [] id (q+1) ⟨⟨by omega,hsm⟩,by omega⟩ [] j6 j6 j6 j6
  ·try simp only[dQ,reduceIte]at h_t10
   refine eY (bJ (bJ (eX (K3 _ _ _ (aO aF fun _ K17=>z61 ?_)))));refine aJ K17 (bQ (eU aF (fun _ _ h=>h) (by first|rfl|assumption) [.tmp 4] rfl ?_));refine gV ?_
   show SV.c (.bool false)=_
   obtain rfl:q=t.next.length:=by omega
   rw[iV,hok.alen,hq.2]


end Go.Proofs.YtpdljmohhpbkpaaDoor

namespace Go.Proofs.YtpdljmohhpbkpaaDoor
open Go.Ab Go.RowKit

section
variable {a b:Prop}
theorem E8(h:a:=by first|exact gG|(simp[-List.reduceReplicate]<;>omega)|exact Vk|exact Vl|(simp only[jH];omega)|(simp only[jI,jH];omega)|(simp only[jI,fI];omega)|exact⟨by omega,by omega,trivial,trivial⟩|(show(List.replicate 256 (0:Int)).length=(jL _ _ _).length;rw[fI,List.length_replicate])|(show 256=(jL _ _ _).length;rw[fI])|(show 0< (jL _ _ _).length;rw[fI];decide)|(show 0+(jL _ _ _).length<=(List.replicate 256 (0:Int)).length;rw[fI,List.length_replicate];decide)|(show 0+256*1<=(jL _ _ _).length;rw[fI];decide)|(show(jL _ _ _).length=256*1;rw[fI])|exact gH):a:=h
theorem dF(h:a:=by
    repeat' (first|exact pJ|exact pT|exact trivial|refine aI ?_ ?_|exact iM|refine low_cons' ?_ ?_|exact iN|fail)
    all_goals first|omega|(show(0:Nat)< (rt _ _ _).length;rw[bG ha.1.clen];decide)|(show aB.low _ (aB.cells (List.replicate 256 _++_));exact ou)|(show(0:Nat)< (rt _ _ _).length;rw[bG hb.1.clen];decide)|(show(_:List Int)=_;exact(y27 a b))|(show(_:List Int)=_;exact hX1)|(show(_:List Int)=_;exact hX2)|(show(_:List Int)=_;rw[hX2];done)|exact hXL|(rw[hXL];done)|(rw[fI];done)|(show _=(jL _ _ _).length;rw[fI])|(show(aG _).length=_;rw[jH];omega)|(show(_:List Int)=aG _;rfl)|(simp[-List.reduceReplicate];done)|(show(0:Nat)< (au _ _ _ _).length;rw[dJ hcl];decide)|(simp[-List.reduceReplicate];done)|(simp[-List.reduceReplicate]<;>omega)|skip):a:=h
theorem nK(kZ:b)(h:aK b->a:=by intro kZ;(repeat first|refine aI E8 ?_|refine bW E8 ?_|refine dC E8 ?_|refine fT E8 ?_|refine fA ?_);exact kZ.out):a:=h ⟨kZ⟩
theorem z53(kZ:b)(h:aK b->a:=by intro kZ;refine sX ?_;refine nK ?_;refine aL ?_;exact kZ.out):a:=h ⟨kZ⟩
theorem Tj(kZ:b)(h:aK b->a:=by intro kZ;refine jl ?_;refine nK ?_;refine aL ?_;exact kZ.out):a:=h ⟨kZ⟩
theorem GH(kZ:b)(h:aK b->a:=by intro kZ;refine mX ?_;refine nK ?_;refine aL ?_;exact kZ.out):a:=h ⟨kZ⟩
theorem Nv(kZ:b)(h:aK b->a:=by intro kZ;refine qX ?_;refine nK ?_;refine aL ?_;exact kZ.out):a:=h ⟨kZ⟩
theorem Tk(kZ:b)(h:aK b->a:=by intro kZ;refine Md ?_;refine nK ?_;refine aL ?_;exact kZ.out):a:=h ⟨kZ⟩
theorem y4a(kZ:b)(h:aK b->a:=by intro kZ;refine sX ?_;refine nK ?_;exact kZ.out):a:=h ⟨kZ⟩
theorem Tm(kZ:b)(h:aK b->a:=by intro kZ;refine qX ?_;refine nK ?_;exact kZ.out):a:=h ⟨kZ⟩
theorem Yo(kZ:b)(h:aK b->a:=by intro kZ;refine Md ?_;refine nK ?_;exact kZ.out):a:=h ⟨kZ⟩
end
open Go.Aut
def ul(a b:Tab)(x i id:Nat):Prop:=(id=(jR a b x).length/\i<=(jR a b x).length/\∀ j,j< i->jk a b ((jR a b x).getD j 0)≠jk a b x)\/(id< (jR a b x).length/\i<=(jR a b x).length/\jk a b ((jR a b x).getD id 0)=jk a b x)
theorem zG(a b:Tab):SV.low 0 (.tup [.agg (.ints .i64 (jL a b 256)),.c (.ds (jR a b 256).length (.ints .i64 (aG (jR a b 256))))]):=List.forall_mem_cons.2 ⟨trivial,List.forall_mem_cons.2 ⟨trivial,fun _ h=>by cases h⟩⟩
theorem O0{a b:Tab}{x j:Nat}(hj:j< (jR a b x).length):(jR a b x).getD j 0< x:=by
  have:=PW (key:=jk a b) (l:=List.range x) (x:=(jR a b x).getD j 0) (getD_mem' hj)
  exact List.mem_range.1 this
theorem yY(a b:Tab)(x:Nat):(jR a b x).map (jk a b)=jK a b x:=Lb _
theorem EA{a b:Tab}{x i id:Nat}(hx:x< 256)(h:ul a b x i id)(he:id=(jR a b x).length)(hi:(jR a b x).length<=i):jk a b x∉jK a b x:=by
  rcases h with⟨_,_,h⟩|⟨h,_⟩
  · intro hm
    rw[<-yY]at hm;obtain⟨y,hy,e⟩:=List.mem_map.1 hm;obtain⟨j,hj,e2⟩:=List.getElem_of_mem hy;refine h j (by omega) ?_;rw[qb hj,e2];exact e
  · omega
theorem yX{a b:Tab}{x i id:Nat}(hx:x< 256)(h:ul a b x i id)(he:id< (jR a b x).length):jk a b x∈jK a b x/\fF (jK a b x) (jk a b x)=id:=by
  rcases h with⟨h,_⟩|⟨_,_,h⟩
  · omega
  · have hg:(jK a b x)[id]? =some (jk a b x):=by
      rw[<-yY,List.getElem?_map,List.getElem?_eq_getElem he, <-h,qb he];rfl
    exact⟨List.mem_of_getElem? hg,MF (Gh _) hg⟩
attribute [local irreducible] eG z12 zl au gz cr rt dz lc jL iR aA
def Tn:aW:=fun vs K=>∃ a b:Tab,vs=[jw a,jw b]/\(a.fit/\b.fit)/\K (.tup [.agg (.ints .i64 (jL a b 256)),.c (.ds (jR a b 256).length (.ints .i64 (aG (jR a b 256))))])
theorem YB :jr Tryd.prog gl 45 Tn:=by
 refine kJ (Γ:=g0) (N:=71) Tryd.func45 rfl rfl fun vs K h=>?_;obtain⟨a,b,rfl,⟨ha,hb⟩,h⟩:=h;refine⟨_,h,zG a b,by simp,fun w I=>?_⟩;refine aO aF fun _ K2=>?_
 iterate 4 refine z53 ?_
 refine aJ K2 (aO aF fun _ K4=>?_)
 iterate 2 refine z53 ?_
 refine Tj ?_;refine aJ K4 (aO aF fun _ K6=>?_)
 iterate 2 refine z53 ?_
 refine aJ K6 (aH fun _ K7=>aO aF fun _ K9=>z53 ?_);refine aJ K9 (bO (fM (α:=Nat×Nat) (fun q=>[(2,.c (.dp (eT a) 0)),(3,.c (.dp (eT b) 0)),(4,.c (.ptr 0 0)),(6,.c (.ptr 1 0)),(7,.c (.slice 2 0 (jR a b q.1).length q.2)),(8,.c (.int .i64 (q.1:Nat)))]) (fun q=>[(0,.own 54 (.ints .i64 (List.replicate 256 0)) 256),(1,.own 54 (.ints .i64 (jL a b q.1)) 256),(2,.own 3 (.ints .i64 (aG (jR a b q.1))) q.2)]) 3 (fun q=>q.1<=256/\(jR a b q.1).length<=q.2) (fun q=>256 - q.1) ?_ ?_))
 ·refine ai [0,1] (fun i=>i+2) (0,0) ⟨Nat.zero_le _,Nat.le_refl _⟩ [2,3,4] dF dF dF dF
 ·intro q hq;refine aH fun _ K10=>aO aF fun _ K12=>?_
  iterate 2 refine z53 ?_
  refine aJ K12 (bC (b:=_) rfl (fun h_t14=>?_) (fun h_t14=>?_))
  ·try simp only[dQ,reduceIte]at h_t14
   refine bK (K10 _ _ _ (aH fun _ K13=>bO (aO aF fun _ K15=>?_)))
   iterate 3 refine z53 ?_
   refine aJ K15 (qf (α:=Nat×Nat) (fun p=>[(2,.c (.dp (eT a) 0)),(3,.c (.dp (eT b) 0)),(4,.c (.ptr 0 0)),(6,.c (.ptr 1 0)),(7,.c (.slice 2 0 (jR a b q.1).length q.2)),(8,.c (.int .i64 (q.1:Nat))),(9,.c (.int .i64 (p.2:Nat))),(10,.c (.int .i64 (p.1:Nat)))]) (fun p=>[(0,.own 54 (.ints .i64 (List.replicate 256 0)) 256),(1,.own 54 (.ints .i64 (jL a b q.1)) 256),(2,.own 3 (.ints .i64 (aG (jR a b q.1))) q.2)]) 3 (fun p=>ul a b q.1 p.1 p.2/\(p.2=(jR a b q.1).length->(jR a b q.1).length<=p.1)) ?_ ?_)
   ·refine aO aF fun _ K17=>z53 ?_;refine aJ K17 (bO (fM (α:=Nat×Nat) (fun p=>[(2,.c (.dp (eT a) 0)),(3,.c (.dp (eT b) 0)),(4,.c (.ptr 0 0)),(6,.c (.ptr 1 0)),(7,.c (.slice 2 0 (jR a b q.1).length q.2)),(8,.c (.int .i64 (q.1:Nat))),(9,.c (.int .i64 (p.2:Nat))),(10,.c (.int .i64 (p.1:Nat)))]) (fun p=>[(0,.own 54 (.ints .i64 (List.replicate 256 0)) 256),(1,.own 54 (.ints .i64 (jL a b q.1)) 256),(2,.own 3 (.ints .i64 (aG (jR a b q.1))) q.2)]) 3 (fun p=>ul a b q.1 p.1 p.2) (fun p=>(jR a b q.1).length - p.1) ?_ ?_))
    ·refine ai [] id (0,(jR a b q.1).length) (.inl ⟨rfl,Nat.zero_le _,fun j hj=>absurd hj (Nat.not_lt_zero j)⟩) [0,1,2] dF dF dF dF
    ·intro p hp;refine aH fun _ K18=>aO aF fun _ K20=>?_
     iterate 4 refine z53 ?_
     refine y4a ?_;refine fO (fun hb4=>?_) (fun hb4=>?_)
     ·try simp only[dQ,reduceIte]at hb4
      iterate 4 refine GH ?_
      refine z53 ?_;refine aJ K20 (bC (b:=_) rfl (fun h_t28=>?_) (fun h_t28=>?_))
      ·try simp only[dQ,reduceIte]at h_t28
       refine bK (K18 _ _ _ (aH fun _ K21=>bO ?_))
       have hpi:p.1< (jR a b q.1).length:=by omega
       have hpl:=O0 hpi
       have hq256:q.1< 256:=by omega
       have hp256:(jR a b q.1).getD p.1 0< 256:=by omega
       have hrl9:=UK a b q.1
       refine qB aF aN fun _ K23=>?_
       iterate 3 refine Nv ?_
       refine Tm ?_;refine aU (.c (.int .i64 ((cN a q.1:Nat):Int))) (ak ((z52 ha.1.clen (by first|omega|(simp;done)) hq256).trans (congrArg (Cell.int IntKind.i64) (av ha.1 hq256).2))) ?_
       iterate 3 refine Nv ?_
       refine Tm ?_;refine aU (.c (.int .i64 ((((jR a b q.1).getD p.1 0:Nat):Int)))) (az ((congrArg (fun i=>(aG (jR a b q.1)).getD i 0) (by omega)).trans jd)) ?_
       iterate 2 refine Nv ?_
       refine Tm ?_;refine aU (.c (.int .i64 ((cN a ((jR a b q.1).getD p.1 0):Nat):Int))) (ak ((z52 ha.1.clen (by first|omega|(simp;done)) hp256).trans (congrArg (Cell.int IntKind.i64) (av ha.1 hp256).2))) (Nv ?_);refine Tm ?_;refine fO (fun hb12=>?_) (fun hb12=>?_)
       ·try simp only[dQ,reduceIte]at hb12
        iterate 3 refine Tk ?_
        refine Yo ?_;refine aU (.c (.int .i64 ((cN b q.1:Nat):Int))) (ak ((z52 hb.1.clen (by first|omega|(simp;done)) hq256).trans (congrArg (Cell.int IntKind.i64) (av hb.1 hq256).2))) ?_
        iterate 3 refine Tk ?_
        refine Yo ?_;refine aU (.c (.int .i64 ((((jR a b q.1).getD p.1 0:Nat):Int)))) (az ((congrArg (fun i=>(aG (jR a b q.1)).getD i 0) (by omega)).trans jd)) ?_
        iterate 2 refine Tk ?_
        refine Yo ?_;refine aU (.c (.int .i64 ((cN b ((jR a b q.1).getD p.1 0):Nat):Int))) (ak ((z52 hb.1.clen (by first|omega|(simp;done)) hp256).trans (congrArg (Cell.int IntKind.i64) (av hb.1 hp256).2))) (Tk ?_);refine Nv ?_;refine nG K23 (bC (b:=_) rfl (fun h_t56=>?_) (fun h_t56=>?_))
        ·try simp only[dQ,reduceIte]at h_t56
         refine bB aF fun _ K24=>?_
         iterate 2 refine z53 ?_
         refine aJ K24 (dD (K21 _ _ _ (bB aF fun _ K25=>?_)))
         iterate 3 refine z53 ?_
         refine aJ K25 ?_
         have hhit:jk a b ((jR a b q.1).getD p.1 0)=jk a b q.1:=by
          have e1:cN a q.1=cN a ((jR a b q.1).getD p.1 0):=by omega
          have e2:cN b q.1=cN b ((jR a b q.1).getD p.1 0):=by first|omega|(simp[hb12]at h_t56;omega)
          exact Prod.ext e1.symm e2.symm
         refine ai [] id (p.1+1,p.1) ⟨.inr ⟨hpi,by omega,hhit⟩,by omega⟩ [0,1,2] dF dF dF dF
        ·try simp only[dQ,reduceIte]at h_t56
         refine bK (dD (K21 _ _ _ (bB aF fun _ K26=>?_)))
         iterate 3 refine z53 ?_
         refine aJ K26 ?_
         have hmiss:ul a b q.1 (p.1+1) p.2:=by
          rcases hp with⟨e,hi,hno⟩|⟨e,_⟩
          ·refine .inl ⟨e,by omega,fun j hj=>?_⟩
           rcases Nat.lt_succ_iff_lt_or_eq.1 hj with h1|h1
           ·exact hno j h1
           ·subst h1
            intro hk
            have e1:cN a ((jR a b q.1).getD p.1 0)=cN a q.1:=congrArg Prod.fst hk
            have e2:cN b ((jR a b q.1).getD p.1 0)=cN b q.1:=congrArg Prod.snd hk
            first|omega|(simp[hb12]at h_t56;omega)
          ·omega
         refine ai [] id (p.1+1,p.2) ⟨hmiss,by omega⟩ [0,1,2] dF dF dF dF
       ·try simp only[dQ,reduceIte]at hb12
        iterate 12 refine qN ?_
        refine Nv ?_;refine nG K23 (bC (b:=_) rfl (fun h_t56=>?_) (fun _=>?_))
        ·exfalso;simp at h_t56
        refine bK (dD (K21 _ _ _ (bB aF fun _ K27=>?_)))
        iterate 3 refine z53 ?_
        refine aJ K27 ?_
        have hmiss:ul a b q.1 (p.1+1) p.2:=by
         rcases hp with⟨e,hi,hno⟩|⟨e,_⟩
         ·refine .inl ⟨e,by omega,fun j hj=>?_⟩
          rcases Nat.lt_succ_iff_lt_or_eq.1 hj with h1|h1
          ·exact hno j h1
          ·subst h1
           intro hk
           have e1:cN a ((jR a b q.1).getD p.1 0)=cN a q.1:=congrArg Prod.fst hk
           have e2:cN b ((jR a b q.1).getD p.1 0)=cN b q.1:=congrArg Prod.snd hk
           first|omega|(simp[hb12]at h_t56;omega)
         ·omega
        refine ai [] id (p.1+1,p.2) ⟨hmiss,by omega⟩ [0,1,2] dF dF dF dF
      ·try simp only[dQ,reduceIte]at h_t28
       refine eY (bJ (bJ (eX (ai [] id p ⟨hp,fun e=>by omega⟩ [0,1,2] dF dF dF dF))))
     ·try simp only[dQ,reduceIte]at hb4
      iterate 4 refine sN ?_
      refine z53 ?_;refine aJ K20 (bC (b:=_) rfl (fun h_t28=>?_) (fun _=>?_))
      ·exfalso;simp at h_t28
      refine eY (bJ (bJ (eX (ai [] id p ⟨hp,fun e=>by omega⟩ [0,1,2] dF dF dF dF))))
   ·intro p hp0
    obtain⟨hp,hpe⟩:=hp0;refine aH fun _ K28=>?_
    have hq256:q.1< 256:=by omega
    have hrl:=UK a b q.1
    refine aO aF fun _ K30=>?_
    iterate 4 refine z53 ?_
    refine aJ K30 (bC (b:=_) rfl (fun h_t61=>?_) (fun h_t61=>?_))
    ·try simp only[dQ,reduceIte]at h_t61
     refine bB aF fun _ K31=>?_
     iterate 3 refine z53 ?_
     refine y4a ?_;intro cap3 hcap3;refine aL (z53 ?_);refine aJ K31 (K28 _ _ _ ?_)
     have hset:(0+((q.1:Nat):Int).toNat*1)=q.1:=by omega
     refine bB aF fun _ K32=>?_
     iterate 3 refine z53 ?_
     refine Tj ?_;refine aJ K32 (dD (K13 _ _ _ (bB aF fun _ K33=>?_)))
     iterate 3 refine z53 ?_
     refine aJ K33 ?_
     have he9:p.2=(jR a b q.1).length:=by omega
     have hno:=EA hq256 hp he9 (hpe he9)
     obtain⟨_,hR,hC⟩:=O1 hq256 hno
     have hX1:(jL a b q.1).set (0+((q.1:Nat):Int).toNat*1) ((p.2:Nat):Int)=jL a b (q.1+1):=by rw[hset,show p.2=iR (cN a) (cN b) q.1 by rw[hC];omega];exact UJ hq256
     have hX2:aG (jR a b q.1)++([]++[((q.1:Nat):Int)])=aG (jR a b (q.1+1)):=by rw[hR,List.nil_append];exact z39 _ _
     have hXL:(jR a b q.1).length+1=(jR a b (q.1+1)).length:=by rw[hR,List.length_append];rfl
     refine ai [] (fun i=>if i=2 then 4 else i) (q.1+1,cap3) ⟨⟨by omega,by rw[<-hXL];omega⟩,by omega⟩ [0,1,4] ?_ ?_ ?_ ?_
     ·exact dF
     ·exact dF
     ·exact dF
     ·exact dF
    ·try simp only[dQ,reduceIte]at h_t61
     refine bK (K28 _ _ _ ?_)
     have hset:(0+((q.1:Nat):Int).toNat*1)=q.1:=by omega
     refine bB aF fun _ K34=>?_
     iterate 3 refine z53 ?_
     refine Tj ?_;refine aJ K34 (dD (K13 _ _ _ (bB aF fun _ K35=>?_)))
     iterate 3 refine z53 ?_
     refine aJ K35 ?_
     have hlt9:p.2< (jR a b q.1).length:=by rcases hp with⟨e,_⟩|⟨e,_⟩<;>omega
     obtain⟨hyes,hid⟩:=yX hq256 hp hlt9;obtain⟨_,hR,hC⟩:=IL hq256 hyes
     have hX1:(jL a b q.1).set (0+((q.1:Nat):Int).toNat*1) ((p.2:Nat):Int)=jL a b (q.1+1):=by rw[hset,show p.2=iR (cN a) (cN b) q.1 by rw[hC,hid]];exact UJ hq256
     have hX2:aG (jR a b q.1)=aG (jR a b (q.1+1)):=by rw[hR]
     have hXL:(jR a b q.1).length=(jR a b (q.1+1)).length:=by rw[hR]
     refine ai [] id (q.1+1,q.2) ⟨⟨by omega,by rw[<-hXL];omega⟩,by omega⟩ [0,1,2] ?_ ?_ ?_ ?_
     ·exact dF
     ·exact dF
     ·exact dF
     ·exact dF
  ·try simp only[dQ,reduceIte]at h_t14
   refine eY (bJ (bJ (eX (K7 _ _ _ (aO aF fun _ K37=>?_)))))
   iterate 2 refine z53 ?_
   refine Tj ?_;refine z53 ?_;refine aJ K37 ?_
   obtain hq9:q.1=256:=by omega
   rw[hq9];refine bQ (gT aF (fun _ _ h=>h) (zG a b) [2] [.cell 4 54,.tmp 5] rfl ?_)
   generalize jR a b 256=J9
   repeat first|refine aI (by first|exact trivial|(show 0+256*1<=(jL _ _ _).length;rw[fI];decide)|(show(0:Nat)< 256;decide)|omega|exact Vk|exact Vl|(simp only[jH];omega)|(simp only[jI,jH];omega)|(simp only[jI,fI];omega)|exact⟨by omega,by omega,trivial,trivial⟩|(show(List.replicate 256 (0:Int)).length=(jL _ _ _).length;rw[fI,List.length_replicate])|(show 256=(jL _ _ _).length;rw[fI])|(show 0< (jL _ _ _).length;rw[fI];decide)|(show 0+(jL _ _ _).length<=(List.replicate 256 (0:Int)).length;rw[fI,List.length_replicate];decide)|(show 0+256*1<=(jL _ _ _).length;rw[fI];decide)|(show(jL _ _ _).length=256*1;rw[fI])) ?_|refine bW (by show(jL _ _ _).length=256*1;rw[fI]) ?_
   all_goals exact dF


end Go.Proofs.YtpdljmohhpbkpaaDoor

namespace Go.Proofs.YtpdljmohhpbkpaaDoor
open Go.Ab Go.RowKit

open Go.Aut
attribute [local irreducible] eG z12 zl au gz cr rt dz lc
def sW(t:Tab)(p:Nat):UInt64:=if t.acc.getD p false=true then 1 else 0
def y4c:aW:=fun vs K=>∃ (t:Tab) (p:Nat),vs=[jw t,.c (.int .i64 (p:Nat))]/\(t.ok/\p< t.next.length)/\K (.c (.u64 (sW t p)))
theorem y4d:jJ Tryd.prog gl 46 y4c:=by
 refine kU (Γ:=g0) (N:=10) Tryd.func46 rfl rfl fun vs K h=>?_;obtain⟨t,p,rfl,⟨hok,hp⟩,h⟩:=h;refine⟨_,h,rfl,by simp,fun w I=>?_⟩
 have hcl:=hok.clen
 have hal:=hok.alen
 refine aO aF fun _ K2=>?_
 iterate 2 refine z61 ?_
 refine aJ K2 (aH fun _ K3=>fQ [0] id [(1,.c (.int .i64 (p:Nat))),(2,.c (.dp (eT t) 0)),(4,.c (.u64 0))] [] 0 [] j6 j6 j6 j6 (aO aF fun _ K5=>z61 ?_));refine Nz ?_;refine aU (.c (.ds t.acc.length (.bools t.acc))) (ak (nW hcl)) ?_
 iterate 2 refine z61 ?_
 refine Nz ?_;refine aU (.c (.bool (t.acc.getD p false))) (dN (congrArg (fun i=>t.acc.getD i false) (by omega))) (aJ K5 (bC (b:=_) rfl (fun h_t9=>?_) (fun h_t9=>?_)))
 ·refine aO aF fun _ K7=>z61 ?_;refine aJ K7 (bQ (eU aF (fun _ _ h=>h) (by first|rfl|assumption) [.tmp 4] rfl ?_));refine gV ?_
  show SV.c (.u64 1)=_
  rw[sW,if_pos h_t9]
 ·refine bK (K3 _ _ _ (aO aF fun _ K9=>z61 ?_));refine aJ K9 (bQ (eU aF (fun _ _ h=>h) (by first|rfl|assumption) [.tmp 4] rfl ?_));refine gV ?_
  show SV.c (.u64 0)=_
  rw[sW,if_neg (by rw[h_t9];decide)]


end Go.Proofs.YtpdljmohhpbkpaaDoor
