/- Contracts of functions and plain facts, part 18. -/
import Derived.Test.YtpdljmohhpbkpaaDoorNp
import Derived.Test.YtpdljmohhpbkpaaDoorNd
set_option linter.all false
set_option maxHeartbeats 2000000
set_option maxRecDepth 4000
namespace Go.Proofs.YtpdljmohhpbkpaaDoor
open Go.Ab Go.RowKit

section
variable {a b:Prop}
theorem E9(h:a:=by first|exact gG|(simp[-List.reduceReplicate]<;>omega)|exact vU|(simp only[jH];omega)|(simp only[jI,jH];omega)|(rw[jH];omega)|(simp only[z17,vX];omega)|exact gH):a:=h
theorem Ea(h:a:=by first|exact gG|(simp[-List.reduceReplicate]<;>omega)|exact vU|(simp only[jH];omega)|(simp only[jI,jH];omega)|(rw[jH];omega)|(simp only[z17,vX];omega)|(simp;omega)|exact gH):a:=h
theorem ek(h:a:=by
    repeat' (first|exact pJ|exact pT|exact trivial|refine aI ?_ ?_|exact iM|refine low_cons' ?_ ?_|exact iN|fail)
    all_goals first|omega|(show(0:Nat)< (rt _ _ _).length;rw[bG hcl];decide)|(show aB.low _ (aB.cells (List.replicate 256 _++_));exact ou)|exact hL0|exact hL|(show(_:List Bool)=_;first|exact hS1|rfl)|(show(_:List Int)=_;first|exact hS2|rfl)|(simp;done)|(show(0:Nat)< (au _ _ _ _).length;rw[dJ hcl];decide)|(simp[-List.reduceReplicate];done)|(simp[-List.reduceReplicate]<;>omega)|skip):a:=h
theorem kz(h:a:=by
    repeat' (first|exact pJ|exact pT|exact trivial|refine aI ?_ ?_|exact iM|refine low_cons' ?_ ?_|exact iN|fail)
    all_goals first|omega|(show(0:Nat)< (rt _ _ _).length;rw[bG hcl];decide)|(show aB.low _ (aB.cells (List.replicate 256 _++_));exact ou)|(simp;done)|(show(0:Nat)< (au _ _ _ _).length;rw[dJ hcl];decide)|(simp[-List.reduceReplicate];done)|(simp[-List.reduceReplicate]<;>omega)|skip):a:=h
theorem qi(kZ:b)(h:aK b->a:=by intro kZ;(repeat first|refine aI E9 ?_|refine bW E9 ?_|refine dC E9 ?_|refine fT E9 ?_|refine fA ?_);exact kZ.out):a:=h ⟨kZ⟩
theorem mM(kZ:b)(h:aK b->a:=by intro kZ;refine sX ?_;refine qi ?_;refine aL ?_;exact kZ.out):a:=h ⟨kZ⟩
theorem Hf(kZ:b)(h:aK b->a:=by intro kZ;(repeat first|refine aI Ea ?_|refine bW Ea ?_|refine dC Ea ?_|refine fT Ea ?_|refine fA ?_);exact kZ.out):a:=h ⟨kZ⟩
theorem Ky(kZ:b)(h:aK b->a:=by intro kZ;refine sX ?_;refine Hf ?_;refine aL ?_;exact kZ.out):a:=h ⟨kZ⟩
theorem Fu(kZ:b)(h:aK b->a:=by intro kZ;refine jl ?_;refine Hf ?_;refine aL ?_;exact kZ.out):a:=h ⟨kZ⟩
theorem z62(kZ:b)(h:aK b->a:=by intro kZ;refine qX ?_;refine qi ?_;refine aL ?_;exact kZ.out):a:=h ⟨kZ⟩
theorem Fv(kZ:b)(h:aK b->a:=by intro kZ;refine jl ?_;refine qi ?_;refine aL ?_;exact kZ.out):a:=h ⟨kZ⟩
theorem Gu(kZ:b)(h:aK b->a:=by intro kZ;refine sX ?_;refine qi ?_;exact kZ.out):a:=h ⟨kZ⟩
theorem z54(kZ:b)(h:aK b->a:=by intro kZ;refine qX ?_;refine qi ?_;exact kZ.out):a:=h ⟨kZ⟩
end
open Go.Aut
attribute [local irreducible] eG z12 zl au gz cr rt dz lc
def zra:aW:=fun vs K=>∃ t:Tab,vs=[jw t]/\t.fit/\K (.c (.ds (ny (aD t)).length (.ints .i64 (aG (ny (aD t))))))
theorem zty:jr Tryd.prog gl 70 zra:=by
 refine kJ (Γ:=g0) (N:=57) Tryd.func70 rfl rfl fun vs K h=>?_;obtain⟨t,rfl,ht,h⟩:=h;refine⟨_,h,trivial,by simp,fun w I=>?_⟩
 have ht0:=ht
 obtain⟨hok,hlen,hnc⟩:=ht0
 have hcl:=hok.clen
 refine aO aF fun _ K2=>?_
 iterate 2 refine mM ?_
 refine aJ K2 (fQ [0] id [(1,.c (.dp (eT t) 0))] [] 0 [] ek ek ek ek (aO aF fun _ K4=>mM ?_));refine Gu ?_;refine aU (.c (.ds t.next.length (.cells (aS t.next)))) (ak (iC hcl)) ?_
 iterate 3 refine mM ?_
 refine aJ K4 ?_
 have hnp:=hok.npos
 refine fQ [] id [(1,.c (.dp (eT t) 0)),(3,.c (.slice 0 0 t.next.length t.next.length))] [(0,.own 4 (.bools (List.replicate t.next.length false)) t.next.length)] 1 [0] ek ek ek ek (aO aF fun _ K6=>?_)
 iterate 2 refine Ky ?_
 refine Fu ?_;refine aJ K6 (aO aF fun _ K8=>?_)
 iterate 2 refine mM ?_
 refine aJ K8 (aH fun _ K9=>aO aF fun _ K11=>mM ?_);refine aJ K11 (bO (fM (α:=Nat×Nat) (fun s=>[(1,.c (.dp (eT t) 0)),(3,.c (.slice 0 0 t.next.length t.next.length)),(4,.c (.slice 1 0 ((aP (aD t).δ t.nc 0 (s.1*t.nc))).length s.2)),(5,.c (.int .i64 ((s.1:Nat):Int)))]) (fun s=>[(0,.own 4 (.bools (fw (aP (aD t).δ t.nc 0 (s.1*t.nc)) t.next.length)) t.next.length),(1,.own 3 (.ints .i64 (aG (aP (aD t).δ t.nc 0 (s.1*t.nc)))) s.2)]) 2 (fun s=>s.1<=t.next.length/\(∀ j,j< s.1->j< (aP (aD t).δ t.nc 0 (j*t.nc)).length)/\s.1<=(aP (aD t).δ t.nc 0 (s.1*t.nc)).length/\(aP (aD t).δ t.nc 0 (s.1*t.nc)).length<=s.2) (fun s=>t.next.length - s.1) ?_ ?_))
 ·have hz:(aP (aD t).δ t.nc 0 (0*t.nc))=[0]:=by rw[Nat.zero_mul];rfl
  have hS1:(List.replicate t.next.length false).set 0 true=fw (aP (aD t).δ t.nc 0 (0*t.nc)) t.next.length:=by rw[hz];exact XJ _
  have hS2:([]++[0]:List Int)=aG (aP (aD t).δ t.nc 0 (0*t.nc)):=by rw[hz];rfl
  have hL0:1=(aP (aD t).δ t.nc 0 (0*t.nc)).length:=by rw[hz];rfl
  refine ai [] id (0,1) ⟨Nat.zero_le _,fun j hj=>absurd hj (Nat.not_lt_zero j),Nat.zero_le _,by rw[hz];exact Nat.le_refl _⟩ [0,1] ?_ ?_ ?_ ?_
  ·exact ek
  ·exact ek
  ·exact ek
  ·exact ek
 ·intro s hs
  have hs3:=hs.2.2.1
  have hs4:=hs.2.2.2
  have hs1:=hs.1
  refine aH fun _ K12=>aO aF fun _ K14=>?_
  iterate 4 refine mM ?_
  refine aJ K14 (bC (b:=_) rfl (fun h_t18=>?_) (fun h_t18=>?_))
  ·try simp only[dQ,reduceIte]at h_t18
   refine bK (K12 _ _ _ (aH fun _ K15=>bO ?_))
   have hi:s.1< (aP (aD t).δ t.nc 0 (s.1*t.nc)).length:=by omega
   have hsi:=Ni hok _ _ (getD_mem' hi)
   have hrl:=oz hok hsi
   have hole:=UG hok (s.1*t.nc)
   refine qB aF aN fun _ K17=>z62 ?_;refine z54 ?_;refine aU (.c (.ds t.next.length (.cells (aS t.next)))) (ak (iC hcl)) ?_
   iterate 3 refine z62 ?_
   refine z54 ?_;refine aU (.c (.int .i64 (((((aP (aD t).δ t.nc 0 (s.1*t.nc)).getD s.1 0):Nat):Int)))) (az ((congrArg (fun i=>(aG (aP (aD t).δ t.nc 0 (s.1*t.nc))).getD i 0) (by omega)).trans jd)) (z62 ?_);refine z54 ?_;refine aU (.c (.ds (t.next.getD ((aP (aD t).δ t.nc 0 (s.1*t.nc)).getD s.1 0) []).length (.ints .i64 (t.next.getD ((aP (aD t).δ t.nc 0 (s.1*t.nc)).getD s.1 0) [])))) (ak (oh ⟨hsi,by omega⟩)) (z62 ?_);refine nG K17 (aO aF fun _ K19=>mM ?_);refine aJ K19 (bO (fM (α:=Nat×Nat) (fun k=>[(1,.c (.dp (eT t) 0)),(3,.c (.slice 0 0 t.next.length t.next.length)),(4,.c (.slice 1 0 ((aP (aD t).δ t.nc 0 (s.1*t.nc+k.1))).length k.2)),(5,.c (.int .i64 ((s.1:Nat):Int))),(6,.c (.ds (t.next.getD ((aP (aD t).δ t.nc 0 (s.1*t.nc)).getD s.1 0) []).length (.ints .i64 (t.next.getD ((aP (aD t).δ t.nc 0 (s.1*t.nc)).getD s.1 0) [])))),(7,.c (.int .i64 (k.1:Nat)))]) (fun k=>[(0,.own 4 (.bools (fw (aP (aD t).δ t.nc 0 (s.1*t.nc+k.1)) t.next.length)) t.next.length),(1,.own 3 (.ints .i64 (aG (aP (aD t).δ t.nc 0 (s.1*t.nc+k.1)))) k.2)]) 2 (fun k=>k.1<=t.nc/\(aP (aD t).δ t.nc 0 (s.1*t.nc+k.1)).length<=k.2) (fun k=>t.nc - k.1) ?_ ?_))
   ·refine ai [] id (0,s.2) ⟨Nat.zero_le _,hs4⟩ [0,1] ek ek ek ek
   ·intro k hk
    have hk2:=hk.2
    have hk1:=hk.1
    refine aH fun _ K20=>aO aF fun _ K22=>?_
    iterate 4 refine mM ?_
    refine aJ K22 (bC (b:=_) rfl (fun h_t32=>?_) (fun h_t32=>?_))
    ·try simp only[dQ,reduceIte]at h_t32
     refine bK (K20 _ _ _ (aH fun _ K23=>bO ?_))
     have hk:k.1< t.nc:=by omega
     have hx:=bz hok hsi hk
     have hat:=QY (f:=(aD t).δ) (b0:=0) hi (Nat.le_add_right (s.1*t.nc) k.1)
     have hst:=SX (f:=(aD t).δ) (b0:=0) (i:=s.1) hk
     rw[hat]at hst
     have hol:=UG hok (s.1*t.nc+k.1)
     refine aO aF fun _ K25=>?_
     iterate 4 refine mM ?_
     refine Gu ?_;refine aU (.c (.int .i64 (((((aD t).δ ((aP (aD t).δ t.nc 0 (s.1*t.nc)).getD s.1 0) k.1):Nat):Int)))) (az ((congrArg (fun i=>(t.next.getD ((aP (aD t).δ t.nc 0 (s.1*t.nc)).getD s.1 0) []).getD i 0) (by omega)).trans hx.2)) (mM ?_);refine Gu ?_;refine aU (.c (.bool (decide (((aD t).δ ((aP (aD t).δ t.nc 0 (s.1*t.nc)).getD s.1 0) k.1)∈(aP (aD t).δ t.nc 0 (s.1*t.nc+k.1)))))) (dN (by rw[<-P8 hx.1];congr 1;omega)) (mM ?_);refine aJ K25 (bC (b:=_) rfl (fun h_t42=>?_) (fun h_t42=>?_))
     ·refine aO aF fun _ K27=>?_
      iterate 4 refine mM ?_
      refine Gu ?_;refine aU (.c (.int .i64 (((((aD t).δ ((aP (aD t).δ t.nc 0 (s.1*t.nc)).getD s.1 0) k.1):Nat):Int)))) (az ((congrArg (fun i=>(t.next.getD ((aP (aD t).δ t.nc 0 (s.1*t.nc)).getD s.1 0) []).getD i 0) (by omega)).trans hx.2)) (mM ?_);refine Fv ?_;refine aJ K27 (bB aF fun _ K28=>?_)
      iterate 4 refine mM ?_
      refine Gu ?_;refine aU (.c (.int .i64 (((((aD t).δ ((aP (aD t).δ t.nc 0 (s.1*t.nc)).getD s.1 0) k.1):Nat):Int)))) (az ((congrArg (fun i=>(t.next.getD ((aP (aD t).δ t.nc 0 (s.1*t.nc)).getD s.1 0) []).getD i 0) (by omega)).trans hx.2)) (mM ?_);refine Gu ?_;intro cap6 hcap6;refine aL (mM ?_);refine aJ K28 (dD (K23 _ _ _ (bB aF fun _ K29=>?_)))
      iterate 3 refine mM ?_
      refine aJ K29 ?_
      have hno:((aD t).δ ((aP (aD t).δ t.nc 0 (s.1*t.nc)).getD s.1 0) k.1)∉(aP (aD t).δ t.nc 0 (s.1*t.nc+k.1)):=by simpa using h_t42
      rw[je,if_neg hno]at hst
      have hS1:(fw (aP (aD t).δ t.nc 0 (s.1*t.nc+k.1)) t.next.length).set (0+((((aD t).δ ((aP (aD t).δ t.nc 0 (s.1*t.nc)).getD s.1 0) k.1):Nat):Int).toNat*1) true=fw (aP (aD t).δ t.nc 0 (s.1*t.nc+(k.1+1))) t.next.length:=by rw[<-Nat.add_assoc,hst, <-SS];congr 1;omega
      have hS2:aG (aP (aD t).δ t.nc 0 (s.1*t.nc+k.1))++([]++[((((aD t).δ ((aP (aD t).δ t.nc 0 (s.1*t.nc)).getD s.1 0) k.1):Nat):Int)])=aG (aP (aD t).δ t.nc 0 (s.1*t.nc+(k.1+1))):=by rw[<-Nat.add_assoc,hst,List.nil_append,z39]
      have hL:(aP (aD t).δ t.nc 0 (s.1*t.nc+(k.1+1))).length=(aP (aD t).δ t.nc 0 (s.1*t.nc+k.1)).length+1:=by rw[<-Nat.add_assoc,hst,List.length_append];rfl
      have hL0:(aP (aD t).δ t.nc 0 (s.1*t.nc+k.1)).length+1=(aP (aD t).δ t.nc 0 (s.1*t.nc+(k.1+1))).length:=hL.symm
      refine ai [] (fun i=>if i=0 then 0 else 3) (k.1+1,cap6) ⟨⟨by show k.1+1<=_;omega,by show _<=cap6;rw[hL];omega⟩,by show _ - (k.1+1)< _;omega⟩ [0,3] ?_ ?_ ?_ ?_
      ·exact ek
      ·exact ek
      ·exact ek
      ·exact ek
     ·refine bK (dD (K23 _ _ _ (bB aF fun _ K30=>?_)))
      iterate 3 refine mM ?_
      refine aJ K30 ?_
      have hin:((aD t).δ ((aP (aD t).δ t.nc 0 (s.1*t.nc)).getD s.1 0) k.1)∈(aP (aD t).δ t.nc 0 (s.1*t.nc+k.1)):=by simpa using h_t42
      rw[je,if_pos hin]at hst;rw[<-hst];rw[<-hst]at hk2;refine ai [] id (k.1+1,k.2) ⟨⟨by show k.1+1<=_;omega,hk2⟩,by show _ - (k.1+1)< _;omega⟩ [0,1] ?_ ?_ ?_ ?_
      ·exact ek
      ·exact ek
      ·exact ek
      ·exact ek
    ·try simp only[dQ,reduceIte]at h_t32
     refine eY (bJ (bJ (eX (dD (K15 _ _ _ (bB aF fun _ K31=>?_))))))
     iterate 3 refine mM ?_
     refine aJ K31 ?_
     have hke:k.1=t.nc:=by omega
     have hpe:s.1*t.nc+k.1=(s.1+1)*t.nc:=by rw[hke,Nat.succ_mul]
     rw[hpe];rw[hpe]at hk2
     have hlen2:=Bf (f:=(aD t).δ) (nc:=t.nc) (b0:=0) (p:=s.1*t.nc) (q:=(s.1+1)*t.nc) (Nat.mul_le_mul_right _ (by omega))
     have hah:∀ j,j< s.1+1->j< (aP (aD t).δ t.nc 0 (j*t.nc)).length:=fun j hj=>by
      rcases Nat.lt_or_ge j s.1 with h1|h1
      ·exact hs.2.1 j h1
      ·obtain rfl:j=s.1:=by omega
       exact hi
     refine ai [] id (s.1+1,k.2) ⟨⟨by show s.1+1<=_;omega,hah,(by show s.1+1<=(aP (aD t).δ t.nc 0 ((s.1+1)*t.nc)).length;omega),hk2⟩,by show _ - (s.1+1)< _;omega⟩ [0,1] ?_ ?_ ?_ ?_
     ·exact ek
     ·exact ek
     ·exact ek
     ·exact ek
  ·try simp only[dQ,reduceIte]at h_t18
   refine eY (bJ (bJ (eX (K9 _ _ _ ?_))))
   have hcl2:=SY (Tab.nc_pos hok) hs.2.1 (by omega)
   have hre:ny (aD t)=(aP (aD t).δ t.nc 0 (s.1*t.nc)):=by rw[ny,Xl (show kW (aD t).δ (aD t).nc 0 s.1 from hcl2)];rfl
   refine aO aF fun _ K33=>?_
   iterate 2 refine mM ?_
   refine aJ K33 ?_
   try rw[hre]
   refine bQ (gT aF (fun _ _ h=>h) (by trivial) [1] [.tmp 2] rfl ?_)
   all_goals exact ek

def y4e:aW:=fun vs K=>∃ (t:Tab) (bl:List Nat) (s q:Nat),vs=[jw t,.c (.ds bl.length (.ints .i64 (aG bl))),.agg (.ints .i64 [((s:Nat):Int),((q:Nat):Int)])]/\(t.fit/\bl.length=t.next.length/\s< t.next.length/\q< t.next.length)/\K (.c (.bool (decide (kB t bl s=kB t bl q))))
theorem y4f:jJ Tryd.prog gl 89 y4e:=by
 refine kU (Γ:=g0) (N:=55) Tryd.func89 rfl rfl fun vs K h=>?_;obtain⟨t,bl,s,q,rfl,⟨ht,hbl,hs,hq⟩,h⟩:=h;refine⟨_,h,rfl,by simp,fun w I=>?_⟩
 have ht0:=ht
 obtain⟨hok,hlen,hnc⟩:=ht0
 have hcl:=hok.clen
 refine aO aF fun _ K2=>?_
 iterate 3 refine mM ?_
 refine aJ K2 (aH fun _ K3=>fQ [0,1] id [(1,.c (.ds bl.length (.ints .i64 (aG bl)))),(3,.c (.dp (eT t) 0)),(5,.c (.dp (.ints .i64 [((s:Nat):Int),((q:Nat):Int)]) 0))] [] 0 [] kz kz kz kz (qB aF aN fun _ K5=>?_))
 iterate 2 refine z62 ?_
 refine z54 ?_;refine aU (.c (.int .i64 (((s:Nat):Int)))) (az (rfl)) (z62 ?_);refine z54 ?_;refine aU (.c (.int .i64 (((aM bl s:Nat):Int)))) (az ((congrArg (fun i=>(aG bl).getD i 0) (by omega)).trans jd)) ?_
 iterate 2 refine z62 ?_
 refine z54 ?_;refine aU (.c (.int .i64 (((q:Nat):Int)))) (az (rfl)) (z62 ?_);refine z54 ?_;refine aU (.c (.int .i64 (((aM bl q:Nat):Int)))) (az ((congrArg (fun i=>(aG bl).getD i 0) (by omega)).trans jd)) (z62 ?_);refine nG K5 (bC (b:=_) rfl (fun h_t18=>?_) (fun h_t18=>?_))
 ·try simp only[dQ,reduceIte]at h_t18
  refine aO aF fun _ K7=>mM ?_;refine aJ K7 (bQ (eU aF (fun _ _ h=>h) (by first|rfl|assumption) [.tmp 6] rfl ?_));refine gV ?_
  show SV.c (.bool false)=_
  rw[decide_eq_false fun e=>absurd (Px.1 e).1 (by omega)]
 ·try simp only[dQ,reduceIte]at h_t18
  refine bK (K3 _ _ _ (aH fun _ K8=>aO aF fun _ K10=>mM ?_));refine aJ K10 (bO (fM (α:=Nat) (fun k=>[(1,.c (.ds bl.length (.ints .i64 (aG bl)))),(3,.c (.dp (eT t) 0)),(5,.c (.dp (.ints .i64 [((s:Nat):Int),((q:Nat):Int)]) 0)),(7,.c (.int .i64 (k:Nat)))]) (fun k=>[]) 0 (fun k=>k<=t.nc/\∀ c,c< k->aM bl ((aD t).δ s c)=aM bl ((aD t).δ q c)) (fun k=>t.nc - k) ?_ ?_))
  ·refine ai [] id 0 ⟨Nat.zero_le _,fun c hc=>absurd hc (Nat.not_lt_zero c)⟩ [] kz kz kz kz
  ·intro k hk9
   have hk0:=hk9.1
   have hrs:=oz hok hs
   refine aH fun _ K11=>aO aF fun _ K13=>?_
   iterate 2 refine mM ?_
   refine Gu ?_;refine aU (.c (.ds t.next.length (.cells (aS t.next)))) (ak (iC hcl)) (mM ?_);refine Gu ?_;refine aU (.c (.int .i64 (((s:Nat):Int)))) (az (rfl)) (mM ?_);refine Gu ?_;refine aU (.c (.ds (t.next.getD s []).length (.ints .i64 (t.next.getD s [])))) (ak (oh ⟨hs,by omega⟩)) ?_
   iterate 2 refine mM ?_
   refine aJ K13 (bC (b:=_) rfl (fun h_t27=>?_) (fun h_t27=>?_))
   ·try simp only[dQ,reduceIte]at h_t27
    refine bK (K11 _ _ _ (aH fun _ K14=>bO ?_))
    have hk:k< t.nc:=by omega
    have hxs:=bz hok hs hk
    have hxq:=bz hok hq hk
    have hrq:=oz hok hq
    refine qB aF aN fun _ K16=>?_
    iterate 2 refine z62 ?_
    refine z54 ?_;refine aU (.c (.ds t.next.length (.cells (aS t.next)))) (ak (iC hcl)) (z62 ?_);refine z54 ?_;refine aU (.c (.int .i64 (((s:Nat):Int)))) (az (rfl)) (z62 ?_);refine z54 ?_;refine aU (.c (.ds (t.next.getD s []).length (.ints .i64 (t.next.getD s [])))) (ak (oh ⟨hs,by omega⟩)) ?_
    iterate 2 refine z62 ?_
    refine z54 ?_;refine aU (.c (.int .i64 ((((aD t).δ s k:Nat):Int)))) (az ((congrArg (fun i=>(t.next.getD s []).getD i 0) (by omega)).trans hxs.2)) (z62 ?_);refine z54 ?_;refine aU (.c (.int .i64 (((aM bl ((aD t).δ s k):Nat):Int)))) (az ((congrArg (fun i=>(aG bl).getD i 0) (by omega)).trans jd)) ?_
    iterate 2 refine z62 ?_
    refine z54 ?_;refine aU (.c (.ds t.next.length (.cells (aS t.next)))) (ak (iC hcl)) (z62 ?_);refine z54 ?_;refine aU (.c (.int .i64 (((q:Nat):Int)))) (az (rfl)) (z62 ?_);refine z54 ?_;refine aU (.c (.ds (t.next.getD q []).length (.ints .i64 (t.next.getD q [])))) (ak (oh ⟨hq,by omega⟩)) ?_
    iterate 2 refine z62 ?_
    refine z54 ?_;refine aU (.c (.int .i64 ((((aD t).δ q k:Nat):Int)))) (az ((congrArg (fun i=>(t.next.getD q []).getD i 0) (by omega)).trans hxq.2)) (z62 ?_);refine z54 ?_;refine aU (.c (.int .i64 (((aM bl ((aD t).δ q k):Nat):Int)))) (az ((congrArg (fun i=>(aG bl).getD i 0) (by omega)).trans jd)) (z62 ?_);refine nG K16 (bC (b:=_) rfl (fun h_t54=>?_) (fun h_t54=>?_))
    ·try simp only[dQ,reduceIte]at h_t54
     refine aO aF fun _ K18=>mM ?_;refine aJ K18 (bQ (eU aF (fun _ _ h=>h) (by first|rfl|assumption) [.tmp 6] rfl ?_));refine gV ?_
     show SV.c (.bool false)=_
     rw[decide_eq_false fun e=>absurd ((Px.1 e).2 k hk) (by omega)]
    ·try simp only[dQ,reduceIte]at h_t54
     refine bK (dD (K14 _ _ _ (bB aF fun _ K19=>?_)))
     iterate 3 refine mM ?_
     refine aJ K19 (ai [] id (k+1) ⟨⟨by omega,fun c hc=>(Nat.lt_succ_iff_lt_or_eq.1 hc).elim (hk9.2 c) fun e=>by rw[e];omega⟩,by omega⟩ [] ?_ ?_ ?_ ?_)
     ·exact kz
     ·exact kz
     ·exact kz
     ·exact kz
   ·try simp only[dQ,reduceIte]at h_t27
    refine eY (bJ (bJ (eX (K8 _ _ _ (aO aF fun _ K21=>mM ?_)))));refine aJ K21 (bQ (eU aF (fun _ _ h=>h) (by first|rfl|assumption) [.tmp 6] rfl ?_));refine gV ?_
    show SV.c (.bool true)=_
    rw[decide_eq_true (Px.2 ⟨by omega,fun c hc=>hk9.2 c (by have:c< t.nc:=hc;omega)⟩)]


end Go.Proofs.YtpdljmohhpbkpaaDoor

namespace Go.Proofs.YtpdljmohhpbkpaaDoor
open Go.Ab Go.RowKit

section
variable {a b:Prop}
theorem Eb(h:a:=by first|exact gG|(simp[-List.reduceReplicate]<;>omega)|exact vU|(simp only[jH];omega)|(simp only[jI,jH];omega)|(rw[jH];omega)|(simp only[z17,vX];omega)|(simp only[jI,jH,Bh];omega)|exact⟨by omega,by omega,trivial,trivial⟩|exact gH):a:=h
theorem dH(h:a:=by
    repeat' (first|exact pJ|exact pT|exact trivial|refine aI ?_ ?_|exact iM|refine low_cons' ?_ ?_|exact iN|fail)
    all_goals first|omega|(show(0:Nat)< (rt _ _ _).length;rw[bG hcl];decide)|(show aB.low _ (aB.cells (List.replicate 256 _++_));exact ou)|exact hL0|(show(_:List Int)=_;first|assumption|rfl)|(simp;done)|(show(0:Nat)< (au _ _ _ _).length;rw[dJ hcl];decide)|(simp[-List.reduceReplicate];done)|(simp[-List.reduceReplicate]<;>omega)|skip):a:=h
theorem nL(kZ:b)(h:aK b->a:=by intro kZ;(repeat first|refine aI Eb ?_|refine bW Eb ?_|refine dC Eb ?_|refine fT Eb ?_|refine fA ?_);exact kZ.out):a:=h ⟨kZ⟩
theorem oF(kZ:b)(h:aK b->a:=by intro kZ;refine sX ?_;refine nL ?_;refine aL ?_;exact kZ.out):a:=h ⟨kZ⟩
theorem GI(kZ:b)(h:aK b->a:=by intro kZ;refine mX ?_;refine nL ?_;refine aL ?_;exact kZ.out):a:=h ⟨kZ⟩
theorem xn(kZ:b)(h:aK b->a:=by intro kZ;refine dX ?_;refine nL ?_;refine aL ?_;exact kZ.out):a:=h ⟨kZ⟩
theorem y4g(kZ:b)(h:aK b->a:=by intro kZ;refine jl ?_;refine nL ?_;refine aL ?_;exact kZ.out):a:=h ⟨kZ⟩
theorem QK(kZ:b)(h:aK b->a:=by intro kZ;refine sX ?_;refine nL ?_;exact kZ.out):a:=h ⟨kZ⟩
theorem Tp(kZ:b)(h:aK b->a:=by intro kZ;refine dX ?_;refine nL ?_;exact kZ.out):a:=h ⟨kZ⟩
theorem Dk(kZ:b)(h:aK b->a:=by intro kZ;refine gX ?_;refine nL ?_;exact kZ.out):a:=h ⟨kZ⟩
end
open Go.Aut
theorem zrb(t:Tab)(bl l:List Nat){x:Nat}(h:x< (dK (kB t bl) l).length):(aY (kB t bl) l)[x]? =some (kB t bl ((dK (kB t bl) l).getD x 0)):=by
  rw[<-Lb,List.getElem?_map,jB (d:=0) h];rfl
def OG(t:Tab)(bl o:List Nat)(cur:Nat)(y:Nat):Prop:=(y=(dK (kB t bl) o).length/\kB t bl cur∉aY (kB t bl) o)\/(y< (dK (kB t bl) o).length/\kB t bl cur∈aY (kB t bl) o/\fF (aY (kB t bl) o) (kB t bl cur)=y)
theorem BD{t:Tab}{bl o:List Nat}{cur y:Nat}(h:y< (dK (kB t bl) o).length)(e:kB t bl ((dK (kB t bl) o).getD y 0)=kB t bl cur):OG t bl o cur y:=by
  have h1:=zrb t bl o h
  rw[e]at h1;exact .inr ⟨h,List.mem_of_getElem? h1,MF (Gh o) h1⟩
theorem Ie{t:Tab}{bl o:List Nat}{cur:Nat}(h:∀ x,x< (dK (kB t bl) o).length->kB t bl ((dK (kB t bl) o).getD x 0)≠kB t bl cur):OG t bl o cur (dK (kB t bl) o).length:=by
  refine .inl ⟨rfl,fun hk=>?_⟩;obtain⟨x,hx⟩:=List.getElem?_of_mem hk
  have hl:x< (dK (kB t bl) o).length:=by rw[qU];exact(List.getElem?_eq_some_iff.1 hx).1
  have h1:=zrb t bl o hl
  rw[hx]at h1;exact h x hl (Option.some.inj h1).symm
theorem yE{t:Tab}{bl l:List Nat}{N:Nat}(h:∀ s∈l,s< N){j x:Nat}(hx:x< (dK (kB t bl) (l.take j)).length):(dK (kB t bl) (l.take j)).getD x 0< N:=
  h _ (List.mem_of_mem_take (PW (getD_mem' hx)))
attribute [local irreducible] eG z12 zl au gz cr rt dz lc cz
noncomputable def Uo:Ctx:={ P:=Tryd.prog,ty:=ty,glob:=gl,fs:=[(89,.flat y4e)] }
theorem z63:Uo.OK:=⟨dS,⟨⟨bX Tryd.func89 aN rfl,y4f⟩,trivial⟩,mixed⟩
@[simp] theorem Up:Uo.ty=ty:=rfl

def y4h:aW:=fun vs K=>∃ (t:Tab) (bl l:List Nat),vs=[jw t,.c (.ds bl.length (.ints .i64 (aG bl))),.c (.ds l.length (.ints .i64 (aG l)))]/\(t.fit/\bl.length=t.next.length/\(∀ s∈l,s< t.next.length)/\l.length<=65535/\bl.length<=65535)/\K (.tup [.c (.ds bl.length (.ints .i64 (aG (cz (aD t) l bl l.length)))),.c (.ds (dK (kB t bl) l).length (.ints .i64 (aG (dK (kB t bl) l))))])
theorem y4i:jr Tryd.prog gl 84 y4h:=by
 refine kJ (Γ:=Uo) (N:=70) Tryd.func84 rfl rfl fun vs K h=>?_;obtain⟨t,bl,l,rfl,⟨ht,hbl,hl,hlm,hbm⟩,h⟩:=h;refine⟨_,h,(List.forall_mem_cons.2 ⟨trivial,(List.forall_mem_cons.2 ⟨trivial,fun _ h=>(by cases h)⟩)⟩),by simp,fun w I=>?_⟩
 have ht0:=ht
 obtain⟨hok,hlen,hnc⟩:=ht0
 have hcl:=hok.clen
 refine aO z63 fun _ K2=>?_
 iterate 3 refine oF ?_
 refine aJ K2 (fQ [0] id [(1,.c (.ds bl.length (.ints .i64 (aG bl)))),(2,.c (.ds l.length (.ints .i64 (aG l)))),(3,.c (.dp (eT t) 0))] [] 0 [] dH dH dH dH (aO z63 fun _ K4=>?_))
 iterate 4 refine oF ?_
 refine aJ K4 (aO z63 fun _ K6=>?_)
 iterate 2 refine oF ?_
 refine aJ K6 (aH fun _ K7=>aO z63 fun _ K9=>oF ?_);refine aJ K9 (bO (fM (α:=Nat×Nat) (fun i=>[(1,.c (.ds bl.length (.ints .i64 (aG bl)))),(2,.c (.ds l.length (.ints .i64 (aG l)))),(3,.c (.dp (eT t) 0)),(8,.c (.slice 0 0 bl.length bl.length)),(9,.c (.slice 1 0 (dK (kB t bl) (l.take i.1)).length i.2)),(10,.c (.int .i64 (i.1:Nat)))]) (fun i=>[(0,.own 3 (.ints .i64 (aG (cz (aD t) l bl i.1))) bl.length),(1,.own 3 (.ints .i64 (aG (dK (kB t bl) (l.take i.1)))) i.2)]) 2 (fun i=>i.1<=l.length/\(dK (kB t bl) (l.take i.1)).length<=i.2) (fun i=>l.length - i.1) ?_ ?_))
 ·have hX1:List.replicate bl.length (0:Int)=aG (cz (aD t) l bl 0):=by rw[zq3];simp[aG]
  refine ai [] id (0,0) ⟨Nat.zero_le _,Nat.le_refl _⟩ [0,1] dH dH dH dH
 ·intro i hi
  obtain⟨hi1,hi2⟩:=hi
  have hfl:(dK (kB t bl) (l.take i.1)).length<=i.1:=by
   rw[qU];exact Nat.le_trans (vZ _) (by rw[List.length_take];omega)
  have hnl:=Bh (aD t) l bl i.1
  refine aH fun _ K10=>aO z63 fun _ K12=>?_
  iterate 4 refine oF ?_
  refine aJ K12 (bC (b:=_) rfl (fun h_t20=>?_) (fun h_t20=>?_))
  ·try simp only[dQ,reduceIte]at h_t20
   refine bK (K10 _ _ _ (aH fun _ K13=>bO (aO z63 fun _ K15=>?_)))
   iterate 3 refine oF ?_
   refine aJ K15 (qf (α:=Nat) (fun y=>[(1,.c (.ds bl.length (.ints .i64 (aG bl)))),(2,.c (.ds l.length (.ints .i64 (aG l)))),(3,.c (.dp (eT t) 0)),(8,.c (.slice 0 0 bl.length bl.length)),(9,.c (.slice 1 0 (dK (kB t bl) (l.take i.1)).length i.2)),(10,.c (.int .i64 (i.1:Nat))),(11,.c (.int .i64 (y:Nat)))]) (fun y=>[(0,.own 3 (.ints .i64 (aG (cz (aD t) l bl i.1))) bl.length),(1,.own 3 (.ints .i64 (aG (dK (kB t bl) (l.take i.1)))) i.2)]) 2 (fun y=>OG t bl (l.take i.1) (l.getD i.1 0) y) ?_ ?_)
   ·refine aO z63 fun _ K17=>oF ?_;refine aJ K17 (bO (fM (α:=Nat×Nat) (fun g=>[(1,.c (.ds bl.length (.ints .i64 (aG bl)))),(2,.c (.ds l.length (.ints .i64 (aG l)))),(3,.c (.dp (eT t) 0)),(8,.c (.slice 0 0 bl.length bl.length)),(9,.c (.slice 1 0 (dK (kB t bl) (l.take i.1)).length i.2)),(10,.c (.int .i64 (i.1:Nat))),(11,.c (.int .i64 (g.2:Nat))),(12,.c (.int .i64 (g.1:Nat)))]) (fun g=>[(0,.own 3 (.ints .i64 (aG (cz (aD t) l bl i.1))) bl.length),(1,.own 3 (.ints .i64 (aG (dK (kB t bl) (l.take i.1)))) i.2)]) 2 (fun g=>g.1<=(dK (kB t bl) (l.take i.1)).length/\((g.2=(dK (kB t bl) (l.take i.1)).length/\∀ x,x< g.1->kB t bl ((dK (kB t bl) (l.take i.1)).getD x 0)≠kB t bl (l.getD i.1 0))\/(g.2< (dK (kB t bl) (l.take i.1)).length/\kB t bl ((dK (kB t bl) (l.take i.1)).getD g.2 0)=kB t bl (l.getD i.1 0)))) (fun g=>(dK (kB t bl) (l.take i.1)).length - g.1) ?_ ?_))
    ·refine ai [] id (0,(dK (kB t bl) (l.take i.1)).length) ⟨Nat.zero_le _,.inl ⟨rfl,fun x hx=>absurd hx (Nat.not_lt_zero x)⟩⟩ [0,1] dH dH dH dH
    ·intro g hg
     obtain⟨hg1,hg2⟩:=hg;refine aH fun _ K18=>aO z63 fun _ K20=>?_
     iterate 4 refine oF ?_
     refine QK ?_;refine fO (fun hb4=>?_) (fun hb4=>?_)
     ·try simp only[dQ,reduceIte]at hb4
      iterate 4 refine GI ?_
      refine oF ?_;refine aJ K20 (bC (b:=_) rfl (fun h_t34=>?_) (fun h_t34=>?_))
      ·try simp only[dQ,reduceIte]at h_t34
       refine bK (K18 _ _ _ (aH fun _ K21=>bO ?_))
       have hgl:g.1< (dK (kB t bl) (l.take i.1)).length:=by omega
       have hil:i.1< l.length:=by omega
       have hng:∀ x,x< g.1->kB t bl ((dK (kB t bl) (l.take i.1)).getD x 0)≠kB t bl (l.getD i.1 0):=by
        rcases hg2 with⟨e1,e2⟩|⟨e1,e2⟩
        ·exact e2
        ·omega
       have hge:g.2=(dK (kB t bl) (l.take i.1)).length:=by omega
       have hr1:=yE (t:=t) (bl:=bl) hl hgl
       have hr2:=hl _ (getD_mem' hil)
       refine vR z63 [(0,true),(1,true),(2,true),(3,true),(4,true),(5,true),(6,true),(7,true),(8,true),(9,true),(10,true),(11,false)] rfl aN aN fun _ K23=>Tp ?_;refine aU (jw t) (SV.as_refl _) ?_
       iterate 4 refine xn ?_
       refine Tp ?_;refine aU (.c (.int .i64 ((((dK (kB t bl) (l.take i.1)).getD g.1 0:Nat):Int)))) (az ((congrArg (fun ii=>(aG (dK (kB t bl) (l.take i.1))).getD ii 0) (by omega)).trans jd)) ?_
       iterate 3 refine xn ?_
       refine Tp ?_;refine aU (.c (.int .i64 ((((l.getD i.1 0):Nat):Int)))) (az ((congrArg (fun ii=>(aG l).getD ii 0) (by omega)).trans jd)) (Tp ?_);refine aU (.agg (.ints .i64 [(((dK (kB t bl) (l.take i.1)).getD g.1 0:Nat):Int),(((l.getD i.1 0):Nat):Int)])) (SV.as_refl _) (Dk ?_);refine aI (lI t) (lJ t ⟨t,bl,(dK (kB t bl) (l.take i.1)).getD g.1 0,(l.getD i.1 0),rfl,⟨ht,hbl,hr1,hr2⟩,nL ?_⟩)
       first|refine aL ?_|(intro cap11 hcap11;refine aL ?_)
       refine iF K23 (bC (b:=_) rfl (fun h_t48=>?_) (fun h_t48=>?_))
       ·refine bB z63 fun _ K24=>?_
        iterate 2 refine oF ?_
        refine aJ K24 (dD (K21 _ _ _ (bB z63 fun _ K25=>?_)))
        iterate 3 refine oF ?_
        refine aJ K25 ?_
        have hke:kB t bl ((dK (kB t bl) (l.take i.1)).getD g.1 0)=kB t bl (l.getD i.1 0):=by simpa using h_t48
        refine ai [] id (g.1+1,g.1) ⟨⟨by show g.1+1<=_;omega,.inr ⟨hgl,hke⟩⟩,by show _ - (g.1+1)< _;omega⟩ [0,1] ?_ ?_ ?_ ?_
        ·exact dH
        ·exact dH
        ·exact dH
        ·exact dH
       ·refine bK (dD (K21 _ _ _ (bB z63 fun _ K26=>?_)))
        iterate 3 refine oF ?_
        refine aJ K26 ?_
        have hke:¬ kB t bl ((dK (kB t bl) (l.take i.1)).getD g.1 0)=kB t bl (l.getD i.1 0):=by simpa using h_t48
        refine ai [] id (g.1+1,g.2) ⟨⟨by show g.1+1<=_;omega,.inl ⟨hge,fun x hx=>(Nat.lt_succ_iff_lt_or_eq.1 hx).elim (hng x) fun e=>by rw[e];exact hke⟩⟩,by show _ - (g.1+1)< _;omega⟩ [0,1] ?_ ?_ ?_ ?_
        ·exact dH
        ·exact dH
        ·exact dH
        ·exact dH
      ·try simp only[dQ,reduceIte]at h_t34
       refine eY (bJ (bJ (eX ?_)))
       have hsp:OG t bl (l.take i.1) (l.getD i.1 0) g.2:=by
        rcases hg2 with⟨e1,e2⟩|⟨e1,e2⟩
        ·rw[e1]
         exact Ie fun x hx=>e2 x (by omega)
        ·exact BD e1 e2
       refine ai [] id g.2 hsp [0,1] dH dH dH dH
     ·try simp only[dQ,reduceIte]at hb4
      iterate 4 refine sN ?_
      refine oF ?_;refine aJ K20 (bC (b:=_) rfl (fun h_t34=>?_) (fun _=>?_))
      ·exfalso;simp at h_t34
      refine eY (bJ (bJ (eX ?_)))
      have hsp:OG t bl (l.take i.1) (l.getD i.1 0) g.2:=by
       rcases hg2 with⟨e1,e2⟩|⟨e1,e2⟩
       ·rw[e1]
        exact Ie fun x hx=>e2 x (by omega)
       ·exact BD e1 e2
      refine ai [] id g.2 hsp [0,1] dH dH dH dH
   ·intro y hy;refine aH fun _ K27=>?_
    have hil:i.1< l.length:=by omega
    have hr2:=hl _ (getD_mem' hil)
    refine aO z63 fun _ K29=>?_
    iterate 4 refine oF ?_
    refine aJ K29 (bC (b:=_) rfl (fun h_t53=>?_) (fun h_t53=>?_))
    ·try simp only[dQ,reduceIte]at h_t53
     obtain⟨hk2,hk1⟩:y=(dK (kB t bl) (l.take i.1)).length/\kB t bl (l.getD i.1 0)∉aY (kB t bl) (l.take i.1):=by
      rcases hy with hy|hy
      ·exact hy
      ·omega
     refine bB z63 fun _ K30=>?_
     iterate 4 refine oF ?_
     refine QK ?_;refine aU (.c (.int .i64 ((((l.getD i.1 0):Nat):Int)))) (az ((congrArg (fun ii=>(aG l).getD ii 0) (by omega)).trans jd)) (oF ?_);refine QK ?_;intro cap6 hcap6;refine aL (oF ?_);refine aJ K30 (K27 _ _ _ (bB z63 fun _ K31=>?_))
     iterate 4 refine oF ?_
     refine QK ?_;refine aU (.c (.int .i64 ((((l.getD i.1 0):Nat):Int)))) (az ((congrArg (fun ii=>(aG l).getD ii 0) (by omega)).trans jd)) ?_
     iterate 2 refine oF ?_
     refine y4g ?_;refine aJ K31 (dD (K13 _ _ _ (bB z63 fun _ K32=>?_)))
     iterate 3 refine oF ?_
     refine aJ K32 ?_;obtain⟨hq1,hq2,hq3⟩:=AC t bl hil hk1
     have hS2:(aG (cz (aD t) l bl i.1)).set (0+(((l.getD i.1 0):Nat):Int).toNat*1) ((y:Nat):Int)=aG (cz (aD t) l bl (i.1+1)):=by
      rw[Mt,show 0+(((l.getD i.1 0):Nat):Int).toNat*1=(l.getD i.1 0) by omega, <-S7 hil,hq3,hk2]
     have hS3:aG (dK (kB t bl) (l.take i.1))++([]++[(((l.getD i.1 0):Nat):Int)])=aG (dK (kB t bl) (l.take (i.1+1))):=by rw[hq2,List.nil_append,z39]
     have hL0:(dK (kB t bl) (l.take i.1)).length+1=(dK (kB t bl) (l.take (i.1+1))).length:=by rw[hq2,List.length_append];rfl
     refine ai [] (fun i=>if i=1 then 3 else i) (i.1+1,cap6) ⟨⟨by show i.1+1<=_;omega,by show _<=cap6;rw[<-hL0];omega⟩,by show _ - (i.1+1)< _;omega⟩ [0,3] ?_ ?_ ?_ ?_
     ·exact dH
     ·exact dH
     ·exact dH
     ·exact dH
    ·try simp only[dQ,reduceIte]at h_t53
     refine bK (K27 _ _ _ (bB z63 fun _ K33=>?_))
     iterate 4 refine oF ?_
     refine QK ?_;refine aU (.c (.int .i64 ((((l.getD i.1 0):Nat):Int)))) (az ((congrArg (fun ii=>(aG l).getD ii 0) (by omega)).trans jd)) ?_
     iterate 2 refine oF ?_
     refine y4g ?_;refine aJ K33 (dD (K13 _ _ _ (bB z63 fun _ K34=>?_)))
     iterate 3 refine oF ?_
     refine aJ K34 ?_
     obtain⟨hk1,hk2⟩:kB t bl (l.getD i.1 0)∈aY (kB t bl) (l.take i.1)/\fF (aY (kB t bl) (l.take i.1)) (kB t bl (l.getD i.1 0))=y:=by
      rcases hy with hy|hy
      ·omega
      ·exact hy.2
     obtain⟨hq1,hq2,hq3⟩:=y1b t bl hil hk1
     have hS2:(aG (cz (aD t) l bl i.1)).set (0+(((l.getD i.1 0):Nat):Int).toNat*1) ((y:Nat):Int)=aG (cz (aD t) l bl (i.1+1)):=by
      rw[Mt,show 0+(((l.getD i.1 0):Nat):Int).toNat*1=(l.getD i.1 0) by omega, <-S7 hil,hq3,hk2]
     have hS3:aG (dK (kB t bl) (l.take i.1))=aG (dK (kB t bl) (l.take (i.1+1))):=by rw[hq2]
     have hL0:(dK (kB t bl) (l.take i.1)).length=(dK (kB t bl) (l.take (i.1+1))).length:=by rw[hq2]
     refine ai [] id (i.1+1,i.2) ⟨⟨by show i.1+1<=_;omega,by show _<=i.2;rw[<-hL0];omega⟩,by show _ - (i.1+1)< _;omega⟩ [0,1] ?_ ?_ ?_ ?_
     ·exact dH
     ·exact dH
     ·exact dH
     ·exact dH
  ·try simp only[dQ,reduceIte]at h_t20
   refine eY (bJ (bJ (eX (K7 _ _ _ ?_))))
   have hie:i.1=l.length:=by omega
   rw[show(dK (kB t bl) (l.take i.1))=dK (kB t bl) l by rw[hie,List.take_length]];rw[hie];refine aO z63 fun _ K36=>?_
   iterate 4 refine oF ?_
   refine aJ K36 (bQ (gT z63 (fun _ _ h=>h) ((List.forall_mem_cons.2 ⟨trivial,(List.forall_mem_cons.2 ⟨trivial,fun _ h=>(by cases h)⟩)⟩)) [0,1] [.tmp 6,.tmp 7] rfl ?_))
   all_goals exact dH


end Go.Proofs.YtpdljmohhpbkpaaDoor

namespace Go.Proofs.YtpdljmohhpbkpaaDoor
open Go.Ab Go.RowKit

section
variable {a b:Prop}
theorem Ec(h:a:=by first|exact gG|(simp[-List.reduceReplicate]<;>omega)|exact vU|(simp only[jH];omega)|(simp only[jI,jH];omega)|(rw[jH];omega)|(simp only[z17,vX];omega)|(simp only[jI,jH,Pf];omega)|exact gH):a:=h
theorem dU(h:a:=by
    repeat' (first|exact pJ|exact pT|exact trivial|refine aI ?_ ?_|exact iM|refine low_cons' ?_ ?_|exact iN|fail)
    all_goals first|omega|(show(0:Nat)< (rt _ _ _).length;rw[bG hcl];decide)|(show aB.low _ (aB.cells (List.replicate 256 _++_));exact ou)|exact hL0|(rw[Bh];done)|(rw[Pf];done)|(show(_:List Int)=_;first|assumption|rfl)|(simp;done)|(show(0:Nat)< (au _ _ _ _).length;rw[dJ hcl];decide)|(simp[-List.reduceReplicate];done)|(simp[-List.reduceReplicate]<;>omega)|skip):a:=h
theorem qj(kZ:b)(h:aK b->a:=by intro kZ;(repeat first|refine aI Ec ?_|refine bW Ec ?_|refine dC Ec ?_|refine fT Ec ?_|refine fA ?_);exact kZ.out):a:=h ⟨kZ⟩
theorem q9(kZ:b)(h:aK b->a:=by intro kZ;refine sX ?_;refine qj ?_;refine aL ?_;exact kZ.out):a:=h ⟨kZ⟩
theorem Fw(kZ:b)(h:aK b->a:=by intro kZ;refine jl ?_;refine qj ?_;refine aL ?_;exact kZ.out):a:=h ⟨kZ⟩
theorem JJ(kZ:b)(h:aK b->a:=by intro kZ;refine sX ?_;refine qj ?_;exact kZ.out):a:=h ⟨kZ⟩
end
open Go.Aut
def bA(t:Tab)(s:Nat):List Nat:=(List.range t.next.length).map fun i=>if i< s/\t.acc.getD i false=true then 1 else 0
@[simp] theorem Pf(t:Tab)(s:Nat):(bA t s).length=t.next.length:=by simp[bA]
theorem Cu(t:Tab):aG (bA t 0)=List.replicate t.next.length 0:=by
  have:bA t 0=List.replicate t.next.length 0:=by simp[bA,List.map_const']
  rw[this];simp[aG]
theorem Js{t:Tab}{s:Nat}(h:s< t.next.length)(ha:t.acc.getD s false=true):(bA t s).set s 1=bA t (s+1):=by
  refine o9 0 (by simp) fun i hi=>?_
  have hi:i< t.next.length:=by simpa using hi
  rw[my (by simpa using hi),bA,bA,iy hi,iy hi]
  by_cases e:s=i
  · subst e;rw[if_pos rfl,if_pos ⟨by omega,ha⟩]
  · rw[if_neg e]
    by_cases h2:i< s/\t.acc.getD i false=true
    · rw[if_pos h2,if_pos ⟨by omega,h2.2⟩]
    · rw[if_neg h2,if_neg fun hh=>h2 ⟨by omega,hh.2⟩]
theorem OM{t:Tab}{s:Nat}(ha:t.acc.getD s false=false):bA t s=bA t (s+1):=by
  refine List.map_congr_left fun i _=>?_
  by_cases h2:i< s/\t.acc.getD i false=true
  · rw[if_pos h2,if_pos ⟨by omega,h2.2⟩]
  · rw[if_neg h2,if_neg fun hh=>h2 ⟨by
      have:i≠s:=fun e=>by rw[e,ha]at hh;cases hh.2
      omega,hh.2⟩]
theorem Jr{t:Tab}{l:List Nat}(hl:∀ s∈l,s< t.next.length):vN (aD t) l (bA t t.next.length) t.next.length 0:=by
  have hg:∀ s,s< t.next.length->(bA t t.next.length).getD s 0=if t.acc.getD s false=true then 1 else 0:=fun s hs=>by
    rw[bA,iy hs]
    by_cases h2:t.acc.getD s false=true
    · rw[if_pos ⟨hs,h2⟩,if_pos h2]
    · rw[if_neg fun hh=>h2 hh.2,if_neg h2]
  have hv:∀ s,s∈l->aM (bA t t.next.length) s=if t.acc.getD s false=true then 1 else 0:=fun s hs=>hg s (hl s hs)
  have hacc:∀ s q,s∈l->q∈l->aM (bA t t.next.length) s=aM (bA t t.next.length) q->t.acc.getD s false=t.acc.getD q false:=fun s q hs hq e=>by
    rw[hv s hs,hv q hq]at e
    cases a:t.acc.getD s false<;>cases b:t.acc.getD q false<;>rw[a,b]at e<;>first|rfl|simp at e
  refine⟨by simp,fun s q hs hq hne=>⟨[],Bytes.nil,fun e=>hne ?_⟩,hacc,fun x hx=>?_,fun h=>absurd h (Nat.lt_irrefl 0)⟩
  · have e:t.acc.getD s false=t.acc.getD q false:=e
    rw[hv s hs,hv q hq,e]
  · obtain⟨i,hi,rfl⟩:=List.mem_map.1 hx
    split<;>decide
open Classical in
theorem zyd{t:Tab}(ht:t.fit){l bl:List Nat}{c:Nat}(h:nP t l)(hb:vN (aD t) l bl t.next.length c)(hc:z36 (aD t) l (aM (cz (aD t) l bl l.length))=z36 (aD t) l (aM bl)):
    cz (aD t) l bl l.length=mD t l/\dK (kB t bl) l=oQ t l:=by
  have hcell:∀ b,b< 256->(aD t).cell b< (aD t).nc:=fun b hb=>(av ht.1 hb).1
  have h1:=Sz hb h.lt h.len h.cl ht.1.byte
  have hpos:=S8 (t:=aD t) (l:=l) (bl:=bl) h.pos
  have e:∀ s,s∈l->aM (cz (aD t) l bl l.length) s=fu (aD t) l (aM bl) s:=fun s hs=>TX hs (by rw[hb.len];exact h.lt s hs)
  obtain⟨h2,h3⟩:=h1.on hpos
  have hst:∀ s q,s∈l->q∈l->aM (cz (aD t) l bl l.length) s=aM (cz (aD t) l bl l.length) q->(aD t).acc s=(aD t).acc q/\∀ c,c< (aD t).nc->aM (cz (aD t) l bl l.length) ((aD t).δ s c)=aM (cz (aD t) l bl l.length) ((aD t).δ q c):=fun s q hs hq he=>
    ⟨h1.acc s q hs hq he,(Xd hs hq (zpw (by rw[hc];exact h2) (by rw[hc];exact h3) hs hq he)).2⟩
  have key:∀ s q,s∈l->q∈l->(kB t bl s=kB t bl q↔jg (aD t) s=jg (aD t) q):=fun s q hs hq=>by
    rw[<-vH (key:=kB t bl) hs hq]
    have e1:lH (kB t bl) l s=aM (cz (aD t) l bl l.length) s:=(e s hs).symm
    have e2:lH (kB t bl) l q=aM (cz (aD t) l bl l.length) q:=(e q hq).symm
    rw[e1,e2]
    constructor
    · intro he
      exact CZ.2 fun w hw=>Wn hcell h.cl hst w s q hw hs hq he
    · intro he
      refine Classical.byContradiction fun hne=>?_;obtain⟨w,hw,hd⟩:=h1.snd s q hs hq hne;exact hd (CZ.1 he w hw)
  obtain⟨_,g2,g3⟩:=zqj l key;refine⟨o9 0 (by rw[Bh,PP,hb.len]) fun s hs=>?_,g3⟩
  have hs:s< t.next.length:=by rw[Bh,hb.len]at hs;exact hs
  rw[Pi (by rw[hb.len];exact hs),mD,iy hs,List.take_length]
  by_cases hsl:s∈l
  · rw[if_pos hsl,if_pos hsl];exact g2 s hsl
  · rw[if_neg hsl,if_neg hsl]
attribute [local irreducible] eG z12 zl au gz cr rt dz lc cz bA
noncomputable def Uq:Ctx:={ P:=Tryd.prog,ty:=ty,glob:=gl,fs:=[(84,.data y4h)] }
theorem z85:Uq.OK:=⟨dS,⟨⟨bX Tryd.func84 aN rfl,y4i⟩,trivial⟩,mixed⟩
@[simp] theorem Ur:Uq.ty=ty:=rfl

def zwp:aW:=fun vs K=>∃ (t:Tab) (l:List Nat),vs=[jw t,.c (.ds l.length (.ints .i64 (aG l)))]/\t.fit/\nP t l/\K (.tup [.c (.ds (mD t l).length (.ints .i64 (aG (mD t l)))),.c (.ds (oQ t l).length (.ints .i64 (aG (oQ t l))))])
theorem zye:jr Tryd.prog gl 69 zwp:=by
 refine kJ (Γ:=Uq) (N:=53) Tryd.func69 rfl rfl fun vs K h=>?_;obtain⟨t,l,rfl,ht,hlr,h⟩:=h;refine⟨_,h,(List.forall_mem_cons.2 ⟨trivial,(List.forall_mem_cons.2 ⟨trivial,fun _ h=>(by cases h)⟩)⟩),by simp,fun w I=>?_⟩
 have ht0:=ht
 obtain⟨hok,hlen,hnc⟩:=ht0
 have hcl:=hok.clen
 refine aO z85 fun _ K2=>?_
 iterate 3 refine q9 ?_
 refine aJ K2 (fQ [0] id [(1,.c (.ds l.length (.ints .i64 (aG l)))),(2,.c (.dp (eT t) 0))] [] 0 [] dU dU dU dU (aO z85 fun _ K4=>q9 ?_));refine JJ ?_;refine aU (.c (.ds t.next.length (.cells (aS t.next)))) (ak (iC hcl)) ?_
 iterate 3 refine q9 ?_
 refine aJ K4 (aH fun _ K5=>?_)
 have hX1:List.replicate t.next.length (0:Int)=aG (bA t 0):=(Cu t).symm
 refine fQ [] id [(1,.c (.ds l.length (.ints .i64 (aG l)))),(2,.c (.dp (eT t) 0)),(6,.c (.slice 0 0 t.next.length t.next.length))] [(0,.own 3 (.ints .i64 (aG (bA t 0))) t.next.length)] 1 [0] dU dU dU dU (aO z85 fun _ K7=>q9 ?_);refine aJ K7 (bO (fM (α:=Nat) (fun s=>[(1,.c (.ds l.length (.ints .i64 (aG l)))),(2,.c (.dp (eT t) 0)),(6,.c (.slice 0 0 t.next.length t.next.length)),(7,.c (.int .i64 (s:Nat)))]) (fun s=>[(0,.own 3 (.ints .i64 (aG (bA t s))) t.next.length)]) 1 (fun s=>s<=t.next.length) (fun s=>t.next.length - s) ?_ ?_))
 ·refine ai [] id 0 (Nat.zero_le _) [0] dU dU dU dU
 ·intro s hs
  have hbl:=Pf t s
  refine aH fun _ K8=>aO z85 fun _ K10=>?_
  iterate 2 refine q9 ?_
  refine JJ ?_;refine aU (.c (.ds t.next.length (.cells (aS t.next)))) (ak (iC hcl)) ?_
  iterate 2 refine q9 ?_
  refine aJ K10 (bC (b:=_) rfl (fun h_t19=>?_) (fun h_t19=>?_))
  ·try simp only[dQ,reduceIte]at h_t19
   refine bK (K8 _ _ _ (aH fun _ K11=>bO ?_))
   have hsn:s< t.next.length:=by omega
   have hal:=hok.alen
   refine aO z85 fun _ K13=>q9 ?_;refine JJ ?_;refine aU (.c (.ds t.acc.length (.bools t.acc))) (ak (nW hcl)) ?_
   iterate 2 refine q9 ?_
   refine JJ ?_;refine aU (.c (.bool (t.acc.getD s false))) (dN (congrArg (fun i=>t.acc.getD i false) (by omega))) (aJ K13 (bC (b:=_) rfl (fun h_t26=>?_) (fun h_t26=>?_)))
   ·refine bB z85 fun _ K14=>?_
    iterate 3 refine q9 ?_
    refine Fw ?_;refine aJ K14 (dD (K11 _ _ _ (bB z85 fun _ K15=>?_)))
    iterate 3 refine q9 ?_
    refine aJ K15 ?_
    have hS2:(aG (bA t s)).set (0+((s:Nat):Int).toNat*1) 1=aG (bA t (s+1)):=by
     rw[show(1:Int)=((1:Nat):Int) from rfl,Mt,show 0+((s:Nat):Int).toNat*1=s by omega,Js hsn (by simpa using h_t26)]
    refine ai [] id (s+1) ⟨by omega,by omega⟩ [0] dU dU dU dU
   ·refine bK (dD (K11 _ _ _ (bB z85 fun _ K16=>?_)))
    iterate 3 refine q9 ?_
    refine aJ K16 ?_
    have hS2:aG (bA t s)=aG (bA t (s+1)):=by rw[OM (by simpa using h_t26)]
    refine ai [] id (s+1) ⟨by omega,by omega⟩ [0] dU dU dU dU
  ·try simp only[dQ,reduceIte]at h_t19
   refine eY (bJ (bJ (eX (K5 _ _ _ ?_))))
   have hse:s=t.next.length:=by omega
   rw[hse];refine fQ [0] id [(1,.c (.ds l.length (.ints .i64 (aG l)))),(2,.c (.dp (eT t) 0)),(6,.c (.ds (bA t t.next.length).length (.ints .i64 (aG (bA t t.next.length)))))] [] 0 [] dU dU dU dU (aO z85 fun _ K18=>JJ ?_);refine aU (jw t) (SV.as_refl _) ?_
   iterate 2 refine q9 ?_
   refine JJ ?_;refine aI (lI t) (lJ t ⟨t,bA t t.next.length,l,rfl,⟨ht,Pf t _,hlr.lt,hlr.len,(by rw[Pf];exact hlen)⟩,?_⟩)
   simp only[q8]
   refine qj ?_
   first|refine aL ?_|(intro cap3 hcap3;refine aL ?_)
   iterate 5 refine q9 ?_
   refine aJ K18 (bO (fM (α:=List Nat×Nat) (fun g=>[(1,.c (.ds l.length (.ints .i64 (aG l)))),(2,.c (.dp (eT t) 0)),(6,.c (.ds (cz (aD t) l g.1 l.length).length (.ints .i64 (aG (cz (aD t) l g.1 l.length))))),(8,.c (.ds (dK (kB t g.1) l).length (.ints .i64 (aG (dK (kB t g.1) l)))))]) (fun g=>[]) 0 (fun g=>vN (aD t) l g.1 t.next.length g.2) (fun g=>l.length+1 - z36 (aD t) l (aM g.1)) ?_ ?_))
   ·refine ai [] id (bA t t.next.length,0) (Jr hlr.lt) [] dU dU dU dU
   ·intro g hb
    obtain⟨bl,c⟩:=g
    have hb:vN (aD t) l bl t.next.length c:=hb
    show WP _ _ _ _ _ _ _ _
    refine bO (aO z85 fun _ K20=>JJ ?_);refine aU (jw t) (SV.as_refl _) ?_
    iterate 2 refine q9 ?_
    refine JJ ?_;refine aI (lI t) (lJ t ⟨t,cz (aD t) l bl l.length,l,rfl,⟨ht,(by rw[Bh];exact hb.len),hlr.lt,hlr.len,(by rw[Bh,hb.len];exact hlen)⟩,?_⟩)
    simp only[q8]
    refine qj ?_
    first|refine aL ?_|(intro cap3 hcap3;refine aL ?_)
    iterate 5 refine q9 ?_
    refine aJ K20 (aH fun _ K21=>aO z85 fun _ K23=>?_)
    iterate 5 refine q9 ?_
    refine aJ K23 (bC (b:=_) rfl (fun h_t48=>?_) (fun h_t48=>?_))
    ·have hce:z36 (aD t) l (aM (cz (aD t) l bl l.length))=z36 (aD t) l (aM bl):=by
      have h9:=of_decide_eq_true h_t48
      have h8:(dK (kB t (cz (aD t) l bl l.length)) l).length=(dK (kB t bl) l).length:=by omega
      rw[qU,qU]at h8;exact h8
     obtain⟨hf1,hf2⟩:=zyd ht hlr hb hce;refine aO z85 fun _ K25=>?_
     iterate 4 refine q9 ?_
     refine aJ K25 ?_;rw[hf1,hf2]
     have hfl2:=PP t l
     have hbl9:=hb.len
     refine bQ (gT z85 (fun _ _ h=>h) ((List.forall_mem_cons.2 ⟨trivial,(List.forall_mem_cons.2 ⟨trivial,fun _ h=>(by cases h)⟩)⟩)) [] [.tmp 4,.tmp 5] rfl ?_)
     all_goals exact dU
    ·have hne:z36 (aD t) l (aM (cz (aD t) l bl l.length))≠z36 (aD t) l (aM bl):=fun h9=>by
      have h8:=of_decide_eq_false h_t48
      have h7:(dK (kB t (cz (aD t) l bl l.length)) l).length=(dK (kB t bl) l).length:=by rw[qU,qU];exact h9
      omega
     refine bK (K21 _ _ _ (aO z85 fun _ K27=>?_))
     iterate 2 refine q9 ?_
     refine aJ K27 (bB z85 fun _ K28=>?_)
     iterate 2 refine q9 ?_
     refine aJ K28 (dD ?_)
     have hnx:=Sz hb hlr.lt hlr.len hlr.cl hok.byte
     have hcp:=S8 (t:=aD t) (l:=l) (bl:=bl) hlr.pos
     have hcl2:=zv2 (t:=aD t) (l:=l) (bl:=(cz (aD t) l bl l.length))
     have hcm:=zq4 hnx hcp
     have hne9:z36 (aD t) l (aM (cz (aD t) l bl l.length))≠z36 (aD t) l (aM bl):=hne
     refine ai [] id ((cz (aD t) l bl l.length),z36 (aD t) l (aM bl)) ⟨hnx,by show _+1 - z36 (aD t) l (aM (cz (aD t) l bl l.length))< _+1 - z36 (aD t) l (aM bl);omega⟩ [] ?_ ?_ ?_ ?_
     ·exact dU
     ·exact dU
     ·exact dU
     ·exact dU


end Go.Proofs.YtpdljmohhpbkpaaDoor
