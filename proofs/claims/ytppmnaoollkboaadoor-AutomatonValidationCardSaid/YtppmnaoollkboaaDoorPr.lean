/- Part 18 of what the claims of this seat share: the walk's engine, the functions' contracts, plain mathematics (Jh, Ji, Jj). -/
import Derived.Test.YtppmnaoollkboaaDoorPp
import Derived.Test.YtppmnaoollkboaaDoorPd
set_option maxHeartbeats 2000000
set_option maxRecDepth 4000
namespace Go.Proofs.YtppmnaoollkboaaDoor
set_option linter.all false
open Go.Ab Go.RowKit

section
variable {a b:Prop}
theorem qJh0(h:a:=by first|exact vcA|(simp[-List.reduceReplicate]<;>omega)|exact vRh|(simp only[z0e];omega)|(simp only[z0v,z0e];omega)|(rw[z0e];omega)|(simp only[z17,z2c];omega)|exact vcB):a:=h
theorem qJh1(h:a:=by first|exact vcA|(simp[-List.reduceReplicate]<;>omega)|exact vRh|(simp only[z0e];omega)|(simp only[z0v,z0e];omega)|(rw[z0e];omega)|(simp only[z17,z2c];omega)|(simp;omega)|exact vcB):a:=h
theorem uJh_0(h:a:=by
    repeat' (first|exact pJ|exact pT|exact trivial|refine aI ?_ ?_|exact cC0|refine low_cons' ?_ ?_|exact cC1|fail)
    all_goals first|omega|(show(0:Nat)< (rt _ _ _).length;rw[z05 hcl];decide)|(show Cont.low _ (Cont.cells (List.replicate 256 _++_));exact z3v)|exact hL0|exact hL|(show(_:List Bool)=_;first|exact hS1|rfl)|(show(_:List Int)=_;first|exact hS2|rfl)|(simp;done)|(show(0:Nat)< (z02 _ _ _ _).length;rw[z00 hcl];decide)|(simp[-List.reduceReplicate];done)|(simp[-List.reduceReplicate]<;>omega)|skip):a:=h
theorem uJh_1(h:a:=by
    repeat' (first|exact pJ|exact pT|exact trivial|refine aI ?_ ?_|exact cC0|refine low_cons' ?_ ?_|exact cC1|fail)
    all_goals first|omega|(show(0:Nat)< (rt _ _ _).length;rw[z05 hcl];decide)|(show Cont.low _ (Cont.cells (List.replicate 256 _++_));exact z3v)|(simp;done)|(show(0:Nat)< (z02 _ _ _ _).length;rw[z00 hcl];decide)|(simp[-List.reduceReplicate];done)|(simp[-List.reduceReplicate]<;>omega)|skip):a:=h
theorem DJh_0(kZ:b)(h:HidB b→a:=by intro kZ;(repeat first|refine aI qJh0 ?_|refine z04 qJh0 ?_|refine z03 qJh0 ?_|refine z0m qJh0 ?_|refine z0c ?_);exact kZ.out):a:=h ⟨kZ⟩
theorem z2y(kZ:b)(h:HidB b→a:=by intro kZ;refine sX ?_;refine DJh_0 ?_;refine exI ?_;exact kZ.out):a:=h ⟨kZ⟩
theorem DJh_2(kZ:b)(h:HidB b→a:=by intro kZ;(repeat first|refine aI qJh1 ?_|refine z04 qJh1 ?_|refine z03 qJh1 ?_|refine z0m qJh1 ?_|refine z0c ?_);exact kZ.out):a:=h ⟨kZ⟩
theorem sXJh_3(kZ:b)(h:HidB b→a:=by intro kZ;refine sX ?_;refine DJh_2 ?_;refine exI ?_;exact kZ.out):a:=h ⟨kZ⟩
theorem sX0Jh_4(kZ:b)(h:HidB b→a:=by intro kZ;refine sX0 ?_;refine DJh_2 ?_;refine exI ?_;exact kZ.out):a:=h ⟨kZ⟩
theorem z5c(kZ:b)(h:HidB b→a:=by intro kZ;refine qX ?_;refine DJh_0 ?_;refine exI ?_;exact kZ.out):a:=h ⟨kZ⟩
theorem sX0Jh_6(kZ:b)(h:HidB b→a:=by intro kZ;refine sX0 ?_;refine DJh_0 ?_;refine exI ?_;exact kZ.out):a:=h ⟨kZ⟩
theorem z9m(kZ:b)(h:HidB b→a:=by intro kZ;refine sX ?_;refine DJh_0 ?_;exact kZ.out):a:=h ⟨kZ⟩
theorem z4a(kZ:b)(h:HidB b→a:=by intro kZ;refine qX ?_;refine DJh_0 ?_;exact kZ.out):a:=h ⟨kZ⟩
end
open Go.Aut
attribute [local irreducible] z0s z12 zl z02 z11 putB rt rzl cbK
def zot:QSpec:=fun vs K=>∃ t:Tab,vs=[rtV t]∧t.fit∧K (.c (.ds (z3p (tblT t)).length (.ints .i64 (natsI (z3p (tblT t))))))
theorem zr9:z1w Tryd.prog gl 148 zot:=by
 refine z1c (Γ:=g0) (N:=57) Tryd.func148 rfl rfl fun vs K h=>?_;obtain⟨t,rfl,ht,h⟩:=h;refine⟨_,h,trivial,by simp,fun w I=>?_⟩
 have ht0:=ht
 obtain⟨hok,hlen,hnc⟩:=ht0
 have hcl:=hok.clen
 refine srR g0_ok fun _ K2=>?_
 iterate 2 refine z2y ?_
 refine s_n K2 ?_;refine leW [0] id [(1,.c (.dp (rtC t) 0))] [] 0 [] uJh_0 uJh_0 uJh_0 uJh_0 ?_;refine srR g0_ok fun _ K4=>?_;refine z2y ?_;refine z9m ?_;refine exA (.c (.ds t.next.length (.cells (rowsC t.next)))) (as_c (rt_nx hcl)) ?_
 iterate 3 refine z2y ?_
 refine s_n K4 ?_
 have hnp:=hok.npos
 refine leW [] id [(1,.c (.dp (rtC t) 0)),(3,.c (.slice 0 0 t.next.length t.next.length))] [(0,.own 4 (.bools (List.replicate t.next.length false)) t.next.length)] 1 [0] uJh_0 uJh_0 uJh_0 uJh_0 ?_;refine srR g0_ok fun _ K6=>?_
 iterate 2 refine sXJh_3 ?_
 refine sX0Jh_4 ?_;refine s_n K6 ?_;refine srR g0_ok fun _ K8=>?_
 iterate 2 refine z2y ?_
 refine s_n K8 ?_;refine seq_k fun _ K9=>?_;refine srR g0_ok fun _ K11=>?_;refine z2y ?_;refine s_n K11 ?_;refine z07 ?_;refine z0q (α:=Nat×Nat) (fun s=>[(1,.c (.dp (rtC t) 0)),(3,.c (.slice 0 0 t.next.length t.next.length)),(4,.c (.slice 1 0 ((ordO (tblT t).δ t.nc 0 (s.1*t.nc))).length s.2)),(5,.c (.int .i64 ((s.1:Nat):Int)))]) (fun s=>[(0,.own 4 (.bools (seenB (ordO (tblT t).δ t.nc 0 (s.1*t.nc)) t.next.length)) t.next.length),(1,.own 3 (.ints .i64 (natsI (ordO (tblT t).δ t.nc 0 (s.1*t.nc)))) s.2)]) 2 (fun s=>s.1≤t.next.length∧(∀ j,j< s.1→j< (ordO (tblT t).δ t.nc 0 (j*t.nc)).length)∧s.1≤(ordO (tblT t).δ t.nc 0 (s.1*t.nc)).length∧(ordO (tblT t).δ t.nc 0 (s.1*t.nc)).length≤s.2) (fun s=>t.next.length - s.1) ?_ ?_
 ·have hz:(ordO (tblT t).δ t.nc 0 (0*t.nc))=[0]:=by rw[Nat.zero_mul];rfl
  have hS1:(List.replicate t.next.length false).set 0 true=seenB (ordO (tblT t).δ t.nc 0 (0*t.nc)) t.next.length:=by rw[hz];exact ze4 _
  have hS2:([]++[0]:List Int)=natsI (ordO (tblT t).δ t.nc 0 (0*t.nc)):=by rw[hz];rfl
  have hL0:1=(ordO (tblT t).δ t.nc 0 (0*t.nc)).length:=by rw[hz];rfl
  refine dnS [] id (0,1) ⟨Nat.zero_le _,fun j hj=>absurd hj (Nat.not_lt_zero j),Nat.zero_le _,by rw[hz];exact Nat.le_refl _⟩ [0,1] ?_ ?_ ?_ ?_
  ·exact uJh_0
  ·exact uJh_0
  ·exact uJh_0
  ·exact uJh_0
 ·intro s hs
  have hs3:=hs.2.2.1
  have hs4:=hs.2.2.2
  have hs1:=hs.1
  refine seq_k fun _ K12=>?_;refine srR g0_ok fun _ K14=>?_
  iterate 4 refine z2y ?_
  refine s_n K14 ?_;refine z09 (b:=_) rfl (fun h_t18=>?_) (fun h_t18=>?_)
  ·try simp only[dQ,reduceIte]at h_t18
   refine z0b ?_;apply K12;refine seq_k fun _ K15=>?_;refine z07 ?_
   have hi:s.1< (ordO (tblT t).δ t.nc 0 (s.1*t.nc)).length:=by omega
   have hsi:=zjr hok _ _ (getD_mem' hi)
   have hrl:=z5a hok hsi
   have hole:=zt1 hok (s.1*t.nc)
   refine srQ g0_ok kR fun _ K17=>?_;refine z5c ?_;refine z4a ?_;refine exA (.c (.ds t.next.length (.cells (rowsC t.next)))) (as_c (rt_nx hcl)) ?_
   iterate 3 refine z5c ?_
   refine z4a ?_;refine exA (.c (.int .i64 (((((ordO (tblT t).δ t.nc 0 (s.1*t.nc)).getD s.1 0):Nat):Int)))) (as_i ((congrArg (fun i=>(natsI (ordO (tblT t).δ t.nc 0 (s.1*t.nc))).getD i 0) (by omega)).trans z0r)) ?_;refine z5c ?_;refine z4a ?_;refine exA (.c (.ds (t.next.getD ((ordO (tblT t).δ t.nc 0 (s.1*t.nc)).getD s.1 0) []).length (.ints .i64 (t.next.getD ((ordO (tblT t).δ t.nc 0 (s.1*t.nc)).getD s.1 0) [])))) (as_c (z4n ⟨hsi,by omega⟩)) ?_;refine z5c ?_;refine q_n K17 ?_;refine srR g0_ok fun _ K19=>?_;refine z2y ?_;refine s_n K19 ?_;refine z07 ?_;refine z0q (α:=Nat×Nat) (fun k=>[(1,.c (.dp (rtC t) 0)),(3,.c (.slice 0 0 t.next.length t.next.length)),(4,.c (.slice 1 0 ((ordO (tblT t).δ t.nc 0 (s.1*t.nc+k.1))).length k.2)),(5,.c (.int .i64 ((s.1:Nat):Int))),(6,.c (.ds (t.next.getD ((ordO (tblT t).δ t.nc 0 (s.1*t.nc)).getD s.1 0) []).length (.ints .i64 (t.next.getD ((ordO (tblT t).δ t.nc 0 (s.1*t.nc)).getD s.1 0) [])))),(7,.c (.int .i64 (k.1:Nat)))]) (fun k=>[(0,.own 4 (.bools (seenB (ordO (tblT t).δ t.nc 0 (s.1*t.nc+k.1)) t.next.length)) t.next.length),(1,.own 3 (.ints .i64 (natsI (ordO (tblT t).δ t.nc 0 (s.1*t.nc+k.1)))) k.2)]) 2 (fun k=>k.1≤t.nc∧(ordO (tblT t).δ t.nc 0 (s.1*t.nc+k.1)).length≤k.2) (fun k=>t.nc - k.1) ?_ ?_
   ·refine dnS [] id (0,s.2) ⟨Nat.zero_le _,hs4⟩ [0,1] uJh_0 uJh_0 uJh_0 uJh_0
   ·intro k hk
    have hk2:=hk.2
    have hk1:=hk.1
    refine seq_k fun _ K20=>?_;refine srR g0_ok fun _ K22=>?_
    iterate 4 refine z2y ?_
    refine s_n K22 ?_;refine z09 (b:=_) rfl (fun h_t32=>?_) (fun h_t32=>?_)
    ·try simp only[dQ,reduceIte]at h_t32
     refine z0b ?_;apply K20;refine seq_k fun _ K23=>?_;refine z07 ?_
     have hk:k.1< t.nc:=by omega
     have hx:=nextN hok hsi hk
     have hat:=znw (f:=(tblT t).δ) (b0:=0) hi (Nat.le_add_right (s.1*t.nc) k.1)
     have hst:=zcp (f:=(tblT t).δ) (b0:=0) (i:=s.1) hk
     rw[hat]at hst
     have hol:=zt1 hok (s.1*t.nc+k.1)
     refine srR g0_ok fun _ K25=>?_
     iterate 4 refine z2y ?_
     refine z9m ?_;refine exA (.c (.int .i64 (((((tblT t).δ ((ordO (tblT t).δ t.nc 0 (s.1*t.nc)).getD s.1 0) k.1):Nat):Int)))) (as_i ((congrArg (fun i=>(t.next.getD ((ordO (tblT t).δ t.nc 0 (s.1*t.nc)).getD s.1 0) []).getD i 0) (by omega)).trans hx.2)) ?_;refine z2y ?_;refine z9m ?_;refine exA (.c (.bool (decide (((tblT t).δ ((ordO (tblT t).δ t.nc 0 (s.1*t.nc)).getD s.1 0) k.1)∈(ordO (tblT t).δ t.nc 0 (s.1*t.nc+k.1)))))) (as_b (by rw[←za8 hx.1];congr 1;omega)) ?_;refine z2y ?_;refine s_n K25 ?_;refine z09 (b:=_) rfl (fun h_t42=>?_) (fun h_t42=>?_)
     ·refine srR g0_ok fun _ K27=>?_
      iterate 4 refine z2y ?_
      refine z9m ?_;refine exA (.c (.int .i64 (((((tblT t).δ ((ordO (tblT t).δ t.nc 0 (s.1*t.nc)).getD s.1 0) k.1):Nat):Int)))) (as_i ((congrArg (fun i=>(t.next.getD ((ordO (tblT t).δ t.nc 0 (s.1*t.nc)).getD s.1 0) []).getD i 0) (by omega)).trans hx.2)) ?_;refine z2y ?_;refine sX0Jh_6 ?_;refine s_n K27 ?_;refine z06 g0_ok fun _ K28=>?_
      iterate 4 refine z2y ?_
      refine z9m ?_;refine exA (.c (.int .i64 (((((tblT t).δ ((ordO (tblT t).δ t.nc 0 (s.1*t.nc)).getD s.1 0) k.1):Nat):Int)))) (as_i ((congrArg (fun i=>(t.next.getD ((ordO (tblT t).δ t.nc 0 (s.1*t.nc)).getD s.1 0) []).getD i 0) (by omega)).trans hx.2)) ?_;refine z2y ?_;refine z9m ?_;intro cap6 hcap6;refine exI ?_;refine z2y ?_;refine s_n K28 ?_;refine z0a ?_;apply K23;refine z06 g0_ok fun _ K29=>?_
      iterate 3 refine z2y ?_
      refine s_n K29 ?_
      have hno:((tblT t).δ ((ordO (tblT t).δ t.nc 0 (s.1*t.nc)).getD s.1 0) k.1)∉(ordO (tblT t).δ t.nc 0 (s.1*t.nc+k.1)):=by simpa using h_t42
      rw[addC,if_neg hno]at hst
      have hS1:(seenB (ordO (tblT t).δ t.nc 0 (s.1*t.nc+k.1)) t.next.length).set (0+((((tblT t).δ ((ordO (tblT t).δ t.nc 0 (s.1*t.nc)).getD s.1 0) k.1):Nat):Int).toNat*1) true=seenB (ordO (tblT t).δ t.nc 0 (s.1*t.nc+(k.1+1))) t.next.length:=by rw[←Nat.add_assoc,hst, ←zco];congr 1;omega
      have hS2:natsI (ordO (tblT t).δ t.nc 0 (s.1*t.nc+k.1))++([]++[((((tblT t).δ ((ordO (tblT t).δ t.nc 0 (s.1*t.nc)).getD s.1 0) k.1):Nat):Int)])=natsI (ordO (tblT t).δ t.nc 0 (s.1*t.nc+(k.1+1))):=by rw[←Nat.add_assoc,hst,List.nil_append,z2r]
      have hL:(ordO (tblT t).δ t.nc 0 (s.1*t.nc+(k.1+1))).length=(ordO (tblT t).δ t.nc 0 (s.1*t.nc+k.1)).length+1:=by rw[←Nat.add_assoc,hst,List.length_append];rfl
      have hL0:(ordO (tblT t).δ t.nc 0 (s.1*t.nc+k.1)).length+1=(ordO (tblT t).δ t.nc 0 (s.1*t.nc+(k.1+1))).length:=hL.symm
      refine dnS [] (fun i=>if i=0 then 0 else 3) (k.1+1,cap6) ⟨⟨by show k.1+1≤_;omega,by show _≤cap6;rw[hL];omega⟩,by show _ - (k.1+1)< _;omega⟩ [0,3] ?_ ?_ ?_ ?_
      ·exact uJh_0
      ·exact uJh_0
      ·exact uJh_0
      ·exact uJh_0
     ·refine z0b ?_;refine z0a ?_;apply K23;refine z06 g0_ok fun _ K30=>?_
      iterate 3 refine z2y ?_
      refine s_n K30 ?_
      have hin:((tblT t).δ ((ordO (tblT t).δ t.nc 0 (s.1*t.nc)).getD s.1 0) k.1)∈(ordO (tblT t).δ t.nc 0 (s.1*t.nc+k.1)):=by simpa using h_t42
      rw[addC,if_pos hin]at hst;rw[←hst];rw[←hst]at hk2;refine dnS [] id (k.1+1,k.2) ⟨⟨by show k.1+1≤_;omega,hk2⟩,by show _ - (k.1+1)< _;omega⟩ [0,1] ?_ ?_ ?_ ?_
      ·exact uJh_0
      ·exact uJh_0
      ·exact uJh_0
      ·exact uJh_0
    ·try simp only[dQ,reduceIte]at h_t32
     refine z0o ?_;refine z01 ?_;refine z01 ?_;refine z0j ?_;refine z0a ?_;apply K15;refine z06 g0_ok fun _ K31=>?_
     iterate 3 refine z2y ?_
     refine s_n K31 ?_
     have hke:k.1=t.nc:=by omega
     have hpe:s.1*t.nc+k.1=(s.1+1)*t.nc:=by rw[hke,Nat.succ_mul]
     rw[hpe];rw[hpe]at hk2
     have hlen2:=z2t (f:=(tblT t).δ) (nc:=t.nc) (b0:=0) (p:=s.1*t.nc) (q:=(s.1+1)*t.nc) (Nat.mul_le_mul_right _ (by omega))
     have hah:∀ j,j< s.1+1→j< (ordO (tblT t).δ t.nc 0 (j*t.nc)).length:=fun j hj=>by
      rcases Nat.lt_or_ge j s.1 with h1|h1
      ·exact hs.2.1 j h1
      ·obtain rfl:j=s.1:=by omega
       exact hi
     refine dnS [] id (s.1+1,k.2) ⟨⟨by show s.1+1≤_;omega,hah,(by show s.1+1≤(ordO (tblT t).δ t.nc 0 ((s.1+1)*t.nc)).length;omega),hk2⟩,by show _ - (s.1+1)< _;omega⟩ [0,1] ?_ ?_ ?_ ?_
     ·exact uJh_0
     ·exact uJh_0
     ·exact uJh_0
     ·exact uJh_0
  ·try simp only[dQ,reduceIte]at h_t18
   refine z0o ?_;refine z01 ?_;refine z01 ?_;refine z0j ?_;apply K9
   have hcl2:=zcq (Tab.nc_pos hok) hs.2.1 (by omega)
   have hre:z3p (tblT t)=(ordO (tblT t).δ t.nc 0 (s.1*t.nc)):=by rw[z3p,zi3 (show z20 (tblT t).δ (tblT t).nc 0 s.1 from hcl2)];rfl
   refine srR g0_ok fun _ K33=>?_
   iterate 2 refine z2y ?_
   refine s_n K33 ?_
   try rw[hre]
   refine z0g (z0k g0_ok (fun _ _ h=>h) (by trivial) [1] [.tmp 2] rfl ?_)
   all_goals exact uJh_0

def y19:QSpec:=fun vs K=>∃ (t:Tab) (bl:List Nat) (s q:Nat),vs=[rtV t,.c (.ds bl.length (.ints .i64 (natsI bl))),.agg (.ints .i64 [((s:Nat):Int),((q:Nat):Int)])]∧(t.fit∧bl.length=t.next.length∧s< t.next.length∧q< t.next.length)∧K (.c (.bool (decide (kB t bl s=kB t bl q))))
theorem y1a:z19 Tryd.prog gl 172 y19:=by
 refine z1d (Γ:=g0) (N:=55) Tryd.func172 rfl rfl fun vs K h=>?_;obtain⟨t,bl,s,q,rfl,⟨ht,hbl,hs,hq⟩,h⟩:=h;refine⟨_,h,rfl,by simp,fun w I=>?_⟩
 have ht0:=ht
 obtain⟨hok,hlen,hnc⟩:=ht0
 have hcl:=hok.clen
 refine srR g0_ok fun _ K2=>?_
 iterate 3 refine z2y ?_
 refine s_n K2 ?_;refine seq_k fun _ K3=>?_;refine leW [0,1] id [(1,.c (.ds bl.length (.ints .i64 (natsI bl)))),(3,.c (.dp (rtC t) 0)),(5,.c (.dp (.ints .i64 [((s:Nat):Int),((q:Nat):Int)]) 0))] [] 0 [] uJh_1 uJh_1 uJh_1 uJh_1 ?_;refine srQ g0_ok kR fun _ K5=>?_
 iterate 2 refine z5c ?_
 refine z4a ?_;refine exA (.c (.int .i64 (((s:Nat):Int)))) (as_i (rfl)) ?_;refine z5c ?_;refine z4a ?_;refine exA (.c (.int .i64 (((blkF bl s:Nat):Int)))) (as_i ((congrArg (fun i=>(natsI bl).getD i 0) (by omega)).trans z0r)) ?_
 iterate 2 refine z5c ?_
 refine z4a ?_;refine exA (.c (.int .i64 (((q:Nat):Int)))) (as_i (rfl)) ?_;refine z5c ?_;refine z4a ?_;refine exA (.c (.int .i64 (((blkF bl q:Nat):Int)))) (as_i ((congrArg (fun i=>(natsI bl).getD i 0) (by omega)).trans z0r)) ?_;refine z5c ?_;refine q_n K5 ?_;refine z09 (b:=_) rfl (fun h_t18=>?_) (fun h_t18=>?_)
 ·try simp only[dQ,reduceIte]at h_t18
  refine srR g0_ok fun _ K7=>?_;refine z2y ?_;refine s_n K7 ?_;refine z0g (z0d g0_ok (fun _ _ h=>h) (by first|rfl|assumption) [.tmp 6] rfl ?_);refine rtD ?_
  show SV.c (.bool false)=_
  rw[decide_eq_false fun e=>absurd (zhj.1 e).1 (by omega)]
 ·try simp only[dQ,reduceIte]at h_t18
  refine z0b ?_;apply K3;refine seq_k fun _ K8=>?_;refine srR g0_ok fun _ K10=>?_;refine z2y ?_;refine s_n K10 ?_;refine z07 ?_;refine z0q (α:=Nat) (fun k=>[(1,.c (.ds bl.length (.ints .i64 (natsI bl)))),(3,.c (.dp (rtC t) 0)),(5,.c (.dp (.ints .i64 [((s:Nat):Int),((q:Nat):Int)]) 0)),(7,.c (.int .i64 (k:Nat)))]) (fun k=>[]) 0 (fun k=>k≤t.nc∧∀ c,c< k→blkF bl ((tblT t).δ s c)=blkF bl ((tblT t).δ q c)) (fun k=>t.nc - k) ?_ ?_
  ·refine dnS [] id 0 ⟨Nat.zero_le _,fun c hc=>absurd hc (Nat.not_lt_zero c)⟩ [] uJh_1 uJh_1 uJh_1 uJh_1
  ·intro k hk9
   have hk0:=hk9.1
   have hrs:=z5a hok hs
   refine seq_k fun _ K11=>?_;refine srR g0_ok fun _ K13=>?_
   iterate 2 refine z2y ?_
   refine z9m ?_;refine exA (.c (.ds t.next.length (.cells (rowsC t.next)))) (as_c (rt_nx hcl)) ?_;refine z2y ?_;refine z9m ?_;refine exA (.c (.int .i64 (((s:Nat):Int)))) (as_i (rfl)) ?_;refine z2y ?_;refine z9m ?_;refine exA (.c (.ds (t.next.getD s []).length (.ints .i64 (t.next.getD s [])))) (as_c (z4n ⟨hs,by omega⟩)) ?_
   iterate 2 refine z2y ?_
   refine s_n K13 ?_;refine z09 (b:=_) rfl (fun h_t27=>?_) (fun h_t27=>?_)
   ·try simp only[dQ,reduceIte]at h_t27
    refine z0b ?_;apply K11;refine seq_k fun _ K14=>?_;refine z07 ?_
    have hk:k< t.nc:=by omega
    have hxs:=nextN hok hs hk
    have hxq:=nextN hok hq hk
    have hrq:=z5a hok hq
    refine srQ g0_ok kR fun _ K16=>?_
    iterate 2 refine z5c ?_
    refine z4a ?_;refine exA (.c (.ds t.next.length (.cells (rowsC t.next)))) (as_c (rt_nx hcl)) ?_;refine z5c ?_;refine z4a ?_;refine exA (.c (.int .i64 (((s:Nat):Int)))) (as_i (rfl)) ?_;refine z5c ?_;refine z4a ?_;refine exA (.c (.ds (t.next.getD s []).length (.ints .i64 (t.next.getD s [])))) (as_c (z4n ⟨hs,by omega⟩)) ?_
    iterate 2 refine z5c ?_
    refine z4a ?_;refine exA (.c (.int .i64 ((((tblT t).δ s k:Nat):Int)))) (as_i ((congrArg (fun i=>(t.next.getD s []).getD i 0) (by omega)).trans hxs.2)) ?_;refine z5c ?_;refine z4a ?_;refine exA (.c (.int .i64 (((blkF bl ((tblT t).δ s k):Nat):Int)))) (as_i ((congrArg (fun i=>(natsI bl).getD i 0) (by omega)).trans z0r)) ?_
    iterate 2 refine z5c ?_
    refine z4a ?_;refine exA (.c (.ds t.next.length (.cells (rowsC t.next)))) (as_c (rt_nx hcl)) ?_;refine z5c ?_;refine z4a ?_;refine exA (.c (.int .i64 (((q:Nat):Int)))) (as_i (rfl)) ?_;refine z5c ?_;refine z4a ?_;refine exA (.c (.ds (t.next.getD q []).length (.ints .i64 (t.next.getD q [])))) (as_c (z4n ⟨hq,by omega⟩)) ?_
    iterate 2 refine z5c ?_
    refine z4a ?_;refine exA (.c (.int .i64 ((((tblT t).δ q k:Nat):Int)))) (as_i ((congrArg (fun i=>(t.next.getD q []).getD i 0) (by omega)).trans hxq.2)) ?_;refine z5c ?_;refine z4a ?_;refine exA (.c (.int .i64 (((blkF bl ((tblT t).δ q k):Nat):Int)))) (as_i ((congrArg (fun i=>(natsI bl).getD i 0) (by omega)).trans z0r)) ?_;refine z5c ?_;refine q_n K16 ?_;refine z09 (b:=_) rfl (fun h_t54=>?_) (fun h_t54=>?_)
    ·try simp only[dQ,reduceIte]at h_t54
     refine srR g0_ok fun _ K18=>?_;refine z2y ?_;refine s_n K18 ?_;refine z0g (z0d g0_ok (fun _ _ h=>h) (by first|rfl|assumption) [.tmp 6] rfl ?_);refine rtD ?_
     show SV.c (.bool false)=_
     rw[decide_eq_false fun e=>absurd ((zhj.1 e).2 k hk) (by omega)]
    ·try simp only[dQ,reduceIte]at h_t54
     refine z0b ?_;refine z0a ?_;apply K14;refine z06 g0_ok fun _ K19=>?_
     iterate 3 refine z2y ?_
     refine s_n K19 ?_;refine dnS [] id (k+1) ⟨⟨by omega,fun c hc=>(Nat.lt_succ_iff_lt_or_eq.1 hc).elim (hk9.2 c) fun e=>by rw[e];omega⟩,by omega⟩ [] ?_ ?_ ?_ ?_
     ·exact uJh_1
     ·exact uJh_1
     ·exact uJh_1
     ·exact uJh_1
   ·try simp only[dQ,reduceIte]at h_t27
    refine z0o ?_;refine z01 ?_;refine z01 ?_;refine z0j ?_;apply K8;refine srR g0_ok fun _ K21=>?_;refine z2y ?_;refine s_n K21 ?_;refine z0g (z0d g0_ok (fun _ _ h=>h) (by first|rfl|assumption) [.tmp 6] rfl ?_);refine rtD ?_
    show SV.c (.bool true)=_
    rw[decide_eq_true (zhj.2 ⟨by omega,fun c hc=>hk9.2 c (by have:c< t.nc:=hc;omega)⟩)]


end Go.Proofs.YtppmnaoollkboaaDoor

namespace Go.Proofs.YtppmnaoollkboaaDoor
set_option linter.all false
open Go.Ab Go.RowKit

section
variable {a b:Prop}
theorem qJi0(h:a:=by first|exact vcA|(simp[-List.reduceReplicate]<;>omega)|exact vRh|(simp only[z0e];omega)|(simp only[z0v,z0e];omega)|(rw[z0e];omega)|(simp only[z17,z2c];omega)|(simp only[z0v,z0e,z2v];omega)|exact⟨by omega,by omega,trivial,trivial⟩|exact vcB):a:=h
theorem uJi_0(h:a:=by
    repeat' (first|exact pJ|exact pT|exact trivial|refine aI ?_ ?_|exact cC0|refine low_cons' ?_ ?_|exact cC1|fail)
    all_goals first|omega|(show(0:Nat)< (rt _ _ _).length;rw[z05 hcl];decide)|(show Cont.low _ (Cont.cells (List.replicate 256 _++_));exact z3v)|exact hL0|(show(_:List Int)=_;first|assumption|rfl)|(simp;done)|(show(0:Nat)< (z02 _ _ _ _).length;rw[z00 hcl];decide)|(simp[-List.reduceReplicate];done)|(simp[-List.reduceReplicate]<;>omega)|skip):a:=h
theorem DJi_0(kZ:b)(h:HidB b→a:=by intro kZ;(repeat first|refine aI qJi0 ?_|refine z04 qJi0 ?_|refine z03 qJi0 ?_|refine z0m qJi0 ?_|refine z0c ?_);exact kZ.out):a:=h ⟨kZ⟩
theorem z3z(kZ:b)(h:HidB b→a:=by intro kZ;refine sX ?_;refine DJi_0 ?_;refine exI ?_;exact kZ.out):a:=h ⟨kZ⟩
theorem sXTJi_2(kZ:b)(h:HidB b→a:=by intro kZ;refine sXT ?_;refine DJi_0 ?_;refine exI ?_;exact kZ.out):a:=h ⟨kZ⟩
theorem dXJi_3(kZ:b)(h:HidB b→a:=by intro kZ;refine dX ?_;refine DJi_0 ?_;refine exI ?_;exact kZ.out):a:=h ⟨kZ⟩
theorem y1b(kZ:b)(h:HidB b→a:=by intro kZ;refine sX0 ?_;refine DJi_0 ?_;refine exI ?_;exact kZ.out):a:=h ⟨kZ⟩
theorem ziz(kZ:b)(h:HidB b→a:=by intro kZ;refine sX ?_;refine DJi_0 ?_;exact kZ.out):a:=h ⟨kZ⟩
theorem zmh(kZ:b)(h:HidB b→a:=by intro kZ;refine dX ?_;refine DJi_0 ?_;exact kZ.out):a:=h ⟨kZ⟩
theorem gXEJi_7(kZ:b)(h:HidB b→a:=by intro kZ;refine gX ?_;refine DJi_0 ?_;exact kZ.out):a:=h ⟨kZ⟩
end
open Go.Aut
theorem zou(t:Tab)(bl l:List Nat){x:Nat}(h:x< (z0n (kB t bl) l).length):(keysO (kB t bl) l)[x]? =some (kB t bl ((z0n (kB t bl) l).getD x 0)):=by
  rw[←z5y,List.getElem?_map,at_of (d:=0) h];rfl
def SpF(t:Tab)(bl o:List Nat)(cur:Nat)(y:Nat):Prop:=(y=(z0n (kB t bl) o).length∧kB t bl cur∉keysO (kB t bl) o)∨(y< (z0n (kB t bl) o).length∧kB t bl cur∈keysO (kB t bl) o∧idxK (keysO (kB t bl) o) (kB t bl cur)=y)
theorem sp_yes{t:Tab}{bl o:List Nat}{cur y:Nat}(h:y< (z0n (kB t bl) o).length)(e:kB t bl ((z0n (kB t bl) o).getD y 0)=kB t bl cur):SpF t bl o cur y:=by
  have h1:=zou t bl o h
  rw[e]at h1;exact .inr ⟨h,List.mem_of_getElem? h1,zbs (z3l o) h1⟩
theorem sp_no{t:Tab}{bl o:List Nat}{cur:Nat}(h:∀ x,x< (z0n (kB t bl) o).length→kB t bl ((z0n (kB t bl) o).getD x 0)≠kB t bl cur):SpF t bl o cur (z0n (kB t bl) o).length:=by
  refine .inl ⟨rfl,fun hk=>?_⟩;obtain⟨x,hx⟩:=List.getElem?_of_mem hk
  have hl:x< (z0n (kB t bl) o).length:=by rw[z1l];exact(List.getElem?_eq_some_iff.1 hx).1
  have h1:=zou t bl o hl
  rw[hx]at h1;exact h x hl (Option.some.inj h1).symm
theorem first_lt{t:Tab}{bl l:List Nat}{N:Nat}(h:∀ s∈l,s< N){j x:Nat}(hx:x< (z0n (kB t bl) (l.take j)).length):(z0n (kB t bl) (l.take j)).getD x 0< N:=
  h _ (List.mem_of_mem_take (z8c (getD_mem' hx)))
attribute [local irreducible] z0s z12 zl z02 z11 putB rt rzl cbK nxtL
noncomputable def gj4:Ctx:={ P:=Tryd.prog,ty:=ty,glob:=gl,fs:=[(172,.flat y19)] }
theorem z5d:gj4.OK:=⟨tyOK,⟨⟨z08 Tryd.func172 kR rfl,y1a⟩,trivial⟩,mixed⟩
@[simp] theorem gj4_ty:gj4.ty=ty:=rfl

def y1c:QSpec:=fun vs K=>∃ (t:Tab) (bl l:List Nat),vs=[rtV t,.c (.ds bl.length (.ints .i64 (natsI bl))),.c (.ds l.length (.ints .i64 (natsI l)))]∧(t.fit∧bl.length=t.next.length∧(∀ s∈l,s< t.next.length)∧l.length≤65535∧bl.length≤65535)∧K (.tup [.c (.ds bl.length (.ints .i64 (natsI (nxtL (tblT t) l bl l.length)))),.c (.ds (z0n (kB t bl) l).length (.ints .i64 (natsI (z0n (kB t bl) l))))])
theorem y1d:z1w Tryd.prog gl 166 y1c:=by
 refine z1c (Γ:=gj4) (N:=70) Tryd.func166 rfl rfl fun vs K h=>?_;obtain⟨t,bl,l,rfl,⟨ht,hbl,hl,hlm,hbm⟩,h⟩:=h;refine⟨_,h,(List.forall_mem_cons.2 ⟨trivial,(List.forall_mem_cons.2 ⟨trivial,fun _ h=>(by cases h)⟩)⟩),by simp,fun w I=>?_⟩
 have ht0:=ht
 obtain⟨hok,hlen,hnc⟩:=ht0
 have hcl:=hok.clen
 refine srR z5d fun _ K2=>?_
 iterate 3 refine z3z ?_
 refine s_n K2 ?_;refine leW [0] id [(1,.c (.ds bl.length (.ints .i64 (natsI bl)))),(2,.c (.ds l.length (.ints .i64 (natsI l)))),(3,.c (.dp (rtC t) 0))] [] 0 [] uJi_0 uJi_0 uJi_0 uJi_0 ?_;refine srR z5d fun _ K4=>?_
 iterate 4 refine z3z ?_
 refine s_n K4 ?_;refine srR z5d fun _ K6=>?_
 iterate 2 refine z3z ?_
 refine s_n K6 ?_;refine seq_k fun _ K7=>?_;refine srR z5d fun _ K9=>?_;refine z3z ?_;refine s_n K9 ?_;refine z07 ?_;refine z0q (α:=Nat×Nat) (fun i=>[(1,.c (.ds bl.length (.ints .i64 (natsI bl)))),(2,.c (.ds l.length (.ints .i64 (natsI l)))),(3,.c (.dp (rtC t) 0)),(8,.c (.slice 0 0 bl.length bl.length)),(9,.c (.slice 1 0 (z0n (kB t bl) (l.take i.1)).length i.2)),(10,.c (.int .i64 (i.1:Nat)))]) (fun i=>[(0,.own 3 (.ints .i64 (natsI (nxtL (tblT t) l bl i.1))) bl.length),(1,.own 3 (.ints .i64 (natsI (z0n (kB t bl) (l.take i.1)))) i.2)]) 2 (fun i=>i.1≤l.length∧(z0n (kB t bl) (l.take i.1)).length≤i.2) (fun i=>l.length - i.1) ?_ ?_
 ·have hX1:List.replicate bl.length (0:Int)=natsI (nxtL (tblT t) l bl 0):=by rw[znr];simp[natsI]
  refine dnS [] id (0,0) ⟨Nat.zero_le _,Nat.le_refl _⟩ [0,1] uJi_0 uJi_0 uJi_0 uJi_0
 ·intro i hi
  obtain⟨hi1,hi2⟩:=hi
  have hfl:(z0n (kB t bl) (l.take i.1)).length≤i.1:=by
   rw[z1l];exact Nat.le_trans (z3o _) (by rw[List.length_take];omega)
  have hnl:=z2v (tblT t) l bl i.1
  refine seq_k fun _ K10=>?_;refine srR z5d fun _ K12=>?_
  iterate 4 refine z3z ?_
  refine s_n K12 ?_;refine z09 (b:=_) rfl (fun h_t20=>?_) (fun h_t20=>?_)
  ·try simp only[dQ,reduceIte]at h_t20
   refine z0b ?_;apply K10;refine seq_k fun _ K13=>?_;refine z07 ?_;refine srR z5d fun _ K15=>?_
   iterate 3 refine z3z ?_
   refine s_n K15 ?_;refine z9s (α:=Nat) (fun y=>[(1,.c (.ds bl.length (.ints .i64 (natsI bl)))),(2,.c (.ds l.length (.ints .i64 (natsI l)))),(3,.c (.dp (rtC t) 0)),(8,.c (.slice 0 0 bl.length bl.length)),(9,.c (.slice 1 0 (z0n (kB t bl) (l.take i.1)).length i.2)),(10,.c (.int .i64 (i.1:Nat))),(11,.c (.int .i64 (y:Nat)))]) (fun y=>[(0,.own 3 (.ints .i64 (natsI (nxtL (tblT t) l bl i.1))) bl.length),(1,.own 3 (.ints .i64 (natsI (z0n (kB t bl) (l.take i.1)))) i.2)]) 2 (fun y=>SpF t bl (l.take i.1) (l.getD i.1 0) y) ?_ ?_
   ·refine srR z5d fun _ K17=>?_
    refine z3z ?_;refine s_n K17 ?_;refine z07 ?_;refine z0q (α:=Nat×Nat) (fun g=>[(1,.c (.ds bl.length (.ints .i64 (natsI bl)))),(2,.c (.ds l.length (.ints .i64 (natsI l)))),(3,.c (.dp (rtC t) 0)),(8,.c (.slice 0 0 bl.length bl.length)),(9,.c (.slice 1 0 (z0n (kB t bl) (l.take i.1)).length i.2)),(10,.c (.int .i64 (i.1:Nat))),(11,.c (.int .i64 (g.2:Nat))),(12,.c (.int .i64 (g.1:Nat)))]) (fun g=>[(0,.own 3 (.ints .i64 (natsI (nxtL (tblT t) l bl i.1))) bl.length),(1,.own 3 (.ints .i64 (natsI (z0n (kB t bl) (l.take i.1)))) i.2)]) 2 (fun g=>g.1≤(z0n (kB t bl) (l.take i.1)).length∧((g.2=(z0n (kB t bl) (l.take i.1)).length∧∀ x,x< g.1→kB t bl ((z0n (kB t bl) (l.take i.1)).getD x 0)≠kB t bl (l.getD i.1 0))∨(g.2< (z0n (kB t bl) (l.take i.1)).length∧kB t bl ((z0n (kB t bl) (l.take i.1)).getD g.2 0)=kB t bl (l.getD i.1 0)))) (fun g=>(z0n (kB t bl) (l.take i.1)).length - g.1) ?_ ?_
    ·refine dnS [] id (0,(z0n (kB t bl) (l.take i.1)).length) ⟨Nat.zero_le _,.inl ⟨rfl,fun x hx=>absurd hx (Nat.not_lt_zero x)⟩⟩ [0,1] uJi_0 uJi_0 uJi_0 uJi_0
    ·intro g hg
     obtain⟨hg1,hg2⟩:=hg;refine seq_k fun _ K18=>?_;refine srR z5d fun _ K20=>?_
     iterate 4 refine z3z ?_
     refine ziz ?_;refine exB (fun hb4=>?_) (fun hb4=>?_)
     ·try simp only[dQ,reduceIte]at hb4
      iterate 4 refine sXTJi_2 ?_
      refine z3z ?_;refine s_n K20 ?_;refine z09 (b:=_) rfl (fun h_t34=>?_) (fun h_t34=>?_)
      ·try simp only[dQ,reduceIte]at h_t34
       refine z0b ?_;apply K18;refine seq_k fun _ K21=>?_;refine z07 ?_
       have hgl:g.1< (z0n (kB t bl) (l.take i.1)).length:=by omega
       have hil:i.1< l.length:=by omega
       have hng:∀ x,x< g.1→kB t bl ((z0n (kB t bl) (l.take i.1)).getD x 0)≠kB t bl (l.getD i.1 0):=by
        rcases hg2 with⟨e1,e2⟩|⟨e1,e2⟩
        ·exact e2
        ·omega
       have hge:g.2=(z0n (kB t bl) (l.take i.1)).length:=by omega
       have hr1:=first_lt (t:=t) (bl:=bl) hl hgl
       have hr2:=hl _ (getD_mem' hil)
       refine srD z5d [(0,true),(1,true),(2,true),(3,true),(4,true),(5,true),(6,true),(7,true),(8,true),(9,true),(10,true),(11,false)] rfl kR kR fun _ K23=>?_;refine zmh ?_;refine exA (rtV t) (SV.as_refl _) ?_
       iterate 4 refine dXJi_3 ?_
       refine zmh ?_;refine exA (.c (.int .i64 ((((z0n (kB t bl) (l.take i.1)).getD g.1 0:Nat):Int)))) (as_i ((congrArg (fun ii=>(natsI (z0n (kB t bl) (l.take i.1))).getD ii 0) (by omega)).trans z0r)) ?_
       iterate 3 refine dXJi_3 ?_
       refine zmh ?_;refine exA (.c (.int .i64 ((((l.getD i.1 0):Nat):Int)))) (as_i ((congrArg (fun ii=>(natsI l).getD ii 0) (by omega)).trans z0r)) ?_;refine zmh ?_;refine exA (.agg (.ints .i64 [(((z0n (kB t bl) (l.take i.1)).getD g.1 0:Nat):Int),(((l.getD i.1 0):Nat):Int)])) (SV.as_refl _) ?_;refine gXEJi_7 ?_;refine aI (z33 t) ?_;refine z48 t ?_;refine⟨t,bl,(z0n (kB t bl) (l.take i.1)).getD g.1 0,(l.getD i.1 0),rfl,⟨ht,hbl,hr1,hr2⟩,?_⟩;refine DJi_0 ?_
       first|refine exI ?_|(intro cap11 hcap11;refine exI ?_)
       refine d_n K23 ?_;refine z09 (b:=_) rfl (fun h_t48=>?_) (fun h_t48=>?_)
       ·refine z06 z5d fun _ K24=>?_
        iterate 2 refine z3z ?_
        refine s_n K24 ?_;refine z0a ?_;apply K21;refine z06 z5d fun _ K25=>?_
        iterate 3 refine z3z ?_
        refine s_n K25 ?_
        have hke:kB t bl ((z0n (kB t bl) (l.take i.1)).getD g.1 0)=kB t bl (l.getD i.1 0):=by simpa using h_t48
        refine dnS [] id (g.1+1,g.1) ⟨⟨by show g.1+1≤_;omega,.inr ⟨hgl,hke⟩⟩,by show _ - (g.1+1)< _;omega⟩ [0,1] ?_ ?_ ?_ ?_
        ·exact uJi_0
        ·exact uJi_0
        ·exact uJi_0
        ·exact uJi_0
       ·refine z0b ?_;refine z0a ?_;apply K21;refine z06 z5d fun _ K26=>?_
        iterate 3 refine z3z ?_
        refine s_n K26 ?_
        have hke:¬ kB t bl ((z0n (kB t bl) (l.take i.1)).getD g.1 0)=kB t bl (l.getD i.1 0):=by simpa using h_t48
        refine dnS [] id (g.1+1,g.2) ⟨⟨by show g.1+1≤_;omega,.inl ⟨hge,fun x hx=>(Nat.lt_succ_iff_lt_or_eq.1 hx).elim (hng x) fun e=>by rw[e];exact hke⟩⟩,by show _ - (g.1+1)< _;omega⟩ [0,1] ?_ ?_ ?_ ?_
        ·exact uJi_0
        ·exact uJi_0
        ·exact uJi_0
        ·exact uJi_0
      ·try simp only[dQ,reduceIte]at h_t34
       refine z0o ?_;refine z01 ?_;refine z01 ?_;refine z0j ?_
       have hsp:SpF t bl (l.take i.1) (l.getD i.1 0) g.2:=by
        rcases hg2 with⟨e1,e2⟩|⟨e1,e2⟩
        ·rw[e1]
         exact sp_no fun x hx=>e2 x (by omega)
        ·exact sp_yes e1 e2
       refine dnS [] id g.2 hsp [0,1] uJi_0 uJi_0 uJi_0 uJi_0
     ·try simp only[dQ,reduceIte]at hb4
      iterate 4 refine sN ?_
      refine z3z ?_;refine s_n K20 ?_;refine z09 (b:=_) rfl (fun h_t34=>?_) (fun _=>?_)
      ·exfalso;simp at h_t34
      refine z0o ?_;refine z01 ?_;refine z01 ?_;refine z0j ?_
      have hsp:SpF t bl (l.take i.1) (l.getD i.1 0) g.2:=by
       rcases hg2 with⟨e1,e2⟩|⟨e1,e2⟩
       ·rw[e1]
        exact sp_no fun x hx=>e2 x (by omega)
       ·exact sp_yes e1 e2
      refine dnS [] id g.2 hsp [0,1] uJi_0 uJi_0 uJi_0 uJi_0
   ·intro y hy
    refine seq_k fun _ K27=>?_
    have hil:i.1< l.length:=by omega
    have hr2:=hl _ (getD_mem' hil)
    refine srR z5d fun _ K29=>?_
    iterate 4 refine z3z ?_
    refine s_n K29 ?_;refine z09 (b:=_) rfl (fun h_t53=>?_) (fun h_t53=>?_)
    ·try simp only[dQ,reduceIte]at h_t53
     obtain⟨hk2,hk1⟩:y=(z0n (kB t bl) (l.take i.1)).length∧kB t bl (l.getD i.1 0)∉keysO (kB t bl) (l.take i.1):=by
      rcases hy with hy|hy
      ·exact hy
      ·omega
     refine z06 z5d fun _ K30=>?_
     iterate 4 refine z3z ?_
     refine ziz ?_;refine exA (.c (.int .i64 ((((l.getD i.1 0):Nat):Int)))) (as_i ((congrArg (fun ii=>(natsI l).getD ii 0) (by omega)).trans z0r)) ?_;refine z3z ?_;refine ziz ?_;intro cap6 hcap6;refine exI ?_;refine z3z ?_;refine s_n K30 ?_;apply K27;refine z06 z5d fun _ K31=>?_
     iterate 4 refine z3z ?_
     refine ziz ?_;refine exA (.c (.int .i64 ((((l.getD i.1 0):Nat):Int)))) (as_i ((congrArg (fun ii=>(natsI l).getD ii 0) (by omega)).trans z0r)) ?_
     iterate 2 refine z3z ?_
     refine y1b ?_;refine s_n K31 ?_;refine z0a ?_;apply K13;refine z06 z5d fun _ K32=>?_
     iterate 3 refine z3z ?_
     refine s_n K32 ?_;obtain⟨hq1,hq2,hq3⟩:=ref_no t bl hil hk1
     have hS2:(natsI (nxtL (tblT t) l bl i.1)).set (0+(((l.getD i.1 0):Nat):Int).toNat*1) ((y:Nat):Int)=natsI (nxtL (tblT t) l bl (i.1+1)):=by
      rw[z8i,show 0+(((l.getD i.1 0):Nat):Int).toNat*1=(l.getD i.1 0) by omega, ←zcs hil,hq3,hk2]
     have hS3:natsI (z0n (kB t bl) (l.take i.1))++([]++[(((l.getD i.1 0):Nat):Int)])=natsI (z0n (kB t bl) (l.take (i.1+1))):=by rw[hq2,List.nil_append,z2r]
     have hL0:(z0n (kB t bl) (l.take i.1)).length+1=(z0n (kB t bl) (l.take (i.1+1))).length:=by rw[hq2,List.length_append];rfl
     refine dnS [] (fun i=>if i=1 then 3 else i) (i.1+1,cap6) ⟨⟨by show i.1+1≤_;omega,by show _≤cap6;rw[←hL0];omega⟩,by show _ - (i.1+1)< _;omega⟩ [0,3] ?_ ?_ ?_ ?_
     ·exact uJi_0
     ·exact uJi_0
     ·exact uJi_0
     ·exact uJi_0
    ·try simp only[dQ,reduceIte]at h_t53
     refine z0b ?_;apply K27;refine z06 z5d fun _ K33=>?_
     iterate 4 refine z3z ?_
     refine ziz ?_;refine exA (.c (.int .i64 ((((l.getD i.1 0):Nat):Int)))) (as_i ((congrArg (fun ii=>(natsI l).getD ii 0) (by omega)).trans z0r)) ?_
     iterate 2 refine z3z ?_
     refine y1b ?_;refine s_n K33 ?_;refine z0a ?_;apply K13;refine z06 z5d fun _ K34=>?_
     iterate 3 refine z3z ?_
     refine s_n K34 ?_
     obtain⟨hk1,hk2⟩:kB t bl (l.getD i.1 0)∈keysO (kB t bl) (l.take i.1)∧idxK (keysO (kB t bl) (l.take i.1)) (kB t bl (l.getD i.1 0))=y:=by
      rcases hy with hy|hy
      ·omega
      ·exact hy.2
     obtain⟨hq1,hq2,hq3⟩:=zyj t bl hil hk1
     have hS2:(natsI (nxtL (tblT t) l bl i.1)).set (0+(((l.getD i.1 0):Nat):Int).toNat*1) ((y:Nat):Int)=natsI (nxtL (tblT t) l bl (i.1+1)):=by
      rw[z8i,show 0+(((l.getD i.1 0):Nat):Int).toNat*1=(l.getD i.1 0) by omega, ←zcs hil,hq3,hk2]
     have hS3:natsI (z0n (kB t bl) (l.take i.1))=natsI (z0n (kB t bl) (l.take (i.1+1))):=by rw[hq2]
     have hL0:(z0n (kB t bl) (l.take i.1)).length=(z0n (kB t bl) (l.take (i.1+1))).length:=by rw[hq2]
     refine dnS [] id (i.1+1,i.2) ⟨⟨by show i.1+1≤_;omega,by show _≤i.2;rw[←hL0];omega⟩,by show _ - (i.1+1)< _;omega⟩ [0,1] ?_ ?_ ?_ ?_
     ·exact uJi_0
     ·exact uJi_0
     ·exact uJi_0
     ·exact uJi_0
  ·try simp only[dQ,reduceIte]at h_t20
   refine z0o ?_;refine z01 ?_;refine z01 ?_;refine z0j ?_;apply K7
   have hie:i.1=l.length:=by omega
   rw[show(z0n (kB t bl) (l.take i.1))=z0n (kB t bl) l by rw[hie,List.take_length]];rw[hie];refine srR z5d fun _ K36=>?_
   iterate 4 refine z3z ?_
   refine s_n K36 ?_;refine z0g (z0k z5d (fun _ _ h=>h) ((List.forall_mem_cons.2 ⟨trivial,(List.forall_mem_cons.2 ⟨trivial,fun _ h=>(by cases h)⟩)⟩)) [0,1] [.tmp 6,.tmp 7] rfl ?_)
   all_goals exact uJi_0


end Go.Proofs.YtppmnaoollkboaaDoor

namespace Go.Proofs.YtppmnaoollkboaaDoor
set_option linter.all false
open Go.Ab Go.RowKit

section
variable {a b:Prop}
theorem qJj0(h:a:=by first|exact vcA|(simp[-List.reduceReplicate]<;>omega)|exact vRh|(simp only[z0e];omega)|(simp only[z0v,z0e];omega)|(rw[z0e];omega)|(simp only[z17,z2c];omega)|(simp only[z0v,z0e,zar];omega)|exact vcB):a:=h
theorem uJj_0(h:a:=by
    repeat' (first|exact pJ|exact pT|exact trivial|refine aI ?_ ?_|exact cC0|refine low_cons' ?_ ?_|exact cC1|fail)
    all_goals first|omega|(show(0:Nat)< (rt _ _ _).length;rw[z05 hcl];decide)|(show Cont.low _ (Cont.cells (List.replicate 256 _++_));exact z3v)|exact hL0|(rw[z2v];done)|(rw[zar];done)|(show(_:List Int)=_;first|assumption|rfl)|(simp;done)|(show(0:Nat)< (z02 _ _ _ _).length;rw[z00 hcl];decide)|(simp[-List.reduceReplicate];done)|(simp[-List.reduceReplicate]<;>omega)|skip):a:=h
theorem DJj_0(kZ:b)(h:HidB b→a:=by intro kZ;(repeat first|refine aI qJj0 ?_|refine z04 qJj0 ?_|refine z03 qJj0 ?_|refine z0m qJj0 ?_|refine z0c ?_);exact kZ.out):a:=h ⟨kZ⟩
theorem z5m(kZ:b)(h:HidB b→a:=by intro kZ;refine sX ?_;refine DJj_0 ?_;refine exI ?_;exact kZ.out):a:=h ⟨kZ⟩
theorem sX0Jj_2(kZ:b)(h:HidB b→a:=by intro kZ;refine sX0 ?_;refine DJj_0 ?_;refine exI ?_;exact kZ.out):a:=h ⟨kZ⟩
theorem zaq(kZ:b)(h:HidB b→a:=by intro kZ;refine sX ?_;refine DJj_0 ?_;exact kZ.out):a:=h ⟨kZ⟩
end
open Go.Aut
def bA(t:Tab)(s:Nat):List Nat:=(List.range t.next.length).map fun i=>if i< s∧t.acc.getD i false=true then 1 else 0
@[simp] theorem zar(t:Tab)(s:Nat):(bA t s).length=t.next.length:=by simp[bA]
theorem bA_zero(t:Tab):natsI (bA t 0)=List.replicate t.next.length 0:=by
  have:bA t 0=List.replicate t.next.length 0:=by simp[bA,List.map_const']
  rw[this];simp[natsI]
theorem bA_yes{t:Tab}{s:Nat}(h:s< t.next.length)(ha:t.acc.getD s false=true):(bA t s).set s 1=bA t (s+1):=by
  refine z1z 0 (by simp) fun i hi=>?_
  have hi:i< t.next.length:=by simpa using hi
  rw[z1i (by simpa using hi),bA,bA,z0i hi,z0i hi]
  by_cases e:s=i
  · subst e;rw[if_pos rfl,if_pos ⟨by omega,ha⟩]
  · rw[if_neg e]
    by_cases h2:i< s∧t.acc.getD i false=true
    · rw[if_pos h2,if_pos ⟨by omega,h2.2⟩]
    · rw[if_neg h2,if_neg fun hh=>h2 ⟨by omega,hh.2⟩]
theorem bA_no{t:Tab}{s:Nat}(ha:t.acc.getD s false=false):bA t s=bA t (s+1):=by
  refine List.map_congr_left fun i _=>?_
  by_cases h2:i< s∧t.acc.getD i false=true
  · rw[if_pos h2,if_pos ⟨by omega,h2.2⟩]
  · rw[if_neg h2,if_neg fun hh=>h2 ⟨by
      have:i≠s:=fun e=>by rw[e,ha]at hh;cases hh.2
      omega,hh.2⟩]
theorem bA_blk{t:Tab}{l:List Nat}(hl:∀ s∈l,s< t.next.length):Blk (tblT t) l (bA t t.next.length) t.next.length 0:=by
  have hg:∀ s,s< t.next.length→(bA t t.next.length).getD s 0=if t.acc.getD s false=true then 1 else 0:=fun s hs=>by
    rw[bA,z0i hs]
    by_cases h2:t.acc.getD s false=true
    · rw[if_pos ⟨hs,h2⟩,if_pos h2]
    · rw[if_neg fun hh=>h2 hh.2,if_neg h2]
  have hv:∀ s,s∈l→blkF (bA t t.next.length) s=if t.acc.getD s false=true then 1 else 0:=fun s hs=>hg s (hl s hs)
  have hacc:∀ s q,s∈l→q∈l→blkF (bA t t.next.length) s=blkF (bA t t.next.length) q→t.acc.getD s false=t.acc.getD q false:=fun s q hs hq e=>by
    rw[hv s hs,hv q hq]at e
    cases a:t.acc.getD s false<;>cases b:t.acc.getD q false<;>rw[a,b]at e<;>first|rfl|simp at e
  refine⟨by simp,fun s q hs hq hne=>⟨[],Bytes.nil,fun e=>hne ?_⟩,hacc,fun x hx=>?_,fun h=>absurd h (Nat.lt_irrefl 0)⟩
  · have e:t.acc.getD s false=t.acc.getD q false:=e
    rw[hv s hs,hv q hq,e]
  · obtain⟨i,hi,rfl⟩:=List.mem_map.1 hx
    split<;>decide
open Classical in
theorem zvk{t:Tab}(ht:t.fit){l bl:List Nat}{c:Nat}(h:RefIn t l)(hb:Blk (tblT t) l bl t.next.length c)(hc:z2p (tblT t) l (blkF (nxtL (tblT t) l bl l.length))=z2p (tblT t) l (blkF bl)):
    nxtL (tblT t) l bl l.length=finL t l∧z0n (kB t bl) l=finR t l:=by
  have hcell:∀ b,b< 256→(tblT t).cell b< (tblT t).nc:=fun b hb=>(cellN ht.1 hb).1
  have h1:=zg1 hb h.lt h.len h.cl ht.1.byte
  have hpos:=zct (t:=tblT t) (l:=l) (bl:=bl) h.pos
  have e:∀ s,s∈l→blkF (nxtL (tblT t) l bl l.length) s=nextB (tblT t) l (blkF bl) s:=fun s hs=>zlc hs (by rw[hb.len];exact h.lt s hs)
  obtain⟨h2,h3⟩:=h1.on hpos
  have hst:∀ s q,s∈l→q∈l→blkF (nxtL (tblT t) l bl l.length) s=blkF (nxtL (tblT t) l bl l.length) q→(tblT t).acc s=(tblT t).acc q∧∀ c,c< (tblT t).nc→blkF (nxtL (tblT t) l bl l.length) ((tblT t).δ s c)=blkF (nxtL (tblT t) l bl l.length) ((tblT t).δ q c):=fun s q hs hq he=>
    ⟨h1.acc s q hs hq he,(zhk hs hq (znk (by rw[hc];exact h2) (by rw[hc];exact h3) hs hq he)).2⟩
  have key:∀ s q,s∈l→q∈l→(kB t bl s=kB t bl q↔keyL (tblT t) s=keyL (tblT t) q):=fun s q hs hq=>by
    rw[←z8a (key:=kB t bl) hs hq]
    have e1:idK (kB t bl) l s=blkF (nxtL (tblT t) l bl l.length) s:=(e s hs).symm
    have e2:idK (kB t bl) l q=blkF (nxtL (tblT t) l bl l.length) q:=(e q hq).symm
    rw[e1,e2]
    constructor
    · intro he
      exact z7t.2 fun w hw=>zbw hcell h.cl hst w s q hw hs hq he
    · intro he
      refine Classical.byContradiction fun hne=>?_;obtain⟨w,hw,hd⟩:=h1.snd s q hs hq hne;exact hd (z7t.1 he w hw)
  obtain⟨_,g2,g3⟩:=zo5 l key;refine⟨z1z 0 (by rw[z2v,z76,hb.len]) fun s hs=>?_,g3⟩
  have hs:s< t.next.length:=by rw[z2v,hb.len]at hs;exact hs
  rw[zcr (by rw[hb.len];exact hs),finL,z0i hs,List.take_length]
  by_cases hsl:s∈l
  · rw[if_pos hsl,if_pos hsl];exact g2 s hsl
  · rw[if_neg hsl,if_neg hsl]
attribute [local irreducible] z0s z12 zl z02 z11 putB rt rzl cbK nxtL bA
noncomputable def gj5:Ctx:={ P:=Tryd.prog,ty:=ty,glob:=gl,fs:=[(166,.data y1c)] }
theorem z7c:gj5.OK:=⟨tyOK,⟨⟨z08 Tryd.func166 kR rfl,y1d⟩,trivial⟩,mixed⟩
@[simp] theorem gj5_ty:gj5.ty=ty:=rfl

def ztz:QSpec:=fun vs K=>∃ (t:Tab) (l:List Nat),vs=[rtV t,.c (.ds l.length (.ints .i64 (natsI l)))]∧t.fit∧RefIn t l∧K (.tup [.c (.ds (finL t l).length (.ints .i64 (natsI (finL t l)))),.c (.ds (finR t l).length (.ints .i64 (natsI (finR t l))))])
theorem zvl:z1w Tryd.prog gl 147 ztz:=by
 refine z1c (Γ:=gj5) (N:=53) Tryd.func147 rfl rfl fun vs K h=>?_;obtain⟨t,l,rfl,ht,hlr,h⟩:=h;refine⟨_,h,(List.forall_mem_cons.2 ⟨trivial,(List.forall_mem_cons.2 ⟨trivial,fun _ h=>(by cases h)⟩)⟩),by simp,fun w I=>?_⟩
 have ht0:=ht
 obtain⟨hok,hlen,hnc⟩:=ht0
 have hcl:=hok.clen
 refine srR z7c fun _ K2=>?_
 iterate 3 refine z5m ?_
 refine s_n K2 ?_;refine leW [0] id [(1,.c (.ds l.length (.ints .i64 (natsI l)))),(2,.c (.dp (rtC t) 0))] [] 0 [] uJj_0 uJj_0 uJj_0 uJj_0 ?_;refine srR z7c fun _ K4=>?_;refine z5m ?_;refine zaq ?_;refine exA (.c (.ds t.next.length (.cells (rowsC t.next)))) (as_c (rt_nx hcl)) ?_
 iterate 3 refine z5m ?_
 refine s_n K4 ?_;refine seq_k fun _ K5=>?_
 have hX1:List.replicate t.next.length (0:Int)=natsI (bA t 0):=(bA_zero t).symm
 refine leW [] id [(1,.c (.ds l.length (.ints .i64 (natsI l)))),(2,.c (.dp (rtC t) 0)),(6,.c (.slice 0 0 t.next.length t.next.length))] [(0,.own 3 (.ints .i64 (natsI (bA t 0))) t.next.length)] 1 [0] uJj_0 uJj_0 uJj_0 uJj_0 ?_;refine srR z7c fun _ K7=>?_;refine z5m ?_;refine s_n K7 ?_;refine z07 ?_;refine z0q (α:=Nat) (fun s=>[(1,.c (.ds l.length (.ints .i64 (natsI l)))),(2,.c (.dp (rtC t) 0)),(6,.c (.slice 0 0 t.next.length t.next.length)),(7,.c (.int .i64 (s:Nat)))]) (fun s=>[(0,.own 3 (.ints .i64 (natsI (bA t s))) t.next.length)]) 1 (fun s=>s≤t.next.length) (fun s=>t.next.length - s) ?_ ?_
 ·refine dnS [] id 0 (Nat.zero_le _) [0] uJj_0 uJj_0 uJj_0 uJj_0
 ·intro s hs
  have hbl:=zar t s
  refine seq_k fun _ K8=>?_;refine srR z7c fun _ K10=>?_
  iterate 2 refine z5m ?_
  refine zaq ?_;refine exA (.c (.ds t.next.length (.cells (rowsC t.next)))) (as_c (rt_nx hcl)) ?_
  iterate 2 refine z5m ?_
  refine s_n K10 ?_;refine z09 (b:=_) rfl (fun h_t19=>?_) (fun h_t19=>?_)
  ·try simp only[dQ,reduceIte]at h_t19
   refine z0b ?_;apply K8;refine seq_k fun _ K11=>?_;refine z07 ?_
   have hsn:s< t.next.length:=by omega
   have hal:=hok.alen
   refine srR z7c fun _ K13=>?_;refine z5m ?_;refine zaq ?_;refine exA (.c (.ds t.acc.length (.bools t.acc))) (as_c (rt_ac hcl)) ?_
   iterate 2 refine z5m ?_
   refine zaq ?_;refine exA (.c (.bool (t.acc.getD s false))) (as_b (congrArg (fun i=>t.acc.getD i false) (by omega))) ?_;refine s_n K13 ?_;refine z09 (b:=_) rfl (fun h_t26=>?_) (fun h_t26=>?_)
   ·refine z06 z7c fun _ K14=>?_
    iterate 3 refine z5m ?_
    refine sX0Jj_2 ?_;refine s_n K14 ?_;refine z0a ?_;apply K11;refine z06 z7c fun _ K15=>?_
    iterate 3 refine z5m ?_
    refine s_n K15 ?_
    have hS2:(natsI (bA t s)).set (0+((s:Nat):Int).toNat*1) 1=natsI (bA t (s+1)):=by
     rw[show(1:Int)=((1:Nat):Int) from rfl,z8i,show 0+((s:Nat):Int).toNat*1=s by omega,bA_yes hsn (by simpa using h_t26)]
    refine dnS [] id (s+1) ⟨by omega,by omega⟩ [0] uJj_0 uJj_0 uJj_0 uJj_0
   ·refine z0b ?_;refine z0a ?_;apply K11;refine z06 z7c fun _ K16=>?_
    iterate 3 refine z5m ?_
    refine s_n K16 ?_
    have hS2:natsI (bA t s)=natsI (bA t (s+1)):=by rw[bA_no (by simpa using h_t26)]
    refine dnS [] id (s+1) ⟨by omega,by omega⟩ [0] uJj_0 uJj_0 uJj_0 uJj_0
  ·try simp only[dQ,reduceIte]at h_t19
   refine z0o ?_;refine z01 ?_;refine z01 ?_;refine z0j ?_;apply K5
   have hse:s=t.next.length:=by omega
   rw[hse];refine leW [0] id [(1,.c (.ds l.length (.ints .i64 (natsI l)))),(2,.c (.dp (rtC t) 0)),(6,.c (.ds (bA t t.next.length).length (.ints .i64 (natsI (bA t t.next.length)))))] [] 0 [] uJj_0 uJj_0 uJj_0 uJj_0 ?_;refine srR z7c fun _ K18=>?_;refine zaq ?_;refine exA (rtV t) (SV.as_refl _) ?_
   iterate 2 refine z5m ?_
   refine zaq ?_;refine aI (z33 t) ?_;refine z48 t ?_;refine⟨t,bA t t.next.length,l,rfl,⟨ht,zar t _,hlr.lt,hlr.len,(by rw[zar];exact hlen)⟩,?_⟩
   simp only[z6o]
   refine DJj_0 ?_
   first|refine exI ?_|(intro cap3 hcap3;refine exI ?_)
   iterate 5 refine z5m ?_
   refine s_n K18 ?_;refine z07 ?_;refine z0q (α:=List Nat×Nat) (fun g=>[(1,.c (.ds l.length (.ints .i64 (natsI l)))),(2,.c (.dp (rtC t) 0)),(6,.c (.ds (nxtL (tblT t) l g.1 l.length).length (.ints .i64 (natsI (nxtL (tblT t) l g.1 l.length))))),(8,.c (.ds (z0n (kB t g.1) l).length (.ints .i64 (natsI (z0n (kB t g.1) l)))))]) (fun g=>[]) 0 (fun g=>Blk (tblT t) l g.1 t.next.length g.2) (fun g=>l.length+1 - z2p (tblT t) l (blkF g.1)) ?_ ?_
   ·refine dnS [] id (bA t t.next.length,0) (bA_blk hlr.lt) [] uJj_0 uJj_0 uJj_0 uJj_0
   ·intro g hb
    obtain⟨bl,c⟩:=g
    have hb:Blk (tblT t) l bl t.next.length c:=hb
    show WP _ _ _ _ _ _ _ _
    refine z07 ?_;refine srR z7c fun _ K20=>?_;refine zaq ?_;refine exA (rtV t) (SV.as_refl _) ?_
    iterate 2 refine z5m ?_
    refine zaq ?_;refine aI (z33 t) ?_;refine z48 t ?_;refine⟨t,nxtL (tblT t) l bl l.length,l,rfl,⟨ht,(by rw[z2v];exact hb.len),hlr.lt,hlr.len,(by rw[z2v,hb.len];exact hlen)⟩,?_⟩
    simp only[z6o]
    refine DJj_0 ?_
    first|refine exI ?_|(intro cap3 hcap3;refine exI ?_)
    iterate 5 refine z5m ?_
    refine s_n K20 ?_;refine seq_k fun _ K21=>?_;refine srR z7c fun _ K23=>?_
    iterate 5 refine z5m ?_
    refine s_n K23 ?_;refine z09 (b:=_) rfl (fun h_t48=>?_) (fun h_t48=>?_)
    ·have hce:z2p (tblT t) l (blkF (nxtL (tblT t) l bl l.length))=z2p (tblT t) l (blkF bl):=by
      have h9:=of_decide_eq_true h_t48
      have h8:(z0n (kB t (nxtL (tblT t) l bl l.length)) l).length=(z0n (kB t bl) l).length:=by omega
      rw[z1l,z1l]at h8;exact h8
     obtain⟨hf1,hf2⟩:=zvk ht hlr hb hce;refine srR z7c fun _ K25=>?_
     iterate 4 refine z5m ?_
     refine s_n K25 ?_;rw[hf1,hf2]
     have hfl2:=z76 t l
     have hbl9:=hb.len
     refine z0g (z0k z7c (fun _ _ h=>h) ((List.forall_mem_cons.2 ⟨trivial,(List.forall_mem_cons.2 ⟨trivial,fun _ h=>(by cases h)⟩)⟩)) [] [.tmp 4,.tmp 5] rfl ?_)
     all_goals exact uJj_0
    ·have hne:z2p (tblT t) l (blkF (nxtL (tblT t) l bl l.length))≠z2p (tblT t) l (blkF bl):=fun h9=>by
      have h8:=of_decide_eq_false h_t48
      have h7:(z0n (kB t (nxtL (tblT t) l bl l.length)) l).length=(z0n (kB t bl) l).length:=by rw[z1l,z1l];exact h9
      omega
     refine z0b ?_;apply K21;refine srR z7c fun _ K27=>?_
     iterate 2 refine z5m ?_
     refine s_n K27 ?_;refine z06 z7c fun _ K28=>?_
     iterate 2 refine z5m ?_
     refine s_n K28 ?_;refine z0a ?_
     have hnx:=zg1 hb hlr.lt hlr.len hlr.cl hok.byte
     have hcp:=zct (t:=tblT t) (l:=l) (bl:=bl) hlr.pos
     have hcl2:=zsf (t:=tblT t) (l:=l) (bl:=(nxtL (tblT t) l bl l.length))
     have hcm:=zns hnx hcp
     have hne9:z2p (tblT t) l (blkF (nxtL (tblT t) l bl l.length))≠z2p (tblT t) l (blkF bl):=hne
     refine dnS [] id ((nxtL (tblT t) l bl l.length),z2p (tblT t) l (blkF bl)) ⟨hnx,by show _+1 - z2p (tblT t) l (blkF (nxtL (tblT t) l bl l.length))< _+1 - z2p (tblT t) l (blkF bl);omega⟩ [] ?_ ?_ ?_ ?_
     ·exact uJj_0
     ·exact uJj_0
     ·exact uJj_0
     ·exact uJj_0


end Go.Proofs.YtppmnaoollkboaaDoor
