/- Contracts of functions and plain facts, part 19. -/
import Derived.Test.YtppmnaoollkboaaDoorQq
import Derived.Test.YtppmnaoollkboaaDoorQd
set_option maxHeartbeats 2000000
set_option maxRecDepth 4000
namespace Go.Proofs.YtppmnaoollkboaaDoor
set_option linter.all false
open Go.Ab Go.RowKit

section
variable {a b:Prop}
theorem qJh0(h:a:=by first|exact vcA|(simp[-List.reduceReplicate]<;>omega)|exact vRh|(simp only[z0n];omega)|(simp only[z10,z0n];omega)|(rw[z0n];omega)|(simp only[z1p,z5j];omega)|exact vcB):a:=h
theorem qJh1(h:a:=by first|exact vcA|(simp[-List.reduceReplicate]<;>omega)|exact vRh|(simp only[z0n];omega)|(simp only[z10,z0n];omega)|(rw[z0n];omega)|(simp only[z1p,z5j];omega)|(simp;omega)|exact vcB):a:=h
theorem uJh_0(h:a:=by
    repeat' (first|exact pJ|exact pT|exact trivial|refine aI ?_ ?_|exact cC0|refine low_cons' ?_ ?_|exact cC1|fail)
    all_goals first|omega|(show(0:Nat)< (rt _ _ _).length;rw[z02 hcl];decide)|(show Cont.low _ (Cont.cells (List.replicate 256 _++_));exact z5a)|exact hL0|exact hL|(show(_:List Bool)=_;first|exact hS1|rfl)|(show(_:List Int)=_;first|exact hS2|rfl)|(simp;done)|(show(0:Nat)< (z08 _ _ _ _).length;rw[z06 hcl];decide)|(simp[-List.reduceReplicate];done)|(simp[-List.reduceReplicate]<;>omega)|skip):a:=h
theorem uJh_1(h:a:=by
    repeat' (first|exact pJ|exact pT|exact trivial|refine aI ?_ ?_|exact cC0|refine low_cons' ?_ ?_|exact cC1|fail)
    all_goals first|omega|(show(0:Nat)< (rt _ _ _).length;rw[z02 hcl];decide)|(show Cont.low _ (Cont.cells (List.replicate 256 _++_));exact z5a)|(simp;done)|(show(0:Nat)< (z08 _ _ _ _).length;rw[z06 hcl];decide)|(simp[-List.reduceReplicate];done)|(simp[-List.reduceReplicate]<;>omega)|skip):a:=h
theorem DJh_0(kZ:b)(h:HidB b→a:=by intro kZ;(repeat first|refine aI qJh0 ?_|refine z0a qJh0 ?_|refine z07 qJh0 ?_|refine z0l qJh0 ?_|refine z0c ?_);exact kZ.out):a:=h ⟨kZ⟩
theorem z2o(kZ:b)(h:HidB b→a:=by intro kZ;refine sX ?_;refine DJh_0 ?_;refine exI ?_;exact kZ.out):a:=h ⟨kZ⟩
theorem DJh_2(kZ:b)(h:HidB b→a:=by intro kZ;(repeat first|refine aI qJh1 ?_|refine z0a qJh1 ?_|refine z07 qJh1 ?_|refine z0l qJh1 ?_|refine z0c ?_);exact kZ.out):a:=h ⟨kZ⟩
theorem sXJh_3(kZ:b)(h:HidB b→a:=by intro kZ;refine sX ?_;refine DJh_2 ?_;refine exI ?_;exact kZ.out):a:=h ⟨kZ⟩
theorem sX0Jh_4(kZ:b)(h:HidB b→a:=by intro kZ;refine sX0 ?_;refine DJh_2 ?_;refine exI ?_;exact kZ.out):a:=h ⟨kZ⟩
theorem z4i(kZ:b)(h:HidB b→a:=by intro kZ;refine qX ?_;refine DJh_0 ?_;refine exI ?_;exact kZ.out):a:=h ⟨kZ⟩
theorem sX0Jh_6(kZ:b)(h:HidB b→a:=by intro kZ;refine sX0 ?_;refine DJh_0 ?_;refine exI ?_;exact kZ.out):a:=h ⟨kZ⟩
theorem z8d(kZ:b)(h:HidB b→a:=by intro kZ;refine sX ?_;refine DJh_0 ?_;exact kZ.out):a:=h ⟨kZ⟩
theorem z3m(kZ:b)(h:HidB b→a:=by intro kZ;refine qX ?_;refine DJh_0 ?_;exact kZ.out):a:=h ⟨kZ⟩
end
open Go.Aut
attribute [local irreducible] z0o z0y zl z08 z0v putB rt rzl cbK
def zn5:QSpec:=fun vs K=>∃ t:Tab,vs=[rtV t]∧t.fit∧K (.c (.ds (z36 (tblT t)).length (.ints .i64 (natsI (z36 (tblT t))))))
theorem zpl:z1x Tryd.prog gl 148 zn5:=by
 refine z1c (Γ:=g0) (N:=57) Tryd.func148 rfl rfl fun vs K h=>?_;obtain⟨t,rfl,ht,h⟩:=h;refine⟨_,h,trivial,by simp,fun w I=>?_⟩
 have ht0:=ht
 obtain⟨hok,hlen,hnc⟩:=ht0
 have hcl:=hok.clen
 refine srR g0_ok fun _ K2=>?_
 iterate 2 refine z2o ?_
 refine s_n K2 ?_;refine leW [0] id [(1,.c (.dp (rtC t) 0))] [] 0 [] uJh_0 uJh_0 uJh_0 uJh_0 ?_;refine srR g0_ok fun _ K4=>?_;refine z2o ?_;refine z8d ?_;refine exA (.c (.ds t.next.length (.cells (rowsC t.next)))) (as_c (rt_nx hcl)) ?_
 iterate 3 refine z2o ?_
 refine s_n K4 ?_
 have hnp:=hok.npos
 refine leW [] id [(1,.c (.dp (rtC t) 0)),(3,.c (.slice 0 0 t.next.length t.next.length))] [(0,.own 4 (.bools (List.replicate t.next.length false)) t.next.length)] 1 [0] uJh_0 uJh_0 uJh_0 uJh_0 ?_;refine srR g0_ok fun _ K6=>?_
 iterate 2 refine sXJh_3 ?_
 refine sX0Jh_4 ?_;refine s_n K6 ?_;refine srR g0_ok fun _ K8=>?_
 iterate 2 refine z2o ?_
 refine s_n K8 ?_;refine seq_k fun _ K9=>?_;refine srR g0_ok fun _ K11=>?_;refine z2o ?_;refine s_n K11 ?_;refine z03 ?_;refine z0m (α:=Nat×Nat) (fun s=>[(1,.c (.dp (rtC t) 0)),(3,.c (.slice 0 0 t.next.length t.next.length)),(4,.c (.slice 1 0 ((ordO (tblT t).δ t.nc 0 (s.1*t.nc))).length s.2)),(5,.c (.int .i64 ((s.1:Nat):Int)))]) (fun s=>[(0,.own 4 (.bools (seenB (ordO (tblT t).δ t.nc 0 (s.1*t.nc)) t.next.length)) t.next.length),(1,.own 3 (.ints .i64 (natsI (ordO (tblT t).δ t.nc 0 (s.1*t.nc)))) s.2)]) 2 (fun s=>s.1≤t.next.length∧(∀ j,j< s.1→j< (ordO (tblT t).δ t.nc 0 (j*t.nc)).length)∧s.1≤(ordO (tblT t).δ t.nc 0 (s.1*t.nc)).length∧(ordO (tblT t).δ t.nc 0 (s.1*t.nc)).length≤s.2) (fun s=>t.next.length - s.1) ?_ ?_
 ·have hz:(ordO (tblT t).δ t.nc 0 (0*t.nc))=[0]:=by rw[Nat.zero_mul];rfl
  have hS1:(List.replicate t.next.length false).set 0 true=seenB (ordO (tblT t).δ t.nc 0 (0*t.nc)) t.next.length:=by rw[hz];exact zhu _
  have hS2:([]++[0]:List Int)=natsI (ordO (tblT t).δ t.nc 0 (0*t.nc)):=by rw[hz];rfl
  have hL0:1=(ordO (tblT t).δ t.nc 0 (0*t.nc)).length:=by rw[hz];rfl
  refine dnS [] id (0,1) ⟨Nat.zero_le _,fun j hj=>absurd hj (Nat.not_lt_zero j),Nat.zero_le _,by rw[hz];exact Nat.le_refl _⟩ [0,1] ?_ ?_ ?_ ?_
  ·exact uJh_0
  ·exact uJh_0
  ·exact uJh_0
  ·exact uJh_0
 ·intro s hs
  have hs3:=hs.2.2.1
  have hs4:=hs.2.2.2
  have hs1:=hs.1
  refine seq_k fun _ K12=>?_;refine srR g0_ok fun _ K14=>?_
  iterate 4 refine z2o ?_
  refine s_n K14 ?_;refine z04 (b:=_) rfl (fun h_t18=>?_) (fun h_t18=>?_)
  ·try simp only[dQ,reduceIte]at h_t18
   refine z09 ?_;apply K12;refine seq_k fun _ K15=>?_;refine z03 ?_
   have hi:s.1< (ordO (tblT t).δ t.nc 0 (s.1*t.nc)).length:=by omega
   have hsi:=zhp hok _ _ (getD_mem' hi)
   have hrl:=z8z hok hsi
   have hole:=zr6 hok (s.1*t.nc)
   refine srQ g0_ok kR fun _ K17=>?_;refine z4i ?_;refine z3m ?_;refine exA (.c (.ds t.next.length (.cells (rowsC t.next)))) (as_c (rt_nx hcl)) ?_
   iterate 3 refine z4i ?_
   refine z3m ?_;refine exA (.c (.int .i64 (((((ordO (tblT t).δ t.nc 0 (s.1*t.nc)).getD s.1 0):Nat):Int)))) (as_i ((congrArg (fun i=>(natsI (ordO (tblT t).δ t.nc 0 (s.1*t.nc))).getD i 0) (by omega)).trans z0q)) ?_;refine z4i ?_;refine z3m ?_;refine exA (.c (.ds (t.next.getD ((ordO (tblT t).δ t.nc 0 (s.1*t.nc)).getD s.1 0) []).length (.ints .i64 (t.next.getD ((ordO (tblT t).δ t.nc 0 (s.1*t.nc)).getD s.1 0) [])))) (as_c (z6e ⟨hsi,by omega⟩)) ?_;refine z4i ?_;refine q_n K17 ?_;refine srR g0_ok fun _ K19=>?_;refine z2o ?_;refine s_n K19 ?_;refine z03 ?_;refine z0m (α:=Nat×Nat) (fun k=>[(1,.c (.dp (rtC t) 0)),(3,.c (.slice 0 0 t.next.length t.next.length)),(4,.c (.slice 1 0 ((ordO (tblT t).δ t.nc 0 (s.1*t.nc+k.1))).length k.2)),(5,.c (.int .i64 ((s.1:Nat):Int))),(6,.c (.ds (t.next.getD ((ordO (tblT t).δ t.nc 0 (s.1*t.nc)).getD s.1 0) []).length (.ints .i64 (t.next.getD ((ordO (tblT t).δ t.nc 0 (s.1*t.nc)).getD s.1 0) [])))),(7,.c (.int .i64 (k.1:Nat)))]) (fun k=>[(0,.own 4 (.bools (seenB (ordO (tblT t).δ t.nc 0 (s.1*t.nc+k.1)) t.next.length)) t.next.length),(1,.own 3 (.ints .i64 (natsI (ordO (tblT t).δ t.nc 0 (s.1*t.nc+k.1)))) k.2)]) 2 (fun k=>k.1≤t.nc∧(ordO (tblT t).δ t.nc 0 (s.1*t.nc+k.1)).length≤k.2) (fun k=>t.nc - k.1) ?_ ?_
   ·refine dnS [] id (0,s.2) ⟨Nat.zero_le _,hs4⟩ [0,1] uJh_0 uJh_0 uJh_0 uJh_0
   ·intro k hk
    have hk2:=hk.2
    have hk1:=hk.1
    refine seq_k fun _ K20=>?_;refine srR g0_ok fun _ K22=>?_
    iterate 4 refine z2o ?_
    refine s_n K22 ?_;refine z04 (b:=_) rfl (fun h_t32=>?_) (fun h_t32=>?_)
    ·try simp only[dQ,reduceIte]at h_t32
     refine z09 ?_;apply K20;refine seq_k fun _ K23=>?_;refine z03 ?_
     have hk:k.1< t.nc:=by omega
     have hx:=nextN hok hsi hk
     have hat:=zlx (f:=(tblT t).δ) (b0:=0) hi (Nat.le_add_right (s.1*t.nc) k.1)
     have hst:=zbn (f:=(tblT t).δ) (b0:=0) (i:=s.1) hk
     rw[hat]at hst
     have hol:=zr6 hok (s.1*t.nc+k.1)
     refine srR g0_ok fun _ K25=>?_
     iterate 4 refine z2o ?_
     refine z8d ?_;refine exA (.c (.int .i64 (((((tblT t).δ ((ordO (tblT t).δ t.nc 0 (s.1*t.nc)).getD s.1 0) k.1):Nat):Int)))) (as_i ((congrArg (fun i=>(t.next.getD ((ordO (tblT t).δ t.nc 0 (s.1*t.nc)).getD s.1 0) []).getD i 0) (by omega)).trans hx.2)) ?_;refine z2o ?_;refine z8d ?_;refine exA (.c (.bool (decide (((tblT t).δ ((ordO (tblT t).δ t.nc 0 (s.1*t.nc)).getD s.1 0) k.1)∈(ordO (tblT t).δ t.nc 0 (s.1*t.nc+k.1)))))) (as_b (by rw[←zbm hx.1];congr 1;omega)) ?_;refine z2o ?_;refine s_n K25 ?_;refine z04 (b:=_) rfl (fun h_t42=>?_) (fun h_t42=>?_)
     ·refine srR g0_ok fun _ K27=>?_
      iterate 4 refine z2o ?_
      refine z8d ?_;refine exA (.c (.int .i64 (((((tblT t).δ ((ordO (tblT t).δ t.nc 0 (s.1*t.nc)).getD s.1 0) k.1):Nat):Int)))) (as_i ((congrArg (fun i=>(t.next.getD ((ordO (tblT t).δ t.nc 0 (s.1*t.nc)).getD s.1 0) []).getD i 0) (by omega)).trans hx.2)) ?_;refine z2o ?_;refine sX0Jh_6 ?_;refine s_n K27 ?_;refine z01 g0_ok fun _ K28=>?_
      iterate 4 refine z2o ?_
      refine z8d ?_;refine exA (.c (.int .i64 (((((tblT t).δ ((ordO (tblT t).δ t.nc 0 (s.1*t.nc)).getD s.1 0) k.1):Nat):Int)))) (as_i ((congrArg (fun i=>(t.next.getD ((ordO (tblT t).δ t.nc 0 (s.1*t.nc)).getD s.1 0) []).getD i 0) (by omega)).trans hx.2)) ?_;refine z2o ?_;refine z8d ?_;intro cap6 hcap6;refine exI ?_;refine z2o ?_;refine s_n K28 ?_;refine z05 ?_;apply K23;refine z01 g0_ok fun _ K29=>?_
      iterate 3 refine z2o ?_
      refine s_n K29 ?_
      have hno:((tblT t).δ ((ordO (tblT t).δ t.nc 0 (s.1*t.nc)).getD s.1 0) k.1)∉(ordO (tblT t).δ t.nc 0 (s.1*t.nc+k.1)):=by simpa using h_t42
      rw[addC,if_neg hno]at hst
      have hS1:(seenB (ordO (tblT t).δ t.nc 0 (s.1*t.nc+k.1)) t.next.length).set (0+((((tblT t).δ ((ordO (tblT t).δ t.nc 0 (s.1*t.nc)).getD s.1 0) k.1):Nat):Int).toNat*1) true=seenB (ordO (tblT t).δ t.nc 0 (s.1*t.nc+(k.1+1))) t.next.length:=by rw[←Nat.add_assoc,hst, ←zg2];congr 1;omega
      have hS2:natsI (ordO (tblT t).δ t.nc 0 (s.1*t.nc+k.1))++([]++[((((tblT t).δ ((ordO (tblT t).δ t.nc 0 (s.1*t.nc)).getD s.1 0) k.1):Nat):Int)])=natsI (ordO (tblT t).δ t.nc 0 (s.1*t.nc+(k.1+1))):=by rw[←Nat.add_assoc,hst,List.nil_append,z39]
      have hL:(ordO (tblT t).δ t.nc 0 (s.1*t.nc+(k.1+1))).length=(ordO (tblT t).δ t.nc 0 (s.1*t.nc+k.1)).length+1:=by rw[←Nat.add_assoc,hst,List.length_append];rfl
      have hL0:(ordO (tblT t).δ t.nc 0 (s.1*t.nc+k.1)).length+1=(ordO (tblT t).δ t.nc 0 (s.1*t.nc+(k.1+1))).length:=hL.symm
      refine dnS [] (fun i=>if i=0 then 0 else 3) (k.1+1,cap6) ⟨⟨by show k.1+1≤_;omega,by show _≤cap6;rw[hL];omega⟩,by show _ - (k.1+1)< _;omega⟩ [0,3] ?_ ?_ ?_ ?_
      ·exact uJh_0
      ·exact uJh_0
      ·exact uJh_0
      ·exact uJh_0
     ·refine z09 ?_;refine z05 ?_;apply K23;refine z01 g0_ok fun _ K30=>?_
      iterate 3 refine z2o ?_
      refine s_n K30 ?_
      have hin:((tblT t).δ ((ordO (tblT t).δ t.nc 0 (s.1*t.nc)).getD s.1 0) k.1)∈(ordO (tblT t).δ t.nc 0 (s.1*t.nc+k.1)):=by simpa using h_t42
      rw[addC,if_pos hin]at hst;rw[←hst];rw[←hst]at hk2;refine dnS [] id (k.1+1,k.2) ⟨⟨by show k.1+1≤_;omega,hk2⟩,by show _ - (k.1+1)< _;omega⟩ [0,1] ?_ ?_ ?_ ?_
      ·exact uJh_0
      ·exact uJh_0
      ·exact uJh_0
      ·exact uJh_0
    ·try simp only[dQ,reduceIte]at h_t32
     refine z0i ?_;refine z00 ?_;refine z00 ?_;refine z0f ?_;refine z05 ?_;apply K15;refine z01 g0_ok fun _ K31=>?_
     iterate 3 refine z2o ?_
     refine s_n K31 ?_
     have hke:k.1=t.nc:=by omega
     have hpe:s.1*t.nc+k.1=(s.1+1)*t.nc:=by rw[hke,Nat.succ_mul]
     rw[hpe];rw[hpe]at hk2
     have hlen2:=z2k (f:=(tblT t).δ) (nc:=t.nc) (b0:=0) (p:=s.1*t.nc) (q:=(s.1+1)*t.nc) (Nat.mul_le_mul_right _ (by omega))
     have hah:∀ j,j< s.1+1→j< (ordO (tblT t).δ t.nc 0 (j*t.nc)).length:=fun j hj=>by
      rcases Nat.lt_or_ge j s.1 with h1|h1
      ·exact hs.2.1 j h1
      ·obtain rfl:j=s.1:=by omega
       exact hi
     refine dnS [] id (s.1+1,k.2) ⟨⟨by show s.1+1≤_;omega,hah,(by show s.1+1≤(ordO (tblT t).δ t.nc 0 ((s.1+1)*t.nc)).length;omega),hk2⟩,by show _ - (s.1+1)< _;omega⟩ [0,1] ?_ ?_ ?_ ?_
     ·exact uJh_0
     ·exact uJh_0
     ·exact uJh_0
     ·exact uJh_0
  ·try simp only[dQ,reduceIte]at h_t18
   refine z0i ?_;refine z00 ?_;refine z00 ?_;refine z0f ?_;apply K9
   have hcl2:=zbo (Tab.nc_pos hok) hs.2.1 (by omega)
   have hre:z36 (tblT t)=(ordO (tblT t).δ t.nc 0 (s.1*t.nc)):=by rw[z36,zgf (show z1t (tblT t).δ (tblT t).nc 0 s.1 from hcl2)];rfl
   refine srR g0_ok fun _ K33=>?_
   iterate 2 refine z2o ?_
   refine s_n K33 ?_
   try rw[hre]
   refine z0e (z0g g0_ok (fun _ _ h=>h) (by trivial) [1] [.tmp 2] rfl ?_)
   all_goals exact uJh_0

def zyx:QSpec:=fun vs K=>∃ (t:Tab) (bl:List Nat) (s q:Nat),vs=[rtV t,.c (.ds bl.length (.ints .i64 (natsI bl))),.agg (.ints .i64 [((s:Nat):Int),((q:Nat):Int)])]∧(t.fit∧bl.length=t.next.length∧s< t.next.length∧q< t.next.length)∧K (.c (.bool (decide (kB t bl s=kB t bl q))))
theorem zyy:z1s Tryd.prog gl 172 zyx:=by
 refine z1r (Γ:=g0) (N:=55) Tryd.func172 rfl rfl fun vs K h=>?_;obtain⟨t,bl,s,q,rfl,⟨ht,hbl,hs,hq⟩,h⟩:=h;refine⟨_,h,rfl,by simp,fun w I=>?_⟩
 have ht0:=ht
 obtain⟨hok,hlen,hnc⟩:=ht0
 have hcl:=hok.clen
 refine srR g0_ok fun _ K2=>?_
 iterate 3 refine z2o ?_
 refine s_n K2 ?_;refine seq_k fun _ K3=>?_;refine leW [0,1] id [(1,.c (.ds bl.length (.ints .i64 (natsI bl)))),(3,.c (.dp (rtC t) 0)),(5,.c (.dp (.ints .i64 [((s:Nat):Int),((q:Nat):Int)]) 0))] [] 0 [] uJh_1 uJh_1 uJh_1 uJh_1 ?_;refine srQ g0_ok kR fun _ K5=>?_
 iterate 2 refine z4i ?_
 refine z3m ?_;refine exA (.c (.int .i64 (((s:Nat):Int)))) (as_i (rfl)) ?_;refine z4i ?_;refine z3m ?_;refine exA (.c (.int .i64 (((blkF bl s:Nat):Int)))) (as_i ((congrArg (fun i=>(natsI bl).getD i 0) (by omega)).trans z0q)) ?_
 iterate 2 refine z4i ?_
 refine z3m ?_;refine exA (.c (.int .i64 (((q:Nat):Int)))) (as_i (rfl)) ?_;refine z4i ?_;refine z3m ?_;refine exA (.c (.int .i64 (((blkF bl q:Nat):Int)))) (as_i ((congrArg (fun i=>(natsI bl).getD i 0) (by omega)).trans z0q)) ?_;refine z4i ?_;refine q_n K5 ?_;refine z04 (b:=_) rfl (fun h_t18=>?_) (fun h_t18=>?_)
 ·try simp only[dQ,reduceIte]at h_t18
  refine srR g0_ok fun _ K7=>?_;refine z2o ?_;refine s_n K7 ?_;refine z0e (z0d g0_ok (fun _ _ h=>h) (by first|rfl|assumption) [.tmp 6] rfl ?_);refine rtD ?_
  show SV.c (.bool false)=_
  rw[decide_eq_false fun e=>absurd (zfw.1 e).1 (by omega)]
 ·try simp only[dQ,reduceIte]at h_t18
  refine z09 ?_;apply K3;refine seq_k fun _ K8=>?_;refine srR g0_ok fun _ K10=>?_;refine z2o ?_;refine s_n K10 ?_;refine z03 ?_;refine z0m (α:=Nat) (fun k=>[(1,.c (.ds bl.length (.ints .i64 (natsI bl)))),(3,.c (.dp (rtC t) 0)),(5,.c (.dp (.ints .i64 [((s:Nat):Int),((q:Nat):Int)]) 0)),(7,.c (.int .i64 (k:Nat)))]) (fun k=>[]) 0 (fun k=>k≤t.nc∧∀ c,c< k→blkF bl ((tblT t).δ s c)=blkF bl ((tblT t).δ q c)) (fun k=>t.nc - k) ?_ ?_
  ·refine dnS [] id 0 ⟨Nat.zero_le _,fun c hc=>absurd hc (Nat.not_lt_zero c)⟩ [] uJh_1 uJh_1 uJh_1 uJh_1
  ·intro k hk9
   have hk0:=hk9.1
   have hrs:=z8z hok hs
   refine seq_k fun _ K11=>?_;refine srR g0_ok fun _ K13=>?_
   iterate 2 refine z2o ?_
   refine z8d ?_;refine exA (.c (.ds t.next.length (.cells (rowsC t.next)))) (as_c (rt_nx hcl)) ?_;refine z2o ?_;refine z8d ?_;refine exA (.c (.int .i64 (((s:Nat):Int)))) (as_i (rfl)) ?_;refine z2o ?_;refine z8d ?_;refine exA (.c (.ds (t.next.getD s []).length (.ints .i64 (t.next.getD s [])))) (as_c (z6e ⟨hs,by omega⟩)) ?_
   iterate 2 refine z2o ?_
   refine s_n K13 ?_;refine z04 (b:=_) rfl (fun h_t27=>?_) (fun h_t27=>?_)
   ·try simp only[dQ,reduceIte]at h_t27
    refine z09 ?_;apply K11;refine seq_k fun _ K14=>?_;refine z03 ?_
    have hk:k< t.nc:=by omega
    have hxs:=nextN hok hs hk
    have hxq:=nextN hok hq hk
    have hrq:=z8z hok hq
    refine srQ g0_ok kR fun _ K16=>?_
    iterate 2 refine z4i ?_
    refine z3m ?_;refine exA (.c (.ds t.next.length (.cells (rowsC t.next)))) (as_c (rt_nx hcl)) ?_;refine z4i ?_;refine z3m ?_;refine exA (.c (.int .i64 (((s:Nat):Int)))) (as_i (rfl)) ?_;refine z4i ?_;refine z3m ?_;refine exA (.c (.ds (t.next.getD s []).length (.ints .i64 (t.next.getD s [])))) (as_c (z6e ⟨hs,by omega⟩)) ?_
    iterate 2 refine z4i ?_
    refine z3m ?_;refine exA (.c (.int .i64 ((((tblT t).δ s k:Nat):Int)))) (as_i ((congrArg (fun i=>(t.next.getD s []).getD i 0) (by omega)).trans hxs.2)) ?_;refine z4i ?_;refine z3m ?_;refine exA (.c (.int .i64 (((blkF bl ((tblT t).δ s k):Nat):Int)))) (as_i ((congrArg (fun i=>(natsI bl).getD i 0) (by omega)).trans z0q)) ?_
    iterate 2 refine z4i ?_
    refine z3m ?_;refine exA (.c (.ds t.next.length (.cells (rowsC t.next)))) (as_c (rt_nx hcl)) ?_;refine z4i ?_;refine z3m ?_;refine exA (.c (.int .i64 (((q:Nat):Int)))) (as_i (rfl)) ?_;refine z4i ?_;refine z3m ?_;refine exA (.c (.ds (t.next.getD q []).length (.ints .i64 (t.next.getD q [])))) (as_c (z6e ⟨hq,by omega⟩)) ?_
    iterate 2 refine z4i ?_
    refine z3m ?_;refine exA (.c (.int .i64 ((((tblT t).δ q k:Nat):Int)))) (as_i ((congrArg (fun i=>(t.next.getD q []).getD i 0) (by omega)).trans hxq.2)) ?_;refine z4i ?_;refine z3m ?_;refine exA (.c (.int .i64 (((blkF bl ((tblT t).δ q k):Nat):Int)))) (as_i ((congrArg (fun i=>(natsI bl).getD i 0) (by omega)).trans z0q)) ?_;refine z4i ?_;refine q_n K16 ?_;refine z04 (b:=_) rfl (fun h_t54=>?_) (fun h_t54=>?_)
    ·try simp only[dQ,reduceIte]at h_t54
     refine srR g0_ok fun _ K18=>?_;refine z2o ?_;refine s_n K18 ?_;refine z0e (z0d g0_ok (fun _ _ h=>h) (by first|rfl|assumption) [.tmp 6] rfl ?_);refine rtD ?_
     show SV.c (.bool false)=_
     rw[decide_eq_false fun e=>absurd ((zfw.1 e).2 k hk) (by omega)]
    ·try simp only[dQ,reduceIte]at h_t54
     refine z09 ?_;refine z05 ?_;apply K14;refine z01 g0_ok fun _ K19=>?_
     iterate 3 refine z2o ?_
     refine s_n K19 ?_;refine dnS [] id (k+1) ⟨⟨by omega,fun c hc=>(Nat.lt_succ_iff_lt_or_eq.1 hc).elim (hk9.2 c) fun e=>by rw[e];omega⟩,by omega⟩ [] ?_ ?_ ?_ ?_
     ·exact uJh_1
     ·exact uJh_1
     ·exact uJh_1
     ·exact uJh_1
   ·try simp only[dQ,reduceIte]at h_t27
    refine z0i ?_;refine z00 ?_;refine z00 ?_;refine z0f ?_;apply K8;refine srR g0_ok fun _ K21=>?_;refine z2o ?_;refine s_n K21 ?_;refine z0e (z0d g0_ok (fun _ _ h=>h) (by first|rfl|assumption) [.tmp 6] rfl ?_);refine rtD ?_
    show SV.c (.bool true)=_
    rw[decide_eq_true (zfw.2 ⟨by omega,fun c hc=>hk9.2 c (by have:c< t.nc:=hc;omega)⟩)]


end Go.Proofs.YtppmnaoollkboaaDoor

namespace Go.Proofs.YtppmnaoollkboaaDoor
set_option linter.all false
open Go.Ab Go.RowKit

section
variable {a b:Prop}
theorem qJi0(h:a:=by first|exact vcA|(simp[-List.reduceReplicate]<;>omega)|exact vRh|(simp only[z0n];omega)|(simp only[z10,z0n];omega)|(rw[z0n];omega)|(simp only[z1p,z5j];omega)|(simp only[z10,z0n,z2l];omega)|exact⟨by omega,by omega,trivial,trivial⟩|exact vcB):a:=h
theorem uJi_0(h:a:=by
    repeat' (first|exact pJ|exact pT|exact trivial|refine aI ?_ ?_|exact cC0|refine low_cons' ?_ ?_|exact cC1|fail)
    all_goals first|omega|(show(0:Nat)< (rt _ _ _).length;rw[z02 hcl];decide)|(show Cont.low _ (Cont.cells (List.replicate 256 _++_));exact z5a)|exact hL0|(show(_:List Int)=_;first|assumption|rfl)|(simp;done)|(show(0:Nat)< (z08 _ _ _ _).length;rw[z06 hcl];decide)|(simp[-List.reduceReplicate];done)|(simp[-List.reduceReplicate]<;>omega)|skip):a:=h
theorem DJi_0(kZ:b)(h:HidB b→a:=by intro kZ;(repeat first|refine aI qJi0 ?_|refine z0a qJi0 ?_|refine z07 qJi0 ?_|refine z0l qJi0 ?_|refine z0c ?_);exact kZ.out):a:=h ⟨kZ⟩
theorem z3d(kZ:b)(h:HidB b→a:=by intro kZ;refine sX ?_;refine DJi_0 ?_;refine exI ?_;exact kZ.out):a:=h ⟨kZ⟩
theorem sXTJi_2(kZ:b)(h:HidB b→a:=by intro kZ;refine sXT ?_;refine DJi_0 ?_;refine exI ?_;exact kZ.out):a:=h ⟨kZ⟩
theorem dXJi_3(kZ:b)(h:HidB b→a:=by intro kZ;refine dX ?_;refine DJi_0 ?_;refine exI ?_;exact kZ.out):a:=h ⟨kZ⟩
theorem zyz(kZ:b)(h:HidB b→a:=by intro kZ;refine sX0 ?_;refine DJi_0 ?_;refine exI ?_;exact kZ.out):a:=h ⟨kZ⟩
theorem zgy(kZ:b)(h:HidB b→a:=by intro kZ;refine sX ?_;refine DJi_0 ?_;exact kZ.out):a:=h ⟨kZ⟩
theorem zka(kZ:b)(h:HidB b→a:=by intro kZ;refine dX ?_;refine DJi_0 ?_;exact kZ.out):a:=h ⟨kZ⟩
theorem gXEJi_7(kZ:b)(h:HidB b→a:=by intro kZ;refine gX ?_;refine DJi_0 ?_;exact kZ.out):a:=h ⟨kZ⟩
end
open Go.Aut
theorem zn6(t:Tab)(bl l:List Nat){x:Nat}(h:x< (z0k (kB t bl) l).length):(keysO (kB t bl) l)[x]? =some (kB t bl ((z0k (kB t bl) l).getD x 0)):=by
  rw[←z6b,List.getElem?_map,at_of (d:=0) h];rfl
def SpF(t:Tab)(bl o:List Nat)(cur:Nat)(y:Nat):Prop:=(y=(z0k (kB t bl) o).length∧kB t bl cur∉keysO (kB t bl) o)∨(y< (z0k (kB t bl) o).length∧kB t bl cur∈keysO (kB t bl) o∧idxK (keysO (kB t bl) o) (kB t bl cur)=y)
theorem sp_yes{t:Tab}{bl o:List Nat}{cur y:Nat}(h:y< (z0k (kB t bl) o).length)(e:kB t bl ((z0k (kB t bl) o).getD y 0)=kB t bl cur):SpF t bl o cur y:=by
  have h1:=zn6 t bl o h
  rw[e]at h1;exact .inr ⟨h,List.mem_of_getElem? h1,zd2 (z31 o) h1⟩
theorem sp_no{t:Tab}{bl o:List Nat}{cur:Nat}(h:∀ x,x< (z0k (kB t bl) o).length→kB t bl ((z0k (kB t bl) o).getD x 0)≠kB t bl cur):SpF t bl o cur (z0k (kB t bl) o).length:=by
  refine .inl ⟨rfl,fun hk=>?_⟩;obtain⟨x,hx⟩:=List.getElem?_of_mem hk
  have hl:x< (z0k (kB t bl) o).length:=by rw[z25];exact(List.getElem?_eq_some_iff.1 hx).1
  have h1:=zn6 t bl o hl
  rw[hx]at h1;exact h x hl (Option.some.inj h1).symm
theorem first_lt{t:Tab}{bl l:List Nat}{N:Nat}(h:∀ s∈l,s< N){j x:Nat}(hx:x< (z0k (kB t bl) (l.take j)).length):(z0k (kB t bl) (l.take j)).getD x 0< N:=
  h _ (List.mem_of_mem_take (z9k (getD_mem' hx)))
attribute [local irreducible] z0o z0y zl z08 z0v putB rt rzl cbK nxtL
noncomputable def gj4:Ctx:={ P:=Tryd.prog,ty:=ty,glob:=gl,fs:=[(172,.flat zyx)] }
theorem z4j:gj4.OK:=⟨tyOK,⟨⟨z0b Tryd.func172 kR rfl,zyy⟩,trivial⟩,mixed⟩
@[simp] theorem gj4_ty:gj4.ty=ty:=rfl

def zz0:QSpec:=fun vs K=>∃ (t:Tab) (bl l:List Nat),vs=[rtV t,.c (.ds bl.length (.ints .i64 (natsI bl))),.c (.ds l.length (.ints .i64 (natsI l)))]∧(t.fit∧bl.length=t.next.length∧(∀ s∈l,s< t.next.length)∧l.length≤65535∧bl.length≤65535)∧K (.tup [.c (.ds bl.length (.ints .i64 (natsI (nxtL (tblT t) l bl l.length)))),.c (.ds (z0k (kB t bl) l).length (.ints .i64 (natsI (z0k (kB t bl) l))))])
theorem zz1:z1x Tryd.prog gl 166 zz0:=by
 refine z1c (Γ:=gj4) (N:=70) Tryd.func166 rfl rfl fun vs K h=>?_;obtain⟨t,bl,l,rfl,⟨ht,hbl,hl,hlm,hbm⟩,h⟩:=h;refine⟨_,h,(List.forall_mem_cons.2 ⟨trivial,(List.forall_mem_cons.2 ⟨trivial,fun _ h=>(by cases h)⟩)⟩),by simp,fun w I=>?_⟩
 have ht0:=ht
 obtain⟨hok,hlen,hnc⟩:=ht0
 have hcl:=hok.clen
 refine srR z4j fun _ K2=>?_
 iterate 3 refine z3d ?_
 refine s_n K2 ?_;refine leW [0] id [(1,.c (.ds bl.length (.ints .i64 (natsI bl)))),(2,.c (.ds l.length (.ints .i64 (natsI l)))),(3,.c (.dp (rtC t) 0))] [] 0 [] uJi_0 uJi_0 uJi_0 uJi_0 ?_;refine srR z4j fun _ K4=>?_
 iterate 4 refine z3d ?_
 refine s_n K4 ?_;refine srR z4j fun _ K6=>?_
 iterate 2 refine z3d ?_
 refine s_n K6 ?_;refine seq_k fun _ K7=>?_;refine srR z4j fun _ K9=>?_;refine z3d ?_;refine s_n K9 ?_;refine z03 ?_;refine z0m (α:=Nat×Nat) (fun i=>[(1,.c (.ds bl.length (.ints .i64 (natsI bl)))),(2,.c (.ds l.length (.ints .i64 (natsI l)))),(3,.c (.dp (rtC t) 0)),(8,.c (.slice 0 0 bl.length bl.length)),(9,.c (.slice 1 0 (z0k (kB t bl) (l.take i.1)).length i.2)),(10,.c (.int .i64 (i.1:Nat)))]) (fun i=>[(0,.own 3 (.ints .i64 (natsI (nxtL (tblT t) l bl i.1))) bl.length),(1,.own 3 (.ints .i64 (natsI (z0k (kB t bl) (l.take i.1)))) i.2)]) 2 (fun i=>i.1≤l.length∧(z0k (kB t bl) (l.take i.1)).length≤i.2) (fun i=>l.length - i.1) ?_ ?_
 ·have hX1:List.replicate bl.length (0:Int)=natsI (nxtL (tblT t) l bl 0):=by rw[zlt];simp[natsI]
  refine dnS [] id (0,0) ⟨Nat.zero_le _,Nat.le_refl _⟩ [0,1] uJi_0 uJi_0 uJi_0 uJi_0
 ·intro i hi
  obtain⟨hi1,hi2⟩:=hi
  have hfl:(z0k (kB t bl) (l.take i.1)).length≤i.1:=by
   rw[z25];exact Nat.le_trans (z2x _) (by rw[List.length_take];omega)
  have hnl:=z2l (tblT t) l bl i.1
  refine seq_k fun _ K10=>?_;refine srR z4j fun _ K12=>?_
  iterate 4 refine z3d ?_
  refine s_n K12 ?_;refine z04 (b:=_) rfl (fun h_t20=>?_) (fun h_t20=>?_)
  ·try simp only[dQ,reduceIte]at h_t20
   refine z09 ?_;apply K10;refine seq_k fun _ K13=>?_;refine z03 ?_;refine srR z4j fun _ K15=>?_
   iterate 3 refine z3d ?_
   refine s_n K15 ?_;refine z27 (α:=Nat) (fun y=>[(1,.c (.ds bl.length (.ints .i64 (natsI bl)))),(2,.c (.ds l.length (.ints .i64 (natsI l)))),(3,.c (.dp (rtC t) 0)),(8,.c (.slice 0 0 bl.length bl.length)),(9,.c (.slice 1 0 (z0k (kB t bl) (l.take i.1)).length i.2)),(10,.c (.int .i64 (i.1:Nat))),(11,.c (.int .i64 (y:Nat)))]) (fun y=>[(0,.own 3 (.ints .i64 (natsI (nxtL (tblT t) l bl i.1))) bl.length),(1,.own 3 (.ints .i64 (natsI (z0k (kB t bl) (l.take i.1)))) i.2)]) 2 (fun y=>SpF t bl (l.take i.1) (l.getD i.1 0) y) ?_ ?_
   ·refine srR z4j fun _ K17=>?_
    refine z3d ?_;refine s_n K17 ?_;refine z03 ?_;refine z0m (α:=Nat×Nat) (fun g=>[(1,.c (.ds bl.length (.ints .i64 (natsI bl)))),(2,.c (.ds l.length (.ints .i64 (natsI l)))),(3,.c (.dp (rtC t) 0)),(8,.c (.slice 0 0 bl.length bl.length)),(9,.c (.slice 1 0 (z0k (kB t bl) (l.take i.1)).length i.2)),(10,.c (.int .i64 (i.1:Nat))),(11,.c (.int .i64 (g.2:Nat))),(12,.c (.int .i64 (g.1:Nat)))]) (fun g=>[(0,.own 3 (.ints .i64 (natsI (nxtL (tblT t) l bl i.1))) bl.length),(1,.own 3 (.ints .i64 (natsI (z0k (kB t bl) (l.take i.1)))) i.2)]) 2 (fun g=>g.1≤(z0k (kB t bl) (l.take i.1)).length∧((g.2=(z0k (kB t bl) (l.take i.1)).length∧∀ x,x< g.1→kB t bl ((z0k (kB t bl) (l.take i.1)).getD x 0)≠kB t bl (l.getD i.1 0))∨(g.2< (z0k (kB t bl) (l.take i.1)).length∧kB t bl ((z0k (kB t bl) (l.take i.1)).getD g.2 0)=kB t bl (l.getD i.1 0)))) (fun g=>(z0k (kB t bl) (l.take i.1)).length - g.1) ?_ ?_
    ·refine dnS [] id (0,(z0k (kB t bl) (l.take i.1)).length) ⟨Nat.zero_le _,.inl ⟨rfl,fun x hx=>absurd hx (Nat.not_lt_zero x)⟩⟩ [0,1] uJi_0 uJi_0 uJi_0 uJi_0
    ·intro g hg
     obtain⟨hg1,hg2⟩:=hg;refine seq_k fun _ K18=>?_;refine srR z4j fun _ K20=>?_
     iterate 4 refine z3d ?_
     refine zgy ?_;refine exB (fun hb4=>?_) (fun hb4=>?_)
     ·try simp only[dQ,reduceIte]at hb4
      iterate 4 refine sXTJi_2 ?_
      refine z3d ?_;refine s_n K20 ?_;refine z04 (b:=_) rfl (fun h_t34=>?_) (fun h_t34=>?_)
      ·try simp only[dQ,reduceIte]at h_t34
       refine z09 ?_;apply K18;refine seq_k fun _ K21=>?_;refine z03 ?_
       have hgl:g.1< (z0k (kB t bl) (l.take i.1)).length:=by omega
       have hil:i.1< l.length:=by omega
       have hng:∀ x,x< g.1→kB t bl ((z0k (kB t bl) (l.take i.1)).getD x 0)≠kB t bl (l.getD i.1 0):=by
        rcases hg2 with⟨e1,e2⟩|⟨e1,e2⟩
        ·exact e2
        ·omega
       have hge:g.2=(z0k (kB t bl) (l.take i.1)).length:=by omega
       have hr1:=first_lt (t:=t) (bl:=bl) hl hgl
       have hr2:=hl _ (getD_mem' hil)
       refine srD z4j [(0,true),(1,true),(2,true),(3,true),(4,true),(5,true),(6,true),(7,true),(8,true),(9,true),(10,true),(11,false)] rfl kR kR fun _ K23=>?_;refine zka ?_;refine exA (rtV t) (SV.as_refl _) ?_
       iterate 4 refine dXJi_3 ?_
       refine zka ?_;refine exA (.c (.int .i64 ((((z0k (kB t bl) (l.take i.1)).getD g.1 0:Nat):Int)))) (as_i ((congrArg (fun ii=>(natsI (z0k (kB t bl) (l.take i.1))).getD ii 0) (by omega)).trans z0q)) ?_
       iterate 3 refine dXJi_3 ?_
       refine zka ?_;refine exA (.c (.int .i64 ((((l.getD i.1 0):Nat):Int)))) (as_i ((congrArg (fun ii=>(natsI l).getD ii 0) (by omega)).trans z0q)) ?_;refine zka ?_;refine exA (.agg (.ints .i64 [(((z0k (kB t bl) (l.take i.1)).getD g.1 0:Nat):Int),(((l.getD i.1 0):Nat):Int)])) (SV.as_refl _) ?_;refine gXEJi_7 ?_;refine aI (z61 t) ?_;refine z8c t ?_;refine⟨t,bl,(z0k (kB t bl) (l.take i.1)).getD g.1 0,(l.getD i.1 0),rfl,⟨ht,hbl,hr1,hr2⟩,?_⟩;refine DJi_0 ?_
       first|refine exI ?_|(intro cap11 hcap11;refine exI ?_)
       refine d_n K23 ?_;refine z04 (b:=_) rfl (fun h_t48=>?_) (fun h_t48=>?_)
       ·refine z01 z4j fun _ K24=>?_
        iterate 2 refine z3d ?_
        refine s_n K24 ?_;refine z05 ?_;apply K21;refine z01 z4j fun _ K25=>?_
        iterate 3 refine z3d ?_
        refine s_n K25 ?_
        have hke:kB t bl ((z0k (kB t bl) (l.take i.1)).getD g.1 0)=kB t bl (l.getD i.1 0):=by simpa using h_t48
        refine dnS [] id (g.1+1,g.1) ⟨⟨by show g.1+1≤_;omega,.inr ⟨hgl,hke⟩⟩,by show _ - (g.1+1)< _;omega⟩ [0,1] ?_ ?_ ?_ ?_
        ·exact uJi_0
        ·exact uJi_0
        ·exact uJi_0
        ·exact uJi_0
       ·refine z09 ?_;refine z05 ?_;apply K21;refine z01 z4j fun _ K26=>?_
        iterate 3 refine z3d ?_
        refine s_n K26 ?_
        have hke:¬ kB t bl ((z0k (kB t bl) (l.take i.1)).getD g.1 0)=kB t bl (l.getD i.1 0):=by simpa using h_t48
        refine dnS [] id (g.1+1,g.2) ⟨⟨by show g.1+1≤_;omega,.inl ⟨hge,fun x hx=>(Nat.lt_succ_iff_lt_or_eq.1 hx).elim (hng x) fun e=>by rw[e];exact hke⟩⟩,by show _ - (g.1+1)< _;omega⟩ [0,1] ?_ ?_ ?_ ?_
        ·exact uJi_0
        ·exact uJi_0
        ·exact uJi_0
        ·exact uJi_0
      ·try simp only[dQ,reduceIte]at h_t34
       refine z0i ?_;refine z00 ?_;refine z00 ?_;refine z0f ?_
       have hsp:SpF t bl (l.take i.1) (l.getD i.1 0) g.2:=by
        rcases hg2 with⟨e1,e2⟩|⟨e1,e2⟩
        ·rw[e1]
         exact sp_no fun x hx=>e2 x (by omega)
        ·exact sp_yes e1 e2
       refine dnS [] id g.2 hsp [0,1] uJi_0 uJi_0 uJi_0 uJi_0
     ·try simp only[dQ,reduceIte]at hb4
      iterate 4 refine sN ?_
      refine z3d ?_;refine s_n K20 ?_;refine z04 (b:=_) rfl (fun h_t34=>?_) (fun _=>?_)
      ·exfalso;simp at h_t34
      refine z0i ?_;refine z00 ?_;refine z00 ?_;refine z0f ?_
      have hsp:SpF t bl (l.take i.1) (l.getD i.1 0) g.2:=by
       rcases hg2 with⟨e1,e2⟩|⟨e1,e2⟩
       ·rw[e1]
        exact sp_no fun x hx=>e2 x (by omega)
       ·exact sp_yes e1 e2
      refine dnS [] id g.2 hsp [0,1] uJi_0 uJi_0 uJi_0 uJi_0
   ·intro y hy
    refine seq_k fun _ K27=>?_
    have hil:i.1< l.length:=by omega
    have hr2:=hl _ (getD_mem' hil)
    refine srR z4j fun _ K29=>?_
    iterate 4 refine z3d ?_
    refine s_n K29 ?_;refine z04 (b:=_) rfl (fun h_t53=>?_) (fun h_t53=>?_)
    ·try simp only[dQ,reduceIte]at h_t53
     obtain⟨hk2,hk1⟩:y=(z0k (kB t bl) (l.take i.1)).length∧kB t bl (l.getD i.1 0)∉keysO (kB t bl) (l.take i.1):=by
      rcases hy with hy|hy
      ·exact hy
      ·omega
     refine z01 z4j fun _ K30=>?_
     iterate 4 refine z3d ?_
     refine zgy ?_;refine exA (.c (.int .i64 ((((l.getD i.1 0):Nat):Int)))) (as_i ((congrArg (fun ii=>(natsI l).getD ii 0) (by omega)).trans z0q)) ?_;refine z3d ?_;refine zgy ?_;intro cap6 hcap6;refine exI ?_;refine z3d ?_;refine s_n K30 ?_;apply K27;refine z01 z4j fun _ K31=>?_
     iterate 4 refine z3d ?_
     refine zgy ?_;refine exA (.c (.int .i64 ((((l.getD i.1 0):Nat):Int)))) (as_i ((congrArg (fun ii=>(natsI l).getD ii 0) (by omega)).trans z0q)) ?_
     iterate 2 refine z3d ?_
     refine zyz ?_;refine s_n K31 ?_;refine z05 ?_;apply K13;refine z01 z4j fun _ K32=>?_
     iterate 3 refine z3d ?_
     refine s_n K32 ?_;obtain⟨hq1,hq2,hq3⟩:=ref_no t bl hil hk1
     have hS2:(natsI (nxtL (tblT t) l bl i.1)).set (0+(((l.getD i.1 0):Nat):Int).toNat*1) ((y:Nat):Int)=natsI (nxtL (tblT t) l bl (i.1+1)):=by
      rw[z7t,show 0+(((l.getD i.1 0):Nat):Int).toNat*1=(l.getD i.1 0) by omega, ←zbq hil,hq3,hk2]
     have hS3:natsI (z0k (kB t bl) (l.take i.1))++([]++[(((l.getD i.1 0):Nat):Int)])=natsI (z0k (kB t bl) (l.take (i.1+1))):=by rw[hq2,List.nil_append,z39]
     have hL0:(z0k (kB t bl) (l.take i.1)).length+1=(z0k (kB t bl) (l.take (i.1+1))).length:=by rw[hq2,List.length_append];rfl
     refine dnS [] (fun i=>if i=1 then 3 else i) (i.1+1,cap6) ⟨⟨by show i.1+1≤_;omega,by show _≤cap6;rw[←hL0];omega⟩,by show _ - (i.1+1)< _;omega⟩ [0,3] ?_ ?_ ?_ ?_
     ·exact uJi_0
     ·exact uJi_0
     ·exact uJi_0
     ·exact uJi_0
    ·try simp only[dQ,reduceIte]at h_t53
     refine z09 ?_;apply K27;refine z01 z4j fun _ K33=>?_
     iterate 4 refine z3d ?_
     refine zgy ?_;refine exA (.c (.int .i64 ((((l.getD i.1 0):Nat):Int)))) (as_i ((congrArg (fun ii=>(natsI l).getD ii 0) (by omega)).trans z0q)) ?_
     iterate 2 refine z3d ?_
     refine zyz ?_;refine s_n K33 ?_;refine z05 ?_;apply K13;refine z01 z4j fun _ K34=>?_
     iterate 3 refine z3d ?_
     refine s_n K34 ?_
     obtain⟨hk1,hk2⟩:kB t bl (l.getD i.1 0)∈keysO (kB t bl) (l.take i.1)∧idxK (keysO (kB t bl) (l.take i.1)) (kB t bl (l.getD i.1 0))=y:=by
      rcases hy with hy|hy
      ·omega
      ·exact hy.2
     obtain⟨hq1,hq2,hq3⟩:=zx0 t bl hil hk1
     have hS2:(natsI (nxtL (tblT t) l bl i.1)).set (0+(((l.getD i.1 0):Nat):Int).toNat*1) ((y:Nat):Int)=natsI (nxtL (tblT t) l bl (i.1+1)):=by
      rw[z7t,show 0+(((l.getD i.1 0):Nat):Int).toNat*1=(l.getD i.1 0) by omega, ←zbq hil,hq3,hk2]
     have hS3:natsI (z0k (kB t bl) (l.take i.1))=natsI (z0k (kB t bl) (l.take (i.1+1))):=by rw[hq2]
     have hL0:(z0k (kB t bl) (l.take i.1)).length=(z0k (kB t bl) (l.take (i.1+1))).length:=by rw[hq2]
     refine dnS [] id (i.1+1,i.2) ⟨⟨by show i.1+1≤_;omega,by show _≤i.2;rw[←hL0];omega⟩,by show _ - (i.1+1)< _;omega⟩ [0,1] ?_ ?_ ?_ ?_
     ·exact uJi_0
     ·exact uJi_0
     ·exact uJi_0
     ·exact uJi_0
  ·try simp only[dQ,reduceIte]at h_t20
   refine z0i ?_;refine z00 ?_;refine z00 ?_;refine z0f ?_;apply K7
   have hie:i.1=l.length:=by omega
   rw[show(z0k (kB t bl) (l.take i.1))=z0k (kB t bl) l by rw[hie,List.take_length]];rw[hie];refine srR z4j fun _ K36=>?_
   iterate 4 refine z3d ?_
   refine s_n K36 ?_;refine z0e (z0g z4j (fun _ _ h=>h) ((List.forall_mem_cons.2 ⟨trivial,(List.forall_mem_cons.2 ⟨trivial,fun _ h=>(by cases h)⟩)⟩)) [0,1] [.tmp 6,.tmp 7] rfl ?_)
   all_goals exact uJi_0


end Go.Proofs.YtppmnaoollkboaaDoor

namespace Go.Proofs.YtppmnaoollkboaaDoor
set_option linter.all false
open Go.Ab Go.RowKit

section
variable {a b:Prop}
theorem qJj0(h:a:=by first|exact vcA|(simp[-List.reduceReplicate]<;>omega)|exact vRh|(simp only[z0n];omega)|(simp only[z10,z0n];omega)|(rw[z0n];omega)|(simp only[z1p,z5j];omega)|(simp only[z10,z0n,z9c];omega)|exact vcB):a:=h
theorem uJj_0(h:a:=by
    repeat' (first|exact pJ|exact pT|exact trivial|refine aI ?_ ?_|exact cC0|refine low_cons' ?_ ?_|exact cC1|fail)
    all_goals first|omega|(show(0:Nat)< (rt _ _ _).length;rw[z02 hcl];decide)|(show Cont.low _ (Cont.cells (List.replicate 256 _++_));exact z5a)|exact hL0|(rw[z2l];done)|(rw[z9c];done)|(show(_:List Int)=_;first|assumption|rfl)|(simp;done)|(show(0:Nat)< (z08 _ _ _ _).length;rw[z06 hcl];decide)|(simp[-List.reduceReplicate];done)|(simp[-List.reduceReplicate]<;>omega)|skip):a:=h
theorem DJj_0(kZ:b)(h:HidB b→a:=by intro kZ;(repeat first|refine aI qJj0 ?_|refine z0a qJj0 ?_|refine z07 qJj0 ?_|refine z0l qJj0 ?_|refine z0c ?_);exact kZ.out):a:=h ⟨kZ⟩
theorem z4v(kZ:b)(h:HidB b→a:=by intro kZ;refine sX ?_;refine DJj_0 ?_;refine exI ?_;exact kZ.out):a:=h ⟨kZ⟩
theorem sX0Jj_2(kZ:b)(h:HidB b→a:=by intro kZ;refine sX0 ?_;refine DJj_0 ?_;refine exI ?_;exact kZ.out):a:=h ⟨kZ⟩
theorem z9b(kZ:b)(h:HidB b→a:=by intro kZ;refine sX ?_;refine DJj_0 ?_;exact kZ.out):a:=h ⟨kZ⟩
end
open Go.Aut
def bA(t:Tab)(s:Nat):List Nat:=(List.range t.next.length).map fun i=>if i< s∧t.acc.getD i false=true then 1 else 0
@[simp] theorem z9c(t:Tab)(s:Nat):(bA t s).length=t.next.length:=by simp[bA]
theorem bA_zero(t:Tab):natsI (bA t 0)=List.replicate t.next.length 0:=by
  have:bA t 0=List.replicate t.next.length 0:=by simp[bA,List.map_const']
  rw[this];simp[natsI]
theorem bA_yes{t:Tab}{s:Nat}(h:s< t.next.length)(ha:t.acc.getD s false=true):(bA t s).set s 1=bA t (s+1):=by
  refine z1j 0 (by simp) fun i hi=>?_
  have hi:i< t.next.length:=by simpa using hi
  rw[z19 (by simpa using hi),bA,bA,z0j hi,z0j hi]
  by_cases e:s=i
  · subst e;rw[if_pos rfl,if_pos ⟨by omega,ha⟩]
  · rw[if_neg e]
    by_cases h2:i< s∧t.acc.getD i false=true
    · rw[if_pos h2,if_pos ⟨by omega,h2.2⟩]
    · rw[if_neg h2,if_neg fun hh=>h2 ⟨by omega,hh.2⟩]
theorem bA_no{t:Tab}{s:Nat}(ha:t.acc.getD s false=false):bA t s=bA t (s+1):=by
  refine List.map_congr_left fun i _=>?_
  by_cases h2:i< s∧t.acc.getD i false=true
  · rw[if_pos h2,if_pos ⟨by omega,h2.2⟩]
  · rw[if_neg h2,if_neg fun hh=>h2 ⟨by
      have:i≠s:=fun e=>by rw[e,ha]at hh;cases hh.2
      omega,hh.2⟩]
theorem bA_blk{t:Tab}{l:List Nat}(hl:∀ s∈l,s< t.next.length):Blk (tblT t) l (bA t t.next.length) t.next.length 0:=by
  have hg:∀ s,s< t.next.length→(bA t t.next.length).getD s 0=if t.acc.getD s false=true then 1 else 0:=fun s hs=>by
    rw[bA,z0j hs]
    by_cases h2:t.acc.getD s false=true
    · rw[if_pos ⟨hs,h2⟩,if_pos h2]
    · rw[if_neg fun hh=>h2 hh.2,if_neg h2]
  have hv:∀ s,s∈l→blkF (bA t t.next.length) s=if t.acc.getD s false=true then 1 else 0:=fun s hs=>hg s (hl s hs)
  have hacc:∀ s q,s∈l→q∈l→blkF (bA t t.next.length) s=blkF (bA t t.next.length) q→t.acc.getD s false=t.acc.getD q false:=fun s q hs hq e=>by
    rw[hv s hs,hv q hq]at e
    cases a:t.acc.getD s false<;>cases b:t.acc.getD q false<;>rw[a,b]at e<;>first|rfl|simp at e
  refine⟨by simp,fun s q hs hq hne=>⟨[],Bytes.nil,fun e=>hne ?_⟩,hacc,fun x hx=>?_,fun h=>absurd h (Nat.lt_irrefl 0)⟩
  · have e:t.acc.getD s false=t.acc.getD q false:=e
    rw[hv s hs,hv q hq,e]
  · obtain⟨i,hi,rfl⟩:=List.mem_map.1 hx
    split<;>decide
open Classical in
theorem ztt{t:Tab}(ht:t.fit){l bl:List Nat}{c:Nat}(h:RefIn t l)(hb:Blk (tblT t) l bl t.next.length c)(hc:z2g (tblT t) l (blkF (nxtL (tblT t) l bl l.length))=z2g (tblT t) l (blkF bl)):
    nxtL (tblT t) l bl l.length=finL t l∧z0k (kB t bl) l=finR t l:=by
  have hcell:∀ b,b< 256→(tblT t).cell b< (tblT t).nc:=fun b hb=>(cellN ht.1 hb).1
  have h1:=zee hb h.lt h.len h.cl ht.1.byte
  have hpos:=zbr (t:=tblT t) (l:=l) (bl:=bl) h.pos
  have e:∀ s,s∈l→blkF (nxtL (tblT t) l bl l.length) s=nextB (tblT t) l (blkF bl) s:=fun s hs=>zj4 hs (by rw[hb.len];exact h.lt s hs)
  obtain⟨h2,h3⟩:=h1.on hpos
  have hst:∀ s q,s∈l→q∈l→blkF (nxtL (tblT t) l bl l.length) s=blkF (nxtL (tblT t) l bl l.length) q→(tblT t).acc s=(tblT t).acc q∧∀ c,c< (tblT t).nc→blkF (nxtL (tblT t) l bl l.length) ((tblT t).δ s c)=blkF (nxtL (tblT t) l bl l.length) ((tblT t).δ q c):=fun s q hs hq he=>
    ⟨h1.acc s q hs hq he,(zfx hs hq (zlk (by rw[hc];exact h2) (by rw[hc];exact h3) hs hq he)).2⟩
  have key:∀ s q,s∈l→q∈l→(kB t bl s=kB t bl q↔keyL (tblT t) s=keyL (tblT t) q):=fun s q hs hq=>by
    rw[←z6q (key:=kB t bl) hs hq]
    have e1:idK (kB t bl) l s=blkF (nxtL (tblT t) l bl l.length) s:=(e s hs).symm
    have e2:idK (kB t bl) l q=blkF (nxtL (tblT t) l bl l.length) q:=(e q hq).symm
    rw[e1,e2]
    constructor
    · intro he
      exact z77.2 fun w hw=>zao hcell h.cl hst w s q hw hs hq he
    · intro he
      refine Classical.byContradiction fun hne=>?_;obtain⟨w,hw,hd⟩:=h1.snd s q hs hq hne;exact hd (z77.1 he w hw)
  obtain⟨_,g2,g3⟩:=zma l key;refine⟨z1j 0 (by rw[z2l,z6f,hb.len]) fun s hs=>?_,g3⟩
  have hs:s< t.next.length:=by rw[z2l,hb.len]at hs;exact hs
  rw[zbp (by rw[hb.len];exact hs),finL,z0j hs,List.take_length]
  by_cases hsl:s∈l
  · rw[if_pos hsl,if_pos hsl];exact g2 s hsl
  · rw[if_neg hsl,if_neg hsl]
attribute [local irreducible] z0o z0y zl z08 z0v putB rt rzl cbK nxtL bA
noncomputable def gj5:Ctx:={ P:=Tryd.prog,ty:=ty,glob:=gl,fs:=[(166,.data zz0)] }
theorem z6k:gj5.OK:=⟨tyOK,⟨⟨z0b Tryd.func166 kR rfl,zz1⟩,trivial⟩,mixed⟩
@[simp] theorem gj5_ty:gj5.ty=ty:=rfl

def zrz:QSpec:=fun vs K=>∃ (t:Tab) (l:List Nat),vs=[rtV t,.c (.ds l.length (.ints .i64 (natsI l)))]∧t.fit∧RefIn t l∧K (.tup [.c (.ds (finL t l).length (.ints .i64 (natsI (finL t l)))),.c (.ds (finR t l).length (.ints .i64 (natsI (finR t l))))])
theorem ztu:z1x Tryd.prog gl 147 zrz:=by
 refine z1c (Γ:=gj5) (N:=53) Tryd.func147 rfl rfl fun vs K h=>?_;obtain⟨t,l,rfl,ht,hlr,h⟩:=h;refine⟨_,h,(List.forall_mem_cons.2 ⟨trivial,(List.forall_mem_cons.2 ⟨trivial,fun _ h=>(by cases h)⟩)⟩),by simp,fun w I=>?_⟩
 have ht0:=ht
 obtain⟨hok,hlen,hnc⟩:=ht0
 have hcl:=hok.clen
 refine srR z6k fun _ K2=>?_
 iterate 3 refine z4v ?_
 refine s_n K2 ?_;refine leW [0] id [(1,.c (.ds l.length (.ints .i64 (natsI l)))),(2,.c (.dp (rtC t) 0))] [] 0 [] uJj_0 uJj_0 uJj_0 uJj_0 ?_;refine srR z6k fun _ K4=>?_;refine z4v ?_;refine z9b ?_;refine exA (.c (.ds t.next.length (.cells (rowsC t.next)))) (as_c (rt_nx hcl)) ?_
 iterate 3 refine z4v ?_
 refine s_n K4 ?_;refine seq_k fun _ K5=>?_
 have hX1:List.replicate t.next.length (0:Int)=natsI (bA t 0):=(bA_zero t).symm
 refine leW [] id [(1,.c (.ds l.length (.ints .i64 (natsI l)))),(2,.c (.dp (rtC t) 0)),(6,.c (.slice 0 0 t.next.length t.next.length))] [(0,.own 3 (.ints .i64 (natsI (bA t 0))) t.next.length)] 1 [0] uJj_0 uJj_0 uJj_0 uJj_0 ?_;refine srR z6k fun _ K7=>?_;refine z4v ?_;refine s_n K7 ?_;refine z03 ?_;refine z0m (α:=Nat) (fun s=>[(1,.c (.ds l.length (.ints .i64 (natsI l)))),(2,.c (.dp (rtC t) 0)),(6,.c (.slice 0 0 t.next.length t.next.length)),(7,.c (.int .i64 (s:Nat)))]) (fun s=>[(0,.own 3 (.ints .i64 (natsI (bA t s))) t.next.length)]) 1 (fun s=>s≤t.next.length) (fun s=>t.next.length - s) ?_ ?_
 ·refine dnS [] id 0 (Nat.zero_le _) [0] uJj_0 uJj_0 uJj_0 uJj_0
 ·intro s hs
  have hbl:=z9c t s
  refine seq_k fun _ K8=>?_;refine srR z6k fun _ K10=>?_
  iterate 2 refine z4v ?_
  refine z9b ?_;refine exA (.c (.ds t.next.length (.cells (rowsC t.next)))) (as_c (rt_nx hcl)) ?_
  iterate 2 refine z4v ?_
  refine s_n K10 ?_;refine z04 (b:=_) rfl (fun h_t19=>?_) (fun h_t19=>?_)
  ·try simp only[dQ,reduceIte]at h_t19
   refine z09 ?_;apply K8;refine seq_k fun _ K11=>?_;refine z03 ?_
   have hsn:s< t.next.length:=by omega
   have hal:=hok.alen
   refine srR z6k fun _ K13=>?_;refine z4v ?_;refine z9b ?_;refine exA (.c (.ds t.acc.length (.bools t.acc))) (as_c (rt_ac hcl)) ?_
   iterate 2 refine z4v ?_
   refine z9b ?_;refine exA (.c (.bool (t.acc.getD s false))) (as_b (congrArg (fun i=>t.acc.getD i false) (by omega))) ?_;refine s_n K13 ?_;refine z04 (b:=_) rfl (fun h_t26=>?_) (fun h_t26=>?_)
   ·refine z01 z6k fun _ K14=>?_
    iterate 3 refine z4v ?_
    refine sX0Jj_2 ?_;refine s_n K14 ?_;refine z05 ?_;apply K11;refine z01 z6k fun _ K15=>?_
    iterate 3 refine z4v ?_
    refine s_n K15 ?_
    have hS2:(natsI (bA t s)).set (0+((s:Nat):Int).toNat*1) 1=natsI (bA t (s+1)):=by
     rw[show(1:Int)=((1:Nat):Int) from rfl,z7t,show 0+((s:Nat):Int).toNat*1=s by omega,bA_yes hsn (by simpa using h_t26)]
    refine dnS [] id (s+1) ⟨by omega,by omega⟩ [0] uJj_0 uJj_0 uJj_0 uJj_0
   ·refine z09 ?_;refine z05 ?_;apply K11;refine z01 z6k fun _ K16=>?_
    iterate 3 refine z4v ?_
    refine s_n K16 ?_
    have hS2:natsI (bA t s)=natsI (bA t (s+1)):=by rw[bA_no (by simpa using h_t26)]
    refine dnS [] id (s+1) ⟨by omega,by omega⟩ [0] uJj_0 uJj_0 uJj_0 uJj_0
  ·try simp only[dQ,reduceIte]at h_t19
   refine z0i ?_;refine z00 ?_;refine z00 ?_;refine z0f ?_;apply K5
   have hse:s=t.next.length:=by omega
   rw[hse];refine leW [0] id [(1,.c (.ds l.length (.ints .i64 (natsI l)))),(2,.c (.dp (rtC t) 0)),(6,.c (.ds (bA t t.next.length).length (.ints .i64 (natsI (bA t t.next.length)))))] [] 0 [] uJj_0 uJj_0 uJj_0 uJj_0 ?_;refine srR z6k fun _ K18=>?_;refine z9b ?_;refine exA (rtV t) (SV.as_refl _) ?_
   iterate 2 refine z4v ?_
   refine z9b ?_;refine aI (z61 t) ?_;refine z8c t ?_;refine⟨t,bA t t.next.length,l,rfl,⟨ht,z9c t _,hlr.lt,hlr.len,(by rw[z9c];exact hlen)⟩,?_⟩
   simp only[z9a]
   refine DJj_0 ?_
   first|refine exI ?_|(intro cap3 hcap3;refine exI ?_)
   iterate 5 refine z4v ?_
   refine s_n K18 ?_;refine z03 ?_;refine z0m (α:=List Nat×Nat) (fun g=>[(1,.c (.ds l.length (.ints .i64 (natsI l)))),(2,.c (.dp (rtC t) 0)),(6,.c (.ds (nxtL (tblT t) l g.1 l.length).length (.ints .i64 (natsI (nxtL (tblT t) l g.1 l.length))))),(8,.c (.ds (z0k (kB t g.1) l).length (.ints .i64 (natsI (z0k (kB t g.1) l)))))]) (fun g=>[]) 0 (fun g=>Blk (tblT t) l g.1 t.next.length g.2) (fun g=>l.length+1 - z2g (tblT t) l (blkF g.1)) ?_ ?_
   ·refine dnS [] id (bA t t.next.length,0) (bA_blk hlr.lt) [] uJj_0 uJj_0 uJj_0 uJj_0
   ·intro g hb
    obtain⟨bl,c⟩:=g
    have hb:Blk (tblT t) l bl t.next.length c:=hb
    show WP _ _ _ _ _ _ _ _
    refine z03 ?_;refine srR z6k fun _ K20=>?_;refine z9b ?_;refine exA (rtV t) (SV.as_refl _) ?_
    iterate 2 refine z4v ?_
    refine z9b ?_;refine aI (z61 t) ?_;refine z8c t ?_;refine⟨t,nxtL (tblT t) l bl l.length,l,rfl,⟨ht,(by rw[z2l];exact hb.len),hlr.lt,hlr.len,(by rw[z2l,hb.len];exact hlen)⟩,?_⟩
    simp only[z9a]
    refine DJj_0 ?_
    first|refine exI ?_|(intro cap3 hcap3;refine exI ?_)
    iterate 5 refine z4v ?_
    refine s_n K20 ?_;refine seq_k fun _ K21=>?_;refine srR z6k fun _ K23=>?_
    iterate 5 refine z4v ?_
    refine s_n K23 ?_;refine z04 (b:=_) rfl (fun h_t48=>?_) (fun h_t48=>?_)
    ·have hce:z2g (tblT t) l (blkF (nxtL (tblT t) l bl l.length))=z2g (tblT t) l (blkF bl):=by
      have h9:=of_decide_eq_true h_t48
      have h8:(z0k (kB t (nxtL (tblT t) l bl l.length)) l).length=(z0k (kB t bl) l).length:=by omega
      rw[z25,z25]at h8;exact h8
     obtain⟨hf1,hf2⟩:=ztt ht hlr hb hce;refine srR z6k fun _ K25=>?_
     iterate 4 refine z4v ?_
     refine s_n K25 ?_;rw[hf1,hf2]
     have hfl2:=z6f t l
     have hbl9:=hb.len
     refine z0e (z0g z6k (fun _ _ h=>h) ((List.forall_mem_cons.2 ⟨trivial,(List.forall_mem_cons.2 ⟨trivial,fun _ h=>(by cases h)⟩)⟩)) [] [.tmp 4,.tmp 5] rfl ?_)
     all_goals exact uJj_0
    ·have hne:z2g (tblT t) l (blkF (nxtL (tblT t) l bl l.length))≠z2g (tblT t) l (blkF bl):=fun h9=>by
      have h8:=of_decide_eq_false h_t48
      have h7:(z0k (kB t (nxtL (tblT t) l bl l.length)) l).length=(z0k (kB t bl) l).length:=by rw[z25,z25];exact h9
      omega
     refine z09 ?_;apply K21;refine srR z6k fun _ K27=>?_
     iterate 2 refine z4v ?_
     refine s_n K27 ?_;refine z01 z6k fun _ K28=>?_
     iterate 2 refine z4v ?_
     refine s_n K28 ?_;refine z05 ?_
     have hnx:=zee hb hlr.lt hlr.len hlr.cl hok.byte
     have hcp:=zbr (t:=tblT t) (l:=l) (bl:=bl) hlr.pos
     have hcl2:=zqr (t:=tblT t) (l:=l) (bl:=(nxtL (tblT t) l bl l.length))
     have hcm:=zlu hnx hcp
     have hne9:z2g (tblT t) l (blkF (nxtL (tblT t) l bl l.length))≠z2g (tblT t) l (blkF bl):=hne
     refine dnS [] id ((nxtL (tblT t) l bl l.length),z2g (tblT t) l (blkF bl)) ⟨hnx,by show _+1 - z2g (tblT t) l (blkF (nxtL (tblT t) l bl l.length))< _+1 - z2g (tblT t) l (blkF bl);omega⟩ [] ?_ ?_ ?_ ?_
     ·exact uJj_0
     ·exact uJj_0
     ·exact uJj_0
     ·exact uJj_0


end Go.Proofs.YtppmnaoollkboaaDoor
