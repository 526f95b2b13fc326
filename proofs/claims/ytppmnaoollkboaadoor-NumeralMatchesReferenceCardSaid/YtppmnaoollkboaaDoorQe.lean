/- Contracts of functions and plain facts, part 5. -/
import Derived.Test.YtppmnaoollkboaaDoorQd
set_option maxHeartbeats 2000000
set_option maxRecDepth 4000
namespace Go.Proofs.YtppmnaoollkboaaDoor
set_option linter.all false
open Go.Ab Go.RowKit

section
variable {a b:Prop}
theorem qUl0(h:a:=by first|exact vcA|(simp[-List.reduceReplicate]<;>omega)|exact vTh|(simp only[zai,zji];omega)|(rw[zai,zji];omega)|exact vcB):a:=h
theorem qUl1(h:a:=by first|exact vcA|(simp[-List.reduceReplicate]<;>omega)|exact vTh|(have:=hok.alen;omega)|exact vcB):a:=h
theorem uUl_0(h:a:=by
    repeat' (first|assumption|exact z9t zdb _ _|exact z3i zdb _|exact pT|exact trivial|refine aI ?_ ?_|exact cC0|refine low_cons' ?_ ?_|exact cC1|fail)
    all_goals first|omega|exact hL0|(rw[hX4];exact z3i zdb _)|exact z3i zdb _ _ (by assumption)|(show(_:List Int)=_;first|assumption|rfl)|(show(_:List UInt8)=_;first|assumption|rfl)|(show(_:List (SV×SV))=_;first|assumption|rfl)|exact z9t zdb _ _|exact z3i zdb _|(show(0:Nat)< (z08 _ _ _ _).length;rw[z06 hcl];decide)|(simp[-List.reduceReplicate];done)|(simp[-List.reduceReplicate]<;>omega)|skip):a:=h
theorem DUl_0(kZ:b)(h:HidB b→a:=by intro kZ;(repeat first|refine aI qUl0 ?_|refine z0a qUl0 ?_|refine z07 qUl0 ?_|refine z0l qUl0 ?_|refine z0c ?_);exact kZ.out):a:=h ⟨kZ⟩
theorem z1k(kZ:b)(h:HidB b→a:=by intro kZ;refine sX ?_;refine DUl_0 ?_;refine exI ?_;exact kZ.out):a:=h ⟨kZ⟩
theorem DUl_2(kZ:b)(h:HidB b→a:=by intro kZ;(repeat first|refine aI qUl1 ?_|refine z0a qUl1 ?_|refine z07 qUl1 ?_|refine z0l qUl1 ?_|refine z0c ?_);exact kZ.out):a:=h ⟨kZ⟩
theorem sXUl_3(kZ:b)(h:HidB b→a:=by intro kZ;refine sX ?_;refine DUl_2 ?_;refine exI ?_;exact kZ.out):a:=h ⟨kZ⟩
theorem zow(kZ:b)(h:HidB b→a:=by intro kZ;refine sX0 ?_;refine DUl_0 ?_;refine exI ?_;exact kZ.out):a:=h ⟨kZ⟩
theorem ze1(kZ:b)(h:HidB b→a:=by intro kZ;refine dX ?_;refine DUl_0 ?_;refine exI ?_;exact kZ.out):a:=h ⟨kZ⟩
theorem gXUl_6(kZ:b)(h:HidB b→a:=by intro kZ;refine gX ?_;refine DUl_0 ?_;refine exI ?_;exact kZ.out):a:=h ⟨kZ⟩
theorem z7a(kZ:b)(h:HidB b→a:=by intro kZ;refine sX ?_;refine DUl_0 ?_;exact kZ.out):a:=h ⟨kZ⟩
theorem zx6(kZ:b)(h:HidB b→a:=by intro kZ;refine sX ?_;refine DUl_2 ?_;exact kZ.out):a:=h ⟨kZ⟩
theorem zdc(kZ:b)(h:HidB b→a:=by intro kZ;refine dX ?_;refine DUl_0 ?_;exact kZ.out):a:=h ⟨kZ⟩
theorem zra(kZ:b)(h:HidB b→a:=by intro kZ;refine gX ?_;refine DUl_0 ?_;exact kZ.out):a:=h ⟨kZ⟩
end
open Go.Aut
attribute [local irreducible] z0o z0y zl z08 z0v putB encN kbN b0L nxtL
def zx7:QSpec:=fun vs K=>∃ (t:Tab) (l:List Nat),vs=[tabV t,.c (.ds l.length (.ints .i64 (natsI l)))]∧t.fit∧RefIn t l∧K (.tup [.c (.ds (finL t l).length (.ints .i64 (natsI (finL t l)))),.c (.ds (finR t l).length (.ints .i64 (natsI (finR t l))))])
theorem zx8:z1x Tryd.prog gl 139 zx7:=by
 refine z1c (Γ:=g0) (N:=130) Tryd.func139 rfl rfl fun vs K h=>?_;obtain⟨t,l,rfl,ht,hl,h⟩:=h;refine⟨_,h,(List.forall_mem_cons.2 ⟨trivial,(List.forall_mem_cons.2 ⟨trivial,fun _ h=>(by cases h)⟩)⟩),by simp,fun w I=>?_⟩
 have ht0:=ht
 obtain⟨hok,hlen,hnc⟩:=ht0
 have hcl:=hok.clen
 have hll:=hl.len
 refine srR g0_ok fun _ K2=>?_
 iterate 3 refine z1k ?_
 refine s_n K2 ?_;refine leW [0] id [(1,.c (.ds l.length (.ints .i64 (natsI l)))),(2,.c (.dp (tabC t) 0))] [] 0 [] uUl_0 uUl_0 uUl_0 uUl_0 ?_;refine srR g0_ok fun _ K4=>?_;refine z1k ?_;refine z7a ?_;refine exA (.c (.ds t.next.length (.cells (rowsC t.next)))) (as_c (zaa hcl)) ?_
 iterate 3 refine z1k ?_
 refine s_n K4 ?_;refine seq_k fun _ K5=>?_
 have hZ:List.replicate t.next.length (0:Int)=natsI (b0L t l 0):=(b0L_zero t l).symm
 refine leW [] id [(1,.c (.ds l.length (.ints .i64 (natsI l)))),(2,.c (.dp (tabC t) 0)),(6,.c (.slice 0 0 t.next.length t.next.length))] [(0,.own 3 (.ints .i64 (natsI (b0L t l 0))) t.next.length)] 1 [0] uUl_0 uUl_0 uUl_0 uUl_0 ?_;refine srR g0_ok fun _ K7=>?_
 iterate 3 refine z1k ?_
 refine s_n K7 ?_;refine z03 ?_;refine z0m (α:=Nat) (fun k=>[(1,.c (.ds l.length (.ints .i64 (natsI l)))),(2,.c (.dp (tabC t) 0)),(6,.c (.slice 0 0 t.next.length t.next.length)),(24,.c (.ds l.length (.ints .i64 (natsI l)))),(25,.c (.int .i64 (l.length:Nat))),(26,.c (.int .i64 (k:Nat)))]) (fun k=>[(0,.own 3 (.ints .i64 (natsI (b0L t l k))) t.next.length)]) 1 (fun k=>k≤l.length) (fun k=>l.length - k) ?_ ?_
 ·refine dnS [] id 0 (Nat.zero_le _) [0] uUl_0 uUl_0 uUl_0 uUl_0
 ·intro k hk
  have hbll:=ztm t l k
  refine srR g0_ok fun _ K9=>?_;refine z1k ?_;refine s_n K9 ?_;refine seq_k fun _ K10=>?_;refine z04 (b:=_) rfl (fun h_t27=>?_) (fun h_t27=>?_)
  ·try simp only[dQ,reduceIte]at h_t27
   refine z09 ?_;apply K10;refine seq_k fun _ K11=>?_;refine z03 ?_
   have hkl:k< l.length:=by omega
   have hsl:=hl.lt _ (getD_mem' hkl)
   refine srR g0_ok fun _ K13=>?_;refine z1k ?_;refine z7a ?_;refine exA (.c (.int .i64 (((l.getD k 0:Nat):Int)))) (as_i (by rw[←z0q];congr 1;omega)) ?_;refine z1k ?_;refine s_n K13 ?_
   have hal:=hok.alen
   refine srR g0_ok fun _ K15=>?_;refine sXUl_3 ?_;refine zx6 ?_;refine exA (.c (.ds t.acc.length (.bools t.acc))) (as_c (zwu hcl)) ?_
   iterate 2 refine sXUl_3 ?_
   refine zx6 ?_;refine exA (.c (.bool (t.acc.getD (l.getD k 0) false))) (as_b (by congr 1;omega)) ?_;refine s_n K15 ?_;refine z04 (b:=_) rfl (fun h_t34=>?_) (fun h_t34=>?_)
   ·refine z01 g0_ok fun _ K16=>?_
    iterate 3 refine z1k ?_
    refine zow ?_;refine s_n K16 ?_;refine z05 ?_;apply K11;refine z01 g0_ok fun _ K17=>?_
    iterate 2 refine z1k ?_
    refine s_n K17 ?_
    have hS2:(natsI (b0L t l k)).set (0+((l.getD k 0:Nat):Int).toNat*1) 1=natsI (b0L t l (k+1)):=by
     rw[show(1:Int)=((1:Nat):Int) from rfl,z7t,show 0+((l.getD k 0:Nat):Int).toNat*1=l.getD k 0 by omega,b0L_yes hkl (by simpa using h_t34)]
    refine dnS [] id (k+1) ⟨by omega,by omega⟩ [0] uUl_0 uUl_0 uUl_0 uUl_0
   ·refine z09 ?_;refine z05 ?_;apply K11;refine z01 g0_ok fun _ K18=>?_
    iterate 2 refine z1k ?_
    refine s_n K18 ?_
    have hS2:natsI (b0L t l k)=natsI (b0L t l (k+1)):=by rw[b0L_no hkl (by simpa using h_t34)]
    refine dnS [] id (k+1) ⟨by omega,by omega⟩ [0] uUl_0 uUl_0 uUl_0 uUl_0
  ·try simp only[dQ,reduceIte]at h_t27
   refine z0i ?_;refine z00 ?_;refine z00 ?_;refine z0f ?_;apply K5;refine srR g0_ok fun _ K20=>?_;refine z1k ?_;refine s_n K20 ?_;refine z03 ?_
   obtain rfl:k=l.length:=by omega
   refine z0m (α:=List Nat×Nat) (fun s=>[(1,.c (.ds l.length (.ints .i64 (natsI l)))),(2,.c (.dp (tabC t) 0)),(6,.c (.slice 0 0 t.next.length t.next.length)),(9,.c (.int .i64 (s.2:Nat)))]) (fun s=>[(0,.own 3 (.ints .i64 (natsI s.1)) t.next.length)]) 1 (fun s=>Blk (tblT t) l s.1 t.next.length s.2∧s.2≤l.length) (fun s=>l.length+1 - s.2) ?_ ?_
   ·refine dnS [] id (b0L t l l.length,0) ⟨b0_blk hl,Nat.zero_le _⟩ [0] uUl_0 uUl_0 uUl_0 uUl_0
   ·intro s hs
    have hb:=hs.1
    have hs2:=hs.2
    have hbl:=hb.len
    refine z03 ?_;refine srR g0_ok fun _ K22=>?_
    iterate 2 refine z1k ?_
    refine s_n K22 ?_;refine srR g0_ok fun _ K24=>?_
    iterate 4 refine z1k ?_
    refine s_n K24 ?_;refine srR g0_ok fun _ K26=>?_;refine z1k ?_;refine s_n K26 ?_;refine seq_k fun _ K27=>?_;refine srR g0_ok fun _ K29=>?_
    iterate 3 refine z1k ?_
    refine s_n K29 ?_;refine z03 ?_;refine zqb 12 3 (.ints .i64 []) rfl rfl trivial ?_;refine z0m (α:=Nat×Nat) (fun q=>[(1,.c (.ds l.length (.ints .i64 (natsI l)))),(2,.c (.dp (tabC t) 0)),(6,.c (.slice 0 0 t.next.length t.next.length)),(9,.c (.int .i64 (s.2:Nat))),(10,.c (.map 1)),(11,.c (.slice 2 0 t.next.length t.next.length)),(12,.c (.slice 3 0 (z0k (kB t s.1) (l.take q.1)).length q.2)),(43,.c (.ds l.length (.ints .i64 (natsI l)))),(44,.c (.int .i64 (l.length:Nat))),(45,.c (.int .i64 (q.1:Nat)))]) (fun q=>[(0,.own 3 (.ints .i64 (natsI s.1)) t.next.length),(1,.mp 184 (mapE eK (keysO (kB t s.1) (l.take q.1)))),(2,.own 3 (.ints .i64 (natsI (nxtL (tblT t) l s.1 q.1))) t.next.length),(3,.own 3 (.ints .i64 (natsI (z0k (kB t s.1) (l.take q.1)))) q.2)]) 4 (fun q=>q.1≤l.length∧(z0k (kB t s.1) (l.take q.1)).length≤q.2) (fun q=>l.length - q.1) ?_ ?_
    ·have hZ2:List.replicate t.next.length (0:Int)=natsI (nxtL (tblT t) l s.1 0):=by rw[zlt,hbl];simp[natsI]
     refine dnS [] id (0,0) ⟨Nat.zero_le _,Nat.le_refl _⟩ [0,1,2,3] uUl_0 uUl_0 uUl_0 uUl_0
    ·intro q hq
     have hqc:=hq.2
     have hqj:=hq.1
     have hfo:(z0k (kB t s.1) (l.take q.1)).length≤l.length:=by rw[z25];exact Nat.le_trans (z2x _) (by rw[List.length_take];omega)
     have hnl:=z2l (tblT t) l s.1 q.1
     refine srR g0_ok fun _ K31=>?_;refine z1k ?_;refine s_n K31 ?_;refine seq_k fun _ K32=>?_;refine z04 (b:=_) rfl (fun h_t46=>?_) (fun h_t46=>?_)
     ·try simp only[dQ,reduceIte]at h_t46
      refine z09 ?_;apply K32;refine seq_k fun _ K33=>?_;refine z03 ?_
      have hjl:q.1< l.length:=by omega
      have hsl:=hl.lt _ (getD_mem' hjl)
      have hrl:=z8z hok hsl
      refine srR g0_ok fun _ K35=>?_;refine z1k ?_;refine z7a ?_;refine exA (.c (.int .i64 ((((l.getD q.1 0):Nat):Int)))) (as_i (by rw[←z0q];congr 1;omega)) ?_;refine z1k ?_;refine s_n K35 ?_;refine srR g0_ok fun _ K37=>?_;refine z1k ?_;refine z7a ?_;refine exA (.c (.ds t.next.length (.cells (rowsC t.next)))) (as_c (zaa hcl)) ?_
      iterate 2 refine z1k ?_
      refine z7a ?_;refine exA (.c (.ds (t.next.getD (l.getD q.1 0) []).length (.ints .i64 (t.next.getD (l.getD q.1 0) [])))) (as_c (z6e ⟨hsl,by omega⟩)) ?_
      iterate 5 refine z1k ?_
      refine s_n K37 ?_;refine srD g0_ok [(0,true),(1,true),(2,true),(3,true),(4,true),(5,true),(6,true),(7,true),(8,true),(9,true),(10,true),(11,true),(12,false),(13,false),(14,true)] rfl kR kR fun _ K39=>?_
      iterate 4 refine ze1 ?_
      refine zdc ?_;refine exA (.c (.int .i64 (((blkF s.1 (l.getD q.1 0):Nat):Int)))) (as_i ((congrArg (fun i=>(natsI s.1).getD i 0) (by omega)).trans z0q)) ?_
      iterate 4 refine ze1 ?_
      refine zdc ?_;refine exA (.c (.int .i64 (((blkF s.1 (l.getD q.1 0):Nat):Int)))) (as_i ((congrArg (fun i=>(natsI s.1).getD i 0) (by omega)).trans z0q)) ?_;refine zdc ?_;refine exA (.c (.int .i64 (((blkF s.1 (l.getD q.1 0):Nat):Int) / 2 ^ 8))) (as_i (rfl)) ?_;refine ze1 ?_;refine gXUl_6 ?_;refine zra ?_;intro cap13 hcap13;refine exI ?_;refine ze1 ?_;refine d_n K39 ?_;refine seq_k fun _ K40=>?_;refine srR g0_ok fun _ K42=>?_;refine z1k ?_;refine z7a ?_;refine exA (.c (.ds t.next.length (.cells (rowsC t.next)))) (as_c (zaa hcl)) ?_
      iterate 2 refine z1k ?_
      refine z7a ?_;refine exA (.c (.ds (t.next.getD (l.getD q.1 0) []).length (.ints .i64 (t.next.getD (l.getD q.1 0) [])))) (as_c (z6e ⟨hsl,by omega⟩)) ?_
      iterate 2 refine z1k ?_
      refine s_n K42 ?_;refine z03 ?_;refine z0m (α:=Nat×Nat) (fun m=>[(1,.c (.ds l.length (.ints .i64 (natsI l)))),(2,.c (.dp (tabC t) 0)),(6,.c (.slice 0 0 t.next.length t.next.length)),(9,.c (.int .i64 (s.2:Nat))),(10,.c (.map 1)),(11,.c (.slice 2 0 t.next.length t.next.length)),(12,.c (.slice 3 0 (z0k (kB t s.1) (l.take q.1)).length q.2)),(43,.c (.ds l.length (.ints .i64 (natsI l)))),(44,.c (.int .i64 (l.length:Nat))),(45,.c (.int .i64 (q.1:Nat))),(14,.c (.int .i64 ((l.getD q.1 0):Nat))),(15,.c (.slice 4 0 (2+2*m.1) m.2)),(76,.c (.ds (t.next.getD (l.getD q.1 0) []).length (.ints .i64 (t.next.getD (l.getD q.1 0) [])))),(77,.c (.int .i64 ((t.next.getD (l.getD q.1 0) []).length:Nat))),(78,.c (.int .i64 (m.1:Nat)))]) (fun m=>[(0,.own 3 (.ints .i64 (natsI s.1)) t.next.length),(1,.mp 184 (mapE eK (keysO (kB t s.1) (l.take q.1)))),(2,.own 3 (.ints .i64 (natsI (nxtL (tblT t) l s.1 q.1))) t.next.length),(3,.own 3 (.ints .i64 (natsI (z0k (kB t s.1) (l.take q.1)))) q.2),(4,.own 5 (.u8s (encN (kbN t s.1 (l.getD q.1 0) m.1))) m.2)]) 5 (fun m=>m.1≤t.nc∧2+2*m.1≤m.2) (fun m=>t.nc - m.1) ?_ ?_
      ·have K0:[]++[UInt8.ofInt ((blkF s.1 (l.getD q.1 0):Nat):Int),UInt8.ofInt (((blkF s.1 (l.getD q.1 0):Nat):Int) / 2 ^ 8)]=encN (kbN t s.1 (l.getD q.1 0) 0):=by unfold encN kbN;rfl
       refine dnS [] (fun i=>if i=4 then 6 else i) (0,cap13) ⟨Nat.zero_le _,by show 2+2*0≤cap13;omega⟩ [0,1,2,3,6] ?_ ?_ ?_ ?_
       ·exact uUl_0
       ·exact uUl_0
       ·exact uUl_0
       ·exact uUl_0
      ·intro m hm
       have hm1:=hm.1
       have hm2:=hm.2
       have hkl:=zji t s.1 (l.getD q.1 0) m.1
       refine srR g0_ok fun _ K44=>?_;refine z1k ?_;refine s_n K44 ?_;refine seq_k fun _ K45=>?_;refine z04 (b:=_) rfl (fun h_t79=>?_) (fun h_t79=>?_)
       ·try simp only[dQ,reduceIte]at h_t79
        refine z09 ?_;apply K45;refine seq_k fun _ K46=>?_;refine z03 ?_
        have hm:m.1< t.nc:=by omega
        have hx:=nextN hok hsl hm
        refine srR g0_ok fun _ K48=>?_;refine z1k ?_;refine z7a ?_;refine exA (.c (.int .i64 (((((tblT t).δ (l.getD q.1 0) m.1):Nat):Int)))) (as_i (by rw[←hx.2];congr 1;omega)) ?_;refine z1k ?_;refine s_n K48 ?_;refine z69 g0_ok [(0,true),(1,true),(2,true),(3,true),(4,true),(5,true),(6,true),(7,true),(8,true),(9,true),(10,true),(11,true),(12,false),(13,false),(14,true)] rfl kR kR fun _ K49=>?_
        iterate 4 refine ze1 ?_
        refine zdc ?_;refine exA (.c (.int .i64 (((blkF s.1 ((tblT t).δ (l.getD q.1 0) m.1):Nat):Int)))) (as_i ((congrArg (fun i=>(natsI s.1).getD i 0) (by omega)).trans z0q)) ?_
        iterate 4 refine ze1 ?_
        refine zdc ?_;refine exA (.c (.int .i64 (((blkF s.1 ((tblT t).δ (l.getD q.1 0) m.1):Nat):Int)))) (as_i ((congrArg (fun i=>(natsI s.1).getD i 0) (by omega)).trans z0q)) ?_;refine zdc ?_;refine exA (.c (.int .i64 (((blkF s.1 ((tblT t).δ (l.getD q.1 0) m.1):Nat):Int) / 2 ^ 8))) (as_i (rfl)) ?_;refine ze1 ?_;refine gXUl_6 ?_;refine zra ?_;intro cap13 hcap13;refine exI ?_;refine ze1 ?_;refine d_n K49 ?_;refine z05 ?_;apply K46;refine z01 g0_ok fun _ K50=>?_
        iterate 2 refine z1k ?_
        refine s_n K50 ?_
        have K1:encN (kbN t s.1 (l.getD q.1 0) m.1)++([]++[UInt8.ofInt ((blkF s.1 ((tblT t).δ (l.getD q.1 0) m.1):Nat):Int),UInt8.ofInt (((blkF s.1 ((tblT t).δ (l.getD q.1 0) m.1):Nat):Int) / 2 ^ 8)])=encN (kbN t s.1 (l.getD q.1 0) (m.1+1)):=kbN_succ t s.1 (l.getD q.1 0) m.1
        refine dnS [] (fun i=>if i=4 then 6 else i) (m.1+1,cap13) ⟨⟨by show m.1+1≤_;omega,by show 2+2*(m.1+1)≤cap13;omega⟩,by show _ - (m.1+1)< _;omega⟩ [0,1,2,3,6] ?_ ?_ ?_ ?_
        ·exact uUl_0
        ·exact uUl_0
        ·exact uUl_0
        ·exact uUl_0
       ·try simp only[dQ,reduceIte]at h_t79
        refine z0i ?_;refine z00 ?_;refine z00 ?_;refine z0f ?_;apply K40
        have hmn:m.1=t.nc:=by omega
        have hkl:=zji t s.1 (l.getD q.1 0) m.1
        rw[hmn];rw[hmn]at hkl;refine srR g0_ok fun _ K52=>?_
        iterate 3 refine z1k ?_
        refine z7a ?_;refine aI (zwy _) (And.intro (fun jj v hj=>?_) (fun hno=>?_))
        ·obtain⟨rfl,hkin⟩:=zwx hb.few hj
         refine exI ?_
         iterate 5 refine z1k ?_
         refine s_n K52 ?_;refine seq_k fun _ K53=>?_;refine srR g0_ok fun _ K55=>?_
         iterate 2 refine z1k ?_
         refine s_n K55 ?_;refine z04 (b:=_) rfl (fun h_t105=>?_) (fun _=>?_)
         ·exfalso;cases h_t105
         refine z09 ?_;apply K53;refine z01 g0_ok fun _ K56=>?_
         iterate 4 refine z1k ?_
         refine zow ?_;refine s_n K56 ?_;refine z05 ?_;apply K33;refine z01 g0_ok fun _ K57=>?_
         iterate 2 refine z1k ?_
         refine s_n K57 ?_
         have hq:=zx0 t s.1 hjl hkin
         obtain⟨hq1,hq2,hq3⟩:=hq
         have hX1:keysO (kB t s.1) (l.take q.1)=keysO (kB t s.1) (l.take (q.1+1)):=hq1.symm
         have hX2:(natsI (nxtL (tblT t) l s.1 q.1)).set (0+(((l.getD q.1 0):Nat):Int).toNat*1) ((idxK (keysO (kB t s.1) (l.take q.1)) (kB t s.1 (l.getD q.1 0)):Nat):Int)=natsI (nxtL (tblT t) l s.1 (q.1+1)):=by
          rw[←hq3,z7t,show 0+(((l.getD q.1 0):Nat):Int).toNat*1=(l.getD q.1 0) by omega,zbq hjl]
         have hX3:natsI (z0k (kB t s.1) (l.take q.1))=natsI (z0k (kB t s.1) (l.take (q.1+1))):=by rw[hq2]
         have hX4:mapE eK (keysO (kB t s.1) (l.take q.1))=mapE eK (keysO (kB t s.1) (l.take (q.1+1))):=by rw[hq1]
         have hL0:(z0k (kB t s.1) (l.take q.1)).length=(z0k (kB t s.1) (l.take (q.1+1))).length:=by rw[hq2]
         have hL1:(z0k (kB t s.1) (l.take (q.1+1))).length≤q.2:=by rw[hq2];exact hqc
         refine dnS [] id (q.1+1,q.2) ⟨⟨by show q.1+1≤_;omega,hL1⟩,by show _ - (q.1+1)< _;omega⟩ [0,1,2,3] ?_ ?_ ?_ ?_
         ·exact uUl_0
         ·exact uUl_0
         ·exact uUl_0
         ·exact uUl_0
        ·have hkno:=map_no hno
         refine exI ?_
         iterate 5 refine z1k ?_
         refine s_n K52 ?_;refine seq_k fun _ K58=>?_;refine srR g0_ok fun _ K60=>?_
         iterate 2 refine z1k ?_
         refine s_n K60 ?_;refine z04 (b:=_) rfl (fun _=>?_) (fun h_t105=>?_)
         rotate_left 1
         ·exfalso;cases h_t105
         refine srR g0_ok fun _ K62=>?_
         iterate 3 refine z1k ?_
         refine s_n K62 ?_;refine srR g0_ok fun _ K64=>?_
         iterate 4 refine z1k ?_
         refine sX0 ?_;refine aI rfl (And.intro (zwy _) (And.intro (fun jj u hj=>absurd (zwx hb.few hj).2 hkno) (fun hno2=>?_)));refine exI ?_;refine s_n K64 ?_;refine z01 g0_ok fun _ K65=>?_
         iterate 3 refine z1k ?_
         refine z7a ?_;intro cap3 hcap3;refine exI ?_;refine z1k ?_;refine s_n K65 ?_;apply K58;refine z01 g0_ok fun _ K66=>?_
         iterate 4 refine z1k ?_
         refine zow ?_;refine s_n K66 ?_;refine z05 ?_;apply K33;refine z01 g0_ok fun _ K67=>?_
         iterate 2 refine z1k ?_
         refine s_n K67 ?_
         have hq:=ref_no t s.1 hjl hkno
         obtain⟨hq1,hq2,hq3⟩:=hq
         have hX2:(natsI (nxtL (tblT t) l s.1 q.1)).set (0+(((l.getD q.1 0):Nat):Int).toNat*1) (((z0k (kB t s.1) (l.take q.1)).length:Nat):Int)=natsI (nxtL (tblT t) l s.1 (q.1+1)):=by
          rw[←hq3,z7t,show 0+(((l.getD q.1 0):Nat):Int).toNat*1=(l.getD q.1 0) by omega,zbq hjl]
         have hX3:natsI (z0k (kB t s.1) (l.take q.1))++([]++[(((l.getD q.1 0):Nat):Int)])=natsI (z0k (kB t s.1) (l.take (q.1+1))):=by rw[hq2,List.nil_append,z39]
         have hkl:(z0k (kB t s.1) (l.take q.1)).length=(keysO (kB t s.1) (l.take q.1)).length:=z25 _
         have hX4:mapE eK (keysO (kB t s.1) (l.take q.1))++[(.c (.str (encN (kbN t s.1 (l.getD q.1 0) t.nc))),.c (.int .i64 (((z0k (kB t s.1) (l.take q.1)).length:Nat):Int)))]=mapE eK (keysO (kB t s.1) (l.take (q.1+1))):=by rw[hq1,hkl, ←zgg, ←zjj]
         have hL0:(z0k (kB t s.1) (l.take q.1)).length+1=(z0k (kB t s.1) (l.take (q.1+1))).length:=by rw[hq2,List.length_append];rfl
         have hL1:(z0k (kB t s.1) (l.take (q.1+1))).length≤cap3:=by rw[←hL0];omega
         refine dnS [] (fun i=>if i=3 then 6 else i) (q.1+1,cap3) ⟨⟨by show q.1+1≤_;omega,hL1⟩,by show _ - (q.1+1)< _;omega⟩ [0,1,2,6] ?_ ?_ ?_ ?_
         ·exact uUl_0
         ·exact uUl_0
         ·exact uUl_0
         ·exact uUl_0
     ·try simp only[dQ,reduceIte]at h_t46
      refine z0i ?_;refine z00 ?_;refine z00 ?_;refine z0f ?_;apply K27;refine seq_k fun _ K68=>?_
      have hql:q.1=l.length:=by omega
      have hfl:(z0k (kB t s.1) (l.take q.1)).length=z2g (tblT t) l (blkF s.1):=by rw[hql,List.take_length];exact z25 _
      refine srR g0_ok fun _ K70=>?_
      iterate 4 refine z1k ?_
      refine s_n K70 ?_;refine z04 (b:=_) rfl (fun h_t124=>?_) (fun h_t124=>?_)
      ·try simp only[dQ,reduceIte]at h_t124
       refine srR g0_ok fun _ K72=>?_
       iterate 4 refine z1k ?_
       refine s_n K72 ?_
       have hce:z2g (tblT t) l (blkF s.1)=s.2:=by omega
       have hout:=zqs hb hce hl.pos hl.lt hl.len hl.cl hok.byte
       have hfe:(z0k (kB t s.1) (l.take q.1))=z0k (kB t s.1) l:=by rw[hql,List.take_length]
       rw[hfe,show nxtL (tblT t) l s.1 q.1=nxtL (tblT t) l s.1 l.length by rw[hql]]
       have hol:=hout.len
       obtain⟨hf1,hf2⟩:=ref_fin ht hl hb hce;rw[hf1,hf2]
       have hfl2:=z6f t l
       refine z0e (z0g g0_ok (fun _ _ h=>h) ((List.forall_mem_cons.2 ⟨trivial,(List.forall_mem_cons.2 ⟨trivial,fun _ h=>(by cases h)⟩)⟩)) [2,3] [.tmp 4,.tmp 5] rfl ?_)
       all_goals exact uUl_0
      ·try simp only[dQ,reduceIte]at h_t124
       refine z09 ?_;apply K68;refine z01 g0_ok fun _ K73=>?_
       iterate 5 refine z1k ?_
       refine s_n K73 ?_;refine z05 ?_
       have hne:z2g (tblT t) l (blkF s.1)≠s.2:=by intro e;apply h_t124;rw[hfl,e]
       have hnx:=zee hb hl.lt hl.len hl.cl hok.byte
       have hcp:=zbr (t:=tblT t) (l:=l) (bl:=s.1) hl.pos
       have hcl2:=zqr (t:=tblT t) (l:=l) (bl:=s.1)
       have hcm:s.2≤z2g (tblT t) l (blkF s.1):=by
        rcases Nat.eq_zero_or_pos s.2 with e|e
        ·omega
        ·exact zlu hb e
       rw[hfl,hql];refine dnS [] (fun _=>2) (nxtL (tblT t) l s.1 l.length,z2g (tblT t) l (blkF s.1)) ⟨⟨hnx,hcl2⟩,by show _+1 - z2g (tblT t) l (blkF s.1)< _;omega⟩ [2] ?_ ?_ ?_ ?_
       ·exact uUl_0
       ·exact uUl_0
       ·exact uUl_0
       ·exact uUl_0


end Go.Proofs.YtppmnaoollkboaaDoor
