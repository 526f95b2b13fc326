/- Contracts of functions and plain facts, part 5. -/
import Derived.Test.YtpdljmohhpbkpaaDoorNd
set_option linter.all false
set_option maxHeartbeats 2000000
set_option maxRecDepth 4000
namespace Go.Proofs.YtpdljmohhpbkpaaDoor
open Go.Ab Go.RowKit

section
variable {a b:Prop}
theorem FJ(h:a:=by first|exact gG|(simp[-List.reduceReplicate]<;>omega)|exact vV|(simp only[NQ,T6];omega)|(rw[NQ,T6];omega)|exact gH):a:=h
theorem FK(h:a:=by first|exact gG|(simp[-List.reduceReplicate]<;>omega)|exact vV|(have:=hok.alen;omega)|exact gH):a:=h
theorem bV(h:a:=by
    repeat' (first|assumption|exact ve NS _ _|exact qY NS _|exact pT|exact trivial|refine aI ?_ ?_|exact iM|refine low_cons' ?_ ?_|exact iN|fail)
    all_goals first|omega|exact hL0|(rw[hX4];exact qY NS _)|exact qY NS _ _ (by assumption)|(show(_:List Int)=_;first|assumption|rfl)|(show(_:List UInt8)=_;first|assumption|rfl)|(show(_:List (SV×SV))=_;first|assumption|rfl)|exact ve NS _ _|exact qY NS _|(show(0:Nat)< (au _ _ _ _).length;rw[dJ hcl];decide)|(simp[-List.reduceReplicate];done)|(simp[-List.reduceReplicate]<;>omega)|skip):a:=h
theorem oK(kZ:b)(h:aK b->a:=by intro kZ;(repeat first|refine aI FJ ?_|refine bW FJ ?_|refine dC FJ ?_|refine fT FJ ?_|refine fA ?_);exact kZ.out):a:=h ⟨kZ⟩
theorem z21(kZ:b)(h:aK b->a:=by intro kZ;refine sX ?_;refine oK ?_;refine aL ?_;exact kZ.out):a:=h ⟨kZ⟩
theorem Hq(kZ:b)(h:aK b->a:=by intro kZ;(repeat first|refine aI FK ?_|refine bW FK ?_|refine dC FK ?_|refine fT FK ?_|refine fA ?_);exact kZ.out):a:=h ⟨kZ⟩
theorem Ak(kZ:b)(h:aK b->a:=by intro kZ;refine sX ?_;refine Hq ?_;refine aL ?_;exact kZ.out):a:=h ⟨kZ⟩
theorem ZM(kZ:b)(h:aK b->a:=by intro kZ;refine jl ?_;refine oK ?_;refine aL ?_;exact kZ.out):a:=h ⟨kZ⟩
theorem JY(kZ:b)(h:aK b->a:=by intro kZ;refine dX ?_;refine oK ?_;refine aL ?_;exact kZ.out):a:=h ⟨kZ⟩
theorem yR(kZ:b)(h:aK b->a:=by intro kZ;refine gX ?_;refine oK ?_;refine aL ?_;exact kZ.out):a:=h ⟨kZ⟩
theorem C6(kZ:b)(h:aK b->a:=by intro kZ;refine sX ?_;refine oK ?_;exact kZ.out):a:=h ⟨kZ⟩
theorem y1m(kZ:b)(h:aK b->a:=by intro kZ;refine sX ?_;refine Hq ?_;exact kZ.out):a:=h ⟨kZ⟩
theorem NT(kZ:b)(h:aK b->a:=by intro kZ;refine dX ?_;refine oK ?_;exact kZ.out):a:=h ⟨kZ⟩
theorem zvq(kZ:b)(h:aK b->a:=by intro kZ;refine gX ?_;refine oK ?_;exact kZ.out):a:=h ⟨kZ⟩
end
open Go.Aut
attribute [local irreducible] eG z12 zl au gz cr gU qM om cz
def y1n:aW:=fun vs K=>∃ (t:Tab) (l:List Nat),vs=[bu t,.c (.ds l.length (.ints .i64 (aG l)))]/\t.fit/\nP t l/\K (.tup [.c (.ds (mD t l).length (.ints .i64 (aG (mD t l)))),.c (.ds (oQ t l).length (.ints .i64 (aG (oQ t l))))])
theorem y1o:jr Tryd.prog gl 63 y1n:=by
 refine kJ (Γ:=g0) (N:=130) Tryd.func63 rfl rfl fun vs K h=>?_;obtain⟨t,l,rfl,ht,hl,h⟩:=h;refine⟨_,h,(List.forall_mem_cons.2 ⟨trivial,(List.forall_mem_cons.2 ⟨trivial,fun _ h=>(by cases h)⟩)⟩),by simp,fun w I=>?_⟩
 have ht0:=ht
 obtain⟨hok,hlen,hnc⟩:=ht0
 have hcl:=hok.clen
 have hll:=hl.len
 refine aO aF fun _ K2=>?_
 iterate 3 refine z21 ?_
 refine aJ K2 (fQ [0] id [(1,.c (.ds l.length (.ints .i64 (aG l)))),(2,.c (.dp (dP t) 0))] [] 0 [] bV bV bV bV (aO aF fun _ K4=>z21 ?_));refine C6 ?_;refine aU (.c (.ds t.next.length (.cells (aS t.next)))) (ak (sD hcl)) ?_
 iterate 3 refine z21 ?_
 refine aJ K4 (aH fun _ K5=>?_)
 have hZ:List.replicate t.next.length (0:Int)=aG (om t l 0):=(xB t l).symm
 refine fQ [] id [(1,.c (.ds l.length (.ints .i64 (aG l)))),(2,.c (.dp (dP t) 0)),(6,.c (.slice 0 0 t.next.length t.next.length))] [(0,.own 3 (.ints .i64 (aG (om t l 0))) t.next.length)] 1 [0] bV bV bV bV (aO aF fun _ K7=>?_)
 iterate 3 refine z21 ?_
 refine aJ K7 (bO (fM (α:=Nat) (fun k=>[(1,.c (.ds l.length (.ints .i64 (aG l)))),(2,.c (.dp (dP t) 0)),(6,.c (.slice 0 0 t.next.length t.next.length)),(24,.c (.ds l.length (.ints .i64 (aG l)))),(25,.c (.int .i64 (l.length:Nat))),(26,.c (.int .i64 (k:Nat)))]) (fun k=>[(0,.own 3 (.ints .i64 (aG (om t l k))) t.next.length)]) 1 (fun k=>k<=l.length) (fun k=>l.length - k) ?_ ?_))
 ·refine ai [] id 0 (Nat.zero_le _) [0] bV bV bV bV
 ·intro k hk
  have hbll:=zy8 t l k
  refine aO aF fun _ K9=>z21 ?_;refine aJ K9 (aH fun _ K10=>bC (b:=_) rfl (fun h_t27=>?_) (fun h_t27=>?_))
  ·try simp only[dQ,reduceIte]at h_t27
   refine bK (K10 _ _ _ (aH fun _ K11=>bO ?_))
   have hkl:k< l.length:=by omega
   have hsl:=hl.lt _ (getD_mem' hkl)
   refine aO aF fun _ K13=>z21 ?_;refine C6 ?_;refine aU (.c (.int .i64 (((l.getD k 0:Nat):Int)))) (az (by rw[<-jd];congr 1;omega)) (z21 ?_);refine aJ K13 ?_
   have hal:=hok.alen
   refine aO aF fun _ K15=>Ak ?_;refine y1m ?_;refine aU (.c (.ds t.acc.length (.bools t.acc))) (ak (JX hcl)) ?_
   iterate 2 refine Ak ?_
   refine y1m ?_;refine aU (.c (.bool (t.acc.getD (l.getD k 0) false))) (dN (by congr 1;omega)) (aJ K15 (bC (b:=_) rfl (fun h_t34=>?_) (fun h_t34=>?_)))
   ·refine bB aF fun _ K16=>?_
    iterate 3 refine z21 ?_
    refine ZM ?_;refine aJ K16 (dD (K11 _ _ _ (bB aF fun _ K17=>?_)))
    iterate 2 refine z21 ?_
    refine aJ K17 ?_
    have hS2:(aG (om t l k)).set (0+((l.getD k 0:Nat):Int).toNat*1) 1=aG (om t l (k+1)):=by
     rw[show(1:Int)=((1:Nat):Int) from rfl,Mt,show 0+((l.getD k 0:Nat):Int).toNat*1=l.getD k 0 by omega,Ct hkl (by simpa using h_t34)]
    refine ai [] id (k+1) ⟨by omega,by omega⟩ [0] bV bV bV bV
   ·refine bK (dD (K11 _ _ _ (bB aF fun _ K18=>?_)))
    iterate 2 refine z21 ?_
    refine aJ K18 ?_
    have hS2:aG (om t l k)=aG (om t l (k+1)):=by rw[Jp hkl (by simpa using h_t34)]
    refine ai [] id (k+1) ⟨by omega,by omega⟩ [0] bV bV bV bV
  ·try simp only[dQ,reduceIte]at h_t27
   refine eY (bJ (bJ (eX (K5 _ _ _ (aO aF fun _ K20=>z21 ?_)))));refine aJ K20 (bO ?_)
   obtain rfl:k=l.length:=by omega
   refine fM (α:=List Nat×Nat) (fun s=>[(1,.c (.ds l.length (.ints .i64 (aG l)))),(2,.c (.dp (dP t) 0)),(6,.c (.slice 0 0 t.next.length t.next.length)),(9,.c (.int .i64 (s.2:Nat)))]) (fun s=>[(0,.own 3 (.ints .i64 (aG s.1)) t.next.length)]) 1 (fun s=>vN (aD t) l s.1 t.next.length s.2/\s.2<=l.length) (fun s=>l.length+1 - s.2) ?_ ?_
   ·refine ai [] id (om t l l.length,0) ⟨Jq hl,Nat.zero_le _⟩ [0] bV bV bV bV
   ·intro s hs
    have hb:=hs.1
    have hs2:=hs.2
    have hbl:=hb.len
    refine bO (aO aF fun _ K22=>?_)
    iterate 2 refine z21 ?_
    refine aJ K22 (aO aF fun _ K24=>?_)
    iterate 4 refine z21 ?_
    refine aJ K24 (aO aF fun _ K26=>z21 ?_);refine aJ K26 (aH fun _ K27=>aO aF fun _ K29=>?_)
    iterate 3 refine z21 ?_
    refine aJ K29 (bO (UD 12 3 (.ints .i64 []) rfl rfl trivial (fM (α:=Nat×Nat) (fun q=>[(1,.c (.ds l.length (.ints .i64 (aG l)))),(2,.c (.dp (dP t) 0)),(6,.c (.slice 0 0 t.next.length t.next.length)),(9,.c (.int .i64 (s.2:Nat))),(10,.c (.map 1)),(11,.c (.slice 2 0 t.next.length t.next.length)),(12,.c (.slice 3 0 (dK (kB t s.1) (l.take q.1)).length q.2)),(43,.c (.ds l.length (.ints .i64 (aG l)))),(44,.c (.int .i64 (l.length:Nat))),(45,.c (.int .i64 (q.1:Nat)))]) (fun q=>[(0,.own 3 (.ints .i64 (aG s.1)) t.next.length),(1,.mp 118 (dh eK (aY (kB t s.1) (l.take q.1)))),(2,.own 3 (.ints .i64 (aG (cz (aD t) l s.1 q.1))) t.next.length),(3,.own 3 (.ints .i64 (aG (dK (kB t s.1) (l.take q.1)))) q.2)]) 4 (fun q=>q.1<=l.length/\(dK (kB t s.1) (l.take q.1)).length<=q.2) (fun q=>l.length - q.1) ?_ ?_)))
    ·have hZ2:List.replicate t.next.length (0:Int)=aG (cz (aD t) l s.1 0):=by rw[zq3,hbl];simp[aG]
     refine ai [] id (0,0) ⟨Nat.zero_le _,Nat.le_refl _⟩ [0,1,2,3] bV bV bV bV
    ·intro q hq
     have hqc:=hq.2
     have hqj:=hq.1
     have hfo:(dK (kB t s.1) (l.take q.1)).length<=l.length:=by rw[qU];exact Nat.le_trans (vZ _) (by rw[List.length_take];omega)
     have hnl:=Bh (aD t) l s.1 q.1
     refine aO aF fun _ K31=>z21 ?_;refine aJ K31 (aH fun _ K32=>bC (b:=_) rfl (fun h_t46=>?_) (fun h_t46=>?_))
     ·try simp only[dQ,reduceIte]at h_t46
      refine bK (K32 _ _ _ (aH fun _ K33=>bO ?_))
      have hjl:q.1< l.length:=by omega
      have hsl:=hl.lt _ (getD_mem' hjl)
      have hrl:=oz hok hsl
      refine aO aF fun _ K35=>z21 ?_;refine C6 ?_;refine aU (.c (.int .i64 ((((l.getD q.1 0):Nat):Int)))) (az (by rw[<-jd];congr 1;omega)) (z21 ?_);refine aJ K35 (aO aF fun _ K37=>z21 ?_);refine C6 ?_;refine aU (.c (.ds t.next.length (.cells (aS t.next)))) (ak (sD hcl)) ?_
      iterate 2 refine z21 ?_
      refine C6 ?_;refine aU (.c (.ds (t.next.getD (l.getD q.1 0) []).length (.ints .i64 (t.next.getD (l.getD q.1 0) [])))) (ak (oh ⟨hsl,by omega⟩)) ?_
      iterate 5 refine z21 ?_
      refine aJ K37 (vR aF [(0,true),(1,true),(2,true),(3,true),(4,true),(5,true),(6,true),(7,true),(8,true),(9,true),(10,true),(11,true),(12,false),(13,false),(14,true)] rfl aN aN fun _ K39=>?_)
      iterate 4 refine JY ?_
      refine NT ?_;refine aU (.c (.int .i64 (((aM s.1 (l.getD q.1 0):Nat):Int)))) (az ((congrArg (fun i=>(aG s.1).getD i 0) (by omega)).trans jd)) ?_
      iterate 4 refine JY ?_
      refine NT ?_;refine aU (.c (.int .i64 (((aM s.1 (l.getD q.1 0):Nat):Int)))) (az ((congrArg (fun i=>(aG s.1).getD i 0) (by omega)).trans jd)) (NT ?_);refine aU (.c (.int .i64 (((aM s.1 (l.getD q.1 0):Nat):Int) / 2 ^ 8))) (az (rfl)) (JY ?_);refine yR ?_;refine zvq ?_;intro cap13 hcap13;refine aL (JY ?_);refine iF K39 (aH fun _ K40=>aO aF fun _ K42=>z21 ?_);refine C6 ?_;refine aU (.c (.ds t.next.length (.cells (aS t.next)))) (ak (sD hcl)) ?_
      iterate 2 refine z21 ?_
      refine C6 ?_;refine aU (.c (.ds (t.next.getD (l.getD q.1 0) []).length (.ints .i64 (t.next.getD (l.getD q.1 0) [])))) (ak (oh ⟨hsl,by omega⟩)) ?_
      iterate 2 refine z21 ?_
      refine aJ K42 (bO (fM (α:=Nat×Nat) (fun m=>[(1,.c (.ds l.length (.ints .i64 (aG l)))),(2,.c (.dp (dP t) 0)),(6,.c (.slice 0 0 t.next.length t.next.length)),(9,.c (.int .i64 (s.2:Nat))),(10,.c (.map 1)),(11,.c (.slice 2 0 t.next.length t.next.length)),(12,.c (.slice 3 0 (dK (kB t s.1) (l.take q.1)).length q.2)),(43,.c (.ds l.length (.ints .i64 (aG l)))),(44,.c (.int .i64 (l.length:Nat))),(45,.c (.int .i64 (q.1:Nat))),(14,.c (.int .i64 ((l.getD q.1 0):Nat))),(15,.c (.slice 4 0 (2+2*m.1) m.2)),(76,.c (.ds (t.next.getD (l.getD q.1 0) []).length (.ints .i64 (t.next.getD (l.getD q.1 0) [])))),(77,.c (.int .i64 ((t.next.getD (l.getD q.1 0) []).length:Nat))),(78,.c (.int .i64 (m.1:Nat)))]) (fun m=>[(0,.own 3 (.ints .i64 (aG s.1)) t.next.length),(1,.mp 118 (dh eK (aY (kB t s.1) (l.take q.1)))),(2,.own 3 (.ints .i64 (aG (cz (aD t) l s.1 q.1))) t.next.length),(3,.own 3 (.ints .i64 (aG (dK (kB t s.1) (l.take q.1)))) q.2),(4,.own 5 (.u8s (gU (qM t s.1 (l.getD q.1 0) m.1))) m.2)]) 5 (fun m=>m.1<=t.nc/\2+2*m.1<=m.2) (fun m=>t.nc - m.1) ?_ ?_))
      ·have K0:[]++[UInt8.ofInt ((aM s.1 (l.getD q.1 0):Nat):Int),UInt8.ofInt (((aM s.1 (l.getD q.1 0):Nat):Int) / 2 ^ 8)]=gU (qM t s.1 (l.getD q.1 0) 0):=by unfold gU qM;rfl
       refine ai [] (fun i=>if i=4 then 6 else i) (0,cap13) ⟨Nat.zero_le _,by show 2+2*0<=cap13;omega⟩ [0,1,2,3,6] ?_ ?_ ?_ ?_
       ·exact bV
       ·exact bV
       ·exact bV
       ·exact bV
      ·intro m hm
       have hm1:=hm.1
       have hm2:=hm.2
       have hkl:=T6 t s.1 (l.getD q.1 0) m.1
       refine aO aF fun _ K44=>z21 ?_;refine aJ K44 (aH fun _ K45=>bC (b:=_) rfl (fun h_t79=>?_) (fun h_t79=>?_))
       ·try simp only[dQ,reduceIte]at h_t79
        refine bK (K45 _ _ _ (aH fun _ K46=>bO ?_))
        have hm:m.1< t.nc:=by omega
        have hx:=bz hok hsl hm
        refine aO aF fun _ K48=>z21 ?_;refine C6 ?_;refine aU (.c (.int .i64 (((((aD t).δ (l.getD q.1 0) m.1):Nat):Int)))) (az (by rw[<-hx.2];congr 1;omega)) (z21 ?_);refine aJ K48 (ry aF [(0,true),(1,true),(2,true),(3,true),(4,true),(5,true),(6,true),(7,true),(8,true),(9,true),(10,true),(11,true),(12,false),(13,false),(14,true)] rfl aN aN fun _ K49=>?_)
        iterate 4 refine JY ?_
        refine NT ?_;refine aU (.c (.int .i64 (((aM s.1 ((aD t).δ (l.getD q.1 0) m.1):Nat):Int)))) (az ((congrArg (fun i=>(aG s.1).getD i 0) (by omega)).trans jd)) ?_
        iterate 4 refine JY ?_
        refine NT ?_;refine aU (.c (.int .i64 (((aM s.1 ((aD t).δ (l.getD q.1 0) m.1):Nat):Int)))) (az ((congrArg (fun i=>(aG s.1).getD i 0) (by omega)).trans jd)) (NT ?_);refine aU (.c (.int .i64 (((aM s.1 ((aD t).δ (l.getD q.1 0) m.1):Nat):Int) / 2 ^ 8))) (az (rfl)) (JY ?_);refine yR ?_;refine zvq ?_;intro cap13 hcap13;refine aL (JY ?_);refine iF K49 (dD (K46 _ _ _ (bB aF fun _ K50=>?_)))
        iterate 2 refine z21 ?_
        refine aJ K50 ?_
        have K1:gU (qM t s.1 (l.getD q.1 0) m.1)++([]++[UInt8.ofInt ((aM s.1 ((aD t).δ (l.getD q.1 0) m.1):Nat):Int),UInt8.ofInt (((aM s.1 ((aD t).δ (l.getD q.1 0) m.1):Nat):Int) / 2 ^ 8)])=gU (qM t s.1 (l.getD q.1 0) (m.1+1)):=y7 t s.1 (l.getD q.1 0) m.1
        refine ai [] (fun i=>if i=4 then 6 else i) (m.1+1,cap13) ⟨⟨by show m.1+1<=_;omega,by show 2+2*(m.1+1)<=cap13;omega⟩,by show _ - (m.1+1)< _;omega⟩ [0,1,2,3,6] ?_ ?_ ?_ ?_
        ·exact bV
        ·exact bV
        ·exact bV
        ·exact bV
       ·try simp only[dQ,reduceIte]at h_t79
        refine eY (bJ (bJ (eX (K40 _ _ _ ?_))))
        have hmn:m.1=t.nc:=by omega
        have hkl:=T6 t s.1 (l.getD q.1 0) m.1
        rw[hmn];rw[hmn]at hkl;refine aO aF fun _ K52=>?_
        iterate 3 refine z21 ?_
        refine C6 ?_;refine aI (y19 _) (And.intro (fun jj v hj=>?_) (fun hno=>?_))
        ·obtain⟨rfl,hkin⟩:=y18 hb.few hj
         refine aL ?_
         iterate 5 refine z21 ?_
         refine aJ K52 (aH fun _ K53=>aO aF fun _ K55=>?_)
         iterate 2 refine z21 ?_
         refine aJ K55 (bC (b:=_) rfl (fun h_t105=>?_) (fun _=>?_))
         ·exfalso;cases h_t105
         refine bK (K53 _ _ _ (bB aF fun _ K56=>?_))
         iterate 4 refine z21 ?_
         refine ZM ?_;refine aJ K56 (dD (K33 _ _ _ (bB aF fun _ K57=>?_)))
         iterate 2 refine z21 ?_
         refine aJ K57 ?_
         have hq:=y1b t s.1 hjl hkin
         obtain⟨hq1,hq2,hq3⟩:=hq
         have hX1:aY (kB t s.1) (l.take q.1)=aY (kB t s.1) (l.take (q.1+1)):=hq1.symm
         have hX2:(aG (cz (aD t) l s.1 q.1)).set (0+(((l.getD q.1 0):Nat):Int).toNat*1) ((fF (aY (kB t s.1) (l.take q.1)) (kB t s.1 (l.getD q.1 0)):Nat):Int)=aG (cz (aD t) l s.1 (q.1+1)):=by
          rw[<-hq3,Mt,show 0+(((l.getD q.1 0):Nat):Int).toNat*1=(l.getD q.1 0) by omega,S7 hjl]
         have hX3:aG (dK (kB t s.1) (l.take q.1))=aG (dK (kB t s.1) (l.take (q.1+1))):=by rw[hq2]
         have hX4:dh eK (aY (kB t s.1) (l.take q.1))=dh eK (aY (kB t s.1) (l.take (q.1+1))):=by rw[hq1]
         have hL0:(dK (kB t s.1) (l.take q.1)).length=(dK (kB t s.1) (l.take (q.1+1))).length:=by rw[hq2]
         have hL1:(dK (kB t s.1) (l.take (q.1+1))).length<=q.2:=by rw[hq2];exact hqc
         refine ai [] id (q.1+1,q.2) ⟨⟨by show q.1+1<=_;omega,hL1⟩,by show _ - (q.1+1)< _;omega⟩ [0,1,2,3] ?_ ?_ ?_ ?_
         ·exact bV
         ·exact bV
         ·exact bV
         ·exact bV
        ·have hkno:=KY hno
         refine aL ?_
         iterate 5 refine z21 ?_
         refine aJ K52 (aH fun _ K58=>aO aF fun _ K60=>?_)
         iterate 2 refine z21 ?_
         refine aJ K60 (bC (b:=_) rfl (fun _=>?_) (fun h_t105=>?_))
         rotate_left 1
         ·exfalso;cases h_t105
         refine aO aF fun _ K62=>?_
         iterate 3 refine z21 ?_
         refine aJ K62 (aO aF fun _ K64=>?_)
         iterate 4 refine z21 ?_
         refine jl ?_;refine aI rfl (And.intro (y19 _) (And.intro (fun jj u hj=>absurd (y18 hb.few hj).2 hkno) (fun hno2=>?_)));refine aL (aJ K64 (bB aF fun _ K65=>?_))
         iterate 3 refine z21 ?_
         refine C6 ?_;intro cap3 hcap3;refine aL (z21 ?_);refine aJ K65 (K58 _ _ _ (bB aF fun _ K66=>?_))
         iterate 4 refine z21 ?_
         refine ZM ?_;refine aJ K66 (dD (K33 _ _ _ (bB aF fun _ K67=>?_)))
         iterate 2 refine z21 ?_
         refine aJ K67 ?_
         have hq:=AC t s.1 hjl hkno
         obtain⟨hq1,hq2,hq3⟩:=hq
         have hX2:(aG (cz (aD t) l s.1 q.1)).set (0+(((l.getD q.1 0):Nat):Int).toNat*1) (((dK (kB t s.1) (l.take q.1)).length:Nat):Int)=aG (cz (aD t) l s.1 (q.1+1)):=by
          rw[<-hq3,Mt,show 0+(((l.getD q.1 0):Nat):Int).toNat*1=(l.getD q.1 0) by omega,S7 hjl]
         have hX3:aG (dK (kB t s.1) (l.take q.1))++([]++[(((l.getD q.1 0):Nat):Int)])=aG (dK (kB t s.1) (l.take (q.1+1))):=by rw[hq2,List.nil_append,z39]
         have hkl:(dK (kB t s.1) (l.take q.1)).length=(aY (kB t s.1) (l.take q.1)).length:=qU _
         have hX4:dh eK (aY (kB t s.1) (l.take q.1))++[(.c (.str (gU (qM t s.1 (l.getD q.1 0) t.nc))),.c (.int .i64 (((dK (kB t s.1) (l.take q.1)).length:Nat):Int)))]=dh eK (aY (kB t s.1) (l.take (q.1+1))):=by rw[hq1,hkl, <-Sd, <-T7]
         have hL0:(dK (kB t s.1) (l.take q.1)).length+1=(dK (kB t s.1) (l.take (q.1+1))).length:=by rw[hq2,List.length_append];rfl
         have hL1:(dK (kB t s.1) (l.take (q.1+1))).length<=cap3:=by rw[<-hL0];omega
         refine ai [] (fun i=>if i=3 then 6 else i) (q.1+1,cap3) ⟨⟨by show q.1+1<=_;omega,hL1⟩,by show _ - (q.1+1)< _;omega⟩ [0,1,2,6] ?_ ?_ ?_ ?_
         ·exact bV
         ·exact bV
         ·exact bV
         ·exact bV
     ·try simp only[dQ,reduceIte]at h_t46
      refine eY (bJ (bJ (eX (K27 _ _ _ (aH fun _ K68=>?_)))))
      have hql:q.1=l.length:=by omega
      have hfl:(dK (kB t s.1) (l.take q.1)).length=z36 (aD t) l (aM s.1):=by rw[hql,List.take_length];exact qU _
      refine aO aF fun _ K70=>?_
      iterate 4 refine z21 ?_
      refine aJ K70 (bC (b:=_) rfl (fun h_t124=>?_) (fun h_t124=>?_))
      ·try simp only[dQ,reduceIte]at h_t124
       refine aO aF fun _ K72=>?_
       iterate 4 refine z21 ?_
       refine aJ K72 ?_
       have hce:z36 (aD t) l (aM s.1)=s.2:=by omega
       have hout:=zv3 hb hce hl.pos hl.lt hl.len hl.cl hok.byte
       have hfe:(dK (kB t s.1) (l.take q.1))=dK (kB t s.1) l:=by rw[hql,List.take_length]
       rw[hfe,show cz (aD t) l s.1 q.1=cz (aD t) l s.1 l.length by rw[hql]]
       have hol:=hout.len
       obtain⟨hf1,hf2⟩:=Fb ht hl hb hce;rw[hf1,hf2]
       have hfl2:=PP t l
       refine bQ (gT aF (fun _ _ h=>h) ((List.forall_mem_cons.2 ⟨trivial,(List.forall_mem_cons.2 ⟨trivial,fun _ h=>(by cases h)⟩)⟩)) [2,3] [.tmp 4,.tmp 5] rfl ?_)
       all_goals exact bV
      ·try simp only[dQ,reduceIte]at h_t124
       refine bK (K68 _ _ _ (bB aF fun _ K73=>?_))
       iterate 5 refine z21 ?_
       refine aJ K73 (dD ?_)
       have hne:z36 (aD t) l (aM s.1)≠s.2:=by intro e;apply h_t124;rw[hfl,e]
       have hnx:=Sz hb hl.lt hl.len hl.cl hok.byte
       have hcp:=S8 (t:=aD t) (l:=l) (bl:=s.1) hl.pos
       have hcl2:=zv2 (t:=aD t) (l:=l) (bl:=s.1)
       have hcm:s.2<=z36 (aD t) l (aM s.1):=by
        rcases Nat.eq_zero_or_pos s.2 with e|e
        ·omega
        ·exact zq4 hb e
       rw[hfl,hql];refine ai [] (fun _=>2) (cz (aD t) l s.1 l.length,z36 (aD t) l (aM s.1)) ⟨⟨hnx,hcl2⟩,by show _+1 - z36 (aD t) l (aM s.1)< _;omega⟩ [2] ?_ ?_ ?_ ?_
       ·exact bV
       ·exact bV
       ·exact bV
       ·exact bV


end Go.Proofs.YtpdljmohhpbkpaaDoor
