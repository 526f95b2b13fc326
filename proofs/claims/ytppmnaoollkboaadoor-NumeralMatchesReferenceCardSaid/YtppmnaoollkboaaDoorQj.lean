/- Contracts of functions and plain facts, part 10. -/
import Derived.Test.YtppmnaoollkboaaDoorQh
import Derived.Test.YtppmnaoollkboaaDoorQd
set_option maxHeartbeats 2000000
set_option maxRecDepth 4000
namespace Go.Proofs.YtppmnaoollkboaaDoor
set_option linter.all false
open Go.Ab Go.RowKit

open Go.Aut
def cN(t:Tab):Nat→Nat:=(tblT t).cell
abbrev jk(a b:Tab):Nat→Nat×Nat:=jkey (cN a) (cN b)
def jL(a b:Tab)(k:Nat):List Int:=(List.range 256).map fun x=>if x< k then((jcell (cN a) (cN b) x:Nat):Int)else 0
attribute [local irreducible] z0o z0y zl z08 z0v putB jL jcell jrep
end Go.Proofs.YtppmnaoollkboaaDoor

namespace Go.Proofs.YtppmnaoollkboaaDoor
set_option linter.all false
open Go.Ab Go.RowKit

open Go.Aut
def bF1(t:Tab)(s b:Nat):Nat:=(tblT t).δ s (cN t b)
abbrev oB(t:Tab)(p:Nat):List Nat:=expO (bF1 t) 256 0 p
abbrev wB(t:Tab)(p:Nat):List (List Nat):=wrdO (bF1 t) p
theorem bF1_lt{t:Tab}(h:t.ok){s b:Nat}(hs:s< t.next.length)(hb:b< 256):bF1 t s b< t.next.length:=(nextN h hs (cellN h hb).1).1
theorem oB_lt {t:Tab} (h:t.ok):∀ p,∀ x∈oB t p,x< t.next.length
  | 0,x,hx=>by
    have hx:x∈[0]:=hx
    rw[List.mem_singleton.1 hx];exact h.npos
  | p + 1,x,hx=>by
    have ih:=oB_lt h p
    have hx:x∈addG (oB t p) (bF1 t ((oB t p).getD (p / 256) default) (p%256)):=hx
    rw[addG]at hx
    split at hx
    · exact ih x hx
    · rcases List.mem_append.1 hx with hx|hx
      · exact ih x hx
      · rw[List.mem_singleton.1 hx]
        refine bF1_lt h ?_ (Nat.mod_lt _ (by decide));rw[List.getD_eq_getElem?_getD]
        cases e:(oB t p)[p / 256]? with
        |none=>exact h.npos
        |some y=>exact ih y (List.mem_of_getElem? e)
theorem oB_le{t:Tab}(h:t.ok)(p:Nat):(oB t p).length≤t.next.length:=z6t (zd0 p) (oB_lt h p)
theorem zxg(t:Tab)(p:Nat):(oB t p).getD 0 0=0:=z78 zlm
theorem wB_zero(t:Tab)(p:Nat):(wB t p).getD 0 []=[]:=by
  have:=z5z (f:=bF1 t) (Nat.zero_le p) (i:=0) (by show 0< 1;decide)
  rw[this];rfl
theorem zjr{t:Tab}{i b:Nat}(hb:b< 256)(hi:i< (oB t (i*256+b)).length):oB t (i*256+b+1)=addG (oB t (i*256+b)) (bF1 t ((oB t (i*256+b)).getD i 0) b):=zvc hb (at_of (d:=0) hi)
theorem zxh{t:Tab}{i b:Nat}(hb:b< 256):wB t (i*256+b+1)=if bF1 t ((oB t (i*256+b)).getD i 0) b∈oB t (i*256+b)then wB t (i*256+b)else wB t (i*256+b)++[(wB t (i*256+b)).getD i []++[b]]:=by
  obtain⟨h1,h2⟩:=zbi (i:=i) (k:=b) (nc:=256) hb;rw[wB,wrdO,h1,h2];rfl
structure FB(t:Tab)(p:Nat)(fr:List Int)(bs:List UInt8):Prop where
  flen:fr.length=t.next.length
  blen:bs.length=t.next.length
  out:∀ x,x< t.next.length→x∉oB t p→fr.getD x 0= -1
  inn:∀ x,x∈oB t p→0≤fr.getD x 0
  come:∀ j,0< j→j< (oB t p).length→∃ i b,i< j∧b< 256∧fr.getD ((oB t p).getD j 0) 0=(((oB t p).getD i 0:Nat):Int)∧bs.getD ((oB t p).getD j 0) 0=UInt8.ofNat b∧(wB t p).getD j []=(wB t p).getD i []++[b]
theorem FB.zero{t:Tab}(h:t.ok):FB t 0 ((List.replicate t.next.length (-1)).set 0 0) (List.replicate t.next.length 0):=by
  have hp:=h.npos
  have ho:oB t 0=[0]:=rfl
  refine⟨by simp,by simp,fun x hx hn=>?_,fun x hx=>?_,fun j h0 hj=>?_⟩
  · rw[ho]at hn
    have:¬ 0=x:=fun e=>hn (by rw[←e];exact List.mem_cons_self)
    rw[z19 (by simpa using hx),if_neg this,zjk hx]
  · rw[ho]at hx
    rw[List.mem_singleton.1 hx,z19 (by simpa using hp),if_pos rfl];exact Int.le_refl 0
  · rw[ho]at hj
    simp at hj;omega
theorem FB.same{t:Tab}{i b:Nat}{fr:List Int}{bs:List UInt8}(h:FB t (i*256+b) fr bs)(hb:b< 256)(hi:i< (oB t (i*256+b)).length)(hin:bF1 t ((oB t (i*256+b)).getD i 0) b∈oB t (i*256+b)):FB t (i*256+b+1) fr bs:=by
  have e:oB t (i*256+b+1)=oB t (i*256+b):=by rw[zjr hb hi,addG,if_pos hin]
  have e2:wB t (i*256+b+1)=wB t (i*256+b):=by rw[zxh hb,if_pos hin]
  exact⟨h.flen,h.blen,by rw[e];exact h.out,by rw[e];exact h.inn,by rw[e,e2];exact h.come⟩
theorem FB.more {t:Tab} (ht:t.ok) {i b:Nat} {fr:List Int} {bs:List UInt8} (h:FB t (i*256+b) fr bs) (hb:b< 256) (hi:i< (oB t (i*256+b)).length) (hin:bF1 t ((oB t (i*256+b)).getD i 0) b∉oB t (i*256+b)):
    FB t (i*256+b+1) (fr.set (bF1 t ((oB t (i*256+b)).getD i 0) b) (((oB t (i*256+b)).getD i 0:Nat):Int)) (bs.set (bF1 t ((oB t (i*256+b)).getD i 0) b) (UInt8.ofNat b)):=by
  obtain⟨to,hto⟩:∃ to,to=bF1 t ((oB t (i*256+b)).getD i 0) b:=⟨_,rfl⟩
  have hlt:to< t.next.length:=by rw[hto];exact bF1_lt ht (oB_lt ht _ _ (getD_mem' hi)) hb
  have e:oB t (i*256+b+1)=oB t (i*256+b)++[to]:=by rw[zjr hb hi,addG,if_neg hin,hto]
  have e2:wB t (i*256+b+1)=wB t (i*256+b)++[(wB t (i*256+b)).getD i []++[b]]:=by rw[zxh hb,if_neg hin]
  have hwl:(wB t (i*256+b)).length=(oB t (i*256+b)).length:=z9m _
  rw[←hto]at hin ⊢;refine⟨by rw[List.length_set];exact h.flen,by rw[List.length_set];exact h.blen,fun x hx hn=>?_,fun x hx=>?_,fun j h0 hj=>?_⟩
  · rw[e]at hn
    have hne:¬ to=x:=fun e'=>hn (by rw[←e'];simp)
    rw[z19 (by rw[h.flen];exact hx),if_neg hne];exact h.out x hx fun hx'=>hn (List.mem_append_left _ hx')
  · rw[e]at hx
    by_cases hne:to=x
    · rw[z19 (by rw[h.flen, ←hne];exact hlt),if_pos hne];omega
    · rcases List.mem_append.1 hx with hx|hx
      · have hxl:=oB_lt ht _ x (by exact hx)
        rw[z19 (by rw[h.flen];exact hxl),if_neg hne];exact h.inn x (by exact hx)
      · exact absurd (List.mem_singleton.1 hx).symm hne
  · rw[e,List.length_append]at hj
    have hj:j< (oB t (i*256+b)).length+1:=hj
    rw[e,e2]
    rcases Nat.lt_or_ge j (oB t (i*256+b)).length with h1|h1
    · obtain⟨i',b',g1,g2,g3,g4,g5⟩:=h.come j h0 (by exact h1)
      have hga:∀ k,k< (oB t (i*256+b)).length→((oB t (i*256+b))++[to]).getD k 0=(oB t (i*256+b)).getD k 0:=fun k hk=>by rw[List.getD_eq_getElem?_getD,List.getD_eq_getElem?_getD,List.getElem?_append_left hk]
      have hgw:∀ k,k< (oB t (i*256+b)).length→(wB t (i*256+b)++[(wB t (i*256+b)).getD i []++[b]]).getD k []=(wB t (i*256+b)).getD k []:=fun k hk=>by
        simp only[List.getD_eq_getElem?_getD]
        rw[List.getElem?_append_left (by rw[hwl];exact hk)]
      have hne:¬ to=(oB t (i*256+b)).getD j 0:=fun e'=>hin (by rw[e'];exact getD_mem' h1)
      have hxl:=oB_lt ht _ ((oB t (i*256+b)).getD j 0) (by exact getD_mem' h1)
      refine⟨i',b',g1,g2,?_,?_,?_⟩
      · rw[hga j h1,hga i' (by omega),z19 (by rw[h.flen];exact hxl),if_neg hne];exact g3
      · rw[hga j h1,z19 (by rw[h.blen];exact hxl),if_neg hne];exact g4
      · rw[hgw j h1,hgw i' (by omega)];exact g5
    · have hje:j=(oB t (i*256+b)).length:=by omega
      subst hje
      have hgl:((oB t (i*256+b))++[to]).getD (oB t (i*256+b)).length 0=to:=by rw[List.getD_eq_getElem?_getD,List.getElem?_append_right (Nat.le_refl _),Nat.sub_self];rfl
      have hgw:(wB t (i*256+b)++[(wB t (i*256+b)).getD i []++[b]]).getD (oB t (i*256+b)).length []=(wB t (i*256+b)).getD i []++[b]:=by rw[List.getD_eq_getElem?_getD,List.getElem?_append_right (by rw[hwl];exact Nat.le_refl _),hwl,Nat.sub_self];rfl
      have hga:((oB t (i*256+b))++[to]).getD i 0=(oB t (i*256+b)).getD i 0:=by rw[List.getD_eq_getElem?_getD,List.getD_eq_getElem?_getD,List.getElem?_append_left hi]
      refine⟨i,b,hi,hb,?_,?_,?_⟩
      · rw[hgl,hga,z19 (by rw[h.flen];exact hlt),if_pos rfl]
      · rw[hgl,z19 (by rw[h.blen];exact hlt),if_pos rfl]
      · rw[hgw,List.getD_eq_getElem?_getD (i:=i) (l:=wB t (i*256+b)++_),List.getElem?_append_left (by rw[hwl];exact hi), ←List.getD_eq_getElem?_getD]
def lsB(o:Option (List Nat)):List UInt8:=(o.getD []).map UInt8.ofNat
abbrev lsV(o:Option (List Nat)):SV:=.tup [.c (.ds (lsB o).length (.u8s (lsB o))),.c (.bool o.isSome)]
theorem z6g(o:Option (List Nat)):SV.low 0 (lsV o):=List.forall_mem_cons.2 ⟨trivial,List.forall_mem_cons.2 ⟨trivial,fun _ h=>by cases h⟩⟩
theorem zxi(t:Tab):z42 ((tblT t).lang 0)=z42 fun w=>t.acc.getD (runB (bF1 t) 0 w) false:=z8v fun w hw=>zvq _ w
theorem hz_of{t:Tab}{i:Nat}(ha:∀ j,j< i→j< (oB t (j*256)).length):∀ q,q< i*256→q / 256< (oB t q).length:=fun q hq=>by
  have h1:q / 256< i:=Nat.div_lt_of_lt_mul (by rw[Nat.mul_comm];exact hq)
  exact Nat.lt_of_lt_of_le (ha _ h1) (z54 (Nat.div_mul_le_self q 256))
theorem ls_found{t:Tab}{i:Nat}(ha:∀ j,j< i→j< (oB t (j*256)).length)(hi:i< (oB t (i*256)).length)(hno:∀ j,j< i→t.acc.getD ((oB t (i*256)).getD j 0) false=false)(hyes:t.acc.getD ((oB t (i*256)).getD i 0) false=true):z42 ((tblT t).lang 0)=some ((wB t (i*256)).getD i []):=by
  rw[zxi];exact z4a (least_at (f:=bF1 t) (acc:=fun s=>t.acc.getD s false) (hz_of ha) hi hno hyes)
theorem ls_none{t:Tab}{i:Nat}(ha:∀ j,j< i→j< (oB t (j*256)).length)(hi:(oB t (i*256)).length≤i)(hno:∀ j,j< i→t.acc.getD ((oB t (i*256)).getD j 0) false=false):z42 ((tblT t).lang 0)=none:=by
  rw[zxi];exact zam (ztc (f:=bF1 t) (acc:=fun s=>t.acc.getD s false) (hz_of ha) hi hno)

end Go.Proofs.YtppmnaoollkboaaDoor

namespace Go.Proofs.YtppmnaoollkboaaDoor
set_option linter.all false
open Go.Ab Go.RowKit

section
variable {a b:Prop}
theorem qUte0(h:a:=by first|exact vcA|(simp[-List.reduceReplicate]<;>omega)|exact vTh|exact⟨by omega,by omega,trivial⟩|(show _< (fillN _ _ _).length;rw[z4h];omega)|(simp only[z10,List.length_replicate];omega)|(show _< (List.replicate _ _).length;rw[List.length_replicate];omega)|exact vcB):a:=h
theorem z1g(h:a:=by
    repeat' (first|(show(_:List Int)=_;assumption)|(show(_:List UInt8)=_;assumption)|exact pT|exact trivial|refine aI ?_ ?_|exact cC0|refine low_cons' ?_ ?_|exact cC1|fail)
    all_goals first|omega|exact hL0|(show(_:List Int)=_;first|assumption|rfl)|(show(_:List UInt8)=_;first|assumption|rfl)|(show(0:Nat)< (z08 _ _ _ _).length;rw[z06 hcl];decide)|(simp[-List.reduceReplicate];done)|(simp[-List.reduceReplicate]<;>omega)|skip):a:=h
theorem zmf(kZ:b)(h:HidB b→a:=by intro kZ;(repeat first|refine aI qUte0 ?_|refine z0a qUte0 ?_|refine z07 qUte0 ?_|refine z0l qUte0 ?_|refine z0c ?_);exact kZ.out):a:=h ⟨kZ⟩
theorem z17(kZ:b)(h:HidB b→a:=by intro kZ;refine sX ?_;refine zmf ?_;refine exI ?_;exact kZ.out):a:=h ⟨kZ⟩
theorem zem(kZ:b)(h:HidB b→a:=by intro kZ;refine sX0 ?_;refine zmf ?_;refine exI ?_;exact kZ.out):a:=h ⟨kZ⟩
theorem zgm(kZ:b)(h:HidB b→a:=by intro kZ;refine qX ?_;refine zmf ?_;refine exI ?_;exact kZ.out):a:=h ⟨kZ⟩
theorem z4p(kZ:b)(h:HidB b→a:=by intro kZ;refine sX ?_;refine zmf ?_;exact kZ.out):a:=h ⟨kZ⟩
theorem zen(kZ:b)(h:HidB b→a:=by intro kZ;refine qX ?_;refine zmf ?_;exact kZ.out):a:=h ⟨kZ⟩
end
open Go.Aut
theorem zrd(w:List Nat):lsB (some w)=w.map UInt8.ofNat:=rfl
theorem oB_ne{t:Tab}{p j:Nat}(hj:j< (oB t p).length):(oB t p).getD j 0=0↔j=0:=by
  constructor
  · intro h
    have hn:=zd0 (f:=bF1 t) (nc:=256) (b0:=0) p
    have h0:=zxg t p
    have hp:0< (oB t p).length:=by omega
    have e1:(oB t p)[j]=(oB t p)[0]:=by rw[z49 hj]at h;rw[z49 hp]at h0;rw[h,h0]
    have a1:=hn.idxOf_getElem j hj
    have a2:=hn.idxOf_getElem 0 hp
    rw[e1,a2]at a1;exact a1.symm
  · rintro rfl;exact zxg t p
attribute [local irreducible] z0o z0y zl z08 z0v putB fillN wrdO expO
def zxj:QSpec:=fun vs K=>∃ t:Tab,vs=[tabV t]∧t.fit∧K (lsV (z42 ((tblT t).lang 0)))
theorem zxk:z1x Tryd.prog gl 86 zxj:=by
 refine z1c (Γ:=g0) (N:=96) Tryd.func86 rfl rfl fun vs K h=>?_;obtain⟨t,rfl,ht,h⟩:=h;refine⟨_,h,z6g _,by simp,fun w I=>?_⟩
 have ht0:=ht
 obtain⟨hok,hlen,hnc⟩:=ht0
 have hcl:=hok.clen
 refine srR g0_ok fun _ K2=>?_
 iterate 3 refine z17 ?_
 refine s_n K2 ?_;refine leW [0] id [(1,.c (.dp (tabC t) 0))] [] 0 [] z1g z1g z1g z1g ?_;refine srR g0_ok fun _ K4=>?_;refine z17 ?_;refine z4p ?_;refine exA (.c (.ds t.next.length (.cells (rowsC t.next)))) (as_c (zaa hcl)) ?_
 iterate 3 refine z17 ?_
 refine s_n K4 ?_
 have hnp:=hok.npos
 refine leW [] id [(1,.c (.dp (tabC t) 0)),(4,.c (.slice 0 0 t.next.length t.next.length))] [(0,.own 3 (.ints .i64 (List.replicate t.next.length 0)) t.next.length)] 1 [0] z1g z1g z1g z1g ?_;refine srR g0_ok fun _ K6=>?_;refine z17 ?_;refine z4p ?_;refine exA (.c (.ds t.next.length (.cells (rowsC t.next)))) (as_c (zaa hcl)) ?_
 iterate 3 refine z17 ?_
 refine s_n K6 ?_;refine seq_k fun _ K7=>?_;refine srR g0_ok fun _ K9=>?_
 iterate 3 refine z17 ?_
 refine s_n K9 ?_;refine z03 ?_;refine z0m (α:=Nat) (fun k=>[(1,.c (.dp (tabC t) 0)),(4,.c (.slice 0 0 t.next.length t.next.length)),(5,.c (.slice 1 0 t.next.length t.next.length)),(22,.c (.int .i64 (t.next.length:Nat))),(23,.c (.int .i64 (k:Nat)))]) (fun k=>[(0,.own 3 (.ints .i64 (fillN t.next.length (-1) k)) t.next.length),(1,.own 5 (.u8s (List.replicate t.next.length 0)) t.next.length)]) 2 (fun k=>k≤t.next.length) (fun k=>t.next.length - k) ?_ ?_
 ·have hX1:List.replicate t.next.length (0:Int)=fillN t.next.length (-1) 0:=(z7u _ _).symm
  refine dnS [] id 0 (Nat.zero_le _) [0,1] z1g z1g z1g z1g
 ·intro k hk
  refine srR g0_ok fun _ K11=>?_;refine z17 ?_;refine s_n K11 ?_;refine seq_k fun _ K12=>?_;refine z04 (b:=_) rfl (fun h_t24=>?_) (fun h_t24=>?_)
  ·try simp only[dQ,reduceIte]at h_t24
   refine z09 ?_;apply K12;refine seq_k fun _ K13=>?_;refine z03 ?_;refine srR g0_ok fun _ K15=>?_
   iterate 2 refine z17 ?_
   refine s_n K15 ?_
   have hkl:k< t.next.length:=by omega
   refine z01 g0_ok fun _ K16=>?_
   iterate 3 refine z17 ?_
   refine zem ?_;refine s_n K16 ?_;refine z05 ?_;apply K13;refine z01 g0_ok fun _ K17=>?_
   iterate 2 refine z17 ?_
   refine s_n K17 ?_
   have hX1:(fillN t.next.length (-1) k).set (0+((k:Nat):Int).toNat*1) (-1)=fillN t.next.length (-1) (k+1):=by rw[show 0+((k:Nat):Int).toNat*1=k by omega];exact z92 _ hkl
   refine dnS [] id (k+1) ⟨by omega,by omega⟩ [0,1] z1g z1g z1g z1g
  ·try simp only[dQ,reduceIte]at h_t24
   refine z0i ?_;refine z00 ?_;refine z00 ?_;refine z0f ?_;apply K7
   obtain rfl:k=t.next.length:=by omega
   rw[z91];refine srR g0_ok fun _ K19=>?_
   iterate 2 refine z17 ?_
   refine zem ?_;refine s_n K19 ?_;refine srR g0_ok fun _ K21=>?_
   iterate 2 refine z17 ?_
   refine s_n K21 ?_;refine seq_k fun _ K22=>?_;refine srR g0_ok fun _ K24=>?_;refine z17 ?_;refine s_n K24 ?_;refine z03 ?_;refine z0m (α:=Nat×Nat×List Int×List UInt8) (fun g=>[(1,.c (.dp (tabC t) 0)),(4,.c (.slice 0 0 t.next.length t.next.length)),(5,.c (.slice 1 0 t.next.length t.next.length)),(7,.c (.slice 2 0 (oB t (g.1*256)).length g.2.1)),(8,.c (.int .i64 (g.1:Nat)))]) (fun g=>[(0,.own 3 (.ints .i64 g.2.2.1) t.next.length),(1,.own 5 (.u8s g.2.2.2) t.next.length),(2,.own 3 (.ints .i64 (natsI (oB t (g.1*256)))) g.2.1)]) 3 (fun g=>g.1≤t.next.length∧(∀ j,j< g.1→j< (oB t (j*256)).length)∧g.1≤(oB t (g.1*256)).length∧(oB t (g.1*256)).length≤g.2.1∧FB t (g.1*256) g.2.2.1 g.2.2.2∧(∀ j,j< g.1→t.acc.getD ((oB t (g.1*256)).getD j 0) false=false)) (fun g=>t.next.length - g.1) ?_ ?_
   ·have hz:oB t (0*256)=[0]:=by unfold oB;rw[Nat.zero_mul];unfold expO;rfl
    have hL0:1=(oB t (0*256)).length:=by rw[hz];rfl
    have hX2:[]++[(0:Int)]=natsI (oB t (0*256)):=by rw[hz];rfl
    have hfz:=FB.zero hok
    have hfz:FB t (0*256) ((List.replicate t.next.length (-1)).set 0 0) (List.replicate t.next.length 0):=by rw[Nat.zero_mul];exact hfz
    refine dnS [] id (0,1,(List.replicate t.next.length (-1)).set 0 0,List.replicate t.next.length 0) ⟨Nat.zero_le _,fun j hj=>absurd hj (Nat.not_lt_zero j),Nat.zero_le _,(by show(oB t (0*256)).length≤1;rw[hz];exact Nat.le_refl _),hfz,fun j hj=>absurd hj (Nat.not_lt_zero j)⟩ [0,1,2] ?_ ?_ ?_ ?_
    ·exact z1g
    ·exact z1g
    ·exact z1g
    ·exact z1g
   ·intro g hg
    obtain⟨hg1,hga,hg3,hg4,hfb,hna⟩:=hg
    have hfl:=hfb.flen
    have hbl:=hfb.blen
    refine seq_k fun _ K25=>?_;refine srR g0_ok fun _ K27=>?_
    iterate 4 refine z17 ?_
    refine s_n K27 ?_;refine z04 (b:=_) rfl (fun h_t36=>?_) (fun h_t36=>?_)
    ·try simp only[dQ,reduceIte]at h_t36
     refine z09 ?_;apply K25;refine seq_k fun _ K28=>?_;refine z03 ?_
     have hi:g.1< (oB t (g.1*256)).length:=by omega
     have hsl:=oB_lt hok _ _ (getD_mem' hi)
     have hal:=hok.alen
     have hrw:=z8z hok hsl
     have hole:=oB_le hok (g.1*256)
     refine srR g0_ok fun _ K30=>?_
     iterate 3 refine z17 ?_
     refine z4p ?_;refine exA (.c (.int .i64 (((((oB t (g.1*256)).getD g.1 0):Nat):Int)))) (as_i ((congrArg (fun i=>(natsI (oB t (g.1*256))).getD i 0) (by omega)).trans z0q)) ?_;refine z17 ?_;refine s_n K30 ?_;refine seq_k fun _ K31=>?_;refine srR g0_ok fun _ K33=>?_;refine z17 ?_;refine z4p ?_;refine exA (.c (.ds t.acc.length (.bools t.acc))) (as_c (zwu hcl)) ?_
     iterate 2 refine z17 ?_
     refine z4p ?_;refine exA (.c (.bool (t.acc.getD ((oB t (g.1*256)).getD g.1 0) false))) (as_b (congrArg (fun i=>t.acc.getD i false) (by omega))) ?_;refine s_n K33 ?_;refine z04 (b:=_) rfl (fun h_t47=>?_) (fun h_t47=>?_)
     ·try simp only[dQ,reduceIte]at h_t47
      refine srR g0_ok fun _ K35=>?_
      iterate 2 refine z17 ?_
      refine s_n K35 ?_;refine seq_k fun _ K36=>?_;refine z03 ?_;refine z0m (α:=Nat×List Nat×Nat) (fun q=>[(1,.c (.dp (tabC t) 0)),(4,.c (.slice 0 0 t.next.length t.next.length)),(5,.c (.slice 1 0 t.next.length t.next.length)),(7,.c (.slice 2 0 (oB t (g.1*256)).length g.2.1)),(8,.c (.int .i64 (g.1:Nat))),(9,.c (.int .i64 (((oB t (g.1*256)).getD q.1 0):Nat))),(10,.c (.slice 3 0 q.2.1.length q.2.2))]) (fun q=>[(0,.own 3 (.ints .i64 g.2.2.1) t.next.length),(1,.own 5 (.u8s g.2.2.2) t.next.length),(2,.own 3 (.ints .i64 (natsI (oB t (g.1*256)))) g.2.1),(3,.own 5 (.u8s (q.2.1.map UInt8.ofNat)) q.2.2)]) 4 (fun q=>q.1< (oB t (g.1*256)).length∧q.2.1.length≤q.2.2∧(wB t (g.1*256)).getD g.1 []=(wB t (g.1*256)).getD q.1 []++q.2.1∧q.1+q.2.1.length≤g.1) (fun q=>q.1) ?_ ?_
      ·refine dnS [] id (g.1,[],0) ⟨hi,Nat.le_refl _,by simp,Nat.le_refl _⟩ [0,1,2,3] z1g z1g z1g z1g
      ·intro q hq
       obtain⟨hqj,hqc,hqw,hql⟩:=hq;refine seq_k fun _ K37=>?_;refine srR g0_ok fun _ K39=>?_
       iterate 2 refine z17 ?_
       refine s_n K39 ?_;refine z04 (b:=_) rfl (fun h_t50=>?_) (fun h_t50=>?_)
       ·try simp only[dQ,reduceIte]at h_t50
        refine z09 ?_;apply K37;refine seq_k fun _ K40=>?_;refine z03 ?_
        have hj0:0< q.1:=by
         rcases Nat.eq_zero_or_pos q.1 with e|e
         ·exact absurd ((oB_ne hqj).2 e) (by simpa using h_t50)
         ·exact e
        obtain⟨i,b,c1,c2,c3,c4,c5⟩:=hfb.come q.1 hj0 hqj
        have hsj:=oB_lt hok _ _ (getD_mem' hqj)
        have hsi:=oB_lt hok _ _ (getD_mem' (show i< (oB t (g.1*256)).length by omega))
        have hql2:q.2.1.length≤65536:=by omega
        refine z01 g0_ok fun _ K41=>?_
        iterate 3 refine z17 ?_
        refine z4p ?_;refine exA (.c (.u8 (UInt8.ofNat b))) (as_eq (congrArg (fun v=>SV.c (Cell.u8 v)) ((congrArg (fun i=>g.2.2.2.getD i 0) (by omega)).trans c4))) ?_
        iterate 2 refine z17 ?_
        refine z4p ?_;intro cap6 hcap6;refine exI ?_;refine z17 ?_;refine s_n K41 ?_;refine z05 ?_;apply K40;refine z01 g0_ok fun _ K42=>?_
        iterate 3 refine z17 ?_
        refine z4p ?_;refine exA (.c (.int .i64 ((((oB t (g.1*256)).getD i 0:Nat):Int)))) (as_i ((congrArg (fun i=>g.2.2.1.getD i 0) (by omega)).trans c3)) ?_;refine z17 ?_;refine s_n K42 ?_
        have hX4:([]++[UInt8.ofNat b])++q.2.1.map UInt8.ofNat=(b::q.2.1).map UInt8.ofNat:=rfl
        refine dnS [] (fun i=>if i=3 then 5 else i) (i,b::q.2.1,cap6) ⟨⟨by show i< (oB t (g.1*256)).length;omega,(by show(b::q.2.1).length≤cap6;simp only[List.length_cons];omega),(by rw[hqw,c5,List.append_assoc];rfl),(by show i+(b::q.2.1).length≤g.1;simp only[List.length_cons];omega)⟩,c1⟩ [0,1,2,5] ?_ ?_ ?_ ?_
        ·exact z1g
        ·exact z1g
        ·exact z1g
        ·exact z1g
       ·try simp only[dQ,reduceIte]at h_t50
        refine z0i ?_;refine z00 ?_;refine z00 ?_;refine z0f ?_;apply K36;refine srR g0_ok fun _ K44=>?_
        iterate 3 refine z17 ?_
        refine s_n K44 ?_
        have hq0:q.1=0:=(oB_ne hqj).1 (by simpa using h_t50)
        have hw:z42 ((tblT t).lang 0)=some q.2.1:=by
         rw[ls_found hga hi hna (by simpa using h_t47),hqw,hq0,wB_zero];rfl
        rw[hw];refine z0e (z0g g0_ok (fun _ _ h=>h) (z6g _) [3] [.tmp 2,.tmp 3] rfl ?_)
        repeat' (first|(show(_:List Int)=_;assumption)|(show(_:List UInt8)=_;assumption)|exact pT|exact trivial|refine aI ?_ ?_|exact cC0|refine low_cons' ?_ ?_|exact cC1|fail)
        all_goals first|omega|(show _=(lsB (some _)).length;rw[zrd,List.length_map])|(rw[zrd];rw[if_pos ⟨rfl,by simp⟩])|(rw[if_pos ⟨rfl,by simp⟩];rfl)|exact hL0|(show(_:List Int)=_;first|assumption|rfl)|(show(_:List UInt8)=_;first|assumption|rfl)|(show(0:Nat)< (z08 _ _ _ _).length;rw[z06 hcl];decide)|(simp[-List.reduceReplicate];done)|(simp[-List.reduceReplicate]<;>omega)|skip
     ·try simp only[dQ,reduceIte]at h_t47
      refine z09 ?_;apply K31;refine srR g0_ok fun _ K46=>?_;refine z17 ?_;refine s_n K46 ?_;refine z03 ?_;refine z0m (α:=Nat×Nat×List Int×List UInt8) (fun z=>[(1,.c (.dp (tabC t) 0)),(4,.c (.slice 0 0 t.next.length t.next.length)),(5,.c (.slice 1 0 t.next.length t.next.length)),(7,.c (.slice 2 0 (oB t (g.1*256+z.1)).length z.2.1)),(8,.c (.int .i64 (g.1:Nat))),(9,.c (.int .i64 (((oB t (g.1*256)).getD g.1 0):Nat))),(63,.c (.int .i64 (z.1:Nat)))]) (fun z=>[(0,.own 3 (.ints .i64 z.2.2.1) t.next.length),(1,.own 5 (.u8s z.2.2.2) t.next.length),(2,.own 3 (.ints .i64 (natsI (oB t (g.1*256+z.1)))) z.2.1)]) 3 (fun z=>z.1≤256∧(oB t (g.1*256+z.1)).length≤z.2.1∧FB t (g.1*256+z.1) z.2.2.1 z.2.2.2) (fun z=>256 - z.1) ?_ ?_
      ·refine dnS [] id (0,g.2.1,g.2.2.1,g.2.2.2) ⟨Nat.zero_le _,hg4,hfb⟩ [0,1,2] z1g z1g z1g z1g
      ·intro z hz
       obtain⟨hz1,hz4,hzf⟩:=hz
       have hzfl:=hzf.flen
       have hzbl:=hzf.blen
       refine srR g0_ok fun _ K48=>?_;refine z17 ?_;refine s_n K48 ?_;refine seq_k fun _ K49=>?_;refine z04 (b:=_) rfl (fun h_t64=>?_) (fun h_t64=>?_)
       ·try simp only[dQ,reduceIte]at h_t64
        refine z09 ?_;apply K49;refine seq_k fun _ K50=>?_;refine z03 ?_
        have hb256:z.1< 256:=by omega
        have hiz:g.1< (oB t (g.1*256+z.1)).length:=Nat.lt_of_lt_of_le hi (z54 (Nat.le_add_right _ _))
        have hgz:(oB t (g.1*256+z.1)).getD g.1 0=((oB t (g.1*256)).getD g.1 0):=z7n (Nat.le_add_right _ _) hi
        have hcb:=cellN hok hb256
        have hx:=nextN hok hsl hcb.1
        have htl:(bF1 t ((oB t (g.1*256)).getD g.1 0) z.1)< t.next.length:=hx.1
        have holz:=oB_le hok (g.1*256+z.1)
        refine srR g0_ok fun _ K52=>?_
        iterate 2 refine z17 ?_
        refine s_n K52 ?_;refine srQ g0_ok kR fun _ K54=>?_;refine zgm ?_;refine zen ?_;refine exA (.c (.ds t.next.length (.cells (rowsC t.next)))) (as_c (zaa hcl)) ?_
        iterate 2 refine zgm ?_
        refine zen ?_;refine exA (.c (.ds (t.next.getD ((oB t (g.1*256)).getD g.1 0) []).length (.ints .i64 (t.next.getD ((oB t (g.1*256)).getD g.1 0) [])))) (as_c (z6e ⟨hsl,by omega⟩)) ?_
        iterate 3 refine zgm ?_
        refine zen ?_;refine exA (.c (.int .i64 (((tblT t).cell z.1:Nat):Int))) (as_c ((tab_cl hcl (by first|omega|(simp;done)) hb256).trans (congrArg (Cell.int IntKind.i64) hcb.2))) ?_;refine zgm ?_;refine zen ?_;refine exA (.c (.int .i64 ((((bF1 t ((oB t (g.1*256)).getD g.1 0) z.1):Nat):Int)))) (as_i ((congrArg (fun i=>(t.next.getD ((oB t (g.1*256)).getD g.1 0) []).getD i 0) (by omega)).trans hx.2)) ?_;refine zgm ?_;refine q_n K54 ?_;refine srR g0_ok fun _ K56=>?_
        iterate 3 refine z17 ?_
        refine z4p ?_;refine exA (.c (.int .i64 (z.2.2.1.getD (bF1 t ((oB t (g.1*256)).getD g.1 0) z.1) 0))) (as_i (congrArg (fun i=>z.2.2.1.getD i 0) (by omega))) ?_;refine z17 ?_;refine s_n K56 ?_;refine z04 (b:=_) rfl (fun h_t81=>?_) (fun h_t81=>?_)
        ·try simp only[dQ,reduceIte]at h_t81
         refine srR g0_ok fun _ K58=>?_
         iterate 6 refine z17 ?_
         refine z4p ?_;refine exA (.c (.u8 (UInt8.ofNat z.1))) (as_eq (congrArg (fun v=>SV.c (Cell.u8 v)) (z2y _))) ?_;refine z17 ?_;refine zem ?_;refine z17 ?_;refine zem ?_;refine s_n K58 ?_;refine z01 g0_ok fun _ K59=>?_
         iterate 3 refine z17 ?_
         refine z4p ?_;intro cap3 hcap3;refine exI ?_;refine z17 ?_;refine s_n K59 ?_;refine z05 ?_;apply K50;refine z01 g0_ok fun _ K60=>?_
         iterate 2 refine z17 ?_
         refine s_n K60 ?_
         have hnin:(bF1 t ((oB t (g.1*256)).getD g.1 0) z.1)∉(oB t (g.1*256+z.1)):=fun hx=>by
          have:=hzf.inn _ hx
          omega
         have hmo:=hzf.more hok hb256 hiz (by rw[hgz];exact hnin)
         rw[hgz]at hmo
         have hst:(oB t (g.1*256+(z.1+1)))=(oB t (g.1*256+z.1))++[(bF1 t ((oB t (g.1*256)).getD g.1 0) z.1)]:=by
          have:=zjr hb256 hiz
          rw[hgz,addG,if_neg hnin]at this;exact this
         have hX2:natsI (oB t (g.1*256+z.1))++([]++[(((bF1 t ((oB t (g.1*256)).getD g.1 0) z.1):Nat):Int)])=natsI (oB t (g.1*256+(z.1+1))):=by rw[hst,List.nil_append,z39]
         have hL0:(oB t (g.1*256+z.1)).length+1=(oB t (g.1*256+(z.1+1))).length:=by rw[hst,List.length_append];rfl
         have hX5:z.2.2.1.set (0+(((bF1 t ((oB t (g.1*256)).getD g.1 0) z.1):Nat):Int).toNat*1) ((((oB t (g.1*256)).getD g.1 0):Nat):Int)=z.2.2.1.set (bF1 t ((oB t (g.1*256)).getD g.1 0) z.1) ((((oB t (g.1*256)).getD g.1 0):Nat):Int):=by congr 1;omega
         have hX6:z.2.2.2.set (0+(((bF1 t ((oB t (g.1*256)).getD g.1 0) z.1):Nat):Int).toNat*1) (UInt8.ofNat z.1)=z.2.2.2.set (bF1 t ((oB t (g.1*256)).getD g.1 0) z.1) (UInt8.ofNat z.1):=by congr 1;omega
         refine dnS [] (fun i=>if i=2 then 4 else i) (z.1+1,cap3,z.2.2.1.set (bF1 t ((oB t (g.1*256)).getD g.1 0) z.1) ((((oB t (g.1*256)).getD g.1 0):Nat):Int),z.2.2.2.set (bF1 t ((oB t (g.1*256)).getD g.1 0) z.1) (UInt8.ofNat z.1)) ⟨⟨by show z.1+1≤256;omega,(by show(oB t (g.1*256+(z.1+1))).length≤cap3;omega),hmo⟩,by show 256 - (z.1+1)< _;omega⟩ [0,1,4] ?_ ?_ ?_ ?_
         ·exact z1g
         ·exact z1g
         ·exact z1g
         ·exact z1g
        ·try simp only[dQ,reduceIte]at h_t81
         refine z09 ?_;refine z05 ?_;apply K50;refine z01 g0_ok fun _ K61=>?_
         iterate 2 refine z17 ?_
         refine s_n K61 ?_
         have hin:(bF1 t ((oB t (g.1*256)).getD g.1 0) z.1)∈(oB t (g.1*256+z.1)):=Classical.byContradiction fun hx=>by
          have:=hzf.out _ htl hx
          omega
         have hst:(oB t (g.1*256+(z.1+1)))=(oB t (g.1*256+z.1)):=by
          have:=zjr hb256 hiz
          rw[hgz,addG,if_pos hin]at this;exact this
         have hsm:=hzf.same hb256 hiz (by rw[hgz];exact hin)
         rw[←hst];refine dnS [] id (z.1+1,z.2.1,z.2.2.1,z.2.2.2) ⟨⟨by show z.1+1≤256;omega,(by rw[hst];exact hz4),hsm⟩,by show 256 - (z.1+1)< _;omega⟩ [0,1,2] ?_ ?_ ?_ ?_
         ·exact z1g
         ·exact z1g
         ·exact z1g
         ·exact z1g
       ·try simp only[dQ,reduceIte]at h_t64
        refine z0i ?_;refine z00 ?_;refine z00 ?_;refine z0f ?_;refine z05 ?_;apply K28;refine z01 g0_ok fun _ K62=>?_
        iterate 3 refine z17 ?_
        refine s_n K62 ?_
        have hze:z.1=256:=by omega
        have hpe:g.1*256+z.1=(g.1+1)*256:=by omega
        rw[hpe];rw[hpe]at hz4 hzf
        have hlen2:(oB t (g.1*256)).length≤(oB t ((g.1+1)*256)).length:=z54 (by omega)
        have hah:∀ j,j< g.1+1→j< (oB t (j*256)).length:=fun j hj=>by
         rcases Nat.lt_or_ge j g.1 with h1|h1
         ·exact hga j h1
         ·obtain rfl:j=g.1:=by omega
          exact hi
        have hna2:∀ j,j< g.1+1→t.acc.getD ((oB t ((g.1+1)*256)).getD j 0) false=false:=fun j hj=>by
         have hjl:j< (oB t (g.1*256)).length:=Nat.lt_of_le_of_lt (by omega) hi
         have e:(oB t ((g.1+1)*256)).getD j 0=(oB t (g.1*256)).getD j 0:=z7n (by omega) hjl
         rw[e]
         rcases Nat.lt_or_ge j g.1 with h1|h1
         ·exact hna j h1
         ·obtain rfl:j=g.1:=by omega
          simpa using h_t47
        refine dnS [] id (g.1+1,z.2.1,z.2.2.1,z.2.2.2) ⟨⟨by show g.1+1≤_;omega,hah,(by show g.1+1≤(oB t ((g.1+1)*256)).length;omega),hz4,hzf,hna2⟩,by show _ - (g.1+1)< _;omega⟩ [0,1,2] ?_ ?_ ?_ ?_
        ·exact z1g
        ·exact z1g
        ·exact z1g
        ·exact z1g
    ·try simp only[dQ,reduceIte]at h_t36
     refine z0i ?_;refine z00 ?_;refine z00 ?_;refine z0f ?_;apply K22;refine srR g0_ok fun _ K64=>?_
     iterate 2 refine z17 ?_
     refine s_n K64 ?_;rw[ls_none hga (by omega) hna];refine z0e (z0g g0_ok (fun _ _ h=>h) (z6g _) [] [.tmp 2,.tmp 3] rfl ?_)
     all_goals exact z1g


end Go.Proofs.YtppmnaoollkboaaDoor
