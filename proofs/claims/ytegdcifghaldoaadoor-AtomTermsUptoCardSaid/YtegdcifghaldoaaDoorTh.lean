/- Contracts of functions and plain facts, part 8. -/
import Derived.Lib.BytesEntry
import Derived.Lib.Walk
import Derived.Test.YtegdcifghaldoaaDoorTf
import Derived.Test.YtegdcifghaldoaaDoorTg
set_option maxHeartbeats 4000000
set_option maxRecDepth 4000
namespace Go.Proofs.YtegdcifghaldoaaDoor
set_option linter.all false
open Go.Ab Go.RowKit

section
variable {a b:Prop}
theorem qBm1(h:a:=by first|exact vcA|(simp<;>omega)|(show _< (lists _).length;rw[z1x];omega)|exact⟨by omega,by omega⟩|exact vcB):a:=h
theorem DBm_2(kZ:b)(h:HidB b→a:=by intro kZ;(repeat first|refine aI qBm1 ?_|refine z0d qBm1 ?_|refine z09 qBm1 ?_|refine z0p qBm1 ?_|refine z0e ?_);exact kZ.out):a:=h ⟨kZ⟩
theorem z4g(kZ:b)(h:HidB b→a:=by intro kZ;refine sX ?_;refine DBm_2 ?_;refine exI ?_;exact kZ.out):a:=h ⟨kZ⟩
theorem zhr(kZ:b)(h:HidB b→a:=by intro kZ;refine sX ?_;refine DBm_2 ?_;exact kZ.out):a:=h ⟨kZ⟩
end
open Go.Aut
def cmpI(a b:Int):Int:=if a< b then -1 else if b< a then 1 else 0
def cmpL{α:Type}(c:α→α→Int):List α→List α→Int
  |[],[]=>0
  |[],_::_=> -1
  |_::_,[]=>1
  |x::l,y::m=>if c x y≠0 then c x y else cmpL c l m
theorem z4h{α:Type}(c:α→α→Int){l m:List α}{k:Nat}(h:∀ i x y,i< k→l[i]? =some x→m[i]? =some y→c x y=0)(hl:k≤l.length)(hm:k≤m.length):cmpL c l m=cmpL c (l.drop k) (m.drop k):=by
  induction k generalizing l m with
  |zero=>rfl
  | succ k ih=>
    match l,m,hl,hm with
    | x::l,y::m,hl,hm=>
      have h0:c x y=0:=h 0 x y (Nat.succ_pos _) rfl rfl
      rw[cmpL,if_neg (by rw[h0];simp),List.drop_succ_cons,List.drop_succ_cons];exact ih (fun i a b hi ha hb=>h (i+1) a b (by omega) (by simpa using ha) (by simpa using hb)) (by simpa using hl) (by simpa using hm)
theorem zoh{α:Type}(c:α→α→Int){l m:List α}{k:Nat}{x y:α}(hx:l[k]? =some x)(hy:m[k]? =some y)(h:c x y≠0):cmpL c (l.drop k) (m.drop k)=c x y:=by
  obtain⟨h1,rfl⟩:=List.getElem?_eq_some_iff.1 hx;obtain⟨h2,rfl⟩:=List.getElem?_eq_some_iff.1 hy;rw[List.drop_eq_getElem_cons h1,List.drop_eq_getElem_cons h2,cmpL,if_pos h]
theorem zoi{α:Type}(c:α→α→Int){l m:List α}{k:Nat}(h1:k< l.length)(h2:m.length≤k):cmpL c (l.drop k) (m.drop k)=1:=by
  rw[List.drop_eq_getElem_cons h1,List.drop_of_length_le h2];rfl
theorem zah{α:Type}(c:α→α→Int){l m:List α}{k:Nat}(h1:l.length≤k):cmpL c (l.drop k) (m.drop k)=if k< m.length then -1 else 0:=by
  rw[List.drop_of_length_le h1]
  split<;>rename_i h2
  · rw[List.drop_eq_getElem_cons h2];rfl
  · rw[List.drop_of_length_le (by omega)];rfl
def orI:List Int→Int
  |[]=>0
  |x::l=>if x≠0 then x else orI l
def cmpB(a b:List UInt8):Int:=cmpL (fun x y:UInt8=>cmpI x.toNat y.toNat) a b
def shlex(a b:List UInt8):Int:=orI [cmpI (a.length:Nat) (b.length:Nat),cmpB a b]
def lessN(a b:Mdl):Bool:=decide (orI [cmpL shlex a.s b.s,cmpL cmpI a.n b.n]< 0)
def isNaNS:QSpec:=fun vs K=>∃ v:Int,vs=[.c (.int .i64 v)]∧K (.c (.bool false))
theorem isNaN_ok:z11 Tryd.prog gl 70 isNaNS:=by
 refine z0u (Γ:=g0) (N:=6) Tryd.func70 rfl rfl fun vs K h=>?_;obtain⟨v,rfl,h⟩:=h;refine⟨_,h,rfl,by simp,fun w I=>?_⟩;refine srR g0_ok fun _ K2=>?_;refine zng ?_;refine s_n K2 ?_;refine srR g0_ok fun _ K4=>?_
 iterate 4 refine zng ?_
 refine s_n K4 ?_;refine z0b (z02 g0_ok (fun _ _ h=>h) (by first|rfl|assumption) [.tmp 2] rfl ?_);refine rtD ?_
 show SV.c (.bool _)=SV.c (.bool _)
 congr 2
 simp

noncomputable def ccn:Ctx:={ P:=Tryd.prog,ty:=ty,glob:=gl,fs:=[(70,.flat isNaNS)] }
theorem z5y:ccn.OK:=⟨tyOK,⟨⟨z07 Tryd.func70 kQf rfl,isNaN_ok⟩,trivial⟩,mixed⟩
@[simp] theorem ccn_ty:ccn.ty=ty:=rfl

def cmpIS:QSpec:=fun vs K=>∃ v u:Int,vs=[.c (.int .i64 v),.c (.int .i64 u)]∧K (.c (.int .i64 (cmpI v u)))
theorem zoj:z11 Tryd.prog gl 39 cmpIS:=by
 refine z0u (Γ:=ccn) (N:=20) Tryd.func39 rfl rfl fun vs K h=>?_;obtain⟨v,u,rfl,h⟩:=h;refine⟨_,h,rfl,by simp,fun w I=>?_⟩;refine srR z5y fun _ K2=>?_;refine zng ?_;refine s_n K2 ?_;refine srR z5y fun _ K4=>?_;refine zng ?_;refine sXEUf_4 ?_;refine⟨v,rfl,?_⟩;refine DUf_0 ?_
 first|refine exI ?_|(intro cap1 hcap1;refine exI ?_)
 refine zng ?_;refine s_n K4 ?_;refine srR z5y fun _ K6=>?_;refine zng ?_;refine sXEUf_4 ?_;refine⟨u,rfl,?_⟩;refine DUf_0 ?_
 first|refine exI ?_|(intro cap1 hcap1;refine exI ?_)
 refine zng ?_;refine s_n K6 ?_;refine seq_k fun _ K7=>?_;refine srR z5y fun _ K9=>?_;refine zng ?_;refine s_n K9 ?_;refine z06 (b:=_) rfl (fun h_t11=>?_) (fun _=>?_)
 ·exfalso;cases h_t11
 refine z0g ?_;apply K7;refine seq_k fun _ K10=>?_;refine srR z5y fun _ K12=>?_;refine zng ?_;refine s_n K12 ?_;refine z06 (b:=_) rfl (fun h_t13=>?_) (fun _=>?_)
 ·exfalso;cases h_t13
 refine z0g ?_;apply K10;refine seq_k fun _ K13=>?_;refine srR z5y fun _ K15=>?_
 iterate 3 refine zng ?_
 refine s_n K15 ?_;refine z06 (b:=_) rfl (fun h_t16=>?_) (fun h_t16=>?_)
 ·try simp only[dQ,reduceIte]at h_t16
  refine srR z5y fun _ K17=>?_;refine zng ?_;refine s_n K17 ?_;refine z0b (z02 z5y (fun _ _ h=>h) (by first|rfl|assumption) [.tmp 4] rfl ?_);refine rtD ?_
  show SV.c (.int .i64 (-1))=_
  rw[cmpI,if_pos h_t16]
 ·try simp only[dQ,reduceIte]at h_t16
  refine z0g ?_;apply K13;refine seq_k fun _ K18=>?_;refine srR z5y fun _ K20=>?_
  iterate 3 refine zng ?_
  refine s_n K20 ?_;refine z06 (b:=_) rfl (fun h_t19=>?_) (fun h_t19=>?_)
  ·try simp only[dQ,reduceIte]at h_t19
   refine srR z5y fun _ K22=>?_;refine zng ?_;refine s_n K22 ?_;refine z0b (z02 z5y (fun _ _ h=>h) (by first|rfl|assumption) [.tmp 4] rfl ?_);refine rtD ?_
   show SV.c (.int .i64 1)=_
   rw[cmpI,if_neg (by omega),if_pos (by omega)]
  ·try simp only[dQ,reduceIte]at h_t19
   refine z0g ?_;apply K18;refine srR z5y fun _ K24=>?_;refine zng ?_;refine s_n K24 ?_;refine z0b (z02 z5y (fun _ _ h=>h) (by first|rfl|assumption) [.tmp 4] rfl ?_);refine rtD ?_
   show SV.c (.int .i64 0)=_
   rw[cmpI,if_neg (by omega),if_neg (by omega)]

theorem zjs{l:List Int}{k:Nat}(h:∀ x∈l.take k,x=0):orI l=orI (l.drop k):=by
  induction k generalizing l with
  |zero=>rfl
  | succ k ih=>
    match l with
    |[]=>rfl
    | x::l=>
      have h0:x=0:=h x (by simp)
      rw[orI,if_neg (by simp[h0]),List.drop_succ_cons];exact ih fun y hy=>h y (by rw[List.take_succ_cons];exact List.mem_cons_of_mem _ hy)
theorem orI_hit{l:List Int}{k:Nat}{x:Int}(h:∀ y∈l.take k,y=0)(hx:l[k]? =some x)(h0:x≠0):orI l=x:=by
  obtain⟨h1,rfl⟩:=List.getElem?_eq_some_iff.1 hx;rw[zjs h,List.drop_eq_getElem_cons h1,orI,if_pos h0]
theorem orI_none{l:List Int}{k:Nat}(h:∀ y∈l.take k,y=0)(hk:l.length≤k):orI l=0:=by
  rw[zjs h,List.drop_of_length_le hk];rfl
theorem zce{l:List Int}{k:Nat}{x:Int}(h:∀ y∈l.take k,y=0)(hx:l[k]? =some x)(h0:x=0):∀ y∈l.take (k+1),y=0:=fun y hy=>by
  rw[List.take_add_one,hx]at hy
  rcases List.mem_append.1 hy with hy|hy
  · exact h y hy
  · have e:y=x:=by simpa using hy
    rw[e];exact h0
def orIS:QSpec:=fun vs K=>∃ l:List Int,vs=[.c (.ds l.length (.ints .i64 l))]∧l.length≤9223372036854775807∧K (.c (.int .i64 (orI l)))
theorem orI_ok:z11 Tryd.prog gl 38 orIS:=by
 refine z0u (Γ:=g0) (N:=18) Tryd.func38 rfl rfl fun vs K h=>?_;obtain⟨l,rfl,hl,h⟩:=h;refine⟨_,h,rfl,by simp,fun w I=>?_⟩;refine srR g0_ok fun _ K2=>?_;refine zng ?_;refine s_n K2 ?_;refine srR g0_ok fun _ K4=>?_;refine zng ?_;refine s_n K4 ?_;refine seq_k fun _ K5=>?_;refine srR g0_ok fun _ K7=>?_
 iterate 3 refine zng ?_
 refine s_n K7 ?_;refine z0a ?_;refine z13 (α:=Nat) (fun k=>[(3,.c (.int .i64 0)),(6,.c (.ds l.length (.ints .i64 l))),(7,.c (.int .i64 (l.length:Nat))),(8,.c (.int .i64 (k:Nat)))]) (fun k=>[]) 0 (fun k=>k≤l.length∧∀ y∈l.take k,y=0) (fun k=>l.length - k) ?_ ?_
 ·refine dnS [] id 0 ⟨Nat.zero_le _,by simp⟩ [] uBc_0 uBc_0 uBc_0 uBc_0
 ·intro k hk
  refine srR g0_ok fun _ K9=>?_;refine zng ?_;refine s_n K9 ?_;refine seq_k fun _ K10=>?_;refine z06 (b:=_) rfl (fun h_t9=>?_) (fun h_t9=>?_)
  ·try simp only[dQ,reduceIte]at h_t9
   refine z0g ?_;apply K10;refine seq_k fun _ K11=>?_;refine z0a ?_
   have hkl:k< l.length:=by omega
   obtain⟨x,hx⟩:=hasAt hkl;refine srR g0_ok fun _ K13=>?_;refine zng ?_;refine sXEUf_4 ?_;refine exA (.c (.int .i64 x)) (as_i (by rw[List.getD_eq_getElem?_getD,show((k:Int).toNat*1)=k by omega,hx];rfl)) ?_;refine zng ?_;refine s_n K13 ?_;refine srR g0_ok fun _ K15=>?_
   iterate 3 refine zng ?_
   refine s_n K15 ?_;refine z06 (b:=_) rfl (fun h_t14=>?_) (fun h_t14=>?_)
   ·try simp only[dQ,reduceIte]at h_t14
    refine srR g0_ok fun _ K17=>?_
    iterate 2 refine zng ?_
    refine s_n K17 ?_;refine z0b (z02 g0_ok (fun _ _ h=>h) (by first|rfl|assumption) [.tmp 2] rfl ?_);refine rtD ?_
    show SV.c (.int .i64 x)=_
    rw[orI_hit hk.2 hx (by omega)]
   ·try simp only[dQ,reduceIte]at h_t14
    refine z0g ?_;refine z08 ?_;apply K11
    have hk2:=zce hk.2 hx (by omega)
    refine z04 g0_ok fun _ K18=>?_
    iterate 2 refine zng ?_
    refine s_n K18 ?_;refine dnS [] id (k+1) ⟨⟨by omega,hk2⟩,by omega⟩ [] uBc_0 uBc_0 uBc_0 uBc_0
  ·try simp only[dQ,reduceIte]at h_t9
   refine z0y ?_;refine z03 ?_;refine z03 ?_;refine z0s ?_;apply K5;refine srR g0_ok fun _ K20=>?_
   iterate 2 refine zng ?_
   refine s_n K20 ?_;refine z0b (z02 g0_ok (fun _ _ h=>h) (by first|rfl|assumption) [.tmp 2] rfl ?_);refine rtD ?_
   show SV.c (.int .i64 0)=_
   rw[orI_none hk.2 (by omega)]

noncomputable def ccp:Ctx:={ P:=Tryd.prog,ty:=ty,glob:=gl,fs:=[(39,.flat cmpIS)] }
theorem z3w:ccp.OK:=⟨tyOK,⟨⟨z07 Tryd.func39 kQf rfl,zoj⟩,trivial⟩,mixed⟩
@[simp] theorem ccp_ty:ccp.ty=ty:=rfl

def cmpNS:QSpec:=fun vs K=>∃ l m:List Int,vs=[.c (.ds l.length (.ints .i64 l)),.c (.ds m.length (.ints .i64 m))]∧(l.length≤9223372036854775807∧m.length≤9223372036854775807)∧K (.c (.int .i64 (cmpL cmpI l m)))
theorem cmpN_ok:z11 Tryd.prog gl 42 cmpNS:=by
 refine z0u (Γ:=ccp) (N:=36) Tryd.func42 rfl rfl fun vs K h=>?_;obtain⟨l,m,rfl,⟨hl,hm⟩,h⟩:=h;refine⟨_,h,rfl,by simp,fun w I=>?_⟩;refine srR z3w fun _ K2=>?_;refine z4g ?_;refine s_n K2 ?_;refine seq_k fun _ K3=>?_;refine srR z3w fun _ K5=>?_
 iterate 3 refine z4g ?_
 refine s_n K5 ?_;refine z0a ?_;refine z13 (α:=Nat) (fun k=>[(0,.c (.ds l.length (.ints .i64 l))),(1,.c (.ds m.length (.ints .i64 m))),(9,.c (.ds l.length (.ints .i64 l))),(10,.c (.int .i64 (l.length:Nat))),(11,.c (.int .i64 (k:Nat)))]) (fun k=>[]) 0 (fun k=>k≤l.length∧k≤m.length∧∀ i a b,i< k→l[i]? =some a→m[i]? =some b→cmpI a b=0) (fun k=>l.length - k) ?_ ?_
 ·refine dnS [] id 0 ⟨Nat.zero_le _,Nat.zero_le _,fun i a b hi=>absurd hi (Nat.not_lt_zero i)⟩ [] uBc_0 uBc_0 uBc_0 uBc_0
 ·intro k hk
  refine srR z3w fun _ K7=>?_;refine z4g ?_;refine s_n K7 ?_;refine seq_k fun _ K8=>?_;refine z06 (b:=_) rfl (fun h_t12=>?_) (fun h_t12=>?_)
  ·try simp only[dQ,reduceIte]at h_t12
   refine z0g ?_;apply K8;refine seq_k fun _ K9=>?_;refine z0a ?_
   have hkl:k< l.length:=by omega
   obtain⟨x,hx⟩:=hasAt hkl;refine srR z3w fun _ K11=>?_
   iterate 2 refine z4g ?_
   refine zhr ?_;refine exA (.c (.int .i64 x)) (as_i (by rw[List.getD_eq_getElem?_getD,show((k:Int).toNat*1)=k by omega,hx];rfl)) ?_
   iterate 2 refine z4g ?_
   refine s_n K11 ?_;refine seq_k fun _ K12=>?_;refine srR z3w fun _ K14=>?_
   iterate 4 refine z4g ?_
   refine s_n K14 ?_;refine z06 (b:=_) rfl (fun h_t19=>?_) (fun h_t19=>?_)
   ·try simp only[dQ,reduceIte]at h_t19
    refine srR z3w fun _ K16=>?_;refine z4g ?_;refine s_n K16 ?_;refine z0b (z02 z3w (fun _ _ h=>h) (by first|rfl|assumption) [.tmp 4] rfl ?_);refine rtD ?_
    show SV.c (.int .i64 1)=_
    rw[z4h _ hk.2.2 hk.1 hk.2.1,zoi _ hkl (by omega)]
   ·try simp only[dQ,reduceIte]at h_t19
    refine z0g ?_;apply K12
    have hkm:k< m.length:=by omega
    obtain⟨y,hy⟩:=hasAt hkm;refine srR z3w fun _ K18=>?_
    iterate 3 refine z4g ?_
    refine zhr ?_;refine exA (.c (.int .i64 y)) (as_i (by rw[List.getD_eq_getElem?_getD,show((k:Int).toNat*1)=k by omega,hy];rfl)) ?_;refine z4g ?_;refine s_n K18 ?_;refine srR z3w fun _ K20=>?_
    iterate 2 refine z4g ?_
    refine zhr ?_;refine⟨x,y,rfl,?_⟩;refine DBm_2 ?_
    first|refine exI ?_|(intro cap2 hcap2;refine exI ?_)
    refine z4g ?_;refine s_n K20 ?_;refine srR z3w fun _ K22=>?_
    iterate 2 refine z4g ?_
    refine s_n K22 ?_;refine z06 (b:=_) rfl (fun h_t28=>?_) (fun h_t28=>?_)
    ·try simp only[dQ,reduceIte]at h_t28
     refine srR z3w fun _ K24=>?_
     iterate 2 refine z4g ?_
     refine s_n K24 ?_;refine z0b (z02 z3w (fun _ _ h=>h) (by first|rfl|assumption) [.tmp 4] rfl ?_);refine rtD ?_
     show SV.c (.int .i64 (cmpI x y))=_
     rw[z4h _ hk.2.2 hk.1 hk.2.1,zoh _ hx hy (by omega)]
    ·try simp only[dQ,reduceIte]at h_t28
     refine z0g ?_;refine z08 ?_;apply K9
     have hk2:∀ i a b,i< k+1→l[i]? =some a→m[i]? =some b→cmpI a b=0:=fun i a b hi ha hb=>by
      rcases Nat.lt_or_ge i k with h1|h1
      ·exact hk.2.2 i a b h1 ha hb
      ·obtain rfl:i=k:=by omega
       rw[hx]at ha;rw[hy]at hb;cases ha;cases hb;omega
     refine z04 z3w fun _ K25=>?_
     iterate 2 refine z4g ?_
     refine s_n K25 ?_;refine dnS [] id (k+1) ⟨⟨by omega,by omega,hk2⟩,by omega⟩ [] uBc_0 uBc_0 uBc_0 uBc_0
  ·try simp only[dQ,reduceIte]at h_t12
   refine z0y ?_;refine z03 ?_;refine z03 ?_;refine z0s ?_;apply K3;refine seq_k fun _ K26=>?_;refine srR z3w fun _ K28=>?_
   iterate 5 refine z4g ?_
   refine s_n K28 ?_;refine z06 (b:=_) rfl (fun h_t35=>?_) (fun h_t35=>?_)
   ·try simp only[dQ,reduceIte]at h_t35
    refine srR z3w fun _ K30=>?_;refine z4g ?_;refine s_n K30 ?_;refine z0b (z02 z3w (fun _ _ h=>h) (by first|rfl|assumption) [.tmp 4] rfl ?_);refine rtD ?_
    show SV.c (.int .i64 (-1))=_
    rw[z4h _ hk.2.2 hk.1 hk.2.1,zah _ (by omega),if_pos (by omega)]
   ·try simp only[dQ,reduceIte]at h_t35
    refine z0g ?_;apply K26;refine srR z3w fun _ K32=>?_;refine z4g ?_;refine s_n K32 ?_;refine z0b (z02 z3w (fun _ _ h=>h) (by first|rfl|assumption) [.tmp 4] rfl ?_);refine rtD ?_
    show SV.c (.int .i64 0)=_
    rw[z4h _ hk.2.2 hk.1 hk.2.1,zah _ (by omega),if_neg (by omega)]


end Go.Proofs.YtegdcifghaldoaaDoor

namespace Go.Proofs.YtegdcifghaldoaaDoor
set_option linter.all false
open Go.Ab Go.RowKit

theorem zc0 {P:Program} {I:Nat→Prop} {w:World} {l:List UInt8} {v:Value} (h:CellD I w (.ds l.length (.u8s l)) v):(Extern.Bytes.bytesOf v).run P w= .ok ⟨l.toArray⟩ w:=by
  obtain⟨a,cap,rfl,-,h⟩:=h.ds_inv
  rcases h with⟨h0,h1⟩|⟨b,off,rfl,hd⟩
  · have hl:l=[]:=List.length_eq_zero_iff.1 h1
    subst hl
    cases a<;>rfl
  · have hx:=Lib.run_loadBytesX (P:=P) w (l.map fun b=>(b.toNat:Int)) ⟨b,off,none⟩ .empty (fun j x hj=>by
      rw[List.getElem?_map]at hj
      cases hlj:l[j]? with
      |none=>rw[hlj]at hj;cases hj
      | some u=>
        rw[hlj]at hj
        have hjl:j< l.length:=(List.getElem?_eq_some_iff.1 hlj).1
        obtain⟨y,hy,hc⟩:=hd.2 j hjl
        have e:(⟨b,off,none⟩:Addr).add j=⟨b,off+j,none⟩:=by unfold Addr.add;split<;>simp_all
        rw[e,hy]
        have hu:(Cont.u8s l).get j= .u8 u:=by show Cell.u8 (l.getD j 0)=_;rw[List.getD_eq_getElem?_getD,hlj];rfl
        rw[hu]at hc;rw[CellD.of_flat rfl hc];cases hj
        rfl)
    rw[List.length_map]at hx
    have e2:(⟨ByteArray.empty.data++(Lib.bytesOf (l.map fun b=>(b.toNat:Int))).toArray⟩:ByteArray)=⟨l.toArray⟩:=by
      apply ByteArray.ext
      show(#[]:Array UInt8)++_=l.toArray
      have:Lib.bytesOf (l.map fun b=>(b.toNat:Int))=l:=by
        unfold Lib.bytesOf;rw[List.map_map]
        conv=>rhs;rw[←List.map_id l]
        refine List.map_congr_left fun x _=>?_
        simp
      rw[this];simp
    rw[e2]at hx;exact hx
theorem idx_run{P:Program}{I:Nat→Prop}{w:World}{l:List UInt8}{b:UInt8}{v:Value}(h:CellD I w (.ds l.length (.u8s l)) v):(Extern.BytealgIndexByte.indexByte #[v,.int .u8 b.toNat]).run P w= .ok (.int .i64 (Lib.indexByte l b)) w:=by
  have hs:=Lib.run_indexByteString (P:=P) ⟨l.toArray⟩ (b.toNat:Int) w
  rw[show((b.toNat:Int).toNat.toUInt8)=b by simp]at hs
  change Sem.run P (do
    let b ←Extern.Bytes.bytesOf v
    let c ←Extern.Bytes.asByte (.int .u8 _)
    match (List.range b.size).find? fun i=>b[i]! ==c with
    |some i=>pure (goInt i)
    |none=>pure (goInt (-1))) w=_
  change Sem.run P (do
    let b ←Extern.Bytes.bytesOf (.string ⟨l.toArray⟩)
    let c ←Extern.Bytes.asByte (.int .u8 _)
    match (List.range b.size).find? fun i=>b[i]! ==c with
    |some i=>pure (goInt i)
    |none=>pure (goInt (-1))) w=_ at hs
  simp only[Sem.run_bind,zc0 h]at hs ⊢
  simp only[Extern.Bytes.bytesOf,Sem.run_pure]at hs
  exact hs
theorem cmp_run{P:Program}{I:Nat→Prop}{w:World}{l m:List UInt8}{u v:Value}(h:CellD I w (.ds l.length (.u8s l)) u)(k:CellD I w (.ds m.length (.u8s m)) v):(Extern.BytealgCompare.compare #[u,v]).run P w= .ok (.int .i64 (Lib.compareBytes l m)) w:=by
  change Sem.run P (do pure (goInt (Extern.BytealgCompare.cmp (←Extern.Bytes.bytesOf u) (←Extern.Bytes.bytesOf v)))) w=_
  simp only[Sem.run_bind,zc0 h,zc0 k,Sem.run_pure,Result.andThen]
  rw[Lib.cmp_eq]
  rfl
def zok:QSpec:=fun vs K=>∃ (l:List UInt8) (b:UInt8),vs=[.c (.ds l.length (.u8s l)),.c (.u8 b)]∧K (.c (.int .i64 (Lib.indexByte l b)))
def zfy:QSpec:=fun vs K=>∃ l m:List UInt8,vs=[.c (.ds l.length (.u8s l)),.c (.ds m.length (.u8s m))]∧K (.c (.int .i64 (Lib.compareBytes l m)))
theorem zjt{I:Nat→Prop}{w:World}{a b:Cell}{xs:List Value}(h:ArgsD I w [.c a,.c b] xs):∃ u v,xs=[u,v]∧a.rel noVal I w u∧b.rel noVal I w v:=by
  obtain⟨hl,h⟩:=h
  match xs,hl with
  | [u,v],_=>
    obtain⟨u',hu,h1,-⟩:=h 0 _ rfl;obtain⟨v',hv,h2,-⟩:=h 1 _ rfl
    cases hu;cases hv
    exact⟨u,v,rfl,h1,h2⟩
section
set_option maxHeartbeats 1000000
set_option maxRecDepth 100000
theorem zol:z11 Tryd.prog gl 74 zok:=fun vs K ⟨l,b,e,h⟩=>by
  subst e;refine⟨_,h,rfl,fun I w xs hG hI hA=>?_⟩;obtain⟨u,v,rfl,hu,hv⟩:=zjt hA;obtain rfl:v= .int .u8 b.toNat:=(Cell.rel_flat (x:=.u8 b) rfl).1 hv
  have hd:CellD I w (.ds l.length (.u8s l)) u:=Cell.rel_D (x:=.ds l.length (.u8s l)) trivial hu
  have t3:=Tryd.underlying3
  have a3:=fun w=>tyOK.isAgg_one (t:=3) rfl w
  have t5:=Tryd.underlying5
  have a5:=fun w=>tyOK.isAgg_one (t:=5) rfl w
  have t28:=Tryd.underlying28
  have a28:=fun w=>tyOK.isAgg_one (t:=28) rfl w
  have mixed:=mixed
  have hf:=Tryd.func74
  have hn:Tryd.f74.ntmps=8:=by kernel_rfl
  have hf2:=Tryd.func97
  go_enter hf,hn
  go_wp2
  rw[run_callFunc_extern hf2 kQf kQf kQf (e:=Extern.BytealgIndexByte.indexByte) kQf,idx_run hd]
  simp only[Result.andThen]
  rw[Oper.upon_value]
  go_wp2
  go_ret
  exact⟨rfl,Below.refl _ _⟩
theorem zhs:z11 Tryd.prog gl 40 zfy:=fun vs K ⟨l,m,e,h⟩=>by
  subst e;refine⟨_,h,rfl,fun I w xs hG hI hA=>?_⟩;obtain⟨u,v,rfl,hu,hv⟩:=zjt hA
  have hd:CellD I w (.ds l.length (.u8s l)) u:=Cell.rel_D (x:=.ds l.length (.u8s l)) trivial hu
  have hd2:CellD I w (.ds m.length (.u8s m)) v:=Cell.rel_D (x:=.ds m.length (.u8s m)) trivial hv
  have t3:=Tryd.underlying3
  have a3:=fun w=>tyOK.isAgg_one (t:=3) rfl w
  have t5:=Tryd.underlying5
  have a5:=fun w=>tyOK.isAgg_one (t:=5) rfl w
  have t28:=Tryd.underlying28
  have a28:=fun w=>tyOK.isAgg_one (t:=28) rfl w
  have mixed:=mixed
  have hf:=Tryd.func40
  have hn:Tryd.f40.ntmps=8:=by kernel_rfl
  have hf2:=Tryd.func71
  go_enter hf,hn
  go_wp2
  rw[run_callFunc_extern hf2 kQf kQf kQf (e:=Extern.BytealgCompare.compare) kQf,cmp_run hd hd2]
  simp only[Result.andThen]
  rw[Oper.upon_value]
  go_wp2
  go_ret
  exact⟨rfl,Below.refl _ _⟩
end

end Go.Proofs.YtegdcifghaldoaaDoor

namespace Go.Proofs.YtegdcifghaldoaaDoor
set_option linter.all false
open Go.Ab Go.RowKit

section
variable {a b:Prop}
theorem qBo1(h:a:=by first|exact vcA|(simp<;>omega)|exact⟨trivial,trivial⟩|exact vcB):a:=h
theorem DBo_2(kZ:b)(h:HidB b→a:=by intro kZ;(repeat first|refine aI qBo1 ?_|refine z0d qBo1 ?_|refine z09 qBo1 ?_|refine z0p qBo1 ?_|refine z0e ?_);exact kZ.out):a:=h ⟨kZ⟩
theorem zju(kZ:b)(h:HidB b→a:=by intro kZ;refine sX ?_;refine DBo_2 ?_;refine exI ?_;exact kZ.out):a:=h ⟨kZ⟩
theorem zfz(kZ:b)(h:HidB b→a:=by intro kZ;refine dX ?_;refine DBd_3 ?_;refine exI ?_;exact kZ.out):a:=h ⟨kZ⟩
theorem gXBo_9(kZ:b)(h:HidB b→a:=by intro kZ;refine gX ?_;refine DBd_3 ?_;refine exI ?_;exact kZ.out):a:=h ⟨kZ⟩
theorem zdz(kZ:b)(h:HidB b→a:=by intro kZ;refine sX ?_;refine DBo_2 ?_;exact kZ.out):a:=h ⟨kZ⟩
theorem zai(kZ:b)(h:HidB b→a:=by intro kZ;refine dX ?_;refine DBd_3 ?_;exact kZ.out):a:=h ⟨kZ⟩
theorem ze1(kZ:b)(h:HidB b→a:=by intro kZ;refine gX ?_;refine DBd_3 ?_;exact kZ.out):a:=h ⟨kZ⟩
end
open Go.Aut
theorem z73:∀ a b:List UInt8,Go.Lib.compareBytes a b=cmpB a b
  |[],[]=>rfl
  |[],_::_=>rfl
  |_::_,[]=>rfl
  | x ::a,y::b=>by
    have ih:=z73 a b
    unfold Go.Lib.compareBytes
    show _=cmpL _ (x::a) (y::b)
    rw[cmpL]
    have h1:(x< y)↔((x.toNat:Int)< y.toNat):=by rw[UInt8.lt_iff_toNat_lt];omega
    have h2:(y< x)↔((y.toNat:Int)< x.toNat):=by rw[UInt8.lt_iff_toNat_lt];omega
    unfold cmpI
    by_cases e1:x< y
    · have:=h1.1 e1
      simp[e1,this]
    · by_cases e2:y< x
      · have h3:=h2.1 e2
        have h4:¬ ((x.toNat:Int)< y.toNat):=fun hh=>e1 (h1.2 hh)
        simp[e1,e2,h3,h4]
      · have h3:¬ ((y.toNat:Int)< x.toNat):=fun hh=>e2 (h2.2 hh)
        have h4:¬ ((x.toNat:Int)< y.toNat):=fun hh=>e1 (h1.2 hh)
        simp only[e1,e2,if_false,h3,h4,ne_eq,not_true_eq_false]
        exact ih
noncomputable def cls:Ctx:={ P:=Tryd.prog,ty:=ty,glob:=gl,fs:=[(39,.flat cmpIS),(40,.flat zfy),(38,.flat orIS)] }
theorem zom:cls.OK:=⟨tyOK,⟨⟨z07 Tryd.func39 kQf rfl,zoj⟩,⟨z07 Tryd.func40 kQf rfl,zhs⟩,⟨z07 Tryd.func38 kQf rfl,orI_ok⟩,trivial⟩,mixed⟩
@[simp] theorem cls_ty:cls.ty=ty:=rfl

def shlexS:QSpec:=fun vs K=>∃ a b:List UInt8,vs=[.c (.ds a.length (.u8s a)),.c (.ds b.length (.u8s b))]∧K (.c (.int .i64 (shlex a b)))
theorem shlex_ok:z11 Tryd.prog gl 37 shlexS:=by
 refine z0u (Γ:=cls) (N:=15) Tryd.func37 rfl rfl fun vs K h=>?_;obtain⟨a,b,rfl,h⟩:=h;refine⟨_,h,rfl,by simp,fun w I=>?_⟩;refine srR zom fun _ K2=>?_;refine zng ?_;refine s_n K2 ?_;refine srR zom fun _ K4=>?_
 iterate 4 refine zju ?_
 refine zdz ?_;refine⟨a.length,b.length,rfl,?_⟩;refine DBo_2 ?_
 first|refine exI ?_|(intro cap4 hcap4;refine exI ?_)
 iterate 2 refine zju ?_
 refine zdz ?_;refine⟨a,b,rfl,?_⟩;refine DBo_2 ?_
 first|refine exI ?_|(intro cap7 hcap7;refine exI ?_)
 refine zju ?_;refine zdz ?_;refine⟨[cmpI (a.length:Nat) (b.length:Nat),Go.Lib.compareBytes a b],rfl,(by show 2≤_;decide),?_⟩;refine DBo_2 ?_
 first|refine exI ?_|(intro cap9 hcap9;refine exI ?_)
 refine zju ?_;refine s_n K4 ?_;refine z0b (z02 zom (fun _ _ h=>h) (by first|rfl|assumption) [.tmp 4] rfl ?_);refine rtD ?_
 show SV.c (.int .i64 _)=_
 rw[z73];rfl

noncomputable def clf:Ctx:={ P:=Tryd.prog,ty:=ty,glob:=gl,fs:=[(37,.flat shlexS)] }
theorem z3x:clf.OK:=⟨tyOK,⟨⟨z07 Tryd.func37 kQf rfl,shlex_ok⟩,trivial⟩,mixed⟩
@[simp] theorem clf_ty:clf.ty=ty:=rfl

theorem zht{l:List (List UInt8)}{i j:Nat}(h:i< l.length∧j=i):(Cont.cells (lists l)).get j= .ds (l.getD i []).length (.u8s (l.getD i [])):=by rw[h.2];exact z71 h.1
def cmpSS:QSpec:=fun vs K=>∃ l m:List (List UInt8),vs=[.c (.ds l.length (.cells (lists l))),.c (.ds m.length (.cells (lists m))),.c (.clo 37 [])]∧(l.length≤9223372036854775807∧m.length≤9223372036854775807)∧K (.c (.int .i64 (cmpL shlex l m)))
theorem cmpS_ok:z11 Tryd.prog gl 41 cmpSS:=by
 refine z0u (Γ:=clf) (N:=39) Tryd.func41 rfl rfl fun vs K h=>?_;obtain⟨l,m,rfl,⟨hl,hm⟩,h⟩:=h;refine⟨_,h,rfl,by simp,fun w I=>?_⟩;refine srR z3x fun _ K2=>?_;refine z4g ?_;refine s_n K2 ?_;refine seq_k fun _ K3=>?_;refine srR z3x fun _ K5=>?_
 iterate 3 refine z4g ?_
 refine s_n K5 ?_;refine z0a ?_;refine z13 (α:=Nat) (fun k=>[(0,.c (.ds l.length (.cells (lists l)))),(1,.c (.ds m.length (.cells (lists m)))),(2,.c (.clo 37 [])),(11,.c (.ds l.length (.cells (lists l)))),(12,.c (.int .i64 (l.length:Nat))),(13,.c (.int .i64 (k:Nat)))]) (fun k=>[]) 0 (fun k=>k≤l.length∧k≤m.length∧∀ i a b,i< k→l[i]? =some a→m[i]? =some b→shlex a b=0) (fun k=>l.length - k) ?_ ?_
 ·refine dnS [] id 0 ⟨Nat.zero_le _,Nat.zero_le _,fun i a b hi=>absurd hi (Nat.not_lt_zero i)⟩ [] uBc_0 uBc_0 uBc_0 uBc_0
 ·intro k hk
  refine srR z3x fun _ K7=>?_;refine z4g ?_;refine s_n K7 ?_;refine seq_k fun _ K8=>?_;refine z06 (b:=_) rfl (fun h_t14=>?_) (fun h_t14=>?_)
  ·try simp only[dQ,reduceIte]at h_t14
   refine z0g ?_;apply K8;refine seq_k fun _ K9=>?_;refine z0a ?_
   have hkl:k< l.length:=by omega
   obtain⟨x,hx⟩:=hasAt hkl;refine srR z3x fun _ K11=>?_
   iterate 2 refine z4g ?_
   refine zhr ?_;refine exA (.c (.ds x.length (.u8s x))) (as_c ((zht (i:=k) ⟨hkl,by omega⟩).trans (by rw[List.getD_eq_getElem?_getD,hx];rfl))) ?_
   iterate 2 refine z4g ?_
   refine s_n K11 ?_;refine seq_k fun _ K12=>?_;refine srR z3x fun _ K14=>?_
   iterate 4 refine z4g ?_
   refine s_n K14 ?_;refine z06 (b:=_) rfl (fun h_t21=>?_) (fun h_t21=>?_)
   ·try simp only[dQ,reduceIte]at h_t21
    refine srR z3x fun _ K16=>?_;refine z4g ?_;refine s_n K16 ?_;refine z0b (z02 z3x (fun _ _ h=>h) (by first|rfl|assumption) [.tmp 6] rfl ?_);refine rtD ?_
    show SV.c (.int .i64 1)=_
    rw[z4h _ hk.2.2 hk.1 hk.2.1,zoi _ hkl (by omega)]
   ·try simp only[dQ,reduceIte]at h_t21
    refine z0g ?_;apply K12
    have hkm:k< m.length:=by omega
    obtain⟨y,hy⟩:=hasAt hkm;refine srR z3x fun _ K18=>?_
    iterate 3 refine z4g ?_
    refine zhr ?_;refine exA (.c (.ds y.length (.u8s y))) (as_c ((zht (i:=k) ⟨hkm,by omega⟩).trans (by rw[List.getD_eq_getElem?_getD,hy];rfl))) ?_;refine z4g ?_;refine s_n K18 ?_;refine srR z3x fun _ K20=>?_
    iterate 3 refine z4g ?_
    refine zhr ?_;refine⟨x,y,rfl,?_⟩;refine DBm_2 ?_
    first|refine exI ?_|(intro cap3 hcap3;refine exI ?_)
    refine z4g ?_;refine s_n K20 ?_;refine srR z3x fun _ K22=>?_
    iterate 2 refine z4g ?_
    refine s_n K22 ?_;refine z06 (b:=_) rfl (fun h_t31=>?_) (fun h_t31=>?_)
    ·try simp only[dQ,reduceIte]at h_t31
     refine srR z3x fun _ K24=>?_
     iterate 2 refine z4g ?_
     refine s_n K24 ?_;refine z0b (z02 z3x (fun _ _ h=>h) (by first|rfl|assumption) [.tmp 6] rfl ?_);refine rtD ?_
     show SV.c (.int .i64 (shlex x y))=_
     rw[z4h _ hk.2.2 hk.1 hk.2.1,zoh _ hx hy (by omega)]
    ·try simp only[dQ,reduceIte]at h_t31
     refine z0g ?_;refine z08 ?_;apply K9
     have hk2:∀ i a b,i< k+1→l[i]? =some a→m[i]? =some b→shlex a b=0:=fun i a b hi ha hb=>by
      rcases Nat.lt_or_ge i k with h1|h1
      ·exact hk.2.2 i a b h1 ha hb
      ·obtain rfl:i=k:=by omega
       rw[hx]at ha;rw[hy]at hb;cases ha;cases hb;omega
     refine z04 z3x fun _ K25=>?_
     iterate 2 refine z4g ?_
     refine s_n K25 ?_;refine dnS [] id (k+1) ⟨⟨by omega,by omega,hk2⟩,by omega⟩ [] uBc_0 uBc_0 uBc_0 uBc_0
  ·try simp only[dQ,reduceIte]at h_t14
   refine z0y ?_;refine z03 ?_;refine z03 ?_;refine z0s ?_;apply K3;refine seq_k fun _ K26=>?_;refine srR z3x fun _ K28=>?_
   iterate 5 refine z4g ?_
   refine s_n K28 ?_;refine z06 (b:=_) rfl (fun h_t38=>?_) (fun h_t38=>?_)
   ·try simp only[dQ,reduceIte]at h_t38
    refine srR z3x fun _ K30=>?_;refine z4g ?_;refine s_n K30 ?_;refine z0b (z02 z3x (fun _ _ h=>h) (by first|rfl|assumption) [.tmp 6] rfl ?_);refine rtD ?_
    show SV.c (.int .i64 (-1))=_
    rw[z4h _ hk.2.2 hk.1 hk.2.1,zah _ (by omega),if_pos (by omega)]
   ·try simp only[dQ,reduceIte]at h_t38
    refine z0g ?_;apply K26;refine srR z3x fun _ K32=>?_;refine z4g ?_;refine s_n K32 ?_;refine z0b (z02 z3x (fun _ _ h=>h) (by first|rfl|assumption) [.tmp 6] rfl ?_);refine rtD ?_
    show SV.c (.int .i64 0)=_
    rw[z4h _ hk.2.2 hk.1 hk.2.1,zah _ (by omega),if_neg (by omega)]

noncomputable def cle:Ctx:={ P:=Tryd.prog,ty:=ty,glob:=gl,fs:=[(41,.flat cmpSS),(42,.flat cmpNS),(38,.flat orIS)] }
theorem zjv:cle.OK:=⟨tyOK,⟨⟨z07 Tryd.func41 kQf rfl,cmpS_ok⟩,⟨z07 Tryd.func42 kQf rfl,cmpN_ok⟩,⟨z07 Tryd.func38 kQf rfl,orI_ok⟩,trivial⟩,mixed⟩
@[simp] theorem cle_ty:cle.ty=ty:=rfl

def lessS:QSpec:=fun vs K=>∃ a b:Mdl,vs=[mdlV a,mdlV b]∧(a.s.length≤9223372036854775807∧a.n.length≤9223372036854775807∧b.s.length≤9223372036854775807∧b.n.length≤9223372036854775807)∧K (.c (.bool (lessN a b)))
theorem less_ok:z11 Tryd.prog gl 16 lessS:=by
 refine z0u (Γ:=cle) (N:=20) Tryd.func16 rfl rfl fun vs K h=>?_;obtain⟨a,b,rfl,⟨ha1,ha2,hb1,hb2⟩,h⟩:=h;refine⟨_,h,rfl,by simp,fun w I=>?_⟩;refine srR zjv fun _ K2=>?_
 iterate 3 refine sXBd_4 ?_
 refine s_n K2 ?_;refine srR zjv fun _ K4=>?_;refine sXBd_4 ?_;refine s_n K4 ?_;refine srD zjv [(0,true),(1,true),(2,true),(3,true),(4,true),(6,true),(7,true),(8,true),(9,true),(5,false),(10,false),(11,false),(12,false),(13,true),(14,true)] rfl kQf kQf fun _ K6=>?_;refine zfz ?_;refine zai ?_;refine exA (.c (.ds a.s.length (.cells (lists a.s)))) (as_eq rfl) ?_;refine zfz ?_;refine zai ?_;refine exA (.c (.ds b.s.length (.cells (lists b.s)))) (as_eq rfl) ?_
 iterate 2 refine zfz ?_
 refine zai ?_;refine exA (.c (.ds a.n.length (.ints .i64 a.n))) (as_eq rfl) ?_;refine zfz ?_;refine zai ?_;refine exA (.c (.ds b.n.length (.ints .i64 b.n))) (as_eq rfl) ?_;refine ze1 ?_;refine⟨a.s,b.s,rfl,⟨ha1,hb1⟩,?_⟩;refine DBd_3 ?_
 first|refine exI ?_|(intro cap5 hcap5;refine exI ?_)
 refine ze1 ?_;refine⟨a.n,b.n,rfl,⟨ha2,hb2⟩,?_⟩;refine DBd_3 ?_
 first|refine exI ?_|(intro cap10 hcap10;refine exI ?_)
 refine gXBo_9 ?_;refine ze1 ?_;refine⟨[cmpL shlex a.s b.s,cmpL cmpI a.n b.n],rfl,(by show 2≤_;decide),?_⟩;refine DBd_3 ?_
 first|refine exI ?_|(intro cap12 hcap12;refine exI ?_)
 iterate 2 refine zfz ?_
 refine d_n K6 ?_;refine z0b (z02 zjv (fun _ _ h=>h) (by first|rfl|assumption) [.tmp 4] rfl ?_);refine rtD ?_
 show SV.c (.bool _)=_
 rfl


end Go.Proofs.YtegdcifghaldoaaDoor

namespace Go.Proofs.YtegdcifghaldoaaDoor
set_option linter.all false
open Go.Ab Go.RowKit

section
variable {a b:Prop}
theorem qBp0(h:a:=by first|exact vcA|(simp<;>omega)|exact Nat.le_of_ble_eq_true rfl|(show _< (z0o _ _).length;rw[z10 fndR (fun _ _=>trivial)];omega)|(show _≤(z0o _ _).length;rw[z10 fndR (fun _ _=>trivial)];omega)|exact vcB):a:=h
theorem uBp_1(h:a:=by
    repeat' (first|exact z01.to (z0i _)|exact z01.low (z0i _)|exact z01.to (z0k _)|exact z01.low (z0k _)|exact z01.to (z0l _)|exact z01.low (z0l _)|exact z01.to (z0c _)|exact z01.low (z0c _)|exact z01.to (z0m _)|exact z01.low (z0m _)|exact z01.to (z0f _)|exact z01.low (z0f _)|exact z01.to (z0h _ _)|exact z01.low (z0h _ _)|exact z01.to (z00 itmR _)|exact z01.low (z00 itmR _)|exact z01.to (z00 movR _)|exact z01.low (z00 movR _)|exact z01.to (z00 pceR _)|exact z01.low (z00 pceR _)|exact z01.to (z00 fndR _)|exact z01.low (z00 fndR _)|exact z01.to (z00 atmR _)|exact z01.low (z00 atmR _)|exact z01.to (z00 litR _)|exact z01.low (z00 litR _)|exact z01.to (z00 mdlR _)|exact z01.low (z00 mdlR _)|exact z0v (z0j z0r z05)|exact z0q (z0j z0r z05)|exact z0v z05|exact z0q z05|exact trivial|refine aI ?_ ?_|exact cC0|refine low_cons' ?_ ?_|exact cC1|fail)
    all_goals first|omega|(show(_:Int)=limL _ _ _;rw[limL];first|(rw[if_pos h_t19];done)|(rw[if_neg h_t19];done))|(show(_:Int)=limR _ _;rw[limR];first|(rw[if_pos (by omega)];done)|(rw[if_neg (by omega)];done))|(simp[-List.reduceReplicate];done)|(simp[-List.reduceReplicate]<;>omega)|skip):a:=h
theorem DBp_0(kZ:b)(h:HidB b→a:=by intro kZ;(repeat first|refine aI qBp0 ?_|refine z0d qBp0 ?_|refine z09 qBp0 ?_|refine z0p qBp0 ?_|refine z0e ?_);exact kZ.out):a:=h ⟨kZ⟩
theorem z2l(kZ:b)(h:HidB b→a:=by intro kZ;refine sX ?_;refine DBp_0 ?_;refine exI ?_;exact kZ.out):a:=h ⟨kZ⟩
theorem sX0Bp_2(kZ:b)(h:HidB b→a:=by intro kZ;refine sX0 ?_;refine DBp_0 ?_;refine exI ?_;exact kZ.out):a:=h ⟨kZ⟩
theorem zhu(kZ:b)(h:HidB b→a:=by intro kZ;refine sXT ?_;refine DBp_0 ?_;refine exI ?_;exact kZ.out):a:=h ⟨kZ⟩
theorem zc1(kZ:b)(h:HidB b→a:=by intro kZ;refine sX ?_;refine DBp_0 ?_;exact kZ.out):a:=h ⟨kZ⟩
theorem zjw(kZ:b)(h:HidB b→a:=by intro kZ;refine sXT ?_;refine DBp_0 ?_;exact kZ.out):a:=h ⟨kZ⟩
end
open Go.Aut
theorem getF{f:List FNd}{k:Nat}{x:FNd}(hx:f[k]? =some x):f.getD k fndZ=x:=by rw[List.getD_eq_getElem?_getD,hx];rfl
theorem zc2{f:List FNd}{atoms k:Nat}{x:FNd}(hx:f[k]? =some x)(h:fndOK k atoms x=false):z4w f atoms=false:=by
  have hk:k< f.length:=(List.getElem?_eq_some_iff.1 hx).1
  have:(List.range f.length).all (fun i=>fndOK i atoms (f.getD i fndZ))=false:=by
    rw[List.all_eq_false];exact⟨k,List.mem_range.2 hk,by rw[getF hx,h];decide⟩
  rw[z4w,this,Bool.false_and]
theorem z8q{f:List FNd}{atoms:Nat}(h:(List.range f.length).all (fun i=>fndOK i atoms (f.getD i fndZ))=true):z4w f atoms=decide (0< f.length):=by rw[z4w,h,Bool.true_and]
theorem zon{f:List FNd}{atoms k:Nat}{x:FNd}(h:(List.range k).all (fun i=>fndOK i atoms (f.getD i fndZ))=true)(hx:f[k]? =some x)(h2:fndOK k atoms x=true):(List.range (k+1)).all (fun i=>fndOK i atoms (f.getD i fndZ))=true:=by
  rw[List.range_succ,List.all_append,h]
  simp only[List.all_cons,List.all_nil,Bool.and_true,Bool.true_and]
  rw[getF hx,h2]
def limL(k atoms:Nat)(x:FNd):Int:=if x.kind=1 then(atoms:Nat) else(k:Nat)
def limR(k:Nat)(x:FNd):Int:=if x.kind=3∨x.kind=4 then(k:Int) - 1 else 0
theorem zoo{k atoms:Nat}{x:FNd}(h1:¬ x.kind=1)(h2:¬ x.kind=2)(h3:¬ x.kind=3)(h4:¬ x.kind=4):fndOK k atoms x=false:=by
  rw[fndOK,if_neg h1,if_neg h2,if_neg (by omega)]
theorem zop{k atoms:Nat}{x:FNd}(h:x.kind=1∨x.kind=2∨x.kind=3∨x.kind=4):fndOK k atoms x=(inI 0 (limL k atoms x - 1) x.l&&inI 0 (limR k x) x.r):=by
  unfold fndOK limL limR inI;rw[Bool.eq_iff_iff]
  rcases h with e|e|e|e<;>simp only[e]<;>simp<;>omega
noncomputable def cvf:Ctx:={ P:=Tryd.prog,ty:=ty,glob:=gl,fs:=[(52,.flat z9e)] }
theorem z2m:cvf.OK:=⟨tyOK,⟨⟨z07 Tryd.func52 kQf rfl,z72⟩,trivial⟩,mixed⟩
@[simp] theorem cvf_ty:cvf.ty=ty:=rfl

def zhv:QSpec:=fun vs K=>∃ (f:List FNd) (atoms:Nat),vs=[.c (.ds f.length (.cells (z0o fndL f))),.c (.int .i64 (atoms:Nat))]∧(f.length≤9223372036854775807∧atoms≤9223372036854775807)∧K (.c (.bool (z4w f atoms)))
theorem zg0:z11 Tryd.prog gl 36 zhv:=by
 refine z0u (Γ:=cvf) (N:=46) Tryd.func36 rfl rfl fun vs K h=>?_;obtain⟨f,atoms,rfl,⟨hf,hat⟩,h⟩:=h;refine⟨_,h,rfl,by simp,fun w I=>?_⟩;refine srR z2m fun _ K2=>?_;refine z2l ?_;refine s_n K2 ?_;refine seq_k fun _ K3=>?_;refine srR z2m fun _ K5=>?_
 iterate 3 refine z2l ?_
 refine s_n K5 ?_;refine z0a ?_;refine z13 (α:=Nat) (fun k=>[(0,.c (.ds f.length (.cells (z0o fndL f)))),(1,.c (.int .i64 (atoms:Nat))),(9,.c (.ds f.length (.cells (z0o fndL f)))),(10,.c (.int .i64 (f.length:Nat))),(11,.c (.int .i64 (k:Nat)))]) (fun k=>[]) 0 (fun k=>k≤f.length∧(List.range k).all (fun i=>fndOK i atoms (f.getD i fndZ))=true) (fun k=>f.length - k) ?_ ?_
 ·refine dnS [] id 0 ⟨Nat.zero_le _,rfl⟩ [] uBc_0 uBc_0 uBc_0 uBc_0
 ·intro k hk
  refine srR z2m fun _ K7=>?_;refine z2l ?_;refine s_n K7 ?_;refine seq_k fun _ K8=>?_;refine z06 (b:=_) rfl (fun h_t12=>?_) (fun h_t12=>?_)
  ·try simp only[dQ,reduceIte]at h_t12
   refine z0g ?_;apply K8;refine seq_k fun _ K9=>?_;refine z0a ?_
   have hkl:k< f.length:=by omega
   obtain⟨x,hx⟩:=hasAt hkl;refine srR z2m fun _ K11=>?_
   iterate 2 refine z2l ?_
   refine zc1 ?_;refine exA (.agg (.cells (fndL x))) (z31 fndR (fun _ _=>trivial) (i:=k) (by first|rfl|omega) rfl hx) ?_
   iterate 2 refine z2l ?_
   refine sX0Bp_2 ?_;refine s_n K11 ?_;refine srR z2m fun _ K13=>?_
   iterate 3 refine z2l ?_
   refine s_n K13 ?_;refine z3a (α:=Unit) (fun _=>[(0,.c (.ds f.length (.cells (z0o fndL f)))),(1,.c (.int .i64 (atoms:Nat))),(9,.c (.ds f.length (.cells (z0o fndL f)))),(10,.c (.int .i64 (f.length:Nat))),(11,.c (.int .i64 (k:Nat))),(5,.c (.int .i64 (k:Nat))),(6,.c (.dp (.cells (fndL x)) 0)),(7,.c (.int .i64 (limL k atoms x))),(8,.c (.int .i64 (limR k x)))]) (fun _=>[]) 0 (fun _=>x.kind=1∨x.kind=2∨x.kind=3∨x.kind=4) ?_ ?_
   ·refine srR z2m fun _ K15=>?_
    refine z2l ?_;refine zc1 ?_;refine exA (.c (.int .i64 x.kind)) (as_eq rfl) ?_;refine s_n K15 ?_;refine z0a ?_;refine srR z2m fun _ K17=>?_
    iterate 2 refine z2l ?_
    refine s_n K17 ?_;refine z06 (b:=_) rfl (fun h_t19=>?_) (fun h_t19=>?_)
    ·try simp only[dQ,reduceIte]at h_t19
     refine z04 z2m fun _ K18=>?_
     iterate 2 refine z2l ?_
     refine s_n K18 ?_;refine z08 ?_;refine dnS [0] id () (by omega) [] uBp_1 uBp_1 uBp_1 uBp_1
    ·try simp only[dQ,reduceIte]at h_t19
     refine srR z2m fun _ K20=>?_
     iterate 2 refine z2l ?_
     refine s_n K20 ?_;refine z06 (b:=_) rfl (fun h_t22=>?_) (fun h_t22=>?_)
     ·try simp only[dQ,reduceIte]at h_t22
      refine z0g ?_;refine z08 ?_;refine dnS [0] id () (by omega) [] uBp_1 uBp_1 uBp_1 uBp_1
     ·try simp only[dQ,reduceIte]at h_t22
      refine seq_k fun _ K21=>?_;refine srR z2m fun _ K23=>?_
      iterate 2 refine z2l ?_
      refine s_n K23 ?_;refine z06 (b:=_) rfl (fun h_t24=>?_) (fun h_t24=>?_)
      ·try simp only[dQ,reduceIte]at h_t24
       refine z0g ?_;apply K21;refine z06 (b:=_) rfl (fun h_t24=>?_) (fun h_t24=>?_)
       ·try simp only[dQ,reduceIte]at h_t24
        refine z04 z2m fun _ K24=>?_
        iterate 3 refine z2l ?_
        refine s_n K24 ?_;refine z08 ?_;refine dnS [0] id () (by omega) [] uBp_1 uBp_1 uBp_1 uBp_1
       ·try simp only[dQ,reduceIte]at h_t24
        have hbad:fndOK k atoms x=false:=zoo h_t19 h_t22 (by omega) (by omega)
        refine srR z2m fun _ K26=>?_;refine z2l ?_;refine s_n K26 ?_;refine z0b (z02 z2m (fun _ _ h=>h) (by first|rfl|assumption) [.tmp 4] rfl ?_);refine rtD ?_
        show SV.c (.bool _)=_
        first|(rw[zc2 hx hbad];done)|(rw[z8q (by rw[←show k=f.length by omega];exact hk.2)];congr 2;rw[decide_eq_decide];omega)
      ·try simp only[dQ,reduceIte]at h_t24
       refine z04 z2m fun _ K27=>?_
       iterate 2 refine z2l ?_
       refine s_n K27 ?_;apply K21;refine z06 (b:=_) rfl (fun h_t24=>?_) (fun h_t24=>?_)
       ·try simp only[dQ,reduceIte]at h_t24
        refine z04 z2m fun _ K28=>?_
        iterate 3 refine z2l ?_
        refine s_n K28 ?_;refine z08 ?_;refine dnS [0] id () (by omega) [] uBp_1 uBp_1 uBp_1 uBp_1
       ·try simp only[dQ,reduceIte]at h_t24
        have hbad:fndOK k atoms x=false:=zoo h_t19 h_t22 (by omega) (by omega)
        refine srR z2m fun _ K30=>?_;refine z2l ?_;refine s_n K30 ?_;refine z0b (z02 z2m (fun _ _ h=>h) (by first|rfl|assumption) [.tmp 4] rfl ?_);refine rtD ?_
        show SV.c (.bool _)=_
        first|(rw[zc2 hx hbad];done)|(rw[z8q (by rw[←show k=f.length by omega];exact hk.2)];congr 2;rw[decide_eq_decide];omega)
   ·intro u hxk
    have hlb: -1≤limL k atoms x - 1:=by unfold limL;split<;>omega
    have hlb2:limL k atoms x≤9223372036854775807:=by unfold limL;split<;>omega
    refine srR z2m fun _ K32=>?_;refine z2l ?_;refine zc1 ?_;refine exA (.c (.int .i64 x.l)) (as_eq rfl) ?_
    iterate 2 refine z2l ?_
    refine zc1 ?_;refine⟨x.l,0,limL k atoms x - 1,rfl,?_⟩;refine DBp_0 ?_
    first|refine exI ?_|(intro cap4 hcap4;refine exI ?_)
    refine z2l ?_;refine zc1 ?_;refine exB (fun hb6=>?_) (fun hb6=>?_)
    ·try simp only[dQ,reduceIte]at hb6
     iterate 5 refine sN ?_
     refine z2l ?_;refine s_n K32 ?_;refine z06 (b:=_) rfl (fun _=>?_) (fun h_t41=>?_)
     rotate_left 1
     ·exfalso;simp at h_t41
     have hbad:fndOK k atoms x=false:=by rw[zop hxk];first|(rw[hb6];rfl)|(rw[show inI 0 (limL k atoms x - 1) x.l=false by simpa using hb6];rfl)|(rw[show inI 0 (limR k x) x.r=false by simpa using h_t41,Bool.and_false])
     refine srR z2m fun _ K34=>?_;refine z2l ?_;refine s_n K34 ?_;refine z0b (z02 z2m (fun _ _ h=>h) (by first|rfl|assumption) [.tmp 4] rfl ?_);refine rtD ?_
     show SV.c (.bool _)=_
     first|(rw[zc2 hx hbad];done)|(rw[z8q (by rw[←show k=f.length by omega];exact hk.2)];congr 2;rw[decide_eq_decide];omega)
    ·try simp only[dQ,reduceIte]at hb6
     refine zhu ?_;refine zjw ?_;refine exA (.c (.int .i64 x.r)) (as_eq rfl) ?_;refine zhu ?_;refine zjw ?_;refine⟨x.r,0,limR k x,rfl,?_⟩;refine DBp_0 ?_
     first|refine exI ?_|(intro cap10 hcap10;refine exI ?_)
     refine zhu ?_;refine z2l ?_;refine s_n K32 ?_;refine z06 (b:=_) rfl (fun h_t41=>?_) (fun h_t41=>?_)
     ·try simp only[dQ,reduceIte]at h_t41
      have hbad:fndOK k atoms x=false:=by rw[zop hxk];first|(rw[hb6];rfl)|(rw[show inI 0 (limL k atoms x - 1) x.l=false by simpa using hb6];rfl)|(rw[show inI 0 (limR k x) x.r=false by simpa using h_t41,Bool.and_false])
      refine srR z2m fun _ K36=>?_;refine z2l ?_;refine s_n K36 ?_;refine z0b (z02 z2m (fun _ _ h=>h) (by first|rfl|assumption) [.tmp 4] rfl ?_);refine rtD ?_
      show SV.c (.bool _)=_
      first|(rw[zc2 hx hbad];done)|(rw[z8q (by rw[←show k=f.length by omega];exact hk.2)];congr 2;rw[decide_eq_decide];omega)
     ·try simp only[dQ,reduceIte]at h_t41
      refine z0g ?_;refine z08 ?_;apply K9
      have hgood:fndOK k atoms x=true:=by rw[zop hxk,show inI 0 (limL k atoms x - 1) x.l=true by simpa using hb6,show inI 0 (limR k x) x.r=true by simpa using h_t41];rfl
      refine z04 z2m fun _ K37=>?_
      iterate 2 refine z2l ?_
      refine s_n K37 ?_;refine dnS [] id (k+1) ⟨⟨by omega,zon hk.2 hx hgood⟩,by omega⟩ [] uBc_0 uBc_0 uBc_0 uBc_0
  ·try simp only[dQ,reduceIte]at h_t12
   refine z0y ?_;refine z03 ?_;refine z03 ?_;refine z0s ?_;apply K3;refine srR z2m fun _ K39=>?_
   iterate 4 refine z2l ?_
   refine s_n K39 ?_;refine z0b (z02 z2m (fun _ _ h=>h) (by first|rfl|assumption) [.tmp 4] rfl ?_);refine rtD ?_
   show SV.c (.bool _)=_
   first|(rw[zc2 hx hbad];done)|(rw[z8q (by rw[←show k=f.length by omega];exact hk.2)];congr 2;rw[decide_eq_decide];omega)


end Go.Proofs.YtegdcifghaldoaaDoor

namespace Go.Proofs.YtegdcifghaldoaaDoor
set_option linter.all false
open Go.Ab Go.RowKit

section
variable {a b:Prop}
theorem qBq0(h:a:=by first|exact vcA|(simp[htl]<;>omega)|exact Nat.le_of_ble_eq_true rfl|(show _< (z0o _ _).length;rw[z10 fndR (fun _ _=>trivial)];omega)|(show _≤(z0o _ _).length;rw[z10 fndR (fun _ _=>trivial)];omega)|(show _< (trK _ _ _).length;rw[htl];omega)|exact vcB):a:=h
theorem uBq_0(h:a:=by
    repeat' (first|exact z01.to (z0i _)|exact z01.low (z0i _)|exact z01.to (z0k _)|exact z01.low (z0k _)|exact z01.to (z0l _)|exact z01.low (z0l _)|exact z01.to (z0c _)|exact z01.low (z0c _)|exact z01.to (z0m _)|exact z01.low (z0m _)|exact z01.to (z0f _)|exact z01.low (z0f _)|exact z01.to (z0h _ _)|exact z01.low (z0h _ _)|exact z01.to (z00 itmR _)|exact z01.low (z00 itmR _)|exact z01.to (z00 movR _)|exact z01.low (z00 movR _)|exact z01.to (z00 pceR _)|exact z01.low (z00 pceR _)|exact z01.to (z00 fndR _)|exact z01.low (z00 fndR _)|exact z01.to (z00 atmR _)|exact z01.low (z00 atmR _)|exact z01.to (z00 litR _)|exact z01.low (z00 litR _)|exact z01.to (z00 mdlR _)|exact z01.low (z00 mdlR _)|exact z0v (z0j z0r z05)|exact z0q (z0j z0r z05)|exact z0v z05|exact z0q z05|exact trivial|refine aI ?_ ?_|exact cC0|refine low_cons' ?_ ?_|exact cC1|fail)
    all_goals first|omega|(show(_:List Bool)=trK _ _ (_+1);refine tr_step hx (by omega) ?_;first|(rw[ndv,if_pos h_t40];done)|(rw[ndv,if_neg h_t40,if_pos h_t50];done)|(rw[ndv,if_neg h_t40,if_neg h_t50,if_pos h_t61];first|(simp[hb7];done)|(simp only[hb7];rfl))|(rw[ndv,if_neg h_t40,if_neg h_t50,if_neg h_t61];first|(simp[hb7];done)|(simp only[hb7];rfl)))|(show(_:List Bool)=trK f l 0;rw[zjx];rfl)|(rw[zjx];simp;done)|(simp[-List.reduceReplicate];done)|(simp[-List.reduceReplicate]<;>omega)|skip):a:=h
theorem DBq_0(kZ:b)(h:HidB b→a:=by intro kZ;(repeat first|refine aI qBq0 ?_|refine z0d qBq0 ?_|refine z09 qBq0 ?_|refine z0p qBq0 ?_|refine z0e ?_);exact kZ.out):a:=h ⟨kZ⟩
theorem z1o(kZ:b)(h:HidB b→a:=by intro kZ;refine sX ?_;refine DBq_0 ?_;refine exI ?_;exact kZ.out):a:=h ⟨kZ⟩
theorem z7y(kZ:b)(h:HidB b→a:=by intro kZ;refine sX0 ?_;refine DBq_0 ?_;refine exI ?_;exact kZ.out):a:=h ⟨kZ⟩
theorem ze2(kZ:b)(h:HidB b→a:=by intro kZ;refine sXT ?_;refine DBq_0 ?_;refine exI ?_;exact kZ.out):a:=h ⟨kZ⟩
theorem z3s(kZ:b)(h:HidB b→a:=by intro kZ;refine sX ?_;refine DBq_0 ?_;exact kZ.out):a:=h ⟨kZ⟩
theorem zaj(kZ:b)(h:HidB b→a:=by intro kZ;refine sXT ?_;refine DBq_0 ?_;exact kZ.out):a:=h ⟨kZ⟩
end
open Go.Aut
def ndv(x:FNd)(l v:List Bool):Bool:=if x.kind=1 then l.getD x.l.toNat false else if x.kind=2 then !v.getD x.l.toNat false else if x.kind=3 then v.getD x.l.toNat false&&v.getD x.r.toNat false else v.getD x.l.toNat false||v.getD x.r.toNat false
theorem zcz(f:List FNd)(l:List Bool)(k:Nat):nodeV f l (k+1)=nodeV f l k++[ndv (f.getD k fndZ) l (nodeV f l k)]:=rfl
@[simp] theorem za4(f:List FNd)(l:List Bool):∀ k,(nodeV f l k).length=k
  |0=>rfl
  |k+1=>by rw[zcz,List.length_append,za4 f l k];rfl
def trK(f:List FNd)(l:List Bool)(k:Nat):List Bool:=nodeV f l k++List.replicate (f.length - k) false
theorem trK_len{f:List FNd}{l:List Bool}{k:Nat}(h:k≤f.length):(trK f l k).length=f.length:=by simp[trK];omega
theorem zjx(f:List FNd)(l:List Bool):trK f l 0=List.replicate f.length false:=by simp[trK,nodeV]
theorem zd0{f:List FNd}{l:List Bool}{k i j:Nat}(hj:j=i)(hi:i< k):(trK f l k).getD j false=(nodeV f l k).getD i false:=by
  subst hj;rw[trK,List.getD_eq_getElem?_getD,List.getD_eq_getElem?_getD,List.getElem?_append_left (by simpa using hi)]
theorem tr_step{f:List FNd}{l:List Bool}{k j:Nat}{x:FNd}{v:Bool}(hx:f[k]? =some x)(hj:j=k)(hv:v=ndv x l (nodeV f l k)):(trK f l k).set j v=trK f l (k+1):=by
  have hk:k< f.length:=(List.getElem?_eq_some_iff.1 hx).1
  subst hj
  have e:f.length - j=(f.length - (j+1))+1:=by omega
  rw[trK,trK,e,List.replicate_succ,List.set_append_right _ _ (by simp),za4,Nat.sub_self,List.set_cons_zero,zcz,getF hx,hv,List.append_assoc]
  rfl
theorem fnd_b{k atoms:Nat}{x:FNd}(h:fndOK k atoms x=true):(x.kind=1∧0≤x.l∧x.l< atoms)∨(x.kind=2∧0≤x.l∧x.l< k)∨((x.kind=3∨x.kind=4)∧0≤x.l∧x.l< k∧0≤x.r∧x.r< k):=by
  unfold fndOK at h
  split at h
  · simp only[Bool.and_eq_true,decide_eq_true_eq]at h;omega
  · split at h
    · simp only[Bool.and_eq_true,decide_eq_true_eq]at h;omega
    · split at h
      · simp only[Bool.and_eq_true,decide_eq_true_eq]at h;omega
      · cases h
theorem form_at{f:List FNd}{atoms k:Nat}{x:FNd}(h:z4w f atoms=true)(hx:f[k]? =some x):fndOK k atoms x=true:=by
  have hk:k< f.length:=(List.getElem?_eq_some_iff.1 hx).1
  rw[z4w,Bool.and_eq_true,List.all_eq_true]at h
  have:=h.1 k (List.mem_range.2 hk)
  rwa [getF hx]at this
theorem form_pos{f:List FNd}{atoms:Nat}(h:z4w f atoms=true):0< f.length:=by
  rw[z4w,Bool.and_eq_true,decide_eq_true_eq]at h;exact h.2
noncomputable def ctr:Ctx:={ P:=Tryd.prog,ty:=ty,glob:=gl,fs:=[(36,.flat zhv)] }
theorem z2s:ctr.OK:=⟨tyOK,⟨⟨z07 Tryd.func36 kQf rfl,zg0⟩,trivial⟩,mixed⟩
@[simp] theorem ctr_ty:ctr.ty=ty:=rfl

def zoq:QSpec:=fun vs K=>∃ (f:List FNd) (l:List Bool),vs=[.c (.ds f.length (.cells (z0o fndL f))),.c (.ds l.length (.bools l))]∧(f.length≤70368744177664∧l.length≤9223372036854775807)∧K (.c (.bool (z5w f l)))
theorem zjy:z11 Tryd.prog gl 14 zoq:=by
 refine z0u (Γ:=ctr) (N:=85) Tryd.func14 rfl rfl fun vs K h=>?_;obtain⟨f,l,rfl,⟨hf,hl⟩,h⟩:=h;refine⟨_,h,rfl,by simp,fun w I=>?_⟩;refine srR z2s fun _ K2=>?_;refine z1o ?_;refine s_n K2 ?_;refine seq_k fun _ K3=>?_;refine srR z2s fun _ K5=>?_
 iterate 3 refine z1o ?_
 refine z3s ?_;refine⟨f,l.length,rfl,⟨by omega,hl⟩,?_⟩;refine DBq_0 ?_
 first|refine exI ?_|(intro cap3 hcap3;refine exI ?_)
 refine z1o ?_;refine s_n K5 ?_;refine z06 (b:=_) rfl (fun h_t12=>?_) (fun h_t12=>?_)
 ·try simp only[dQ,reduceIte]at h_t12
  refine srR z2s fun _ K7=>?_;refine z1o ?_;refine s_n K7 ?_;refine z0b (z02 z2s (fun _ _ h=>h) (by first|rfl|assumption) [.tmp 4] rfl ?_);refine rtD ?_
  show SV.c (.bool _)=_
  rw[z5w,show z4w f l.length=false by simpa using h_t12];rfl
 ·try simp only[dQ,reduceIte]at h_t12
  refine z0g ?_;apply K3
  have hv:z4w f l.length=true:=by simpa using h_t12
  have hpos:=form_pos hv
  refine srR z2s fun _ K9=>?_
  iterate 4 refine z1o ?_
  refine s_n K9 ?_;refine seq_k fun _ K10=>?_;refine srR z2s fun _ K12=>?_
  iterate 3 refine z1o ?_
  refine s_n K12 ?_;refine z0a ?_;refine z13 (α:=Nat) (fun k=>[(0,.c (.ds f.length (.cells (z0o fndL f)))),(1,.c (.ds l.length (.bools l))),(5,.c (.slice 0 0 f.length f.length)),(16,.c (.ds f.length (.cells (z0o fndL f)))),(17,.c (.int .i64 (f.length:Nat))),(18,.c (.int .i64 (k:Nat)))]) (fun k=>[(0,.own 4 (.bools (trK f l k)) f.length)]) 1 (fun k=>k≤f.length) (fun k=>f.length - k) ?_ ?_
  ·refine dnS [] id 0 (Nat.zero_le _) [0] uBq_0 uBq_0 uBq_0 uBq_0
  ·intro k hk
   have htl:=trK_len (l:=l) hk
   refine srR z2s fun _ K14=>?_;refine z1o ?_;refine s_n K14 ?_;refine seq_k fun _ K15=>?_;refine z06 (b:=_) rfl (fun h_t19=>?_) (fun h_t19=>?_)
   ·try simp only[dQ,reduceIte]at h_t19
    refine z0g ?_;apply K15;refine seq_k fun _ K16=>?_;refine z0a ?_
    have hkl:k< f.length:=by omega
    obtain⟨x,hx⟩:=hasAt hkl
    have hfb:=fnd_b (form_at hv hx)
    refine srR z2s fun _ K18=>?_
    iterate 2 refine z1o ?_
    refine z3s ?_;refine exA (.agg (.cells (fndL x))) (z31 fndR (fun _ _=>trivial) (i:=k) (by first|rfl|omega) rfl hx) ?_
    iterate 2 refine z1o ?_
    refine z7y ?_;refine s_n K18 ?_;refine srR z2s fun _ K20=>?_;refine z1o ?_;refine z3s ?_;refine exA (.c (.int .i64 x.kind)) (as_eq rfl) ?_;refine s_n K20 ?_;refine z0a ?_;refine srR z2s fun _ K22=>?_
    iterate 2 refine z1o ?_
    refine s_n K22 ?_;refine z06 (b:=_) rfl (fun h_t40=>?_) (fun h_t40=>?_)
    ·try simp only[dQ,reduceIte]at h_t40
     refine z04 z2s fun _ K23=>?_
     iterate 4 refine z1o ?_
     refine z3s ?_;refine exA (.c (.int .i64 x.l)) (as_eq rfl) ?_;refine z1o ?_;refine z3s ?_;refine exA (.c (.bool (l.getD x.l.toNat false))) (as_b (congrArg (fun i=>l.getD i false) (by omega))) ?_;refine z1o ?_;refine z7y ?_;refine s_n K23 ?_;refine z08 ?_;refine z08 ?_;apply K16;refine z04 z2s fun _ K24=>?_
     iterate 2 refine z1o ?_
     refine s_n K24 ?_;refine dnS [] id (k+1) ⟨by omega,by omega⟩ [0] uBq_0 uBq_0 uBq_0 uBq_0
    ·try simp only[dQ,reduceIte]at h_t40
     refine srR z2s fun _ K26=>?_
     iterate 2 refine z1o ?_
     refine s_n K26 ?_;refine z06 (b:=_) rfl (fun h_t50=>?_) (fun h_t50=>?_)
     ·try simp only[dQ,reduceIte]at h_t50
      refine z04 z2s fun _ K27=>?_
      iterate 4 refine z1o ?_
      refine z3s ?_;refine exA (.c (.int .i64 x.l)) (as_eq rfl) ?_;refine z1o ?_;refine z3s ?_;refine exA (.c (.bool ((nodeV f l k).getD x.l.toNat false))) (as_b (zd0 (by omega) (by omega))) ?_
      iterate 2 refine z1o ?_
      refine z7y ?_;refine s_n K27 ?_;refine z08 ?_;refine z08 ?_;apply K16;refine z04 z2s fun _ K28=>?_
      iterate 2 refine z1o ?_
      refine s_n K28 ?_;refine dnS [] id (k+1) ⟨by omega,by omega⟩ [0] uBq_0 uBq_0 uBq_0 uBq_0
     ·try simp only[dQ,reduceIte]at h_t50
      refine srR z2s fun _ K30=>?_
      iterate 2 refine z1o ?_
      refine s_n K30 ?_;refine z06 (b:=_) rfl (fun h_t61=>?_) (fun h_t61=>?_)
      ·try simp only[dQ,reduceIte]at h_t61
       refine z04 z2s fun _ K31=>?_
       iterate 4 refine z1o ?_
       refine z3s ?_;refine exA (.c (.int .i64 x.l)) (as_eq rfl) ?_;refine z1o ?_;refine z3s ?_;refine exA (.c (.bool ((nodeV f l k).getD x.l.toNat false))) (as_b (zd0 (by omega) (by omega))) ?_;refine z3s ?_;refine exB (fun hb7=>?_) (fun hb7=>?_)
       ·try simp only[dQ,reduceIte]at hb7
        iterate 2 refine ze2 ?_
        refine zaj ?_;refine exA (.c (.int .i64 x.r)) (as_eq rfl) ?_;refine ze2 ?_;refine zaj ?_;refine exA (.c (.bool ((nodeV f l k).getD x.r.toNat false))) (as_b (zd0 (by omega) (by omega))) ?_
        iterate 2 refine z1o ?_
        refine z7y ?_;refine s_n K31 ?_;refine z08 ?_;refine z08 ?_;apply K16;refine z04 z2s fun _ K32=>?_
        iterate 2 refine z1o ?_
        refine s_n K32 ?_;refine dnS [] id (k+1) ⟨by omega,by omega⟩ [0] uBq_0 uBq_0 uBq_0 uBq_0
       ·try simp only[dQ,reduceIte]at hb7
        iterate 5 refine sN ?_
        iterate 2 refine z1o ?_
        refine z7y ?_;refine s_n K31 ?_;refine z08 ?_;refine z08 ?_;apply K16;refine z04 z2s fun _ K33=>?_
        iterate 2 refine z1o ?_
        refine s_n K33 ?_;refine dnS [] id (k+1) ⟨by omega,by omega⟩ [0] uBq_0 uBq_0 uBq_0 uBq_0
      ·try simp only[dQ,reduceIte]at h_t61
       refine z04 z2s fun _ K34=>?_
       iterate 4 refine z1o ?_
       refine z3s ?_;refine exA (.c (.int .i64 x.l)) (as_eq rfl) ?_;refine z1o ?_;refine z3s ?_;refine exA (.c (.bool ((nodeV f l k).getD x.l.toNat false))) (as_b (zd0 (by omega) (by omega))) ?_;refine z3s ?_;refine exB (fun hb7=>?_) (fun hb7=>?_)
       ·try simp only[dQ,reduceIte]at hb7
        iterate 5 refine sN ?_
        iterate 2 refine z1o ?_
        refine z7y ?_;refine s_n K34 ?_;refine z08 ?_;refine z08 ?_;apply K16;refine z04 z2s fun _ K35=>?_
        iterate 2 refine z1o ?_
        refine s_n K35 ?_;refine dnS [] id (k+1) ⟨by omega,by omega⟩ [0] uBq_0 uBq_0 uBq_0 uBq_0
       ·try simp only[dQ,reduceIte]at hb7
        iterate 2 refine ze2 ?_
        refine zaj ?_;refine exA (.c (.int .i64 x.r)) (as_eq rfl) ?_;refine ze2 ?_;refine zaj ?_;refine exA (.c (.bool ((nodeV f l k).getD x.r.toNat false))) (as_b (zd0 (by omega) (by omega))) ?_
        iterate 2 refine z1o ?_
        refine z7y ?_;refine s_n K34 ?_;refine z08 ?_;refine z08 ?_;apply K16;refine z04 z2s fun _ K36=>?_
        iterate 2 refine z1o ?_
        refine s_n K36 ?_;refine dnS [] id (k+1) ⟨by omega,by omega⟩ [0] uBq_0 uBq_0 uBq_0 uBq_0
   ·try simp only[dQ,reduceIte]at h_t19
    refine z0y ?_;refine z03 ?_;refine z03 ?_;refine z0s ?_;apply K10;refine srR z2s fun _ K38=>?_
    iterate 5 refine z1o ?_
    refine z3s ?_;refine exA (.c (.bool ((nodeV f l f.length).getD (f.length - 1) false))) (as_b (by rw[show k=f.length by omega];exact zd0 (by omega) (by omega))) ?_;refine z1o ?_;refine s_n K38 ?_;refine z0b (z02 z2s (fun _ _ h=>h) (by first|rfl|assumption) [.tmp 4] rfl ?_);refine rtD ?_
    show SV.c (.bool _)=_
    rw[z5w,hv,Bool.true_and]


end Go.Proofs.YtegdcifghaldoaaDoor

namespace Go.Proofs.YtegdcifghaldoaaDoor
set_option linter.all false
open Go.Ab Go.RowKit

section
variable {a b:Prop}
theorem qBr2(h:a:=by first|exact vcA|(simp<;>omega)|exact Nat.le_of_ble_eq_true rfl|(show _< (lists _).length;rw[z1x];omega)|exact vcB):a:=h
theorem DBr_4(kZ:b)(h:HidB b→a:=by intro kZ;(repeat first|refine aI qBr2 ?_|refine z0d qBr2 ?_|refine z09 qBr2 ?_|refine z0p qBr2 ?_|refine z0e ?_);exact kZ.out):a:=h ⟨kZ⟩
theorem z1z(kZ:b)(h:HidB b→a:=by intro kZ;refine sX ?_;refine DBr_4 ?_;refine exI ?_;exact kZ.out):a:=h ⟨kZ⟩
theorem ze3(kZ:b)(h:HidB b→a:=by intro kZ;refine sXT ?_;refine DBr_4 ?_;refine exI ?_;exact kZ.out):a:=h ⟨kZ⟩
theorem z3z(kZ:b)(h:HidB b→a:=by intro kZ;refine sX ?_;refine DBr_4 ?_;exact kZ.out):a:=h ⟨kZ⟩
theorem zc3(kZ:b)(h:HidB b→a:=by intro kZ;refine sXT ?_;refine DBr_4 ?_;exact kZ.out):a:=h ⟨kZ⟩
end
open Go.Aut
theorem zos:∀ (l:List UInt8) (b:UInt8),decide (Go.Lib.indexByte l b< 0)= !l.contains b
  |[],_=>rfl
  | x ::l,b=>by
    have ih:=zos l b
    have hg:=Go.Lib.indexByte_ge l b
    unfold Go.Lib.indexByte;rw[List.contains_cons]
    by_cases h:x=b
    · subst h;simp
    · have h1:(x==b)=false:=by simpa using h
      have h2:(b==x)=false:=by simpa using fun e=>h e.symm
      rw[h1,h2,Bool.false_or, ←ih]
      simp only[Bool.false_eq_true,if_false]
      split<;>rename_i h3
      · have:Go.Lib.indexByte l b= -1:=by simpa using h3
        rw[this]
      · have:Go.Lib.indexByte l b≠ -1:=by simpa using h3
        rw[decide_eq_decide];omega
noncomputable def cc1:Ctx:={ P:=Tryd.prog,ty:=ty,glob:=gl,fs:=[(74,.flat zok)] }
theorem zot:cc1.OK:=⟨tyOK,⟨⟨z07 Tryd.func74 kQf rfl,zol⟩,trivial⟩,mixed⟩
@[simp] theorem cc1_ty:cc1.ty=ty:=rfl

def ca1S:QSpec:=fun vs K=>∃ (b:UInt8) (q:Prb),vs=[.c (.u8 b),.c (.dp (.cells (prbL q)) 0)]∧K (.c (.bool (!q.alph.contains b)))
theorem ca1_ok:z11 Tryd.prog gl 73 ca1S:=by
 refine z0u (Γ:=cc1) (N:=9) Tryd.func73 rfl rfl fun vs K h=>?_;obtain⟨b,q,rfl,h⟩:=h;refine⟨_,h,rfl,by simp,fun w I=>?_⟩;refine srR zot fun _ K2=>?_;refine sXBd_4 ?_;refine s_n K2 ?_;refine srR zot fun _ K4=>?_;refine sXBd_4 ?_;refine z1e ?_;refine exA (.c (.ds q.alph.length (.u8s q.alph))) (as_eq rfl) ?_;refine sXBd_4 ?_;refine z1e ?_;refine⟨q.alph,b,rfl,?_⟩;refine DBd_3 ?_
 first|refine exI ?_|(intro cap3 hcap3;refine exI ?_)
 iterate 2 refine sXBd_4 ?_
 refine s_n K4 ?_;refine z0b (z02 zot (fun _ _ h=>h) (by first|rfl|assumption) [.tmp 3] rfl ?_);refine rtD ?_
 show SV.c (.bool _)=_
 rw[zos]

noncomputable def chasB:Ctx:={ P:=Tryd.prog,ty:=ty,glob:=gl,fs:=[(73,.flat ca1S)] }
theorem z49:chasB.OK:=⟨tyOK,⟨⟨z07 Tryd.func73 kQf rfl,ca1_ok⟩,trivial⟩,mixed⟩
@[simp] theorem chasB_ty:chasB.ty=ty:=rfl

def hasBIS:QSpec:=fun vs K=>∃ (l:List UInt8) (q:Prb),vs=[.c (.ds l.length (.u8s l)),.c (.clo 73 [.dp (.cells (prbL q)) 0])]∧(l.length≤9223372036854775807∧True)∧K (.c (.int .i64 (idxI (fun x=> !q.alph.contains x) l)))
theorem hasBI_ok:z11 Tryd.prog gl 96 hasBIS:=by
 refine z0u (Γ:=chasB) (N:=19) Tryd.func96 rfl rfl fun vs K h=>?_;obtain⟨l,q,rfl,⟨hl,hh⟩,h⟩:=h;refine⟨_,h,rfl,by simp,fun w I=>?_⟩;refine srR z49 fun _ K2=>?_;refine zng ?_;refine s_n K2 ?_;refine seq_k fun _ K3=>?_;refine srR z49 fun _ K5=>?_
 iterate 3 refine zng ?_
 refine s_n K5 ?_;refine z0a ?_;refine z13 (α:=Nat) (fun k=>[(0,.c (.ds l.length (.u8s l))),(1,.c (.clo 73 [.dp (.cells (prbL q)) 0])),(7,.c (.int .i64 (l.length:Nat))),(8,.c (.int .i64 (k:Nat)))]) (fun k=>[]) 0 (fun k=>k≤l.length∧(l.take k).any (fun x=> !q.alph.contains x)=false) (fun k=>l.length - k) ?_ ?_
 ·refine dnS [] id 0 ⟨Nat.zero_le _,by simp⟩ [] uBc_0 uBc_0 uBc_0 uBc_0
 ·intro k hk
  refine srR z49 fun _ K7=>?_;refine zng ?_;refine s_n K7 ?_;refine seq_k fun _ K8=>?_;refine z06 (b:=_) rfl (fun h_t9=>?_) (fun h_t9=>?_)
  ·try simp only[dQ,reduceIte]at h_t9
   refine z0g ?_;apply K8;refine seq_k fun _ K9=>?_;refine z0a ?_;refine srR z49 fun _ K11=>?_
   iterate 2 refine zng ?_
   refine s_n K11 ?_
   have hkl:k< l.length:=by omega
   obtain⟨x,hx⟩:=hasAt hkl;refine srR z49 fun _ K13=>?_
   iterate 4 refine zng ?_
   refine sXEUf_4 ?_;refine exA (.c (.u8 x)) (as_eq (congrArg (fun v=>SV.c (Cell.u8 v)) (by rw[List.getD_eq_getElem?_getD,show((k:Int).toNat*1)=k by omega,hx];rfl))) ?_;refine sXEUf_4 ?_;refine⟨x,q,rfl,?_⟩;refine DUf_0 ?_
   first|refine exI ?_|(intro cap5 hcap5;refine exI ?_)
   refine s_n K13 ?_;refine z06 (b:=_) rfl (fun h_t16=>?_) (fun h_t16=>?_)
   ·try simp only[dQ,reduceIte]at h_t16
    refine srR z49 fun _ K15=>?_
    iterate 2 refine zng ?_
    refine s_n K15 ?_;refine z0b (z02 z49 (fun _ _ h=>h) (by first|rfl|assumption) [.tmp 4] rfl ?_);refine rtD ?_
    show SV.c (.int .i64 _)=_
    rw[z9d hk.2 hx (by simpa using h_t16)]
   ·try simp only[dQ,reduceIte]at h_t16
    refine z0g ?_;refine z08 ?_;apply K9
    have hnx:(fun x=> !q.alph.contains x) x=false:=by simpa using h_t16
    have hk2:=z34 hk.2 hx hnx
    refine z04 z49 fun _ K16=>?_
    iterate 2 refine zng ?_
    refine s_n K16 ?_;refine dnS [] id (k+1) ⟨⟨by omega,hk2⟩,by omega⟩ [] uBc_0 uBc_0 uBc_0 uBc_0
  ·try simp only[dQ,reduceIte]at h_t9
   refine z0y ?_;refine z03 ?_;refine z03 ?_;refine z0s ?_;apply K3;refine srR z49 fun _ K18=>?_;refine zng ?_;refine s_n K18 ?_;refine z0b (z02 z49 (fun _ _ h=>h) (by first|rfl|assumption) [.tmp 4] rfl ?_);refine rtD ?_
   show SV.c (.int .i64 _)=_
   rw[z7c hk.2 (by omega)]

noncomputable def dhasB:Ctx:={ P:=Tryd.prog,ty:=ty,glob:=gl,fs:=[(96,.flat hasBIS)] }
theorem ze4:dhasB.OK:=⟨tyOK,⟨⟨z07 Tryd.func96 kQf rfl,hasBI_ok⟩,trivial⟩,mixed⟩
@[simp] theorem dhasB_ty:dhasB.ty=ty:=rfl

def hasBCS:QSpec:=fun vs K=>∃ (l:List UInt8) (q:Prb),vs=[.c (.ds l.length (.u8s l)),.c (.clo 73 [.dp (.cells (prbL q)) 0])]∧(l.length≤9223372036854775807∧True)∧K (.c (.bool (l.any (fun x=> !q.alph.contains x))))
theorem hasBC_ok:z11 Tryd.prog gl 72 hasBCS:=by
 refine z0u (Γ:=dhasB) (N:=9) Tryd.func72 rfl rfl fun vs K h=>?_;obtain⟨l,q,rfl,hl,h⟩:=h;refine⟨_,h,rfl,by simp,fun w I=>?_⟩;refine srR ze4 fun _ K2=>?_;refine zng ?_;refine s_n K2 ?_
 have hil:=zcw (fun x=> !q.alph.contains x) l
 refine srR ze4 fun _ K4=>?_
 iterate 2 refine zng ?_
 refine sXEUf_4 ?_;refine⟨l,q,rfl,hl,?_⟩;refine DUf_0 ?_
 first|refine exI ?_|(intro cap2 hcap2;refine exI ?_)
 iterate 2 refine zng ?_
 refine s_n K4 ?_;refine z0b (z02 ze4 (fun _ _ h=>h) (by first|rfl|assumption) [.tmp 4] rfl ?_);refine rtD ?_
 show SV.c (.bool _)=_
 rw[zcv]

theorem zk0{q:Prb}{m:Mdl}(h:¬ (m.s.length=q.most.length∧m.n.length=q.top.length)):candN q m=false:=by
  rw[candN]
  by_cases h1:m.s.length=q.most.length
  · rw[decide_eq_false (p:=m.n.length=q.top.length) (fun h2=>h ⟨h1,h2⟩)];simp
  · rw[decide_eq_false h1];simp
theorem zk1{q:Prb}{m:Mdl}{k:Nat}(hk:k< m.s.length)(h:overB (m.s.getD k []) q.alph (q.most.getD k 0)=false):candN q m=false:=by
  rw[candN,z2w hk h];simp
theorem cand_no3{q:Prb}{m:Mdl}{k:Nat}(hk:k< m.n.length)(h:inI 0 (q.top.getD k 0) (m.n.getD k 0)=false):candN q m=false:=by
  rw[candN,z2w hk h];simp
theorem z7g{q:Prb}{m:Mdl}(h1:m.s.length=q.most.length)(h2:m.n.length=q.top.length)(h3:(List.range m.s.length).all (fun i=>overB (m.s.getD i []) q.alph (q.most.getD i 0))=true)(h4:(List.range m.n.length).all (fun i=>inI 0 (q.top.getD i 0) (m.n.getD i 0))=true):candN q m=true:=by
  rw[candN,decide_eq_true h1,decide_eq_true h2,h3,h4];rfl
theorem zhx(w alph:List UInt8)(n:Int):overB w alph n=(!decide (n< (w.length:Int))&& !w.any fun x=> !alph.contains x):=by
  unfold overB;rw[List.all_eq_not_any_not]
  congr 1
  rw[Bool.eq_iff_iff];simp
noncomputable def ccd:Ctx:={ P:=Tryd.prog,ty:=ty,glob:=gl,fs:=[(72,.flat hasBCS),(52,.flat z9e)] }
theorem z2t:ccd.OK:=⟨tyOK,⟨⟨z07 Tryd.func72 kQf rfl,hasBC_ok⟩,⟨z07 Tryd.func52 kQf rfl,z72⟩,trivial⟩,mixed⟩
@[simp] theorem ccd_ty:ccd.ty=ty:=rfl

def candS:QSpec:=fun vs K=>∃ (q:Prb) (m:Mdl),vs=[prbV q,mdlV m]∧(m.s.length≤9223372036854775807∧m.n.length≤9223372036854775807∧∀ p∈m.s,p.length≤9223372036854775807)∧K (.c (.bool (candN q m)))
theorem cand_ok:z11 Tryd.prog gl 46 candS:=by
 refine z0u (Γ:=ccd) (N:=64) Tryd.func46 rfl rfl fun vs K h=>?_;obtain⟨q,m,rfl,⟨hs,hn,hsl⟩,h⟩:=h;refine⟨_,h,rfl,by simp,fun w I=>?_⟩;refine srR z2t fun _ K2=>?_
 iterate 3 refine z1z ?_
 refine s_n K2 ?_;refine seq_k fun _ K3=>?_;refine srR z2t fun _ K5=>?_;refine z1z ?_;refine z3z ?_;refine exA (.c (.ds m.s.length (.cells (lists m.s)))) (as_eq rfl) ?_
 iterate 2 refine z1z ?_
 refine z3z ?_;refine exA (.c (.ds q.most.length (.ints .i64 q.most))) (as_eq rfl) ?_
 iterate 2 refine z1z ?_
 refine z3z ?_;refine exB (fun hb7=>?_) (fun hb7=>?_)
 ·try simp only[dQ,reduceIte]at hb7
  iterate 7 refine sN ?_
  refine z1z ?_;refine s_n K5 ?_;refine z06 (b:=_) rfl (fun _=>?_) (fun h_t24=>?_)
  rotate_left 1
  ·exfalso;simp at h_t24
  have hno:candN q m=false:=zk0 (by omega)
  refine srR z2t fun _ K7=>?_;refine z1z ?_;refine s_n K7 ?_;refine z0b (z02 z2t (fun _ _ h=>h) (by first|rfl|assumption) [.tmp 4] rfl ?_);refine rtD ?_
  show SV.c (.bool _)=_
  first|(rw[hno];done)|(rw[z7g hl1 hl2 hall (by rw[←show j=m.n.length by omega];exact hj.2)];done)
 ·try simp only[dQ,reduceIte]at hb7
  refine ze3 ?_;refine zc3 ?_;refine exA (.c (.ds m.n.length (.ints .i64 m.n))) (as_eq rfl) ?_
  iterate 2 refine ze3 ?_
  refine zc3 ?_;refine exA (.c (.ds q.top.length (.ints .i64 q.top))) (as_eq rfl) ?_
  iterate 2 refine ze3 ?_
  refine z1z ?_;refine s_n K5 ?_;refine z06 (b:=_) rfl (fun h_t24=>?_) (fun h_t24=>?_)
  ·try simp only[dQ,reduceIte]at h_t24
   have hno:candN q m=false:=zk0 (by omega)
   refine srR z2t fun _ K9=>?_;refine z1z ?_;refine s_n K9 ?_;refine z0b (z02 z2t (fun _ _ h=>h) (by first|rfl|assumption) [.tmp 4] rfl ?_);refine rtD ?_
   show SV.c (.bool _)=_
   first|(rw[hno];done)|(rw[z7g hl1 hl2 hall (by rw[←show j=m.n.length by omega];exact hj.2)];done)
  ·try simp only[dQ,reduceIte]at h_t24
   refine z0g ?_;apply K3;refine seq_k fun _ K10=>?_
   have hl1:m.s.length=q.most.length:=by omega
   have hl2:m.n.length=q.top.length:=by omega
   refine srR z2t fun _ K12=>?_;refine z1z ?_;refine z3z ?_;refine exA (.c (.ds m.s.length (.cells (lists m.s)))) (as_eq rfl) ?_
   iterate 2 refine z1z ?_
   refine s_n K12 ?_;refine z0a ?_;refine z13 (α:=Nat) (fun k=>[(2,.c (.dp (.cells (prbL q)) 0)),(3,.c (.dp (.cells (mdlL m)) 0)),(26,.c (.ds m.s.length (.cells (lists m.s)))),(27,.c (.int .i64 (m.s.length:Nat))),(28,.c (.int .i64 (k:Nat)))]) (fun k=>[]) 0 (fun k=>k≤m.s.length∧(List.range k).all (fun i=>overB (m.s.getD i []) q.alph (q.most.getD i 0))=true) (fun k=>m.s.length - k) ?_ ?_
   ·refine dnS [0,1] id 0 ⟨Nat.zero_le _,rfl⟩ [] uBc_0 uBc_0 uBc_0 uBc_0
   ·intro k hk
    refine srR z2t fun _ K14=>?_;refine z1z ?_;refine s_n K14 ?_;refine seq_k fun _ K15=>?_;refine z06 (b:=_) rfl (fun h_t29=>?_) (fun h_t29=>?_)
    ·try simp only[dQ,reduceIte]at h_t29
     refine z0g ?_;apply K15;refine seq_k fun _ K16=>?_;refine z0a ?_
     have hkl:k< m.s.length:=by omega
     have hsk:=hsl _ (z2g (d:=[]) hkl)
     refine srR z2t fun _ K18=>?_
     iterate 2 refine z1z ?_
     refine z3z ?_;refine exA (.c (.ds (m.s.getD k []).length (.u8s (m.s.getD k [])))) (as_c (zft ⟨by omega,by omega⟩)) ?_
     iterate 2 refine z1z ?_
     refine s_n K18 ?_;refine srR z2t fun _ K20=>?_
     iterate 3 refine z1z ?_
     refine z3z ?_;refine exA (.c (.ds q.most.length (.ints .i64 q.most))) (as_eq rfl) ?_
     iterate 2 refine z1z ?_
     refine z3z ?_;refine exA (.c (.int .i64 (q.most.getD k 0))) (as_i (congrArg (fun i=>q.most.getD i 0) (by omega))) ?_;refine z1z ?_;refine z3z ?_;refine exB (fun hb8=>?_) (fun hb8=>?_)
     ·try simp only[dQ,reduceIte]at hb8
      iterate 3 refine sN ?_
      refine z1z ?_;refine s_n K20 ?_;refine z06 (b:=_) rfl (fun _=>?_) (fun h_t45=>?_)
      rotate_left 1
      ·exfalso;simp at h_t45
      have hno:candN q m=false:=zk1 hkl (by rw[zhx];first|(rw[decide_eq_true hb8];rfl)|(rw[show((m.s.getD k []).any fun x=> !q.alph.contains x)=true by simpa using h_t45];simp))
      refine srR z2t fun _ K22=>?_;refine z1z ?_;refine s_n K22 ?_;refine z0b (z02 z2t (fun _ _ h=>h) (by first|rfl|assumption) [.tmp 4] rfl ?_);refine rtD ?_
      show SV.c (.bool _)=_
      first|(rw[hno];done)|(rw[z7g hl1 hl2 hall (by rw[←show j=m.n.length by omega];exact hj.2)];done)
     ·try simp only[dQ,reduceIte]at hb8
      iterate 2 refine ze3 ?_
      refine zc3 ?_;refine⟨m.s.getD k [],q,rfl,⟨hsk,trivial⟩,?_⟩;refine DBr_4 ?_
      first|refine exI ?_|(intro cap11 hcap11;refine exI ?_)
      refine z1z ?_;refine s_n K20 ?_;refine z06 (b:=_) rfl (fun h_t45=>?_) (fun h_t45=>?_)
      ·try simp only[dQ,reduceIte]at h_t45
       have hno:candN q m=false:=zk1 hkl (by rw[zhx];first|(rw[decide_eq_true hb8];rfl)|(rw[show((m.s.getD k []).any fun x=> !q.alph.contains x)=true by simpa using h_t45];simp))
       refine srR z2t fun _ K24=>?_;refine z1z ?_;refine s_n K24 ?_;refine z0b (z02 z2t (fun _ _ h=>h) (by first|rfl|assumption) [.tmp 4] rfl ?_);refine rtD ?_
       show SV.c (.bool _)=_
       first|(rw[hno];done)|(rw[z7g hl1 hl2 hall (by rw[←show j=m.n.length by omega];exact hj.2)];done)
      ·try simp only[dQ,reduceIte]at h_t45
       refine z0g ?_;refine z08 ?_;apply K16
       have hyes:overB (m.s.getD k []) q.alph (q.most.getD k 0)=true:=by rw[zhx,decide_eq_false (by omega),show((m.s.getD k []).any fun x=> !q.alph.contains x)=false by simpa using h_t45];rfl
       refine z04 z2t fun _ K25=>?_
       iterate 2 refine z1z ?_
       refine s_n K25 ?_;refine dnS [] id (k+1) ⟨⟨by omega,z2o hk.2 hyes⟩,by omega⟩ [] uBc_0 uBc_0 uBc_0 uBc_0
    ·try simp only[dQ,reduceIte]at h_t29
     refine z0y ?_;refine z03 ?_;refine z03 ?_;refine z0s ?_;apply K10;refine seq_k fun _ K26=>?_
     obtain rfl:k=m.s.length:=by omega
     have hall:=hk.2
     refine srR z2t fun _ K28=>?_;refine z1z ?_;refine z3z ?_;refine exA (.c (.ds m.n.length (.ints .i64 m.n))) (as_eq rfl) ?_
     iterate 2 refine z1z ?_
     refine s_n K28 ?_;refine z0a ?_;refine z13 (α:=Nat) (fun j=>[(2,.c (.dp (.cells (prbL q)) 0)),(3,.c (.dp (.cells (mdlL m)) 0)),(48,.c (.ds m.n.length (.ints .i64 m.n))),(49,.c (.int .i64 (m.n.length:Nat))),(50,.c (.int .i64 (j:Nat)))]) (fun j=>[]) 0 (fun j=>j≤m.n.length∧(List.range j).all (fun i=>inI 0 (q.top.getD i 0) (m.n.getD i 0))=true) (fun j=>m.n.length - j) ?_ ?_
     ·refine dnS [] id 0 ⟨Nat.zero_le _,rfl⟩ [] uBc_0 uBc_0 uBc_0 uBc_0
     ·intro j hj
      refine srR z2t fun _ K30=>?_;refine z1z ?_;refine s_n K30 ?_;refine seq_k fun _ K31=>?_;refine z06 (b:=_) rfl (fun h_t51=>?_) (fun h_t51=>?_)
      ·try simp only[dQ,reduceIte]at h_t51
       refine z0g ?_;apply K31;refine seq_k fun _ K32=>?_;refine z0a ?_
       have hjl:j< m.n.length:=by omega
       refine srR z2t fun _ K34=>?_
       iterate 2 refine z1z ?_
       refine z3z ?_;refine exA (.c (.int .i64 (m.n.getD j 0))) (as_i (congrArg (fun i=>m.n.getD i 0) (by omega))) ?_
       iterate 2 refine z1z ?_
       refine s_n K34 ?_;refine srR z2t fun _ K36=>?_
       iterate 2 refine z1z ?_
       refine z3z ?_;refine exA (.c (.ds q.top.length (.ints .i64 q.top))) (as_eq rfl) ?_
       iterate 2 refine z1z ?_
       refine z3z ?_;refine exA (.c (.int .i64 (q.top.getD j 0))) (as_i (congrArg (fun i=>q.top.getD i 0) (by omega))) ?_;refine z3z ?_;refine⟨m.n.getD j 0,0,q.top.getD j 0,rfl,?_⟩;refine DBr_4 ?_
       first|refine exI ?_|(intro cap6 hcap6;refine exI ?_)
       refine z1z ?_;refine s_n K36 ?_;refine z06 (b:=_) rfl (fun h_t62=>?_) (fun h_t62=>?_)
       ·try simp only[dQ,reduceIte]at h_t62
        have hno:candN q m=false:=cand_no3 hjl (by simpa using h_t62)
        refine srR z2t fun _ K38=>?_;refine z1z ?_;refine s_n K38 ?_;refine z0b (z02 z2t (fun _ _ h=>h) (by first|rfl|assumption) [.tmp 4] rfl ?_);refine rtD ?_
        show SV.c (.bool _)=_
        first|(rw[hno];done)|(rw[z7g hl1 hl2 hall (by rw[←show j=m.n.length by omega];exact hj.2)];done)
       ·try simp only[dQ,reduceIte]at h_t62
        refine z0g ?_;refine z08 ?_;apply K32
        have hyes:inI 0 (q.top.getD j 0) (m.n.getD j 0)=true:=by simpa using h_t62
        refine z04 z2t fun _ K39=>?_
        iterate 2 refine z1z ?_
        refine s_n K39 ?_;refine dnS [] id (j+1) ⟨⟨by omega,z2o hj.2 hyes⟩,by omega⟩ [] uBc_0 uBc_0 uBc_0 uBc_0
      ·try simp only[dQ,reduceIte]at h_t51
       refine z0y ?_;refine z03 ?_;refine z03 ?_;refine z0s ?_;apply K26;refine srR z2t fun _ K41=>?_;refine z1z ?_;refine s_n K41 ?_;refine z0b (z02 z2t (fun _ _ h=>h) (by first|rfl|assumption) [.tmp 4] rfl ?_);refine rtD ?_
       show SV.c (.bool _)=_
       first|(rw[hno];done)|(rw[z7g hl1 hl2 hall (by rw[←show j=m.n.length by omega];exact hj.2)];done)


end Go.Proofs.YtegdcifghaldoaaDoor

namespace Go.Proofs.YtegdcifghaldoaaDoor
set_option linter.all false
open Go.Ab Go.RowKit

section
variable {a b:Prop}
theorem qBs1(h:a:=by first|exact vcA|(simp<;>omega)|exact⟨trivial,by simp⟩|(simp;done)|exact vcB):a:=h
theorem DBs_2(kZ:b)(h:HidB b→a:=by intro kZ;(repeat first|refine aI qBs1 ?_|refine z0d qBs1 ?_|refine z09 qBs1 ?_|refine z0p qBs1 ?_|refine z0e ?_);exact kZ.out):a:=h ⟨kZ⟩
theorem sXBs_3(kZ:b)(h:HidB b→a:=by intro kZ;refine sX ?_;refine DBs_2 ?_;refine exI ?_;exact kZ.out):a:=h ⟨kZ⟩
end
open Go.Aut
structure Mdl.small(m:Mdl):Prop where
  s:m.s.length≤1099511627776
  n:m.n.length≤1099511627776
  w:∀ p∈m.s,p.length≤274877906944
  t:(m.s.map List.length).sum≤1125899906842624
  v:∀ x∈m.n,0≤x∧x≤64
def lenK(m:Mdl)(k:Nat):Nat:=((m.s.take k).map List.length).sum
theorem zg1{m:Mdl}{k:Nat}(h:k< m.s.length):lenK m (k+1)=lenK m k+(m.s.getD k []).length:=by
  rw[lenK,lenK,List.take_add_one,List.getElem?_eq_getElem h,List.getD_eq_getElem?_getD,List.getElem?_eq_getElem h,List.map_append,List.sum_append]
  simp only[Option.toList_some,List.map_cons,List.map_nil,List.sum_cons,List.sum_nil,Nat.add_zero,Option.getD_some]
theorem zou(m:Mdl)(k:Nat):lenK m k≤(m.s.map List.length).sum:=by
  have:m.s.map List.length=(m.s.take k).map List.length++(m.s.drop k).map List.length:=by rw[←List.map_append,List.take_append_drop]
  rw[this,List.sum_append,lenK];omega
def pA(a:Atm)(m:Mdl)(k:Nat):Int:=a.rc+((List.range k).map fun i=>a.ra.getD i 0*((m.s.getD i []).length:Nat)).sum
def pB(a:Atm)(m:Mdl)(k:Nat):Int:=pA a m m.s.length+((List.range k).map fun i=>a.ra.getD (m.s.length+i) 0*m.n.getD i 0).sum
theorem zhy(a:Atm)(m:Mdl)(k:Nat):pA a m (k+1)=pA a m k+a.ra.getD k 0*((m.s.getD k []).length:Nat):=by
  rw[pA,pA,List.range_succ,List.map_append,List.sum_append];simp;omega
theorem zhz(a:Atm)(m:Mdl)(k:Nat):pB a m (k+1)=pB a m k+a.ra.getD (m.s.length+k) 0*m.n.getD k 0:=by
  rw[pB,pB,List.range_succ,List.map_append,List.sum_append];simp;omega
theorem zov(a:Atm)(m:Mdl):pA a m 0=a.rc:=by simp[pA]
theorem zow(a:Atm)(m:Mdl):pB a m 0=pA a m m.s.length:=by simp[pB]
theorem pB_all(a:Atm)(m:Mdl):pB a m m.n.length=zo1 a m:=rfl
theorem mul_b{c x:Int}{B:Int}(hc: -1000≤c∧c≤1000)(hx:0≤x∧x≤B): -(1000*x)≤c*x∧c*x≤1000*x:=by
  constructor
  · have:=Int.mul_le_mul_of_nonneg_right hc.1 hx.1
    omega
  · exact Int.mul_le_mul_of_nonneg_right hc.2 hx.1
structure RowB(a:Atm):Prop where
  c: -1000≤a.rc∧a.rc≤1000
  r:∀ x∈a.ra,-1000≤x∧x≤1000
theorem RowB.at{a:Atm}(h:RowB a)(i:Nat): -1000≤a.ra.getD i 0∧a.ra.getD i 0≤1000:=by
  rw[List.getD_eq_getElem?_getD]
  cases e:a.ra[i]? with
  |none=>simp
  |some x=>exact h.r x (List.mem_of_getElem? e)
theorem pA_b{a:Atm}{m:Mdl}(h:RowB a):∀ k,k≤m.s.length→ -(1000+1000*(lenK m k:Int))≤pA a m k∧pA a m k≤1000+1000*(lenK m k:Int)
  | 0, _ => by rw[zov];have:=h.c;have:lenK m 0=0:=by simp[lenK]
               omega
  | k+1,hk=>by
    have ih:=pA_b h (m:=m) k (by omega)
    have h1:=mul_b (h.at k) (x:=((m.s.getD k []).length:Nat)) (B:=((m.s.getD k []).length:Nat)) ⟨Int.natCast_nonneg _,Int.le_refl _⟩
    have h2:=zg1 (m:=m) (k:=k) (by omega)
    rw[zhy]
    omega
theorem Mdl.small.at{m:Mdl}(h:m.small)(i:Nat):0≤m.n.getD i 0∧m.n.getD i 0≤64:=by
  rw[List.getD_eq_getElem?_getD]
  cases e:m.n[i]? with
  |none=>simp
  |some x=>exact h.v x (List.mem_of_getElem? e)
theorem pB_b{a:Atm}{m:Mdl}(h:RowB a)(hm:m.small):∀ k:Nat,-(1125899906842625*1000+64000*(k:Int))≤pB a m k∧pB a m k≤1125899906842625*1000+64000*(k:Int)
  | 0=>by
    rw[zow]
    have h1:=pA_b h (m:=m) m.s.length (Nat.le_refl _)
    have h2:=zou m m.s.length
    have h3:=hm.t
    omega
  | k+1=>by
    have ih:=pB_b h hm k
    have h1:=mul_b (h.at (m.s.length+k)) (B:=64) (hm.at k)
    have h2:=hm.at k
    rw[zhz]
    omega
theorem zc4{tf:Nat→Ty}{t kt et id mt:Nat}{l:List (SV×SV)}{H:Heap}{n:Nat}{k v:SV}{K:SV→Heap→Nat→Prop}(ht:tf t= .map kt et)(hH:H.get id=some (.mp mt l))(hk:keyS tf kt k)(hl:∀ p∈l,keyS tf kt p.1∧p.1≠k)
    (h:K (.c (.raw undef)) ((id,.mp mt (l++[(k,v)]))::H) n):z4k tf t (.c (.map id)) k v H n K:=by
  unfold z4k;rw[ht]
  simp only[hH]
  exact⟨hk,fun p hp=>(hl p hp).1,fun j u hj=>absurd rfl (hl _ (List.mem_of_getElem? hj)).2,fun _=>h⟩
theorem zc5{tf:Nat→Ty}{t kt et id mt:Nat}{l:List (SV×SV)}{H:Heap}{k v:SV}{K:SV→Prop}(i:Nat)(ht:tf t= .map kt et)(hH:H.get id=some (.mp mt l))(hk:keyS tf kt k)(hl:∀ p∈l,keyS tf kt p.1)(hi:l[i]? =some (k,v))(hu:∀ (j:Nat) u,l[j]? =some (k,u)→u=v)(hv:gotS v true false K):lookS tf H t (.c (.map id)) k false K:=by
  unfold lookS;rw[ht]
  simp only[hH]
  exact⟨hk,hl,fun j u hj=>by rw[hu j u hj];exact hv,fun hn=>absurd rfl (hn _ (List.mem_of_getElem? hi))⟩
noncomputable def cew:Ctx:={ P:=Tryd.prog,ty:=ty,glob:=gl,fs:=[(12,.data wordS)] }
theorem zox:cew.OK:=⟨tyOK,⟨⟨z07 Tryd.func12 kQf rfl,zhp⟩,trivial⟩,mixed⟩
@[simp] theorem cew_ty:cew.ty=ty:=rfl

def ewS:QSpec:=fun vs K=>∃ (m:Mdl) (t:List Itm),vs=[mdlV m,.c (itmsX t)]∧(t.length≤9223372036854775807∧m.small)∧K (.c (.ds (wordN t m.s).length (.u8s (wordN t m.s))))
theorem ew_ok:z3u Tryd.prog gl 98 ewS:=by
 refine z3p (Γ:=cew) (N:=10) Tryd.func98 rfl rfl fun vs K h=>?_;obtain⟨m,t,rfl,⟨ht,hm⟩,h⟩:=h;refine⟨_,h,trivial,by simp,fun w I=>?_⟩;refine srR zox fun _ K2=>?_
 iterate 2 refine sXBd_4 ?_
 refine s_n K2 ?_;refine srR zox fun _ K4=>?_
 iterate 3 refine sXBd_4 ?_
 refine z1e ?_;refine exA (.c (.ds m.s.length (.cells (lists m.s)))) (as_eq rfl) ?_;refine z1e ?_;refine⟨t,m.s,rfl,⟨ht,by have:=hm.s;omega,hm.w⟩,?_⟩;refine DBd_3 ?_
 first|refine exI ?_|(intro cap4 hcap4;refine exI ?_)
 refine sXBd_4 ?_;refine s_n K4 ?_;refine z0b (z19 zox (fun _ _ h=>h) (by trivial) [] [.tmp 4] rfl ?_)
 repeat' (first|exact trivial|refine aI ?_ ?_|exact cC0|refine low_cons' ?_ ?_|exact cC1|fail)

def beqS:QSpec:=fun vs K=>∃ a b:List UInt8,vs=[.c (.ds a.length (.u8s a)),.c (.ds b.length (.u8s b))]∧K (.c (.bool (decide (a=b))))
theorem beq_ok:z11 Tryd.prog gl 99 beqS:=by
 refine z0u (Γ:=g0) (N:=10) Tryd.func99 rfl rfl fun vs K h=>?_;obtain⟨a,b,rfl,h⟩:=h;refine⟨_,h,rfl,by simp,fun w I=>?_⟩;refine srR g0_ok fun _ K2=>?_;refine sXBs_3 ?_;refine s_n K2 ?_;refine srR g0_ok fun _ K4=>?_
 iterate 6 refine sXBs_3 ?_
 refine s_n K4 ?_;refine z0b (z02 g0_ok (fun _ _ h=>h) (by first|rfl|assumption) [.tmp 4] rfl ?_);refine rtD ?_
 show SV.c (.bool _)=_
 rfl

theorem ze6{t:List Itm}{m:Mdl}(hm:m.small):(wordN t m.s).length≤8796093022208:=by
  by_cases h:z2e t m.s.length=true
  · rw[←z59 h]
    have h1:=zhn (ps:=t.map (itmW m.s)) (b:=274877906944) fun p hp=>by
      obtain⟨i,_,rfl⟩:=List.mem_map.1 hp;exact zho (by decide) hm.w i
    have h2:=zdy h
    rw[List.length_map]at h1
    omega
  · rw[wordN,if_neg h];exact Nat.zero_le _
noncomputable def cev:Ctx:={ P:=Tryd.prog,ty:=ty,glob:=gl,fs:=[(98,.data ewS),(99,.flat beqS),(27,.flat zj8),(28,.data runTS),(29,.data readNS)] }
theorem z4y:cev.OK:=⟨tyOK,⟨⟨z07 Tryd.func98 kQf rfl,ew_ok⟩,⟨z07 Tryd.func99 kQf rfl,beq_ok⟩,⟨z07 Tryd.func27 kQf rfl,zlc⟩,⟨z07 Tryd.func28 kQf rfl,runT_ok⟩,⟨z07 Tryd.func29 kQf rfl,readN_ok⟩,trivial⟩,mixed⟩
@[simp] theorem cev_ty:cev.ty=ty:=rfl

def einS:QSpec:=fun vs K=>∃ (m:Mdl) (a:Atm),vs=[mdlV m,atmV a]∧(a.wf∧m.small)∧K (.c (.bool (z8k a.d (wordN a.t m.s))))
theorem ein_ok:z11 Tryd.prog gl 75 einS:=by
 refine z0u (Γ:=cev) (N:=12) Tryd.func75 rfl rfl fun vs K h=>?_;obtain⟨m,a,rfl,⟨ha,hm⟩,h⟩:=h;refine⟨_,h,rfl,by simp,fun w I=>?_⟩;refine srR z4y fun _ K2=>?_
 iterate 3 refine sXBd_4 ?_
 refine s_n K2 ?_;refine srD z4y [(0,true),(1,true),(2,true),(3,true),(4,true),(5,false),(6,false),(7,true)] rfl kQf kQf fun _ K4=>?_;refine zfz ?_;refine zai ?_;refine exA (dfaV a.d) (as_eq rfl) ?_;refine zai ?_;refine exA (mdlV m) (as_eq rfl) ?_;refine zfz ?_;refine zai ?_;refine exA (.c (itmsX a.t)) (as_eq rfl) ?_;refine ze1 ?_
 try refine aI (z01.noclo (z0c m)) ?_
 refine⟨m,a.t,rfl,⟨ha.1,hm⟩,?_⟩;refine DBd_3 ?_
 first|refine exI ?_|(intro cap5 hcap5;refine exI ?_)
 refine ze1 ?_
 try refine aI (z01.noclo (pl3_ a.d)) ?_
 refine⟨a.d,wordN a.t m.s,rfl,⟨ha.2.2.1,by have:=ze6 (t:=a.t) hm;omega⟩,?_⟩;refine DBd_3 ?_
 first|refine exI ?_|(intro cap6 hcap6;refine exI ?_)
 refine zfz ?_;refine d_n K4 ?_;refine z0b (z02 z4y (fun _ _ h=>h) (by first|rfl|assumption) [.tmp 4] rfl ?_);refine rtD ?_
 rfl

def eeqS:QSpec:=fun vs K=>∃ (m:Mdl) (a:Atm),vs=[mdlV m,atmV a]∧(a.wf∧m.small)∧K (.c (.bool (decide (wordN a.t m.s=wordN a.u m.s))))
theorem eeq_ok:z11 Tryd.prog gl 76 eeqS:=by
 refine z0u (Γ:=cev) (N:=14) Tryd.func76 rfl rfl fun vs K h=>?_;obtain⟨m,a,rfl,⟨ha,hm⟩,h⟩:=h;refine⟨_,h,rfl,by simp,fun w I=>?_⟩;refine srR z4y fun _ K2=>?_
 iterate 3 refine sXBd_4 ?_
 refine s_n K2 ?_;refine srD z4y [(0,true),(1,true),(2,true),(4,true),(5,true),(6,true),(3,false),(7,false),(8,false),(9,true)] rfl kQf kQf fun _ K4=>?_;refine zai ?_;refine exA (mdlV m) (as_eq rfl) ?_;refine zfz ?_;refine zai ?_;refine exA (.c (itmsX a.t)) (as_eq rfl) ?_;refine zai ?_;refine exA (mdlV m) (as_eq rfl) ?_;refine zfz ?_;refine zai ?_;refine exA (.c (itmsX a.u)) (as_eq rfl) ?_;refine ze1 ?_
 try refine aI (z01.noclo (z0c m)) ?_
 refine⟨m,a.t,rfl,⟨ha.1,hm⟩,?_⟩;refine DBd_3 ?_
 first|refine exI ?_|(intro cap3 hcap3;refine exI ?_)
 refine ze1 ?_
 try refine aI (z01.noclo (z0c m)) ?_
 refine⟨m,a.u,rfl,⟨ha.2.1,hm⟩,?_⟩;refine DBd_3 ?_
 first|refine exI ?_|(intro cap7 hcap7;refine exI ?_)
 refine ze1 ?_;refine⟨wordN a.t m.s,wordN a.u m.s,rfl,?_⟩;refine DBd_3 ?_
 first|refine exI ?_|(intro cap8 hcap8;refine exI ?_)
 refine zfz ?_;refine d_n K4 ?_;refine z0b (z02 z4y (fun _ _ h=>h) (by first|rfl|assumption) [.tmp 4] rfl ?_);refine rtD ?_
 rfl

def eimS:QSpec:=fun vs K=>∃ (m:Mdl) (a:Atm),vs=[mdlV m,atmV a]∧(a.wf∧m.small)∧K (.c (.bool ((runT a.m (wordN a.t m.s)).2&&decide ((runT a.m (wordN a.t m.s)).1=wordN a.u m.s))))
theorem eim_ok:z11 Tryd.prog gl 78 eimS:=by
 refine z0u (Γ:=cev) (N:=26) Tryd.func78 rfl rfl fun vs K h=>?_;obtain⟨m,a,rfl,⟨ha,hm⟩,h⟩:=h;refine⟨_,h,rfl,by simp,fun w I=>?_⟩;refine srR z4y fun _ K2=>?_
 iterate 3 refine sXBd_4 ?_
 refine s_n K2 ?_;refine srD z4y [(0,true),(1,true),(2,true),(3,true),(4,true),(5,false),(6,false),(7,true),(8,true),(9,true),(10,true),(11,true)] rfl kQf kQf fun _ K4=>?_;refine zfz ?_;refine zai ?_;refine exA (traV a.m) (as_eq rfl) ?_;refine zai ?_;refine exA (mdlV m) (as_eq rfl) ?_;refine zfz ?_;refine zai ?_;refine exA (.c (itmsX a.t)) (as_eq rfl) ?_;refine ze1 ?_
 try refine aI (z01.noclo (z0c m)) ?_
 refine⟨m,a.t,rfl,⟨ha.1,hm⟩,?_⟩;refine DBd_3 ?_
 first|refine exI ?_|(intro cap5 hcap5;refine exI ?_)
 refine ze1 ?_
 try refine aI (z01.noclo (z0m a.m)) ?_
 refine⟨a.m,wordN a.t m.s,rfl,⟨ha.2.2.2.2,ze6 hm⟩,?_⟩;refine DBd_3 ?_
 first|refine exI ?_|(intro cap6 hcap6;refine exI ?_)
 iterate 5 refine zfz ?_
 refine d_n K4 ?_;refine srR z4y fun _ K6=>?_;refine sXBd_4 ?_;refine z1e ?_;refine exB (fun hb1=>?_) (fun hb1=>?_)
 ·try simp only[dQ,reduceIte]at hb1
  refine z21 ?_;refine z1u ?_;refine exA (mdlV m) (as_eq rfl) ?_;refine z21 ?_;refine z1u ?_;refine exA (.c (itmsX a.u)) (as_eq rfl) ?_;refine z1u ?_
  try refine aI (z01.noclo (z0c m)) ?_
  refine⟨m,a.u,rfl,⟨ha.2.1,hm⟩,?_⟩;refine DBd_3 ?_
  first|refine exI ?_|(intro cap6 hcap6;refine exI ?_)
  refine z1u ?_;refine⟨(runT a.m (wordN a.t m.s)).1,wordN a.u m.s,rfl,?_⟩;refine DBd_3 ?_
  first|refine exI ?_|(intro cap7 hcap7;refine exI ?_)
  iterate 2 refine sXBd_4 ?_
  refine s_n K6 ?_;refine z0b (z02 z4y (fun _ _ h=>h) (by first|rfl|assumption) [.tmp 4] rfl ?_);refine rtD ?_
  show SV.c (.bool _)=_
  congr 2
  simp[hb1]
 ·try simp only[dQ,reduceIte]at hb1
  iterate 6 refine sN ?_
  iterate 2 refine sXBd_4 ?_
  refine s_n K6 ?_;refine z0b (z02 z4y (fun _ _ h=>h) (by first|rfl|assumption) [.tmp 4] rfl ?_);refine rtD ?_
  show SV.c (.bool _)=_
  congr 2
  simp[hb1]

def evaS:QSpec:=fun vs K=>∃ (m:Mdl) (a:Atm),vs=[mdlV m,atmV a]∧(a.wf∧m.small∧0≤a.n∧a.n< (m.n.length:Int))∧K (.c (.bool ((readN a.q (wordN a.t m.s)).2&&decide ((readN a.q (wordN a.t m.s)).1=m.n.getD a.n.toNat 0))))
theorem eva_ok:z11 Tryd.prog gl 79 evaS:=by
 refine z0u (Γ:=cev) (N:=29) Tryd.func79 rfl rfl fun vs K h=>?_;obtain⟨m,a,rfl,⟨ha,hm,hn0,hn1⟩,h⟩:=h;refine⟨_,h,rfl,by simp,fun w I=>?_⟩;refine srR z4y fun _ K2=>?_
 iterate 3 refine sXBd_4 ?_
 refine s_n K2 ?_;refine srD z4y [(0,true),(1,true),(2,true),(3,true),(4,true),(5,false),(6,false),(7,true),(8,true),(9,true),(10,true),(11,true)] rfl kQf kQf fun _ K4=>?_;refine zfz ?_;refine zai ?_;refine exA (rulV a.q) (as_eq rfl) ?_;refine zai ?_;refine exA (mdlV m) (as_eq rfl) ?_;refine zfz ?_;refine zai ?_;refine exA (.c (itmsX a.t)) (as_eq rfl) ?_;refine ze1 ?_
 try refine aI (z01.noclo (z0c m)) ?_
 refine⟨m,a.t,rfl,⟨ha.1,hm⟩,?_⟩;refine DBd_3 ?_
 first|refine exI ?_|(intro cap5 hcap5;refine exI ?_)
 refine ze1 ?_
 try refine aI (z01.noclo (zfv a.q)) ?_
 refine⟨a.q,wordN a.t m.s,rfl,by have:=ze6 (t:=a.t) hm;omega,?_⟩;refine DBd_3 ?_
 first|refine exI ?_|(intro cap6 hcap6;refine exI ?_)
 iterate 5 refine zfz ?_
 refine d_n K4 ?_;refine srR z4y fun _ K6=>?_;refine sXBd_4 ?_;refine z1e ?_;refine exB (fun hb1=>?_) (fun hb1=>?_)
 ·try simp only[dQ,reduceIte]at hb1
  iterate 3 refine z21 ?_
  refine z1u ?_;refine exA (.c (.ds m.n.length (.ints .i64 m.n))) (as_eq rfl) ?_;refine z21 ?_;refine z1u ?_;refine exA (.c (.int .i64 a.n)) (as_eq rfl) ?_;refine z21 ?_;refine z1u ?_;refine exA (.c (.int .i64 (m.n.getD a.n.toNat 0))) (as_i (congrArg (fun i=>m.n.getD i 0) (by omega))) ?_;refine z21 ?_
  iterate 2 refine sXBd_4 ?_
  refine s_n K6 ?_;refine z0b (z02 z4y (fun _ _ h=>h) (by first|rfl|assumption) [.tmp 4] rfl ?_);refine rtD ?_
  show SV.c (.bool _)=_
  congr 2
  simp[hb1]
 ·try simp only[dQ,reduceIte]at hb1
  iterate 9 refine sN ?_
  iterate 2 refine sXBd_4 ?_
  refine s_n K6 ?_;refine z0b (z02 z4y (fun _ _ h=>h) (by first|rfl|assumption) [.tmp 4] rfl ?_);refine rtD ?_
  show SV.c (.bool _)=_
  congr 2
  simp[hb1]


end Go.Proofs.YtegdcifghaldoaaDoor

namespace Go.Proofs.YtegdcifghaldoaaDoor
set_option linter.all false
open Go.Ab Go.RowKit

theorem qBt2{a:Prop}(h:a:=by intro j u hj;rw[hkd]at hj;rcases j with _|_|_|_|_|j<;>simp at hj<;>first|exact hj.symm|exact hj):a:=h
theorem uBt_0{a:Prop}(h:a:=by
    repeat' (first|exact z01.to (z0i _)|exact z01.low (z0i _)|exact z01.to (z0k _)|exact z01.low (z0k _)|exact z01.to (z0l _)|exact z01.low (z0l _)|exact z01.to (z0c _)|exact z01.low (z0c _)|exact z01.to (z0m _)|exact z01.low (z0m _)|exact z01.to (z0f _)|exact z01.low (z0f _)|exact z01.to (z0h _ _)|exact z01.low (z0h _ _)|exact z01.to (z00 itmR _)|exact z01.low (z00 itmR _)|exact z01.to (z00 movR _)|exact z01.low (z00 movR _)|exact z01.to (z00 pceR _)|exact z01.low (z00 pceR _)|exact z01.to (z00 fndR _)|exact z01.low (z00 fndR _)|exact z01.to (z00 atmR _)|exact z01.low (z00 atmR _)|exact z01.to (z00 litR _)|exact z01.low (z00 litR _)|exact z01.to (z00 mdlR _)|exact z01.low (z00 mdlR _)|exact z0v (z0j z0r z05)|exact z0q (z0j z0r z05)|exact z0v z05|exact z0q z05|exact trivial|refine aI ?_ ?_|exact cC0|refine low_cons' ?_ ?_|exact cC1|fail)
    all_goals first|omega|(show(_:Int)=pA _ _ _;first|exact(zov _ _).symm|(rw[zhy];done))|(show(_:Int)=pB _ _ _;first|exact(zow _ _).symm|(rw[zhz];done))|(simp[-List.reduceReplicate];done)|(simp[-List.reduceReplicate]<;>omega)|skip):a:=h
open Go.Aut
def erowS:QSpec:=fun vs K=>∃ (m:Mdl) (a:Atm),vs=[mdlV m,atmV a]∧(a.wf∧m.small∧a.ra.length=m.s.length+m.n.length∧RowB a)∧K (.c (.bool (decide (0≤zo1 a m))))
theorem erow_ok:z11 Tryd.prog gl 77 erowS:=by
 refine z0u (Γ:=g0) (N:=61) Tryd.func77 rfl rfl fun vs K h=>?_;obtain⟨m,a,rfl,⟨ha,hm,hlen,hrow⟩,h⟩:=h;refine⟨_,h,rfl,by simp,fun w I=>?_⟩
 have hss:=hm.s
 have hnn:=hm.n
 refine srR g0_ok fun _ K2=>?_
 iterate 3 refine z1z ?_
 refine s_n K2 ?_;refine srR g0_ok fun _ K4=>?_
 iterate 2 refine z1z ?_
 refine z3z ?_;refine exA (.c (.int .i64 a.rc)) (as_eq rfl) ?_;refine z1z ?_;refine s_n K4 ?_;refine seq_k fun _ K5=>?_;refine srR g0_ok fun _ K7=>?_
 iterate 2 refine z1z ?_
 refine z3z ?_;refine exA (.c (.ds m.s.length (.cells (lists m.s)))) (as_eq rfl) ?_
 iterate 2 refine z1z ?_
 refine s_n K7 ?_;refine z0a ?_;refine z13 (α:=Nat) (fun k=>[(2,.c (.dp (.cells (mdlL m)) 0)),(3,.c (.dp (.cells (atmL a)) 0)),(15,.c (.ds m.s.length (.cells (lists m.s)))),(16,.c (.int .i64 (m.s.length:Nat))),(17,.c (.int .i64 (k:Nat))),(5,.c (.int .i64 (pA a m k)))]) (fun k=>[]) 0 (fun k=>k≤m.s.length) (fun k=>m.s.length - k) ?_ ?_
 ·refine dnS [0,1] id 0 (Nat.zero_le _) [] uBt_0 uBt_0 uBt_0 uBt_0
 ·intro k hk
  refine srR g0_ok fun _ K9=>?_;refine z1z ?_;refine s_n K9 ?_;refine seq_k fun _ K10=>?_;refine z06 (b:=_) rfl (fun h_t18=>?_) (fun h_t18=>?_)
  ·try simp only[dQ,reduceIte]at h_t18
   refine z0g ?_;apply K10;refine seq_k fun _ K11=>?_;refine z0a ?_
   have hkl:k< m.s.length:=by omega
   refine srR g0_ok fun _ K13=>?_
   iterate 2 refine z1z ?_
   refine z3z ?_;refine exA (.c (.ds (m.s.getD k []).length (.u8s (m.s.getD k [])))) (as_c (zft ⟨by omega,by omega⟩)) ?_
   iterate 2 refine z1z ?_
   refine s_n K13 ?_
   have hkl:k< m.s.length:=by omega
   have hmb:=mul_b (hrow.at k) (x:=((m.s.getD k []).length:Nat)) (B:=((m.s.getD k []).length:Nat)) ⟨Int.natCast_nonneg _,Int.le_refl _⟩
   have hpb:=pA_b hrow (m:=m) k (by omega)
   have hlk:=zg1 hkl
   have hle:=zou m (k+1)
   have htt:=hm.t
   refine z04 g0_ok fun _ K14=>?_
   iterate 3 refine z1z ?_
   refine z3z ?_;refine exA (.c (.ds a.ra.length (.ints .i64 a.ra))) (as_eq rfl) ?_
   iterate 2 refine z1z ?_
   refine z3z ?_;refine exA (.c (.int .i64 (a.ra.getD k 0))) (as_i (congrArg (fun i=>a.ra.getD i 0) (by omega))) ?_
   iterate 3 refine z1z ?_
   refine z3z ?_;refine exA (.c (.int .i64 (pA a m (k+1)))) (as_i (by rw[zhy])) ?_;refine z1z ?_;refine s_n K14 ?_;refine z08 ?_;apply K11;refine z04 g0_ok fun _ K15=>?_
   iterate 2 refine z1z ?_
   refine s_n K15 ?_;refine dnS [] id (k+1) ⟨by omega,by omega⟩ [] uBt_0 uBt_0 uBt_0 uBt_0
  ·try simp only[dQ,reduceIte]at h_t18
   refine z0y ?_;refine z03 ?_;refine z03 ?_;refine z0s ?_;apply K5;refine seq_k fun _ K16=>?_
   obtain rfl:k=m.s.length:=by omega
   refine srR g0_ok fun _ K18=>?_
   iterate 2 refine z1z ?_
   refine z3z ?_;refine exA (.c (.ds m.n.length (.ints .i64 m.n))) (as_eq rfl) ?_
   iterate 2 refine z1z ?_
   refine s_n K18 ?_;refine z0a ?_;refine z13 (α:=Nat) (fun j=>[(2,.c (.dp (.cells (mdlL m)) 0)),(3,.c (.dp (.cells (atmL a)) 0)),(36,.c (.ds m.n.length (.ints .i64 m.n))),(37,.c (.int .i64 (m.n.length:Nat))),(38,.c (.int .i64 (j:Nat))),(5,.c (.int .i64 (pB a m j)))]) (fun j=>[]) 0 (fun j=>j≤m.n.length) (fun j=>m.n.length - j) ?_ ?_
   ·refine dnS [] id 0 (Nat.zero_le _) [] uBt_0 uBt_0 uBt_0 uBt_0
   ·intro j hj
    refine srR g0_ok fun _ K20=>?_;refine z1z ?_;refine s_n K20 ?_;refine seq_k fun _ K21=>?_;refine z06 (b:=_) rfl (fun h_t39=>?_) (fun h_t39=>?_)
    ·try simp only[dQ,reduceIte]at h_t39
     refine z0g ?_;apply K21;refine seq_k fun _ K22=>?_;refine z0a ?_
     have hjl:j< m.n.length:=by omega
     refine srR g0_ok fun _ K24=>?_
     iterate 2 refine z1z ?_
     refine z3z ?_;refine exA (.c (.int .i64 (m.n.getD j 0))) (as_i (congrArg (fun i=>m.n.getD i 0) (by omega))) ?_
     iterate 2 refine z1z ?_
     refine s_n K24 ?_
     have hjl:j< m.n.length:=by omega
     have hmj:=hm.at j
     have hmb:=mul_b (hrow.at (m.s.length+j)) (B:=64) hmj
     have hpb:=pB_b hrow hm j
     have hnn:=hm.n
     have hss:=hm.s
     refine z04 g0_ok fun _ K25=>?_
     iterate 3 refine z1z ?_
     refine z3z ?_;refine exA (.c (.ds a.ra.length (.ints .i64 a.ra))) (as_eq rfl) ?_
     iterate 2 refine z1z ?_
     refine z3z ?_;refine exA (.c (.ds m.s.length (.cells (lists m.s)))) (as_eq rfl) ?_
     iterate 4 refine z1z ?_
     refine z3z ?_;refine exA (.c (.int .i64 (a.ra.getD (m.s.length+j) 0))) (as_i (congrArg (fun i=>a.ra.getD i 0) (by omega))) ?_
     iterate 2 refine z1z ?_
     refine z3z ?_;refine exA (.c (.int .i64 (pB a m (j+1)))) (as_i (by rw[zhz])) ?_;refine z1z ?_;refine s_n K25 ?_;refine z08 ?_;apply K22;refine z04 g0_ok fun _ K26=>?_
     iterate 2 refine z1z ?_
     refine s_n K26 ?_;refine dnS [] id (j+1) ⟨by omega,by omega⟩ [] uBt_0 uBt_0 uBt_0 uBt_0
    ·try simp only[dQ,reduceIte]at h_t39
     refine z0y ?_;refine z03 ?_;refine z03 ?_;refine z0s ?_;apply K16
     obtain rfl:j=m.n.length:=by omega
     refine srR g0_ok fun _ K28=>?_
     iterate 3 refine z1z ?_
     refine s_n K28 ?_;refine z0b (z02 g0_ok (fun _ _ h=>h) (by first|rfl|assumption) [.tmp 4] rfl ?_);refine rtD ?_
     show SV.c (.bool _)=_
     rw[pB_all]

noncomputable def cat:Ctx:={ P:=Tryd.prog,ty:=ty,glob:=gl,fs:=[(75,.flat einS),(76,.flat eeqS),(77,.flat erowS),(78,.flat eimS),(79,.flat evaS)] }
theorem za5:cat.OK:=⟨tyOK,⟨⟨z07 Tryd.func75 kQf rfl,ein_ok⟩,⟨z07 Tryd.func76 kQf rfl,eeq_ok⟩,⟨z07 Tryd.func77 kQf rfl,erow_ok⟩,⟨z07 Tryd.func78 kQf rfl,eim_ok⟩,⟨z07 Tryd.func79 kQf rfl,eva_ok⟩,trivial⟩,mixed⟩
@[simp] theorem cat_ty:cat.ty=ty:=rfl

theorem atm_kind{a:Atm}{n k:Nat}(h:atmOK a n k=true):a.kind=1∨a.kind=2∨a.kind=3∨a.kind=4∨a.kind=5:=by
  simp only[atmOK,atmB1,Bool.and_eq_true,decide_eq_true_eq]at h
  have:=h.1.1.1.1.1.1
  omega
theorem z5h{a:Atm}{n k:Nat}(h:atmOK a n k=true)(hk:a.kind=5):0≤a.n∧a.n< (k:Int):=by
  rw[atmOK,Bool.and_eq_true]at h
  have:=h.2
  rw[atmB5,if_neg (by omega),if_neg (by omega),if_pos hk]at this
  simp only[Bool.and_eq_true,decide_eq_true_eq]at this
  exact⟨this.1.2,this.2⟩
theorem z5i{a:Atm}{n k:Nat}(h:atmOK a n k=true)(hk:a.kind=3):a.ra.length=n+k∧RowB a:=by
  rw[atmOK,Bool.and_eq_true]at h
  have:=h.2
  rw[atmB5,if_neg (by omega),if_neg (by omega),if_neg (by omega),if_pos hk]at this
  simp only[zj9,Bool.and_eq_true,decide_eq_true_eq,List.all_eq_true,z6k]at this
  exact⟨this.1.1.1,⟨⟨this.1.2,by omega⟩,fun x hx=>this.1.1.2 x hx⟩⟩
attribute [local irreducible] z4k lookS
def zoy:QSpec:=fun vs K=>∃ (m:Mdl) (a:Atm),vs=[mdlV m,atmV a]∧(a.wf∧m.small∧atmOK a m.s.length m.n.length=true)∧K (.c (.bool (evN a m)))
theorem zk2:z11 Tryd.prog gl 47 zoy:=by
 refine z0u (Γ:=cat) (N:=24) Tryd.func47 rfl rfl fun vs K h=>?_;obtain⟨m,a,rfl,⟨ha,hm,hok⟩,h⟩:=h;refine⟨_,h,rfl,by simp,fun w I=>?_⟩;refine srR za5 fun _ K2=>?_
 iterate 3 refine sXBd_4 ?_
 refine s_n K2 ?_;refine srR za5 fun _ K4=>?_;refine sXBd_4 ?_;refine z1e ?_;refine exA (mdlV m) (as_eq rfl) ?_;refine z1e ?_
 try refine aI (z01.noclo (z0c m)) ?_

 refine exI ?_;refine sX0 ?_
 show z4k ty 143 _ (.c (.int .i64 1)) _ _ _ _
 refine zc4 (kt:=3) rfl rfl ⟨rfl,by decide,by decide,by decide⟩ (fun _ h=>by cases h) ?_;refine exI ?_;refine z1e ?_;refine exA (mdlV m) (as_eq rfl) ?_;refine z1e ?_
 try refine aI (z01.noclo (z0c m)) ?_

 refine exI ?_;refine sX0 ?_
 show z4k ty 143 _ (.c (.int .i64 2)) _ _ _ _
 refine zc4 (kt:=3) rfl rfl ⟨rfl,by decide,by decide,by decide⟩ (List.forall_mem_cons.2 ⟨⟨⟨rfl,by decide,by decide,by decide⟩,by simp⟩,fun _ h=>by cases h⟩) ?_;refine exI ?_;refine z1e ?_;refine exA (mdlV m) (as_eq rfl) ?_;refine z1e ?_
 try refine aI (z01.noclo (z0c m)) ?_

 refine exI ?_;refine sX0 ?_
 show z4k ty 143 _ (.c (.int .i64 3)) _ _ _ _
 refine zc4 (kt:=3) rfl rfl ⟨rfl,by decide,by decide,by decide⟩ (List.forall_mem_cons.2 ⟨⟨⟨rfl,by decide,by decide,by decide⟩,by simp⟩,List.forall_mem_cons.2 ⟨⟨⟨rfl,by decide,by decide,by decide⟩,by simp⟩,fun _ h=>by cases h⟩⟩) ?_;refine exI ?_;refine z1e ?_;refine exA (mdlV m) (as_eq rfl) ?_;refine z1e ?_
 try refine aI (z01.noclo (z0c m)) ?_

 refine exI ?_;refine sX0 ?_
 show z4k ty 143 _ (.c (.int .i64 4)) _ _ _ _
 refine zc4 (kt:=3) rfl rfl ⟨rfl,by decide,by decide,by decide⟩ (List.forall_mem_cons.2 ⟨⟨⟨rfl,by decide,by decide,by decide⟩,by simp⟩,List.forall_mem_cons.2 ⟨⟨⟨rfl,by decide,by decide,by decide⟩,by simp⟩,List.forall_mem_cons.2 ⟨⟨⟨rfl,by decide,by decide,by decide⟩,by simp⟩,fun _ h=>by cases h⟩⟩⟩) ?_;refine exI ?_;refine z1e ?_;refine exA (mdlV m) (as_eq rfl) ?_;refine z1e ?_
 try refine aI (z01.noclo (z0c m)) ?_

 refine exI ?_;refine sX0 ?_
 show z4k ty 143 _ (.c (.int .i64 5)) _ _ _ _
 refine zc4 (kt:=3) rfl rfl ⟨rfl,by decide,by decide,by decide⟩ (List.forall_mem_cons.2 ⟨⟨⟨rfl,by decide,by decide,by decide⟩,by simp⟩,List.forall_mem_cons.2 ⟨⟨⟨rfl,by decide,by decide,by decide⟩,by simp⟩,List.forall_mem_cons.2 ⟨⟨⟨rfl,by decide,by decide,by decide⟩,by simp⟩,List.forall_mem_cons.2 ⟨⟨⟨rfl,by decide,by decide,by decide⟩,by simp⟩,fun _ h=>by cases h⟩⟩⟩⟩) ?_;refine exI ?_
 iterate 2 refine sXBd_4 ?_
 refine s_n K4 ?_
 have hkd0:=atm_kind hok
 refine srR za5 fun _ K6=>?_
 iterate 2 refine sXBd_4 ?_
 refine z1e ?_;refine exA (.c (.int .i64 a.kind)) (as_eq rfl) ?_;refine z1e ?_
 rcases hkd0 with hkd|hkd|hkd|hkd|hkd
 ·show lookS ty _ 143 _ (.c (.int .i64 a.kind)) _ _
  refine zc5 (kt:=3) (v:=.c (.clo (75+1000000) (mdlL m))) 0 rfl rfl ⟨rfl,by decide,by decide,by decide⟩ (List.forall_mem_cons.2 ⟨⟨rfl,by decide,by decide,by decide⟩,List.forall_mem_cons.2 ⟨⟨rfl,by decide,by decide,by decide⟩,List.forall_mem_cons.2 ⟨⟨rfl,by decide,by decide,by decide⟩,List.forall_mem_cons.2 ⟨⟨rfl,by decide,by decide,by decide⟩,List.forall_mem_cons.2 ⟨⟨rfl,by decide,by decide,by decide⟩,fun _ h=>by cases h⟩⟩⟩⟩⟩) (by rw[hkd];rfl) qBt2 ?_;refine exI ?_;refine z1e ?_;refine exA (atmV a) (as_eq rfl) ?_;refine z1e ?_
  try refine aI (z01.noclo (z0c m)) ?_
  try refine aI (z01.noclo (z0i a)) ?_
  first|refine⟨m,a,rfl,⟨ha,hm⟩,?_⟩|refine⟨m,a,rfl,⟨ha,hm,(z5i hok hkd).1,(z5i hok hkd).2⟩,?_⟩|refine⟨m,a,rfl,⟨ha,hm,(z5h hok hkd).1,(z5h hok hkd).2⟩,?_⟩
  refine DBd_3 ?_
  first|refine exI ?_|(intro cap5 hcap5;refine exI ?_)
  refine sXBd_4 ?_;refine s_n K6 ?_;refine z0b (z02 za5 (fun _ _ h=>h) (by first|rfl|assumption) [.tmp 4] rfl ?_);refine rtD ?_
  show SV.c (.bool _)=_
  rw[evN,if_pos hkd]
 ·show lookS ty _ 143 _ (.c (.int .i64 a.kind)) _ _
  refine zc5 (kt:=3) (v:=.c (.clo (76+1000000) (mdlL m))) 1 rfl rfl ⟨rfl,by decide,by decide,by decide⟩ (List.forall_mem_cons.2 ⟨⟨rfl,by decide,by decide,by decide⟩,List.forall_mem_cons.2 ⟨⟨rfl,by decide,by decide,by decide⟩,List.forall_mem_cons.2 ⟨⟨rfl,by decide,by decide,by decide⟩,List.forall_mem_cons.2 ⟨⟨rfl,by decide,by decide,by decide⟩,List.forall_mem_cons.2 ⟨⟨rfl,by decide,by decide,by decide⟩,fun _ h=>by cases h⟩⟩⟩⟩⟩) (by rw[hkd];rfl) qBt2 ?_;refine exI ?_;refine z1e ?_;refine exA (atmV a) (as_eq rfl) ?_;refine z1e ?_
  try refine aI (z01.noclo (z0c m)) ?_
  try refine aI (z01.noclo (z0i a)) ?_
  first|refine⟨m,a,rfl,⟨ha,hm⟩,?_⟩|refine⟨m,a,rfl,⟨ha,hm,(z5i hok hkd).1,(z5i hok hkd).2⟩,?_⟩|refine⟨m,a,rfl,⟨ha,hm,(z5h hok hkd).1,(z5h hok hkd).2⟩,?_⟩
  refine DBd_3 ?_
  first|refine exI ?_|(intro cap5 hcap5;refine exI ?_)
  refine sXBd_4 ?_;refine s_n K6 ?_;refine z0b (z02 za5 (fun _ _ h=>h) (by first|rfl|assumption) [.tmp 4] rfl ?_);refine rtD ?_
  show SV.c (.bool _)=_
  rw[evN,if_neg (by omega),if_pos hkd]
 ·show lookS ty _ 143 _ (.c (.int .i64 a.kind)) _ _
  refine zc5 (kt:=3) (v:=.c (.clo (77+1000000) (mdlL m))) 2 rfl rfl ⟨rfl,by decide,by decide,by decide⟩ (List.forall_mem_cons.2 ⟨⟨rfl,by decide,by decide,by decide⟩,List.forall_mem_cons.2 ⟨⟨rfl,by decide,by decide,by decide⟩,List.forall_mem_cons.2 ⟨⟨rfl,by decide,by decide,by decide⟩,List.forall_mem_cons.2 ⟨⟨rfl,by decide,by decide,by decide⟩,List.forall_mem_cons.2 ⟨⟨rfl,by decide,by decide,by decide⟩,fun _ h=>by cases h⟩⟩⟩⟩⟩) (by rw[hkd];rfl) qBt2 ?_;refine exI ?_;refine z1e ?_;refine exA (atmV a) (as_eq rfl) ?_;refine z1e ?_
  try refine aI (z01.noclo (z0c m)) ?_
  try refine aI (z01.noclo (z0i a)) ?_
  first|refine⟨m,a,rfl,⟨ha,hm⟩,?_⟩|refine⟨m,a,rfl,⟨ha,hm,(z5i hok hkd).1,(z5i hok hkd).2⟩,?_⟩|refine⟨m,a,rfl,⟨ha,hm,(z5h hok hkd).1,(z5h hok hkd).2⟩,?_⟩
  refine DBd_3 ?_
  first|refine exI ?_|(intro cap5 hcap5;refine exI ?_)
  refine sXBd_4 ?_;refine s_n K6 ?_;refine z0b (z02 za5 (fun _ _ h=>h) (by first|rfl|assumption) [.tmp 4] rfl ?_);refine rtD ?_
  show SV.c (.bool _)=_
  rw[evN,if_neg (by omega),if_neg (by omega),if_pos hkd]
 ·show lookS ty _ 143 _ (.c (.int .i64 a.kind)) _ _
  refine zc5 (kt:=3) (v:=.c (.clo (78+1000000) (mdlL m))) 3 rfl rfl ⟨rfl,by decide,by decide,by decide⟩ (List.forall_mem_cons.2 ⟨⟨rfl,by decide,by decide,by decide⟩,List.forall_mem_cons.2 ⟨⟨rfl,by decide,by decide,by decide⟩,List.forall_mem_cons.2 ⟨⟨rfl,by decide,by decide,by decide⟩,List.forall_mem_cons.2 ⟨⟨rfl,by decide,by decide,by decide⟩,List.forall_mem_cons.2 ⟨⟨rfl,by decide,by decide,by decide⟩,fun _ h=>by cases h⟩⟩⟩⟩⟩) (by rw[hkd];rfl) qBt2 ?_;refine exI ?_;refine z1e ?_;refine exA (atmV a) (as_eq rfl) ?_;refine z1e ?_
  try refine aI (z01.noclo (z0c m)) ?_
  try refine aI (z01.noclo (z0i a)) ?_
  first|refine⟨m,a,rfl,⟨ha,hm⟩,?_⟩|refine⟨m,a,rfl,⟨ha,hm,(z5i hok hkd).1,(z5i hok hkd).2⟩,?_⟩|refine⟨m,a,rfl,⟨ha,hm,(z5h hok hkd).1,(z5h hok hkd).2⟩,?_⟩
  refine DBd_3 ?_
  first|refine exI ?_|(intro cap5 hcap5;refine exI ?_)
  refine sXBd_4 ?_;refine s_n K6 ?_;refine z0b (z02 za5 (fun _ _ h=>h) (by first|rfl|assumption) [.tmp 4] rfl ?_);refine rtD ?_
  show SV.c (.bool _)=_
  rw[evN,if_neg (by omega),if_neg (by omega),if_neg (by omega),if_pos hkd]
 ·show lookS ty _ 143 _ (.c (.int .i64 a.kind)) _ _
  refine zc5 (kt:=3) (v:=.c (.clo (79+1000000) (mdlL m))) 4 rfl rfl ⟨rfl,by decide,by decide,by decide⟩ (List.forall_mem_cons.2 ⟨⟨rfl,by decide,by decide,by decide⟩,List.forall_mem_cons.2 ⟨⟨rfl,by decide,by decide,by decide⟩,List.forall_mem_cons.2 ⟨⟨rfl,by decide,by decide,by decide⟩,List.forall_mem_cons.2 ⟨⟨rfl,by decide,by decide,by decide⟩,List.forall_mem_cons.2 ⟨⟨rfl,by decide,by decide,by decide⟩,fun _ h=>by cases h⟩⟩⟩⟩⟩) (by rw[hkd];rfl) qBt2 ?_;refine exI ?_;refine z1e ?_;refine exA (atmV a) (as_eq rfl) ?_;refine z1e ?_
  try refine aI (z01.noclo (z0c m)) ?_
  try refine aI (z01.noclo (z0i a)) ?_
  first|refine⟨m,a,rfl,⟨ha,hm⟩,?_⟩|refine⟨m,a,rfl,⟨ha,hm,(z5i hok hkd).1,(z5i hok hkd).2⟩,?_⟩|refine⟨m,a,rfl,⟨ha,hm,(z5h hok hkd).1,(z5h hok hkd).2⟩,?_⟩
  refine DBd_3 ?_
  first|refine exI ?_|(intro cap5 hcap5;refine exI ?_)
  refine sXBd_4 ?_;refine s_n K6 ?_;refine z0b (z02 za5 (fun _ _ h=>h) (by first|rfl|assumption) [.tmp 4] rfl ?_);refine rtD ?_
  show SV.c (.bool _)=_
  rw[evN,if_neg (by omega),if_neg (by omega),if_neg (by omega),if_neg (by omega)]


end Go.Proofs.YtegdcifghaldoaaDoor
