/- Contracts of functions and plain facts, part 10. -/
import Derived.Test.YtegdcifghaldoaaDoorPf
import Derived.Test.YtegdcifghaldoaaDoorPh
set_option maxHeartbeats 4000000
namespace Go.Proofs.YtegdcifghaldoaaDoor
set_option linter.all false
open Go.Ab Go.RowKit

section
variable {a b:Prop}
theorem qBv4(h:a:=by first|exact vcA|(simp<;>omega)|(show _< (lists _).length;rw[z1y];omega)|exact⟨trivial,by simp⟩|(simp;done)|exact vcB):a:=h
theorem zoz(kZ:b)(h:HidB b→a:=by intro kZ;(repeat first|refine aI qBv4 ?_|refine z0d qBv4 ?_|refine z0a qBv4 ?_|refine z0p qBv4 ?_|refine z0e ?_);exact kZ.out):a:=h ⟨kZ⟩
theorem z36(kZ:b)(h:HidB b→a:=by intro kZ;refine sX ?_;refine zoz ?_;refine exI ?_;exact kZ.out):a:=h ⟨kZ⟩
theorem z9d(kZ:b)(h:HidB b→a:=by intro kZ;refine qX ?_;refine zoz ?_;refine exI ?_;exact kZ.out):a:=h ⟨kZ⟩
theorem za9(kZ:b)(h:HidB b→a:=by intro kZ;refine qX ?_;refine zoz ?_;exact kZ.out):a:=h ⟨kZ⟩
end
open Go.Aut
theorem zp0{α:Type}{a b:List α}{k:Nat}{x y:α}(h:a.take k=b.take k)(hx:a[k]? =some x)(hy:b[k]? =some y)(e:x=y):a.take (k+1)=b.take (k+1):=by
  rw[List.take_add_one,List.take_add_one,h,hx,hy,e]
theorem zju{α:Type}{a b:List α}{k:Nat}{x y:α}(hx:a[k]? =some x)(hy:b[k]? =some y)(e:x≠y):a≠b:=fun h=>e (by rw[h,hy]at hx;exact(Option.some.inj hx).symm)
theorem zp1{l:List (List UInt8)}{i j:Nat}{x:List UInt8}(h:l[i]? =some x)(hj:j=i):(Cont.cells (lists l)).get j= .ds x.length (.u8s x):=by
  have hi:i< l.length:=(List.getElem?_eq_some_iff.1 h).1
  rw[hj,z5q hi,List.getD_eq_getElem?_getD,h];rfl
def sameWS:QSpec:=fun vs K=>∃ a b:List (List UInt8),vs=[.c (.ds a.length (.cells (lists a))),.c (.ds b.length (.cells (lists b)))]∧(a.length≤9223372036854775807∧b.length≤9223372036854775807)∧K (.c (.bool (decide (a=b))))
theorem sameW_ok:z11 Tryd.prog gl 43 sameWS:=by
 refine z0v (Γ:=g0) (N:=28) Tryd.func43 rfl rfl fun vs K h=>?_;obtain⟨a,b,rfl,⟨ha,hb⟩,h⟩:=h;refine⟨_,h,rfl,by simp,fun w I=>?_⟩;refine srR g0_ok fun _ K2=>?_;refine z36 ?_;refine s_n K2 ?_;refine seq_k fun _ K3=>?_;refine srR g0_ok fun _ K5=>?_
 iterate 5 refine z36 ?_
 refine s_n K5 ?_;refine z08 (b:=_) rfl (fun h_t10=>?_) (fun h_t10=>?_)
 ·try simp only[dQ,reduceIte]at h_t10
  refine srR g0_ok fun _ K7=>?_;refine z36 ?_;refine s_n K7 ?_;refine z09 (z02 g0_ok (fun _ _ h=>h) (by first|rfl|assumption) [.tmp 4] rfl ?_);refine rtD ?_
  show SV.c (.bool false)=_
  rw[decide_eq_false (fun e=>h_t10 (by rw[e]))]
 ·try simp only[dQ,reduceIte]at h_t10
  refine z0g ?_;apply K3;refine seq_k fun _ K8=>?_
  have hl:a.length=b.length:=by omega
  refine srR g0_ok fun _ K10=>?_;refine z36 ?_;refine s_n K10 ?_;refine z0c ?_;refine z13 (α:=Nat) (fun k=>[(0,.c (.ds a.length (.cells (lists a)))),(1,.c (.ds b.length (.cells (lists b)))),(5,.c (.int .i64 (k:Nat)))]) (fun k=>[]) 0 (fun k=>k≤a.length∧a.take k=b.take k) (fun k=>a.length - k) ?_ ?_
  ·refine dnS [] id 0 ⟨Nat.zero_le _,rfl⟩ [] uBc_0 uBc_0 uBc_0 uBc_0
  ·intro k hk
   refine seq_k fun _ K11=>?_;refine srR g0_ok fun _ K13=>?_
   iterate 4 refine z36 ?_
   refine s_n K13 ?_;refine z08 (b:=_) rfl (fun h_t14=>?_) (fun h_t14=>?_)
   ·try simp only[dQ,reduceIte]at h_t14
    refine z0g ?_;apply K11;refine seq_k fun _ K14=>?_;refine z0c ?_
    have hkl:k< a.length:=by omega
    have hkm:k< b.length:=by omega
    obtain⟨x,hx⟩:=hasAt hkl;obtain⟨y,hy⟩:=hasAt hkm;refine srQ g0_ok kQf fun _ K16=>?_
    iterate 3 refine z9d ?_
    refine za9 ?_;refine exA (.c (.ds x.length (.u8s x))) (as_c (zp1 hx (by omega))) ?_
    iterate 4 refine z9d ?_
    refine za9 ?_;refine exA (.c (.ds y.length (.u8s y))) (as_c (zp1 hy (by omega))) ?_
    iterate 2 refine z9d ?_
    refine q_n K16 ?_;refine z08 (b:=_) rfl (fun h_t27=>?_) (fun h_t27=>?_)
    ·try simp only[dQ,reduceIte]at h_t27
     have hxy:x≠y:=by first|exact h_t27|simpa using h_t27
     refine srR g0_ok fun _ K18=>?_;refine z36 ?_;refine s_n K18 ?_;refine z09 (z02 g0_ok (fun _ _ h=>h) (by first|rfl|assumption) [.tmp 4] rfl ?_);refine rtD ?_
     show SV.c (.bool false)=_
     rw[decide_eq_false (zju hx hy hxy)]
    ·try simp only[dQ,reduceIte]at h_t27
     have hxy:x=y:=by first|exact h_t27|simpa using h_t27
     refine z0g ?_;refine z0b ?_;apply K14;refine z06 g0_ok fun _ K19=>?_
     iterate 3 refine z36 ?_
     refine s_n K19 ?_;refine dnS [] id (k+1) ⟨⟨by omega,zp0 hk.2 hx hy hxy⟩,by omega⟩ [] uBc_0 uBc_0 uBc_0 uBc_0
   ·try simp only[dQ,reduceIte]at h_t14
    refine z0z ?_;refine z03 ?_;refine z03 ?_;refine z0s ?_;apply K8;refine srR g0_ok fun _ K21=>?_;refine z36 ?_;refine s_n K21 ?_;refine z09 (z02 g0_ok (fun _ _ h=>h) (by first|rfl|assumption) [.tmp 4] rfl ?_);refine rtD ?_
    show SV.c (.bool true)=_
    rw[decide_eq_true (by have:=hk.2;rwa [List.take_of_length_le (by omega),List.take_of_length_le (by omega)]at this)]

def sameNS:QSpec:=fun vs K=>∃ a b:List Int,vs=[.c (.ds a.length (.ints .i64 a)),.c (.ds b.length (.ints .i64 b))]∧(a.length≤9223372036854775807∧b.length≤9223372036854775807)∧K (.c (.bool (decide (a=b))))
theorem sameN_ok:z11 Tryd.prog gl 44 sameNS:=by
 refine z0v (Γ:=g0) (N:=26) Tryd.func44 rfl rfl fun vs K h=>?_;obtain⟨a,b,rfl,⟨ha,hb⟩,h⟩:=h;refine⟨_,h,rfl,by simp,fun w I=>?_⟩;refine srR g0_ok fun _ K2=>?_;refine z36 ?_;refine s_n K2 ?_;refine seq_k fun _ K3=>?_;refine srR g0_ok fun _ K5=>?_
 iterate 5 refine z36 ?_
 refine s_n K5 ?_;refine z08 (b:=_) rfl (fun h_t10=>?_) (fun h_t10=>?_)
 ·try simp only[dQ,reduceIte]at h_t10
  refine srR g0_ok fun _ K7=>?_;refine z36 ?_;refine s_n K7 ?_;refine z09 (z02 g0_ok (fun _ _ h=>h) (by first|rfl|assumption) [.tmp 4] rfl ?_);refine rtD ?_
  show SV.c (.bool false)=_
  rw[decide_eq_false (fun e=>h_t10 (by rw[e]))]
 ·try simp only[dQ,reduceIte]at h_t10
  refine z0g ?_;apply K3;refine seq_k fun _ K8=>?_
  have hl:a.length=b.length:=by omega
  refine srR g0_ok fun _ K10=>?_;refine z36 ?_;refine s_n K10 ?_;refine z0c ?_;refine z13 (α:=Nat) (fun k=>[(0,.c (.ds a.length (.ints .i64 a))),(1,.c (.ds b.length (.ints .i64 b))),(5,.c (.int .i64 (k:Nat)))]) (fun k=>[]) 0 (fun k=>k≤a.length∧a.take k=b.take k) (fun k=>a.length - k) ?_ ?_
  ·refine dnS [] id 0 ⟨Nat.zero_le _,rfl⟩ [] uBc_0 uBc_0 uBc_0 uBc_0
  ·intro k hk
   refine seq_k fun _ K11=>?_;refine srR g0_ok fun _ K13=>?_
   iterate 4 refine z36 ?_
   refine s_n K13 ?_;refine z08 (b:=_) rfl (fun h_t14=>?_) (fun h_t14=>?_)
   ·try simp only[dQ,reduceIte]at h_t14
    refine z0g ?_;apply K11;refine seq_k fun _ K14=>?_;refine z0c ?_
    have hkl:k< a.length:=by omega
    have hkm:k< b.length:=by omega
    obtain⟨x,hx⟩:=hasAt hkl;obtain⟨y,hy⟩:=hasAt hkm;refine srQ g0_ok kQf fun _ K16=>?_
    iterate 3 refine z9d ?_
    refine za9 ?_;refine exA (.c (.int .i64 x)) (as_i (by rw[List.getD_eq_getElem?_getD,show((k:Int).toNat*1)=k by omega,hx];rfl)) ?_
    iterate 3 refine z9d ?_
    refine za9 ?_;refine exA (.c (.int .i64 y)) (as_i (by rw[List.getD_eq_getElem?_getD,show((k:Int).toNat*1)=k by omega,hy];rfl)) ?_;refine z9d ?_;refine q_n K16 ?_;refine z08 (b:=_) rfl (fun h_t25=>?_) (fun h_t25=>?_)
    ·try simp only[dQ,reduceIte]at h_t25
     have hxy:x≠y:=by first|exact h_t25|simpa using h_t25
     refine srR g0_ok fun _ K18=>?_;refine z36 ?_;refine s_n K18 ?_;refine z09 (z02 g0_ok (fun _ _ h=>h) (by first|rfl|assumption) [.tmp 4] rfl ?_);refine rtD ?_
     show SV.c (.bool false)=_
     rw[decide_eq_false (zju hx hy hxy)]
    ·try simp only[dQ,reduceIte]at h_t25
     have hxy:x=y:=by first|exact h_t25|simpa using h_t25
     refine z0g ?_;refine z0b ?_;apply K14;refine z06 g0_ok fun _ K19=>?_
     iterate 3 refine z36 ?_
     refine s_n K19 ?_;refine dnS [] id (k+1) ⟨⟨by omega,zp0 hk.2 hx hy hxy⟩,by omega⟩ [] uBc_0 uBc_0 uBc_0 uBc_0
   ·try simp only[dQ,reduceIte]at h_t14
    refine z0z ?_;refine z03 ?_;refine z03 ?_;refine z0s ?_;apply K8;refine srR g0_ok fun _ K21=>?_;refine z36 ?_;refine s_n K21 ?_;refine z09 (z02 g0_ok (fun _ _ h=>h) (by first|rfl|assumption) [.tmp 4] rfl ?_);refine rtD ?_
    show SV.c (.bool true)=_
    rw[decide_eq_true (by have:=hk.2;rwa [List.take_of_length_le (by omega),List.take_of_length_le (by omega)]at this)]

noncomputable def csm:Ctx:={ P:=Tryd.prog,ty:=ty,glob:=gl,fs:=[(43,.flat sameWS),(44,.flat sameNS)] }
theorem zjv:csm.OK:=⟨tyOK,⟨⟨z07 Tryd.func43 kQf rfl,sameW_ok⟩,⟨z07 Tryd.func44 kQf rfl,sameN_ok⟩,trivial⟩,mixed⟩
@[simp] theorem csm_ty:csm.ty=ty:=rfl

def sameMS:QSpec:=fun vs K=>∃ a b:Mdl,vs=[mdlV a,mdlV b]∧(a.s.length≤9223372036854775807∧a.n.length≤9223372036854775807∧b.s.length≤9223372036854775807∧b.n.length≤9223372036854775807)∧K (.c (.bool (decide (a=b))))
theorem sameM_ok:z11 Tryd.prog gl 17 sameMS:=by
 refine z0v (Γ:=csm) (N:=17) Tryd.func17 rfl rfl fun vs K h=>?_;obtain⟨a,b,rfl,⟨h1,h2,h3,h4⟩,h⟩:=h;refine⟨_,h,rfl,by simp,fun w I=>?_⟩;refine srR zjv fun _ K2=>?_
 iterate 3 refine sXBd_4 ?_
 refine s_n K2 ?_;refine srR zjv fun _ K4=>?_;refine sXBd_4 ?_;refine z1f ?_;refine exA (.c (.ds a.s.length (.cells (lists a.s)))) (as_eq rfl) ?_;refine sXBd_4 ?_;refine z1f ?_;refine exA (.c (.ds b.s.length (.cells (lists b.s)))) (as_eq rfl) ?_;refine z1f ?_;refine⟨a.s,b.s,rfl,⟨h1,h3⟩,?_⟩;refine DBd_3 ?_
 first|refine exI ?_|(intro cap4 hcap4;refine exI ?_)
 refine z1f ?_;refine exB (fun hb5=>?_) (fun hb5=>?_)
 ·try simp only[dQ,reduceIte]at hb5
  refine z22 ?_;refine z1v ?_;refine exA (.c (.ds a.n.length (.ints .i64 a.n))) (as_eq rfl) ?_;refine z22 ?_;refine z1v ?_;refine exA (.c (.ds b.n.length (.ints .i64 b.n))) (as_eq rfl) ?_;refine z1v ?_;refine⟨a.n,b.n,rfl,⟨h2,h4⟩,?_⟩;refine DBd_3 ?_
  first|refine exI ?_|(intro cap10 hcap10;refine exI ?_)
  iterate 2 refine sXBd_4 ?_
  refine s_n K4 ?_;refine z09 (z02 zjv (fun _ _ h=>h) (by first|rfl|assumption) [.tmp 4] rfl ?_);refine rtD ?_
  show SV.c (.bool _)=_
  congr 2
  try simp only[if_true,if_false,reduceIte,Bool.false_eq_true]
  first|(obtain⟨s1,n1⟩:=a;obtain⟨s2,n2⟩:=b;simp_all;done)|(obtain⟨s1,n1⟩:=a;obtain⟨s2,n2⟩:=b;simp at hb5;simp[hb5];done)
 ·try simp only[dQ,reduceIte]at hb5
  iterate 5 refine sN ?_
  iterate 2 refine sXBd_4 ?_
  refine s_n K4 ?_;refine z09 (z02 zjv (fun _ _ h=>h) (by first|rfl|assumption) [.tmp 4] rfl ?_);refine rtD ?_
  show SV.c (.bool _)=_
  congr 2
  try simp only[if_true,if_false,reduceIte,Bool.false_eq_true]
  first|(obtain⟨s1,n1⟩:=a;obtain⟨s2,n2⟩:=b;simp_all;done)|(obtain⟨s1,n1⟩:=a;obtain⟨s2,n2⟩:=b;simp at hb5;simp[hb5];done)


end Go.Proofs.YtegdcifghaldoaaDoor

namespace Go.Proofs.YtegdcifghaldoaaDoor
set_option linter.all false
open Go.Ab Go.RowKit

section
variable {a b:Prop}
theorem qBw0(h:a:=by first|exact vcA|(simp[hrl]<;>omega)|exact Nat.le_of_ble_eq_true rfl|(refine⟨by omega,by omega,?_⟩;exact z00.solid (itmR.dat _))|exact z5c.mpr ⟨by omega,by omega⟩|exact⟨by omega,by omega⟩|(refine⟨by omega,by omega,?_⟩;exact pl2 rfl rfl)|(simp only[z6s];rw[hrl];omega)|(show(z0o _ _).length=_;rw[hrl])|(show _< (z0o _ _).length;first|(rw[z17 itmR (fun _ _=>trivial)];omega)|(rw[z17 fndR (fun _ _=>trivial)];omega))|(show _≤(z0o _ _).length;first|(rw[z17 itmR (fun _ _=>trivial)];omega)|(rw[z17 fndR (fun _ _=>trivial)];omega))|rfl|exact vcB):a:=h
theorem qBw1(h:a:=by rw[List.getD_eq_getElem?_getD,show(k.1:Int).toNat=k.1 by omega,hx];rfl):a:=h
theorem uBw_0(h:a:=by
    repeat' (first|exact rows_low itmR|exact zi4 itmR _|exact z00.to (z0i _)|exact z00.low (z0i _)|exact z00.to (z0k _)|exact z00.low (z0k _)|exact z00.to (z0l _)|exact z00.low (z0l _)|exact z00.to (z05 _)|exact z00.low (z05 _)|exact z00.to (z0n _)|exact z00.low (z0n _)|exact z00.to (z0f _)|exact z00.low (z0f _)|exact z00.to (z0h _ _)|exact z00.low (z0h _ _)|exact z00.to (z01 itmR _)|exact z00.low (z01 itmR _)|exact z00.to (z01 movR _)|exact z00.low (z01 movR _)|exact z00.to (z01 pceR _)|exact z00.low (z01 pceR _)|exact z00.to (z01 fndR _)|exact z00.low (z01 fndR _)|exact z00.to (z01 atmR _)|exact z00.low (z01 atmR _)|exact z00.to (z01 litR _)|exact z00.low (z01 litR _)|exact z00.to (z01 mdlR _)|exact z00.low (z01 mdlR _)|exact z0y (z0j z0r z04)|exact z0q (z0j z0r z04)|exact z0y z04|exact z0q z04|exact trivial|refine aI ?_ ?_|exact cC0|refine low_cons' ?_ ?_|exact cC1|fail)
    all_goals first|omega|(refine rows_toE (z01 itmR _) ?_;rw[hsucc,zm3];first|rfl|(simp;done))|(rw[hsucc];simp;done)|(show _=(List.map _ _).length;rw[z6y (by omega)];omega)|(rw[z6y (by omega)];omega)|exact Nat.le_refl _|(show allTo _ _ _;exact z00.to (z01 itmR _))|(simp[-List.reduceReplicate];done)|(simp[-List.reduceReplicate]<;>omega)|skip):a:=h
theorem DBw_0(kZ:b)(h:HidB b→a:=by intro kZ;(repeat first|refine aI qBw0 ?_|refine z0d qBw0 ?_|refine z0a qBw0 ?_|refine z0p qBw0 ?_|refine z0e ?_);exact kZ.out):a:=h ⟨kZ⟩
theorem z2x(kZ:b)(h:HidB b→a:=by intro kZ;refine sX ?_;refine DBw_0 ?_;refine exI ?_;exact kZ.out):a:=h ⟨kZ⟩
theorem zp2(kZ:b)(h:HidB b→a:=by intro kZ;refine sXT ?_;refine DBw_0 ?_;refine exI ?_;exact kZ.out):a:=h ⟨kZ⟩
theorem z56(kZ:b)(h:HidB b→a:=by intro kZ;refine sX ?_;refine DBw_0 ?_;exact kZ.out):a:=h ⟨kZ⟩
theorem sXTEBw_6(kZ:b)(h:HidB b→a:=by intro kZ;refine sXT ?_;refine DBw_0 ?_;exact kZ.out):a:=h ⟨kZ⟩
end
open Go.Aut
def itI(b:UInt8):Itm:=if b=88∨b=89 then⟨((b - 88).toNat:Nat),0⟩ else⟨-1,b⟩
def itemL(l:List UInt8):List Itm:=l.map itI
theorem z6b{α β:Type}{g:α→β}{l:List α}{k:Nat}{x:α}(hx:l[k]? =some x):(l.take (k+1)).map g=(l.take k).map g++[g x]:=by
  rw[List.take_add_one,hx];simp
theorem z6y{α β:Type}{g:α→β}{l:List α}{k:Nat}(h:k≤l.length):((l.take k).map g).length=k:=by simp;omega
def itemS:QSpec:=fun vs K=>∃ l:List UInt8,vs=[.c (.str l)]∧l.length≤1048576∧K (.c (itmsX (itemL l)))
theorem item_ok:z47 Tryd.prog gl 31 itemS:=by
 refine z3s (Γ:=g0) (N:=39) Tryd.func31 rfl rfl fun vs K h=>?_;obtain⟨l,rfl,hl,h⟩:=h;refine⟨_,h,trivial,by simp,fun w I=>?_⟩;refine srR g0_ok fun _ K2=>?_;refine z2x ?_;refine s_n K2 ?_;refine srR g0_ok fun _ K4=>?_
 iterate 2 refine z2x ?_
 refine s_n K4 ?_;refine seq_k fun _ K5=>?_;refine srR g0_ok fun _ K7=>?_;refine z2x ?_;refine s_n K7 ?_;refine z0c ?_;refine z13 (α:=Nat×Nat) (fun k=>[(0,.c (.str l)),(3,.c (.slice 0 0 ((l.take k.1).map itI).length k.2)),(4,.c (.int .i64 (k.1:Nat)))]) (fun k=>[(0,.own 27 (.cells (z0o itmL ((l.take k.1).map itI))) (k.2*2))]) 1 (fun k=>k.1≤l.length) (fun k=>l.length - k.1) ?_ ?_
 ·refine dnS [] id (0,0) (by simp) [0] uBw_0 uBw_0 uBw_0 uBw_0
 ·intro k hk
  refine seq_k fun _ K8=>?_;refine srR g0_ok fun _ K10=>?_
  iterate 4 refine z2x ?_
  refine s_n K10 ?_;refine z08 (b:=_) rfl (fun h_t9=>?_) (fun h_t9=>?_)
  ·try simp only[dQ,reduceIte]at h_t9
   refine z0g ?_;apply K8;refine seq_k fun _ K11=>?_;refine z0c ?_
   have hkl:k.1< l.length:=by omega
   obtain⟨x,hx⟩:=hasAt hkl
   have hkL:((l.take k.1).map itI).length=k.1:=z6y (by omega)
   have hrl:=z17 itmR (l:=(l.take k.1).map itI) (fun _ _=>trivial)
   refine srR g0_ok fun _ K13=>?_
   iterate 2 refine z2x ?_
   refine z56 ?_;refine exA (.c (.u8 x)) (as_eq (congrArg (fun v=>SV.c (Cell.u8 v)) qBw1)) ?_;refine z2x ?_;refine z56 ?_;refine exB (fun hb4=>?_) (fun hb4=>?_)
   ·try simp only[dQ,reduceIte]at hb4
    iterate 4 refine sN ?_
    refine z2x ?_;refine s_n K13 ?_;refine z08 (b:=_) rfl (fun _=>?_) (fun h_t21=>?_)
    rotate_left 1
    ·exfalso;simp at h_t21
    have hmk:itI x=⟨((x - 88).toNat:Nat),0⟩:=by rw[itI,if_pos (by first|exact .inl hb4|exact .inr h_t21)]
    have hxb:=(x - 88).toNat_lt
    refine z06 g0_ok fun _ K14=>?_
    iterate 3 refine z2x ?_
    refine z56 ?_;refine exA (.c (.u8 x)) (as_eq (congrArg (fun v=>SV.c (Cell.u8 v)) qBw1)) ?_
    iterate 2 refine z2x ?_
    refine z56 ?_;refine exA (.agg (.cells (itmL (itI x)))) (as_eq (by rw[hmk];rfl)) ?_;refine z2x ?_;refine z56 ?_;intro cap8 hcap8;refine exI ?_;refine z2x ?_;refine s_n K14 ?_;refine z0b ?_;apply K11;refine z06 g0_ok fun _ K15=>?_
    iterate 3 refine z2x ?_
    refine s_n K15 ?_
    have hsucc:=z6b (g:=itI) hx
    refine dnS [] (fun _=>2) (k.1+1,cap8) ⟨by first|omega|exact⟨by omega,by omega⟩,by omega⟩ [2] uBw_0 uBw_0 uBw_0 uBw_0
   ·try simp only[dQ,reduceIte]at hb4
    iterate 2 refine zp2 ?_
    refine sXTEBw_6 ?_;refine exA (.c (.u8 x)) (as_eq (congrArg (fun v=>SV.c (Cell.u8 v)) qBw1)) ?_;refine zp2 ?_;refine z2x ?_;refine s_n K13 ?_;refine z08 (b:=_) rfl (fun h_t21=>?_) (fun h_t21=>?_)
    ·try simp only[dQ,reduceIte]at h_t21
     have hmk:itI x=⟨((x - 88).toNat:Nat),0⟩:=by rw[itI,if_pos (by first|exact .inl hb4|exact .inr h_t21)]
     have hxb:=(x - 88).toNat_lt
     refine z06 g0_ok fun _ K16=>?_
     iterate 3 refine z2x ?_
     refine z56 ?_;refine exA (.c (.u8 x)) (as_eq (congrArg (fun v=>SV.c (Cell.u8 v)) qBw1)) ?_
     iterate 2 refine z2x ?_
     refine z56 ?_;refine exA (.agg (.cells (itmL (itI x)))) (as_eq (by rw[hmk];rfl)) ?_;refine z2x ?_;refine z56 ?_;intro cap8 hcap8;refine exI ?_;refine z2x ?_;refine s_n K16 ?_;refine z0b ?_;apply K11;refine z06 g0_ok fun _ K17=>?_
     iterate 3 refine z2x ?_
     refine s_n K17 ?_
     have hsucc:=z6b (g:=itI) hx
     refine dnS [] (fun _=>2) (k.1+1,cap8) ⟨by first|omega|exact⟨by omega,by omega⟩,by omega⟩ [2] uBw_0 uBw_0 uBw_0 uBw_0
    ·try simp only[dQ,reduceIte]at h_t21
     have hmk:itI x=⟨-1,x⟩:=by rw[itI,if_neg (by intro hh;rcases hh with hh|hh;exact hb4 hh;exact h_t21 hh)]
     refine z06 g0_ok fun _ K18=>?_
     iterate 3 refine z2x ?_
     refine z56 ?_;refine exA (.c (.u8 x)) (as_eq (congrArg (fun v=>SV.c (Cell.u8 v)) qBw1)) ?_;refine z56 ?_;refine exA (.agg (.cells (itmL (itI x)))) (as_eq (by rw[hmk];rfl)) ?_;refine z2x ?_;refine z56 ?_;intro cap6 hcap6;refine exI ?_;refine z2x ?_;refine s_n K18 ?_;refine z0b ?_;apply K11;refine z06 g0_ok fun _ K19=>?_
     iterate 3 refine z2x ?_
     refine s_n K19 ?_
     have hsucc:=z6b (g:=itI) hx
     refine dnS [] (fun _=>2) (k.1+1,cap6) ⟨by first|omega|exact⟨by omega,by omega⟩,by omega⟩ [2] uBw_0 uBw_0 uBw_0 uBw_0
  ·try simp only[dQ,reduceIte]at h_t9
   refine z0z ?_;refine z03 ?_;refine z03 ?_;refine z0s ?_;apply K5;refine srR g0_ok fun _ K21=>?_
   iterate 2 refine z2x ?_
   refine s_n K21 ?_
   have hfin:(l.take k.1).map itI=itemL l:=by rw[List.take_of_length_le (by omega)];rfl
   rw[hfin]
   have hrl:=z17 itmR (l:=itemL l) (fun _ _=>trivial)
   refine z09 (z1a g0_ok (fun _ _ h=>h) (trivial) [0] [.tmp 2] rfl ?_)
   repeat' (first|exact zi4 itmR _|exact z00.to (z0i _)|exact z00.low (z0i _)|exact z00.to (z0k _)|exact z00.low (z0k _)|exact z00.to (z0l _)|exact z00.low (z0l _)|exact z00.to (z05 _)|exact z00.low (z05 _)|exact z00.to (z0n _)|exact z00.low (z0n _)|exact z00.to (z0f _)|exact z00.low (z0f _)|exact z00.to (z0h _ _)|exact z00.low (z0h _ _)|exact z00.to (z01 itmR _)|exact z00.low (z01 itmR _)|exact z00.to (z01 movR _)|exact z00.low (z01 movR _)|exact z00.to (z01 pceR _)|exact z00.low (z01 pceR _)|exact z00.to (z01 fndR _)|exact z00.low (z01 fndR _)|exact z00.to (z01 atmR _)|exact z00.low (z01 atmR _)|exact z00.to (z01 litR _)|exact z00.low (z01 litR _)|exact z00.to (z01 mdlR _)|exact z00.low (z01 mdlR _)|exact z0y (z0j z0r z04)|exact z0q (z0j z0r z04)|exact z0y z04|exact z0q z04|exact trivial|refine aI ?_ ?_|exact cC0|refine low_cons' ?_ ?_|exact cC1|fail)
   all_goals first|omega|(simp[hrl];done)|(rw[if_pos ⟨rfl,by simp[hrl]⟩];done)|(show(_:Cont)=_;rw[if_pos ⟨rfl,by simp only[z6s];rw[hrl];rfl⟩];done)|(simp only[z6s];rw[hrl];exact Nat.le_of_eq (by simp))|(simp[-List.reduceReplicate];done)|(simp[-List.reduceReplicate]<;>omega)|skip

end Go.Proofs.YtegdcifghaldoaaDoor

namespace Go.Proofs.YtegdcifghaldoaaDoor
set_option linter.all false
open Go.Ab Go.RowKit

open Go.Aut
structure WOrd{α:Type}(c:α→α→Int):Prop where
  s:∀ x y,c y x= -c x y
  t:∀ x y z,c x y< 0→c y z< 0→c x z< 0
  e:∀ x y z,c x y=0→c x z=c y z
theorem WOrd.r{α:Type}{c:α→α→Int}(h:WOrd c)(x:α):c x x=0:=by have:=h.s x x;omega
theorem WOrd.e'{α:Type}{c:α→α→Int}(h:WOrd c){x y z:α}(h1:c y z=0):c x z=c x y:=by
  have h2:=h.e y z x h1
  have h3:=h.s y x
  have h4:=h.s z x
  omega
theorem zp3:WOrd cmpI:=⟨fun x y=>by unfold cmpI;(repeat' split)<;>omega,fun x y z=>by unfold cmpI;(repeat' split)<;>omega,fun x y z=>by unfold cmpI;(repeat' split)<;>omega⟩
theorem cmpI_z{x y:Int}(h:cmpI x y=0):x=y:=by unfold cmpI at h;(repeat' split at h)<;>omega
theorem WOrd.on{α β:Type}{c:α→α→Int}(h:WOrd c)(g:β→α):WOrd fun x y=>c (g x) (g y):=⟨fun x y=>h.s _ _,fun x y z=>h.t _ _ _,fun x y z=>h.e _ _ _⟩
theorem or2(a b:Int):orI [a,b]=if a≠0 then a else b:=by
  simp only[orI];split
  · rfl
  · split<;>omega
theorem WOrd.or {α:Type} {c d:α→α→Int} (h:WOrd c) (k:WOrd d):WOrd fun x y=>orI [c x y,d x y]:=by
  refine⟨fun x y=>?_,fun x y z=>?_,fun x y z=>?_⟩
  · simp only[or2]
    have h1:=h.s x y
    have h2:=k.s x y
    (repeat' split)<;>omega
  · simp only[or2]
    intro h1 h2
    by_cases a1:c x y=0
    · rw[if_neg (by omega)]at h1
      have e1:=h.e x y z a1
      by_cases a2:c y z=0
      · rw[if_neg (by omega)]at h2
        rw[if_neg (by omega)];exact k.t x y z h1 h2
      · rw[if_pos (by omega)]at h2
        rw[if_pos (by omega)];omega
    · rw[if_pos (by omega)]at h1
      by_cases a2:c y z=0
      · have e2:=h.e' (x:=x) a2
        rw[if_pos (by omega)];omega
      · rw[if_pos (by omega)]at h2
        have:=h.t x y z h1 h2
        rw[if_pos (by omega)];exact this
  · simp only[or2]
    intro h1
    have a1:c x y=0:=by split at h1<;>omega
    have a2:d x y=0:=by split at h1<;>omega
    rw[h.e x y z a1,k.e x y z a2]
theorem cmpL_s{α:Type}{c:α→α→Int}(h:WOrd c):∀ x y,cmpL c y x= -cmpL c x y
  |[],[]=>rfl
  |[],_::_=>rfl
  |_::_,[]=>rfl
  | a::x,b::y=>by
    have h1:=h.s a b
    have h2:=cmpL_s h x y
    rw[cmpL,cmpL]
    (repeat' split)<;>omega
theorem cmpL_e{α:Type}{c:α→α→Int}(h:WOrd c):∀ x y z,cmpL c x y=0→cmpL c x z=cmpL c y z
  |[],[],_,_=>rfl
  |[],_::_,_,h1=>by simp[cmpL]at h1
  |_::_,[],_,h1=>by simp[cmpL]at h1
  |_::_,_::_,[],_=>rfl
  | a::x,b::y,d::z,h1=>by
    rw[cmpL]at h1
    have h2:c a b=0:=by split at h1<;>omega
    rw[if_neg (by omega)]at h1;rw[cmpL,cmpL,h.e a b d h2,cmpL_e h x y z h1]
theorem cmpL_t {α:Type} {c:α→α→Int} (h:WOrd c):∀ x y z,cmpL c x y< 0→cmpL c y z< 0→cmpL c x z< 0
  |[],[],_,h1,_=>by simp[cmpL]at h1
  |[],_::_,[],_,h2=>by simp[cmpL]at h2
  |[],_::_,_::_,_,_=>by simp[cmpL]
  |_::_,[],_,h1,_=>by simp[cmpL]at h1
  |_::_,_::_,[],_,h2=>by simp[cmpL]at h2
  | a ::x,b::y,d::z,h1,h2=>by
    rw[cmpL]at h1 h2 ⊢
    by_cases a1:c a b=0
    · rw[if_neg (by omega)]at h1
      have e1:=h.e a b d a1
      by_cases a2:c b d=0
      · rw[if_neg (by omega)]at h2
        rw[if_neg (by omega)];exact cmpL_t h x y z h1 h2
      · rw[if_pos (by omega)]at h2
        rw[if_pos (by omega)];omega
    · rw[if_pos (by omega)]at h1
      by_cases a2:c b d=0
      · have e2:=h.e' (x:=a) a2
        rw[if_pos (by omega)];omega
      · rw[if_pos (by omega)]at h2
        have:=h.t a b d h1 h2
        rw[if_pos (by omega)];exact this
theorem zp4{α:Type}{c:α→α→Int}(h:WOrd c):WOrd (cmpL c):=⟨cmpL_s h,cmpL_t h,cmpL_e h⟩
theorem zjw{α:Type}{c:α→α→Int}(h:∀ x y,c x y=0→x=y):∀ x y,cmpL c x y=0→x=y
  |[],[],_=>rfl
  |[],_::_,h1=>by simp[cmpL]at h1
  |_::_,[],h1=>by simp[cmpL]at h1
  | a::x,b::y,h1=>by
    rw[cmpL]at h1
    have h2:c a b=0:=by split at h1<;>omega
    rw[if_neg (by omega)]at h1;rw[h a b h2,zjw h x y h1]
theorem cmpB_w:WOrd cmpB:=zp4 (zp3.on fun x:UInt8=>(x.toNat:Int))
theorem cmpB_z(x y:List UInt8)(h:cmpB x y=0):x=y:=zjw (fun a b h=>by
  have:=cmpI_z h
  exact UInt8.toNat_inj.1 (by omega)) x y h
theorem shlex_w:WOrd shlex:=(zp3.on fun x:List UInt8=>(x.length:Int)).or cmpB_w
theorem shlex_z(x y:List UInt8)(h:shlex x y=0):x=y:=by
  rw[shlex,or2]at h;exact cmpB_z x y (by split at h<;>omega)
def cmpM(a b:Mdl):Int:=orI [cmpL shlex a.s b.s,cmpL cmpI a.n b.n]
theorem zfr:WOrd cmpM:=((zp4 shlex_w).on fun m:Mdl=>m.s).or ((zp4 zp3).on fun m:Mdl=>m.n)
theorem cmpM_z{a b:Mdl}(h:cmpM a b=0):a=b:=by
  rw[cmpM,or2]at h
  have h1:cmpL shlex a.s b.s=0:=by split at h<;>omega
  rw[if_neg (by omega)]at h;obtain⟨s,n⟩:=a;obtain⟨s',n'⟩:=b;obtain rfl:s=s':=zjw shlex_z _ _ h1;obtain rfl:n=n':=zjw (fun _ _=>cmpI_z) _ _ h
  rfl
theorem z7a(a b:Mdl):lessN a b=decide (cmpM a b< 0):=rfl
theorem less_irr(a:Mdl):lessN a a=false:=by rw[z7a,zfr.r];rfl
theorem zp5(a b:Mdl):(lessN a b&&lessN b a)=false:=by
  rw[z7a,z7a,Bool.and_eq_false_iff,decide_eq_false_iff_not,decide_eq_false_iff_not]
  have:=zfr.s a b
  omega
theorem less_tot(a b:Mdl):(lessN a b||lessN b a)= !decide (a=b):=by
  rw[z7a,z7a,Bool.eq_iff_iff,Bool.or_eq_true,decide_eq_true_eq,decide_eq_true_eq,Bool.not_eq_true',decide_eq_false_iff_not]
  have h1:=zfr.s a b
  constructor
  · rintro h rfl
    have:=zfr.r a
    omega
  · intro h
    by_cases h2:cmpM a b=0
    · exact absurd (cmpM_z h2) h
    · omega
theorem zl3{a b c:Mdl}(h1:lessN a b=true)(h2:lessN b c=true):lessN a c=true:=by
  rw[z7a,decide_eq_true_eq]at *;exact zfr.t a b c h1 h2

end Go.Proofs.YtegdcifghaldoaaDoor
