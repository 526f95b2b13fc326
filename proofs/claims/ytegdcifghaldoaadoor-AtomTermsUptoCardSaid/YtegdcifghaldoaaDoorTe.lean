/- Contracts of functions and plain facts, part 5. -/
import Derived.Test.YtegdcifghaldoaaDoorTd
import Derived.Test.YtegdcifghaldoaaDoorTb
set_option maxHeartbeats 1000000
set_option maxRecDepth 4000
namespace Go.Proofs.YtegdcifghaldoaaDoor
set_option linter.all false
open Go.Ab Go.RowKit

section
variable {a b:Prop}
theorem uRa_0(h:a:=by
    repeat' (first|exact pT|exact trivial|refine aI ?_ ?_|exact cC0|refine low_cons' ?_ ?_|exact cC1|fail)
    all_goals first|omega|(show(_:Bool)=_;first|(simp[baseB,hb3];done)|(rw[show r.okB=decide (r.over≤2) by simp[Rul.okB,hb2,hb7,hb12,hb17,hb22,hb27]];by_cases e9:r.over≤2<;>simp[e9]<;>omega)|(simp[Rul.okB, *];done))|(simp;done)|(show(0:Nat)< (z0z _ _ _ _).length;rw[z0t hcl];decide)|(simp[-List.reduceReplicate];done)|(simp[-List.reduceReplicate]<;>omega)|skip):a:=h
theorem uRa_1(h:a:=by
    repeat' (first|exact pT|exact trivial|refine aI ?_ ?_|exact cC0|refine low_cons' ?_ ?_|exact cC1|fail)
    all_goals first|omega|(show(_:Bool)=dg1 b;unfold dg1;first|(rw[decide_eq_true (show(48:UInt8)≤b from hb2)];rfl)|(rw[decide_eq_false (show ¬ (48:UInt8)≤b from hb2)];rfl))|(show(_:Bool)=_;unfold dg2;first|(rw[decide_eq_true (show base=16 from hb2),decide_eq_true (show(97:UInt8)≤b from hb6)];rfl)|(rw[decide_eq_true (show base=16 from hb2),decide_eq_false (show ¬ (97:UInt8)≤b from hb6)];rfl)|(rw[decide_eq_false (show ¬ base=16 from hb2)];rfl))|(show(_:Bool)=_;unfold dg3;first|(rw[decide_eq_true (show base=16 from hb2),decide_eq_true (show(65:UInt8)≤b from hb6)];rfl)|(rw[decide_eq_true (show base=16 from hb2),decide_eq_false (show ¬ (65:UInt8)≤b from hb6)];rfl)|(rw[decide_eq_false (show ¬ base=16 from hb2)];rfl))|(simp;done)|(show(0:Nat)< (z0z _ _ _ _).length;rw[z0t hcl];decide)|(simp[-List.reduceReplicate];done)|(simp[-List.reduceReplicate]<;>omega)|skip):a:=h
theorem z4n(kZ:b)(h:HidB b→a:=by intro kZ;refine sXT ?_;refine DUf_0 ?_;refine exI ?_;exact kZ.out):a:=h ⟨kZ⟩
end
structure Rul where
  base:Int
  digits:Int
  top:Int
  over:Int
  zeros:Bool
abbrev rulC(r:Rul):Cont:=.cells [.int .i64 r.base,.int .i64 r.digits,.int .i64 r.top,.int .i64 r.over,.bool r.zeros]
abbrev rulV(r:Rul):SV:=.agg (rulC r)
structure Sta where
  digits:Int
  zero:Bool
  n:Int
  mod:Int
deriving DecidableEq
abbrev staC(s:Sta):Cont:=.cells [.int .i64 s.digits,.bool s.zero,.int .i64 s.n,.int .i64 s.mod]
abbrev staV(s:Sta):SV:=.agg (staC s)
def baseB(r:Rul):Bool:=decide (r.base=10)||decide (r.base=16)
def Rul.okB(r:Rul):Bool:=baseB r&&decide (1≤r.digits)&&decide (r.digits≤6)&&decide (1≤r.top)&&decide (r.top≤50)&&decide (0≤r.over)&&decide (r.over≤2)
def zbr(r:Rul):Int:=if r.okB=true then 0 else 1
def dg1(b:UInt8):Bool:=decide (48≤b)&&decide (b≤57)
def dg2(base:Int)(b:UInt8):Bool:=(decide (base=16)&&decide (97≤b))&&decide (b≤102)
def dg3(base:Int)(b:UInt8):Bool:=(decide (base=16)&&decide (65≤b))&&decide (b≤70)
def z5u(base:Int)(b:UInt8):Int:=if dg1 b=true then((b - 48).toNat:Int)else if dg2 base b=true then((b - 97).toNat:Int)+10 else if dg3 base b=true then((b - 65).toNat:Int)+10 else -1
def zct(r:Rul)(s:Sta)(d:Int):Sta:={ digits:=min (s.digits+1) 7,zero:=if s.digits=0 then decide (d=0)else s.zero,n:=min (s.n*r.base+d) 51,mod:=(s.mod*r.base+d)%(r.top+1) }
def z6j(r:Rul)(s:Sta):Int×Bool:=
  if s.digits=0∨(s.zero=true∧1< s.digits∧r.zeros=false) then(0,false)
  else if s.digits≤r.digits∧s.n≤r.top then(s.n,true)
  else if r.over=2 then(s.mod,true)else if r.over=1 then(r.top,true) else(0,false)
structure Rul.ok(r:Rul):Prop where
  base:r.base=10∨r.base=16
  d1:1≤r.digits
  d2:r.digits≤6
  t1:1≤r.top
  t2:r.top≤50
  o1:0≤r.over
  o2:r.over≤2
theorem okB_iff{r:Rul}:r.okB=true↔r.ok:=by
  simp only[Rul.okB,baseB,Bool.and_eq_true,Bool.or_eq_true,decide_eq_true_eq]
  exact⟨fun⟨⟨⟨⟨⟨⟨a,b⟩,c⟩,d⟩,e⟩,f⟩,g⟩=>⟨a,b,c,d,e,f,g⟩,fun⟨a,b,c,d,e,f,g⟩=>⟨⟨⟨⟨⟨⟨a,b⟩,c⟩,d⟩,e⟩,f⟩,g⟩⟩
def Sta.ok(s:Sta):Prop:=0≤s.digits∧s.digits≤7∧0≤s.n∧s.n≤51∧0≤s.mod∧s.mod≤50
theorem next_ok{r:Rul}{s:Sta}{d:Int}(hr:r.ok)(hs:s.ok)(h0:0≤d):(zct r s d).ok:=by
 obtain⟨h1,h2,h3,h4,h5,h6⟩:=hs
 have hb:=hr.base
 have ht:=hr.t1
 have ht2:=hr.t2
 have hp:0≤s.n*r.base:=Int.mul_nonneg h3 (by omega)
 have hm1:=Int.emod_nonneg (s.mod*r.base+d) (b:=r.top+1) (by omega)
 have hm2:=Int.emod_lt_of_pos (s.mod*r.base+d) (b:=r.top+1) (by omega)
 refine⟨?_,?_,?_,?_,hm1,?_⟩
 ·show 0≤min (s.digits+1) 7;omega
 ·show min (s.digits+1) 7≤7;omega
 ·show 0≤min (s.n*r.base+d) 51;omega
 ·show min (s.n*r.base+d) 51≤51;omega
 ·show(s.mod*r.base+d)%(r.top+1)≤50;omega
def zhg:QSpec:=fun vs K=>∃ r:Rul,vs=[rulV r]∧K (.c (.int .i64 (zbr r)))
theorem zfn:z11 Tryd.prog gl 63 zhg:=by
 refine z0u (Γ:=g0) (N:=44) Tryd.func63 rfl rfl fun vs K h=>?_;obtain⟨r,rfl,h⟩:=h;refine⟨_,h,rfl,by simp,fun w I=>?_⟩;refine srR g0_ok fun _ K2=>?_
 iterate 2 refine zng ?_
 refine s_n K2 ?_;refine z3a (α:=Unit) (fun _=>[(1,.c (.dp (rulC r) 0)),(3,.c (.bool (baseB r)))]) (fun _=>[]) 0 (fun _=>True) ?_ ?_
 ·refine z04 g0_ok fun _ K3=>?_
  iterate 3 refine zng ?_
  refine sXEUf_4 ?_;refine exB (fun hb3=>?_) (fun hb3=>?_)
  ·try simp only[dQ,reduceIte]at hb3
   iterate 3 refine sN ?_
   iterate 2 refine zng ?_
   refine s_n K3 ?_;refine dnS [0] id () trivial [] uRa_0 uRa_0 uRa_0 uRa_0
  ·try simp only[dQ,reduceIte]at hb3
   iterate 3 refine z4n ?_
   iterate 2 refine zng ?_
   refine s_n K3 ?_;refine dnS [0] id () trivial [] uRa_0 uRa_0 uRa_0 uRa_0
 ·intro u hu
  clear hu;refine seq_k fun _ K4=>?_;refine z3a (α:=Unit) (fun _=>[(43,.c (.bool (!r.okB)))]) (fun _=>[]) 0 (fun _=>True) ?_ ?_
  ·refine z04 g0_ok fun _ K5=>?_
   iterate 2 refine zng ?_
   refine sXEUf_4 ?_;refine exB (fun hb2=>?_) (fun hb2=>?_)
   ·try simp only[dQ,reduceIte]at hb2
    iterate 3 refine sN ?_
    refine zng ?_;refine sXEUf_4 ?_;refine exB (fun hb7=>?_) (fun hb7=>?_)
    rotate_left 1
    ·exfalso;simp at hb7
    iterate 3 refine sN ?_
    refine zng ?_;refine sXEUf_4 ?_;refine exB (fun hb12=>?_) (fun hb12=>?_)
    rotate_left 1
    ·exfalso;simp at hb12
    iterate 3 refine sN ?_
    refine zng ?_;refine sXEUf_4 ?_;refine exB (fun hb17=>?_) (fun hb17=>?_)
    rotate_left 1
    ·exfalso;simp at hb17
    iterate 3 refine sN ?_
    refine zng ?_;refine sXEUf_4 ?_;refine exB (fun hb22=>?_) (fun hb22=>?_)
    rotate_left 1
    ·exfalso;simp at hb22
    iterate 3 refine sN ?_
    refine zng ?_;refine sXEUf_4 ?_;refine exB (fun hb27=>?_) (fun hb27=>?_)
    rotate_left 1
    ·exfalso;simp at hb27
    iterate 3 refine sN ?_
    refine zng ?_;refine s_n K5 ?_;refine dnS [] id () trivial [] uRa_0 uRa_0 uRa_0 uRa_0
   ·try simp only[dQ,reduceIte]at hb2
    iterate 3 refine z4n ?_
    refine zng ?_;refine sXEUf_4 ?_;refine exB (fun hb7=>?_) (fun hb7=>?_)
    ·try simp only[dQ,reduceIte]at hb7
     iterate 3 refine sN ?_
     refine zng ?_;refine sXEUf_4 ?_;refine exB (fun hb12=>?_) (fun hb12=>?_)
     rotate_left 1
     ·exfalso;simp at hb12
     iterate 3 refine sN ?_
     refine zng ?_;refine sXEUf_4 ?_;refine exB (fun hb17=>?_) (fun hb17=>?_)
     rotate_left 1
     ·exfalso;simp at hb17
     iterate 3 refine sN ?_
     refine zng ?_;refine sXEUf_4 ?_;refine exB (fun hb22=>?_) (fun hb22=>?_)
     rotate_left 1
     ·exfalso;simp at hb22
     iterate 3 refine sN ?_
     refine zng ?_;refine sXEUf_4 ?_;refine exB (fun hb27=>?_) (fun hb27=>?_)
     rotate_left 1
     ·exfalso;simp at hb27
     iterate 3 refine sN ?_
     refine zng ?_;refine s_n K5 ?_;refine dnS [] id () trivial [] uRa_0 uRa_0 uRa_0 uRa_0
    ·try simp only[dQ,reduceIte]at hb7
     iterate 3 refine z4n ?_
     refine zng ?_;refine sXEUf_4 ?_;refine exB (fun hb12=>?_) (fun hb12=>?_)
     ·try simp only[dQ,reduceIte]at hb12
      iterate 3 refine sN ?_
      refine zng ?_;refine sXEUf_4 ?_;refine exB (fun hb17=>?_) (fun hb17=>?_)
      rotate_left 1
      ·exfalso;simp at hb17
      iterate 3 refine sN ?_
      refine zng ?_;refine sXEUf_4 ?_;refine exB (fun hb22=>?_) (fun hb22=>?_)
      rotate_left 1
      ·exfalso;simp at hb22
      iterate 3 refine sN ?_
      refine zng ?_;refine sXEUf_4 ?_;refine exB (fun hb27=>?_) (fun hb27=>?_)
      rotate_left 1
      ·exfalso;simp at hb27
      iterate 3 refine sN ?_
      refine zng ?_;refine s_n K5 ?_;refine dnS [] id () trivial [] uRa_0 uRa_0 uRa_0 uRa_0
     ·try simp only[dQ,reduceIte]at hb12
      iterate 3 refine z4n ?_
      refine zng ?_;refine sXEUf_4 ?_;refine exB (fun hb17=>?_) (fun hb17=>?_)
      ·try simp only[dQ,reduceIte]at hb17
       iterate 3 refine sN ?_
       refine zng ?_;refine sXEUf_4 ?_;refine exB (fun hb22=>?_) (fun hb22=>?_)
       rotate_left 1
       ·exfalso;simp at hb22
       iterate 3 refine sN ?_
       refine zng ?_;refine sXEUf_4 ?_;refine exB (fun hb27=>?_) (fun hb27=>?_)
       rotate_left 1
       ·exfalso;simp at hb27
       iterate 3 refine sN ?_
       refine zng ?_;refine s_n K5 ?_;refine dnS [] id () trivial [] uRa_0 uRa_0 uRa_0 uRa_0
      ·try simp only[dQ,reduceIte]at hb17
       iterate 3 refine z4n ?_
       refine zng ?_;refine sXEUf_4 ?_;refine exB (fun hb22=>?_) (fun hb22=>?_)
       ·try simp only[dQ,reduceIte]at hb22
        iterate 3 refine sN ?_
        refine zng ?_;refine sXEUf_4 ?_;refine exB (fun hb27=>?_) (fun hb27=>?_)
        rotate_left 1
        ·exfalso;simp at hb27
        iterate 3 refine sN ?_
        refine zng ?_;refine s_n K5 ?_;refine dnS [] id () trivial [] uRa_0 uRa_0 uRa_0 uRa_0
       ·try simp only[dQ,reduceIte]at hb22
        iterate 3 refine z4n ?_
        refine zng ?_;refine sXEUf_4 ?_;refine exB (fun hb27=>?_) (fun hb27=>?_)
        ·try simp only[dQ,reduceIte]at hb27
         iterate 3 refine sN ?_
         refine zng ?_;refine s_n K5 ?_;refine dnS [] id () trivial [] uRa_0 uRa_0 uRa_0 uRa_0
        ·try simp only[dQ,reduceIte]at hb27
         iterate 3 refine z4n ?_
         refine zng ?_;refine s_n K5 ?_;refine dnS [] id () trivial [] uRa_0 uRa_0 uRa_0 uRa_0
  ·intro u hu
   clear hu;refine z06 (b:=_) rfl (fun h_t43=>?_) (fun h_t43=>?_)
   ·try simp only[dQ,reduceIte]at h_t43
    refine srR g0_ok fun _ K7=>?_;refine zng ?_;refine s_n K7 ?_;refine z0b (z02 g0_ok (fun _ _ h=>h) (by first|rfl|assumption) [.tmp 2] rfl ?_);refine rtD ?_
    have hk:r.okB=false:=by simpa using h_t43
    show SV.c (.int .i64 1)=_
    rw[zbr,hk];rfl
   ·try simp only[dQ,reduceIte]at h_t43
    refine z0g ?_;apply K4;refine srR g0_ok fun _ K9=>?_;refine zng ?_;refine s_n K9 ?_;refine z0b (z02 g0_ok (fun _ _ h=>h) (by first|rfl|assumption) [.tmp 2] rfl ?_);refine rtD ?_
    have hk:r.okB=true:=by simpa using h_t43
    show SV.c (.int .i64 0)=_
    rw[zbr,hk];rfl

def znt:QSpec:=fun vs K=>∃ (base:Int) (b:UInt8),vs=[.c (.int .i64 base),.c (.u8 b)]∧K (.c (.int .i64 (z5u base b)))
theorem znu:z11 Tryd.prog gl 64 znt:=by
 refine z0u (Γ:=g0) (N:=45) Tryd.func64 rfl rfl fun vs K h=>?_;obtain⟨base,b,rfl,h⟩:=h;refine⟨_,h,rfl,by simp,fun w I=>?_⟩;refine srR g0_ok fun _ K2=>?_;refine zng ?_;refine s_n K2 ?_;refine seq_k fun _ K3=>?_;refine z0a ?_;refine z3a (α:=Unit) (fun _=>[(0,.c (.int .i64 base)),(1,.c (.u8 b)),(5,.c (.bool (dg1 b)))]) (fun _=>[]) 0 (fun _=>True) ?_ ?_
 ·refine z04 g0_ok fun _ K4=>?_
  iterate 2 refine zng ?_
  refine sXEUf_4 ?_;refine exB (fun hb2=>?_) (fun hb2=>?_)
  ·try simp only[dQ,reduceIte]at hb2
   iterate 2 refine z4n ?_
   iterate 2 refine zng ?_
   refine s_n K4 ?_;refine dnS [] id () trivial [] uRa_1 uRa_1 uRa_1 uRa_1
  ·try simp only[dQ,reduceIte]at hb2
   iterate 2 refine sN ?_
   iterate 2 refine zng ?_
   refine s_n K4 ?_;refine dnS [] id () trivial [] uRa_1 uRa_1 uRa_1 uRa_1
 ·intro u hu
  clear hu;refine z06 (b:=_) rfl (fun h_t5=>?_) (fun h_t5=>?_)
  ·refine srR g0_ok fun _ K6=>?_
   iterate 4 refine zng ?_
   refine s_n K6 ?_;refine z0b (z02 g0_ok (fun _ _ h=>h) (by first|rfl|assumption) [.tmp 4] rfl ?_);refine rtD ?_
   show SV.c (.int .i64 _)=_
   rw[z5u,if_pos h_t5];all_goals rfl
  ·refine z3a (α:=Unit) (fun _=>[(0,.c (.int .i64 base)),(1,.c (.u8 b)),(15,.c (.bool (dg2 base b)))]) (fun _=>[]) 0 (fun _=>True) ?_ ?_
   ·refine z04 g0_ok fun _ K7=>?_
    iterate 2 refine zng ?_
    refine sXEUf_4 ?_;refine exB (fun hb2=>?_) (fun hb2=>?_)
    ·try simp only[dQ,reduceIte]at hb2
     iterate 2 refine z4n ?_
     refine zng ?_;refine sXEUf_4 ?_;refine exB (fun hb6=>?_) (fun hb6=>?_)
     ·try simp only[dQ,reduceIte]at hb6
      iterate 2 refine z4n ?_
      iterate 2 refine zng ?_
      refine s_n K7 ?_;refine dnS [] id () trivial [] uRa_1 uRa_1 uRa_1 uRa_1
     ·try simp only[dQ,reduceIte]at hb6
      iterate 2 refine sN ?_
      iterate 2 refine zng ?_
      refine s_n K7 ?_;refine dnS [] id () trivial [] uRa_1 uRa_1 uRa_1 uRa_1
    ·try simp only[dQ,reduceIte]at hb2
     iterate 2 refine sN ?_
     refine zng ?_;refine sXEUf_4 ?_;refine exB (fun hb6=>?_) (fun hb6=>?_)
     ·exfalso;simp at hb6
     iterate 2 refine sN ?_
     iterate 2 refine zng ?_
     refine s_n K7 ?_;refine dnS [] id () trivial [] uRa_1 uRa_1 uRa_1 uRa_1
   ·intro u hu
    clear hu;refine z06 (b:=_) rfl (fun h_t15=>?_) (fun h_t15=>?_)
    ·have hub:=(b - UInt8.ofNat (Int.toNat 97)).toNat_lt
     refine srR g0_ok fun _ K9=>?_
     iterate 5 refine zng ?_
     refine s_n K9 ?_;refine z0b (z02 g0_ok (fun _ _ h=>h) (by first|rfl|assumption) [.tmp 4] rfl ?_);refine rtD ?_
     show SV.c (.int .i64 _)=_
     rw[z5u,if_neg (by rw[h_t5];decide),if_pos h_t15];all_goals rfl
    ·refine z3a (α:=Unit) (fun _=>[(0,.c (.int .i64 base)),(1,.c (.u8 b)),(30,.c (.bool (dg3 base b)))]) (fun _=>[]) 0 (fun _=>True) ?_ ?_
     ·refine z04 g0_ok fun _ K10=>?_
      iterate 2 refine zng ?_
      refine sXEUf_4 ?_;refine exB (fun hb2=>?_) (fun hb2=>?_)
      ·try simp only[dQ,reduceIte]at hb2
       iterate 2 refine z4n ?_
       refine zng ?_;refine sXEUf_4 ?_;refine exB (fun hb6=>?_) (fun hb6=>?_)
       ·try simp only[dQ,reduceIte]at hb6
        iterate 2 refine z4n ?_
        iterate 2 refine zng ?_
        refine s_n K10 ?_;refine dnS [] id () trivial [] uRa_1 uRa_1 uRa_1 uRa_1
       ·try simp only[dQ,reduceIte]at hb6
        iterate 2 refine sN ?_
        iterate 2 refine zng ?_
        refine s_n K10 ?_;refine dnS [] id () trivial [] uRa_1 uRa_1 uRa_1 uRa_1
      ·try simp only[dQ,reduceIte]at hb2
       iterate 2 refine sN ?_
       refine zng ?_;refine sXEUf_4 ?_;refine exB (fun hb6=>?_) (fun hb6=>?_)
       ·exfalso;simp at hb6
       iterate 2 refine sN ?_
       iterate 2 refine zng ?_
       refine s_n K10 ?_;refine dnS [] id () trivial [] uRa_1 uRa_1 uRa_1 uRa_1
     ·intro u hu
      clear hu;refine z06 (b:=_) rfl (fun h_t30=>?_) (fun h_t30=>?_)
      ·have hub:=(b - UInt8.ofNat (Int.toNat 65)).toNat_lt
       refine srR g0_ok fun _ K12=>?_
       iterate 5 refine zng ?_
       refine s_n K12 ?_;refine z0b (z02 g0_ok (fun _ _ h=>h) (by first|rfl|assumption) [.tmp 4] rfl ?_);refine rtD ?_
       show SV.c (.int .i64 _)=_
       rw[z5u,if_neg (by rw[h_t5];decide),if_neg (by rw[h_t15];decide),if_pos h_t30];all_goals rfl
      ·refine z0g ?_;refine z08 ?_;apply K3
       refine srR g0_ok fun _ K14=>?_;refine zng ?_;refine s_n K14 ?_;refine z0b (z02 g0_ok (fun _ _ h=>h) (by first|rfl|assumption) [.tmp 4] rfl ?_);refine rtD ?_
       show SV.c (.int .i64 _)=_
       rw[z5u,if_neg (by rw[h_t5];decide),if_neg (by rw[h_t15];decide),if_neg (by rw[h_t30];decide)]


end Go.Proofs.YtegdcifghaldoaaDoor

namespace Go.Proofs.YtegdcifghaldoaaDoor
set_option linter.all false
open Go.Ab Go.RowKit

section
variable {a b:Prop}
theorem qRb0(h:a:=by first|exact vcA|(simp<;>omega)|exact⟨by omega,by omega⟩|exact vcB):a:=h
theorem uRb_0(h:a:=by
    repeat' (first|exact pT|exact trivial|refine aI ?_ ?_|exact cC0|refine low_cons' ?_ ?_|exact cC1|fail)
    all_goals first|omega|(show(_:Int)=min _ _;split<;>omega)|(show(_:Bool)=if s.digits=0 then decide (d=0)else s.zero;first|(rw[if_pos h_t9];done)|(rw[if_neg h_t9];done))|(rw[zbs,if_pos h_t9];first|exact⟨rfl,rfl⟩|exact trivial|rfl)|(rw[zbs,if_neg h_t9];first|exact⟨rfl,rfl⟩|exact trivial|rfl)|(simp;done)|(show(0:Nat)< (z0z _ _ _ _).length;rw[z0t hcl];decide)|(simp[-List.reduceReplicate];done)|(simp[-List.reduceReplicate]<;>omega)|skip):a:=h
theorem DRb_0(kZ:b)(h:HidB b→a:=by intro kZ;(repeat first|refine aI qRb0 ?_|refine z0d qRb0 ?_|refine z09 qRb0 ?_|refine z0p qRb0 ?_|refine z0e ?_);exact kZ.out):a:=h ⟨kZ⟩
theorem znv(kZ:b)(h:HidB b→a:=by intro kZ;refine sX ?_;refine DRb_0 ?_;refine exI ?_;exact kZ.out):a:=h ⟨kZ⟩
theorem sX0Rb_2(kZ:b)(h:HidB b→a:=by intro kZ;refine sX0 ?_;refine DRb_0 ?_;refine exI ?_;exact kZ.out):a:=h ⟨kZ⟩
theorem dXRb_3(kZ:b)(h:HidB b→a:=by intro kZ;refine dX ?_;refine DRb_0 ?_;refine exI ?_;exact kZ.out):a:=h ⟨kZ⟩
theorem znw(kZ:b)(h:HidB b→a:=by intro kZ;refine gX0 ?_;refine DRb_0 ?_;refine exI ?_;exact kZ.out):a:=h ⟨kZ⟩
end
theorem zbs(r:Rul)(s:Sta)(d:Int):(zct r s d).zero=if s.digits=0 then decide (d=0)else s.zero:=rfl
theorem zhh(s:Sta):SV.low 0 (staV s):=low_cons' trivial (low_cons' trivial (low_cons' trivial (low_cons' trivial low_nil')))
def nextNS:QSpec:=fun vs K=>∃ (r:Rul) (s:Sta) (d:Int),vs=[rulV r,staV s,.c (.int .i64 d)]∧(r.ok∧s.ok∧0≤d∧d≤15)∧K (staV (zct r s d))
theorem nextN_ok:z3u Tryd.prog gl 65 nextNS:=by
 refine z3p (Γ:=g0) (N:=39) Tryd.func65 rfl rfl fun vs K h=>?_;obtain⟨r,s,d,rfl,⟨hr,hs,hd0,hd15⟩,h⟩:=h;refine⟨_,h,zhh _,by simp,fun w I=>?_⟩;refine srR g0_ok fun _ K2=>?_
 iterate 3 refine znv ?_
 refine s_n K2 ?_;refine seq_k fun _ K3=>?_;refine srR g0_ok fun _ K5=>?_
 iterate 3 refine znv ?_
 refine s_n K5 ?_;refine z06 (b:=_) rfl (fun h_t9=>?_) (fun h_t9=>?_)
 ·try simp only[dQ,reduceIte]at h_t9
  refine z04 g0_ok fun _ K6=>?_
  iterate 3 refine znv ?_
  refine sX0Rb_2 ?_;refine s_n K6 ?_;apply K3
  have hbase:=hr.base
  have ht1:=hr.t1
  have ht2:=hr.t2
  obtain⟨k1,k2,k3,k4,k5,k6⟩:=hs
  have hnb:0≤s.n*r.base∧s.n*r.base≤816:=by
   rcases hbase with e|e<;>rw[e]<;>omega
  have hmb:0≤s.mod*r.base∧s.mod*r.base≤800:=by
   rcases hbase with e|e<;>rw[e]<;>omega
  refine srD g0_ok [(0,true),(1,true),(2,true),(3,true),(4,true),(5,true),(6,true),(7,true),(8,true),(9,true),(10,true),(11,true),(12,true),(13,true),(14,true),(15,true),(16,true),(17,true),(18,true),(19,true),(20,true),(21,true),(22,true),(23,true),(24,true),(25,true),(26,false)] rfl kQf kQf fun _ K8=>?_
  iterate 26 refine dXRb_3 ?_
  refine znw ?_;refine d_n K8 ?_;refine z0b (z19 g0_ok (fun _ _ h=>h) (zhh _) [] [.cell 6 134] rfl ?_)
  all_goals exact uRb_0
 ·try simp only[dQ,reduceIte]at h_t9
  refine z0g ?_;apply K3
  have hbase:=hr.base
  have ht1:=hr.t1
  have ht2:=hr.t2
  obtain⟨k1,k2,k3,k4,k5,k6⟩:=hs
  have hnb:0≤s.n*r.base∧s.n*r.base≤816:=by
   rcases hbase with e|e<;>rw[e]<;>omega
  have hmb:0≤s.mod*r.base∧s.mod*r.base≤800:=by
   rcases hbase with e|e<;>rw[e]<;>omega
  refine srD g0_ok [(0,true),(1,true),(2,true),(3,true),(4,true),(5,true),(6,true),(7,true),(8,true),(9,true),(10,true),(11,true),(12,true),(13,true),(14,true),(15,true),(16,true),(17,true),(18,true),(19,true),(20,true),(21,true),(22,true),(23,true),(24,true),(25,true),(26,false)] rfl kQf kQf fun _ K10=>?_
  iterate 26 refine dXRb_3 ?_
  refine znw ?_;refine d_n K10 ?_;refine z0b (z19 g0_ok (fun _ _ h=>h) (zhh _) [] [.cell 6 134] rfl ?_)
  all_goals exact uRb_0


end Go.Proofs.YtegdcifghaldoaaDoor

namespace Go.Proofs.YtegdcifghaldoaaDoor
set_option linter.all false
open Go.Ab Go.RowKit

section
variable {a b:Prop}
theorem uRc_0(h:a:=by
    repeat' (first|exact pT|exact trivial|refine aI ?_ ?_|exact cC0|refine low_cons' ?_ ?_|exact cC1|fail)
    all_goals first|omega|(show(_:Bool)=vz r s;unfold vz;first|(rw[decide_eq_true hb3];rfl)|(rw[decide_eq_false hb3,hb6,hb11];simp;done)|(rw[decide_eq_false hb3,hb6];simp[hb11];done)|(rw[decide_eq_false hb3,hb6];rfl)|(simp[hb3,hb6,hb11];done)|(simp[hb3,hb6,Int.not_lt.2 hb11];done)|(simp[hb3,hb6];done)|(simp[hb3,hb6];omega))|(show(_:Bool)=vf r s;unfold vf;first|(rw[decide_eq_true hb5];rfl)|(rw[decide_eq_false (by omega)];rfl)|(simp[hb5];done))|(simp;done)|(show(0:Nat)< (z0z _ _ _ _).length;rw[z0t hcl];decide)|(simp[-List.reduceReplicate];done)|(simp[-List.reduceReplicate]<;>omega)|skip):a:=h
theorem uRc_1(h:a:=by
    repeat' (first|exact pT|exact trivial|refine aI ?_ ?_|exact cC0|refine low_cons' ?_ ?_|exact cC1|fail)
    all_goals first|omega|(show(_:Int)=(z6j r s).1;rw[hve];done)|(show(_:Bool)=(z6j r s).2;rw[hve];done)|(rw[hve];first|rfl|exact⟨rfl,rfl⟩|exact trivial)|(simp;done)|(show(0:Nat)< (z0z _ _ _ _).length;rw[z0t hcl];decide)|(simp[-List.reduceReplicate];done)|(simp[-List.reduceReplicate]<;>omega)|skip):a:=h
theorem zdq(kZ:b)(h:HidB b→a:=by intro kZ;refine sXT ?_;refine DUf_0 ?_;exact kZ.out):a:=h ⟨kZ⟩
end
def vz(r:Rul)(s:Sta):Bool:=decide (s.digits=0)||((s.zero&&decide (1< s.digits))&& !r.zeros)
def vf(r:Rul)(s:Sta):Bool:=decide (s.digits≤r.digits)&&decide (s.n≤r.top)
theorem z8l(r:Rul)(s:Sta):z6j r s=if vz r s=true then(0,false)else if vf r s=true then(s.n,true)else if r.over=2 then(s.mod,true)else if r.over=1 then(r.top,true) else(0,false):=by
  unfold z6j vz vf
  simp only[Bool.or_eq_true,Bool.and_eq_true,decide_eq_true_eq,Bool.not_eq_true',and_assoc]
abbrev valV(v:Int×Bool):SV:=.tup [.c (.int .i64 v.1),.c (.bool v.2)]
theorem z56(v:Int×Bool):SV.low 0 (valV v):=List.forall_mem_cons.2 ⟨trivial,List.forall_mem_cons.2 ⟨trivial,fun _ h=>by cases h⟩⟩
def zny:QSpec:=fun vs K=>∃ (r:Rul) (s:Sta),vs=[rulV r,staV s]∧K (valV (z6j r s))
theorem znz:z3u Tryd.prog gl 66 zny:=by
 refine z3p (Γ:=g0) (N:=51) Tryd.func66 rfl rfl fun vs K h=>?_;obtain⟨r,s,rfl,h⟩:=h;refine⟨_,h,z56 _,by simp,fun w I=>?_⟩;refine srR g0_ok fun _ K2=>?_
 iterate 4 refine zng ?_
 refine s_n K2 ?_;refine seq_k fun _ K3=>?_;refine z3a (α:=Unit) (fun _=>[(2,.c (.dp (rulC r) 0)),(3,.c (.dp (staC s) 0)),(24,.c (.bool (vz r s)))]) (fun _=>[]) 0 (fun _=>True) ?_ ?_
 ·refine z04 g0_ok fun _ K4=>?_
  iterate 3 refine zng ?_
  refine sXEUf_4 ?_;refine exB (fun hb3=>?_) (fun hb3=>?_)
  ·try simp only[dQ,reduceIte]at hb3
   iterate 3 refine sN ?_
   iterate 3 refine sU ?_
   iterate 2 refine sN ?_
   iterate 3 refine sU ?_
   refine sN ?_;refine zng ?_;refine s_n K4 ?_;refine dnS [0,1] id () trivial [] uRc_0 uRc_0 uRc_0 uRc_0
  ·try simp only[dQ,reduceIte]at hb3
   iterate 2 refine z4n ?_
   refine zdq ?_;refine exB (fun hb6=>?_) (fun hb6=>?_)
   ·try simp only[dQ,reduceIte]at hb6
    iterate 4 refine z4n ?_
    refine zdq ?_;refine exB (fun hb11=>?_) (fun hb11=>?_)
    ·try simp only[dQ,reduceIte]at hb11
     iterate 4 refine z4n ?_
     refine zng ?_;refine s_n K4 ?_;refine dnS [0,1] id () trivial [] uRc_0 uRc_0 uRc_0 uRc_0
    ·try simp only[dQ,reduceIte]at hb11
     iterate 3 refine sN ?_
     refine z4n ?_;refine zng ?_;refine s_n K4 ?_;refine dnS [0,1] id () trivial [] uRc_0 uRc_0 uRc_0 uRc_0
   ·try simp only[dQ,reduceIte]at hb6
    iterate 3 refine sN ?_
    refine z4n ?_;refine zdq ?_;refine exB (fun hb11=>?_) (fun hb11=>?_)
    ·exfalso;simp at hb11
    iterate 3 refine sN ?_
    refine z4n ?_;refine zng ?_;refine s_n K4 ?_;refine dnS [0,1] id () trivial [] uRc_0 uRc_0 uRc_0 uRc_0
 ·intro u hu
  clear hu;refine z06 (b:=_) rfl (fun h_t24=>?_) (fun h_t24=>?_)
  ·refine srR g0_ok fun _ K6=>?_
   iterate 2 refine zng ?_
   refine s_n K6 ?_;refine z0b (z19 g0_ok (fun _ _ h=>h) (z56 _) [] [.tmp 4,.tmp 5] rfl ?_)
   have hve:z6j r s=_:=z8l r s
   rw[if_pos h_t24]at hve
   all_goals exact uRc_1
  ·refine z0g ?_;apply K3;refine seq_k fun _ K7=>?_
   refine z3a (α:=Unit) (fun _=>[(2,.c (.dp (rulC r) 0)),(3,.c (.dp (staC s) 0)),(36,.c (.bool (vf r s)))]) (fun _=>[]) 0 (fun _=>True) ?_ ?_
   ·refine z04 g0_ok fun _ K8=>?_
    iterate 5 refine zng ?_
    refine sXEUf_4 ?_;refine exB (fun hb5=>?_) (fun hb5=>?_)
    ·try simp only[dQ,reduceIte]at hb5
     iterate 5 refine z4n ?_
     refine zng ?_;refine s_n K8 ?_;refine dnS [] id () trivial [] uRc_0 uRc_0 uRc_0 uRc_0
    ·try simp only[dQ,reduceIte]at hb5
     iterate 5 refine sN ?_
     refine zng ?_;refine s_n K8 ?_;refine dnS [] id () trivial [] uRc_0 uRc_0 uRc_0 uRc_0
   ·intro u hu
    clear hu;refine z06 (b:=_) rfl (fun h_t36=>?_) (fun h_t36=>?_)
    ·refine srR g0_ok fun _ K10=>?_
     iterate 4 refine zng ?_
     refine s_n K10 ?_;refine z0b (z19 g0_ok (fun _ _ h=>h) (z56 _) [] [.tmp 4,.tmp 5] rfl ?_)
     have hve:z6j r s=_:=z8l r s
     rw[if_neg (by rw[h_t24];decide),if_pos h_t36]at hve
     all_goals exact uRc_1
    ·refine z0g ?_;apply K7
     refine srR g0_ok fun _ K12=>?_
     iterate 4 refine zng ?_
     refine s_n K12 ?_;refine seq_k fun _ K13=>?_;refine srR g0_ok fun _ K15=>?_
     iterate 2 refine zng ?_
     refine s_n K15 ?_;refine z0a ?_;refine seq_k fun _ K16=>?_;refine z0a ?_;refine seq_k fun _ K17=>?_;refine z0a ?_;refine seq_k fun _ K18=>?_;refine z0a ?_;refine seq_k fun _ K19=>?_;refine seq_k fun _ K20=>?_;refine srR g0_ok fun _ K22=>?_
     iterate 2 refine zng ?_
     refine s_n K22 ?_;refine z06 (b:=_) rfl (fun h_t43=>?_) (fun h_t43=>?_)
     ·try simp only[dQ,reduceIte]at h_t43
      refine z0y ?_;refine z03 ?_;refine z03 ?_;refine z0s ?_;apply K18;refine z04 g0_ok fun _ K23=>?_
      iterate 3 refine zng ?_
      refine s_n K23 ?_;refine z08 ?_;apply K17;refine srR g0_ok fun _ K25=>?_;refine zng ?_;refine s_n K25 ?_;refine z0y ?_;refine z5q (by decide) ?_;refine z03 ?_;refine z0s ?_;apply K13;refine srR g0_ok fun _ K27=>?_
      iterate 4 refine zng ?_
      refine s_n K27 ?_;refine z0b (z19 g0_ok (fun _ _ h=>h) (z56 _) [] [.tmp 4,.tmp 5] rfl ?_)
      have hve:z6j r s=_:=z8l r s
      rw[if_neg (by rw[h_t24];decide),if_neg (by rw[h_t36];decide),if_pos (by first|exact h_t43|omega)]at hve
      all_goals exact uRc_1
     ·try simp only[dQ,reduceIte]at h_t43
      refine z0g ?_;apply K20;refine srR g0_ok fun _ K29=>?_
      iterate 2 refine zng ?_
      refine s_n K29 ?_;refine z06 (b:=_) rfl (fun h_t45=>?_) (fun h_t45=>?_)
      ·try simp only[dQ,reduceIte]at h_t45
       refine z0y ?_;refine z03 ?_;refine z5q (by decide) ?_;refine z03 ?_;refine z0s ?_;apply K17;refine srR g0_ok fun _ K31=>?_;refine zng ?_;refine s_n K31 ?_;refine z0y ?_;refine z5q (by decide) ?_;refine z03 ?_;refine z0s ?_;apply K13;refine srR g0_ok fun _ K33=>?_
       iterate 4 refine zng ?_
       refine s_n K33 ?_;refine z0b (z19 g0_ok (fun _ _ h=>h) (z56 _) [] [.tmp 4,.tmp 5] rfl ?_)
       have hve:z6j r s=_:=z8l r s
       rw[if_neg (by rw[h_t24];decide),if_neg (by rw[h_t36];decide),if_neg (by omega),if_pos (by omega)]at hve
       all_goals exact uRc_1
      ·try simp only[dQ,reduceIte]at h_t45
       refine z0g ?_;apply K19;refine z0y ?_;refine z5q (by decide) ?_;refine z03 ?_;refine z5q (by decide) ?_;refine z03 ?_;refine z0s ?_;apply K16;refine srR g0_ok fun _ K35=>?_;refine zng ?_;refine s_n K35 ?_;refine z0y ?_;refine z0s ?_;apply K13;refine srR g0_ok fun _ K37=>?_
       iterate 4 refine zng ?_
       refine s_n K37 ?_;refine z0b (z19 g0_ok (fun _ _ h=>h) (z56 _) [] [.tmp 4,.tmp 5] rfl ?_)
       have hve:z6j r s=_:=z8l r s
       rw[if_neg (by rw[h_t24];decide),if_neg (by rw[h_t36];decide),if_neg (by omega),if_neg (by omega)]at hve
       all_goals exact uRc_1


end Go.Proofs.YtegdcifghaldoaaDoor

namespace Go.Proofs.YtegdcifghaldoaaDoor
set_option linter.all false
open Go.Ab Go.RowKit

theorem uRd_0{a:Prop}(h:a:=by
    repeat' (first|exact pT|exact trivial|refine aI ?_ ?_|exact cC0|refine low_cons' ?_ ?_|exact cC1|fail)
    all_goals first|omega|exact z56 _|(show(_:Int)=(readN r l).1;rw[hre];done)|(show(_:Bool)=(readN r l).2;rw[hre];done)|(rw[hre];first|rfl|exact⟨rfl,rfl⟩|exact trivial)|(simp;done)|(show(0:Nat)< (z0z _ _ _ _).length;rw[z0t hcl];decide)|(simp[-List.reduceReplicate];done)|(simp[-List.reduceReplicate]<;>omega)|skip):a:=h
theorem zbt{a b:Prop}(kZ:b)(h:HidB b→a:=by intro kZ;refine sX ?_;refine DRb_0 ?_;exact kZ.out):a:=h ⟨kZ⟩

open Go.Aut
def sta0:Sta:=⟨0,false,0,0⟩
def stepO(r:Rul)(o:Option Sta)(b:UInt8):Option Sta:=match o with
  |none=>none
  |some s=>if z5u r.base b< 0 then none else some (zct r s (z5u r.base b))
def readK(r:Rul)(l:List UInt8):Option Sta:=l.foldl (stepO r) (some sta0)
def readN(r:Rul)(l:List UInt8):Int×Bool:=if r.okB=true then(match readK r l with
  |none=>(0,false)
  |some s=>z6j r s) else(0,false)
theorem sta0_ok:sta0.ok:=by refine⟨?_,?_,?_,?_,?_,?_⟩<;>decide
theorem digit_le (base:Int) (b:UInt8):z5u base b≤15:=by
  unfold z5u
  split
  · rename_i h
    simp only[dg1,Bool.and_eq_true,decide_eq_true_eq]at h
    have h1:=UInt8.le_iff_toNat_le.1 h.1
    have h2:=UInt8.le_iff_toNat_le.1 h.2
    have:(b - 48).toNat=b.toNat - 48:=UInt8.toNat_sub_of_le _ _ h.1
    have e1:(48:UInt8).toNat=48:=rfl
    have e2:(57:UInt8).toNat=57:=rfl
    omega
  · split
    · rename_i h
      simp only[dg2,Bool.and_eq_true,decide_eq_true_eq]at h
      have h2:=UInt8.le_iff_toNat_le.1 h.2
      have:(b - 97).toNat=b.toNat - 97:=UInt8.toNat_sub_of_le _ _ h.1.2
      have e2:(102:UInt8).toNat=102:=rfl
      omega
    · split
      · rename_i h
        simp only[dg3,Bool.and_eq_true,decide_eq_true_eq]at h
        have h2:=UInt8.le_iff_toNat_le.1 h.2
        have:(b - 65).toNat=b.toNat - 65:=UInt8.toNat_sub_of_le _ _ h.1.2
        have e2:(70:UInt8).toNat=70:=rfl
        omega
      · omega
theorem zfo(r:Rul):∀ l:List UInt8,l.foldl (stepO r) none=none
  |[]=>rfl
  |_::l=>zfo r l
theorem zcu{r:Rul}{l:List UInt8}{i:Nat}(h:i< l.length):readK r (l.take (i+1))=stepO r (readK r (l.take i)) (l.getD i 0):=by
  rw[readK,readK,List.take_add_one,List.getElem?_eq_getElem h,List.foldl_append,z6b h];rfl
theorem zo0{r:Rul}{l:List UInt8}{i:Nat}(h:readK r (l.take i)=none):readK r l=none:=by
  rw[readK, ←List.take_append_drop i l,List.foldl_append];rw[readK]at h;rw[h,zfo]
noncomputable def gr1:Ctx:={ P:=Tryd.prog,ty:=ty,glob:=gl,fs:=[(63,.flat zhg),(64,.flat znt),(65,.data nextNS),(66,.data zny)] }
theorem z4v:gr1.OK:=⟨tyOK,⟨⟨z07 Tryd.func63 kQf rfl,zfn⟩,⟨z07 Tryd.func64 kQf rfl,znu⟩,⟨z07 Tryd.func65 kQf rfl,nextN_ok⟩,⟨z07 Tryd.func66 kQf rfl,znz⟩,trivial⟩,mixed⟩
@[simp] theorem gr1_ty:gr1.ty=ty:=rfl

def readNS:QSpec:=fun vs K=>∃ (r:Rul) (l:List UInt8),vs=[rulV r,.c (.ds l.length (.u8s l))]∧l.length≤9223372036854775807∧K (valV (readN r l))
theorem readN_ok:z3u Tryd.prog gl 29 readNS:=by
 refine z3p (Γ:=gr1) (N:=35) Tryd.func29 rfl rfl fun vs K h=>?_;obtain⟨r,l,rfl,hl,h⟩:=h;refine⟨_,h,z56 _,by simp,fun w I=>?_⟩;refine srR z4v fun _ K2=>?_
 iterate 3 refine znv ?_
 refine s_n K2 ?_;refine seq_k fun _ K3=>?_;refine srR z4v fun _ K5=>?_;refine znv ?_;refine zbt ?_;refine⟨r,rfl,?_⟩;refine DRb_0 ?_
 first|refine exI ?_|(intro cap1 hcap1;refine exI ?_)
 refine znv ?_;refine s_n K5 ?_;refine z06 (b:=_) rfl (fun h_t12=>?_) (fun h_t12=>?_)
 ·try simp only[dQ,reduceIte]at h_t12
  refine srR z4v fun _ K7=>?_
  iterate 2 refine znv ?_
  refine s_n K7 ?_
  have hre:readN r l=(0,false):=by
   rw[readN,if_neg];intro e
   rw[zbr,if_pos e]at h_t12;first|omega|(simp at h_t12;done)|exact h_t12 rfl
  refine z0b (z19 z4v (fun _ _ h=>h) (z56 _) [] [.tmp 4,.tmp 5] rfl ?_)
  all_goals exact uRd_0
 ·try simp only[dQ,reduceIte]at h_t12
  refine z0g ?_;apply K3
  have hok:r.okB=true:=by
   rw[zbr]at h_t12
   by_cases e:r.okB=true
   ·exact e
   ·rw[if_neg e]at h_t12;first|(exfalso;omega)|(simp at h_t12)
  have hr:=okB_iff.1 hok
  refine srR z4v fun _ K9=>?_;refine znv ?_;refine s_n K9 ?_;refine seq_k fun _ K10=>?_;refine srR z4v fun _ K12=>?_
  iterate 3 refine znv ?_
  refine s_n K12 ?_;refine z0a ?_;refine z13 (α:=Nat×Sta) (fun g=>[(2,.c (.dp (rulC r) 0)),(6,.c (.ptr 0 0)),(13,.c (.ds l.length (.u8s l))),(14,.c (.int .i64 (l.length:Nat))),(15,.c (.int .i64 (g.1:Nat)))]) (fun g=>[(0,.own 134 (staC g.2) 4)]) 1 (fun g=>g.1≤l.length∧readK r (l.take g.1)=some g.2∧g.2.ok) (fun g=>l.length - g.1) ?_ ?_
  ·refine dnS [0] (fun i=>i+1) (0,sta0) ⟨Nat.zero_le _,rfl,sta0_ok⟩ [1] uRd_0 uRd_0 uRd_0 uRd_0
  ·intro g hg
   refine srR z4v fun _ K14=>?_;refine znv ?_;refine s_n K14 ?_;refine seq_k fun _ K15=>?_;refine z06 (b:=_) rfl (fun h_t16=>?_) (fun h_t16=>?_)
   ·try simp only[dQ,reduceIte]at h_t16
    refine z0g ?_;apply K15;refine seq_k fun _ K16=>?_;refine z0a ?_
    have hil:g.1< l.length:=by omega
    refine srR z4v fun _ K18=>?_;refine znv ?_;refine zbt ?_;refine exA (.c (.u8 (l.getD g.1 0))) (as_eq (congrArg (fun v=>SV.c (Cell.u8 v)) (congrArg (fun i=>l.getD i 0) (by omega)))) ?_;refine znv ?_;refine s_n K18 ?_;refine srR z4v fun _ K20=>?_
    iterate 3 refine znv ?_
    refine zbt ?_;refine⟨r.base,l.getD g.1 0,rfl,?_⟩;refine DRb_0 ?_
    first|refine exI ?_|(intro cap3 hcap3;refine exI ?_)
    refine znv ?_;refine s_n K20 ?_;refine seq_k fun _ K21=>?_;refine srR z4v fun _ K23=>?_
    iterate 2 refine znv ?_
    refine s_n K23 ?_;refine z06 (b:=_) rfl (fun h_t24=>?_) (fun h_t24=>?_)
    ·try simp only[dQ,reduceIte]at h_t24
     refine srR z4v fun _ K25=>?_
     iterate 2 refine znv ?_
     refine s_n K25 ?_
     have hre:readN r l=(0,false):=by
      rw[readN,if_pos hok,zo0 (i:=g.1+1)];rw[zcu hil,hg.2.1];exact if_pos (by omega)
     refine z0b (z19 z4v (fun _ _ h=>h) (z56 _) [] [.tmp 4,.tmp 5] rfl ?_)
     all_goals exact uRd_0
    ·try simp only[dQ,reduceIte]at h_t24
     refine z0g ?_;apply K21
     have hd0:0≤z5u r.base (l.getD g.1 0):=by omega
     have hst:readK r (l.take (g.1+1))=some (zct r g.2 (z5u r.base (l.getD g.1 0))):=by
      rw[zcu hil,hg.2.1];exact if_neg (by omega)
     refine z04 z4v fun _ K26=>?_
     iterate 3 refine znv ?_
     refine zbt ?_;refine⟨r,g.2,z5u r.base (l.getD g.1 0),rfl,⟨hr,hg.2.2,hd0,digit_le _ _⟩,?_⟩;refine DRb_0 ?_
     first|refine exI ?_|(intro cap3 hcap3;refine exI ?_)
     refine sX0Rb_2 ?_;refine s_n K26 ?_;refine z08 ?_;apply K16;refine z04 z4v fun _ K27=>?_
     iterate 2 refine znv ?_
     refine s_n K27 ?_;refine dnS [] id (g.1+1,zct r g.2 (z5u r.base (l.getD g.1 0))) ⟨⟨by omega,hst,next_ok hr hg.2.2 hd0⟩,by omega⟩ [0] uRd_0 uRd_0 uRd_0 uRd_0
   ·try simp only[dQ,reduceIte]at h_t16
    refine z0y ?_;refine z03 ?_;refine z03 ?_;refine z0s ?_;apply K10
    obtain hgl:g.1=l.length:=by omega
    have hk:readK r l=some g.2:=by have:=hg.2.1;rwa [hgl,List.take_length]at this
    have hre:readN r l=z6j r g.2:=by rw[readN,if_pos hok,hk]
    refine srR z4v fun _ K29=>?_
    iterate 2 refine znv ?_
    refine zbt ?_;refine⟨r,g.2,rfl,?_⟩;refine DRb_0 ?_
    first|refine exI ?_|(intro cap2 hcap2;refine exI ?_)
    iterate 4 refine znv ?_
    refine s_n K29 ?_

    refine z0b (z19 z4v (fun _ _ h=>h) (z56 _) [] [.tmp 4,.tmp 5] rfl ?_)
    all_goals exact uRd_0


end Go.Proofs.YtegdcifghaldoaaDoor
