/- Contracts of functions and plain facts, part 14. -/
import Derived.Test.YtppmnaoollkboaaDoorQd
import Derived.Test.YtppmnaoollkboaaDoorQb
import Derived.Test.YtppmnaoollkboaaDoorQh
import Derived.Test.YtppmnaoollkboaaDoorQc
set_option maxHeartbeats 1000000
set_option maxRecDepth 4000
namespace Go.Proofs.YtppmnaoollkboaaDoor
set_option linter.all false
open Go.Ab Go.RowKit

section
variable {a b:Prop}
theorem uRa_0(h:a:=by
    repeat' (first|exact pT|exact trivial|refine aI ?_ ?_|exact cC0|refine low_cons' ?_ ?_|exact cC1|fail)
    all_goals first|omega|(show(_:Bool)=_;first|(simp[baseB,hb3];done)|(rw[show r.okB=decide (r.over≤2) by simp[Rul.okB,hb2,hb7,hb12,hb17,hb22,hb27]];by_cases e9:r.over≤2<;>simp[e9]<;>omega)|(simp[Rul.okB, *];done))|(simp;done)|(show(0:Nat)< (z08 _ _ _ _).length;rw[z06 hcl];decide)|(simp[-List.reduceReplicate];done)|(simp[-List.reduceReplicate]<;>omega)|skip):a:=h
theorem uRa_1(h:a:=by
    repeat' (first|exact pT|exact trivial|refine aI ?_ ?_|exact cC0|refine low_cons' ?_ ?_|exact cC1|fail)
    all_goals first|omega|(show(_:Bool)=dg1 b;unfold dg1;first|(rw[decide_eq_true (show(48:UInt8)≤b from hb2)];rfl)|(rw[decide_eq_false (show ¬ (48:UInt8)≤b from hb2)];rfl))|(show(_:Bool)=_;unfold dg2;first|(rw[decide_eq_true (show base=16 from hb2),decide_eq_true (show(97:UInt8)≤b from hb6)];rfl)|(rw[decide_eq_true (show base=16 from hb2),decide_eq_false (show ¬ (97:UInt8)≤b from hb6)];rfl)|(rw[decide_eq_false (show ¬ base=16 from hb2)];rfl))|(show(_:Bool)=_;unfold dg3;first|(rw[decide_eq_true (show base=16 from hb2),decide_eq_true (show(65:UInt8)≤b from hb6)];rfl)|(rw[decide_eq_true (show base=16 from hb2),decide_eq_false (show ¬ (65:UInt8)≤b from hb6)];rfl)|(rw[decide_eq_false (show ¬ base=16 from hb2)];rfl))|(simp;done)|(show(0:Nat)< (z08 _ _ _ _).length;rw[z06 hcl];decide)|(simp[-List.reduceReplicate];done)|(simp[-List.reduceReplicate]<;>omega)|skip):a:=h
theorem z5s(kZ:b)(h:HidB b→a:=by intro kZ;refine sXT ?_;refine DUf_0 ?_;refine exI ?_;exact kZ.out):a:=h ⟨kZ⟩
end
structure Rul where
  base:Int
  digits:Int
  top:Int
  over:Int
  zeros:Bool
abbrev rulC(r:Rul):Cont:=.cells [.int .i64 r.base,.int .i64 r.digits,.int .i64 r.top,.int .i64 r.over,.bool r.zeros]
abbrev rulV(r:Rul):SV:=.agg (rulC r)
structure Sta where
  digits:Int
  zero:Bool
  n:Int
  mod:Int
deriving DecidableEq
abbrev staC(s:Sta):Cont:=.cells [.int .i64 s.digits,.bool s.zero,.int .i64 s.n,.int .i64 s.mod]
abbrev staV(s:Sta):SV:=.agg (staC s)
def baseB(r:Rul):Bool:=decide (r.base=10)||decide (r.base=16)
def Rul.okB(r:Rul):Bool:=baseB r&&decide (1≤r.digits)&&decide (r.digits≤6)&&decide (1≤r.top)&&decide (r.top≤50)&&decide (0≤r.over)&&decide (r.over≤2)
def z6h(r:Rul):Int:=if r.okB=true then 0 else 1
def dg1(b:UInt8):Bool:=decide (48≤b)&&decide (b≤57)
def dg2(base:Int)(b:UInt8):Bool:=(decide (base=16)&&decide (97≤b))&&decide (b≤102)
def dg3(base:Int)(b:UInt8):Bool:=(decide (base=16)&&decide (65≤b))&&decide (b≤70)
def z0t(base:Int)(b:UInt8):Int:=if dg1 b=true then((b - 48).toNat:Int)else if dg2 base b=true then((b - 97).toNat:Int)+10 else if dg3 base b=true then((b - 65).toNat:Int)+10 else -1
def z0w(r:Rul)(s:Sta)(d:Int):Sta:={ digits:=min (s.digits+1) 7,zero:=if s.digits=0 then decide (d=0)else s.zero,n:=min (s.n*r.base+d) 51,mod:=(s.mod*r.base+d)%(r.top+1) }
def z24(r:Rul)(s:Sta):Int×Bool:=
  if s.digits=0∨(s.zero=true∧1< s.digits∧r.zeros=false) then(0,false)
  else if s.digits≤r.digits∧s.n≤r.top then(s.n,true)
  else if r.over=2 then(s.mod,true)else if r.over=1 then(r.top,true) else(0,false)
structure Rul.ok(r:Rul):Prop where
  base:r.base=10∨r.base=16
  d1:1≤r.digits
  d2:r.digits≤6
  t1:1≤r.top
  t2:r.top≤50
  o1:0≤r.over
  o2:r.over≤2
theorem z57{r:Rul}:r.okB=true↔r.ok:=by
  simp only[Rul.okB,baseB,Bool.and_eq_true,Bool.or_eq_true,decide_eq_true_eq]
  exact⟨fun⟨⟨⟨⟨⟨⟨a,b⟩,c⟩,d⟩,e⟩,f⟩,g⟩=>⟨a,b,c,d,e,f,g⟩,fun⟨a,b,c,d,e,f,g⟩=>⟨⟨⟨⟨⟨⟨a,b⟩,c⟩,d⟩,e⟩,f⟩,g⟩⟩
def Sta.ok(s:Sta):Prop:=0≤s.digits∧s.digits≤7∧0≤s.n∧s.n≤51∧0≤s.mod∧s.mod≤50
theorem zgp{r:Rul}{s:Sta}{d:Int}(hr:r.ok)(hs:s.ok)(h0:0≤d):(z0w r s d).ok:=by
 obtain⟨h1,h2,h3,h4,h5,h6⟩:=hs
 have hb:=hr.base
 have ht:=hr.t1
 have ht2:=hr.t2
 have hp:0≤s.n*r.base:=Int.mul_nonneg h3 (by omega)
 have hm1:=Int.emod_nonneg (s.mod*r.base+d) (b:=r.top+1) (by omega)
 have hm2:=Int.emod_lt_of_pos (s.mod*r.base+d) (b:=r.top+1) (by omega)
 refine⟨?_,?_,?_,?_,hm1,?_⟩
 ·show 0≤min (s.digits+1) 7;omega
 ·show min (s.digits+1) 7≤7;omega
 ·show 0≤min (s.n*r.base+d) 51;omega
 ·show min (s.n*r.base+d) 51≤51;omega
 ·show(s.mod*r.base+d)%(r.top+1)≤50;omega
def zar:QSpec:=fun vs K=>∃ r:Rul,vs=[rulV r]∧K (.c (.int .i64 (z6h r)))
theorem z7v:z1s Tryd.prog gl 64 zar:=by
 refine z1r (Γ:=g0) (N:=44) Tryd.func64 rfl rfl fun vs K h=>?_;obtain⟨r,rfl,h⟩:=h;refine⟨_,h,rfl,by simp,fun w I=>?_⟩;refine srR g0_ok fun _ K2=>?_
 iterate 2 refine zby ?_
 refine s_n K2 ?_;refine z27 (α:=Unit) (fun _=>[(1,.c (.dp (rulC r) 0)),(3,.c (.bool (baseB r)))]) (fun _=>[]) 0 (fun _=>True) ?_ ?_
 ·refine z01 g0_ok fun _ K3=>?_
  iterate 3 refine zby ?_
  refine sXEUf_12 ?_;refine exB (fun hb3=>?_) (fun hb3=>?_)
  ·try simp only[dQ,reduceIte]at hb3
   iterate 3 refine sN ?_
   iterate 2 refine zby ?_
   refine s_n K3 ?_;refine dnS [0] id () trivial [] uRa_0 uRa_0 uRa_0 uRa_0
  ·try simp only[dQ,reduceIte]at hb3
   iterate 3 refine z5s ?_
   iterate 2 refine zby ?_
   refine s_n K3 ?_;refine dnS [0] id () trivial [] uRa_0 uRa_0 uRa_0 uRa_0
 ·intro u hu
  clear hu;refine seq_k fun _ K4=>?_;refine z27 (α:=Unit) (fun _=>[(43,.c (.bool (!r.okB)))]) (fun _=>[]) 0 (fun _=>True) ?_ ?_
  ·refine z01 g0_ok fun _ K5=>?_
   iterate 2 refine zby ?_
   refine sXEUf_12 ?_;refine exB (fun hb2=>?_) (fun hb2=>?_)
   ·try simp only[dQ,reduceIte]at hb2
    iterate 3 refine sN ?_
    refine zby ?_;refine sXEUf_12 ?_;refine exB (fun hb7=>?_) (fun hb7=>?_)
    rotate_left 1
    ·exfalso;simp at hb7
    iterate 3 refine sN ?_
    refine zby ?_;refine sXEUf_12 ?_;refine exB (fun hb12=>?_) (fun hb12=>?_)
    rotate_left 1
    ·exfalso;simp at hb12
    iterate 3 refine sN ?_
    refine zby ?_;refine sXEUf_12 ?_;refine exB (fun hb17=>?_) (fun hb17=>?_)
    rotate_left 1
    ·exfalso;simp at hb17
    iterate 3 refine sN ?_
    refine zby ?_;refine sXEUf_12 ?_;refine exB (fun hb22=>?_) (fun hb22=>?_)
    rotate_left 1
    ·exfalso;simp at hb22
    iterate 3 refine sN ?_
    refine zby ?_;refine sXEUf_12 ?_;refine exB (fun hb27=>?_) (fun hb27=>?_)
    rotate_left 1
    ·exfalso;simp at hb27
    iterate 3 refine sN ?_
    refine zby ?_;refine s_n K5 ?_;refine dnS [] id () trivial [] uRa_0 uRa_0 uRa_0 uRa_0
   ·try simp only[dQ,reduceIte]at hb2
    iterate 3 refine z5s ?_
    refine zby ?_;refine sXEUf_12 ?_;refine exB (fun hb7=>?_) (fun hb7=>?_)
    ·try simp only[dQ,reduceIte]at hb7
     iterate 3 refine sN ?_
     refine zby ?_;refine sXEUf_12 ?_;refine exB (fun hb12=>?_) (fun hb12=>?_)
     rotate_left 1
     ·exfalso;simp at hb12
     iterate 3 refine sN ?_
     refine zby ?_;refine sXEUf_12 ?_;refine exB (fun hb17=>?_) (fun hb17=>?_)
     rotate_left 1
     ·exfalso;simp at hb17
     iterate 3 refine sN ?_
     refine zby ?_;refine sXEUf_12 ?_;refine exB (fun hb22=>?_) (fun hb22=>?_)
     rotate_left 1
     ·exfalso;simp at hb22
     iterate 3 refine sN ?_
     refine zby ?_;refine sXEUf_12 ?_;refine exB (fun hb27=>?_) (fun hb27=>?_)
     rotate_left 1
     ·exfalso;simp at hb27
     iterate 3 refine sN ?_
     refine zby ?_;refine s_n K5 ?_;refine dnS [] id () trivial [] uRa_0 uRa_0 uRa_0 uRa_0
    ·try simp only[dQ,reduceIte]at hb7
     iterate 3 refine z5s ?_
     refine zby ?_;refine sXEUf_12 ?_;refine exB (fun hb12=>?_) (fun hb12=>?_)
     ·try simp only[dQ,reduceIte]at hb12
      iterate 3 refine sN ?_
      refine zby ?_;refine sXEUf_12 ?_;refine exB (fun hb17=>?_) (fun hb17=>?_)
      rotate_left 1
      ·exfalso;simp at hb17
      iterate 3 refine sN ?_
      refine zby ?_;refine sXEUf_12 ?_;refine exB (fun hb22=>?_) (fun hb22=>?_)
      rotate_left 1
      ·exfalso;simp at hb22
      iterate 3 refine sN ?_
      refine zby ?_;refine sXEUf_12 ?_;refine exB (fun hb27=>?_) (fun hb27=>?_)
      rotate_left 1
      ·exfalso;simp at hb27
      iterate 3 refine sN ?_
      refine zby ?_;refine s_n K5 ?_;refine dnS [] id () trivial [] uRa_0 uRa_0 uRa_0 uRa_0
     ·try simp only[dQ,reduceIte]at hb12
      iterate 3 refine z5s ?_
      refine zby ?_;refine sXEUf_12 ?_;refine exB (fun hb17=>?_) (fun hb17=>?_)
      ·try simp only[dQ,reduceIte]at hb17
       iterate 3 refine sN ?_
       refine zby ?_;refine sXEUf_12 ?_;refine exB (fun hb22=>?_) (fun hb22=>?_)
       rotate_left 1
       ·exfalso;simp at hb22
       iterate 3 refine sN ?_
       refine zby ?_;refine sXEUf_12 ?_;refine exB (fun hb27=>?_) (fun hb27=>?_)
       rotate_left 1
       ·exfalso;simp at hb27
       iterate 3 refine sN ?_
       refine zby ?_;refine s_n K5 ?_;refine dnS [] id () trivial [] uRa_0 uRa_0 uRa_0 uRa_0
      ·try simp only[dQ,reduceIte]at hb17
       iterate 3 refine z5s ?_
       refine zby ?_;refine sXEUf_12 ?_;refine exB (fun hb22=>?_) (fun hb22=>?_)
       ·try simp only[dQ,reduceIte]at hb22
        iterate 3 refine sN ?_
        refine zby ?_;refine sXEUf_12 ?_;refine exB (fun hb27=>?_) (fun hb27=>?_)
        rotate_left 1
        ·exfalso;simp at hb27
        iterate 3 refine sN ?_
        refine zby ?_;refine s_n K5 ?_;refine dnS [] id () trivial [] uRa_0 uRa_0 uRa_0 uRa_0
       ·try simp only[dQ,reduceIte]at hb22
        iterate 3 refine z5s ?_
        refine zby ?_;refine sXEUf_12 ?_;refine exB (fun hb27=>?_) (fun hb27=>?_)
        ·try simp only[dQ,reduceIte]at hb27
         iterate 3 refine sN ?_
         refine zby ?_;refine s_n K5 ?_;refine dnS [] id () trivial [] uRa_0 uRa_0 uRa_0 uRa_0
        ·try simp only[dQ,reduceIte]at hb27
         iterate 3 refine z5s ?_
         refine zby ?_;refine s_n K5 ?_;refine dnS [] id () trivial [] uRa_0 uRa_0 uRa_0 uRa_0
  ·intro u hu
   clear hu;refine z04 (b:=_) rfl (fun h_t43=>?_) (fun h_t43=>?_)
   ·try simp only[dQ,reduceIte]at h_t43
    refine srR g0_ok fun _ K7=>?_;refine zby ?_;refine s_n K7 ?_;refine z0e (z0d g0_ok (fun _ _ h=>h) (by first|rfl|assumption) [.tmp 2] rfl ?_);refine rtD ?_
    have hk:r.okB=false:=by simpa using h_t43
    show SV.c (.int .i64 1)=_
    rw[z6h,hk];rfl
   ·try simp only[dQ,reduceIte]at h_t43
    refine z09 ?_;apply K4;refine srR g0_ok fun _ K9=>?_;refine zby ?_;refine s_n K9 ?_;refine z0e (z0d g0_ok (fun _ _ h=>h) (by first|rfl|assumption) [.tmp 2] rfl ?_);refine rtD ?_
    have hk:r.okB=true:=by simpa using h_t43
    show SV.c (.int .i64 0)=_
    rw[z6h,hk];rfl

def zp7:QSpec:=fun vs K=>∃ (base:Int) (b:UInt8),vs=[.c (.int .i64 base),.c (.u8 b)]∧K (.c (.int .i64 (z0t base b)))
theorem zml:z1s Tryd.prog gl 111 zp7:=by
 refine z1r (Γ:=g0) (N:=45) Tryd.func111 rfl rfl fun vs K h=>?_;obtain⟨base,b,rfl,h⟩:=h;refine⟨_,h,rfl,by simp,fun w I=>?_⟩;refine srR g0_ok fun _ K2=>?_;refine zby ?_;refine s_n K2 ?_;refine seq_k fun _ K3=>?_;refine z03 ?_;refine z27 (α:=Unit) (fun _=>[(0,.c (.int .i64 base)),(1,.c (.u8 b)),(5,.c (.bool (dg1 b)))]) (fun _=>[]) 0 (fun _=>True) ?_ ?_
 ·refine z01 g0_ok fun _ K4=>?_
  iterate 2 refine zby ?_
  refine sXEUf_12 ?_;refine exB (fun hb2=>?_) (fun hb2=>?_)
  ·try simp only[dQ,reduceIte]at hb2
   iterate 2 refine z5s ?_
   iterate 2 refine zby ?_
   refine s_n K4 ?_;refine dnS [] id () trivial [] uRa_1 uRa_1 uRa_1 uRa_1
  ·try simp only[dQ,reduceIte]at hb2
   iterate 2 refine sN ?_
   iterate 2 refine zby ?_
   refine s_n K4 ?_;refine dnS [] id () trivial [] uRa_1 uRa_1 uRa_1 uRa_1
 ·intro u hu
  clear hu;refine z04 (b:=_) rfl (fun h_t5=>?_) (fun h_t5=>?_)
  ·refine srR g0_ok fun _ K6=>?_
   iterate 4 refine zby ?_
   refine s_n K6 ?_;refine z0e (z0d g0_ok (fun _ _ h=>h) (by first|rfl|assumption) [.tmp 4] rfl ?_);refine rtD ?_
   show SV.c (.int .i64 _)=_
   rw[z0t,if_pos h_t5];all_goals rfl
  ·refine z27 (α:=Unit) (fun _=>[(0,.c (.int .i64 base)),(1,.c (.u8 b)),(15,.c (.bool (dg2 base b)))]) (fun _=>[]) 0 (fun _=>True) ?_ ?_
   ·refine z01 g0_ok fun _ K7=>?_
    iterate 2 refine zby ?_
    refine sXEUf_12 ?_;refine exB (fun hb2=>?_) (fun hb2=>?_)
    ·try simp only[dQ,reduceIte]at hb2
     iterate 2 refine z5s ?_
     refine zby ?_;refine sXEUf_12 ?_;refine exB (fun hb6=>?_) (fun hb6=>?_)
     ·try simp only[dQ,reduceIte]at hb6
      iterate 2 refine z5s ?_
      iterate 2 refine zby ?_
      refine s_n K7 ?_;refine dnS [] id () trivial [] uRa_1 uRa_1 uRa_1 uRa_1
     ·try simp only[dQ,reduceIte]at hb6
      iterate 2 refine sN ?_
      iterate 2 refine zby ?_
      refine s_n K7 ?_;refine dnS [] id () trivial [] uRa_1 uRa_1 uRa_1 uRa_1
    ·try simp only[dQ,reduceIte]at hb2
     iterate 2 refine sN ?_
     refine zby ?_;refine sXEUf_12 ?_;refine exB (fun hb6=>?_) (fun hb6=>?_)
     ·exfalso;simp at hb6
     iterate 2 refine sN ?_
     iterate 2 refine zby ?_
     refine s_n K7 ?_;refine dnS [] id () trivial [] uRa_1 uRa_1 uRa_1 uRa_1
   ·intro u hu
    clear hu;refine z04 (b:=_) rfl (fun h_t15=>?_) (fun h_t15=>?_)
    ·have hub:=(b - UInt8.ofNat (Int.toNat 97)).toNat_lt
     refine srR g0_ok fun _ K9=>?_
     iterate 5 refine zby ?_
     refine s_n K9 ?_;refine z0e (z0d g0_ok (fun _ _ h=>h) (by first|rfl|assumption) [.tmp 4] rfl ?_);refine rtD ?_
     show SV.c (.int .i64 _)=_
     rw[z0t,if_neg (by rw[h_t5];decide),if_pos h_t15];all_goals rfl
    ·refine z27 (α:=Unit) (fun _=>[(0,.c (.int .i64 base)),(1,.c (.u8 b)),(30,.c (.bool (dg3 base b)))]) (fun _=>[]) 0 (fun _=>True) ?_ ?_
     ·refine z01 g0_ok fun _ K10=>?_
      iterate 2 refine zby ?_
      refine sXEUf_12 ?_;refine exB (fun hb2=>?_) (fun hb2=>?_)
      ·try simp only[dQ,reduceIte]at hb2
       iterate 2 refine z5s ?_
       refine zby ?_;refine sXEUf_12 ?_;refine exB (fun hb6=>?_) (fun hb6=>?_)
       ·try simp only[dQ,reduceIte]at hb6
        iterate 2 refine z5s ?_
        iterate 2 refine zby ?_
        refine s_n K10 ?_;refine dnS [] id () trivial [] uRa_1 uRa_1 uRa_1 uRa_1
       ·try simp only[dQ,reduceIte]at hb6
        iterate 2 refine sN ?_
        iterate 2 refine zby ?_
        refine s_n K10 ?_;refine dnS [] id () trivial [] uRa_1 uRa_1 uRa_1 uRa_1
      ·try simp only[dQ,reduceIte]at hb2
       iterate 2 refine sN ?_
       refine zby ?_;refine sXEUf_12 ?_;refine exB (fun hb6=>?_) (fun hb6=>?_)
       ·exfalso;simp at hb6
       iterate 2 refine sN ?_
       iterate 2 refine zby ?_
       refine s_n K10 ?_;refine dnS [] id () trivial [] uRa_1 uRa_1 uRa_1 uRa_1
     ·intro u hu
      clear hu;refine z04 (b:=_) rfl (fun h_t30=>?_) (fun h_t30=>?_)
      ·have hub:=(b - UInt8.ofNat (Int.toNat 65)).toNat_lt
       refine srR g0_ok fun _ K12=>?_
       iterate 5 refine zby ?_
       refine s_n K12 ?_;refine z0e (z0d g0_ok (fun _ _ h=>h) (by first|rfl|assumption) [.tmp 4] rfl ?_);refine rtD ?_
       show SV.c (.int .i64 _)=_
       rw[z0t,if_neg (by rw[h_t5];decide),if_neg (by rw[h_t15];decide),if_pos h_t30];all_goals rfl
      ·refine z09 ?_;refine z05 ?_;apply K3
       refine srR g0_ok fun _ K14=>?_;refine zby ?_;refine s_n K14 ?_;refine z0e (z0d g0_ok (fun _ _ h=>h) (by first|rfl|assumption) [.tmp 4] rfl ?_);refine rtD ?_
       show SV.c (.int .i64 _)=_
       rw[z0t,if_neg (by rw[h_t5];decide),if_neg (by rw[h_t15];decide),if_neg (by rw[h_t30];decide)]


end Go.Proofs.YtppmnaoollkboaaDoor

namespace Go.Proofs.YtppmnaoollkboaaDoor
set_option linter.all false
open Go.Ab Go.RowKit

section
variable {a b:Prop}
theorem qRb0(h:a:=by first|exact vcA|(simp<;>omega)|exact⟨by omega,by omega⟩|exact vcB):a:=h
theorem uRb_0(h:a:=by
    repeat' (first|exact pT|exact trivial|refine aI ?_ ?_|exact cC0|refine low_cons' ?_ ?_|exact cC1|fail)
    all_goals first|omega|(show(_:Int)=min _ _;split<;>omega)|(show(_:Bool)=if s.digits=0 then decide (d=0)else s.zero;first|(rw[if_pos h_t9];done)|(rw[if_neg h_t9];done))|(rw[z8b,if_pos h_t9];first|exact⟨rfl,rfl⟩|exact trivial|rfl)|(rw[z8b,if_neg h_t9];first|exact⟨rfl,rfl⟩|exact trivial|rfl)|(simp;done)|(show(0:Nat)< (z08 _ _ _ _).length;rw[z06 hcl];decide)|(simp[-List.reduceReplicate];done)|(simp[-List.reduceReplicate]<;>omega)|skip):a:=h
theorem DRb_0(kZ:b)(h:HidB b→a:=by intro kZ;(repeat first|refine aI qRb0 ?_|refine z0a qRb0 ?_|refine z07 qRb0 ?_|refine z0l qRb0 ?_|refine z0c ?_);exact kZ.out):a:=h ⟨kZ⟩
theorem zxw(kZ:b)(h:HidB b→a:=by intro kZ;refine sX ?_;refine DRb_0 ?_;refine exI ?_;exact kZ.out):a:=h ⟨kZ⟩
theorem sX0Rb_2(kZ:b)(h:HidB b→a:=by intro kZ;refine sX0 ?_;refine DRb_0 ?_;refine exI ?_;exact kZ.out):a:=h ⟨kZ⟩
theorem dXRb_3(kZ:b)(h:HidB b→a:=by intro kZ;refine dX ?_;refine DRb_0 ?_;refine exI ?_;exact kZ.out):a:=h ⟨kZ⟩
theorem zxx(kZ:b)(h:HidB b→a:=by intro kZ;refine gX0 ?_;refine DRb_0 ?_;refine exI ?_;exact kZ.out):a:=h ⟨kZ⟩
end
theorem z8b(r:Rul)(s:Sta)(d:Int):(z0w r s d).zero=if s.digits=0 then decide (d=0)else s.zero:=rfl
theorem z4q(s:Sta):SV.low 0 (staV s):=low_cons' trivial (low_cons' trivial (low_cons' trivial (low_cons' trivial low_nil')))
def zxy:QSpec:=fun vs K=>∃ (r:Rul) (s:Sta) (d:Int),vs=[rulV r,staV s,.c (.int .i64 d)]∧(r.ok∧s.ok∧0≤d∧d≤15)∧K (staV (z0w r s d))
theorem zrh:z1x Tryd.prog gl 112 zxy:=by
 refine z1c (Γ:=g0) (N:=39) Tryd.func112 rfl rfl fun vs K h=>?_;obtain⟨r,s,d,rfl,⟨hr,hs,hd0,hd15⟩,h⟩:=h;refine⟨_,h,z4q _,by simp,fun w I=>?_⟩;refine srR g0_ok fun _ K2=>?_
 iterate 3 refine zxw ?_
 refine s_n K2 ?_;refine seq_k fun _ K3=>?_;refine srR g0_ok fun _ K5=>?_
 iterate 3 refine zxw ?_
 refine s_n K5 ?_;refine z04 (b:=_) rfl (fun h_t9=>?_) (fun h_t9=>?_)
 ·try simp only[dQ,reduceIte]at h_t9
  refine z01 g0_ok fun _ K6=>?_
  iterate 3 refine zxw ?_
  refine sX0Rb_2 ?_;refine s_n K6 ?_;apply K3
  have hbase:=hr.base
  have ht1:=hr.t1
  have ht2:=hr.t2
  obtain⟨k1,k2,k3,k4,k5,k6⟩:=hs
  have hnb:0≤s.n*r.base∧s.n*r.base≤816:=by
   rcases hbase with e|e<;>rw[e]<;>omega
  have hmb:0≤s.mod*r.base∧s.mod*r.base≤800:=by
   rcases hbase with e|e<;>rw[e]<;>omega
  refine srD g0_ok [(0,true),(1,true),(2,true),(3,true),(4,true),(5,true),(6,true),(7,true),(8,true),(9,true),(10,true),(11,true),(12,true),(13,true),(14,true),(15,true),(16,true),(17,true),(18,true),(19,true),(20,true),(21,true),(22,true),(23,true),(24,true),(25,true),(26,false)] rfl kR kR fun _ K8=>?_
  iterate 26 refine dXRb_3 ?_
  refine zxx ?_;refine d_n K8 ?_;refine z0e (z0g g0_ok (fun _ _ h=>h) (z4q _) [] [.cell 6 130] rfl ?_)
  all_goals exact uRb_0
 ·try simp only[dQ,reduceIte]at h_t9
  refine z09 ?_;apply K3
  have hbase:=hr.base
  have ht1:=hr.t1
  have ht2:=hr.t2
  obtain⟨k1,k2,k3,k4,k5,k6⟩:=hs
  have hnb:0≤s.n*r.base∧s.n*r.base≤816:=by
   rcases hbase with e|e<;>rw[e]<;>omega
  have hmb:0≤s.mod*r.base∧s.mod*r.base≤800:=by
   rcases hbase with e|e<;>rw[e]<;>omega
  refine srD g0_ok [(0,true),(1,true),(2,true),(3,true),(4,true),(5,true),(6,true),(7,true),(8,true),(9,true),(10,true),(11,true),(12,true),(13,true),(14,true),(15,true),(16,true),(17,true),(18,true),(19,true),(20,true),(21,true),(22,true),(23,true),(24,true),(25,true),(26,false)] rfl kR kR fun _ K10=>?_
  iterate 26 refine dXRb_3 ?_
  refine zxx ?_;refine d_n K10 ?_;refine z0e (z0g g0_ok (fun _ _ h=>h) (z4q _) [] [.cell 6 130] rfl ?_)
  all_goals exact uRb_0


end Go.Proofs.YtppmnaoollkboaaDoor

namespace Go.Proofs.YtppmnaoollkboaaDoor
set_option linter.all false
open Go.Ab Go.RowKit

section
variable {a b:Prop}
theorem uRc_0(h:a:=by
    repeat' (first|exact pT|exact trivial|refine aI ?_ ?_|exact cC0|refine low_cons' ?_ ?_|exact cC1|fail)
    all_goals first|omega|(show(_:Bool)=vz r s;unfold vz;first|(rw[decide_eq_true hb3];rfl)|(rw[decide_eq_false hb3,hb6,hb11];simp;done)|(rw[decide_eq_false hb3,hb6];simp[hb11];done)|(rw[decide_eq_false hb3,hb6];rfl)|(simp[hb3,hb6,hb11];done)|(simp[hb3,hb6,Int.not_lt.2 hb11];done)|(simp[hb3,hb6];done)|(simp[hb3,hb6];omega))|(show(_:Bool)=vf r s;unfold vf;first|(rw[decide_eq_true hb5];rfl)|(rw[decide_eq_false (by omega)];rfl)|(simp[hb5];done))|(simp;done)|(show(0:Nat)< (z08 _ _ _ _).length;rw[z06 hcl];decide)|(simp[-List.reduceReplicate];done)|(simp[-List.reduceReplicate]<;>omega)|skip):a:=h
theorem uRc_1(h:a:=by
    repeat' (first|exact pT|exact trivial|refine aI ?_ ?_|exact cC0|refine low_cons' ?_ ?_|exact cC1|fail)
    all_goals first|omega|(show(_:Int)=(z24 r s).1;rw[hve];done)|(show(_:Bool)=(z24 r s).2;rw[hve];done)|(rw[hve];first|rfl|exact⟨rfl,rfl⟩|exact trivial)|(simp;done)|(show(0:Nat)< (z08 _ _ _ _).length;rw[z06 hcl];decide)|(simp[-List.reduceReplicate];done)|(simp[-List.reduceReplicate]<;>omega)|skip):a:=h
theorem zju(kZ:b)(h:HidB b→a:=by intro kZ;refine sXT ?_;refine DUf_0 ?_;exact kZ.out):a:=h ⟨kZ⟩
end
def vz(r:Rul)(s:Sta):Bool:=decide (s.digits=0)||((s.zero&&decide (1< s.digits))&& !r.zeros)
def vf(r:Rul)(s:Sta):Bool:=decide (s.digits≤r.digits)&&decide (s.n≤r.top)
theorem z9x(r:Rul)(s:Sta):z24 r s=if vz r s=true then(0,false)else if vf r s=true then(s.n,true)else if r.over=2 then(s.mod,true)else if r.over=1 then(r.top,true) else(0,false):=by
  unfold z24 vz vf
  simp only[Bool.or_eq_true,Bool.and_eq_true,decide_eq_true_eq,Bool.not_eq_true',and_assoc]
abbrev valV(v:Int×Bool):SV:=.tup [.c (.int .i64 v.1),.c (.bool v.2)]
theorem z2p(v:Int×Bool):SV.low 0 (valV v):=List.forall_mem_cons.2 ⟨trivial,List.forall_mem_cons.2 ⟨trivial,fun _ h=>by cases h⟩⟩
def zp8:QSpec:=fun vs K=>∃ (r:Rul) (s:Sta),vs=[rulV r,staV s]∧K (valV (z24 r s))
theorem zmm:z1x Tryd.prog gl 113 zp8:=by
 refine z1c (Γ:=g0) (N:=51) Tryd.func113 rfl rfl fun vs K h=>?_;obtain⟨r,s,rfl,h⟩:=h;refine⟨_,h,z2p _,by simp,fun w I=>?_⟩;refine srR g0_ok fun _ K2=>?_
 iterate 4 refine zby ?_
 refine s_n K2 ?_;refine seq_k fun _ K3=>?_;refine z27 (α:=Unit) (fun _=>[(2,.c (.dp (rulC r) 0)),(3,.c (.dp (staC s) 0)),(24,.c (.bool (vz r s)))]) (fun _=>[]) 0 (fun _=>True) ?_ ?_
 ·refine z01 g0_ok fun _ K4=>?_
  iterate 3 refine zby ?_
  refine sXEUf_12 ?_;refine exB (fun hb3=>?_) (fun hb3=>?_)
  ·try simp only[dQ,reduceIte]at hb3
   iterate 3 refine sN ?_
   iterate 3 refine sU ?_
   iterate 2 refine sN ?_
   iterate 3 refine sU ?_
   refine sN ?_;refine zby ?_;refine s_n K4 ?_;refine dnS [0,1] id () trivial [] uRc_0 uRc_0 uRc_0 uRc_0
  ·try simp only[dQ,reduceIte]at hb3
   iterate 2 refine z5s ?_
   refine zju ?_;refine exB (fun hb6=>?_) (fun hb6=>?_)
   ·try simp only[dQ,reduceIte]at hb6
    iterate 4 refine z5s ?_
    refine zju ?_;refine exB (fun hb11=>?_) (fun hb11=>?_)
    ·try simp only[dQ,reduceIte]at hb11
     iterate 4 refine z5s ?_
     refine zby ?_;refine s_n K4 ?_;refine dnS [0,1] id () trivial [] uRc_0 uRc_0 uRc_0 uRc_0
    ·try simp only[dQ,reduceIte]at hb11
     iterate 3 refine sN ?_
     refine z5s ?_;refine zby ?_;refine s_n K4 ?_;refine dnS [0,1] id () trivial [] uRc_0 uRc_0 uRc_0 uRc_0
   ·try simp only[dQ,reduceIte]at hb6
    iterate 3 refine sN ?_
    refine z5s ?_;refine zju ?_;refine exB (fun hb11=>?_) (fun hb11=>?_)
    ·exfalso;simp at hb11
    iterate 3 refine sN ?_
    refine z5s ?_;refine zby ?_;refine s_n K4 ?_;refine dnS [0,1] id () trivial [] uRc_0 uRc_0 uRc_0 uRc_0
 ·intro u hu
  clear hu;refine z04 (b:=_) rfl (fun h_t24=>?_) (fun h_t24=>?_)
  ·refine srR g0_ok fun _ K6=>?_
   iterate 2 refine zby ?_
   refine s_n K6 ?_;refine z0e (z0g g0_ok (fun _ _ h=>h) (z2p _) [] [.tmp 4,.tmp 5] rfl ?_)
   have hve:z24 r s=_:=z9x r s
   rw[if_pos h_t24]at hve
   all_goals exact uRc_1
  ·refine z09 ?_;apply K3;refine seq_k fun _ K7=>?_
   refine z27 (α:=Unit) (fun _=>[(2,.c (.dp (rulC r) 0)),(3,.c (.dp (staC s) 0)),(36,.c (.bool (vf r s)))]) (fun _=>[]) 0 (fun _=>True) ?_ ?_
   ·refine z01 g0_ok fun _ K8=>?_
    iterate 5 refine zby ?_
    refine sXEUf_12 ?_;refine exB (fun hb5=>?_) (fun hb5=>?_)
    ·try simp only[dQ,reduceIte]at hb5
     iterate 5 refine z5s ?_
     refine zby ?_;refine s_n K8 ?_;refine dnS [] id () trivial [] uRc_0 uRc_0 uRc_0 uRc_0
    ·try simp only[dQ,reduceIte]at hb5
     iterate 5 refine sN ?_
     refine zby ?_;refine s_n K8 ?_;refine dnS [] id () trivial [] uRc_0 uRc_0 uRc_0 uRc_0
   ·intro u hu
    clear hu;refine z04 (b:=_) rfl (fun h_t36=>?_) (fun h_t36=>?_)
    ·refine srR g0_ok fun _ K10=>?_
     iterate 4 refine zby ?_
     refine s_n K10 ?_;refine z0e (z0g g0_ok (fun _ _ h=>h) (z2p _) [] [.tmp 4,.tmp 5] rfl ?_)
     have hve:z24 r s=_:=z9x r s
     rw[if_neg (by rw[h_t24];decide),if_pos h_t36]at hve
     all_goals exact uRc_1
    ·refine z09 ?_;apply K7
     refine srR g0_ok fun _ K12=>?_
     iterate 4 refine zby ?_
     refine s_n K12 ?_;refine seq_k fun _ K13=>?_;refine srR g0_ok fun _ K15=>?_
     iterate 2 refine zby ?_
     refine s_n K15 ?_;refine z03 ?_;refine seq_k fun _ K16=>?_;refine z03 ?_;refine seq_k fun _ K17=>?_;refine z03 ?_;refine seq_k fun _ K18=>?_;refine z03 ?_;refine seq_k fun _ K19=>?_;refine seq_k fun _ K20=>?_;refine srR g0_ok fun _ K22=>?_
     iterate 2 refine zby ?_
     refine s_n K22 ?_;refine z04 (b:=_) rfl (fun h_t43=>?_) (fun h_t43=>?_)
     ·try simp only[dQ,reduceIte]at h_t43
      refine z0i ?_;refine z00 ?_;refine z00 ?_;refine z0f ?_;apply K18;refine z01 g0_ok fun _ K23=>?_
      iterate 3 refine zby ?_
      refine s_n K23 ?_;refine z05 ?_;apply K17;refine srR g0_ok fun _ K25=>?_;refine zby ?_;refine s_n K25 ?_;refine z0i ?_;refine z8q (by decide) ?_;refine z00 ?_;refine z0f ?_;apply K13;refine srR g0_ok fun _ K27=>?_
      iterate 4 refine zby ?_
      refine s_n K27 ?_;refine z0e (z0g g0_ok (fun _ _ h=>h) (z2p _) [] [.tmp 4,.tmp 5] rfl ?_)
      have hve:z24 r s=_:=z9x r s
      rw[if_neg (by rw[h_t24];decide),if_neg (by rw[h_t36];decide),if_pos (by first|exact h_t43|omega)]at hve
      all_goals exact uRc_1
     ·try simp only[dQ,reduceIte]at h_t43
      refine z09 ?_;apply K20;refine srR g0_ok fun _ K29=>?_
      iterate 2 refine zby ?_
      refine s_n K29 ?_;refine z04 (b:=_) rfl (fun h_t45=>?_) (fun h_t45=>?_)
      ·try simp only[dQ,reduceIte]at h_t45
       refine z0i ?_;refine z00 ?_;refine z8q (by decide) ?_;refine z00 ?_;refine z0f ?_;apply K17;refine srR g0_ok fun _ K31=>?_;refine zby ?_;refine s_n K31 ?_;refine z0i ?_;refine z8q (by decide) ?_;refine z00 ?_;refine z0f ?_;apply K13;refine srR g0_ok fun _ K33=>?_
       iterate 4 refine zby ?_
       refine s_n K33 ?_;refine z0e (z0g g0_ok (fun _ _ h=>h) (z2p _) [] [.tmp 4,.tmp 5] rfl ?_)
       have hve:z24 r s=_:=z9x r s
       rw[if_neg (by rw[h_t24];decide),if_neg (by rw[h_t36];decide),if_neg (by omega),if_pos (by omega)]at hve
       all_goals exact uRc_1
      ·try simp only[dQ,reduceIte]at h_t45
       refine z09 ?_;apply K19;refine z0i ?_;refine z8q (by decide) ?_;refine z00 ?_;refine z8q (by decide) ?_;refine z00 ?_;refine z0f ?_;apply K16;refine srR g0_ok fun _ K35=>?_;refine zby ?_;refine s_n K35 ?_;refine z0i ?_;refine z0f ?_;apply K13;refine srR g0_ok fun _ K37=>?_
       iterate 4 refine zby ?_
       refine s_n K37 ?_;refine z0e (z0g g0_ok (fun _ _ h=>h) (z2p _) [] [.tmp 4,.tmp 5] rfl ?_)
       have hve:z24 r s=_:=z9x r s
       rw[if_neg (by rw[h_t24];decide),if_neg (by rw[h_t36];decide),if_neg (by omega),if_neg (by omega)]at hve
       all_goals exact uRc_1


end Go.Proofs.YtppmnaoollkboaaDoor

namespace Go.Proofs.YtppmnaoollkboaaDoor
set_option linter.all false
open Go.Ab Go.RowKit

theorem uRd_0{a:Prop}(h:a:=by
    repeat' (first|exact pT|exact trivial|refine aI ?_ ?_|exact cC0|refine low_cons' ?_ ?_|exact cC1|fail)
    all_goals first|omega|exact z2p _|(show(_:Int)=(readN r l).1;rw[hre];done)|(show(_:Bool)=(readN r l).2;rw[hre];done)|(rw[hre];first|rfl|exact⟨rfl,rfl⟩|exact trivial)|(simp;done)|(show(0:Nat)< (z08 _ _ _ _).length;rw[z06 hcl];decide)|(simp[-List.reduceReplicate];done)|(simp[-List.reduceReplicate]<;>omega)|skip):a:=h
theorem zgq{a b:Prop}(kZ:b)(h:HidB b→a:=by intro kZ;refine sX ?_;refine DRb_0 ?_;exact kZ.out):a:=h ⟨kZ⟩

open Go.Aut
def sta0:Sta:=⟨0,false,0,0⟩
def stepO(r:Rul)(o:Option Sta)(b:UInt8):Option Sta:=match o with
  |none=>none
  |some s=>if z0t r.base b< 0 then none else some (z0w r s (z0t r.base b))
def readK(r:Rul)(l:List UInt8):Option Sta:=l.foldl (stepO r) (some sta0)
def readN(r:Rul)(l:List UInt8):Int×Bool:=if r.okB=true then(match readK r l with
  |none=>(0,false)
  |some s=>z24 r s) else(0,false)
theorem zjv:sta0.ok:=by refine⟨?_,?_,?_,?_,?_,?_⟩<;>decide
theorem zeo (base:Int) (b:UInt8):z0t base b≤15:=by
  unfold z0t
  split
  · rename_i h
    simp only[dg1,Bool.and_eq_true,decide_eq_true_eq]at h
    have h1:=UInt8.le_iff_toNat_le.1 h.1
    have h2:=UInt8.le_iff_toNat_le.1 h.2
    have:(b - 48).toNat=b.toNat - 48:=UInt8.toNat_sub_of_le _ _ h.1
    have e1:(48:UInt8).toNat=48:=rfl
    have e2:(57:UInt8).toNat=57:=rfl
    omega
  · split
    · rename_i h
      simp only[dg2,Bool.and_eq_true,decide_eq_true_eq]at h
      have h2:=UInt8.le_iff_toNat_le.1 h.2
      have:(b - 97).toNat=b.toNat - 97:=UInt8.toNat_sub_of_le _ _ h.1.2
      have e2:(102:UInt8).toNat=102:=rfl
      omega
    · split
      · rename_i h
        simp only[dg3,Bool.and_eq_true,decide_eq_true_eq]at h
        have h2:=UInt8.le_iff_toNat_le.1 h.2
        have:(b - 65).toNat=b.toNat - 65:=UInt8.toNat_sub_of_le _ _ h.1.2
        have e2:(70:UInt8).toNat=70:=rfl
        omega
      · omega
theorem zc6(r:Rul):∀ l:List UInt8,l.foldl (stepO r) none=none
  |[]=>rfl
  |_::l=>zc6 r l
theorem z9y{r:Rul}{l:List UInt8}{i:Nat}(h:i< l.length):readK r (l.take (i+1))=stepO r (readK r (l.take i)) (l.getD i 0):=by
  rw[readK,readK,List.take_add_one,List.getElem?_eq_getElem h,List.foldl_append,z49 h];rfl
theorem zmn{r:Rul}{l:List UInt8}{i:Nat}(h:readK r (l.take i)=none):readK r l=none:=by
  rw[readK, ←List.take_append_drop i l,List.foldl_append];rw[readK]at h;rw[h,zc6]
noncomputable def gr1:Ctx:={ P:=Tryd.prog,ty:=ty,glob:=gl,fs:=[(64,.flat zar),(111,.flat zp7),(112,.data zxy),(113,.data zp8)] }
theorem z5v:gr1.OK:=⟨tyOK,⟨⟨z0b Tryd.func64 kR rfl,z7v⟩,⟨z0b Tryd.func111 kR rfl,zml⟩,⟨z0b Tryd.func112 kR rfl,zrh⟩,⟨z0b Tryd.func113 kR rfl,zmm⟩,trivial⟩,mixed⟩
@[simp] theorem gr1_ty:gr1.ty=ty:=rfl

def zy0:QSpec:=fun vs K=>∃ (r:Rul) (l:List UInt8),vs=[rulV r,.c (.ds l.length (.u8s l))]∧l.length≤9223372036854775807∧K (valV (readN r l))
theorem zri:z1x Tryd.prog gl 55 zy0:=by
 refine z1c (Γ:=gr1) (N:=35) Tryd.func55 rfl rfl fun vs K h=>?_;obtain⟨r,l,rfl,hl,h⟩:=h;refine⟨_,h,z2p _,by simp,fun w I=>?_⟩;refine srR z5v fun _ K2=>?_
 iterate 3 refine zxw ?_
 refine s_n K2 ?_;refine seq_k fun _ K3=>?_;refine srR z5v fun _ K5=>?_;refine zxw ?_;refine zgq ?_;refine⟨r,rfl,?_⟩;refine DRb_0 ?_
 first|refine exI ?_|(intro cap1 hcap1;refine exI ?_)
 refine zxw ?_;refine s_n K5 ?_;refine z04 (b:=_) rfl (fun h_t12=>?_) (fun h_t12=>?_)
 ·try simp only[dQ,reduceIte]at h_t12
  refine srR z5v fun _ K7=>?_
  iterate 2 refine zxw ?_
  refine s_n K7 ?_
  have hre:readN r l=(0,false):=by
   rw[readN,if_neg];intro e
   rw[z6h,if_pos e]at h_t12;first|omega|(simp at h_t12;done)|exact h_t12 rfl
  refine z0e (z0g z5v (fun _ _ h=>h) (z2p _) [] [.tmp 4,.tmp 5] rfl ?_)
  all_goals exact uRd_0
 ·try simp only[dQ,reduceIte]at h_t12
  refine z09 ?_;apply K3
  have hok:r.okB=true:=by
   rw[z6h]at h_t12
   by_cases e:r.okB=true
   ·exact e
   ·rw[if_neg e]at h_t12;first|(exfalso;omega)|(simp at h_t12)
  have hr:=z57.1 hok
  refine srR z5v fun _ K9=>?_;refine zxw ?_;refine s_n K9 ?_;refine seq_k fun _ K10=>?_;refine srR z5v fun _ K12=>?_
  iterate 3 refine zxw ?_
  refine s_n K12 ?_;refine z03 ?_;refine z0m (α:=Nat×Sta) (fun g=>[(2,.c (.dp (rulC r) 0)),(6,.c (.ptr 0 0)),(13,.c (.ds l.length (.u8s l))),(14,.c (.int .i64 (l.length:Nat))),(15,.c (.int .i64 (g.1:Nat)))]) (fun g=>[(0,.own 130 (staC g.2) 4)]) 1 (fun g=>g.1≤l.length∧readK r (l.take g.1)=some g.2∧g.2.ok) (fun g=>l.length - g.1) ?_ ?_
  ·refine dnS [0] (fun i=>i+1) (0,sta0) ⟨Nat.zero_le _,rfl,zjv⟩ [1] uRd_0 uRd_0 uRd_0 uRd_0
  ·intro g hg
   refine srR z5v fun _ K14=>?_;refine zxw ?_;refine s_n K14 ?_;refine seq_k fun _ K15=>?_;refine z04 (b:=_) rfl (fun h_t16=>?_) (fun h_t16=>?_)
   ·try simp only[dQ,reduceIte]at h_t16
    refine z09 ?_;apply K15;refine seq_k fun _ K16=>?_;refine z03 ?_
    have hil:g.1< l.length:=by omega
    refine srR z5v fun _ K18=>?_;refine zxw ?_;refine zgq ?_;refine exA (.c (.u8 (l.getD g.1 0))) (as_eq (congrArg (fun v=>SV.c (Cell.u8 v)) (congrArg (fun i=>l.getD i 0) (by omega)))) ?_;refine zxw ?_;refine s_n K18 ?_;refine srR z5v fun _ K20=>?_
    iterate 3 refine zxw ?_
    refine zgq ?_;refine⟨r.base,l.getD g.1 0,rfl,?_⟩;refine DRb_0 ?_
    first|refine exI ?_|(intro cap3 hcap3;refine exI ?_)
    refine zxw ?_;refine s_n K20 ?_;refine seq_k fun _ K21=>?_;refine srR z5v fun _ K23=>?_
    iterate 2 refine zxw ?_
    refine s_n K23 ?_;refine z04 (b:=_) rfl (fun h_t24=>?_) (fun h_t24=>?_)
    ·try simp only[dQ,reduceIte]at h_t24
     refine srR z5v fun _ K25=>?_
     iterate 2 refine zxw ?_
     refine s_n K25 ?_
     have hre:readN r l=(0,false):=by
      rw[readN,if_pos hok,zmn (i:=g.1+1)];rw[z9y hil,hg.2.1];exact if_pos (by omega)
     refine z0e (z0g z5v (fun _ _ h=>h) (z2p _) [] [.tmp 4,.tmp 5] rfl ?_)
     all_goals exact uRd_0
    ·try simp only[dQ,reduceIte]at h_t24
     refine z09 ?_;apply K21
     have hd0:0≤z0t r.base (l.getD g.1 0):=by omega
     have hst:readK r (l.take (g.1+1))=some (z0w r g.2 (z0t r.base (l.getD g.1 0))):=by
      rw[z9y hil,hg.2.1];exact if_neg (by omega)
     refine z01 z5v fun _ K26=>?_
     iterate 3 refine zxw ?_
     refine zgq ?_;refine⟨r,g.2,z0t r.base (l.getD g.1 0),rfl,⟨hr,hg.2.2,hd0,zeo _ _⟩,?_⟩;refine DRb_0 ?_
     first|refine exI ?_|(intro cap3 hcap3;refine exI ?_)
     refine sX0Rb_2 ?_;refine s_n K26 ?_;refine z05 ?_;apply K16;refine z01 z5v fun _ K27=>?_
     iterate 2 refine zxw ?_
     refine s_n K27 ?_;refine dnS [] id (g.1+1,z0w r g.2 (z0t r.base (l.getD g.1 0))) ⟨⟨by omega,hst,zgp hr hg.2.2 hd0⟩,by omega⟩ [0] uRd_0 uRd_0 uRd_0 uRd_0
   ·try simp only[dQ,reduceIte]at h_t16
    refine z0i ?_;refine z00 ?_;refine z00 ?_;refine z0f ?_;apply K10
    obtain hgl:g.1=l.length:=by omega
    have hk:readK r l=some g.2:=by have:=hg.2.1;rwa [hgl,List.take_length]at this
    have hre:readN r l=z24 r g.2:=by rw[readN,if_pos hok,hk]
    refine srR z5v fun _ K29=>?_
    iterate 2 refine zxw ?_
    refine zgq ?_;refine⟨r,g.2,rfl,?_⟩;refine DRb_0 ?_
    first|refine exI ?_|(intro cap2 hcap2;refine exI ?_)
    iterate 4 refine zxw ?_
    refine s_n K29 ?_

    refine z0e (z0g z5v (fun _ _ h=>h) (z2p _) [] [.tmp 4,.tmp 5] rfl ?_)
    all_goals exact uRd_0


end Go.Proofs.YtppmnaoollkboaaDoor

namespace Go.Proofs.YtppmnaoollkboaaDoor
set_option linter.all false
open Go.Ab Go.RowKit

section
variable {a b:Prop}
theorem uRe_0(h:a:=by
    repeat' (first|exact pT|exact trivial|refine aI ?_ ?_|exact cC0|refine low_cons' ?_ ?_|exact cC1|fail)
    all_goals first|omega|(rw[hke];first|rfl|exact⟨rfl,rfl⟩|exact trivial|done)|(show(_:Bool)=(keyN r s).zero;rw[hke];done)|(simp;done)|(show(0:Nat)< (z08 _ _ _ _).length;rw[z06 hcl];decide)|(simp[-List.reduceReplicate];done)|(simp[-List.reduceReplicate]<;>omega)|skip):a:=h
theorem uRe_1(h:a:=by
    repeat' (first|exact pT|exact trivial|refine aI ?_ ?_|exact cC0|refine low_cons' ?_ ?_|exact cC1|fail)
    all_goals first|omega|(show(_:Bool)=kd9 r s;unfold kd9;first|(rw[hb2];simp[hb7];done)|(simp[hb2,Int.not_lt.2 hb7];done)|(simp[hb2,hb7];done)|(simp[hb2];done))|(show(_:Bool)=ko9 r s;unfold ko9;first|(rw[decide_eq_true hb5];rfl)|(rw[decide_eq_false (show ¬ r.digits< s.digits by omega)];rfl)|(simp[hb5];done))|(simp;done)|(show(0:Nat)< (z08 _ _ _ _).length;rw[z06 hcl];decide)|(simp[-List.reduceReplicate];done)|(simp[-List.reduceReplicate]<;>omega)|skip):a:=h
theorem z95(kZ:b)(h:HidB b→a:=by intro kZ;refine sX0 ?_;refine DUf_0 ?_;refine exI ?_;exact kZ.out):a:=h ⟨kZ⟩
end
def kd9(r:Rul)(s:Sta):Bool:=(s.zero&&decide (1< s.digits))&& !r.zeros
def ko9(r:Rul)(s:Sta):Bool:=decide (r.digits< s.digits)||decide (r.top< s.n)
def keyN(r:Rul)(s:Sta):Sta:=if s.digits=0 then s else if kd9 r s=true then⟨-1,false,0,0⟩else if ko9 r s=true then(if r.over=0 then⟨-1,false,0,0⟩else if r.over=1 then⟨-2,false,0,0⟩ else⟨-3,false,0,s.mod⟩)else { s with zero:=if 0< s.n then false else s.zero }
theorem ze3(r:Rul)(s:Sta):keyN r s=if s.digits=0 then s else if kd9 r s=true then⟨-1,false,0,0⟩else if ko9 r s=true then(if r.over=0 then⟨-1,false,0,0⟩else if r.over=1 then⟨-2,false,0,0⟩ else⟨-3,false,0,s.mod⟩)else { s with zero:=if 0< s.n then false else s.zero }:=rfl
def keyNS:QSpec:=fun vs K=>∃ (r:Rul) (s:Sta),vs=[rulV r,staV s]∧K (staV (keyN r s))
theorem keyN_ok:z1x Tryd.prog gl 168 keyNS:=by
 refine z1c (Γ:=g0) (N:=50) Tryd.func168 rfl rfl fun vs K h=>?_;obtain⟨r,s,rfl,h⟩:=h;refine⟨_,h,z4q _,by simp,fun w I=>?_⟩;refine srR g0_ok fun _ K2=>?_
 iterate 3 refine zby ?_
 refine s_n K2 ?_;refine seq_k fun _ K3=>?_;refine srR g0_ok fun _ K5=>?_
 iterate 3 refine zby ?_
 refine s_n K5 ?_;refine z04 (b:=_) rfl (fun h_t7=>?_) (fun h_t7=>?_)
 ·try simp only[dQ,reduceIte]at h_t7
  refine srR g0_ok fun _ K7=>?_;refine zby ?_;refine z95 ?_;refine s_n K7 ?_;refine z0e (z0g g0_ok (fun _ _ h=>h) (z4q _) [] [.cell 4 130] rfl ?_)
  have hke:=ze3 r s
  rw[if_pos h_t7]at hke
  all_goals exact uRe_0
 ·try simp only[dQ,reduceIte]at h_t7
  refine z09 ?_;apply K3;refine seq_k fun _ K8=>?_;refine z27 (α:=Unit) (fun _=>[(2,.c (.dp (rulC r) 0)),(3,.c (.ptr 0 0)),(4,.c (.ptr 1 0)),(20,.c (.bool (kd9 r s)))]) (fun _=>[(0,.own 130 (staC s) 4),(1,.own 130 (.cells [.int .i64 0,.bool false,.int .i64 0,.int .i64 0]) 4)]) 2 (fun _=>True) ?_ ?_
  ·refine z01 g0_ok fun _ K9=>?_
   iterate 2 refine zby ?_
   refine sXEUf_12 ?_;refine exB (fun hb2=>?_) (fun hb2=>?_)
   ·try simp only[dQ,reduceIte]at hb2
    iterate 3 refine z5s ?_
    refine zby ?_;refine sXEUf_12 ?_;refine exB (fun hb7=>?_) (fun hb7=>?_)
    ·try simp only[dQ,reduceIte]at hb7
     iterate 3 refine z5s ?_
     refine zby ?_;refine s_n K9 ?_;refine dnS [0] (fun i=>i+1) () trivial [1,2] uRe_1 uRe_1 uRe_1 uRe_1
    ·try simp only[dQ,reduceIte]at hb7
     iterate 3 refine sN ?_
     refine zby ?_;refine s_n K9 ?_;refine dnS [0] (fun i=>i+1) () trivial [1,2] uRe_1 uRe_1 uRe_1 uRe_1
   ·try simp only[dQ,reduceIte]at hb2
    iterate 3 refine sN ?_
    refine zby ?_;refine sXEUf_12 ?_;refine exB (fun hb7=>?_) (fun hb7=>?_)
    ·exfalso;simp at hb7
    iterate 3 refine sN ?_
    refine zby ?_;refine s_n K9 ?_;refine dnS [0] (fun i=>i+1) () trivial [1,2] uRe_1 uRe_1 uRe_1 uRe_1
  ·intro u hu
   clear hu;refine z04 (b:=_) rfl (fun h_t20=>?_) (fun h_t20=>?_)
   ·refine srR g0_ok fun _ K11=>?_
    refine zby ?_;refine z95 ?_;refine s_n K11 ?_;refine z0e (z0g g0_ok (fun _ _ h=>h) (z4q _) [] [.cell 4 130] rfl ?_)
    have hke:=ze3 r s
    rw[if_neg h_t7]at hke;rw[if_pos h_t20]at hke
    all_goals exact uRe_0
   ·refine z09 ?_;apply K8;refine seq_k fun _ K12=>?_
    refine z27 (α:=Unit) (fun _=>[(2,.c (.dp (rulC r) 0)),(3,.c (.ptr 0 0)),(4,.c (.ptr 1 0)),(33,.c (.bool (ko9 r s)))]) (fun _=>[(0,.own 130 (staC s) 4),(1,.own 130 (.cells [.int .i64 0,.bool false,.int .i64 0,.int .i64 0]) 4)]) 2 (fun _=>True) ?_ ?_
    ·refine z01 g0_ok fun _ K13=>?_
     iterate 5 refine zby ?_
     refine sXEUf_12 ?_;refine exB (fun hb5=>?_) (fun hb5=>?_)
     ·try simp only[dQ,reduceIte]at hb5
      iterate 5 refine sN ?_
      refine zby ?_;refine s_n K13 ?_;refine dnS [] id () trivial [0,1] uRe_1 uRe_1 uRe_1 uRe_1
     ·try simp only[dQ,reduceIte]at hb5
      iterate 5 refine z5s ?_
      refine zby ?_;refine s_n K13 ?_;refine dnS [] id () trivial [0,1] uRe_1 uRe_1 uRe_1 uRe_1
    ·intro u hu
     clear hu;refine z04 (b:=_) rfl (fun h_t33=>?_) (fun h_t33=>?_)
     ·refine seq_k fun _ K14=>?_
      refine srR g0_ok fun _ K16=>?_
      iterate 2 refine zby ?_
      refine s_n K16 ?_;refine z03 ?_;refine srR g0_ok fun _ K18=>?_
      iterate 2 refine zby ?_
      refine s_n K18 ?_;refine z04 (b:=_) rfl (fun h_t36=>?_) (fun h_t36=>?_)
      ·try simp only[dQ,reduceIte]at h_t36
       refine srR g0_ok fun _ K20=>?_;refine zby ?_;refine z95 ?_;refine s_n K20 ?_;refine z0e (z0g g0_ok (fun _ _ h=>h) (z4q _) [] [.cell 4 130] rfl ?_)
       have hke:=ze3 r s
       rw[if_neg h_t7]at hke;rw[if_neg (by rw[h_t20];decide),if_pos h_t33,if_pos h_t36]at hke
       all_goals exact uRe_0
      ·try simp only[dQ,reduceIte]at h_t36
       refine srR g0_ok fun _ K22=>?_
       iterate 2 refine zby ?_
       refine s_n K22 ?_;refine z04 (b:=_) rfl (fun h_t39=>?_) (fun h_t39=>?_)
       ·try simp only[dQ,reduceIte]at h_t39
        refine srR g0_ok fun _ K24=>?_;refine zby ?_;refine z95 ?_;refine s_n K24 ?_;refine z0e (z0g g0_ok (fun _ _ h=>h) (z4q _) [] [.cell 4 130] rfl ?_)
        have hke:=ze3 r s
        rw[if_neg h_t7]at hke;rw[if_neg (by rw[h_t20];decide),if_pos h_t33,if_neg h_t36,if_pos h_t39]at hke
        all_goals exact uRe_0
       ·try simp only[dQ,reduceIte]at h_t39
        refine z09 ?_;refine z05 ?_;apply K14;refine srR g0_ok fun _ K26=>?_
        iterate 3 refine zby ?_
        refine z95 ?_;refine s_n K26 ?_;refine z0e (z0g g0_ok (fun _ _ h=>h) (z4q _) [] [.cell 4 130] rfl ?_)
        have hke:=ze3 r s
        rw[if_neg h_t7]at hke;rw[if_neg (by rw[h_t20];decide),if_pos h_t33,if_neg h_t36,if_neg h_t39]at hke
        all_goals exact uRe_0
     ·refine z09 ?_;apply K12;refine seq_k fun _ K27=>?_
      refine srR g0_ok fun _ K29=>?_
      iterate 3 refine zby ?_
      refine s_n K29 ?_;refine z04 (b:=_) rfl (fun h_t47=>?_) (fun h_t47=>?_)
      ·try simp only[dQ,reduceIte]at h_t47
       refine z01 g0_ok fun _ K30=>?_;refine zby ?_;refine z95 ?_;refine s_n K30 ?_;apply K27;refine srR g0_ok fun _ K32=>?_;refine zby ?_;refine z95 ?_;refine s_n K32 ?_;refine z0e (z0g g0_ok (fun _ _ h=>h) (z4q _) [] [.cell 4 130] rfl ?_)
       have hke:=ze3 r s
       rw[if_neg h_t7]at hke;rw[if_neg (by rw[h_t20];decide),if_neg (by rw[h_t33];decide),if_pos (by omega)]at hke
       all_goals exact uRe_0
      ·try simp only[dQ,reduceIte]at h_t47
       refine z09 ?_;apply K27;refine srR g0_ok fun _ K34=>?_;refine zby ?_;refine z95 ?_;refine s_n K34 ?_;refine z0e (z0g g0_ok (fun _ _ h=>h) (z4q _) [] [.cell 4 130] rfl ?_)
       have hke:=ze3 r s
       rw[if_neg h_t7]at hke;rw[if_neg (by rw[h_t20];decide),if_neg (by rw[h_t33];decide),if_neg (by omega)]at hke
       all_goals exact uRe_0


end Go.Proofs.YtppmnaoollkboaaDoor

namespace Go.Proofs.YtppmnaoollkboaaDoor
set_option linter.all false
open Go.Ab Go.RowKit

open Go.Aut
def digs9:List UInt8:=[48,49,50,51,52,53,54,55,56,57,97,98,99,100,101,102,65,66,67,68,69,70]
def numD(base:Int):Int:=if base=16 then 22 else 10
def numB(base:Int)(b:UInt8):UInt8:=digs9.getD ((b.toNat:Int)%numD base).toNat 0
def numF(base:Int)(l:List UInt8)(k:Nat):List UInt8:=(l.take k).map (numB base)
@[simp] theorem numF_length(base:Int)(l:List UInt8)(k:Nat):(numF base l k).length=min k l.length:=by simp[numF]
theorem numF_succ{base:Int}{l:List UInt8}{k:Nat}{v:UInt8}(h:k< l.length)(hv:v=numB base (l.getD k 0)):numF base l k++([]++[v])=numF base l (k+1):=by
  subst hv;rw[numF,numF,List.take_add_one,List.getElem?_eq_getElem h,List.map_append,List.nil_append,z49 h];rfl
noncomputable def gf1:Ctx:={ P:=Tryd.prog,ty:=ty,glob:=gl,fs:=[(55,.data zy0)] }
theorem zc7:gf1.OK:=⟨tyOK,⟨⟨z0b Tryd.func55 kR rfl,zri⟩,trivial⟩,mixed⟩
@[simp] theorem gf1_ty:gf1.ty=ty:=rfl

def z3x(r:Rul)(l:List UInt8)(n:Int):Bool:=if n< 0 then !(readN r l).2&&decide ((readN r l).1=0) else(readN r l).2&&decide ((readN r l).1=n)
def zy2:QSpec:=fun vs K=>∃ (r:Rul) (l:List UInt8) (n:Int),vs=[rulV r,.c (.str l),.c (.int .i64 n)]∧l.length≤1048576∧K (.c (.bool (z3x r l n)))
theorem zy3:z1s Tryd.prog gl 110 zy2:=by
 refine z1r (Γ:=gf1) (N:=30) Tryd.func110 rfl rfl fun vs K h=>?_;obtain⟨r,l,n,rfl,hl,h⟩:=h;refine⟨_,h,rfl,by simp,fun w I=>?_⟩;refine srR zc7 fun _ K2=>?_
 iterate 2 refine zby ?_
 refine s_n K2 ?_;refine srR zc7 fun _ K4=>?_
 iterate 3 refine zby ?_
 refine sXEUf_12 ?_;refine⟨r,l,rfl,by omega,?_⟩;refine DUf_0 ?_
 first|refine exI ?_|(intro cap3 hcap3;refine exI ?_)
 iterate 5 refine zby ?_
 refine s_n K4 ?_;refine seq_k fun _ K5=>?_;refine srR zc7 fun _ K7=>?_
 iterate 2 refine zby ?_
 refine s_n K7 ?_;refine z04 (b:=_) rfl (fun h_t17=>?_) (fun h_t17=>?_)
 ·try simp only[dQ,reduceIte]at h_t17
  refine srR zc7 fun _ K9=>?_
  iterate 2 refine zby ?_
  refine sXEUf_12 ?_;refine exB (fun hb2=>?_) (fun hb2=>?_)
  ·try simp only[dQ,reduceIte]at hb2
   iterate 2 refine z5s ?_
   iterate 2 refine zby ?_
   refine s_n K9 ?_;refine z0e (z0d zc7 (fun _ _ h=>h) (by first|rfl|assumption) [.tmp 6] rfl ?_);refine rtD ?_
   show SV.c (.bool _)=_
   rw[z3x,if_pos h_t17]
   first|(rw[hb2];rfl)|(simp[hb2];done)|(simp_all;done)
  ·try simp only[dQ,reduceIte]at hb2
   iterate 2 refine sN ?_
   iterate 2 refine zby ?_
   refine s_n K9 ?_;refine z0e (z0d zc7 (fun _ _ h=>h) (by first|rfl|assumption) [.tmp 6] rfl ?_);refine rtD ?_
   show SV.c (.bool _)=_
   rw[z3x,if_pos h_t17]
   first|(rw[hb2];rfl)|(simp[hb2];done)|(simp_all;done)
 ·try simp only[dQ,reduceIte]at h_t17
  refine z09 ?_;apply K5;refine srR zc7 fun _ K11=>?_;refine zby ?_;refine sXEUf_12 ?_;refine exB (fun hb1=>?_) (fun hb1=>?_)
  ·try simp only[dQ,reduceIte]at hb1
   iterate 3 refine z5s ?_
   iterate 2 refine zby ?_
   refine s_n K11 ?_;refine z0e (z0d zc7 (fun _ _ h=>h) (by first|rfl|assumption) [.tmp 6] rfl ?_);refine rtD ?_
   show SV.c (.bool _)=_
   rw[z3x,if_neg (show ¬ n< 0 by omega)]
   first|(rw[hb1];rfl)|(simp[hb1];done)|(simp_all;done)
  ·try simp only[dQ,reduceIte]at hb1
   iterate 3 refine sN ?_
   iterate 2 refine zby ?_
   refine s_n K11 ?_;refine z0e (z0d zc7 (fun _ _ h=>h) (by first|rfl|assumption) [.tmp 6] rfl ?_);refine rtD ?_
   show SV.c (.bool _)=_
   rw[z3x,if_neg (show ¬ n< 0 by omega)]
   first|(rw[hb1];rfl)|(simp[hb1];done)|(simp_all;done)


end Go.Proofs.YtppmnaoollkboaaDoor

namespace Go.Proofs.YtppmnaoollkboaaDoor
set_option linter.all false
open Go.Ab Go.RowKit

open Go.Aut
end Go.Proofs.YtppmnaoollkboaaDoor

namespace Go.Proofs.YtppmnaoollkboaaDoor
set_option linter.all false
open Go.Ab Go.RowKit

open Go.Aut
attribute [local irreducible] z0o z0y zl z08 z0v putB
noncomputable def gh9:Ctx:={ P:=Tryd.prog,ty:=ty,glob:=gl,fs:=[(30,.data canonS)] }
theorem z0u:gh9.OK:=⟨tyOK,⟨⟨z0b Tryd.func30 kR rfl,canon_ok⟩,trivial⟩,mixed⟩
@[simp] theorem gh9_ty:gh9.ty=ty:=rfl

def wrtB(r:Rul)(n:Int)(s:Sta):Bool:=(z24 r s).2&&decide ((z24 r s).1=n)
def dpR(r:Rul):Cell:=.dp (rulC r) 0
def dpI(n:Int):Cell:=.dp (.ints .i64 [n]) 0
noncomputable def gh8:Ctx:={ P:=Tryd.prog,ty:=ty,glob:=gl,fs:=[(113,.data zp8)] }
theorem z6y:gh8.OK:=⟨tyOK,⟨⟨z0b Tryd.func113 kR rfl,zmm⟩,trivial⟩,mixed⟩
@[simp] theorem gh8_ty:gh8.ty=ty:=rfl

def wr1S:QSpec:=fun vs K=>∃ (r:Rul) (n:Int) (s:Sta),vs=[staV s,.c (dpR r),.c (dpI n)]∧K (.c (.bool (wrtB r n s)))
theorem wr1_ok:z1s Tryd.prog gl 115 wr1S:=by
 refine z1r (Γ:=gh8) (N:=19) Tryd.func115 rfl rfl fun vs K h=>?_;obtain⟨r,n,s,rfl,h⟩:=h;refine⟨_,h,rfl,by simp,fun w I=>?_⟩;refine srR z6y fun _ K2=>?_
 iterate 2 refine zby ?_
 refine s_n K2 ?_;refine srR z6y fun _ K4=>?_
 iterate 2 refine zby ?_
 refine sXEUf_12 ?_;refine⟨r,s,rfl,?_⟩;refine DUf_0 ?_
 first|refine exI ?_|(intro cap2 hcap2;refine exI ?_)
 iterate 5 refine zby ?_
 refine s_n K4 ?_;refine srR z6y fun _ K6=>?_;refine zby ?_;refine sXEUf_12 ?_;refine exB (fun hb1=>?_) (fun hb1=>?_)
 ·try simp only[dQ,reduceIte]at hb1
  iterate 3 refine z5s ?_
  iterate 2 refine zby ?_
  refine s_n K6 ?_;refine z0e (z0d z6y (fun _ _ h=>h) (by first|rfl|assumption) [.tmp 4] rfl ?_);refine rtD ?_
  show SV.c (.bool _)=_
  rw[wrtB]
  first|(rw[hb1];rfl)|(simp[hb1];done)|(simp_all;done)
 ·try simp only[dQ,reduceIte]at hb1
  iterate 3 refine sN ?_
  iterate 2 refine zby ?_
  refine s_n K6 ?_;refine z0e (z0d z6y (fun _ _ h=>h) (by first|rfl|assumption) [.tmp 4] rfl ?_);refine rtD ?_
  show SV.c (.bool _)=_
  rw[wrtB]
  first|(rw[hb1];rfl)|(simp[hb1];done)|(simp_all;done)

def tx1S:QSpec:=fun vs K=>∃ (r:Rul) (n:Int) (s:Sta),vs=[staV s,.c (dpR r),.c (dpI n)]∧K (.c (.bool (wrtB r n s)))
theorem tx1_ok:z1s Tryd.prog gl 121 tx1S:=by
 refine z1r (Γ:=gh8) (N:=19) Tryd.func121 rfl rfl fun vs K h=>?_;obtain⟨r,n,s,rfl,h⟩:=h;refine⟨_,h,rfl,by simp,fun w I=>?_⟩;refine srR z6y fun _ K2=>?_
 iterate 2 refine zby ?_
 refine s_n K2 ?_;refine srR z6y fun _ K4=>?_
 iterate 2 refine zby ?_
 refine sXEUf_12 ?_;refine⟨r,s,rfl,?_⟩;refine DUf_0 ?_
 first|refine exI ?_|(intro cap2 hcap2;refine exI ?_)
 iterate 5 refine zby ?_
 refine s_n K4 ?_;refine srR z6y fun _ K6=>?_;refine zby ?_;refine sXEUf_12 ?_;refine exB (fun hb1=>?_) (fun hb1=>?_)
 ·try simp only[dQ,reduceIte]at hb1
  iterate 3 refine z5s ?_
  iterate 2 refine zby ?_
  refine s_n K6 ?_;refine z0e (z0d z6y (fun _ _ h=>h) (by first|rfl|assumption) [.tmp 4] rfl ?_);refine rtD ?_
  show SV.c (.bool _)=_
  rw[wrtB]
  first|(rw[hb1];rfl)|(simp[hb1];done)|(simp_all;done)
 ·try simp only[dQ,reduceIte]at hb1
  iterate 3 refine sN ?_
  iterate 2 refine zby ?_
  refine s_n K6 ?_;refine z0e (z0d z6y (fun _ _ h=>h) (by first|rfl|assumption) [.tmp 4] rfl ?_);refine rtD ?_
  show SV.c (.bool _)=_
  rw[wrtB]
  first|(rw[hb1];rfl)|(simp[hb1];done)|(simp_all;done)


end Go.Proofs.YtppmnaoollkboaaDoor

namespace Go.Proofs.YtppmnaoollkboaaDoor
set_option linter.all false
open Go.Ab Go.RowKit

open Go.Aut
inductive Ky where
  |st|dd|sa
  |wr (m:Int)
  |nm (d n:Int)
deriving DecidableEq
structure Inv9(r:Rul)(s:Sta):Prop where
  ok:s.ok
  m:s.mod≤r.top
  z0:s.digits=0→s=sta0
  nm:s.n≤r.top→s.mod=s.n
  zn:1≤s.digits→s.n=0→s.zero=true
  z1:s.digits=1→s.zero=true→s.n=0
theorem zjy{r:Rul}(hr:r.ok):Inv9 r sta0:=by
  have:=hr.t1
  refine⟨zjv,?_,fun _=>rfl,fun _=>rfl,fun h=>?_,fun h=>?_⟩
  · show(0:Int)≤r.top;omega
  · exact absurd h (by decide)
  · exact absurd h (by decide)
theorem nmul{r:Rul}(hr:r.ok){n:Int}(h:0≤n):0≤n*r.base∧n≤n*r.base∧(n=0∨10≤n*r.base):=by
  rcases hr.base with e|e<;>rw[e]<;>omega
theorem zrj{r:Rul}{s:Sta}{d:Int}(hr:r.ok)(h:Inv9 r s)(h0:0≤d):Inv9 r (z0w r s d):=by
  have hok:=zgp hr h.ok h0
  obtain⟨h1,h2,h3,h4,h5,h6⟩:=h.ok;obtain⟨b1,b2,b3⟩:=nmul hr h3
  have ht:=hr.t1
  have ht2:=hr.t2
  have hm1:=Int.emod_nonneg (s.mod*r.base+d) (b:=r.top+1) (by omega)
  have hm2:=Int.emod_lt_of_pos (s.mod*r.base+d) (b:=r.top+1) (by omega)
  have hd:(z0w r s d).digits=min (s.digits+1) 7:=rfl
  have hn:(z0w r s d).n=min (s.n*r.base+d) 51:=rfl
  have hm:(z0w r s d).mod=(s.mod*r.base+d)%(r.top+1):=rfl
  have hz:(z0w r s d).zero=if s.digits=0 then decide (d=0)else s.zero:=rfl
  refine⟨hok,?_,fun e=>?_,fun e=>?_,fun e1 e2=>?_,fun e1 e2=>?_⟩
  · rw[hm];omega
  · rw[hd]at e;omega
  · rw[hn]at e
    rw[hn,hm,h.nm (by omega),Int.emod_eq_of_lt (by omega) (by omega)]
    omega
  · rw[hn]at e2
    rw[hz]
    by_cases e:s.digits=0
    · rw[if_pos e,decide_eq_true (show d=0 by omega)]
    · rw[if_neg e];exact h.zn (by omega) (by omega)
  · rw[hd]at e1
    have e:s.digits=0:=by omega
    rw[hz,if_pos e]at e2
    have e2:=of_decide_eq_true e2
    have:=h.z0 e
    subst this;rw[hn,e2,show sta0.n=0 from rfl,Int.zero_mul]
    rfl
def kyOf(r:Rul)(s:Sta):Ky:=if s.digits=0 then .st else if kd9 r s=true then .dd else if ko9 r s=true then(if r.over=0 then .dd else if r.over=1 then .sa else .wr s.mod)else .nm s.digits s.n
def deadS:Sta:=⟨-1,false,0,0⟩
def encK9:Ky→Sta
  | .st=>sta0
  | .dd=>deadS
  | .sa=>⟨-2,false,0,0⟩
  | .wr m=>⟨-3,false,0,m⟩
  | .nm d n=>⟨d,decide (n=0),n,n⟩
def KOK(r:Rul):Ky→Prop
  | .st=>True
  | .dd=>True
  | .sa=>r.over=1
  | .wr m=>r.over=2∧0≤m∧m≤r.top
  | .nm d n=>1≤d∧d≤r.digits∧0≤n∧n≤r.top∧(n=0→r.zeros=false→d=1)
theorem zgr{r:Rul}{s:Sta}:ko9 r s=true↔r.digits< s.digits∨r.top< s.n:=by simp[ko9]
theorem zdf{r:Rul}{s:Sta}:ko9 r s=false↔s.digits≤r.digits∧s.n≤r.top:=by
  rw[ko9,Bool.or_eq_false_iff,decide_eq_false_iff_not,decide_eq_false_iff_not];omega
theorem z6i{r:Rul}{s:Sta}:kd9 r s=true↔s.zero=true∧1< s.digits∧r.zeros=false:=by
  rw[kd9,Bool.and_eq_true,Bool.and_eq_true,decide_eq_true_eq,Bool.not_eq_true',and_assoc]
theorem key_enc{r:Rul}{s:Sta}(hr:r.ok)(h:Inv9 r s):keyN r s=encK9 (kyOf r s):=by
  rw[ze3,kyOf]
  by_cases e0:s.digits=0
  · rw[if_pos e0,if_pos e0];exact h.z0 e0
  rw[if_neg e0,if_neg e0]
  by_cases e1:kd9 r s=true
  · rw[if_pos e1,if_pos e1];rfl
  rw[if_neg e1,if_neg e1]
  by_cases e2:ko9 r s=true
  · rw[if_pos e2,if_pos e2]
    by_cases e3:r.over=0
    · rw[if_pos e3,if_pos e3];rfl
    rw[if_neg e3,if_neg e3]
    by_cases e4:r.over=1
    · rw[if_pos e4,if_pos e4];rfl
    · rw[if_neg e4,if_neg e4];rfl
  · rw[if_neg e2,if_neg e2]
    obtain⟨g1,g2⟩:=zdf.1 (by simpa using e2);obtain⟨h1,h2,h3,h4,h5,h6⟩:=h.ok
    have hm:=h.nm g2
    show(⟨s.digits,if 0< s.n then false else s.zero,s.n,s.mod⟩:Sta)=⟨s.digits,decide (s.n=0),s.n,s.n⟩
    rw[hm]
    by_cases e5:0< s.n
    · rw[if_pos e5,decide_eq_false (by omega)]
    · rw[if_neg e5,h.zn (by omega) (by omega),decide_eq_true (by omega)]
theorem ky_ok{r:Rul}{s:Sta}(hr:r.ok)(h:Inv9 r s):KOK r (kyOf r s):=by
  obtain⟨h1,h2,h3,h4,h5,h6⟩:=h.ok
  have ho1:=hr.o1
  have ho2:=hr.o2
  rw[kyOf]
  by_cases e0:s.digits=0
  · rw[if_pos e0];trivial
  rw[if_neg e0]
  by_cases e1:kd9 r s=true
  · rw[if_pos e1];trivial
  rw[if_neg e1]
  by_cases e2:ko9 r s=true
  · rw[if_pos e2]
    by_cases e3:r.over=0
    · rw[if_pos e3];trivial
    rw[if_neg e3]
    by_cases e4:r.over=1
    · rw[if_pos e4];exact e4
    · rw[if_neg e4];exact⟨by omega,h5,h.m⟩
  · rw[if_neg e2]
    obtain⟨g1,g2⟩:=zdf.1 (by simpa using e2);refine⟨by omega,g1,h3,g2,fun e5 e6=>?_⟩
    have hz:=h.zn (by omega) e5
    rw[z6i]at e1
    have:¬ 1< s.digits:=fun e7=>e1 ⟨hz,e7,e6⟩
    omega
theorem encK_inj{r:Rul}{k j:Ky}(hk:KOK r k)(hj:KOK r j)(e:encK9 k=encK9 j):k=j:=by
  have hd:=congrArg Sta.digits e
  have hn:=congrArg Sta.n e
  have hm:=congrArg Sta.mod e
  cases k<;>cases j<;>simp only[encK9,sta0,deadS,KOK]at hd hn hm hk hj<;>first|rfl|omega|(subst hm;rfl)|(subst hd;subst hn;rfl)
def numK(r:Rul)(d x:Int):Ky:=if r.digits< d∨r.top< x then(if r.over=0 then .dd else if r.over=1 then .sa else .wr (x%(r.top+1)))else .nm d x
def stepK(r:Rul):Ky→Int→Ky
  | .st,v=>numK r 1 v
  | .dd,_=>.dd
  | .sa,_=>.sa
  | .wr m,v=>.wr ((m*r.base+v)%(r.top+1))
  | .nm d n,v=>if n=0∧r.zeros=false then .dd else numK r (d+1) (n*r.base+v)
def valK(r:Rul):Ky→Int×Bool
  | .st=>(0,false)
  | .dd=>(0,false)
  | .sa=>(r.top,true)
  | .wr m=>(m,true)
  | .nm _ n=>(n,true)
theorem zy5{r:Rul}{s:Sta}(hr:r.ok)(h:Inv9 r s):z24 r s=valK r (kyOf r s):=by
  have ho1:=hr.o1
  have ho2:=hr.o2
  rw[z24,kyOf]
  by_cases e0:s.digits=0
  · rw[if_pos (.inl e0),if_pos e0];rfl
  rw[if_neg e0]
  by_cases e1:kd9 r s=true
  · rw[if_pos (.inr (z6i.1 e1)),if_pos e1];rfl
  rw[if_neg (fun hh=>hh.elim e0 fun hh=>e1 (z6i.2 hh)),if_neg e1]
  by_cases e2:ko9 r s=true
  · have e2':=zgr.1 e2
    rw[if_neg (by omega),if_pos e2]
    by_cases e3:r.over=0
    · rw[if_neg (by omega),if_neg (by omega),if_pos e3];rfl
    rw[if_neg e3]
    by_cases e4:r.over=1
    · rw[if_neg (by omega),if_pos e4,if_pos e4];rfl
    · rw[if_pos (by omega),if_neg e4];rfl
  · rw[if_pos (zdf.1 (by simpa using e2)),if_neg e2];rfl
theorem zrk {r:Rul} {s:Sta} {v:Int} (hr:r.ok) (h:Inv9 r s) (h0:0≤v) (h15:v≤15):kyOf r (z0w r s v)=stepK r (kyOf r s) v:=by
  obtain⟨h1,h2,h3,h4,h5,h6⟩:=h.ok;obtain⟨b1,b2,b3⟩:=nmul hr h3
  have ho1:=hr.o1
  have ho2:=hr.o2
  have hd1:=hr.d1
  have hd2:=hr.d2
  have ht1:=hr.t1
  have ht2:=hr.t2
  have hd:(z0w r s v).digits=min (s.digits+1) 7:=rfl
  have hn:(z0w r s v).n=min (s.n*r.base+v) 51:=rfl
  have hm:(z0w r s v).mod=(s.mod*r.base+v)%(r.top+1):=rfl
  have hz:(z0w r s v).zero=if s.digits=0 then decide (v=0)else s.zero:=rfl
  have hn0:(z0w r s v).digits≠0:=by rw[hd];omega
  rw[kyOf,if_neg hn0]
  by_cases e0:s.digits=0
  · have e:=h.z0 e0
    have hks:kyOf r s= .st:=by rw[kyOf,if_pos e0]
    have s0:s.n=0:=by rw[e];rfl
    have m0:s.mod=0:=by rw[e];rfl
    have hkd:¬ kd9 r (z0w r s v)=true:=fun hh=>by
      have:=(z6i.1 hh).2.1
      rw[hd]at this;omega
    rw[hks,if_neg hkd]
    show _=numK r 1 v
    rw[s0,Int.zero_mul]at hn;rw[m0,Int.zero_mul]at hm
    have hv1:min (s.digits+1) 7=1:=by omega
    have hv2:min (0+v) 51=v:=by omega
    rw[hv1]at hd;rw[hv2]at hn;rw[Int.zero_add]at hm;rw[numK]
    by_cases e2:ko9 r (z0w r s v)=true
    · have e3:=zgr.1 e2
      rw[hd,hn]at e3;rw[if_pos e2,if_pos e3,hm]
    · have e3:=zdf.1 (by simpa using e2)
      rw[hd,hn]at e3;rw[if_neg e2,if_neg (by omega),hd,hn]
  · have hz:(z0w r s v).zero=s.zero:=by rw[hz,if_neg e0]
    have hks:kyOf r s=if kd9 r s=true then .dd else if ko9 r s=true then(if r.over=0 then .dd else if r.over=1 then .sa else .wr s.mod)else .nm s.digits s.n:=by rw[kyOf,if_neg e0]
    by_cases e1:kd9 r s=true
    · rw[hks,if_pos e1]
      obtain⟨a1,a2,a3⟩:=z6i.1 e1;rw[if_pos (z6i.2 ⟨by rw[hz];exact a1,by rw[hd];omega,a3⟩)];rfl
    rw[hks,if_neg e1]
    by_cases e2:ko9 r s=true
    · have e3:=zgr.1 e2
      have e4:ko9 r (z0w r s v)=true:=zgr.2 (by rw[hd,hn];omega)
      have e5:¬ kd9 r (z0w r s v)=true:=fun hh=>by
        obtain⟨a1,a2,a3⟩:=z6i.1 hh;rw[hz]at a1
        have:¬ 1< s.digits:=fun e7=>e1 (z6i.2 ⟨a1,e7,a3⟩)
        have:=h.z1 (by omega) a1
        omega
      rw[if_neg e5,if_pos e4,if_pos e2]
      by_cases e6:r.over=0
      · rw[if_pos e6,if_pos e6];rfl
      rw[if_neg e6,if_neg e6]
      by_cases e7:r.over=1
      · rw[if_pos e7,if_pos e7];rfl
      · rw[if_neg e7,if_neg e7,hm];rfl
    · have e3:=zdf.1 (by simpa using e2)
      rw[if_neg e2]
      show _=if s.n=0∧r.zeros=false then Ky.dd else numK r (s.digits+1) (s.n*r.base+v)
      by_cases e4:s.n=0∧r.zeros=false
      · rw[if_pos e4,if_pos (z6i.2 ⟨by rw[hz];exact h.zn (by omega) e4.1,by rw[hd];omega,e4.2⟩)]
      · have e5:¬ kd9 r (z0w r s v)=true:=fun hh=>by
          obtain⟨a1,a2,a3⟩:=z6i.1 hh;rw[hz]at a1
          have:¬ 1< s.digits:=fun e7=>e1 (z6i.2 ⟨a1,e7,a3⟩)
          have:=h.z1 (by omega) a1
          exact e4 ⟨this,a3⟩
        have hmm:=h.nm e3.2
        rw[hmm]at hm;rw[if_neg e4,if_neg e5,numK]
        have hd':min (s.digits+1) 7=s.digits+1:=by omega
        rw[hd']at hd
        by_cases e6:ko9 r (z0w r s v)=true
        · have e7:=zgr.1 e6
          rw[hd,hn]at e7;rw[if_pos e6,if_pos (show r.digits< s.digits+1∨r.top< s.n*r.base+v by omega),hm]
        · have e7:=zdf.1 (by simpa using e6)
          rw[hd,hn]at e7;rw[if_neg e6,if_neg (show ¬ (r.digits< s.digits+1∨r.top< s.n*r.base+v) by omega),hd,hn]
          congr 1
          omega
theorem zy6 {r:Rul} {d x:Int} (hr:r.ok) (h1:1≤d) (h2:0≤x) (h3:x=0→r.zeros=false→d=1):KOK r (numK r d x):=by
  have ho1:=hr.o1
  have ho2:=hr.o2
  have ht1:=hr.t1
  rw[numK]
  split
  · split
    · trivial
    · split
      · assumption
      · have hm1:=Int.emod_nonneg x (b:=r.top+1) (by omega)
        have hm2:=Int.emod_lt_of_pos x (b:=r.top+1) (by omega)
        exact⟨by omega,hm1,by omega⟩
  · exact⟨h1,by omega,h2,by omega,h3⟩
theorem zpb{r:Rul}{k:Ky}{v:Int}(hr:r.ok)(hk:KOK r k)(h0:0≤v):KOK r (stepK r k v):=by
  have ht1:=hr.t1
  cases k with
  |st=>exact zy6 hr (by omega) h0 fun _ _=>rfl
  |dd=>trivial
  |sa=>exact hk
  | wr m=>
    have hm1:=Int.emod_nonneg (m*r.base+v) (b:=r.top+1) (by omega)
    have hm2:=Int.emod_lt_of_pos (m*r.base+v) (b:=r.top+1) (by omega)
    exact⟨hk.1,hm1,by omega⟩
  | nm d n=>
    obtain⟨k1,k2,k3,k4,k5⟩:=hk;obtain⟨b1,b2,b3⟩:=nmul hr k3
    show KOK r (if n=0∧r.zeros=false then Ky.dd else numK r (d+1) (n*r.base+v))
    split
    · trivial
    · rename_i hn
      refine zy6 hr (by omega) (by omega) fun e1 e2=>?_;exact absurd ⟨by omega,e2⟩ hn
def byteK(r:Rul)(k:Ky)(b:UInt8):Ky:=if z0t r.base b< 0 then .dd else stepK r k (z0t r.base b)
def wordK(r:Rul)(l:List UInt8):Ky:=l.foldl (byteK r) .st
theorem z9z(r:Rul):∀ l:List UInt8,l.foldl (byteK r) .dd= .dd
  |[]=>rfl
  | b::l=>by
    have:byteK r .dd b= .dd:=by rw[byteK];split<;>rfl
    rw[List.foldl_cons,this,z9z r l]
theorem zrl{r:Rul}(hr:r.ok):∀ (l:List UInt8) (s:Sta),Inv9 r s→match l.foldl (stepO r) (some s) with
    |none=>l.foldl (byteK r) (kyOf r s)= .dd
    |some q=>Inv9 r q∧kyOf r q=l.foldl (byteK r) (kyOf r s)
  |[],s,h=>⟨h,rfl⟩
  | b ::l,s,h=>by
    rw[List.foldl_cons,List.foldl_cons]
    by_cases e:z0t r.base b< 0
    · have e1:stepO r (some s) b=none:=if_pos e
      have e2:byteK r (kyOf r s) b= .dd:=if_pos e
      rw[e1,e2,zc6];exact z9z r l
    · have e1:stepO r (some s) b=some (z0w r s (z0t r.base b)):=if_neg e
      have e2:byteK r (kyOf r s) b=kyOf r (z0w r s (z0t r.base b)):=by rw[zrk hr h (by omega) (zeo _ _)];exact if_neg e
      rw[e1,e2];exact zrl hr l _ (zrj hr h (by omega))
theorem z6z{r:Rul}(hr:r.ok)(l:List UInt8):readN r l=valK r (wordK r l):=by
  have h:=zrl hr l sta0 (zjy hr)
  have e:kyOf r sta0= .st:=if_pos rfl
  rw[e]at h;rw[readN,if_pos (z57.2 hr),wordK]
  have hk:readK r l=l.foldl (stepO r) (some sta0):=rfl
  cases hq:l.foldl (stepO r) (some sta0) with
  |none=>rw[hq]at h hk;rw[hk];rw[show l.foldl (byteK r) Ky.st= .dd from h];rfl
  |some q=>rw[hq]at h hk;rw[hk, ←h.2];exact zy5 hr h.1

end Go.Proofs.YtppmnaoollkboaaDoor

namespace Go.Proofs.YtppmnaoollkboaaDoor
set_option linter.all false
open Go.Ab Go.RowKit

open Go.Aut
def nB(r:Rul):Nat:=r.base.toNat
def digC(r:Rul)(b:UInt8):Nat:=if z0t r.base b< 0 then nB r else(z0t r.base b).toNat
theorem z4r{r:Rul}(hr:r.ok):((nB r:Nat):Int)=r.base∧nB r≤16∧10≤nB r:=by
  have e:nB r=r.base.toNat:=rfl
  rcases hr.base with h|h<;>rw[h]at e ⊢ <;>rw[e]<;>decide
theorem digit10:∀ n,n< 256→z0t 10 (UInt8.ofNat n)< 10:=by decide+kernel
theorem digit16:∀ n,n< 256→z0t 16 (UInt8.ofNat n)< 16:=by decide+kernel
theorem z70{r:Rul}(hr:r.ok)(b:UInt8):z0t r.base b< r.base:=by
  have e:b=UInt8.ofNat b.toNat:=(UInt8.ofNat_toNat (x:=b)).symm
  rw[e]
  rcases hr.base with h|h<;>rw[h]
  · exact digit10 _ b.toNat_lt
  · exact digit16 _ b.toNat_lt
theorem zy7{r:Rul}(hr:r.ok)(b:UInt8):digC r b< nB r+1:=by
  have h:=z70 hr b
  obtain⟨h1,h2,h3⟩:=z4r hr;rw[digC]
  split<;>omega
theorem on10:∀ c,c< 11→∃ b,b< 256∧(if z0t 10 (UInt8.ofNat b)< 0 then 10 else(z0t 10 (UInt8.ofNat b)).toNat)=c:=by
  intro c hc;exact⟨if c=10 then 0 else 48+c,by split<;>omega,(by decide+kernel:∀ c,c< 11→(if z0t 10 (UInt8.ofNat (if c=10 then 0 else 48+c))< 0 then 10 else(z0t 10 (UInt8.ofNat (if c=10 then 0 else 48+c))).toNat)=c) c hc⟩
theorem on16:∀ c,c< 17→∃ b,b< 256∧(if z0t 16 (UInt8.ofNat b)< 0 then 16 else(z0t 16 (UInt8.ofNat b)).toNat)=c:=by
  intro c hc;exact⟨if c=16 then 0 else if c< 10 then 48+c else 55+c,by split<;>(try split)<;>omega,(by decide+kernel:∀ c,c< 17→(if z0t 16 (UInt8.ofNat (if c=16 then 0 else if c< 10 then 48+c else 55+c))< 0 then 16 else(z0t 16 (UInt8.ofNat (if c=16 then 0 else if c< 10 then 48+c else 55+c))).toNat)=c) c hc⟩
theorem zpc{r:Rul}(hr:r.ok){c:Nat}(hc:c< nB r+1):∃ b,b< 256∧digC r (UInt8.ofNat b)=c:=by
  rcases hr.base with h|h
  · have e:nB r=10:=by rw[nB,h];rfl
    rw[e]at hc;obtain⟨b,hb,hh⟩:=on10 c hc;exact⟨b,hb,by rw[digC,h,e];exact hh⟩
  · have e:nB r=16:=by rw[nB,h];rfl
    rw[e]at hc;obtain⟨b,hb,hh⟩:=on16 c hc;exact⟨b,hb,by rw[digC,h,e];exact hh⟩
structure Grown(r:Rul)(ks:List Ky):Prop where
  nd:ks.Nodup
  ok:∀ k∈ks,KOK r k
  z:ks[0]? =some .st
  d:ks[1]? =some .dd
def RowOK(r:Rul)(ks:List Ky)(k:Ky)(v:Nat)(row:List Int):Prop:=row.length=nB r+1∧∀ c,c< nB r+1→∃ j:Nat,row.getD c 0=(j:Int)∧ks[j]? =some (if c< v then stepK r k (c:Nat)else .dd)
theorem zmo{r:Rul}{ks:List Ky}{k:Ky}{v:Nat}{row:List Int}(h:RowOK r ks k v row)(l:List Ky):RowOK r (ks++l) k v row:=by
  refine⟨h.1,fun c hc=>?_⟩;obtain⟨j,h1,h2⟩:=h.2 c hc;exact⟨j,h1,by rw[List.getElem?_append_left (List.getElem?_eq_some_iff.1 h2).1];exact h2⟩
theorem zto{r:Rul}{ks:List Ky}{k:Ky}(h:Grown r ks):RowOK r ks k 0 (List.replicate (nB r+1) 1):=by
  refine⟨by simp,fun c hc=>⟨1,?_,by rw[if_neg (by omega)];exact h.d⟩⟩;rw[List.getD_eq_getElem?_getD,List.getElem?_replicate,if_pos hc];rfl
theorem rowOK_dd{r:Rul}{ks:List Ky}{v u:Nat}{row:List Int}(h:RowOK r ks .dd v row):RowOK r ks .dd u row:=by
  refine⟨h.1,fun c hc=>?_⟩;obtain⟨j,h1,h2⟩:=h.2 c hc;refine⟨j,h1,h2.trans (congrArg some ?_)⟩
  have e:stepK r .dd (c:Nat)= .dd:=rfl
  rw[e,ite_self,ite_self]
theorem zmp{r:Rul}{ks:List Ky}{k:Ky}{v j:Nat}{row:List Int}(h:RowOK r ks k v row)(hv:v< nB r)(hj:ks[j]? =some (stepK r k (v:Nat))):RowOK r ks k (v+1) (row.set v (j:Int)):=by
  refine⟨by rw[List.length_set];exact h.1,fun c hc=>?_⟩;rw[z19 (by rw[h.1];exact hc)]
  by_cases e:v=c
  · subst e
    exact⟨j,if_pos rfl,by rw[if_pos (by omega)];exact hj⟩
  · rw[if_neg e]
    obtain⟨i,h1,h2⟩:=h.2 c hc;refine⟨i,h1,h2.trans (congrArg some ?_)⟩
    by_cases e2:c< v
    · rw[if_pos e2,if_pos (by omega)]
    · rw[if_neg e2,if_neg (by omega)]
theorem zpd{r:Rul}:Grown r [.st,.dd]:=⟨by simp,fun k hk=>by
  rcases List.mem_cons.1 hk with rfl|hk
  · trivial
  · rw[List.mem_singleton.1 hk];trivial,rfl,rfl⟩
theorem ztp{r:Rul}{ks:List Ky}{k:Ky}(h:Grown r ks)(hk:KOK r k)(hn:k∉ks):Grown r (ks++[k]):=by
  refine⟨List.nodup_append.2 ⟨h.nd,by simp,fun a ha b hb e=>?_⟩,fun x hx=>?_,?_,?_⟩
  · rw[List.mem_singleton.1 hb]at e
    exact hn (e▸ha)
  · rcases List.mem_append.1 hx with hx|hx
    · exact h.ok x hx
    · rw[List.mem_singleton.1 hx];exact hk
  · rw[List.getElem?_append_left (List.getElem?_eq_some_iff.1 h.z).1];exact h.z
  · rw[List.getElem?_append_left (List.getElem?_eq_some_iff.1 h.d).1];exact h.d
def numKy:Ky→Nat
  | .st=>0
  | .dd=>1
  | .sa=>2
  | .wr m=>3+m.toNat
  | .nm d n=>54+d.toNat*51+n.toNat
theorem zrm{r:Rul}(hr:r.ok){k:Ky}(h:KOK r k):numKy k< 411:=by
  have h1:=hr.d2
  have h2:=hr.t2
  cases k<;>simp only[KOK]at h<;>simp only[numKy]<;>omega
theorem zy8{r:Rul}(hr:r.ok){k j:Ky}(hk:KOK r k)(hj:KOK r j)(e:numKy k=numKy j):k=j:=by
  have h1:=hr.d2
  have h2:=hr.t2
  cases k<;>cases j<;>simp only[KOK]at hk hj<;>simp only[numKy]at e<;>first|rfl|omega|(congr 1<;>omega)
theorem zmq{r:Rul}(hr:r.ok){ks:List Ky}(h:Grown r ks):ks.length≤411:=by
  have hn:(ks.map numKy).Nodup:=by
    rw[List.nodup_iff_pairwise_ne,List.pairwise_map]
    have:=List.nodup_iff_pairwise_ne.1 h.nd
    refine List.Pairwise.imp_of_mem (fun {a b} ha hb hne e=>hne (zy8 hr (h.ok a ha) (h.ok b hb) e)) this
  have:=z6t hn (K:=411) fun x hx=>by
    obtain⟨k,hk,rfl⟩:=List.mem_map.1 hx;exact zrm hr (h.ok k hk)
  rwa [List.length_map]at this
structure TabOK(r:Rul)(P:Int×Bool→Bool)(d:Dfa)(ks:List Ky):Prop where
  gr:Grown r ks
  ncE:d.nc=nB r+1
  clen:d.cls.length=(nB r+1)*4
  cl:∀ c b,c< nB r+1→b< 256→(hasC d.cls c b=true↔digC r (UInt8.ofNat b)=c)
  nlen:d.next.length=ks.length
  rows:∀ i k,ks[i]? =some k→RowOK r ks k (nB r) (d.next.getD i [])
  alen:d.acc.length=ks.length
  acc:∀ i k,ks[i]? =some k→d.acc.getD i false=P (valK r k)
theorem zjz{r:Rul}{P:Int×Bool→Bool}{d:Dfa}{ks:List Ky}(hr:r.ok)(h:TabOK r P d ks):d.ok:=by
  obtain⟨b1,b2,b3⟩:=z4r hr
  have hz:=(List.getElem?_eq_some_iff.1 h.gr.z).1
  refine⟨by rw[h.ncE];exact h.clen,by rw[h.nlen];exact hz,by rw[h.alen,h.nlen],by rw[h.ncE];omega,by rw[h.ncE];omega,fun b hb=>⟨digC r (UInt8.ofNat b),by rw[h.ncE];exact zy7 hr _,fun x hx=>?_⟩,fun c hc=>?_,fun row hrow=>?_⟩
  · rw[h.cl x b (by rw[←h.ncE];exact hx) hb];exact eq_comm
  · rw[h.ncE]at hc
    obtain⟨b,hb,e⟩:=zpc hr hc;exact⟨b,hb,(h.cl c b hc hb).2 e⟩
  · obtain⟨i,hi,rfl⟩:=List.mem_iff_getElem.1 hrow
    have hi':i< ks.length:=by rw[←h.nlen];exact hi
    obtain⟨h1,h2⟩:=h.rows i _ (List.getElem?_eq_getElem hi');rw[z49 hi]at h1 h2;refine⟨by rw[h1,h.ncE],fun x hx=>?_⟩;obtain⟨c,hc,rfl⟩:=List.mem_iff_getElem.1 hx;obtain⟨j,e,hj⟩:=h2 c (by rw[←h1];exact hc);rw[z49 hc]at e
    have:=(List.getElem?_eq_some_iff.1 hj).1
    rw[h.nlen]
    omega
section
variable {r:Rul} {P:Int×Bool→Bool} {d:Dfa} {ks:List Ky}
theorem z58(h:TabOK r P d ks){s c:Nat}{k:Ky}(hs:ks[s]? =some k)(hc:c< nB r+1):ks[nextD d s c]? =some (if c< nB r then stepK r k (c:Nat)else .dd):=by
  obtain⟨j,e,hj⟩:=(h.rows s k hs).2 c hc
  have:nextD d s c=j:=by rw[nextD,e];rfl
  rw[this];exact hj
theorem zmr(hr:r.ok)(h:TabOK r P d ks):∀ (w:List Nat) (s:Nat) (k:Ky),Bytes w→ks[s]? =some k→ks[(tblD d).run s w]? =some ((w.map UInt8.ofNat).foldl (byteK r) k)
  |[],_,_,_,hs=>hs
  | b::w,s,k,hw,hs=>by
    have hb:=hw b List.mem_cons_self
    have hok:=zjz hr h
    have hcl:=zy7 hr (UInt8.ofNat b)
    have hcell:cellD d b=digC r (UInt8.ofNat b):=(zbj hok hb (by rw[h.ncE];exact hcl)).2 ((h.cl _ b hcl hb).2 rfl)
    have hn:=z58 h hs hcl
    refine zmr hr h w _ _ (fun x hx=>hw x (List.mem_cons_of_mem _ hx)) ?_
    show ks[nextD d s (cellD d b)]? =some (byteK r k (UInt8.ofNat b))
    rw[hcell,hn]
    congr 1
    have hd:=z70 hr (UInt8.ofNat b)
    obtain⟨b1,b2,b3⟩:=z4r hr;rw[byteK,digC]
    by_cases e:z0t r.base (UInt8.ofNat b)< 0
    · rw[if_pos e,if_pos e,if_neg (Nat.lt_irrefl _)]
    · rw[if_neg e,if_neg e,if_pos (by omega),Int.toNat_of_nonneg (by omega)]
theorem zi5(hr:r.ok)(h:TabOK r P d ks){w:List Nat}(hw:Bytes w):langD d w=P (readN r (w.map UInt8.ofNat)):=by
  have:=zmr hr h w 0 .st hw h.gr.z
  rw[z6z hr];exact h.acc _ _ this
theorem zgs(h:Grown r ks){i j:Nat}{k:Ky}(hi:ks[i]? =some k)(hj:ks[j]? =some k):i=j:=by
  obtain⟨a,e1⟩:=List.getElem?_eq_some_iff.1 hi;obtain⟨b,e2⟩:=List.getElem?_eq_some_iff.1 hj;exact(List.getElem_inj h.nd).1 (e1.trans e2.symm)
theorem zms(hr:r.ok)(h:TabOK r P d ks){e:Dfa}{g:Nat→Nat}(hh:Hom d e g)(hs:Slim e){s t:Nat}{k j:Ky}(h1:ks[s]? =some k)(h2:ks[t]? =some j)(ha:P (valK r k)=P (valK r j))(hv:∀ v,v< nB r→g (nextD d s v)=g (nextD d t v)):g s=g t:=by
  have s1:s< d.next.length:=by rw[h.nlen];exact(List.getElem?_eq_some_iff.1 h1).1
  have t1:t< d.next.length:=by rw[h.nlen];exact(List.getElem?_eq_some_iff.1 h2).1
  refine hs _ _ (hh.lt s s1) (hh.lt t t1) ?_ fun c hc=>?_
  · rw[hh.acc s s1,hh.acc t t1,accD,accD,h.acc s k h1,h.acc t j h2,ha]
  · rw[hh.nc]at hc
    rw[hh.next s c s1 hc,hh.next t c t1 hc];rw[h.ncE]at hc
    by_cases e:c< nB r
    · exact hv c e
    · have n1:=z58 h h1 hc
      have n2:=z58 h h2 hc
      rw[if_neg e]at n1 n2;rw[zgs h.gr n1 n2]
theorem zgt(h:TabOK r P d ks){e:Dfa}{g:Nat→Nat}(hh:Hom d e g)(cl:Ky→Nat)(hcl:∀ k,KOK r k→cl k< 64)(same:∀ s t k j,ks[s]? =some k→ks[t]? =some j→cl k=cl j→g s=g t):e.next.length≤64:=by
  have hex:∀ j,∃ s,j< e.next.length→s< d.next.length∧g s=j:=fun j=>by
    by_cases hj:j< e.next.length
    · obtain⟨s,hs⟩:=hh.onto j hj
      exact⟨s,fun _=>hs⟩
    · exact⟨0,fun hh=>absurd hh hj⟩
  obtain⟨f,hf⟩:=Classical.axiomOfChoice hex
  have hk:∀ j,j< e.next.length→ks[f j]? =some (ks.getD (f j) .dd):=fun j hj=>at_of (by rw[←h.nlen];exact(hf j hj).1)
  have hn:((List.range e.next.length).map fun j=>cl (ks.getD (f j) .dd)).Nodup:=by
    rw[List.nodup_iff_pairwise_ne,List.pairwise_map]
    have:=List.nodup_iff_pairwise_ne.1 (List.nodup_range (n:=e.next.length))
    refine List.Pairwise.imp_of_mem (fun {a b} ha hb hne he=>hne ?_) this
    have ha:=List.mem_range.1 ha
    have hb:=List.mem_range.1 hb
    have:=same _ _ _ _ (hk a ha) (hk b hb) he
    rw[(hf a ha).2,(hf b hb).2]at this;exact this
  have:=z6t hn (K:=64) fun x hx=>by
    obtain⟨j,hj,rfl⟩:=List.mem_map.1 hx;exact hcl _ (h.gr.ok _ (List.mem_of_getElem? (hk j (List.mem_range.1 hj))))
  rwa [List.length_map,List.length_range]at this
def clsW(r:Rul):Ky→Nat
  | .st=>0
  | .dd=>1
  | .sa=>2
  | .wr m=>4+m.toNat
  | .nm _ n=>if n=0∧r.zeros=false then 3 else 4+n.toNat
def levW:Ky→Nat
  | .nm d _=>(7 - d).toNat
  |_=>0
theorem clsW_lt(hr:r.ok)(k:Ky)(h:KOK r k):clsW r k< 64:=by
  have h2:=hr.t2
  cases k<;>simp only[KOK]at h<;>simp only[clsW]<;>(try split)<;>omega
theorem wrap_num(hr:r.ok)(ho:r.over=2){D x:Int}(hx:0≤x)(hz:¬ (x=0∧r.zeros=false))(hD:1≤D):clsW r (numK r D x)=4+(x%(r.top+1)).toNat∧levW (numK r D x)≤(7 - D).toNat:=by
  rw[numK]
  by_cases e:r.digits< D∨r.top< x
  · rw[if_pos e,if_neg (by omega),if_neg (by omega)]
    exact⟨rfl,Nat.zero_le _⟩
  · rw[if_neg e]
    refine⟨?_,Nat.le_refl _⟩;rw[Int.emod_eq_of_lt hx (by omega)];exact if_neg hz
theorem zc8(hr:r.ok)(ho:r.over=2){k:Ky}(hk:KOK r k){m:Nat}(hc:clsW r k=4+m)(v:Nat):clsW r (stepK r k (v:Nat))=4+(((m:Int)*r.base+v)%(r.top+1)).toNat∧levW (stepK r k (v:Nat))≤levW k - 1∧valK r k=((m:Int),true):=by
  have hd2:=hr.d2
  cases k with
  |st=>exact absurd hc (by simp only[clsW];omega)
  |dd=>exact absurd hc (by simp only[clsW];omega)
  |sa=>exact absurd hc (by simp only[clsW];omega)
  | wr x=>
    obtain⟨k1,k2,k3⟩:=hk
    have e:x=(m:Int):=by simp only[clsW]at hc;omega
    subst e;exact⟨rfl,Nat.zero_le _,rfl⟩
  | nm D n=>
    obtain⟨k1,k2,k3,k4,k5⟩:=hk
    have hz:¬ (n=0∧r.zeros=false):=fun hz=>by
      simp only[clsW]at hc
      rw[if_pos hz]at hc;omega
    have e:n=(m:Int):=by simp only[clsW]at hc;rw[if_neg hz]at hc;omega
    subst e;obtain⟨b1,b2,b3⟩:=nmul hr k3
    have hst:stepK r (.nm D (m:Int)) (v:Nat)=numK r (D+1) ((m:Int)*r.base+v):=if_neg hz
    rw[hst]
    have hh:=wrap_num hr ho (D:=D+1) (x:=(m:Int)*r.base+v) (by omega) (fun hz2=>hz ⟨by omega,hz2.2⟩) (by omega)
    refine⟨hh.1,Nat.le_trans hh.2 ?_,rfl⟩
    show _≤(7 - D).toNat - 1
    omega
theorem few_wrap (hr:r.ok) (ho:r.over=2) (h:TabOK r P d ks):Few d:=by
  intro e g hh hs;refine zgt h hh (clsW r) (clsW_lt hr) ?_
  have key:∀ L s t k j,ks[s]? =some k→ks[t]? =some j→clsW r k=clsW r j→levW k≤L→levW j≤L→g s=g t:=by
    intro L
    induction L with
    | zero=>
      intro s t k j h1 h2 hc l1 l2
      have hk:=h.gr.ok k (List.mem_of_getElem? h1)
      have hj:=h.gr.ok j (List.mem_of_getElem? h2)
      have hd2:=hr.d2
      have:k=j:=by
        cases k<;>cases j<;>simp only[KOK]at hk hj<;>simp only[clsW,levW]at hc l1 l2<;>first|rfl|omega|(congr 1;omega)|(split at hc<;>omega)
      subst this;rw[zgs h.gr h1 h2]
    | succ L ih=>
      intro s t k j h1 h2 hc l1 l2
      have hk:=h.gr.ok k (List.mem_of_getElem? h1)
      have hj:=h.gr.ok j (List.mem_of_getElem? h2)
      rcases Nat.lt_or_ge (clsW r k) 4 with hlt|hge
      · have:k=j:=by
          cases k<;>cases j<;>simp only[KOK]at hk hj<;>simp only[clsW]at hc hlt<;>first|rfl|omega|(split at hc<;>omega)|(split at hlt<;>omega)|skip
          rename_i D n D' n'
          have z1:n=0∧r.zeros=false:=by
            by_cases e:n=0∧r.zeros=false
            · exact e
            · rw[if_neg e]at hlt;omega
          rw[if_pos z1]at hc
          have z2:n'=0∧r.zeros=false:=by
            by_cases e:n'=0∧r.zeros=false
            · exact e
            · rw[if_neg e]at hc;omega
          obtain⟨a1,a2,a3,a4,a5⟩:=hk;obtain⟨c1,c2,c3,c4,c5⟩:=hj;rw[a5 z1.1 z1.2,c5 z2.1 z2.2,z1.1,z2.1]
        subst this;rw[zgs h.gr h1 h2]
      · obtain⟨m,hm⟩:∃ m,clsW r k=4+m:=⟨clsW r k - 4,by omega⟩
        refine zms hr h hh hs h1 h2 ?_ fun v hv=>?_
        · rw[(zc8 hr ho hk hm 0).2.2,(zc8 hr ho hj (hc▸hm) 0).2.2]
        · have n1:=z58 h h1 (c:=v) (by omega)
          have n2:=z58 h h2 (c:=v) (by omega)
          rw[if_pos hv]at n1 n2
          have w1:=zc8 hr ho hk hm v
          have w2:=zc8 hr ho hj (hc▸hm) v
          exact ih _ _ _ _ n1 n2 (w1.1.trans w2.1.symm) (by omega) (by omega)
  exact fun s t k j h1 h2 hc=>key (max (levW k) (levW j)) s t k j h1 h2 hc (Nat.le_max_left _ _) (Nat.le_max_right _ _)
def clsR(r:Rul)(P:Int×Bool→Bool):Ky→Nat
  | .st=>0
  | .dd=>1
  | .sa=>2
  | .wr _=>3
  | .nm d n=>if n=0∧r.zeros=false then 4 else if r.digits≤d∨r.top< n*r.base then(if P (n,true)=true then 5 else 6)else 7+(d*6+n).toNat
theorem clsR_lt (hr:r.ok) (k:Ky) (h:KOK r k):clsR r P k< 64:=by
  have h2:=hr.t2
  have h3:=hr.d2
  cases k with
  | nm d n=>
    obtain⟨k1,k2,k3,k4,k5⟩:=h
    simp only[clsR]
    split
    · omega
    · split
      · split<;>omega
      · rename_i hh
        rcases hr.base with e|e<;>rw[e]at hh<;>omega
  |st=>simp[clsR]
  |dd=>simp[clsR]
  |sa=>simp[clsR]
  |wr m=>simp[clsR]
theorem zy9 (hr :r.ok) (ho:r.over≠2) (h:TabOK r P d ks):Few d:=by
  intro e g hh hs;refine zgt h hh (clsR r P) (clsR_lt hr) fun s t k j h1 h2 hc=>?_
  have hk:=h.gr.ok k (List.mem_of_getElem? h1)
  have hj:=h.gr.ok j (List.mem_of_getElem? h2)
  have hr1:=hr.o1
  have hr2:=hr.o2
  have small:∀ {D n:Int},KOK r (.nm D n)→¬ (r.digits≤D∨r.top< n*r.base)→0≤n∧n≤5∧1≤D∧D≤5:=fun {D n} hk hh=>by
    obtain⟨k1,k2,k3,k4,k5⟩:=hk
    have h2:=hr.t2
    have h3:=hr.d2
    rcases hr.base with e|e<;>rw[e]at hh<;>omega
  by_cases hkj:k=j
  · subst hkj
    rw[zgs h.gr h1 h2]
  cases k with
  | nm D n=>
    cases j with
    | nm D' n'=>
      simp only[clsR]at hc
      by_cases z1:n=0∧r.zeros=false
      · rw[if_pos z1]at hc
        by_cases z2:n'=0∧r.zeros=false
        · obtain⟨a1,a2,a3,a4,a5⟩:=hk
          obtain⟨c1,c2,c3,c4,c5⟩:=hj;exact absurd (by rw[a5 z1.1 z1.2,c5 z2.1 z2.2,z1.1,z2.1]) hkj
        · rw[if_neg z2]at hc
          split at hc
          · split at hc<;>omega
          · omega
      · rw[if_neg z1]at hc
        by_cases z2:n'=0∧r.zeros=false
        · rw[if_pos z2]at hc
          split at hc
          · split at hc<;>omega
          · omega
        · rw[if_neg z2]at hc
          by_cases y1:r.digits≤D∨r.top< n*r.base
          · rw[if_pos y1]at hc
            by_cases y2:r.digits≤D'∨r.top< n'*r.base
            · rw[if_pos y2]at hc
              have hP:P (n,true)=P (n',true):=by
                cases a:P (n,true)<;>cases b:P (n',true)<;>rw[a,b]at hc<;>first|rfl|simp at hc
              refine zms hr h hh hs h1 h2 hP fun v hv=>?_
              have n1:=z58 h h1 (c:=v) (by omega)
              have n2:=z58 h h2 (c:=v) (by omega)
              rw[if_pos hv]at n1 n2
              have big:∀ {D n:Int},¬ (n=0∧r.zeros=false)→(r.digits≤D∨r.top< n*r.base)→stepK r (.nm D n) (v:Nat)=if r.over=0 then .dd else .sa:=fun {D n} z y=>by
                show(if n=0∧r.zeros=false then Ky.dd else numK r (D+1) (n*r.base+v))=_
                rw[if_neg z,numK,if_pos (by omega)]
                by_cases e0:r.over=0
                · rw[if_pos e0,if_pos e0]
                · rw[if_neg e0,if_neg e0,if_pos (by omega)]
              rw[big z1 y1]at n1;rw[big z2 y2]at n2;rw[zgs h.gr n1 n2]
            · rw[if_neg y2]at hc
              split at hc<;>omega
          · rw[if_neg y1]at hc
            by_cases y2:r.digits≤D'∨r.top< n'*r.base
            · rw[if_pos y2]at hc
              split at hc<;>omega
            · rw[if_neg y2]at hc
              have s1:=small hk y1
              have s2:=small hj y2
              exact absurd (by congr 1<;>omega) hkj
    |st=>simp only[clsR]at hc;split at hc<;>(try split at hc)<;>(try split at hc)<;>omega
    |dd=>simp only[clsR]at hc;split at hc<;>(try split at hc)<;>(try split at hc)<;>omega
    |sa=>simp only[clsR]at hc;split at hc<;>(try split at hc)<;>(try split at hc)<;>omega
    |wr m=>exact absurd hj.1 ho
  |wr m=>exact absurd hk.1 ho
  | st=>
    cases j with
    |st=>exact absurd rfl hkj
    |dd=>simp[clsR]at hc
    |sa=>simp[clsR]at hc
    |wr m=>exact absurd hj.1 ho
    |nm D n=>simp only[clsR]at hc;split at hc<;>(try split at hc)<;>(try split at hc)<;>omega
  | dd=>
    cases j with
    |st=>simp[clsR]at hc
    |dd=>exact absurd rfl hkj
    |sa=>simp[clsR]at hc
    |wr m=>exact absurd hj.1 ho
    |nm D n=>simp only[clsR]at hc;split at hc<;>(try split at hc)<;>(try split at hc)<;>omega
  | sa=>
    cases j with
    |st=>simp[clsR]at hc
    |dd=>simp[clsR]at hc
    |sa=>exact absurd rfl hkj
    |wr m=>exact absurd hj.1 ho
    |nm D n=>simp only[clsR]at hc;split at hc<;>(try split at hc)<;>(try split at hc)<;>omega
theorem zmt(hr:r.ok)(h:TabOK r P d ks):Few d:=by
  by_cases ho:r.over=2
  · exact few_wrap hr ho h
  · exact zy9 hr ho h
end

end Go.Proofs.YtppmnaoollkboaaDoor
