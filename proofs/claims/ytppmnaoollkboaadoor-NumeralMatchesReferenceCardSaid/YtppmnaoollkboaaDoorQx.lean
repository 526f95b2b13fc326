/- Contracts of functions and plain facts, part 24. -/
import Derived.Test.YtppmnaoollkboaaDoorQn
import Derived.Test.YtppmnaoollkboaaDoorQp
import Derived.Test.YtppmnaoollkboaaDoorQb
import Derived.Test.YtppmnaoollkboaaDoorQd
import Derived.Test.YtppmnaoollkboaaDoorQi
import Derived.Test.YtppmnaoollkboaaDoorQo
set_option maxHeartbeats 1000000
set_option maxRecDepth 4000
namespace Go.Proofs.YtppmnaoollkboaaDoor
set_option linter.all false
open Go.Ab Go.RowKit

section
variable {a b:Prop}
theorem uKa_0(h:a:=by
    repeat' (first|exact pT|exact trivial|refine aI ?_ ?_|exact cC0|refine low_cons' ?_ ?_|exact cC1|fail)
    all_goals first|omega|(show(_:Bool)= !r.okB;simp_all [Rul.okB,baseB];done)|(show(_:Bool)= !r.okB;simp[Rul.okB,baseB, *];done)|(show(_:Bool)= !r.okB;rw[Bool.eq_iff_iff];simp[Rul.okB,baseB]at *;omega)|(simp;done)|(show(0:Nat)< (z08 _ _ _ _).length;rw[z06 hcl];decide)|(simp[-List.reduceReplicate];done)|(simp[-List.reduceReplicate]<;>omega)|skip):a:=h
theorem qXKa_6(kZ:b)(h:HidB b→a:=by intro kZ;refine qX ?_;refine DRb_0 ?_;refine exI ?_;exact kZ.out):a:=h ⟨kZ⟩
theorem zs3(kZ:b)(h:HidB b→a:=by intro kZ;refine qX ?_;refine DRb_0 ?_;exact kZ.out):a:=h ⟨kZ⟩
end
open Go.Aut
def zer:QSpec:=fun vs K=>∃ r:Rul,vs=[rulV r]∧K (.c (.int .i64 (z6h r)))
theorem zdn:z1s Tryd.prog gl 65 zer:=by
 refine z1r (Γ:=g0) (N:=41) Tryd.func65 rfl rfl fun vs K h=>?_;obtain⟨r,rfl,h⟩:=h;refine⟨_,h,rfl,by simp,fun w I=>?_⟩;refine srR g0_ok fun _ K2=>?_
 iterate 2 refine zby ?_
 refine s_n K2 ?_;refine seq_k fun _ K3=>?_;refine z27 (α:=Unit) (fun _=>[(40,.c (.bool (!r.okB)))]) (fun _=>[]) 0 (fun _=>True) ?_ ?_
 ·refine z01 g0_ok fun _ K4=>?_
  iterate 3 refine zby ?_
  refine sXEUf_12 ?_;refine exB (fun hb3=>?_) (fun hb3=>?_)
  ·try simp only[dQ,reduceIte]at hb3
   iterate 3 refine sXTVa_17 ?_
   refine zby ?_;refine sXEUf_12 ?_;refine exB (fun hb8=>?_) (fun hb8=>?_)
   ·try simp only[dQ,reduceIte]at hb8
    iterate 3 refine sN ?_
    refine zby ?_;refine sXEUf_12 ?_;refine exB (fun hb13=>?_) (fun hb13=>?_)
    rotate_left 1
    ·exfalso;simp at hb13
    iterate 3 refine sN ?_
    refine zby ?_;refine sXEUf_12 ?_;refine exB (fun hb18=>?_) (fun hb18=>?_)
    rotate_left 1
    ·exfalso;simp at hb18
    iterate 3 refine sN ?_
    refine zby ?_;refine sXEUf_12 ?_;refine exB (fun hb23=>?_) (fun hb23=>?_)
    rotate_left 1
    ·exfalso;simp at hb23
    iterate 3 refine sN ?_
    refine zby ?_;refine sXEUf_12 ?_;refine exB (fun hb28=>?_) (fun hb28=>?_)
    rotate_left 1
    ·exfalso;simp at hb28
    iterate 3 refine sN ?_
    refine zby ?_;refine sXEUf_12 ?_;refine exB (fun hb33=>?_) (fun hb33=>?_)
    rotate_left 1
    ·exfalso;simp at hb33
    iterate 3 refine sN ?_
    refine zby ?_;refine s_n K4 ?_;refine dnS [] id () trivial [] uKa_0 uKa_0 uKa_0 uKa_0
   ·try simp only[dQ,reduceIte]at hb8
    iterate 3 refine sXTVa_17 ?_
    refine zby ?_;refine sXEUf_12 ?_;refine exB (fun hb13=>?_) (fun hb13=>?_)
    ·try simp only[dQ,reduceIte]at hb13
     iterate 3 refine sN ?_
     refine zby ?_;refine sXEUf_12 ?_;refine exB (fun hb18=>?_) (fun hb18=>?_)
     rotate_left 1
     ·exfalso;simp at hb18
     iterate 3 refine sN ?_
     refine zby ?_;refine sXEUf_12 ?_;refine exB (fun hb23=>?_) (fun hb23=>?_)
     rotate_left 1
     ·exfalso;simp at hb23
     iterate 3 refine sN ?_
     refine zby ?_;refine sXEUf_12 ?_;refine exB (fun hb28=>?_) (fun hb28=>?_)
     rotate_left 1
     ·exfalso;simp at hb28
     iterate 3 refine sN ?_
     refine zby ?_;refine sXEUf_12 ?_;refine exB (fun hb33=>?_) (fun hb33=>?_)
     rotate_left 1
     ·exfalso;simp at hb33
     iterate 3 refine sN ?_
     refine zby ?_;refine s_n K4 ?_;refine dnS [] id () trivial [] uKa_0 uKa_0 uKa_0 uKa_0
    ·try simp only[dQ,reduceIte]at hb13
     iterate 3 refine sXTVa_17 ?_
     refine zby ?_;refine sXEUf_12 ?_;refine exB (fun hb18=>?_) (fun hb18=>?_)
     ·try simp only[dQ,reduceIte]at hb18
      iterate 3 refine sN ?_
      refine zby ?_;refine sXEUf_12 ?_;refine exB (fun hb23=>?_) (fun hb23=>?_)
      rotate_left 1
      ·exfalso;simp at hb23
      iterate 3 refine sN ?_
      refine zby ?_;refine sXEUf_12 ?_;refine exB (fun hb28=>?_) (fun hb28=>?_)
      rotate_left 1
      ·exfalso;simp at hb28
      iterate 3 refine sN ?_
      refine zby ?_;refine sXEUf_12 ?_;refine exB (fun hb33=>?_) (fun hb33=>?_)
      rotate_left 1
      ·exfalso;simp at hb33
      iterate 3 refine sN ?_
      refine zby ?_;refine s_n K4 ?_;refine dnS [] id () trivial [] uKa_0 uKa_0 uKa_0 uKa_0
     ·try simp only[dQ,reduceIte]at hb18
      iterate 3 refine sXTVa_17 ?_
      refine zby ?_;refine sXEUf_12 ?_;refine exB (fun hb23=>?_) (fun hb23=>?_)
      ·try simp only[dQ,reduceIte]at hb23
       iterate 3 refine sN ?_
       refine zby ?_;refine sXEUf_12 ?_;refine exB (fun hb28=>?_) (fun hb28=>?_)
       rotate_left 1
       ·exfalso;simp at hb28
       iterate 3 refine sN ?_
       refine zby ?_;refine sXEUf_12 ?_;refine exB (fun hb33=>?_) (fun hb33=>?_)
       rotate_left 1
       ·exfalso;simp at hb33
       iterate 3 refine sN ?_
       refine zby ?_;refine s_n K4 ?_;refine dnS [] id () trivial [] uKa_0 uKa_0 uKa_0 uKa_0
      ·try simp only[dQ,reduceIte]at hb23
       iterate 3 refine sXTVa_17 ?_
       refine zby ?_;refine sXEUf_12 ?_;refine exB (fun hb28=>?_) (fun hb28=>?_)
       ·try simp only[dQ,reduceIte]at hb28
        iterate 3 refine sN ?_
        refine zby ?_;refine sXEUf_12 ?_;refine exB (fun hb33=>?_) (fun hb33=>?_)
        rotate_left 1
        ·exfalso;simp at hb33
        iterate 3 refine sN ?_
        refine zby ?_;refine s_n K4 ?_;refine dnS [] id () trivial [] uKa_0 uKa_0 uKa_0 uKa_0
       ·try simp only[dQ,reduceIte]at hb28
        iterate 3 refine sXTVa_17 ?_
        refine zby ?_;refine sXEUf_12 ?_;refine exB (fun hb33=>?_) (fun hb33=>?_)
        ·try simp only[dQ,reduceIte]at hb33
         iterate 3 refine sN ?_
         refine zby ?_;refine s_n K4 ?_;refine dnS [] id () trivial [] uKa_0 uKa_0 uKa_0 uKa_0
        ·try simp only[dQ,reduceIte]at hb33
         iterate 3 refine sXTVa_17 ?_
         refine zby ?_;refine s_n K4 ?_;refine dnS [] id () trivial [] uKa_0 uKa_0 uKa_0 uKa_0
  ·try simp only[dQ,reduceIte]at hb3
   iterate 3 refine sN ?_
   refine zby ?_;refine sXEUf_12 ?_;refine exB (fun hb8=>?_) (fun hb8=>?_)
   ·exfalso;simp at hb8
   iterate 3 refine sXTVa_17 ?_
   refine zby ?_;refine sXEUf_12 ?_;refine exB (fun hb13=>?_) (fun hb13=>?_)
   ·try simp only[dQ,reduceIte]at hb13
    iterate 3 refine sN ?_
    refine zby ?_;refine sXEUf_12 ?_;refine exB (fun hb18=>?_) (fun hb18=>?_)
    rotate_left 1
    ·exfalso;simp at hb18
    iterate 3 refine sN ?_
    refine zby ?_;refine sXEUf_12 ?_;refine exB (fun hb23=>?_) (fun hb23=>?_)
    rotate_left 1
    ·exfalso;simp at hb23
    iterate 3 refine sN ?_
    refine zby ?_;refine sXEUf_12 ?_;refine exB (fun hb28=>?_) (fun hb28=>?_)
    rotate_left 1
    ·exfalso;simp at hb28
    iterate 3 refine sN ?_
    refine zby ?_;refine sXEUf_12 ?_;refine exB (fun hb33=>?_) (fun hb33=>?_)
    rotate_left 1
    ·exfalso;simp at hb33
    iterate 3 refine sN ?_
    refine zby ?_;refine s_n K4 ?_;refine dnS [] id () trivial [] uKa_0 uKa_0 uKa_0 uKa_0
   ·try simp only[dQ,reduceIte]at hb13
    iterate 3 refine sXTVa_17 ?_
    refine zby ?_;refine sXEUf_12 ?_;refine exB (fun hb18=>?_) (fun hb18=>?_)
    ·try simp only[dQ,reduceIte]at hb18
     iterate 3 refine sN ?_
     refine zby ?_;refine sXEUf_12 ?_;refine exB (fun hb23=>?_) (fun hb23=>?_)
     rotate_left 1
     ·exfalso;simp at hb23
     iterate 3 refine sN ?_
     refine zby ?_;refine sXEUf_12 ?_;refine exB (fun hb28=>?_) (fun hb28=>?_)
     rotate_left 1
     ·exfalso;simp at hb28
     iterate 3 refine sN ?_
     refine zby ?_;refine sXEUf_12 ?_;refine exB (fun hb33=>?_) (fun hb33=>?_)
     rotate_left 1
     ·exfalso;simp at hb33
     iterate 3 refine sN ?_
     refine zby ?_;refine s_n K4 ?_;refine dnS [] id () trivial [] uKa_0 uKa_0 uKa_0 uKa_0
    ·try simp only[dQ,reduceIte]at hb18
     iterate 3 refine sXTVa_17 ?_
     refine zby ?_;refine sXEUf_12 ?_;refine exB (fun hb23=>?_) (fun hb23=>?_)
     ·try simp only[dQ,reduceIte]at hb23
      iterate 3 refine sN ?_
      refine zby ?_;refine sXEUf_12 ?_;refine exB (fun hb28=>?_) (fun hb28=>?_)
      rotate_left 1
      ·exfalso;simp at hb28
      iterate 3 refine sN ?_
      refine zby ?_;refine sXEUf_12 ?_;refine exB (fun hb33=>?_) (fun hb33=>?_)
      rotate_left 1
      ·exfalso;simp at hb33
      iterate 3 refine sN ?_
      refine zby ?_;refine s_n K4 ?_;refine dnS [] id () trivial [] uKa_0 uKa_0 uKa_0 uKa_0
     ·try simp only[dQ,reduceIte]at hb23
      iterate 3 refine sXTVa_17 ?_
      refine zby ?_;refine sXEUf_12 ?_;refine exB (fun hb28=>?_) (fun hb28=>?_)
      ·try simp only[dQ,reduceIte]at hb28
       iterate 3 refine sN ?_
       refine zby ?_;refine sXEUf_12 ?_;refine exB (fun hb33=>?_) (fun hb33=>?_)
       rotate_left 1
       ·exfalso;simp at hb33
       iterate 3 refine sN ?_
       refine zby ?_;refine s_n K4 ?_;refine dnS [] id () trivial [] uKa_0 uKa_0 uKa_0 uKa_0
      ·try simp only[dQ,reduceIte]at hb28
       iterate 3 refine sXTVa_17 ?_
       refine zby ?_;refine sXEUf_12 ?_;refine exB (fun hb33=>?_) (fun hb33=>?_)
       ·try simp only[dQ,reduceIte]at hb33
        iterate 3 refine sN ?_
        refine zby ?_;refine s_n K4 ?_;refine dnS [] id () trivial [] uKa_0 uKa_0 uKa_0 uKa_0
       ·try simp only[dQ,reduceIte]at hb33
        iterate 3 refine sXTVa_17 ?_
        refine zby ?_;refine s_n K4 ?_;refine dnS [] id () trivial [] uKa_0 uKa_0 uKa_0 uKa_0
 ·intro u hu
  clear hu;refine z04 (b:=_) rfl (fun h_t40=>?_) (fun h_t40=>?_)
  ·try simp only[dQ,reduceIte]at h_t40
   refine srR g0_ok fun _ K6=>?_;refine zby ?_;refine s_n K6 ?_;refine z0e (z0d g0_ok (fun _ _ h=>h) (by first|rfl|assumption) [.tmp 2] rfl ?_);refine rtD ?_
   have hk:r.okB=false:=by simpa using h_t40
   show SV.c (.int .i64 1)=_
   rw[z6h,hk];rfl
  ·try simp only[dQ,reduceIte]at h_t40
   refine z09 ?_;apply K3;refine srR g0_ok fun _ K8=>?_;refine zby ?_;refine s_n K8 ?_;refine z0e (z0d g0_ok (fun _ _ h=>h) (by first|rfl|assumption) [.tmp 2] rfl ?_);refine rtD ?_
   have hk:r.okB=true:=by simpa using h_t40
   show SV.c (.int .i64 0)=_
   rw[z6h,hk];rfl

def zes:QSpec:=fun vs K=>∃ (base:Int) (b:UInt8),vs=[.c (.int .i64 base),.c (.u8 b)]∧K (.c (.int .i64 (z0t base b)))
theorem zdo:z1s Tryd.prog gl 116 zes:=by
 refine z1r (Γ:=g0) (N:=42) Tryd.func116 rfl rfl fun vs K h=>?_;obtain⟨base,b,rfl,h⟩:=h;refine⟨_,h,rfl,by simp,fun w I=>?_⟩;refine srR g0_ok fun _ K2=>?_;refine zby ?_;refine s_n K2 ?_;refine seq_k fun _ K3=>?_;refine z27 (α:=Unit) (fun _=>[(0,.c (.int .i64 base)),(1,.c (.u8 b)),(10,.c (.bool (dg1 b)))]) (fun _=>[]) 0 (fun _=>True) ?_ ?_
 ·refine z01 g0_ok fun _ K4=>?_
  iterate 2 refine zby ?_
  refine sXEUf_12 ?_;refine exB (fun hb2=>?_) (fun hb2=>?_)
  ·try simp only[dQ,reduceIte]at hb2
   iterate 2 refine sXTVa_17 ?_
   refine zby ?_;refine s_n K4 ?_;refine dnS [] id () trivial [] uRa_1 uRa_1 uRa_1 uRa_1
  ·try simp only[dQ,reduceIte]at hb2
   iterate 2 refine sN ?_
   refine zby ?_;refine s_n K4 ?_;refine dnS [] id () trivial [] uRa_1 uRa_1 uRa_1 uRa_1
 ·intro u hu
  clear hu;refine z04 (b:=_) rfl (fun h_t10=>?_) (fun h_t10=>?_)
  ·refine srR g0_ok fun _ K6=>?_
   iterate 4 refine zby ?_
   refine s_n K6 ?_;refine z0e (z0d g0_ok (fun _ _ h=>h) (by first|rfl|assumption) [.tmp 4] rfl ?_);refine rtD ?_
   show SV.c (.int .i64 _)=_
   rw[z0t,if_pos h_t10];all_goals rfl
  ·refine z09 ?_;apply K3;refine seq_k fun _ K7=>?_
   refine z27 (α:=Unit) (fun _=>[(0,.c (.int .i64 base)),(1,.c (.u8 b)),(23,.c (.bool (dg2 base b)))]) (fun _=>[]) 0 (fun _=>True) ?_ ?_
   ·refine z01 g0_ok fun _ K8=>?_
    iterate 2 refine zby ?_
    refine sXEUf_12 ?_;refine exB (fun hb2=>?_) (fun hb2=>?_)
    ·try simp only[dQ,reduceIte]at hb2
     iterate 2 refine sXTVa_17 ?_
     refine zby ?_;refine sXEUf_12 ?_;refine exB (fun hb6=>?_) (fun hb6=>?_)
     ·try simp only[dQ,reduceIte]at hb6
      iterate 2 refine sXTVa_17 ?_
      refine zby ?_;refine s_n K8 ?_;refine dnS [] id () trivial [] uRa_1 uRa_1 uRa_1 uRa_1
     ·try simp only[dQ,reduceIte]at hb6
      iterate 2 refine sN ?_
      refine zby ?_;refine s_n K8 ?_;refine dnS [] id () trivial [] uRa_1 uRa_1 uRa_1 uRa_1
    ·try simp only[dQ,reduceIte]at hb2
     iterate 2 refine sN ?_
     refine zby ?_;refine sXEUf_12 ?_;refine exB (fun hb6=>?_) (fun hb6=>?_)
     ·exfalso;simp at hb6
     iterate 2 refine sN ?_
     refine zby ?_;refine s_n K8 ?_;refine dnS [] id () trivial [] uRa_1 uRa_1 uRa_1 uRa_1
   ·intro u hu
    clear hu;refine z04 (b:=_) rfl (fun h_t23=>?_) (fun h_t23=>?_)
    ·have hub:=(b - UInt8.ofNat (Int.toNat 97)).toNat_lt
     refine srR g0_ok fun _ K10=>?_
     iterate 5 refine zby ?_
     refine s_n K10 ?_;refine z0e (z0d g0_ok (fun _ _ h=>h) (by first|rfl|assumption) [.tmp 4] rfl ?_);refine rtD ?_
     show SV.c (.int .i64 _)=_
     rw[z0t,if_neg (by rw[h_t10];decide),if_pos h_t23];all_goals rfl
    ·refine z09 ?_;apply K7;refine seq_k fun _ K11=>?_
     refine z27 (α:=Unit) (fun _=>[(0,.c (.int .i64 base)),(1,.c (.u8 b)),(37,.c (.bool (dg3 base b)))]) (fun _=>[]) 0 (fun _=>True) ?_ ?_
     ·refine z01 g0_ok fun _ K12=>?_
      iterate 2 refine zby ?_
      refine sXEUf_12 ?_;refine exB (fun hb2=>?_) (fun hb2=>?_)
      ·try simp only[dQ,reduceIte]at hb2
       iterate 2 refine sXTVa_17 ?_
       refine zby ?_;refine sXEUf_12 ?_;refine exB (fun hb6=>?_) (fun hb6=>?_)
       ·try simp only[dQ,reduceIte]at hb6
        iterate 2 refine sXTVa_17 ?_
        refine zby ?_;refine s_n K12 ?_;refine dnS [] id () trivial [] uRa_1 uRa_1 uRa_1 uRa_1
       ·try simp only[dQ,reduceIte]at hb6
        iterate 2 refine sN ?_
        refine zby ?_;refine s_n K12 ?_;refine dnS [] id () trivial [] uRa_1 uRa_1 uRa_1 uRa_1
      ·try simp only[dQ,reduceIte]at hb2
       iterate 2 refine sN ?_
       refine zby ?_;refine sXEUf_12 ?_;refine exB (fun hb6=>?_) (fun hb6=>?_)
       ·exfalso;simp at hb6
       iterate 2 refine sN ?_
       refine zby ?_;refine s_n K12 ?_;refine dnS [] id () trivial [] uRa_1 uRa_1 uRa_1 uRa_1
     ·intro u hu
      clear hu;refine z04 (b:=_) rfl (fun h_t37=>?_) (fun h_t37=>?_)
      ·have hub:=(b - UInt8.ofNat (Int.toNat 65)).toNat_lt
       refine srR g0_ok fun _ K14=>?_
       iterate 5 refine zby ?_
       refine s_n K14 ?_;refine z0e (z0d g0_ok (fun _ _ h=>h) (by first|rfl|assumption) [.tmp 4] rfl ?_);refine rtD ?_
       show SV.c (.int .i64 _)=_
       rw[z0t,if_neg (by rw[h_t10];decide),if_neg (by rw[h_t23];decide),if_pos h_t37];all_goals rfl
      ·refine z09 ?_;apply K11
       refine srR g0_ok fun _ K16=>?_;refine zby ?_;refine s_n K16 ?_;refine z0e (z0d g0_ok (fun _ _ h=>h) (by first|rfl|assumption) [.tmp 4] rfl ?_);refine rtD ?_
       show SV.c (.int .i64 _)=_
       rw[z0t,if_neg (by rw[h_t10];decide),if_neg (by rw[h_t23];decide),if_neg (by rw[h_t37];decide)]

def zpv:QSpec:=fun vs K=>∃ (r:Rul) (s:Sta) (d:Int),vs=[rulV r,staV s,.c (.int .i64 d)]∧(r.ok∧s.ok∧0≤d∧d≤15)∧K (staV (z0w r s d))
theorem znb:z1x Tryd.prog gl 117 zpv:=by
 refine z1c (Γ:=g0) (N:=40) Tryd.func117 rfl rfl fun vs K h=>?_;obtain⟨r,s,d,rfl,⟨hr,hs,hd0,hd15⟩,h⟩:=h;refine⟨_,h,z4q _,by simp,fun w I=>?_⟩
 have hbase:=hr.base
 have ht1:=hr.t1
 have ht2:=hr.t2
 obtain⟨k1,k2,k3,k4,k5,k6⟩:=hs
 have hnb:0≤s.n*r.base∧s.n*r.base≤816:=by
  rcases hbase with e|e<;>rw[e]<;>omega
 have hmb:0≤s.mod*r.base∧s.mod*r.base≤800:=by
  rcases hbase with e|e<;>rw[e]<;>omega
 refine srR g0_ok fun _ K2=>?_
 iterate 3 refine zxw ?_
 refine s_n K2 ?_;refine seq_k fun _ K3=>?_;refine srR g0_ok fun _ K5=>?_
 iterate 3 refine zxw ?_
 refine s_n K5 ?_;refine z04 (b:=_) rfl (fun h_t9=>?_) (fun h_t9=>?_)
 ·try simp only[dQ,reduceIte]at h_t9
  refine z01 g0_ok fun _ K6=>?_
  iterate 3 refine zxw ?_
  refine sX0Rb_2 ?_;refine s_n K6 ?_;apply K3;refine srR g0_ok fun _ K8=>?_
  iterate 5 refine zxw ?_
  refine sX0Rb_2 ?_;refine s_n K8 ?_;refine srR g0_ok fun _ K10=>?_
  iterate 9 refine zxw ?_
  refine sX0Rb_2 ?_;refine s_n K10 ?_;refine srR g0_ok fun _ K12=>?_
  iterate 12 refine zxw ?_
  refine sX0Rb_2 ?_;refine s_n K12 ?_;refine srR g0_ok fun _ K14=>?_;refine zxw ?_;refine sX0Rb_2 ?_;refine s_n K14 ?_;refine z0e (z0g g0_ok (fun _ _ h=>h) (z4q _) [] [.cell 6 137] rfl ?_)
  all_goals exact uRb_0
 ·try simp only[dQ,reduceIte]at h_t9
  refine z09 ?_;apply K3;refine srR g0_ok fun _ K16=>?_
  iterate 5 refine zxw ?_
  refine sX0Rb_2 ?_;refine s_n K16 ?_;refine srR g0_ok fun _ K18=>?_
  iterate 9 refine zxw ?_
  refine sX0Rb_2 ?_;refine s_n K18 ?_;refine srR g0_ok fun _ K20=>?_
  iterate 12 refine zxw ?_
  refine sX0Rb_2 ?_;refine s_n K20 ?_;refine srR g0_ok fun _ K22=>?_;refine zxw ?_;refine sX0Rb_2 ?_;refine s_n K22 ?_;refine z0e (z0g g0_ok (fun _ _ h=>h) (z4q _) [] [.cell 6 137] rfl ?_)
  all_goals exact uRb_0

theorem z9e (r:Rul) (s:Sta) (h1:0≤r.over) (h2:r.over≤2):z24 r s=if vz r s=true then(0,false)else if vf r s=true then(s.n,true)else if r.over=0 then(0,false)else if r.over=1 then(r.top,true) else(s.mod,true):=by
  rw[z9x]
  split
  · rfl
  · split
    · rfl
    · by_cases e0:r.over=0
      · rw[if_neg (by omega),if_neg (by omega),if_pos e0]
      · by_cases e1:r.over=1
        · rw[if_neg (by omega),if_pos e1,if_neg e0,if_pos e1]
        · rw[if_pos (by omega),if_neg e0,if_neg e1]
def zke:QSpec:=fun vs K=>∃ (r:Rul) (s:Sta),vs=[rulV r,staV s]∧(0≤r.over∧r.over≤2)∧K (valV (z24 r s))
theorem zia:z1x Tryd.prog gl 118 zke:=by
 refine z1c (Γ:=g0) (N:=47) Tryd.func118 rfl rfl fun vs K h=>?_;obtain⟨r,s,rfl,⟨ho1,ho2⟩,h⟩:=h;refine⟨_,h,z2p _,by simp,fun w I=>?_⟩;refine srR g0_ok fun _ K2=>?_
 iterate 4 refine zby ?_
 refine s_n K2 ?_;refine seq_k fun _ K3=>?_;refine z27 (α:=Unit) (fun _=>[(2,.c (.dp (rulC r) 0)),(3,.c (.dp (staC s) 0)),(22,.c (.bool (vz r s)))]) (fun _=>[]) 0 (fun _=>True) ?_ ?_
 ·refine z01 g0_ok fun _ K4=>?_
  iterate 3 refine zby ?_
  refine sXEUf_12 ?_;refine exB (fun hb3=>?_) (fun hb3=>?_)
  ·try simp only[dQ,reduceIte]at hb3
   iterate 3 refine sN ?_
   iterate 3 refine sU ?_
   iterate 2 refine sN ?_
   iterate 3 refine sU ?_
   refine sN ?_;refine zby ?_;refine s_n K4 ?_;refine dnS [0,1] id () trivial [] uRc_0 uRc_0 uRc_0 uRc_0
  ·try simp only[dQ,reduceIte]at hb3
   iterate 2 refine sXTVa_17 ?_
   refine zxs ?_;refine exB (fun hb6=>?_) (fun hb6=>?_)
   ·try simp only[dQ,reduceIte]at hb6
    iterate 4 refine sXTVa_17 ?_
    refine zxs ?_;refine exB (fun hb11=>?_) (fun hb11=>?_)
    ·try simp only[dQ,reduceIte]at hb11
     iterate 4 refine sXTVa_17 ?_
     refine zby ?_;refine s_n K4 ?_;refine dnS [0,1] id () trivial [] uRc_0 uRc_0 uRc_0 uRc_0
    ·try simp only[dQ,reduceIte]at hb11
     iterate 3 refine sN ?_
     refine sXTVa_17 ?_;refine zby ?_;refine s_n K4 ?_;refine dnS [0,1] id () trivial [] uRc_0 uRc_0 uRc_0 uRc_0
   ·try simp only[dQ,reduceIte]at hb6
    iterate 3 refine sN ?_
    refine sXTVa_17 ?_;refine zxs ?_;refine exB (fun hb11=>?_) (fun hb11=>?_)
    ·exfalso;simp at hb11
    iterate 3 refine sN ?_
    refine sXTVa_17 ?_;refine zby ?_;refine s_n K4 ?_;refine dnS [0,1] id () trivial [] uRc_0 uRc_0 uRc_0 uRc_0
 ·intro u hu
  clear hu;refine z04 (b:=_) rfl (fun h_t22=>?_) (fun h_t22=>?_)
  ·refine srR g0_ok fun _ K6=>?_
   iterate 2 refine zby ?_
   refine s_n K6 ?_;refine z0e (z0g g0_ok (fun _ _ h=>h) (z2p _) [] [.tmp 4,.tmp 5] rfl ?_)
   have hve:z24 r s=_:=z9e r s ho1 ho2
   rw[if_pos h_t22]at hve
   all_goals exact uRc_1
  ·refine z09 ?_;apply K3;refine seq_k fun _ K7=>?_
   refine z27 (α:=Unit) (fun _=>[(2,.c (.dp (rulC r) 0)),(3,.c (.dp (staC s) 0)),(34,.c (.bool (vf r s)))]) (fun _=>[]) 0 (fun _=>True) ?_ ?_
   ·refine z01 g0_ok fun _ K8=>?_
    iterate 5 refine zby ?_
    refine sXEUf_12 ?_;refine exB (fun hb5=>?_) (fun hb5=>?_)
    ·try simp only[dQ,reduceIte]at hb5
     iterate 5 refine sXTVa_17 ?_
     refine zby ?_;refine s_n K8 ?_;refine dnS [] id () trivial [] uRc_0 uRc_0 uRc_0 uRc_0
    ·try simp only[dQ,reduceIte]at hb5
     iterate 5 refine sN ?_
     refine zby ?_;refine s_n K8 ?_;refine dnS [] id () trivial [] uRc_0 uRc_0 uRc_0 uRc_0
   ·intro u hu
    clear hu;refine z04 (b:=_) rfl (fun h_t34=>?_) (fun h_t34=>?_)
    ·refine srR g0_ok fun _ K10=>?_
     iterate 4 refine zby ?_
     refine s_n K10 ?_;refine z0e (z0g g0_ok (fun _ _ h=>h) (z2p _) [] [.tmp 4,.tmp 5] rfl ?_)
     have hve:z24 r s=_:=z9e r s ho1 ho2
     rw[if_neg (by rw[h_t22];decide),if_pos h_t34]at hve
     all_goals exact uRc_1
    ·refine z09 ?_;apply K7;refine seq_k fun _ K11=>?_
     refine srR g0_ok fun _ K13=>?_
     iterate 3 refine zby ?_
     refine s_n K13 ?_;refine z04 (b:=_) rfl (fun h_t39=>?_) (fun h_t39=>?_)
     ·try simp only[dQ,reduceIte]at h_t39
      refine srR g0_ok fun _ K15=>?_
      iterate 2 refine zby ?_
      refine s_n K15 ?_;refine z0e (z0g g0_ok (fun _ _ h=>h) (z2p _) [] [.tmp 4,.tmp 5] rfl ?_)
      have hve:z24 r s=_:=z9e r s ho1 ho2
      rw[if_neg (by rw[h_t22];decide),if_neg (by rw[h_t34];decide),if_pos (by first|assumption|omega)]at hve
      all_goals exact uRc_1
     ·try simp only[dQ,reduceIte]at h_t39
      refine z09 ?_;apply K11;refine seq_k fun _ K16=>?_;refine srR g0_ok fun _ K18=>?_
      iterate 3 refine zby ?_
      refine s_n K18 ?_;refine z04 (b:=_) rfl (fun h_t42=>?_) (fun h_t42=>?_)
      ·try simp only[dQ,reduceIte]at h_t42
       refine srR g0_ok fun _ K20=>?_
       iterate 4 refine zby ?_
       refine s_n K20 ?_;refine z0e (z0g g0_ok (fun _ _ h=>h) (z2p _) [] [.tmp 4,.tmp 5] rfl ?_)
       have hve:z24 r s=_:=z9e r s ho1 ho2
       rw[if_neg (by rw[h_t22];decide),if_neg (by rw[h_t34];decide),if_neg (by omega),if_pos (by first|assumption|omega)]at hve
       all_goals exact uRc_1
      ·try simp only[dQ,reduceIte]at h_t42
       refine z09 ?_;apply K16;refine srR g0_ok fun _ K22=>?_
       iterate 4 refine zby ?_
       refine s_n K22 ?_;refine z0e (z0g g0_ok (fun _ _ h=>h) (z2p _) [] [.tmp 4,.tmp 5] rfl ?_)
       have hve:z24 r s=_:=z9e r s ho1 ho2
       rw[if_neg (by rw[h_t22];decide),if_neg (by rw[h_t34];decide),if_neg (by omega),if_neg (by omega)]at hve
       all_goals exact uRc_1

noncomputable def gk1:Ctx:={ P:=Tryd.prog,ty:=ty,glob:=gl,fs:=[(65,.flat zer),(116,.flat zes),(117,.data zpv),(118,.data zke)] }
theorem z6m:gk1.OK:=⟨tyOK,⟨⟨z0b Tryd.func65 kR rfl,zdn⟩,⟨z0b Tryd.func116 kR rfl,zdo⟩,⟨z0b Tryd.func117 kR rfl,znb⟩,⟨z0b Tryd.func118 kR rfl,zia⟩,trivial⟩,mixed⟩
@[simp] theorem gk1_ty:gk1.ty=ty:=rfl

def zpw:QSpec:=fun vs K=>∃ (r:Rul) (l:List UInt8),vs=[rulV r,.c (.ds l.length (.u8s l))]∧l.length≤9223372036854775807∧K (valV (readN r l))
theorem znc:z1x Tryd.prog gl 58 zpw:=by
 refine z1c (Γ:=gk1) (N:=37) Tryd.func58 rfl rfl fun vs K h=>?_;obtain⟨r,l,rfl,hl,h⟩:=h;refine⟨_,h,z2p _,by simp,fun w I=>?_⟩;refine srR z6m fun _ K2=>?_
 iterate 3 refine zxw ?_
 refine s_n K2 ?_;refine seq_k fun _ K3=>?_;refine srR z6m fun _ K5=>?_;refine zxw ?_;refine zgq ?_;refine⟨r,rfl,?_⟩;refine DRb_0 ?_
 first|refine exI ?_|(intro cap1 hcap1;refine exI ?_)
 refine zxw ?_;refine s_n K5 ?_;refine z04 (b:=_) rfl (fun h_t11=>?_) (fun h_t11=>?_)
 ·try simp only[dQ,reduceIte]at h_t11
  refine srR z6m fun _ K7=>?_
  iterate 2 refine zxw ?_
  refine s_n K7 ?_
  have hk:r.okB=false:=by
   rw[z6h]at h_t11
   by_cases e:r.okB=true
   ·rw[if_pos e]at h_t11;exact absurd rfl h_t11
   ·simpa using e
  have hre:readN r l=(0,false):=by rw[readN,hk];rfl
  refine z0e (z0g z6m (fun _ _ h=>h) (z2p _) [] [.tmp 4,.tmp 5] rfl ?_)
  all_goals exact uRd_0
 ·try simp only[dQ,reduceIte]at h_t11
  refine z09 ?_;apply K3
  have hok:r.okB=true:=by
   rw[z6h]at h_t11
   by_cases e:r.okB=true
   ·exact e
   ·rw[if_neg e]at h_t11;first|(exfalso;omega)|(simp at h_t11)
  have hr:=z57.1 hok
  refine srR z6m fun _ K9=>?_
  iterate 2 refine zxw ?_
  refine sX0Rb_2 ?_;refine s_n K9 ?_;refine seq_k fun _ K10=>?_;refine srR z6m fun _ K12=>?_;refine zxw ?_;refine s_n K12 ?_;refine z03 ?_;refine leW [0] (fun _=>1) [(2,.c (.dp (rulC r) 0)),(1,.c (.ds l.length (.u8s l))),(6,.c (.ptr 0 0)),(7,.c (.int .i64 0))] [(0,.own 137 (staC sta0) 4)] 1 [1] uRd_0 uRd_0 uRd_0 uRd_0 ?_;refine z0m (α:=Nat×Sta) (fun g=>[(2,.c (.dp (rulC r) 0)),(1,.c (.ds l.length (.u8s l))),(6,.c (.ptr 0 0)),(7,.c (.int .i64 (g.1:Nat)))]) (fun g=>[(0,.own 137 (staC g.2) 4)]) 1 (fun g=>g.1≤l.length∧readK r (l.take g.1)=some g.2∧g.2.ok) (fun g=>l.length - g.1) ?_ ?_
  ·refine dnS [] id (0,sta0) ⟨Nat.zero_le _,rfl,zjv⟩ [0] uRd_0 uRd_0 uRd_0 uRd_0
  ·intro g hg
   have hg1:=hg.1
   refine seq_k fun _ K13=>?_;refine srR z6m fun _ K15=>?_
   iterate 4 refine zxw ?_
   refine s_n K15 ?_;refine z04 (b:=_) rfl (fun h_t16=>?_) (fun h_t16=>?_)
   ·try simp only[dQ,reduceIte]at h_t16
    refine z09 ?_;apply K13;refine seq_k fun _ K16=>?_;refine z03 ?_
    have hil:g.1< l.length:=by omega
    refine srQ z6m kR fun _ K18=>?_
    iterate 5 refine qXKa_6 ?_
    refine zs3 ?_;refine exA (.c (.u8 (l.getD g.1 0))) (as_eq (congrArg (fun v=>SV.c (Cell.u8 v)) (congrArg (fun i=>l.getD i 0) (by omega)))) ?_;refine zs3 ?_;refine⟨r.base,l.getD g.1 0,rfl,?_⟩;refine DRb_0 ?_
    first|refine exI ?_|(intro cap6 hcap6;refine exI ?_)
    refine qXKa_6 ?_;refine q_n K18 ?_;refine seq_k fun _ K19=>?_;refine srR z6m fun _ K21=>?_
    iterate 2 refine zxw ?_
    refine s_n K21 ?_;refine z04 (b:=_) rfl (fun h_t27=>?_) (fun h_t27=>?_)
    ·try simp only[dQ,reduceIte]at h_t27
     refine srR z6m fun _ K23=>?_
     iterate 2 refine zxw ?_
     refine s_n K23 ?_
     have hst:readK r (l.take (g.1+1))=none:=by
      rw[z9y hil,hg.2.1];exact if_pos (by omega)
     have hre:readN r l=(0,false):=by rw[readN,if_pos hok,zmn hst]
     refine z0e (z0g z6m (fun _ _ h=>h) (z2p _) [] [.tmp 4,.tmp 5] rfl ?_)
     all_goals exact uRd_0
    ·try simp only[dQ,reduceIte]at h_t27
     refine z09 ?_;apply K19
     have hd0:0≤z0t r.base (l.getD g.1 0):=by omega
     have hst:readK r (l.take (g.1+1))=some (z0w r g.2 (z0t r.base (l.getD g.1 0))):=by
      rw[z9y hil,hg.2.1];exact if_neg (by omega)
     refine z01 z6m fun _ K24=>?_
     iterate 3 refine zxw ?_
     refine zgq ?_;refine⟨r,g.2,z0t r.base (l.getD g.1 0),rfl,⟨hr,hg.2.2,hd0,zeo _ _⟩,?_⟩;refine DRb_0 ?_
     first|refine exI ?_|(intro cap3 hcap3;refine exI ?_)
     refine sX0Rb_2 ?_;refine s_n K24 ?_;refine z05 ?_;apply K16;refine z01 z6m fun _ K25=>?_
     iterate 3 refine zxw ?_
     refine s_n K25 ?_;refine dnS [] id (g.1+1,z0w r g.2 (z0t r.base (l.getD g.1 0))) ⟨⟨by show g.1+1≤_;omega,hst,zgp hr hg.2.2 hd0⟩,by show _ - (g.1+1)< _;omega⟩ [0] ?_ ?_ ?_ ?_
     ·exact uRd_0
     ·exact uRd_0
     ·exact uRd_0
     ·exact uRd_0
   ·try simp only[dQ,reduceIte]at h_t16
    refine z0i ?_;refine z00 ?_;refine z00 ?_;refine z0f ?_;apply K10
    obtain hgl:g.1=l.length:=by omega
    have hk:readK r l=some g.2:=by have:=hg.2.1;rwa [hgl,List.take_length]at this
    have hre:readN r l=z24 r g.2:=by rw[readN,if_pos hok,hk]
    refine srR z6m fun _ K27=>?_
    iterate 2 refine zxw ?_
    refine zgq ?_;refine⟨r,g.2,rfl,⟨hr.o1,hr.o2⟩,?_⟩;refine DRb_0 ?_
    first|refine exI ?_|(intro cap2 hcap2;refine exI ?_)
    iterate 4 refine zxw ?_
    refine s_n K27 ?_;rw[hre]at *;refine z0e (z0g z6m (fun _ _ h=>h) (z2p _) [] [.tmp 4,.tmp 5] rfl ?_)
    all_goals exact uRd_0


end Go.Proofs.YtppmnaoollkboaaDoor

namespace Go.Proofs.YtppmnaoollkboaaDoor
set_option linter.all false
open Go.Ab Go.RowKit

open Go.Aut
def znd(r:Rul)(k:Ky):Prop:=∀ n,k= .nm 1 n→n< r.base
theorem sm_num{r:Rul}{d x:Int}(h:d=1→x< r.base):znd r (numK r d x):=fun n e=>by
  rw[numK]at e
  split at e
  · split at e
    · cases e
    · split at e<;>cases e
  · cases e;exact h rfl
theorem sm_step{r:Rul}{k:Ky}(hk:KOK r k){v:Int}(hv:v< r.base):znd r (stepK r k v):=by
  cases k with
  |st=>exact sm_num fun _=>hv
  |dd=>exact fun n e=>by cases e
  |sa=>exact fun n e=>by cases e
  |wr m=>exact fun n e=>by cases e
  | nm d n=>
    show znd r (if n=0∧r.zeros=false then Ky.dd else numK r (d+1) (n*r.base+v))
    split
    · exact fun n e=>by cases e
    · have h1:1≤d:=hk.1
      exact sm_num fun e=>by omega
theorem zzh{r:Rul}(hr:r.ok):∀ (l:List UInt8) (k:Ky),KOK r k→znd r k→znd r (l.foldl (byteK r) k)
  |[],_,_,h=>h
  | b::l,k,hk,h=>by
    rw[List.foldl_cons,byteK]
    split
    · rw[z9z];exact fun n e=>by cases e
    · exact zzh hr l _ (zpb hr hk (by omega)) (sm_step hk (z70 hr b))
theorem zet{r:Rul}{l:List UInt8}{m:Int}(h:readN r l=(m,true)):r.ok:=by
  rw[readN]at h
  split at h
  · rename_i e;exact z57.1 e
  · cases h
theorem ztw{r:Rul}{m:Int}{l:List UInt8}(h:readN r l=(m,true)):∃ k:List UInt8,readN r k=(m,true)∧(k.length=1∨k.length=2):=by
  have hr:=zet h
  have hrg:=zi8 hr l (by rw[h])
  rw[h]at hrg;refine has_text hr hrg.1 hrg.2 ?_
  have hk:=zk6 hr l .st trivial
  have hs:=zzh hr l .st trivial fun n e=>by cases e
  have hd:=hr.d1
  rw[z6z hr,wordK]at h
  cases e:l.foldl (byteK r) Ky.st with
  |st=>rw[e]at h;cases h
  |dd=>rw[e]at h;cases h
  | sa=>
    rw[e]at h hk
    have h1:r.over=1:=hk
    have h2:r.top=m:=congrArg Prod.fst h
    exact .inr (.inr (.inr ⟨h2.symm,by omega⟩))
  |wr x=>rw[e]at hk;exact .inr (.inr (.inl hk.1))
  | nm d n=>
    rw[e]at h hk hs
    have h2:n=m:=congrArg Prod.fst h
    have k1:1≤d:=hk.1
    have k2:d≤r.digits:=hk.2.1
    by_cases hd2:1< r.digits
    · exact .inr (.inl hd2)
    · have hd3:d=1:=by omega
      subst hd3;exact .inl (by have:=hs n rfl;omega)
theorem zne{r:Rul}{m:Int}{l:List UInt8}(h:readN r l=(m,true)):okT r m=true:=by
  have hr:=zet h
  have hrg:=zi8 hr l (by rw[h])
  rw[h]at hrg;exact zau.2 ⟨hr,hrg.1,hrg.2⟩
theorem zh5{r:Rul}{m:Int}{w:List Nat}:langN r (Pn m) w=true↔readN r (w.map UInt8.ofNat)=(m,true):=by
  rw[langN,Pn,Bool.and_eq_true,decide_eq_true_eq];exact⟨fun⟨a,b⟩=>Prod.ext b a,fun e=>by rw[e];exact⟨rfl,rfl⟩⟩
theorem zs4{r:Rul}{m:Int}:readN r []≠(m,true):=fun h=>by
  have hr:=zet h
  rw[z6z hr]at h;cases h
def no1(r:Rul)(m:Int)(x:Nat):Prop:=∀ y,y< x→readN r [UInt8.ofNat y]≠(m,true)
def no2(r:Rul)(m:Int)(x:Nat):Prop:=∀ a,a< x→∀ b,b< 256→readN r [UInt8.ofNat a,UInt8.ofNat b]≠(m,true)
def no3(r:Rul)(m:Int)(x y:Nat):Prop:=∀ b,b< y→readN r [UInt8.ofNat x,UInt8.ofNat b]≠(m,true)
theorem no1_zero(r:Rul)(m:Int):no1 r m 0:=fun _ h=>absurd h (Nat.not_lt_zero _)
theorem no2_zero(r:Rul)(m:Int):no2 r m 0:=fun _ h=>absurd h (Nat.not_lt_zero _)
theorem no3_zero(r:Rul)(m:Int)(x:Nat):no3 r m x 0:=fun _ h=>absurd h (Nat.not_lt_zero _)
theorem no1_succ{r:Rul}{m:Int}{x:Nat}(h:no1 r m x)(hx:readN r [UInt8.ofNat x]≠(m,true)):no1 r m (x+1):=fun y hy=>by
  rcases Nat.lt_succ_iff_lt_or_eq.1 hy with h1|h1
  · exact h y h1
  · rw[h1];exact hx
theorem zs5{r:Rul}{m:Int}{x:Nat}(h:no2 r m x)(hx:no3 r m x 256):no2 r m (x+1):=fun y hy=>by
  rcases Nat.lt_succ_iff_lt_or_eq.1 hy with h1|h1
  · exact h y h1
  · rw[h1];exact hx
theorem no3_succ{r:Rul}{m:Int}{x y:Nat}(h:no3 r m x y)(hx:readN r [UInt8.ofNat x,UInt8.ofNat y]≠(m,true)):no3 r m x (y+1):=fun b hb=>by
  rcases Nat.lt_succ_iff_lt_or_eq.1 hb with h1|h1
  · exact h b h1
  · rw[h1];exact hx
theorem dig_ten:∀ x,x< 256→z0t 16 (UInt8.ofNat x)< 0→z0t 10 (UInt8.ofNat x)< 0:=by decide+kernel
theorem no2_skip{r:Rul}{m:Int}{x:Nat}(hx:x< 256)(h:no2 r m x)(hd:z0t 16 (UInt8.ofNat x)< 0):no2 r m (x+1):=zs5 h fun b _ e=>by
  have hr:=zet e
  rw[z6z hr,wordK,List.foldl_cons,byteK,if_pos (by rcases hr.base with e|e<;>rw[e];exact dig_ten x hx hd;exact hd),z9z]at e;cases e
theorem zzi{r:Rul}{m:Int}{x:Nat}(hx:x< 256)(h:no1 r m x)(hy:readN r [UInt8.ofNat x]=(m,true)):z5n r m=some [x]:=by
  rw[z5n,if_pos (zne hy)];refine z4a ⟨fun b hb=>by rw[List.mem_singleton.1 hb];exact hx,zh5.2 hy,fun v hv hl=>?_⟩
  have hl:=zh5.1 hl
  match v,hv,hl with
  |[],_,hl=>exact absurd hl zs4
  | [y],hv,hl=>
    rcases Nat.lt_trichotomy x y with e|e|e
    · exact .inr (.inr ⟨rfl,.inl e⟩)
    · exact .inl (by rw[e])
    · exact absurd hl (h y e)
  |_::_::_,_,_=>exact .inr (.inl (by simp))
theorem zzj{r:Rul}{m:Int}{x y:Nat}(hx:x< 256)(hyb:y< 256)(h1:no1 r m 256)(h2:no2 r m x)(h3:no3 r m x y)(hy:readN r [UInt8.ofNat x,UInt8.ofNat y]=(m,true)):z5n r m=some [x,y]:=by
  rw[z5n,if_pos (zne hy)]
  refine z4a ⟨fun b hb=>by
    rcases List.mem_cons.1 hb with e|hb
    · rw[e];exact hx
    · rw[List.mem_singleton.1 hb];exact hyb,zh5.2 hy,fun v hv hl=>?_⟩
  have hl:=zh5.1 hl
  match v,hv,hl with
  |[],_,hl=>exact absurd hl zs4
  |[a],hv,hl=>exact absurd hl (h1 a (hv a (by simp)))
  | [a,b],hv,hl=>
    have hb:=hv b (by simp)
    rcases Nat.lt_trichotomy x a with e|e|e
    · exact .inr (.inr ⟨rfl,.inl e⟩)
    · subst e
      rcases Nat.lt_trichotomy y b with e|e|e
      · exact .inr (.inr ⟨rfl,.inr ⟨rfl,.inl e⟩⟩)
      · exact .inl (by rw[e])
      · exact absurd hl (h3 b e)
    · exact absurd hl (h2 a e b hb)
  |_::_::_::_,_,_=>exact .inr (.inl (by simp))
theorem write_no{r:Rul}{m:Int}(h1:no1 r m 256)(h2:no2 r m 256):z5n r m=none:=by
  rw[z5n]
  split
  · refine zam fun v hv=>?_
    rw[Bool.eq_false_iff];intro hl;obtain⟨k,hk,hlen⟩:=ztw (zh5.1 hl)
    match k,hk,hlen with
    |[],_,h=>rcases h with h|h<;>cases h
    |[a],hk,_=>exact h1 a.toNat a.toNat_lt (by rw[UInt8.ofNat_toNat];exact hk)
    |[a,b],hk,_=>exact h2 a.toNat a.toNat_lt b.toNat b.toNat_lt (by rw[UInt8.ofNat_toNat,UInt8.ofNat_toNat];exact hk)
    |_::_::_::_,_,h=>rcases h with h|h<;>simp at h
  · rfl
def hitB(v:Int×Bool)(m:Int):Bool:=decide (v=(m,true))
theorem zzk{v:Int×Bool}{m:Int}(h:hitB v m=true):v=(m,true):=of_decide_eq_true h
theorem hit_no{v:Int×Bool}{m:Int}(h:hitB v m=false):v≠(m,true):=of_decide_eq_false h
theorem hit_a{v:Int×Bool}{m:Int}(h:v.2=true):decide (v.1=m)=hitB v m:=by
  rw[hitB,Bool.eq_iff_iff,decide_eq_true_eq,decide_eq_true_eq];exact⟨fun e=>Prod.ext e h,fun e=>by rw[e]⟩
theorem hit_b{v:Int×Bool}{m:Int}(h:v.2=false):false=hitB v m:=by
  rw[hitB,eq_comm,decide_eq_false_iff_not]
  exact fun e=>by rw[e]at h;cases h

end Go.Proofs.YtppmnaoollkboaaDoor

namespace Go.Proofs.YtppmnaoollkboaaDoor
set_option linter.all false
open Go.Ab Go.RowKit

section
variable {a b:Prop}
theorem qKb0(h:a:=by first|exact vcA|(simp<;>omega)|exact⟨by omega,by omega⟩|(simp;done)|exact vcB):a:=h
theorem uKb_0(h:a:=by
    repeat' (first|exact pT|exact trivial|refine aI ?_ ?_|exact cC0|refine low_cons' ?_ ?_|exact cC1|fail)
    all_goals first|omega|exact z6g _|(show(_:Bool)=hitB vb n;first|exact hit_a hb1|exact hit_b hb1)|(show _=(lsB _).length∧_;rw[hwr];first|exact⟨rfl,rfl⟩|rfl)|(show(_:Bool)=_;rw[hwr];rfl)|(rw[hwr];first|exact⟨by decide,rfl,by decide,rfl,rfl⟩|rfl)|(simp;done)|(show(0:Nat)< (z08 _ _ _ _).length;rw[z06 hcl];decide)|(simp[-List.reduceReplicate];done)|(simp[-List.reduceReplicate]<;>omega)|skip):a:=h
theorem DKb_0(kZ:b)(h:HidB b→a:=by intro kZ;(repeat first|refine aI qKb0 ?_|refine z0a qKb0 ?_|refine z07 qKb0 ?_|refine z0l qKb0 ?_|refine z0c ?_);exact kZ.out):a:=h ⟨kZ⟩
theorem z2i(kZ:b)(h:HidB b→a:=by intro kZ;refine sX ?_;refine DKb_0 ?_;refine exI ?_;exact kZ.out):a:=h ⟨kZ⟩
theorem zzl(kZ:b)(h:HidB b→a:=by intro kZ;refine sXT ?_;refine DKb_0 ?_;refine exI ?_;exact kZ.out):a:=h ⟨kZ⟩
theorem z5t(kZ:b)(h:HidB b→a:=by intro kZ;refine sX ?_;refine DKb_0 ?_;exact kZ.out):a:=h ⟨kZ⟩
end
open Go.Aut
attribute [local irreducible] z0o z0y zl z08 z0v putB z42 no1 no2 no3 hitB
noncomputable def gk2:Ctx:={ P:=Tryd.prog,ty:=ty,glob:=gl,fs:=[(58,.data zpw),(116,.flat zes)] }
theorem z3y:gk2.OK:=⟨tyOK,⟨⟨z0b Tryd.func58 kR rfl,znc⟩,⟨z0b Tryd.func116 kR rfl,zdo⟩,trivial⟩,mixed⟩
@[simp] theorem gk2_ty:gk2.ty=ty:=rfl

def zs6:QSpec:=fun vs K=>∃ (r:Rul) (n:Int),vs=[rulV r,.c (.int .i64 n)]∧K (lsV (z5n r n))
theorem ztx:z1x Tryd.prog gl 59 zs6:=by
 refine z1c (Γ:=gk2) (N:=67) Tryd.func59 rfl rfl fun vs K h=>?_;obtain⟨r,n,rfl,h⟩:=h;refine⟨_,h,z6g _,by simp,fun w I=>?_⟩;refine srR z3y fun _ K2=>?_
 iterate 3 refine z2i ?_
 refine s_n K2 ?_;refine seq_k fun _ K3=>?_;refine srR z3y fun _ K5=>?_;refine z2i ?_;refine s_n K5 ?_;refine z03 ?_;refine leW [0] id [(2,.c (.dp (rulC r) 0)),(1,.c (.int .i64 n)),(6,.c (.int .i64 0))] [] 0 [] uKb_0 uKb_0 uKb_0 uKb_0 ?_;refine z0m (α:=Nat) (fun x=>[(2,.c (.dp (rulC r) 0)),(1,.c (.int .i64 n)),(6,.c (.int .i64 (x:Nat)))]) (fun x=>[]) 0 (fun x=>x≤256∧no1 r n x) (fun x=>256 - x) ?_ ?_
 ·refine dnS [] id 0 ⟨Nat.zero_le _,no1_zero _ _⟩ [] uKb_0 uKb_0 uKb_0 uKb_0
 ·intro x hx0
  obtain⟨hxl,hx1⟩:=hx0;refine seq_k fun _ K6=>?_;refine srR z3y fun _ K8=>?_
  iterate 2 refine z2i ?_
  refine s_n K8 ?_;refine z04 (b:=_) rfl (fun h_t14=>?_) (fun h_t14=>?_)
  ·try simp only[dQ,reduceIte]at h_t14
   refine z09 ?_;apply K6;refine seq_k fun _ K9=>?_;refine z03 ?_
   have hx:x< 256:=by omega
   refine srR z3y fun _ K11=>?_
   iterate 2 refine z2i ?_
   refine z5t ?_;refine exA (.c (.u8 (UInt8.ofNat x))) (as_eq (congrArg (fun v=>SV.c (Cell.u8 v)) (z2y _))) ?_;refine z2i ?_;refine z5t ?_;obtain⟨vb,hvE⟩:∃ v,readN r [UInt8.ofNat x]=v:=⟨_,rfl⟩;refine⟨r,[UInt8.ofNat x],rfl,by simp,?_⟩;rw[hvE];refine DKb_0 ?_
   first|refine exI ?_|(intro cap4 hcap4;refine exI ?_)
   iterate 5 refine z2i ?_
   refine s_n K11 ?_;refine z27 (α:=Unit) (fun _=>[(2,.c (.dp (rulC r) 0)),(1,.c (.int .i64 n)),(6,.c (.int .i64 (x:Nat))),(30,.c (.bool (hitB vb n)))]) (fun _=>[]) 0 (fun _=>True) ?_ ?_
   ·refine z01 z3y fun _ K12=>?_
    refine z2i ?_;refine z5t ?_;refine exB (fun hb1=>?_) (fun hb1=>?_)
    ·try simp only[dQ,reduceIte]at hb1
     iterate 3 refine zzl ?_
     refine z2i ?_;refine s_n K12 ?_;refine dnS [] id () trivial [] uKb_0 uKb_0 uKb_0 uKb_0
    ·try simp only[dQ,reduceIte]at hb1
     iterate 3 refine sN ?_
     refine z2i ?_;refine s_n K12 ?_;refine dnS [] id () trivial [] uKb_0 uKb_0 uKb_0 uKb_0
   ·intro u hu
    clear hu;refine z04 (b:=_) rfl (fun h_t30=>?_) (fun h_t30=>?_)
    ·refine srR z3y fun _ K14=>?_
     refine z2i ?_;refine z5t ?_;refine exA (.c (.u8 (UInt8.ofNat x))) (as_eq (congrArg (fun v=>SV.c (Cell.u8 v)) (z2y _))) ?_
     iterate 3 refine z2i ?_
     refine s_n K14 ?_
     have hwr:=zzi hx hx1 (by rw[hvE];exact zzk h_t30)
     refine z0e (z0g z3y (fun _ _ h=>h) (z6g _) [0] [.tmp 4,.tmp 5] rfl ?_)
     all_goals exact uKb_0
    ·refine z09 ?_;refine z05 ?_;apply K9;refine z01 z3y fun _ K15=>?_
     iterate 3 refine z2i ?_
     refine s_n K15 ?_;refine dnS [] id (x+1) ⟨⟨by omega,no1_succ hx1 (by rw[hvE];exact hit_no h_t30)⟩,by omega⟩ [] ?_ ?_ ?_ ?_
     ·exact uKb_0
     ·exact uKb_0
     ·exact uKb_0
     ·exact uKb_0
  ·try simp only[dQ,reduceIte]at h_t14
   refine z0i ?_;refine z00 ?_;refine z00 ?_;refine z0f ?_;apply K3;refine seq_k fun _ K16=>?_;refine srR z3y fun _ K18=>?_;refine z2i ?_;refine s_n K18 ?_;refine z03 ?_
   obtain rfl:x=256:=by omega
   refine z0m (α:=Nat) (fun x=>[(2,.c (.dp (rulC r) 0)),(1,.c (.int .i64 n)),(9,.c (.int .i64 (x:Nat)))]) (fun x=>[]) 0 (fun x=>x≤256∧no2 r n x) (fun x=>256 - x) ?_ ?_
   ·refine dnS [] id 0 ⟨Nat.zero_le _,no2_zero _ _⟩ [] uKb_0 uKb_0 uKb_0 uKb_0
   ·intro x hx0
    obtain⟨hxl,hx2⟩:=hx0;refine seq_k fun _ K19=>?_;refine srR z3y fun _ K21=>?_
    iterate 2 refine z2i ?_
    refine s_n K21 ?_;refine z04 (b:=_) rfl (fun h_t35=>?_) (fun h_t35=>?_)
    ·try simp only[dQ,reduceIte]at h_t35
     refine z09 ?_;apply K19;refine seq_k fun _ K22=>?_;refine z03 ?_;refine seq_k fun _ K23=>?_
     have hx:x< 256:=by omega
     refine srR z3y fun _ K25=>?_;refine z2i ?_;refine z5t ?_;refine exA (.c (.u8 (UInt8.ofNat x))) (as_eq (congrArg (fun v=>SV.c (Cell.u8 v)) (z2y _))) ?_;refine z5t ?_;refine⟨16,UInt8.ofNat x,rfl,?_⟩;refine DKb_0 ?_
     first|refine exI ?_|(intro cap2 hcap2;refine exI ?_)
     refine z2i ?_;refine s_n K25 ?_;refine z04 (b:=_) rfl (fun h_t41=>?_) (fun h_t41=>?_)
     ·try simp only[dQ,reduceIte]at h_t41
      refine z0i ?_;refine z00 ?_;refine z0f ?_;apply K22;refine z01 z3y fun _ K26=>?_
      iterate 3 refine z2i ?_
      refine s_n K26 ?_;refine dnS [] id (x+1) ⟨⟨by omega,no2_skip hx hx2 (by simpa using h_t41)⟩,by omega⟩ [] uKb_0 uKb_0 uKb_0 uKb_0
     ·try simp only[dQ,reduceIte]at h_t41
      refine z09 ?_;apply K23;refine srR z3y fun _ K28=>?_;refine z2i ?_;refine s_n K28 ?_;refine z03 ?_;refine z0m (α:=Nat) (fun y=>[(2,.c (.dp (rulC r) 0)),(1,.c (.int .i64 n)),(9,.c (.int .i64 (x:Nat))),(10,.c (.int .i64 (y:Nat)))]) (fun y=>[]) 0 (fun y=>y≤256∧no3 r n x y) (fun y=>256 - y) ?_ ?_
      ·refine dnS [] id 0 ⟨Nat.zero_le _,no3_zero _ _ _⟩ [] uKb_0 uKb_0 uKb_0 uKb_0
      ·intro y hy0
       obtain⟨hyl,hy3⟩:=hy0;refine seq_k fun _ K29=>?_;refine srR z3y fun _ K31=>?_
       iterate 2 refine z2i ?_
       refine s_n K31 ?_;refine z04 (b:=_) rfl (fun h_t43=>?_) (fun h_t43=>?_)
       ·try simp only[dQ,reduceIte]at h_t43
        refine z09 ?_;apply K29;refine seq_k fun _ K32=>?_;refine z03 ?_
        have hy:y< 256:=by omega
        refine srR z3y fun _ K34=>?_
        iterate 2 refine z2i ?_
        refine z5t ?_;refine exA (.c (.u8 (UInt8.ofNat x))) (as_eq (congrArg (fun v=>SV.c (Cell.u8 v)) (z2y _))) ?_;refine z2i ?_;refine z5t ?_;refine exA (.c (.u8 (UInt8.ofNat y))) (as_eq (congrArg (fun v=>SV.c (Cell.u8 v)) (z2y _))) ?_;refine z2i ?_;refine z5t ?_;obtain⟨vb,hvE⟩:∃ v,readN r [UInt8.ofNat x,UInt8.ofNat y]=v:=⟨_,rfl⟩;refine⟨r,[UInt8.ofNat x,UInt8.ofNat y],rfl,by simp,?_⟩;rw[hvE];refine DKb_0 ?_
        first|refine exI ?_|(intro cap6 hcap6;refine exI ?_)
        iterate 5 refine z2i ?_
        refine s_n K34 ?_;refine z27 (α:=Unit) (fun _=>[(2,.c (.dp (rulC r) 0)),(1,.c (.int .i64 n)),(9,.c (.int .i64 (x:Nat))),(10,.c (.int .i64 (y:Nat))),(61,.c (.bool (hitB vb n)))]) (fun _=>[]) 0 (fun _=>True) ?_ ?_
        ·refine z01 z3y fun _ K35=>?_
         refine z2i ?_;refine z5t ?_;refine exB (fun hb1=>?_) (fun hb1=>?_)
         ·try simp only[dQ,reduceIte]at hb1
          iterate 3 refine zzl ?_
          refine z2i ?_;refine s_n K35 ?_;refine dnS [] id () trivial [] uKb_0 uKb_0 uKb_0 uKb_0
         ·try simp only[dQ,reduceIte]at hb1
          iterate 3 refine sN ?_
          refine z2i ?_;refine s_n K35 ?_;refine dnS [] id () trivial [] uKb_0 uKb_0 uKb_0 uKb_0
        ·intro u hu
         clear hu;refine z04 (b:=_) rfl (fun h_t61=>?_) (fun h_t61=>?_)
         ·refine srR z3y fun _ K37=>?_
          refine z2i ?_;refine z5t ?_;refine exA (.c (.u8 (UInt8.ofNat x))) (as_eq (congrArg (fun v=>SV.c (Cell.u8 v)) (z2y _))) ?_;refine z2i ?_;refine z5t ?_;refine exA (.c (.u8 (UInt8.ofNat y))) (as_eq (congrArg (fun v=>SV.c (Cell.u8 v)) (z2y _))) ?_
          iterate 3 refine z2i ?_
          refine s_n K37 ?_
          have hwr:=zzj hx hy hx1 hx2 hy3 (by rw[hvE];exact zzk h_t61)
          refine z0e (z0g z3y (fun _ _ h=>h) (z6g _) [0] [.tmp 4,.tmp 5] rfl ?_)
          all_goals exact uKb_0
         ·refine z09 ?_;refine z05 ?_;apply K32;refine z01 z3y fun _ K38=>?_
          iterate 3 refine z2i ?_
          refine s_n K38 ?_;refine dnS [] id (y+1) ⟨⟨by omega,no3_succ hy3 (by rw[hvE];exact hit_no h_t61)⟩,by omega⟩ [] ?_ ?_ ?_ ?_
          ·exact uKb_0
          ·exact uKb_0
          ·exact uKb_0
          ·exact uKb_0
       ·try simp only[dQ,reduceIte]at h_t43
        refine z0i ?_;refine z00 ?_;refine z00 ?_;refine z0f ?_;refine z05 ?_;apply K22;refine z01 z3y fun _ K39=>?_
        iterate 3 refine z2i ?_
        refine s_n K39 ?_;refine dnS [] id (x+1) ⟨⟨by omega,zs5 hx2 (by rwa [show y=256 by omega]at hy3)⟩,by omega⟩ [] uKb_0 uKb_0 uKb_0 uKb_0
    ·try simp only[dQ,reduceIte]at h_t35
     refine z0i ?_;refine z00 ?_;refine z00 ?_;refine z0f ?_;apply K16;refine srR z3y fun _ K41=>?_
     iterate 2 refine z2i ?_
     refine s_n K41 ?_
     have hwr:=write_no hx1 (by rwa [show x=256 by omega]at hx2)
     refine z0e (z0g z3y (fun _ _ h=>h) (z6g _) [] [.tmp 4,.tmp 5] rfl ?_)
     all_goals exact uKb_0


end Go.Proofs.YtppmnaoollkboaaDoor

namespace Go.Proofs.YtppmnaoollkboaaDoor
set_option linter.all false
open Go.Ab Go.RowKit

abbrev IRow:=List Int×Nat
def famH(t:TypeId):Nat→List IRow→Heap
  |_,[]=>[]
  |b,x::rs=>(b,.own t (.ints .i64 x.1) x.2)::famH t (b+1) rs
def famC:Nat→List IRow→List Cell
  |_,[]=>[]
  |b,x::rs=>.slice b 0 x.1.length x.2::famC (b+1) rs
theorem zkf:∀ (b:Nat) (rs:List IRow),(famC b rs).length=rs.length
  |_,[]=>rfl
  |b,x::rs=>by rw[famC,List.length_cons,zkf,List.length_cons]
theorem zs7:∀ {b:Nat} {rs:List IRow} {i:Nat} {x:IRow},rs[i]? =some x→(famC b rs)[i]? =some (.slice (b+i) 0 x.1.length x.2)
  |_,[],_,_,h=>by cases h
  |b,y::rs,0,x,h=>by cases h;rfl
  | b,y::rs,i+1,x,h=>by
    rw[famC,List.getElem?_cons_succ,zs7 (b:=b+1) (rs:=rs) (i:=i) (x:=x) (by simpa using h),Nat.add_assoc,Nat.add_comm 1]
theorem zs8:∀ (b:Nat) (rs:List IRow) (x:IRow),famC b (rs++[x])=famC b rs++[.slice (b+rs.length) 0 x.1.length x.2]
  |b,[],x=>rfl
  | b,y::rs,x=>by
    rw[List.cons_append,famC,zs8,famC,List.length_cons,Nat.add_assoc,Nat.add_comm 1];rfl
theorem z72:∀ {t b:Nat} {rs:List IRow} {i:Nat} {x:IRow},rs[i]? =some x→(famH t b rs).get (b+i)=some (.own t (.ints .i64 x.1) x.2)
  |_,_,[],_,_,h=>by cases h
  |t,b,y::rs,0,x,h=>by cases h;rw[famH,Heap.get_cons,if_pos (Nat.add_zero b).symm]
  | t,b,y::rs,i+1,x,h=>by
    rw[famH,Heap.get_cons,if_neg (by omega),show b+(i+1)=b+1+i by omega];exact z72 (by simpa using h)
theorem fam_le{ty:Nat→Ty}{H:Heap}{is:List Nat}{ρ:Nat→Nat}{t:Nat}:∀ {b:Nat} {rs:List IRow},(∀ i x,rs[i]? =some x→ρ (b+i)∉is∧H.get (ρ (b+i))=some (.own t (.ints .i64 x.1) x.2))→Heap.le ty H is ρ (famH t b rs)
  |_,[],_=>trivial
  | b,x::rs,h=>by
    obtain⟨h1,h2⟩:=h 0 x rfl;refine⟨⟨h1,?_⟩,fam_le fun i y hy=>?_⟩
    · rw[Nat.add_zero]at h2
      rw[h2];exact⟨rfl,rfl,rfl,rfl⟩
    · rw[show b+1+i=b+(i+1) by omega]
      exact h (i+1) y (by simpa using hy)
theorem zzm{t n:Nat}:∀ {b:Nat} {rs:List IRow},b+rs.length≤n→Heap.low n (famH t b rs)
  |_,[],_=>trivial
  | b,x::rs,h=>by
    rw[List.length_cons]at h;exact⟨⟨by omega,trivial⟩,zzm (by omega)⟩
theorem zkg{t:Nat}:∀ {b:Nat} {rs:List IRow},(famH t b rs).map (·.1)=List.range' b rs.length
  |_,[]=>rfl
  |b,x::rs=>by rw[famH,List.map_cons,zkg,List.length_cons,List.range'_succ]
theorem zs9{n:Nat}:∀ {b:Nat} {rs:List IRow},b+rs.length≤n→∀ x∈famC b rs,Cell.low n x
  |_,[],_,x,hx=>by cases hx
  | b,y::rs,h,x,hx=>by
    rw[List.length_cons]at h
    rcases List.mem_cons.1 hx with rfl|hx
    · show b< n;omega
    · exact zs9 (by omega) x hx
theorem zib:∀ {b:Nat} {rs:List IRow},z5e (famC b rs)
  |_,[]=>trivial
  |b,y::rs=>⟨trivial,zib⟩
theorem zkh{ty:Nat→Ty}{H:Heap}{is:List Nat}{ρ:Nat→Nat}:∀ {b:Nat} {rs:List IRow},(∀ i,i< rs.length→ρ (b+i)=b+i)→allTo (Cell.to ty H is ρ) (famC b rs) (famC b rs)
  |_,[],_=>trivial
  |b,x::rs,h=>⟨⟨(h 0 (by simp)).symm,rfl,rfl,rfl⟩,zkh fun i hi=>by rw[show b+1+i=b+(i+1) by omega];exact h (i+1) (by simpa using hi)⟩
theorem zic{f:Cell→Cell→Prop}:∀ {l m:List Cell} {x y:Cell},allTo f l m→f x y→allTo f (l++[x]) (m++[y])
  |[],[],_,_,_,h=>⟨h,trivial⟩
  |[],_::_,_,_,h,_=>h.elim
  |_::_,[],_,_,h,_=>h.elim
  |_::_,_::_,_,_,h,k=>⟨h.1,zic h.2 k⟩
theorem famC_toS{ty:Nat→Ty}{H:Heap}{is:List Nat}{ρ:Nat→Nat}{b q c:Nat}{rs:List IRow}{l:List Int}{L:Nat}(hL:L=l.length)(h:∀ i,i< rs.length→ρ (b+i)=b+i)(hq:ρ (b+rs.length)=q):allTo (Cell.to ty H is ρ) (famC b rs++([]++[.slice q 0 L c])) (famC b (rs++[(l,c)])):=by
  rw[zs8];exact zic (zkh h) ⟨hq.symm,rfl,hL,rfl⟩
theorem znf{ty:Nat→Ty}{H:Heap}{is:List Nat}{ρ:Nat→Nat}{t:Nat}(ht:(ty t).size=1):∀ {b:Nat} {rs:List IRow},(∀ i x,rs[i]? =some x→b+i∈is∧H.get (b+i)=some (.own t (.ints .i64 x.1) x.2))→allTo (Cell.to ty H is ρ) (famC b rs) (rowsC (rs.map (·.1)))
  |_,[],_=>trivial
  | b,x::rs,h=>by
    obtain⟨h1,h2⟩:=h 0 x rfl;rw[Nat.add_zero]at h1 h2;refine⟨?_,znf ht fun i y hy=>by rw[show b+1+i=b+(i+1) by omega];exact h (i+1) y (by simpa using hy)⟩
    show sliceD ty H is b 0 x.1.length x.1.length (.ints .i64 x.1)
    refine⟨h1,?_⟩;rw[h2];refine⟨trivial,?_,by rw[ht];decide,rfl,?_⟩
    · rw[ht,Nat.zero_add,Nat.mul_one];exact Nat.le_refl _
    · rw[ht,if_pos ⟨rfl,by show x.1.length=_;rw[Nat.mul_one]⟩]
theorem z2m{ρ:Nat→Nat}{t b m:Nat}{rs:List IRow}{ks:List Nat}(hk:ks.Nodup)(hb:∀ k∈ks,k< b∨m≤k)(hm:b+rs.length≤m)(hr:∀ i,i< rs.length→ρ (b+i)=b+i):(ks++((famH t b rs).map (·.1)).map ρ).Nodup:=by
  have e:((famH t b rs).map (·.1)).map ρ=List.range' b rs.length:=by
    rw[zkg];refine List.ext_getElem (by simp) fun i h1 h2=>?_
    simp at h1
    rw[List.getElem_map,List.getElem_range',Nat.one_mul];exact hr i h1
  rw[e,List.nodup_append];refine⟨hk,List.nodup_range',fun x hx y hy=>?_⟩
  have:=List.mem_range'_1.1 hy
  have:=hb x hx
  omega
theorem zty{ρ:Nat→Nat}{t b m q:Nat}{rs:List IRow}{x:IRow}{ks:List Nat}(hk:(ks++[q]).Nodup)(hb:∀ k∈ks++[q],k< b∨m≤k)(hm:b+rs.length≤m)(hr:∀ i,i< rs.length→ρ (b+i)=b+i)(hq:ρ (b+rs.length)=q):(ks++((famH t b (rs++[x])).map (·.1)).map ρ).Nodup:=by
  have e:((famH t b (rs++[x])).map (·.1)).map ρ=List.range' b rs.length++[q]:=by
    rw[zkg,List.length_append,List.length_singleton,List.range'_1_concat,List.map_append,List.map_singleton,hq]
    congr 1
    refine List.ext_getElem (by simp) fun i h1 h2=>?_
    simp at h1
    rw[List.getElem_map,List.getElem_range',Nat.one_mul];exact hr i h1
  obtain⟨h1,h2,h3⟩:=List.nodup_append.1 hk;rw[e,List.nodup_append];refine⟨h1,List.nodup_append.2 ⟨List.nodup_range',by simp,fun x hx y hy=>?_⟩,fun x hx y hy=>?_⟩
  · have:=List.mem_range'_1.1 hx
    rw[List.mem_singleton]at hy
    have:=hb q (by simp)
    omega
  · rcases List.mem_append.1 hy with hy|hy
    · have:=List.mem_range'_1.1 hy
      have:=hb x (by simp[hx])
      omega
    · exact h3 x hx y hy
def patR(v:Int)(k:Nat)(rs:List IRow):List IRow:=(rs.take k).map (fun x=>(x.1.set 0 v,x.2))++rs.drop k
theorem zzn(v:Int)(rs:List IRow):patR v 0 rs=rs:=rfl
theorem z8e(v:Int)(k:Nat)(rs:List IRow):(patR v k rs).length=rs.length:=by simp[patR];omega
theorem patR_all(v:Int)(rs:List IRow):(patR v rs.length rs).map (·.1)=rs.map fun x=>x.1.set 0 v:=by simp[patR]
theorem zzo{v:Int}{k:Nat}{rs:List IRow}(hk:k< rs.length):(patR v k rs)[k]? =rs[k]? :=by
  rw[patR,List.getElem?_append_right (by simp;omega)]
  simp[Nat.min_eq_left (Nat.le_of_lt hk)]
theorem patR_set{v:Int}{k:Nat}{rs:List IRow}{x:IRow}(hx:rs[k]? =some x):(patR v k rs).set k (x.1.set 0 v,x.2)=patR v (k+1) rs:=by
  have hk:=(List.getElem?_eq_some_iff.1 hx).1
  rw[patR,patR,List.set_append_right _ _ (by simp;omega),List.take_add_one,hx,List.map_append,List.append_assoc]
  congr 1
  simp[Nat.min_eq_left (Nat.le_of_lt hk)]
  rw[List.drop_eq_getElem_cons hk]
  rfl
theorem famH_set{t b:Nat}{rs:List IRow}{k:Nat}{x:IRow}{y:SObj}{H:Heap}(i:Nat)(z:IRow)(hi:(rs.set k x)[i]? =some z)(hy:y= .own t (.ints .i64 x.1) x.2)(hH:∀ i z,rs[i]? =some z→H.get (b+i)=some (.own t (.ints .i64 z.1) z.2)):Heap.get ((b+k,y)::H) (b+i)=some (.own t (.ints .i64 z.1) z.2):=by
  rw[Heap.get_cons]
  by_cases e:k=i
  · subst e
    have hk:k< rs.length:=by
      have:=(List.getElem?_eq_some_iff.1 hi).1
      simpa using this
    rw[List.getElem?_set_self hk]at hi;cases hi;rw[if_pos rfl,hy]
  · rw[if_neg (by omega)]
    rw[List.getElem?_set_ne e]at hi;exact hH i z hi
theorem zid:∀ {b:Nat} {rs qs:List IRow},rs.map (fun x=>(x.1.length,x.2))=qs.map (fun x=>(x.1.length,x.2))→famC b rs=famC b qs
  |_,[],[],_=>rfl
  |_,[],_::_,h=>by simp at h
  |_,_::_,[],h=>by simp at h
  | b,x::rs,y::qs,h=>by
    simp only[List.map_cons,List.cons.injEq,Prod.mk.injEq]at h
    rw[famC,famC,h.1.1,h.1.2,zid h.2]
theorem famC_pat(b:Nat)(v:Int)(k:Nat)(rs:List IRow):famC b (patR v k rs)=famC b rs:=zid (by
  have e:((fun x:IRow=>(x.1.length,x.2)) ∘ fun x:IRow=>(x.1.set 0 v,x.2))=fun x:IRow=>(x.1.length,x.2):=by funext x;simp
  rw[patR,List.map_append,List.map_map,e, ←List.map_append,List.take_append_drop])
theorem za2{id i:Nat}{o:SObj}{H:Heap}(h:id≠i):Heap.get ((id,o)::H) i=Heap.get H i:=by rw[Heap.get_cons,if_neg h]
theorem z4k{id i:Nat}{H:Heap}(h:id≠i):Heap.get (Heap.del H id) i=Heap.get H i:=by rw[Heap.get_del,if_neg h]
def rhoN(m q:Nat)(f:Nat→Nat)(i:Nat):Nat:=if 100≤i then(if i=100+m then q else i)else f i
def rhoI(f:Nat→Nat)(i:Nat):Nat:=if 100≤i then i else f i
theorem zh6{m q i:Nat}{f:Nat→Nat}(h:i< m):rhoN m q f (100+i)=100+i:=by rw[rhoN,if_pos (by omega),if_neg (by omega)]
theorem zki{m q:Nat}{f:Nat→Nat}:rhoN m q f (100+m)=q:=by rw[rhoN,if_pos (by omega),if_pos rfl]
theorem z35{i:Nat}{f:Nat→Nat}:rhoI f (100+i)=100+i:=by rw[rhoI,if_pos (by omega)]
theorem zng{rs:List IRow}{x y:IRow}{i:Nat}(h:(rs++[x])[i]? =some y):(i< rs.length∧rs[i]? =some y)∨(i=rs.length∧y=x):=by
  by_cases e:i< rs.length
  · rw[List.getElem?_append_left e]at h;exact .inl ⟨e,h⟩
  · have hl:=(List.getElem?_eq_some_iff.1 h).1
    rw[List.length_append,List.length_singleton]at hl
    obtain rfl:i=rs.length:=by omega
    rw[List.getElem?_append_right (Nat.le_refl _),Nat.sub_self]at h;exact .inr ⟨rfl,by cases h;rfl⟩
theorem zzp{H:Heap}{id off j te cap:Nat}{c:Cont}{K:SV→Prop}(h:H.get id=some (.own te c cap))(hj:off+j< c.len)(k:K (.c (.ptr id (off+j)))):zex H (.c (.ptr id off)) j K:=by
  show match H.get id with
    |some (.own _ c _)=>off+j< c.len∧K (.c (.ptr id (off+j)))
    |_=>False
  rw[h];exact⟨hj,k⟩
theorem zzq{ty:Nat→Ty}{H:Heap}{t id off te cap n:Nat}{l:List Int}{v:Int}{K:SV→Heap→Nat→Prop}(h:H.get id=some (.own te (.ints .i64 l) cap))(h1:(ty t).one=true)(h2:off< l.length)(k:K (.c (.raw undef)) ((id,.own te (.ints .i64 (l.set off v)) cap)::H) n):zhe ty t id off (.c (.int .i64 v)) H n K:=by
  unfold zhe;rw[h];exact⟨h1,h2,rfl,k⟩
theorem ze7:∀ {t b:Nat} {rs:List IRow} {k:Nat} {x:IRow} {id:Nat},b+k≠id→(famH t b (rs.set k x)).get id=(famH t b rs).get id
  |_,_,[],_,_,_,_=>rfl
  |t,b,y::rs,0,x,id,h=>by rw[List.set_cons_zero,famH,famH,Heap.get_cons,Heap.get_cons,if_neg (by omega),if_neg (by omega)]
  |t,b,y::rs,k+1,x,id,h=>by rw[List.set_cons_succ,famH,famH,Heap.get_cons,Heap.get_cons,ze7 (by omega)]
theorem znh{t b k:Nat}{rs:List IRow}{x:IRow}(hk:k< rs.length):∀ {F:Heap},(∀ p∈F,p.1< b)→∀ id,Heap.get (F++famH t b (rs.set k x)) id=Heap.get ((b+k,.own t (.ints .i64 x.1) x.2)::(F++famH t b rs)) id
  | [],_,id=>by
    rw[Heap.get_cons]
    by_cases e:b+k=id
    · subst e
      rw[if_pos rfl];exact z72 (List.getElem?_set_self hk)
    · rw[if_neg e]
      exact ze7 e
  | p::F,h,id=>by
    have ih:=znh (t:=t) (x:=x) hk (F:=F) (fun q hq=>h q (List.mem_cons_of_mem _ hq)) id
    have hp:=h p List.mem_cons_self
    rw[Heap.get_cons]at ih ⊢;obtain⟨i,o⟩:=p
    have hp:i< b:=hp
    show Heap.get ((i,o)::(F++famH t b (rs.set k x))) id=if b+k=id then _ else Heap.get ((i,o)::(F++famH t b rs)) id
    rw[Heap.get_cons,Heap.get_cons]
    by_cases e:i=id
    · rw[if_pos e,if_neg (by omega),if_pos e]
    · rw[if_neg e,if_neg e];exact ih
theorem zpx{Γ:Ctx}{o:Oper}{E:Env}{H:Heap}{n t id off:Nat}{x y:Operand}{v:Int}{K:SV→Heap→Nat→Prop}(ho:o.op= .store t x y)(hx:E.ev Γ.glob x=some (.c (.ptr id off)))(hy:E.ev Γ.glob y=some (.c (.int .i64 v)))(k:zhe Γ.ty t id off (.c (.int .i64 v)) H n K):stepS Γ o E H n K:=by
  unfold stepS;rw[ho]
  simp only[hx,hy,onV]
  exact k
section
variable {Γ:Ctx} {N:Nat} {C:CC} {n:Nat} {E:Env} {H:Heap} {Q:Exit→Act→World→Prop}
theorem zzr{R:Act→World→Prop}{H':Heap}(e:∀ id,H'.get id=H.get id)(h:Done Γ N C E H' n R):Done Γ N C E H n R:=fun β I a w hS=>
  h β I a w ⟨hS.env,hS.size,⟨hS.heap.os,hS.heap.tape,hS.heap.output,hS.heap.size,hS.heap.frame,fun id o ho=>hS.heap.holds id o (by rw[←e id];exact ho),fun id o ho=>hS.heap.low id o (by rw[←e id];exact ho),fun id o ho=>hS.heap.fresh id o (by rw[←e id];exact ho),fun i j oi oj hij hi hj=>hS.heap.sep i j oi oj hij (by rw[←e i];exact hi) (by rw[←e j];exact hj),fun id o ho=>hS.heap.off id o (by rw[←e id];exact ho),hS.heap.ilt,hS.heap.i0,hS.heap.base⟩,hS.glob,hS.anch⟩
theorem leF(is:List Nat)(ρ:Nat→Nat)(E':Env)(H':Heap)(n':Nat){c:Code}(hn:((H'.map (·.1)).map ρ).Nodup)(h1:Env.le Γ.ty H is ρ E E')(h2:Heap.le Γ.ty H is ρ H')(h3:Env.low n' E')(h4:Heap.low n' H')(h:WP Γ N C c E' H' n' Q)(h7:C.n0≤n'∧∀ i,i< C.n0→ρ i=i:=by exact⟨Nat.zero_le _,fun i hi=>absurd hi (Nat.not_lt_zero i)⟩):WP Γ N C c E H n Q:=
  WP_le is ρ ⟨h1,h2,hn,h3,h4,h7⟩ h
theorem dnF{α:Type}{E':α→Env}{H':α→Heap}{n':Nat}{J:α→Prop}(is:List Nat)(ρ:Nat→Nat)(x:α)(hJ:J x)(hn:(((H' x).map (·.1)).map ρ).Nodup)(h1:Env.le Γ.ty H is ρ E (E' x))(h2:Heap.le Γ.ty H is ρ (H' x))(h3:Env.low n' (E' x))(h4:Heap.low n' (H' x))(h7:C.n0≤n'∧∀ i,i< C.n0→ρ i=i:=by exact⟨Nat.zero_le _,fun i hi=>absurd hi (Nat.not_lt_zero i)⟩):Done Γ N C E H n (Some' Γ N C E' H' n' J):=
  zl8 is ρ x hJ ⟨h1,h2,hn,h3,h4,h7⟩
end

end Go.Proofs.YtppmnaoollkboaaDoor

namespace Go.Proofs.YtppmnaoollkboaaDoor
set_option linter.all false
open Go.Ab Go.RowKit

open Go.Aut
def cbN(r:Rul)(k:Nat):List Int:=(List.range 256).map fun b=>if b< k then z0t r.base (UInt8.ofNat b)+1 else 0
theorem za3(r:Rul)(k:Nat):(cbN r k).length=256:=by simp[cbN]
theorem cbN_zero(r:Rul):idL 0=cbN r 0:=by simp[cbN,idL]
theorem cbN_set(r:Rul){k:Nat}(h:k< 256):(cbN r k).set k (z0t r.base (UInt8.ofNat k)+1)=cbN r (k+1):=by
  refine z1j 0 (by simp[cbN]) fun i hi=>?_
  have hi:i< 256:=by simpa [cbN]using hi
  rw[z19 (by rw[za3];exact hi),cbN,cbN,z0j hi,z0j hi]
  by_cases e:k=i
  · subst e;rw[if_pos rfl,if_pos (Nat.lt_succ_self _)]
  · rw[if_neg e]
    by_cases e2:i< k
    · rw[if_pos e2,if_pos (by omega)]
    · rw[if_neg e2,if_neg (by omega)]
theorem cbN_at(r:Rul){b:Nat}(h:b< 256):(cbN r 256).getD b 0=z0t r.base (UInt8.ofNat b)+1:=by
  rw[cbN,z0j h,if_pos h]
theorem zeu(base:Int)(b:UInt8): -1≤z0t base b:=by
  unfold z0t
  split
  · omega
  · split
    · omega
    · split<;>omega
def numS(s:Sta):Nat:=((s.digits.toNat*2+s.zero.toNat)*52+s.n.toNat)*51+s.mod.toNat
theorem bool2(b:Bool):b.toNat< 2:=by cases b<;>decide
theorem numS_lt{s:Sta}(h:s.ok):numS s< 42432:=by
  obtain⟨h1,h2,h3,h4,h5,h6⟩:=h
  have:=bool2 s.zero
  rw[numS];omega
theorem numS_inj{a b:Sta}(ha:a.ok)(hb:b.ok)(e:numS a=numS b):a=b:=by
  obtain⟨h1,h2,h3,h4,h5,h6⟩:=ha;obtain⟨k1,k2,k3,k4,k5,k6⟩:=hb
  have h7:=bool2 a.zero
  have k7:=bool2 b.zero
  rw[numS,numS]at e
  have e1:a.digits=b.digits:=by omega
  have e2:a.zero.toNat=b.zero.toNat:=by omega
  have e3:a.n=b.n:=by omega
  have e4:a.mod=b.mod:=by omega
  have e5:a.zero=b.zero:=by cases ha:a.zero<;>cases hb:b.zero<;>rw[ha,hb]at e2<;>first|rfl|cases e2
  cases a;cases b
  simp only at e1 e3 e4 e5
  rw[e1,e3,e4,e5]
structure BfO(l:List Sta):Prop where
  nd:l.Nodup
  ok:∀ s∈l,s.ok
  hd:l[0]? =some sta0
theorem zkj{l:List Sta}(h:BfO l):l.length≤42432:=by
  have hn:(l.map numS).Nodup:=by
    rw[List.nodup_iff_pairwise_ne,List.pairwise_map]
    have:=List.nodup_iff_pairwise_ne.1 h.nd
    exact List.Pairwise.imp_of_mem (fun {a b} ha hb hne e=>hne (numS_inj (h.ok a ha) (h.ok b hb) e)) this
  have:=z6t hn (K:=42432) fun x hx=>by
    obtain⟨k,hk,rfl⟩:=List.mem_map.1 hx;exact numS_lt (h.ok k hk)
  rwa [List.length_map]at this
theorem zzs:BfO [sta0]:=⟨by simp,fun s hs=>by rw[List.mem_singleton.1 hs];exact zjv,rfl⟩
theorem bfo_more{l:List Sta}{s:Sta}(h:BfO l)(hs:s.ok)(hn:s∉l):BfO (l++[s]):=by
  refine⟨List.nodup_append.2 ⟨h.nd,by simp,fun x hx y hy e=>?_⟩,fun x hx=>?_,?_⟩
  · rw[List.mem_singleton]at hy;subst e;subst hy;exact hn hx
  · rcases List.mem_append.1 hx with hx|hx
    · exact h.ok x hx
    · rw[List.mem_singleton.1 hx];exact hs
  · have:=(List.getElem?_eq_some_iff.1 h.hd).1
    rw[List.getElem?_append_left this];exact h.hd
def RowP(r:Rul)(l:List Sta)(s:Sta)(v:Nat)(row:List Int):Prop:=row.length=v+1∧∀ d,d< v→∃ j:Nat,row.getD (d+1) 0=(j:Int)∧l[j]? =some (z0w r s (d:Nat))
theorem zzt(r:Rul)(l:List Sta)(s:Sta)(x:Int):RowP r l s 0 [x]:=⟨rfl,fun _ h=>absurd h (Nat.not_lt_zero _)⟩
theorem zsa{r:Rul}{l:List Sta}{s:Sta}{v:Nat}{row:List Int}(h:RowP r l s v row)(x:List Sta):RowP r (l++x) s v row:=⟨h.1,fun d hd=>by
  obtain⟨j,h1,h2⟩:=h.2 d hd
  exact⟨j,h1,by rw[List.getElem?_append_left (List.getElem?_eq_some_iff.1 h2).1];exact h2⟩⟩
theorem zzu{r:Rul}{l:List Sta}{s:Sta}{v j:Nat}{row:List Int}(h:RowP r l s v row)(hj:l[j]? =some (z0w r s (v:Nat))):RowP r l s (v+1) (row++[(j:Int)]):=by
  have hl:=h.1
  refine⟨by rw[List.length_append,hl];rfl,fun d hd=>?_⟩
  by_cases e:d< v
  · obtain⟨i,h1,h2⟩:=h.2 d e
    exact⟨i,by rw[List.getD_eq_getElem?_getD,List.getElem?_append_left (by omega), ←List.getD_eq_getElem?_getD];exact h1,h2⟩
  · obtain rfl:d=v:=by omega
    exact⟨j,by rw[List.getD_eq_getElem?_getD,List.getElem?_append_right (by omega),hl,Nat.sub_self];rfl,hj⟩
def Pb(n:Int)(v:Int×Bool):Bool:=v.2&&(decide (n< 0)||decide (v.1=n))
structure BfR(r:Rul)(n:Int)(l:List Sta)(rs:List (List Int))(bs:List Bool):Prop where
  o:BfO l
  rw:∀ (i:Nat) (row:List Int),rs[i]? =some row→∃ s:Sta,l[i]? =some s∧RowP r l s (nB r) row
  al:bs.length=rs.length
  ac:∀ (i:Nat) (b:Bool),bs[i]? =some b→∃ s:Sta,l[i]? =some s∧b=Pb n (z24 r s)
theorem zzv(r:Rul)(n:Int):BfR r n [sta0] [] []:=⟨zzs,fun i row h=>by simp at h,rfl,fun i b h=>by simp at h⟩
theorem bfr_more{r:Rul}{n:Int}{l:List Sta}{rs:List (List Int)}{bs:List Bool}{s:Sta}(h:BfR r n l rs bs)(hs:s.ok)(hn:s∉l):BfR r n (l++[s]) rs bs:=by
  have key:∀ i x,l[i]? =some x→(l++[s])[i]? =some x:=fun i x hx=>by rw[List.getElem?_append_left (List.getElem?_eq_some_iff.1 hx).1];exact hx
  exact⟨bfo_more h.o hs hn,fun i row hi=>by
    obtain⟨x,h1,h2⟩:=h.rw i row hi
    exact⟨x,key i x h1,zsa h2 _⟩,h.al,fun i b hi=>by
    obtain⟨x,h1,h2⟩:=h.ac i b hi
    exact⟨x,key i x h1,h2⟩⟩
theorem zkk{r:Rul}{n:Int}{l:List Sta}{rs:List (List Int)}{bs:List Bool}{s:Sta}{row:List Int}{b:Bool}(h:BfR r n l rs bs)(hs:l[rs.length]? =some s)(hr:RowP r l s (nB r) row)(hb:b=Pb n (z24 r s)):BfR r n l (rs++[row]) (bs++[b]):=by
  have hal:=h.al
  refine⟨h.o,fun i x hi=>?_,by rw[List.length_append,List.length_append,hal];rfl,fun i x hi=>?_⟩
  · by_cases e:i< rs.length
    · rw[List.getElem?_append_left e]at hi;exact h.rw i x hi
    · have hlt:=(List.getElem?_eq_some_iff.1 hi).1
      rw[List.length_append,List.length_singleton]at hlt
      obtain rfl:i=rs.length:=by omega
      rw[List.getElem?_append_right (Nat.le_refl _),Nat.sub_self]at hi;cases hi;exact⟨s,hs,hr⟩
  · by_cases e:i< bs.length
    · rw[List.getElem?_append_left e]at hi;exact h.ac i x hi
    · have hlt:=(List.getElem?_eq_some_iff.1 hi).1
      rw[List.length_append,List.length_singleton]at hlt
      obtain rfl:i=bs.length:=by omega
      rw[List.getElem?_append_right (Nat.le_refl _),Nat.sub_self]at hi;cases hi;exact⟨s,by rw[hal];exact hs,hb⟩
def tabB(r:Rul)(rs:List (List Int))(bs:List Bool):Tab:=⟨cbN r 256,nB r+1,(rs.map fun x=>x.set 0 (rs.length:Int))++[List.replicate (nB r+1) (rs.length:Int)],bs++[false]⟩
section
variable {r:Rul} {n:Int} {l:List Sta} {rs:List (List Int)} {bs:List Bool}
theorem zcd(hr:r.ok){b:Nat}(hb:b< 256):(tblT (tabB r rs bs)).cell b=(z0t r.base (UInt8.ofNat b)+1).toNat:=by
  show((cbN r 256).getD b 0).toNat=_
  rw[cbN_at r hb]
theorem zev:(tabB r rs bs).next.length=rs.length+1:=by simp[tabB]
theorem tabB_row(h:BfR r n l rs bs)(hl:rs.length=l.length){i:Nat}{s:Sta}(hi:l[i]? =some s):((tabB r rs bs).next.getD i []).getD 0 0=(rs.length:Int)∧((tabB r rs bs).next.getD i []).length=nB r+1∧∀ d,d< nB r→∃ j:Nat,((tabB r rs bs).next.getD i []).getD (d+1) 0=(j:Int)∧l[j]? =some (z0w r s (d:Nat)):=by
  have hil:=(List.getElem?_eq_some_iff.1 hi).1
  have hir:i< rs.length:=by omega
  obtain⟨s',h1,h2⟩:=h.rw i rs[i] (List.getElem?_eq_getElem hir);rw[hi]at h1;cases h1
  have e:(tabB r rs bs).next.getD i []=rs[i].set 0 (rs.length:Int):=by
    show((rs.map _)++_).getD i []=_
    rw[List.getD_eq_getElem?_getD,List.getElem?_append_left (by simpa using hir),List.getElem?_map,List.getElem?_eq_getElem hir];rfl
  have hlen:=h2.1
  rw[e];refine⟨?_,by rw[List.length_set,hlen],fun d hd=>?_⟩
  · rw[List.getD_eq_getElem?_getD,List.getElem?_set_self (by omega)];rfl
  · obtain⟨j,h3,h4⟩:=h2.2 d hd
    refine⟨j,?_,h4⟩;rw[List.getD_eq_getElem?_getD,List.getElem?_set_ne (by omega), ←List.getD_eq_getElem?_getD];exact h3
theorem zzw{c:Nat}(hc:c< nB r+1):((tabB r rs bs).next.getD rs.length []).getD c 0=(rs.length:Int):=by
  have e:(tabB r rs bs).next.getD rs.length []=List.replicate (nB r+1) (rs.length:Int):=by
    show((rs.map _)++_).getD rs.length []=_
    rw[List.getD_eq_getElem?_getD,List.getElem?_append_right (by simp)];simp
  rw[e,List.getD_eq_getElem?_getD,List.getElem?_replicate,if_pos hc];rfl
theorem tabB_ok (hr:r.ok) (h:BfR r n l rs bs) (hl:rs.length=l.length):(tabB r rs bs).ok:=by
  have hB:=z4r hr
  have hal:=h.al
  refine⟨za3 r 256,fun x hx=>?_,by rw[zev];omega,by show(bs++[false]).length=_;rw[zev,List.length_append,hal];rfl,fun x hx=>?_,fun c hc=>?_⟩
  · obtain⟨b,hb,rfl⟩:=List.mem_map.1 hx
    have hb:=List.mem_range.1 hb
    rw[if_pos hb]
    have h1:=z70 hr (UInt8.ofNat b)
    have h2:=zeu r.base (UInt8.ofNat b)
    show 0≤_∧_< ((nB r+1:Nat):Int)
    omega
  · rw[zev]
    rcases List.mem_append.1 hx with hx|hx
    · obtain⟨y,hy,rfl⟩:=List.mem_map.1 hx
      obtain⟨i,hi,rfl⟩:=List.mem_iff_getElem.1 hy;obtain⟨s,h1,h2⟩:=h.rw i rs[i] (List.getElem?_eq_getElem hi)
      have hlen:=h2.1
      refine⟨by rw[List.length_set,hlen];rfl,fun z hz=>?_⟩;obtain⟨c,hc,rfl⟩:=List.mem_iff_getElem.1 hz;rw[List.length_set]at hc
      match c,hc with
      |0,hc=>rw[List.getElem_set_self];omega
      | d+1,hc=>
        rw[List.getElem_set_ne (by omega)];obtain⟨j,h3,h4⟩:=h2.2 d (by omega)
        have:=(List.getElem?_eq_some_iff.1 h4).1
        rw[List.getD_eq_getElem?_getD,List.getElem?_eq_getElem hc]at h3
        have h3:rs[i][d+1]=(j:Int):=h3
        rw[h3];omega
    · rw[List.mem_singleton.1 hx]
      refine⟨List.length_replicate,fun z hz=>?_⟩;rw[List.eq_of_mem_replicate hz];omega
  · have hc:c< nB r+1:=hc
    by_cases e:c=0
    · obtain⟨b,hb,h1⟩:=zpc hr (c:=nB r) (by omega)
      refine⟨b,hb,?_⟩;rw[zcd hr hb]
      have h2:=zeu r.base (UInt8.ofNat b)
      have h3:=z70 hr (UInt8.ofNat b)
      rw[digC]at h1
      split at h1<;>omega
    · obtain⟨b,hb,h1⟩:=zpc hr (c:=c - 1) (by omega)
      refine⟨b,hb,?_⟩;rw[zcd hr hb];rw[digC]at h1
      split at h1<;>omega
theorem tabB_fit(hr:r.ok)(h:BfR r n l rs bs)(hl:rs.length=l.length):(tabB r rs bs).fit:=by
  have h1:=zkj h.o
  have h2:=z4r hr
  exact⟨tabB_ok hr h hl,by rw[zev];omega,by show nB r+1≤256;omega⟩
theorem zni(hr:r.ok)(h:BfR r n l rs bs):∀ w:List Nat,Bytes w→(tblT (tabB r rs bs)).run rs.length w=rs.length
  |[],_=>rfl
  | b::w,hw=>by
    have hb:=hw b List.mem_cons_self
    have h1:=z70 hr (UInt8.ofNat b)
    have h2:=z4r hr
    show(tblT (tabB r rs bs)).run (((((tabB r rs bs).next.getD rs.length []).getD ((tblT (tabB r rs bs)).cell b) 0)).toNat) w=_
    rw[zzw (by rw[zcd hr hb];omega),Int.toNat_natCast];exact zni hr h w fun x hx=>hw x (List.mem_cons_of_mem _ hx)
theorem zsb(hr:r.ok)(h:BfR r n l rs bs)(hl:rs.length=l.length):∀ (w:List Nat) (i:Nat) (s:Sta),Bytes w→l[i]? =some s→(tblT (tabB r rs bs)).acc ((tblT (tabB r rs bs)).run i w)=Pb n (match (w.map UInt8.ofNat).foldl (stepO r) (some s) with
    |none=>(0,false)
    |some q=>z24 r q)
  | [],i,s,_,hi=>by
    have hil:=(List.getElem?_eq_some_iff.1 hi).1
    have hal:=h.al
    have hib:i< bs.length:=by omega
    obtain⟨s',h1,h2⟩:=h.ac i bs[i] (List.getElem?_eq_getElem hib);rw[hi]at h1;cases h1
    show(bs++[false]).getD i false=Pb n (z24 r s)
    rw[List.getD_eq_getElem?_getD,List.getElem?_append_left hib,List.getElem?_eq_getElem hib, ←h2];rfl
  | b ::w,i,s,hw,hi=>by
    have hb:=hw b List.mem_cons_self
    have hw':Bytes w:=fun x hx=>hw x (List.mem_cons_of_mem _ hx)
    have h1:=z70 hr (UInt8.ofNat b)
    have h3:=zeu r.base (UInt8.ofNat b)
    have h2:=z4r hr
    obtain⟨r0,r1,r2⟩:=tabB_row h hl hi
    have hst:∀ w,(tblT (tabB r rs bs)).run i (b::w)=(tblT (tabB r rs bs)).run ((((tabB r rs bs).next.getD i []).getD ((z0t r.base (UInt8.ofNat b)+1).toNat) 0)).toNat w:=fun w=>by
      rw[←zcd (rs:=rs) (bs:=bs) hr hb];rfl
    rw[hst,List.map_cons,List.foldl_cons]
    by_cases e:z0t r.base (UInt8.ofNat b)< 0
    · have e1:stepO r (some s) (UInt8.ofNat b)=none:=if_pos e
      rw[show(z0t r.base (UInt8.ofNat b)+1).toNat=0 by omega,r0,Int.toNat_natCast,zni hr h w hw',e1,zc6]
      show(bs++[false]).getD rs.length false=false
      rw[List.getD_eq_getElem?_getD,List.getElem?_append_right (by rw[h.al];exact Nat.le_refl _),h.al,Nat.sub_self];rfl
    · have e1:stepO r (some s) (UInt8.ofNat b)=some (z0w r s (z0t r.base (UInt8.ofNat b))):=if_neg e
      obtain⟨j,h4,h5⟩:=r2 (z0t r.base (UInt8.ofNat b)).toNat (by omega);rw[Int.toNat_of_nonneg (by omega)]at h5;rw[show(z0t r.base (UInt8.ofNat b)+1).toNat=(z0t r.base (UInt8.ofNat b)).toNat+1 by omega,h4,Int.toNat_natCast,e1];exact zsb hr h hl w j _ hw' h5
theorem zzx(hr:r.ok)(h:BfR r n l rs bs)(hl:rs.length=l.length){w:List Nat}(hw:Bytes w):(tblT (tabB r rs bs)).lang 0 w=langN r (Pb n) w:=by
  show(tblT (tabB r rs bs)).acc ((tblT (tabB r rs bs)).run 0 w)=Pb n (readN r (w.map UInt8.ofNat))
  rw[zsb hr h hl w 0 sta0 hw h.o.hd,readN,if_pos (z57.2 hr)]
  rfl
theorem tabB_can(hr:r.ok)(h:BfR r n l rs bs)(hl:rs.length=l.length):limL (canD ((tblT (tabB r rs bs)).lang 0))=(canD (langN r (Pb n)),0):=by
  rw[z55 fun w hw=>zzx hr h hl hw,limL,if_neg (Nat.not_lt.2 (zc9 hr (Pb n)).1.2)]
end
theorem pb_all:Pb (-1)=Pa:=by funext v;simp[Pb,Pa]
theorem pb_one{n:Int}(h:0≤n):Pb n=Pn n:=by
  funext v
  rw[Pb,Pn,decide_eq_false (by omega),Bool.false_or]

end Go.Proofs.YtppmnaoollkboaaDoor

namespace Go.Proofs.YtppmnaoollkboaaDoor
set_option linter.all false
open Go.Ab Go.RowKit

section
variable {a b:Prop}
theorem qKc0(h:a:=by first|exact vcA|(simp<;>omega)|exact⟨by omega,by omega⟩|exact zcy rec9 _|exact rec9.solid _|(show _< (z13 enc9 _).length;rw[z2q];omega)|(show _≤(z13 enc9 _).length;rw[z2q];omega)|exact zsc hso|exact zsc hxo|(rw[z2q];done)|exact vcB):a:=h
theorem uKc_0(h:a:=by
    repeat' (first|exact pT|exact trivial|refine aI ?_ ?_|exact cC0|refine low_cons' ?_ ?_|exact cC1|fail)
    all_goals first|omega|(simp;done)|(show(0:Nat)< (z08 _ _ _ _).length;rw[z06 hcl];decide)|(simp[-List.reduceReplicate];done)|(simp[-List.reduceReplicate]<;>omega)|skip):a:=h
theorem DKc_0(kZ:b)(h:HidB b→a:=by intro kZ;(repeat first|refine aI qKc0 ?_|refine z0a qKc0 ?_|refine z07 qKc0 ?_|refine z0l qKc0 ?_|refine z0c ?_);exact kZ.out):a:=h ⟨kZ⟩
theorem zie(kZ:b)(h:HidB b→a:=by intro kZ;refine sX ?_;refine DKc_0 ?_;refine exI ?_;exact kZ.out):a:=h ⟨kZ⟩
theorem qXKc_2(kZ:b)(h:HidB b→a:=by intro kZ;refine qX ?_;refine DKc_0 ?_;refine exI ?_;exact kZ.out):a:=h ⟨kZ⟩
theorem zzy(kZ:b)(h:HidB b→a:=by intro kZ;refine qX ?_;refine DKc_0 ?_;exact kZ.out):a:=h ⟨kZ⟩
end
open Go.Aut
theorem idx_le{s:Sta}:∀ {l:List Sta} {i:Nat},l[i]? =some s→l.idxOf s≤i
  |[],_,h=>by cases h
  |a::l,0,h=>by cases h;rw[List.idxOf_cons_self];exact Nat.le_refl _
  | a::l,i+1,h=>by
    have:=idx_le (l:=l) (i:=i) (by simpa using h)
    rw[List.idxOf_cons]
    cases a==s
    · show l.idxOf s+1≤i+1;omega
    · exact Nat.zero_le _
def nofi(l:List Sta)(s:Sta)(i:Nat):Prop:=∀ j,j< i→l[j]? ≠some s
theorem idx_less{l:List Sta}{s:Sta}{i:Nat}(h:nofi l s i)(hi:l[i]? =some s):idxK l s=i:=by
  have h1:=zbh (List.mem_of_getElem? hi)
  rcases Nat.lt_or_eq_of_le (idx_le hi)with e|e
  · exact absurd h1 (h _ e)
  · exact e
theorem idx_none{l:List Sta}{s:Sta}(h:nofi l s l.length):idxK l s=l.length:=List.idxOf_eq_length fun hm=>by
  obtain⟨j,hj,e⟩:=List.mem_iff_getElem.1 hm;exact h j hj (by rw[List.getElem?_eq_getElem hj,e])
theorem idxK_out{l:List Sta}{s:Sta}(h:¬ s∈l):idxK l s=l.length:=List.idxOf_eq_length h
theorem zzz(l:List Sta)(s:Sta):nofi l s 0:=fun _ h=>absurd h (Nat.not_lt_zero _)
theorem y00{l:List Sta}{s:Sta}{i:Nat}(h:nofi l s i)(hi:l[i]? ≠some s):nofi l s (i+1):=fun j hj=>by
  rcases Nat.lt_succ_iff_lt_or_eq.1 hj with h1|h1
  · exact h j h1
  · rw[h1];exact hi
theorem zsc{s:Sta}(h:s.ok):wideS (ty 137) (staC s):=by
  obtain⟨h1,h2,h3,h4,h5,h6⟩:=h;refine⟨rfl,?_⟩;exact⟨⟨rfl,z76.mpr ⟨by omega,by omega⟩⟩,trivial,⟨rfl,z76.mpr ⟨by omega,by omega⟩⟩,⟨rfl,z76.mpr ⟨by omega,by omega⟩⟩,trivial⟩
attribute [local irreducible] z0o z0y zl z08 z0v putB nofi
def y01:QSpec:=fun vs K=>∃ (l:List Sta) (s:Sta),vs=[.c (.ds l.length (.cells (z13 enc9 l))),staV s]∧(l.length≤9223372036854775807∧(∀ x∈l,x.ok)∧s.ok)∧K (.c (.int .i64 (idxK l s:Nat)))
theorem y02:z1s Tryd.prog gl 157 y01:=by
 refine z1r (Γ:=g0) (N:=21) Tryd.func157 rfl rfl fun vs K h=>?_;obtain⟨l,s,rfl,⟨hl,hlo,hso⟩,h⟩:=h;refine⟨_,h,rfl,by simp,fun w I=>?_⟩;refine srR g0_ok fun _ K2=>?_
 iterate 2 refine zie ?_
 refine s_n K2 ?_;refine seq_k fun _ K3=>?_;refine srR g0_ok fun _ K5=>?_;refine zie ?_;refine s_n K5 ?_;refine z03 ?_;refine leW [0] id [(0,.c (.ds l.length (.cells (z13 enc9 l)))),(3,.c (.dp (staC s) 0)),(5,.c (.int .i64 0))] [] 0 [] uKc_0 uKc_0 uKc_0 uKc_0 ?_;refine z0m (α:=Nat) (fun i=>[(0,.c (.ds l.length (.cells (z13 enc9 l)))),(3,.c (.dp (staC s) 0)),(5,.c (.int .i64 (i:Nat)))]) (fun i=>[]) 0 (fun i=>i≤l.length∧nofi l s i) (fun i=>l.length - i) ?_ ?_
 ·refine dnS [] id 0 ⟨Nat.zero_le _,zzz _ _⟩ [] uKc_0 uKc_0 uKc_0 uKc_0
 ·intro i hi0
  obtain⟨hi1,hi2⟩:=hi0;refine seq_k fun _ K6=>?_;refine srR g0_ok fun _ K8=>?_
  iterate 4 refine zie ?_
  refine s_n K8 ?_;refine z04 (b:=_) rfl (fun h_t9=>?_) (fun h_t9=>?_)
  ·try simp only[dQ,reduceIte]at h_t9
   refine z09 ?_;apply K6;refine seq_k fun _ K9=>?_;refine z03 ?_
   have hil:i< l.length:=by omega
   obtain⟨x,hx⟩:∃ x,l[i]? =some x:=⟨_,List.getElem?_eq_getElem hil⟩
   have hxo:=hlo x (List.mem_of_getElem? hx)
   refine srQ g0_ok kR fun _ K11=>?_
   iterate 3 refine qXKc_2 ?_
   refine zzy ?_;refine exA (staV x) (zbf rec9 (fun _ _=>trivial) (by omega) rfl hx) ?_;refine qXKc_2 ?_;refine zzy ?_;intro b9 hb9
   obtain rfl:b9=decide (x=s):=by
    rw[Bool.eq_iff_iff,hb9,decide_eq_true_eq];exact⟨fun e=>zpf (congrArg SV.agg e),fun e=>by rw[e]⟩
   refine DKc_0 ?_;refine exI ?_;refine q_n K11 ?_;refine z04 (b:=_) rfl (fun h_t17=>?_) (fun h_t17=>?_)
   ·try simp only[dQ,reduceIte]at h_t17
    refine srR g0_ok fun _ K13=>?_
    iterate 2 refine zie ?_
    refine s_n K13 ?_;refine z0e (z0d g0_ok (fun _ _ h=>h) (by first|rfl|assumption) [.tmp 4] rfl ?_);refine rtD ?_
    show SV.c (.int .i64 _)=_
    rw[idx_less hi2 (by rw[hx];first|rw[h_t17]|(congr 1;simp_all))]
   ·try simp only[dQ,reduceIte]at h_t17
    refine z09 ?_;refine z05 ?_;apply K9;refine z01 g0_ok fun _ K14=>?_
    iterate 3 refine zie ?_
    refine s_n K14 ?_;refine dnS [] id (i+1) ⟨⟨by omega,y00 hi2 (by rw[hx];exact fun e=>by cases e;simp_all)⟩,by omega⟩ [] ?_ ?_ ?_ ?_
    ·exact uKc_0
    ·exact uKc_0
    ·exact uKc_0
    ·exact uKc_0
  ·try simp only[dQ,reduceIte]at h_t9
   refine z0i ?_;refine z00 ?_;refine z00 ?_;refine z0f ?_;apply K3;refine srR g0_ok fun _ K16=>?_
   iterate 3 refine zie ?_
   refine s_n K16 ?_;refine z0e (z0d g0_ok (fun _ _ h=>h) (by first|rfl|assumption) [.tmp 4] rfl ?_);refine rtD ?_
   show SV.c (.int .i64 _)=_
   rw[idx_none (by rwa [show i=l.length by omega]at hi2)]


end Go.Proofs.YtppmnaoollkboaaDoor
