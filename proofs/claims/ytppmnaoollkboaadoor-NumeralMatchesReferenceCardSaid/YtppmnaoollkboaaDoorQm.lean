/- Contracts of functions and plain facts, part 13. -/
import Derived.Test.YtppmnaoollkboaaDoorQd
import Derived.Test.YtppmnaoollkboaaDoorQh
import Derived.Test.YtppmnaoollkboaaDoorQb
import Derived.Test.YtppmnaoollkboaaDoorQl
import Derived.Test.YtppmnaoollkboaaDoorQi
import Derived.Test.YtppmnaoollkboaaDoorQc
set_option maxHeartbeats 1000000
namespace Go.Proofs.YtppmnaoollkboaaDoor
set_option linter.all false
open Go.Ab Go.RowKit

theorem qXVb_2{a b:Prop}(kZ:b)(h:HidB b→a:=by intro kZ;refine qX ?_;refine DUf_0 ?_;refine exI ?_;exact kZ.out):a:=h ⟨kZ⟩

open Go.Aut
attribute [local irreducible] z0o z0y zl z08 z0v putB
theorem z94{α:Type}{a b:List α}{k:Nat}{d:α}(h:a.take k=b.take k)(h1:k< a.length)(h2:k< b.length)(e:a.getD k d=b.getD k d):a.take (k+1)=b.take (k+1):=by
  rw[List.getD_eq_getElem?_getD,List.getD_eq_getElem?_getD,List.getElem?_eq_getElem h1,List.getElem?_eq_getElem h2,Option.getD_some,Option.getD_some]at e;rw[List.take_add_one,List.take_add_one,h,List.getElem?_eq_getElem h1,List.getElem?_eq_getElem h2,e]
theorem zaq{α:Type}{a b:List α}{k:Nat}(h:a.take k=b.take k)(h1:a.length≤k)(h2:b.length≤k):a=b:=by
  rwa [List.take_of_length_le h1,List.take_of_length_le h2]at h
def zmh:QSpec:=fun vs K=>∃ a b:List Int,vs=[.c (.ds a.length (.ints .i64 a)),.c (.ds b.length (.ints .i64 b))]∧(a.length≤9223372036854775807∧b.length≤9223372036854775807)∧K (.c (.bool (decide (a=b))))
theorem zp1:z1s Tryd.prog gl 72 zmh:=by
 refine z1r (Γ:=g0) (N:=26) Tryd.func72 rfl rfl fun vs K h=>?_;obtain⟨a,b,rfl,⟨hb1,hb2⟩,h⟩:=h;refine⟨_,h,rfl,by simp,fun w I=>?_⟩;refine srR g0_ok fun _ K2=>?_;refine zby ?_;refine s_n K2 ?_;refine seq_k fun _ K3=>?_;refine srR g0_ok fun _ K5=>?_
 iterate 5 refine zby ?_
 refine s_n K5 ?_;refine z04 (b:=_) rfl (fun h_t10=>?_) (fun h_t10=>?_)
 ·try simp only[dQ,reduceIte]at h_t10
  refine srR g0_ok fun _ K7=>?_;refine zby ?_;refine s_n K7 ?_;refine z0e (z0d g0_ok (fun _ _ h=>h) (by first|rfl|assumption) [.tmp 4] rfl ?_);refine rtD ?_
  show SV.c (.bool false)=_
  rw[decide_eq_false (fun e=>h_t10 (by rw[e]))]
 ·try simp only[dQ,reduceIte]at h_t10
  refine z09 ?_;apply K3;refine seq_k fun _ K8=>?_;refine srR g0_ok fun _ K10=>?_;refine zby ?_;refine s_n K10 ?_;refine z03 ?_
  have hl:a.length=b.length:=by omega
  refine z0m (α:=Nat) (fun k=>[(0,.c (.ds a.length (.ints .i64 a))),(1,.c (.ds b.length (.ints .i64 b))),(5,.c (.int .i64 k))]) (fun k=>[]) 0 (fun k=>k≤a.length∧a.take k=b.take k) (fun k=>a.length - k) ?_ ?_
  ·refine dnS [] id 0 ⟨Nat.zero_le _,rfl⟩ [] uUd_0 uUd_0 uUd_0 uUd_0
  ·intro k hk
   refine seq_k fun _ K11=>?_;refine srR g0_ok fun _ K13=>?_
   iterate 4 refine zby ?_
   refine s_n K13 ?_;refine z04 (b:=_) rfl (fun h_t14=>?_) (fun h_t14=>?_)
   ·try simp only[dQ,reduceIte]at h_t14
    refine z09 ?_;apply K11;refine seq_k fun _ K14=>?_;refine z03 ?_
    have hka:k< a.length:=by omega
    have hkb:k< b.length:=by omega
    refine srQ g0_ok kR fun _ K16=>?_
    iterate 9 refine qXVb_2 ?_
    refine q_n K16 ?_;refine z04 (b:=_) rfl (fun h_t25=>?_) (fun h_t25=>?_)
    ·simp only[Int.toNat_natCast,Nat.mul_one,Bool.not_eq_true',decide_eq_false_iff_not]at h_t25
     refine srR g0_ok fun _ K18=>?_;refine zby ?_;refine s_n K18 ?_;refine z0e (z0d g0_ok (fun _ _ h=>h) (by first|rfl|assumption) [.tmp 4] rfl ?_);refine rtD ?_
     show SV.c (.bool false)=_
     rw[decide_eq_false (fun e=>h_t25 (by rw[e]))]
    ·simp only[Int.toNat_natCast,Nat.mul_one,Bool.not_eq_false',decide_eq_true_eq]at h_t25
     refine z09 ?_;refine z05 ?_;apply K14;refine z01 g0_ok fun _ K19=>?_
     iterate 3 refine zby ?_
     refine s_n K19 ?_;refine dnS [] id (k+1) ⟨⟨by omega,z94 (d:=0) hk.2 hka hkb h_t25⟩,by omega⟩ [] uUd_0 uUd_0 uUd_0 uUd_0
   ·try simp only[dQ,reduceIte]at h_t14
    refine z0i ?_;refine z00 ?_;refine z00 ?_;refine z0f ?_;apply K8;refine srR g0_ok fun _ K21=>?_;refine zby ?_;refine s_n K21 ?_;refine z0e (z0d g0_ok (fun _ _ h=>h) (by first|rfl|assumption) [.tmp 4] rfl ?_);refine rtD ?_
    obtain rfl:k=a.length:=by omega
    show SV.c (.bool true)=_
    rw[decide_eq_true (zaq hk.2 (Nat.le_refl _) (by omega))]

end Go.Proofs.YtppmnaoollkboaaDoor

namespace Go.Proofs.YtppmnaoollkboaaDoor
set_option linter.all false
open Go.Ab Go.RowKit

section
variable {a b:Prop}
theorem qVc0(h:a:=by first|exact vcA|(simp<;>omega)|(simp only[z0s];omega)|exact vcB):a:=h
theorem qVc1(h:a:=by rintro ⟨g1,g2,g3,g4⟩;have g5:=congrArg List.length g3;have g6:=congrArg List.length g4;first|omega|(simp_all;done)|(simp at *;omega)):a:=h
theorem qVc2(h:a:=by first|exact vcA|(simp[hcd,hce]<;>omega)|(show(clsAt _ k).length=4;first|exact hcd|exact hce)|exact hcd|exact hce|exact vcB):a:=h
theorem uVc_0(h:a:=by
    repeat' (first|exact pT|exact trivial|refine aI ?_ ?_|exact cC0|refine low_cons' ?_ ?_|exact cC1|fail)
    all_goals first|omega|exact z9s _|exact z2w _|(show(0:Nat)< (z08 _ _ _ _).length;rw[z06 hcl];decide)|(simp[-List.reduceReplicate];done)|(simp[-List.reduceReplicate]<;>omega)|skip):a:=h
theorem DVc_0(kZ:b)(h:HidB b→a:=by intro kZ;(repeat first|refine aI qVc0 ?_|refine z0a qVc0 ?_|refine z07 qVc0 ?_|refine z0l qVc0 ?_|refine z0c ?_);exact kZ.out):a:=h ⟨kZ⟩
theorem z3j(kZ:b)(h:HidB b→a:=by intro kZ;refine sX ?_;refine DVc_0 ?_;refine exI ?_;exact kZ.out):a:=h ⟨kZ⟩
theorem zxn(kZ:b)(h:HidB b→a:=by intro kZ;refine sXT ?_;refine DVc_0 ?_;refine exI ?_;exact kZ.out):a:=h ⟨kZ⟩
theorem DVc_3(kZ:b)(h:HidB b→a:=by intro kZ;(repeat first|refine aI qVc2 ?_|refine z0a qVc2 ?_|refine z07 qVc2 ?_|refine z0l qVc2 ?_|refine z0c ?_);exact kZ.out):a:=h ⟨kZ⟩
theorem zxo(kZ:b)(h:HidB b→a:=by intro kZ;refine qX ?_;refine DVc_3 ?_;refine exI ?_;exact kZ.out):a:=h ⟨kZ⟩
theorem zre(kZ:b)(h:HidB b→a:=by intro kZ;refine qX ?_;refine DVc_0 ?_;refine exI ?_;exact kZ.out):a:=h ⟨kZ⟩
theorem zp2(kZ:b)(h:HidB b→a:=by intro kZ;refine sX ?_;refine DVc_0 ?_;exact kZ.out):a:=h ⟨kZ⟩
theorem zxp(kZ:b)(h:HidB b→a:=by intro kZ;refine qX ?_;refine DVc_3 ?_;exact kZ.out):a:=h ⟨kZ⟩
theorem zp3(kZ:b)(h:HidB b→a:=by intro kZ;refine qX ?_;refine DVc_0 ?_;exact kZ.out):a:=h ⟨kZ⟩
end
open Go.Aut
attribute [local irreducible] z0o z0y zl z08 z0v putB
def sameD(d e:Dfa):Bool:=decide (d.nc=e.nc∧d.cls=e.cls∧d.next=e.next∧d.acc=e.acc)
theorem zc2{d e:Dfa}:sameD d e=true↔d=e:=by
  cases d;cases e
  simp only[sameD,decide_eq_true_iff,Dfa.mk.injEq]
  exact⟨fun h=>⟨h.2.1,h.1,h.2.2⟩,fun h=>⟨h.2.1,h.1,h.2.2⟩⟩
theorem cls_at{a:List UInt64}(j:Nat):(clsAt a (j / 4))[j%4]? =a[j]? :=by
  rw[clsAt,List.getElem?_take,if_pos (Nat.mod_lt _ (by decide)),List.getElem?_drop]
  congr 1;omega
theorem cls_ext{a b:List UInt64}{n:Nat}(ha:a.length=n*4)(hb:b.length=n*4)(h:∀ i,i< n→clsAt a i=clsAt b i):a=b:=by
  refine List.ext_getElem? fun j=>?_
  by_cases hj:j< n*4
  · rw[←cls_at (a:=a) j, ←cls_at (a:=b) j,h _ (by omega)]
  · rw[List.getElem?_eq_none (by omega),List.getElem?_eq_none (by omega)]
noncomputable def gv1:Ctx:={ P:=Tryd.prog,ty:=ty,glob:=gl,fs:=[(72,.flat zmh)] }
theorem z2u:gv1.OK:=⟨tyOK,⟨⟨z0b Tryd.func72 kR rfl,zp1⟩,trivial⟩,mixed⟩
@[simp] theorem gv1_ty:gv1.ty=ty:=rfl

def sameS:QSpec:=fun vs K=>∃ d e:Dfa,vs=[dfaV d,dfaV e]∧(d.wf∧e.wf)∧K (.c (.bool (sameD d e)))
theorem same_ok:z1s Tryd.prog gl 28 sameS:=by
 refine z1r (Γ:=gv1) (N:=88) Tryd.func28 rfl rfl fun vs K h=>?_;obtain⟨d,e,rfl,⟨hd,he⟩,h⟩:=h;refine⟨_,h,rfl,by simp,fun w I=>?_⟩;refine srR z2u fun _ K2=>?_
 iterate 3 refine z3j ?_
 refine s_n K2 ?_;refine seq_k fun _ K3=>?_;refine srR z2u fun _ K5=>?_
 iterate 7 refine z3j ?_
 refine zp2 ?_;refine exB (fun hb7=>?_) (fun hb7=>?_)
 ·try simp only[dQ,reduceIte]at hb7
  iterate 7 refine sN ?_
  refine z3j ?_;refine zp2 ?_;refine exB (fun hb16=>?_) (fun hb16=>?_)
  rotate_left 1
  ·exfalso;simp at hb16
  iterate 7 refine sN ?_
  refine z3j ?_;refine s_n K5 ?_;refine z04 (b:=_) rfl (fun _=>?_) (fun h_t32=>?_)
  rotate_left 1
  ·exfalso;simp at h_t32
  refine srR z2u fun _ K7=>?_;refine z3j ?_;refine s_n K7 ?_;refine z0e (z0d z2u (fun _ _ h=>h) (by first|rfl|assumption) [.tmp 4] rfl ?_);refine rtD ?_
  show SV.c (.bool false)=_
  rw[sameD,decide_eq_false qVc1]
 ·try simp only[dQ,reduceIte]at hb7
  iterate 7 refine zxn ?_
  refine z3j ?_;refine zp2 ?_;refine exB (fun hb16=>?_) (fun hb16=>?_)
  ·try simp only[dQ,reduceIte]at hb16
   iterate 7 refine sN ?_
   refine z3j ?_;refine s_n K5 ?_;refine z04 (b:=_) rfl (fun _=>?_) (fun h_t32=>?_)
   rotate_left 1
   ·exfalso;simp at h_t32
   refine srR z2u fun _ K9=>?_;refine z3j ?_;refine s_n K9 ?_;refine z0e (z0d z2u (fun _ _ h=>h) (by first|rfl|assumption) [.tmp 4] rfl ?_);refine rtD ?_
   show SV.c (.bool false)=_
   rw[sameD,decide_eq_false qVc1]
  ·try simp only[dQ,reduceIte]at hb16
   iterate 7 refine zxn ?_
   refine z3j ?_;refine s_n K5 ?_;refine z04 (b:=_) rfl (fun h_t32=>?_) (fun h_t32=>?_)
   ·try simp only[dQ,reduceIte]at h_t32
    refine srR z2u fun _ K11=>?_;refine z3j ?_;refine s_n K11 ?_;refine z0e (z0d z2u (fun _ _ h=>h) (by first|rfl|assumption) [.tmp 4] rfl ?_);refine rtD ?_
    show SV.c (.bool false)=_
    rw[sameD,decide_eq_false qVc1]
   ·try simp only[dQ,reduceIte]at h_t32
    refine z09 ?_;apply K3;refine seq_k fun _ K12=>?_
    have hL:d.nc=e.nc∧d.next.length=e.next.length∧d.acc.length=e.acc.length:=by first|omega|(simp at *;omega)
    have hd1:=hd.1
    have he1:=he.1
    have hM1:=hd.2.1
    have hM2:=hd.2.2.1
    have hM3:=hd.2.2.2.1
    refine srR z2u fun _ K14=>?_;refine z3j ?_;refine s_n K14 ?_;refine z03 ?_;refine z0m (α:=Nat) (fun k=>[(2,.c (.dp (dfaC d) 0)),(3,.c (.dp (dfaC e) 0)),(5,.c (.int .i64 k))]) (fun k=>[]) 0 (fun k=>k≤d.nc∧∀ i,i< k→clsAt d.cls i=clsAt e.cls i) (fun k=>d.nc - k) ?_ ?_
    ·refine dnS [0,1] id 0 ⟨Nat.zero_le _,fun i hi=>absurd hi (Nat.not_lt_zero i)⟩ [] uVc_0 uVc_0 uVc_0 uVc_0
    ·intro k hk
     refine seq_k fun _ K15=>?_;refine srR z2u fun _ K17=>?_
     iterate 5 refine z3j ?_
     refine s_n K17 ?_;refine z04 (b:=_) rfl (fun h_t37=>?_) (fun h_t37=>?_)
     ·try simp only[dQ,reduceIte]at h_t37
      refine z09 ?_;apply K15;refine seq_k fun _ K18=>?_;refine z03 ?_
      have hkn:k< d.nc:=by omega
      have hcd:=z2s hd1 hkn
      have hce:=z2s he1 (hL.1▸hkn)
      refine srQ z2u kR fun _ K20=>?_
      iterate 4 refine zxo ?_
      refine zxp ?_;refine exA (.agg (.u64s (clsAt d.cls k))) (as_eq rfl) ?_
      iterate 4 refine zxo ?_
      refine zxp ?_;refine exA (.agg (.u64s (clsAt e.cls k))) (as_eq rfl) ?_;refine zxo ?_;refine q_n K20 ?_;refine z04 (b:=_) rfl (fun h_t50=>?_) (fun h_t50=>?_)
      ·try simp only[dQ,reduceIte]at h_t50
       refine srR z2u fun _ K22=>?_;refine z3j ?_;refine s_n K22 ?_;refine z0e (z0d z2u (fun _ _ h=>h) (by first|rfl|assumption) [.tmp 4] rfl ?_);refine rtD ?_
       show SV.c (.bool false)=_
       rw[sameD,decide_eq_false (fun g=>h_t50 (by rw[g.2.1]))]
      ·try simp only[dQ,reduceIte]at h_t50
       refine z09 ?_;refine z05 ?_;apply K18;refine z01 z2u fun _ K23=>?_
       iterate 3 refine z3j ?_
       refine s_n K23 ?_;refine dnS [] id (k+1) ⟨⟨by omega,fun i hi=>(Nat.lt_succ_iff_lt_or_eq.1 hi).elim (hk.2 i) (fun e=>e▸h_t50)⟩,by omega⟩ [] uVc_0 uVc_0 uVc_0 uVc_0
     ·try simp only[dQ,reduceIte]at h_t37
      refine z0i ?_;refine z00 ?_;refine z00 ?_;refine z0f ?_;apply K12;refine seq_k fun _ K24=>?_
      obtain rfl:k=d.nc:=by omega
      have hcls:d.cls=e.cls:=cls_ext hd1 (hL.1▸he1) hk.2
      refine srR z2u fun _ K26=>?_;refine z3j ?_;refine s_n K26 ?_;refine z03 ?_;refine z0m (α:=Nat) (fun k=>[(2,.c (.dp (dfaC d) 0)),(3,.c (.dp (dfaC e) 0)),(6,.c (.int .i64 k))]) (fun k=>[]) 0 (fun k=>k≤d.next.length∧d.next.take k=e.next.take k) (fun k=>d.next.length - k) ?_ ?_
      ·refine dnS [] id 0 ⟨Nat.zero_le _,rfl⟩ [] uVc_0 uVc_0 uVc_0 uVc_0
      ·intro k hk
       refine seq_k fun _ K27=>?_;refine srR z2u fun _ K29=>?_
       iterate 5 refine z3j ?_
       refine s_n K29 ?_;refine z04 (b:=_) rfl (fun h_t55=>?_) (fun h_t55=>?_)
       ·try simp only[dQ,reduceIte]at h_t55
        refine z09 ?_;apply K27;refine seq_k fun _ K30=>?_;refine z03 ?_
        have hkn:k< d.next.length:=by omega
        have hke:k< e.next.length:=by omega
        have hr1:=hd.2.2.2.2 _ (z30 (d:=[]) hkn)
        have hr2:=he.2.2.2.2 _ (z30 (d:=[]) hke)
        refine srQ z2u kR fun _ K32=>?_
        iterate 4 refine zre ?_
        refine zp3 ?_;rw[z6u]
        rotate_left 1
        ·first|omega|(simp<;>omega)
        refine exI ?_
        iterate 4 refine zre ?_
        refine zp3 ?_;rw[z6u]
        rotate_left 1
        ·first|omega|(simp<;>omega)
        refine exI ?_;refine zp3 ?_
        simp only[Int.toNat_natCast,Nat.mul_one]
        refine⟨d.next.getD k [],e.next.getD k [],rfl,⟨hr1,hr2⟩,?_⟩;refine DVc_0 ?_
        first|refine exI ?_|(intro cap10 hcap10;refine exI ?_)
        refine zre ?_;refine q_n K32 ?_;refine z04 (b:=_) rfl (fun h_t69=>?_) (fun h_t69=>?_)
        ·simp only[Int.toNat_natCast,Nat.mul_one,Bool.not_eq_true',decide_eq_false_iff_not]at h_t69
         refine srR z2u fun _ K34=>?_;refine z3j ?_;refine s_n K34 ?_;refine z0e (z0d z2u (fun _ _ h=>h) (by first|rfl|assumption) [.tmp 4] rfl ?_);refine rtD ?_
         show SV.c (.bool false)=_
         rw[sameD,decide_eq_false (fun g=>h_t69 (by rw[g.2.2.1]))]
        ·simp only[Int.toNat_natCast,Nat.mul_one,Bool.not_eq_false',decide_eq_true_eq]at h_t69
         refine z09 ?_;refine z05 ?_;apply K30;refine z01 z2u fun _ K35=>?_
         iterate 3 refine z3j ?_
         refine s_n K35 ?_;refine dnS [] id (k+1) ⟨⟨by omega,z94 (d:=[]) hk.2 hkn hke h_t69⟩,by omega⟩ [] uVc_0 uVc_0 uVc_0 uVc_0
       ·try simp only[dQ,reduceIte]at h_t55
        refine z0i ?_;refine z00 ?_;refine z00 ?_;refine z0f ?_;apply K24;refine seq_k fun _ K36=>?_
        obtain rfl:k=d.next.length:=by omega
        have hnx:d.next=e.next:=zaq hk.2 (Nat.le_refl _) (by omega)
        refine srR z2u fun _ K38=>?_;refine z3j ?_;refine s_n K38 ?_;refine z03 ?_;refine z0m (α:=Nat) (fun k=>[(2,.c (.dp (dfaC d) 0)),(3,.c (.dp (dfaC e) 0)),(7,.c (.int .i64 k))]) (fun k=>[]) 0 (fun k=>k≤d.acc.length∧d.acc.take k=e.acc.take k) (fun k=>d.acc.length - k) ?_ ?_
        ·refine dnS [] id 0 ⟨Nat.zero_le _,rfl⟩ [] uVc_0 uVc_0 uVc_0 uVc_0
        ·intro k hk
         refine seq_k fun _ K39=>?_;refine srR z2u fun _ K41=>?_
         iterate 5 refine z3j ?_
         refine s_n K41 ?_;refine z04 (b:=_) rfl (fun h_t74=>?_) (fun h_t74=>?_)
         ·try simp only[dQ,reduceIte]at h_t74
          refine z09 ?_;apply K39;refine seq_k fun _ K42=>?_;refine z03 ?_
          have hkn:k< d.acc.length:=by omega
          have hke:k< e.acc.length:=by omega
          refine srQ z2u kR fun _ K44=>?_
          iterate 11 refine zre ?_
          refine q_n K44 ?_;refine z04 (b:=_) rfl (fun h_t87=>?_) (fun h_t87=>?_)
          ·simp only[Int.toNat_natCast,Nat.mul_one,Bool.not_eq_true',decide_eq_false_iff_not]at h_t87
           refine srR z2u fun _ K46=>?_;refine z3j ?_;refine s_n K46 ?_;refine z0e (z0d z2u (fun _ _ h=>h) (by first|rfl|assumption) [.tmp 4] rfl ?_);refine rtD ?_
           show SV.c (.bool false)=_
           rw[sameD,decide_eq_false (fun g=>h_t87 (by rw[g.2.2.2]))]
          ·simp only[Int.toNat_natCast,Nat.mul_one,Bool.not_eq_false',decide_eq_true_eq]at h_t87
           refine z09 ?_;refine z05 ?_;apply K42;refine z01 z2u fun _ K47=>?_
           iterate 3 refine z3j ?_
           refine s_n K47 ?_;refine dnS [] id (k+1) ⟨⟨by omega,z94 (d:=false) hk.2 hkn hke h_t87⟩,by omega⟩ [] uVc_0 uVc_0 uVc_0 uVc_0
         ·try simp only[dQ,reduceIte]at h_t74
          refine z0i ?_;refine z00 ?_;refine z00 ?_;refine z0f ?_;apply K36;refine srR z2u fun _ K49=>?_;refine z3j ?_;refine s_n K49 ?_;refine z0e (z0d z2u (fun _ _ h=>h) (by first|rfl|assumption) [.tmp 4] rfl ?_);refine rtD ?_
          obtain rfl:k=d.acc.length:=by omega
          show SV.c (.bool true)=_
          rw[sameD,decide_eq_true ⟨hL.1,hcls,hnx,zaq hk.2 (Nat.le_refl _) (by omega)⟩]


end Go.Proofs.YtppmnaoollkboaaDoor

namespace Go.Proofs.YtppmnaoollkboaaDoor
set_option linter.all false
open Go.Ab Go.RowKit

section
variable {a b:Prop}
theorem qVa1(h:a:=by first|exact vcA|(simp[hc]<;>omega)|(refine⟨by omega,by omega,?_⟩;decide)|(simp[hc];omega)|exact vcB):a:=h
theorem qVa2(h:a:=by first|exact vcA|(simp[hw]<;>omega)|exact vcB):a:=h
theorem qVa3(h:a:=by first|exact vcA|(simp[hw,hcl]<;>omega)|(show(clsAt cls k).length=4;exact hcl)|exact hcl|exact vcB):a:=h
theorem qVa4(h:a:=by first|exact vcA|(simp[hw,hcl]<;>omega)|exact vcB):a:=h
theorem uVa_1(h:a:=by
    repeat' (first|exact trivial|refine aI ?_ ?_|exact cC0|refine low_cons' ?_ ?_|exact cC1|fail)
    all_goals first|omega|(rw[cntK,if_pos h_t42];simp;done)|(rw[cntK,if_neg h_t42])|skip):a:=h
theorem uVa_2(h:a:=by
    repeat' (first|exact trivial|refine aI ?_ ?_|exact cC0|refine low_cons' ?_ ?_|exact cC1|fail)
    all_goals first|omega|exact z9s _|exact low_cons' trivial (low_cons' trivial (low_cons' trivial low_nil'))|(simp;done)|(simp<;>omega)|skip):a:=h
theorem DVa_2(kZ:b)(h:HidB b→a:=by intro kZ;(repeat first|refine aI qVa1 ?_|refine z0a qVa1 ?_|refine z07 qVa1 ?_|refine z0l qVa1 ?_|refine z0c ?_);exact kZ.out):a:=h ⟨kZ⟩
theorem sXVa_3(kZ:b)(h:HidB b→a:=by intro kZ;refine sX ?_;refine DVa_2 ?_;refine exI ?_;exact kZ.out):a:=h ⟨kZ⟩
theorem DVa_4(kZ:b)(h:HidB b→a:=by intro kZ;(repeat first|refine aI qVa2 ?_|refine z0a qVa2 ?_|refine z07 qVa2 ?_|refine z0l qVa2 ?_|refine z0c ?_);exact kZ.out):a:=h ⟨kZ⟩
theorem z3v(kZ:b)(h:HidB b→a:=by intro kZ;refine sX ?_;refine DVa_4 ?_;refine exI ?_;exact kZ.out):a:=h ⟨kZ⟩
theorem sXTVa_6(kZ:b)(h:HidB b→a:=by intro kZ;refine sXT ?_;refine DVa_4 ?_;refine exI ?_;exact kZ.out):a:=h ⟨kZ⟩
theorem DVa_7(kZ:b)(h:HidB b→a:=by intro kZ;(repeat first|refine aI qVa3 ?_|refine z0a qVa3 ?_|refine z07 qVa3 ?_|refine z0l qVa3 ?_|refine z0c ?_);exact kZ.out):a:=h ⟨kZ⟩
theorem sXVa_8(kZ:b)(h:HidB b→a:=by intro kZ;refine sX ?_;refine DVa_7 ?_;refine exI ?_;exact kZ.out):a:=h ⟨kZ⟩
theorem DVa_9(kZ:b)(h:HidB b→a:=by intro kZ;(repeat first|refine aI qVa4 ?_|refine z0a qVa4 ?_|refine z07 qVa4 ?_|refine z0l qVa4 ?_|refine z0c ?_);exact kZ.out):a:=h ⟨kZ⟩
theorem zxq(kZ:b)(h:HidB b→a:=by intro kZ;refine sX ?_;refine DVa_9 ?_;refine exI ?_;exact kZ.out):a:=h ⟨kZ⟩
theorem zxr(kZ:b)(h:HidB b→a:=by intro kZ;refine dX ?_;refine DUb_0 ?_;refine exI ?_;exact kZ.out):a:=h ⟨kZ⟩
theorem sXTVa_17(kZ:b)(h:HidB b→a:=by intro kZ;refine sXT ?_;refine DUf_0 ?_;refine exI ?_;exact kZ.out):a:=h ⟨kZ⟩
theorem sXEVa_18(kZ:b)(h:HidB b→a:=by intro kZ;refine sX ?_;refine DVa_4 ?_;exact kZ.out):a:=h ⟨kZ⟩
theorem sXEVa_19(kZ:b)(h:HidB b→a:=by intro kZ;refine sX ?_;refine DVa_9 ?_;exact kZ.out):a:=h ⟨kZ⟩
theorem zmj(kZ:b)(h:HidB b→a:=by intro kZ;refine sXT ?_;refine DUb_0 ?_;exact kZ.out):a:=h ⟨kZ⟩
theorem dXEVa_22(kZ:b)(h:HidB b→a:=by intro kZ;refine dX ?_;refine DUb_0 ?_;exact kZ.out):a:=h ⟨kZ⟩
theorem zxs(kZ:b)(h:HidB b→a:=by intro kZ;refine sXT ?_;refine DUf_0 ?_;exact kZ.out):a:=h ⟨kZ⟩
end
open Go.Aut
def zgo(c:List UInt64)(b:Nat):Bool:=decide (shr64 (c.getD (b / 64) 0) (b%64)%2=1)
def zp4:QSpec:=fun vs K=>∃ c:List UInt64,∃ b:Nat,vs=[.agg (.u64s c),.c (.int .i64 b)]∧(c.length=4∧b< 256)∧K (.c (.bool (zgo c b)))
theorem zmk:z1s Tryd.prog gl 34 zp4:=by
 refine z1r (Γ:=g0) (N:=14) Tryd.func34 rfl rfl fun vs K h=>?_;obtain⟨c,b,rfl,⟨hc,hb⟩,h⟩:=h;refine⟨_,h,rfl,by simp,fun w I=>?_⟩;refine srR g0_ok fun _ K2=>?_
 iterate 2 refine sXUd_1 ?_
 refine s_n K2 ?_;refine srR g0_ok fun _ K4=>?_
 iterate 10 refine sXVa_3 ?_
 refine s_n K4 ?_;refine z0e (z0d g0_ok (fun _ _ h=>h) (by first|rfl|assumption) [.tmp 4] rfl ?_);refine rtD ?_
 show SV.c (.bool _)=_
 rw[zgo,show 0+((b:Int) / 64).toNat*1=b / 64 by omega,show((b:Int)%64).toNat=b%64 by omega]
 rfl

def cntK(cls:List UInt64)(b:Nat):Nat→Nat
  |0=>0
  |k+1=>if zgo (clsAt cls k) b then cntK cls b k+1 else cntK cls b k
theorem zxt(cls:List UInt64)(b:Nat):∀ k,cntK cls b k≤k
  |0=>Nat.le_refl _
  | k+1=>by
    have:=zxt cls b k
    rw[cntK];split<;>omega
def nzB(cls:List UInt64)(k:Nat):Bool:= !decide (clsAt cls k=Z4)
def oneB(cls:List UInt64)(nc b:Nat):Bool:=decide (cntK cls b nc=1)
def partR(cls:List UInt64)(nc:Nat):Bool:=decide (1≤nc∧nc≤256)&&(List.range nc).all (nzB cls)&&(List.range 256).all (oneB cls nc)
noncomputable def n1:Ctx:={ P:=Tryd.prog,ty:=ty,glob:=gl,fs:=[(34,.flat zp4)] }
theorem n1_ok:n1.OK:=⟨tyOK,⟨⟨z0b Tryd.func34 kR rfl,zmk⟩,trivial⟩,mixed⟩
@[simp] theorem n1_ty:n1.ty=ty:=rfl

def partS:QSpec:=fun vs K=>∃ cls:List UInt64,∃ nc:Nat,vs=[.c (.ds nc (.u64s cls))]∧(cls.length=nc*4∧nc≤9223372036854775807)∧K (.c (.bool (partR cls nc)))
theorem part_ok:z1s Tryd.prog gl 144 partS:=by
 refine z1r (Γ:=n1) (N:=47) Tryd.func144 rfl rfl fun vs K h=>?_;obtain⟨cls,nc,rfl,⟨hw,hn⟩,h⟩:=h;refine⟨_,h,rfl,by simp,fun w I=>?_⟩;refine srR n1_ok fun _ K2=>?_;refine z3v ?_;refine s_n K2 ?_;refine seq_k fun _ K3=>?_;refine srR n1_ok fun _ K5=>?_
 iterate 3 refine z3v ?_
 refine sXEVa_18 ?_;refine exB (fun hb3=>?_) (fun hb3=>?_)
 ·try simp only[dQ,reduceIte]at hb3
  iterate 3 refine sN ?_
  refine z3v ?_;refine s_n K5 ?_;refine z04 (b:=_) rfl (fun _=>?_) (fun h_t14=>?_)
  rotate_left 1
  ·exfalso;simp at h_t14
  refine srR n1_ok fun _ K7=>?_;refine z3v ?_;refine s_n K7 ?_;refine z0e (z0d n1_ok (fun _ _ h=>h) (by first|rfl|assumption) [.tmp 2] rfl ?_);refine rtD ?_
  show SV.c (.bool false)=_
  rw[partR,decide_eq_false (fun hh=>by omega),Bool.false_and,Bool.false_and]
 ·try simp only[dQ,reduceIte]at hb3
  iterate 3 refine sXTVa_6 ?_
  refine z3v ?_;refine s_n K5 ?_;refine z04 (b:=_) rfl (fun h_t14=>?_) (fun h_t14=>?_)
  ·try simp only[dQ,reduceIte]at h_t14
   refine srR n1_ok fun _ K9=>?_;refine z3v ?_;refine s_n K9 ?_;refine z0e (z0d n1_ok (fun _ _ h=>h) (by first|rfl|assumption) [.tmp 2] rfl ?_);refine rtD ?_
   show SV.c (.bool false)=_
   rw[partR,decide_eq_false (fun hh=>by omega),Bool.false_and,Bool.false_and]
  ·try simp only[dQ,reduceIte]at h_t14
   refine z09 ?_;apply K3;refine seq_k fun _ K10=>?_
   have hbase:1≤nc∧nc≤256:=by omega
   refine srR n1_ok fun _ K12=>?_;refine z3v ?_;refine s_n K12 ?_;refine z03 ?_;refine z0m (α:=Nat) (fun k=>[(0,.c (.ds nc (.u64s cls))),(3,.c (.int .i64 k))]) (fun k=>[]) 0 (fun k=>k≤nc∧(List.range k).all (nzB cls)=true) (fun k=>nc - k) ?_ ?_
   ·refine dnS [] id 0 ⟨Nat.zero_le _,rfl⟩ [] uUd_0 uUd_0 uUd_0 uUd_0
   ·intro k hk
    refine seq_k fun _ K13=>?_;refine srR n1_ok fun _ K15=>?_
    iterate 4 refine z3v ?_
    refine s_n K15 ?_;refine z04 (b:=_) rfl (fun h_t18=>?_) (fun h_t18=>?_)
    ·try simp only[dQ,reduceIte]at h_t18
     refine z09 ?_;apply K13;refine seq_k fun _ K16=>?_;refine z03 ?_
     have hkn:k< nc:=by omega
     have hcl:=z2s hw hkn
     have hsub:(Cont.u64s cls).sub ((k:Int).toNat*4) (4*1)= .u64s (clsAt cls k):=rfl
     refine srR n1_ok fun _ K18=>?_
     iterate 3 refine sXVa_8 ?_
     refine sX ?_;refine aI (by decide) ?_;refine aI (by simp only[z4n];omega) ?_;refine z0c ?_;rw[hsub];refine exI ?_
     iterate 2 refine sXVa_8 ?_
     refine s_n K18 ?_;refine z04 (b:=_) rfl (fun h_t26=>?_) (fun h_t26=>?_)
     ·try simp only[dQ,reduceIte]at h_t26
      refine srR n1_ok fun _ K20=>?_;refine z3v ?_;refine s_n K20 ?_;refine z0e (z0d n1_ok (fun _ _ h=>h) (by first|rfl|assumption) [.tmp 2] rfl ?_);refine rtD ?_
      show SV.c (.bool false)=_
      rw[partR,z6w hkn (by rw[nzB,decide_eq_true (show clsAt cls k=Z4 from h_t26)];rfl),Bool.and_false,Bool.false_and]
     ·try simp only[dQ,reduceIte]at h_t26
      refine z09 ?_;refine z05 ?_;apply K16;refine z01 n1_ok fun _ K21=>?_
      iterate 3 refine z3v ?_
      refine s_n K21 ?_;refine dnS [] id (k+1) ⟨⟨by omega,z79 hk.2 (by rw[nzB,decide_eq_false (show ¬ clsAt cls k=Z4 from h_t26)];rfl)⟩,by omega⟩ [] ?_ ?_ ?_ ?_
      ·exact uUd_0
      ·exact uUd_0
      ·exact uUd_0
      ·exact uUd_0
    ·try simp only[dQ,reduceIte]at h_t18
     refine z0i ?_;refine z00 ?_;refine z00 ?_;refine z0f ?_;apply K10;refine seq_k fun _ K22=>?_
     obtain rfl:k=nc:=by omega
     have hnz:=hk.2
     refine srR n1_ok fun _ K24=>?_;refine z3v ?_;refine s_n K24 ?_;refine z03 ?_;refine z0m (α:=Nat) (fun b=>[(0,.c (.ds k (.u64s cls))),(4,.c (.int .i64 b))]) (fun b=>[]) 0 (fun b=>b≤256∧(List.range b).all (oneB cls k)=true) (fun b=>256 - b) ?_ ?_
     ·refine dnS [] id 0 ⟨Nat.zero_le _,rfl⟩ [] uUd_0 uUd_0 uUd_0 uUd_0
     ·intro b hb
      refine seq_k fun _ K25=>?_;refine srR n1_ok fun _ K27=>?_
      iterate 2 refine z3v ?_
      refine s_n K27 ?_;refine z04 (b:=_) rfl (fun h_t28=>?_) (fun h_t28=>?_)
      ·try simp only[dQ,reduceIte]at h_t28
       refine z09 ?_;apply K25;refine seq_k fun _ K28=>?_;refine z03 ?_
       have hb256:b< 256:=by omega
       refine srR n1_ok fun _ K30=>?_;refine z3v ?_;refine s_n K30 ?_;refine seq_k fun _ K31=>?_;refine srR n1_ok fun _ K33=>?_;refine z3v ?_;refine s_n K33 ?_;refine z03 ?_;refine z0m (α:=Nat) (fun j=>[(0,.c (.ds k (.u64s cls))),(4,.c (.int .i64 b)),(5,.c (.int .i64 (cntK cls b j))),(6,.c (.int .i64 j))]) (fun j=>[]) 0 (fun j=>j≤k) (fun j=>k - j) ?_ ?_
       ·refine dnS [] id 0 (Nat.zero_le _) [] uUd_0 uUd_0 uUd_0 uUd_0
       ·intro j hj
        refine seq_k fun _ K34=>?_;refine srR n1_ok fun _ K36=>?_
        iterate 4 refine z3v ?_
        refine s_n K36 ?_;refine z04 (b:=_) rfl (fun h_t34=>?_) (fun h_t34=>?_)
        ·try simp only[dQ,reduceIte]at h_t34
         refine z09 ?_;apply K34;refine seq_k fun _ K37=>?_;refine z03 ?_
         have hjn:j< k:=by omega
         have hcl:=z2s hw hjn
         have hsub:(Cont.u64s cls).sub ((j:Int).toNat*4) (4*1)= .u64s (clsAt cls j):=rfl
         refine srR n1_ok fun _ K39=>?_
         iterate 3 refine zxq ?_
         refine sX ?_;refine aI (by decide) ?_;refine aI (by simp only[z4n];omega) ?_;refine z0c ?_;rw[hsub];refine exI ?_;refine zxq ?_;refine sXEVa_19 ?_;refine⟨clsAt cls j,b,rfl,⟨hcl,hb256⟩,?_⟩;refine DVa_9 ?_
         first|refine exI ?_|(intro cap5 hcap5;refine exI ?_)
         refine s_n K39 ?_;refine z04 (b:=_) rfl (fun h_t42=>?_) (fun h_t42=>?_)
         ·have hcle:=zxt cls b j
          refine z01 n1_ok fun _ K40=>?_
          iterate 3 refine z3v ?_
          refine s_n K40 ?_;refine z05 ?_;apply K37;refine z01 n1_ok fun _ K41=>?_
          iterate 3 refine z3v ?_
          refine s_n K41 ?_;refine dnS [] id (j+1) ⟨by omega,by omega⟩ [] uVa_1 uUd_0 uUd_0 uUd_0
         ·replace h_t42:¬ zgo (clsAt cls j) b=true:=by rw[h_t42];decide
          refine z09 ?_;refine z05 ?_;apply K37;refine z01 n1_ok fun _ K42=>?_
          iterate 3 refine z3v ?_
          refine s_n K42 ?_;refine dnS [] id (j+1) ⟨by omega,by omega⟩ [] uVa_1 uUd_0 uUd_0 uUd_0
        ·try simp only[dQ,reduceIte]at h_t34
         refine z0i ?_;refine z00 ?_;refine z00 ?_;refine z0f ?_;apply K31
         obtain rfl:j=k:=by omega
         refine srR n1_ok fun _ K44=>?_
         iterate 2 refine z3v ?_
         refine s_n K44 ?_;refine z04 (b:=_) rfl (fun h_t46=>?_) (fun h_t46=>?_)
         ·try simp only[dQ,reduceIte]at h_t46
          refine srR n1_ok fun _ K46=>?_;refine z3v ?_;refine s_n K46 ?_;refine z0e (z0d n1_ok (fun _ _ h=>h) (by first|rfl|assumption) [.tmp 2] rfl ?_);refine rtD ?_
          show SV.c (.bool false)=_
          rw[partR,z6w hb256 (by rw[oneB,decide_eq_false (by omega)]),Bool.and_false]
         ·try simp only[dQ,reduceIte]at h_t46
          refine z09 ?_;refine z05 ?_;apply K28;refine z01 n1_ok fun _ K47=>?_
          iterate 3 refine z3v ?_
          refine s_n K47 ?_;refine dnS [] id (b+1) ⟨⟨by omega,z79 hb.2 (by rw[oneB,decide_eq_true (by omega)])⟩,by omega⟩ [] uUd_0 uUd_0 uUd_0 uUd_0
      ·try simp only[dQ,reduceIte]at h_t28
       refine z0i ?_;refine z00 ?_;refine z00 ?_;refine z0f ?_;apply K22;refine srR n1_ok fun _ K49=>?_;refine z3v ?_;refine s_n K49 ?_;refine z0e (z0d n1_ok (fun _ _ h=>h) (by first|rfl|assumption) [.tmp 2] rfl ?_);refine rtD ?_
       show SV.c (.bool true)=_
       obtain rfl:b=256:=by omega
       rw[partR,decide_eq_true hbase,hnz,hb.2]
       rfl

def zc4(d:Dfa):Bool:=decide (1≤d.next.length∧d.acc.length=d.next.length)&&partR d.cls d.nc&&d.next.all (rowOK d.nc d.next.length)
def zp5(d:Dfa):Bool:=decide (d.next.length≤64)&&zc4 d
noncomputable def n2:Ctx:={ P:=Tryd.prog,ty:=ty,glob:=gl,fs:=[(144,.flat partS)] }
theorem n2_ok:n2.OK:=⟨tyOK,⟨⟨z0b Tryd.func144 kR rfl,part_ok⟩,trivial⟩,mixed⟩
@[simp] theorem n2_ty:n2.ty=ty:=rfl

def zxu:QSpec:=fun vs K=>∃ d:Dfa,vs=[dfaV d]∧d.wf∧K (.c (.bool (zc4 d)))
theorem zxv :z1s Tryd.prog gl 89 zxu:=by
 refine z1r (Γ:=n2) (N:=70) Tryd.func89 rfl rfl fun vs K h=>?_;obtain⟨d,rfl,⟨hw1,hw2,hw3,hw4,hw5⟩,h⟩:=h;refine⟨_,h,rfl,by simp,fun w I=>?_⟩;refine srR n2_ok fun _ K2=>?_
 iterate 2 refine z1f ?_
 refine s_n K2 ?_;refine srR n2_ok fun _ K4=>?_
 iterate 4 refine z1f ?_
 refine s_n K4 ?_;refine seq_k fun _ K5=>?_;refine srR n2_ok fun _ K7=>?_
 iterate 2 refine z1f ?_
 refine z45 ?_;refine exB (fun hb2=>?_) (fun hb2=>?_)
 ·try simp only[dQ,reduceIte]at hb2
  iterate 5 refine sN ?_
  refine z1f ?_;refine z45 ?_;refine exB (fun hb9=>?_) (fun hb9=>?_)
  rotate_left 1
  ·exfalso;simp at hb9
  iterate 4 refine sN ?_
  refine z1f ?_;refine s_n K7 ?_;refine z04 (b:=_) rfl (fun _=>?_) (fun h_t23=>?_)
  rotate_left 1
  ·exfalso;simp at h_t23
  refine srR n2_ok fun _ K9=>?_;refine z1f ?_;refine s_n K9 ?_;refine z0e (z0d n2_ok (fun _ _ h=>h) (by first|rfl|assumption) [.tmp 2] rfl ?_);refine rtD ?_
  show SV.c (.bool false)=_
  rw[zc4,decide_eq_false (fun hh=>by omega),Bool.false_and,Bool.false_and]
 ·try simp only[dQ,reduceIte]at hb2
  iterate 5 refine zgb ?_
  refine z1f ?_;refine z45 ?_;refine exB (fun hb9=>?_) (fun hb9=>?_)
  ·try simp only[dQ,reduceIte]at hb9
   iterate 4 refine sN ?_
   refine z1f ?_;refine s_n K7 ?_;refine z04 (b:=_) rfl (fun _=>?_) (fun h_t23=>?_)
   rotate_left 1
   ·exfalso;simp at h_t23
   refine srR n2_ok fun _ K11=>?_;refine z1f ?_;refine s_n K11 ?_;refine z0e (z0d n2_ok (fun _ _ h=>h) (by first|rfl|assumption) [.tmp 2] rfl ?_);refine rtD ?_
   show SV.c (.bool false)=_
   rw[zc4,decide_eq_false (fun hh=>by omega),Bool.false_and,Bool.false_and]
  ·try simp only[dQ,reduceIte]at hb9
   iterate 2 refine zgb ?_
   refine zmj ?_;refine⟨d.cls,d.nc,rfl,⟨hw1,hw2⟩,?_⟩;refine DUb_0 ?_
   first|refine exI ?_|(intro cap12 hcap12;refine exI ?_)
   refine zgb ?_;refine z1f ?_;refine s_n K7 ?_;refine z04 (b:=_) rfl (fun h_t23=>?_) (fun h_t23=>?_)
   ·try simp only[dQ,reduceIte]at h_t23
    refine srR n2_ok fun _ K13=>?_;refine z1f ?_;refine s_n K13 ?_;refine z0e (z0d n2_ok (fun _ _ h=>h) (by first|rfl|assumption) [.tmp 2] rfl ?_);refine rtD ?_
    show SV.c (.bool false)=_
    rw[zc4,show partR d.cls d.nc=false by simpa using h_t23,Bool.and_false,Bool.false_and]
   ·try simp only[dQ,reduceIte]at h_t23
    refine z09 ?_;apply K5;refine seq_k fun _ K14=>?_
    have hbase:1≤d.next.length∧d.acc.length=d.next.length:=by omega
    have hpart:partR d.cls d.nc=true:=by simpa using h_t23
    refine srR n2_ok fun _ K16=>?_;refine z1f ?_;refine s_n K16 ?_;refine z03 ?_;refine z0m (α:=Nat) (fun k=>[(1,.c (.ptr 0 0)),(3,.c (.int .i64 d.next.length)),(4,.c (.int .i64 k))]) (fun k=>[(0,.own 30 (dfaC d) 3)]) 1 (fun k=>k≤d.next.length∧(d.next.take k).all (rowOK d.nc d.next.length)=true) (fun k=>d.next.length - k) ?_ ?_
    ·refine dnS [] id 0 ⟨Nat.zero_le _,rfl⟩ [0] uVa_2 uVa_2 uVa_2 uVa_2
    ·intro k hk
     refine seq_k fun _ K17=>?_;refine srR n2_ok fun _ K19=>?_
     iterate 3 refine z1f ?_
     refine s_n K19 ?_;refine z04 (b:=_) rfl (fun h_t26=>?_) (fun h_t26=>?_)
     ·try simp only[dQ,reduceIte]at h_t26
      refine z09 ?_;apply K17;refine seq_k fun _ K20=>?_;refine z03 ?_;refine seq_k fun _ K21=>?_
      have hkn:k< d.next.length:=by omega
      have hrl:=hw5 _ (z30 (d:=[]) hkn)
      refine srD n2_ok [(0,true),(1,true),(2,true),(3,true),(4,true),(5,true),(6,true),(7,true),(8,true),(9,true)] rfl kR kR fun _ K23=>?_
      iterate 4 refine zxr ?_
      refine dXEVa_22 ?_;rw[show(k:Int).toNat*1=k by omega,z6u hkn];refine exI ?_
      iterate 5 refine zxr ?_
      refine d_n K23 ?_;refine z04 (b:=_) rfl (fun h_t38=>?_) (fun h_t38=>?_)
      ·try simp only[dQ,reduceIte]at h_t38
       try simp only[Int.toNat_natCast,Nat.mul_one]at h_t38
       refine srR n2_ok fun _ K25=>?_;refine z1f ?_;refine s_n K25 ?_;refine z0e (z0d n2_ok (fun _ _ h=>h) (by first|rfl|assumption) [.tmp 2] rfl ?_);refine rtD ?_
       show SV.c (.bool false)=_
       rw[zc4,za8 (d:=[]) hkn (by rw[rowOK,decide_eq_false (by omega),Bool.false_and]),Bool.and_false]
      ·try simp only[dQ,reduceIte]at h_t38
       try simp only[Int.toNat_natCast,Nat.mul_one]at h_t38
       refine z09 ?_;apply K21;refine srR n2_ok fun _ K27=>?_;refine z1f ?_;refine s_n K27 ?_;refine z03 ?_;refine z0m (α:=Nat) (fun j=>[(1,.c (.ptr 0 0)),(3,.c (.int .i64 d.next.length)),(4,.c (.int .i64 k)),(5,.c (.int .i64 j))]) (fun j=>[(0,.own 30 (dfaC d) 3)]) 1 (fun j=>j≤(d.next.getD k []).length∧((d.next.getD k []).take j).all (tgtOK d.next.length)=true) (fun j=>(d.next.getD k []).length - j) ?_ ?_
       ·refine dnS [] id 0 ⟨Nat.zero_le _,rfl⟩ [0] uVa_2 uVa_2 uVa_2 uVa_2
       ·intro j hj
        refine seq_k fun _ K28=>?_;refine srR n2_ok fun _ K30=>?_
        iterate 5 refine z1f ?_
        refine z45 ?_;rw[show(k:Int).toNat*1=k by omega,z6u hkn];refine exI ?_
        iterate 2 refine z1f ?_
        refine s_n K30 ?_;refine z04 (b:=_) rfl (fun h_t46=>?_) (fun h_t46=>?_)
        ·try simp only[dQ,reduceIte]at h_t46
         try simp only[Int.toNat_natCast,Nat.mul_one]at h_t46
         refine z09 ?_;apply K28;refine seq_k fun _ K31=>?_;refine z03 ?_
         have hjn:j< (d.next.getD k []).length:=by omega
         refine srR n2_ok fun _ K33=>?_
         iterate 4 refine z1f ?_
         refine z45 ?_;rw[show(k:Int).toNat*1=k by omega,z6u hkn];refine exI ?_
         iterate 4 refine z1f ?_
         refine z45 ?_;refine exB (fun hb9=>?_) (fun hb9=>?_)
         ·try simp only[dQ,reduceIte]at hb9
          iterate 10 refine sN ?_
          refine z1f ?_;refine s_n K33 ?_;refine z04 (b:=_) rfl (fun _=>?_) (fun h_t69=>?_)
          rotate_left 1
          ·exfalso;simp at h_t69
          have htb:tgtOK d.next.length ((d.next.getD k []).getD j 0)=false:=by
           simp only[tgtOK,Bool.and_eq_false_iff,decide_eq_false_iff_not]
           first|(simp only[Int.toNat_natCast,Nat.mul_one]at hb9 h_t69;omega)|(simp only[Int.toNat_natCast,Nat.mul_one]at hb9;omega)
          refine srR n2_ok fun _ K35=>?_;refine z1f ?_;refine s_n K35 ?_;refine z0e (z0d n2_ok (fun _ _ h=>h) (by first|rfl|assumption) [.tmp 2] rfl ?_);refine rtD ?_
          show SV.c (.bool false)=_
          rw[zc4,za8 (d:=[]) hkn (by rw[rowOK,za8 (d:=0) hjn htb,Bool.and_false]),Bool.and_false]
         ·try simp only[dQ,reduceIte]at hb9
          iterate 4 refine zgb ?_
          refine zmj ?_;rw[show(k:Int).toNat*1=k by omega,z6u hkn];refine exI ?_
          iterate 5 refine zgb ?_
          refine z1f ?_;refine s_n K33 ?_;refine z04 (b:=_) rfl (fun h_t69=>?_) (fun h_t69=>?_)
          ·try simp only[dQ,reduceIte]at h_t69
           have htb:tgtOK d.next.length ((d.next.getD k []).getD j 0)=false:=by
            simp only[tgtOK,Bool.and_eq_false_iff,decide_eq_false_iff_not]
            first|(simp only[Int.toNat_natCast,Nat.mul_one]at hb9 h_t69;omega)|(simp only[Int.toNat_natCast,Nat.mul_one]at hb9;omega)
           refine srR n2_ok fun _ K37=>?_;refine z1f ?_;refine s_n K37 ?_;refine z0e (z0d n2_ok (fun _ _ h=>h) (by first|rfl|assumption) [.tmp 2] rfl ?_);refine rtD ?_
           show SV.c (.bool false)=_
           rw[zc4,za8 (d:=[]) hkn (by rw[rowOK,za8 (d:=0) hjn htb,Bool.and_false]),Bool.and_false]
          ·try simp only[dQ,reduceIte]at h_t69
           refine z09 ?_;refine z05 ?_;apply K31
           have htg:tgtOK d.next.length ((d.next.getD k []).getD j 0)=true:=by simp only[tgtOK,Bool.and_eq_true,decide_eq_true_eq];simp only[Int.toNat_natCast,Nat.mul_one]at hb9 h_t69;exact⟨by omega,by omega⟩
           refine z01 n2_ok fun _ K38=>?_
           iterate 3 refine z1f ?_
           refine s_n K38 ?_;refine dnS [] id (j+1) ⟨⟨by omega,z60 (d:=0) hjn hj.2 htg⟩,by omega⟩ [0] uVa_2 uVa_2 uVa_2 uVa_2
        ·try simp only[dQ,reduceIte]at h_t46
         try simp only[Int.toNat_natCast,Nat.mul_one]at h_t46
         refine z0i ?_;refine z00 ?_;refine z00 ?_;refine z0f ?_;refine z05 ?_;apply K20
         have hrow:rowOK d.nc d.next.length (d.next.getD k [])=true:=by
          have h1:=hj.2
          rw[List.take_of_length_le (by omega)]at h1;rw[rowOK,h1,decide_eq_true (by omega)];rfl
         refine z01 n2_ok fun _ K39=>?_
         iterate 3 refine z1f ?_
         refine s_n K39 ?_;refine dnS [] id (k+1) ⟨⟨by omega,z60 (d:=[]) hkn hk.2 hrow⟩,by omega⟩ [0] uVa_2 uVa_2 uVa_2 uVa_2
     ·try simp only[dQ,reduceIte]at h_t26
      refine z0i ?_;refine z00 ?_;refine z00 ?_;refine z0f ?_;apply K14;refine srR n2_ok fun _ K41=>?_;refine z1f ?_;refine s_n K41 ?_;refine z0e (z0d n2_ok (fun _ _ h=>h) (by first|rfl|assumption) [.tmp 2] rfl ?_);refine rtD ?_
      show SV.c (.bool true)=_
      obtain rfl:k=d.next.length:=by omega
      have h1:=hk.2
      rw[List.take_length]at h1;rw[zc4,decide_eq_true hbase,hpart,h1]
      rfl

noncomputable def n3:Ctx:={ P:=Tryd.prog,ty:=ty,glob:=gl,fs:=[(89,.flat zxu)] }
theorem n3_ok:n3.OK:=⟨tyOK,⟨⟨z0b Tryd.func89 kR rfl,zxv⟩,trivial⟩,mixed⟩
@[simp] theorem n3_ty:n3.ty=ty:=rfl

def zrf:QSpec:=fun vs K=>∃ d:Dfa,vs=[dfaV d]∧d.wf∧K (.c (.bool (zp5 d)))
theorem ztn:z1s Tryd.prog gl 32 zrf:=by
 refine z1r (Γ:=n3) (N:=11) Tryd.func32 rfl rfl fun vs K h=>?_;obtain⟨d,rfl,hw,h⟩:=h;refine⟨_,h,rfl,by simp,fun w I=>?_⟩
 have hw':=hw
 obtain⟨hw1,hw2,hw3,hw4,hw5⟩:=hw';refine srR n3_ok fun _ K2=>?_
 iterate 2 refine zby ?_
 refine s_n K2 ?_;refine srR n3_ok fun _ K4=>?_
 iterate 4 refine zby ?_
 refine sXEUf_12 ?_;refine exB (fun hb4=>?_) (fun hb4=>?_)
 ·try simp only[dQ,reduceIte]at hb4
  refine sXTVa_17 ?_;refine zxs ?_;refine⟨d,rfl,hw,?_⟩;refine DUf_0 ?_
  first|refine exI ?_|(intro cap6 hcap6;refine exI ?_)
  iterate 2 refine zby ?_
  refine s_n K4 ?_;refine z0e (z0d n3_ok (fun _ _ h=>h) (by first|rfl|assumption) [.tmp 2] rfl ?_);refine rtD ?_
  show SV.c (.bool _)=_
  rw[zp5,decide_eq_true (by omega)]
  rfl
 ·try simp only[dQ,reduceIte]at hb4
  iterate 2 refine sN ?_
  iterate 2 refine zby ?_
  refine s_n K4 ?_;refine z0e (z0d n3_ok (fun _ _ h=>h) (by first|rfl|assumption) [.tmp 2] rfl ?_);refine rtD ?_
  show SV.c (.bool false)=_
  rw[zp5,decide_eq_false (by omega),Bool.false_and]


end Go.Proofs.YtppmnaoollkboaaDoor

namespace Go.Proofs.YtppmnaoollkboaaDoor
set_option linter.all false
open Go.Ab Go.RowKit

section
variable {a b:Prop}
theorem qVd1(h:a:=by first|exact vcA|(simp[hc]<;>omega)|(refine⟨by omega,by omega,?_⟩;decide)|(simp[hc];omega)|(refine⟨by omega,by omega⟩)|exact vcB):a:=h
theorem qVd2(h:a:=by first|exact vcA|(simp[hc]<;>omega)|(simp[hc];done)|(simp[hc];omega)|exact vcB):a:=h
theorem DVd_2(kZ:b)(h:HidB b→a:=by intro kZ;(repeat first|refine aI qVd1 ?_|refine z0a qVd1 ?_|refine z07 qVd1 ?_|refine z0l qVd1 ?_|refine z0c ?_);exact kZ.out):a:=h ⟨kZ⟩
theorem dXVd_3(kZ:b)(h:HidB b→a:=by intro kZ;refine dX ?_;refine DVd_2 ?_;refine exI ?_;exact kZ.out):a:=h ⟨kZ⟩
theorem gX0Vd_4(kZ:b)(h:HidB b→a:=by intro kZ;refine gX0 ?_;refine DVd_2 ?_;refine exI ?_;exact kZ.out):a:=h ⟨kZ⟩
theorem DVd_5(kZ:b)(h:HidB b→a:=by intro kZ;(repeat first|refine aI qVd2 ?_|refine z0a qVd2 ?_|refine z07 qVd2 ?_|refine z0l qVd2 ?_|refine z0c ?_);exact kZ.out):a:=h ⟨kZ⟩
theorem sXVd_6(kZ:b)(h:HidB b→a:=by intro kZ;refine sX ?_;refine DVd_5 ?_;refine exI ?_;exact kZ.out):a:=h ⟨kZ⟩
theorem sX0Vd_7(kZ:b)(h:HidB b→a:=by intro kZ;refine sX0 ?_;refine DVd_5 ?_;refine exI ?_;exact kZ.out):a:=h ⟨kZ⟩
end
open Go.Aut
attribute [local irreducible] z0o z0y zl z08 z0v putB
def withW(c:List UInt64)(b:Nat):List UInt64:=c.set (b / 64) (c.getD (b / 64) 0 ||| shl64 1 (b%64))
@[simp] theorem z5l(c:List UInt64)(b:Nat):(withW c b).length=c.length:=by simp[withW]
def withRS:QSpec:=fun vs K=>∃ c:List UInt64,∃ b:Nat,vs=[.agg (.u64s c),.c (.int .i64 b)]∧(c.length=4∧b< 256)∧K (.agg (.u64s (withW c b)))
theorem withR_ok:z1s Tryd.prog gl 137 withRS:=by
 refine z1r (Γ:=g0) (N:=17) Tryd.func137 rfl rfl fun vs K h=>?_;obtain⟨c,b,rfl,⟨hc,hb⟩,h⟩:=h;refine⟨_,h,rfl,by simp,fun w I=>?_⟩;refine srR g0_ok fun _ K2=>?_
 iterate 2 refine sXUd_1 ?_
 refine s_n K2 ?_;refine srD g0_ok [(0,true),(1,true),(2,true),(3,true),(4,true),(5,true),(6,true),(7,true),(8,true),(9,true),(10,true),(11,false)] rfl kR kR fun _ K4=>?_
 iterate 11 refine dXVd_3 ?_
 refine gX0Vd_4 ?_;refine d_n K4 ?_;refine srR g0_ok fun _ K6=>?_;refine sXVd_6 ?_;refine sX0Vd_7 ?_;refine s_n K6 ?_;refine z0e (z0d g0_ok (fun _ _ h=>h) (by first|rfl|assumption) [.cell 4 50] rfl ?_);refine rtD ?_;rw[withW,show 0+((b:Int) / 64).toNat*1=b / 64 by omega,show((b:Int)%64).toNat=b%64 by omega]
 rfl

def fewB(b:UInt8):UInt8:=if b< 97∨100< b then 97+b%4 else b
def fewL(l:List UInt8)(n:Nat):List UInt8:=(l.take n).map fewB
@[simp] theorem fewL_length(l:List UInt8)(n:Nat):(fewL l n).length=min n l.length:=by simp[fewL]
theorem fewL_succ{l:List UInt8}{k:Nat}(h:k< l.length):fewL l k++([]++[fewB (l.getD k 0)])=fewL l (k+1):=by
  rw[fewL,fewL,List.take_add_one,List.getD_eq_getElem?_getD,List.getElem?_eq_getElem h,List.nil_append,List.map_append];rfl
end Go.Proofs.YtppmnaoollkboaaDoor

namespace Go.Proofs.YtppmnaoollkboaaDoor
set_option linter.all false
open Go.Ab Go.RowKit

open Go.Aut
attribute [local irreducible] z0o z0y zl z08 z0v putB
def zp6(n b:Nat):Nat:=if 97≤b∧b< 97+n then b - 97 else n
def letK(n:Nat):Nat→List UInt64
  |0=>(List.replicate (n+1) (List.replicate 4 0)).flatten
  |b+1=>(letK n b).take (zp6 n b*4)++withW (clsAt (letK n b) (zp6 n b)) b++(letK n b).drop (zp6 n b*4+4)
end Go.Proofs.YtppmnaoollkboaaDoor

namespace Go.Proofs.YtppmnaoollkboaaDoor
set_option linter.all false
open Go.Ab Go.RowKit

open Go.Aut
attribute [local irreducible] z0o z0y zl z08 z0v putB letK
def tgtK(l:List UInt8)(n i:Nat):Int:=if i< l.length then((l.getD i 0).toNat%n:Nat)else 0
def rowK(l:List UInt8)(n nc s j:Nat):List Int:=(List.range j).map fun i=>tgtK l n (s*nc+i)
def rowsK(l:List UInt8)(n nc s:Nat):List (List Int):=(List.range s).map fun i=>rowK l n nc i nc
def accBit(m:UInt8)(i:Nat):Bool:=decide (shr8 m i%2=1)
def accK(m:UInt8)(s:Nat):List Bool:=(List.range s).map (accBit m)
@[simp] theorem rowK_length(l:List UInt8)(n nc s j:Nat):(rowK l n nc s j).length=j:=by simp[rowK]
@[simp] theorem rowsK_length(l:List UInt8)(n nc s:Nat):(rowsK l n nc s).length=s:=by simp[rowsK]
@[simp] theorem accK_length(m:UInt8)(s:Nat):(accK m s).length=s:=by simp[accK]
theorem rowK_succ(l:List UInt8)(n nc s j:Nat){v:Int}(hv:v=tgtK l n (s*nc+j)):rowK l n nc s j++([]++[v])=rowK l n nc s (j+1):=by
  subst hv;rw[rowK,rowK,List.range_succ,List.map_append];rfl
end Go.Proofs.YtppmnaoollkboaaDoor

namespace Go.Proofs.YtppmnaoollkboaaDoor
set_option linter.all false
open Go.Ab Go.RowKit

open Go.Aut
attribute [local irreducible] z0o z0y zl z08 z0v putB
def plc(x n:Int):Int:=if x=0 then n else if x=n then 0 else x
def goodK(f:Nat→Nat→Bool):Nat→List Bool
  |0=>[true]
  |k+1=>goodK f k++[(List.range (k+1)).any fun j=>(goodK f k).getD j false&&f j (k+1)]
def gd(f:Nat→Nat→Bool)(k:Nat):Bool:=(goodK f k).getD k false
def anyK(f:Nat→Nat→Bool)(k j:Nat):Bool:=(List.range j).any fun i=>gd f i&&f i k
def rowG(f:Nat→Nat→Bool)(n k j:Nat):List Bool:=(List.range (n+1)).map fun i=>if i< k then gd f i else if i=k then anyK f k j else false
@[simp] theorem rowG_length(f:Nat→Nat→Bool)(n k j:Nat):(rowG f n k j).length=n+1:=by simp[rowG]
theorem rowG_get(f:Nat→Nat→Bool){n k j i:Nat}(h:i≤n):(rowG f n k j).getD i false=if i< k then gd f i else if i=k then anyK f k j else false:=by
  rw[rowG,List.getD_eq_getElem?_getD,List.getElem?_map,List.getElem?_range (by omega)];rfl
end Go.Proofs.YtppmnaoollkboaaDoor

namespace Go.Proofs.YtppmnaoollkboaaDoor
set_option linter.all false
open Go.Ab Go.RowKit

open Go.Aut
end Go.Proofs.YtppmnaoollkboaaDoor

namespace Go.Proofs.YtppmnaoollkboaaDoor
set_option linter.all false
open Go.Ab Go.RowKit

open Go.Aut
theorem zc5{u v:List Nat}(h:Bytes (u++v)):Bytes u∧Bytes v:=⟨fun b hb=>h b (List.mem_append_left _ hb),fun b hb=>h b (List.mem_append_right _ hb)⟩
theorem zte{L L' M M':List Nat→Bool}(e:∀ w,Bytes w→L w=L' w)(e':∀ w,Bytes w→M w=M' w){w:List Nat}(hw:Bytes w):catB L M w=catB L' M' w:=by
  unfold catB;refine decide_eq_decide.2 ⟨?_,?_⟩
  · rintro ⟨u,v,rfl,h1,h2⟩
    exact⟨u,v,rfl,by rw[←e _ (zc5 hw).1];exact h1,by rw[←e' _ (zc5 hw).2];exact h2⟩
  · rintro ⟨u,v,rfl,h1,h2⟩
    exact⟨u,v,rfl,by rw[e _ (zc5 hw).1];exact h1,by rw[e' _ (zc5 hw).2];exact h2⟩
theorem zol{L L':List Nat→Bool}(e:∀ w,Bytes w→L w=L' w){w:List Nat}(hw:Bytes w):starB L w=starB L' w:=by
  have hb:∀ ws:List (List Nat),ws.flatten=w→∀ u∈ws,Bytes u:=fun ws h u hu b hb=>hw b (h▸List.mem_flatten.2 ⟨u,hu,hb⟩)
  unfold starB;refine decide_eq_decide.2 ⟨?_,?_⟩
  · rintro ⟨ws,h1,h2⟩
    exact⟨ws,fun u hu=>by rw[←e _ (hb ws h2 u hu)];exact h1 u hu,h2⟩
  · rintro ⟨ws,h1,h2⟩
    exact⟨ws,fun u hu=>by rw[e _ (hb ws h2 u hu)];exact h1 u hu,h2⟩
end Go.Proofs.YtppmnaoollkboaaDoor

namespace Go.Proofs.YtppmnaoollkboaaDoor
set_option linter.all false
open Go.Ab Go.RowKit

open Go.Aut
theorem noD_wf:noD.wf:=by
  refine⟨rfl,?_,?_,?_,fun r hr=>by cases hr⟩<;>decide
end Go.Proofs.YtppmnaoollkboaaDoor

namespace Go.Proofs.YtppmnaoollkboaaDoor
set_option linter.all false
open Go.Ab Go.RowKit

open Go.Aut
end Go.Proofs.YtppmnaoollkboaaDoor

namespace Go.Proofs.YtppmnaoollkboaaDoor
set_option linter.all false
open Go.Ab Go.RowKit

open Go.Aut
theorem hasBit_W(c:List UInt64)(b:Nat):zgo c b=hasW c b:=by
  rw[zgo,hasW]
  have h64:b%64< 64:=Nat.mod_lt _ (by decide)
  have hn:(shr64 (c.getD (b / 64) 0) (b%64)).toNat=(c.getD (b / 64) 0).toNat >>> (b%64):=by
    unfold shr64;rw[if_pos h64,UInt64.toNat_shiftRight]
    congr 1
    rw [show (b % 64).toUInt64.toNat = b % 64 from UInt64.toNat_ofNat_of_lt' (by show b%64< 2 ^ 64;have:(64:Nat)< 2 ^ 64:=by decide
                                                                                 omega)]
    omega
  rw[Bool.eq_iff_iff,decide_eq_true_eq,Nat.testBit_eq_decide_div_mod_eq,decide_eq_true_eq, ←UInt64.toNat_inj,UInt64.toNat_mod,hn,Nat.shiftRight_eq_div_pow];exact Iff.rfl
theorem zrg{cls:List UInt64}{k b:Nat}(hb:b< 256):zgo (clsAt cls k) b=hasC cls k b:=by rw[hasBit_W,zd8 hb]
def plN(t s:Nat):Nat:=if t=0 then s else if t=s then 0 else t
def mvRow(r:List Int)(s k:Nat):List Int:=(r.take k).map fun x=>plc x (s:Int)
def mvR(d:Dfa)(s t:Nat):List (List Int):=(List.range t).map fun i=>mvRow (d.next.getD (plN i s) []) s (d.next.getD (plN i s) []).length
def mvA(d:Dfa)(s t:Nat):List Bool:=(List.range t).map fun i=>d.acc.getD (plN i s) false
@[simp] theorem mvR_length(d:Dfa)(s t:Nat):(mvR d s t).length=t:=by simp[mvR]
@[simp] theorem mvA_length(d:Dfa)(s t:Nat):(mvA d s t).length=t:=by simp[mvA]
theorem mvRow_length{r:List Int}{s k:Nat}(h:k≤r.length):(mvRow r s k).length=k:=by rw[mvRow,List.length_map,List.length_take,Nat.min_eq_left h]
end Go.Proofs.YtppmnaoollkboaaDoor
