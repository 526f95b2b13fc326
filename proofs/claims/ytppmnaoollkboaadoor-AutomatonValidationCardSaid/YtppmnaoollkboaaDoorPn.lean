/- Part 14 of what the claims of this seat share: the walk's engine, the functions' contracts, plain mathematics (Vb, Vc, Va, Vd, Ve, Vf, Vg, Vh, Vi, Vn, Vp, Vv). -/
import Derived.Test.YtppmnaoollkboaaDoorPd
import Derived.Test.YtppmnaoollkboaaDoorPh
import Derived.Test.YtppmnaoollkboaaDoorPb
import Derived.Test.YtppmnaoollkboaaDoorPl
import Derived.Test.YtppmnaoollkboaaDoorPi
import Derived.Test.YtppmnaoollkboaaDoorPc
set_option maxHeartbeats 1000000
namespace Go.Proofs.YtppmnaoollkboaaDoor
set_option linter.all false
open Go.Ab Go.RowKit

theorem qXVb_2{a b:Prop}(kZ:b)(h:HidB b→a:=by intro kZ;refine qX ?_;refine DUf_0 ?_;refine exI ?_;exact kZ.out):a:=h ⟨kZ⟩

open Go.Aut
attribute [local irreducible] z0s z12 zl z02 z11 putB
theorem zao{α:Type}{a b:List α}{k:Nat}{d:α}(h:a.take k=b.take k)(h1:k< a.length)(h2:k< b.length)(e:a.getD k d=b.getD k d):a.take (k+1)=b.take (k+1):=by
  rw[List.getD_eq_getElem?_getD,List.getD_eq_getElem?_getD,List.getElem?_eq_getElem h1,List.getElem?_eq_getElem h2,Option.getD_some,Option.getD_some]at e;rw[List.take_add_one,List.take_add_one,h,List.getElem?_eq_getElem h1,List.getElem?_eq_getElem h2,e]
theorem zc3{α:Type}{a b:List α}{k:Nat}(h:a.take k=b.take k)(h1:a.length≤k)(h2:b.length≤k):a=b:=by
  rwa [List.take_of_length_le h1,List.take_of_length_le h2]at h
def zit:QSpec:=fun vs K=>∃ a b:List Int,vs=[.c (.ds a.length (.ints .i64 a)),.c (.ds b.length (.ints .i64 b))]∧(a.length≤9223372036854775807∧b.length≤9223372036854775807)∧K (.c (.bool (decide (a=b))))
theorem ziu:z19 Tryd.prog gl 72 zit:=by
 refine z1d (Γ:=g0) (N:=26) Tryd.func72 rfl rfl fun vs K h=>?_;obtain⟨a,b,rfl,⟨hb1,hb2⟩,h⟩:=h;refine⟨_,h,rfl,by simp,fun w I=>?_⟩;refine srR g0_ok fun _ K2=>?_;refine zcz ?_;refine s_n K2 ?_;refine seq_k fun _ K3=>?_;refine srR g0_ok fun _ K5=>?_
 iterate 5 refine zcz ?_
 refine s_n K5 ?_;refine z09 (b:=_) rfl (fun h_t10=>?_) (fun h_t10=>?_)
 ·try simp only[dQ,reduceIte]at h_t10
  refine srR g0_ok fun _ K7=>?_;refine zcz ?_;refine s_n K7 ?_;refine z0g (z0d g0_ok (fun _ _ h=>h) (by first|rfl|assumption) [.tmp 4] rfl ?_);refine rtD ?_
  show SV.c (.bool false)=_
  rw[decide_eq_false (fun e=>h_t10 (by rw[e]))]
 ·try simp only[dQ,reduceIte]at h_t10
  refine z0b ?_;apply K3;refine seq_k fun _ K8=>?_;refine srR g0_ok fun _ K10=>?_;refine zcz ?_;refine s_n K10 ?_;refine z07 ?_
  have hl:a.length=b.length:=by omega
  refine z0q (α:=Nat) (fun k=>[(0,.c (.ds a.length (.ints .i64 a))),(1,.c (.ds b.length (.ints .i64 b))),(5,.c (.int .i64 k))]) (fun k=>[]) 0 (fun k=>k≤a.length∧a.take k=b.take k) (fun k=>a.length - k) ?_ ?_
  ·refine dnS [] id 0 ⟨Nat.zero_le _,rfl⟩ [] uUd_0 uUd_0 uUd_0 uUd_0
  ·intro k hk
   refine seq_k fun _ K11=>?_;refine srR g0_ok fun _ K13=>?_
   iterate 4 refine zcz ?_
   refine s_n K13 ?_;refine z09 (b:=_) rfl (fun h_t14=>?_) (fun h_t14=>?_)
   ·try simp only[dQ,reduceIte]at h_t14
    refine z0b ?_;apply K11;refine seq_k fun _ K14=>?_;refine z07 ?_
    have hka:k< a.length:=by omega
    have hkb:k< b.length:=by omega
    refine srQ g0_ok kR fun _ K16=>?_
    iterate 9 refine qXVb_2 ?_
    refine q_n K16 ?_;refine z09 (b:=_) rfl (fun h_t25=>?_) (fun h_t25=>?_)
    ·simp only[Int.toNat_natCast,Nat.mul_one,Bool.not_eq_true',decide_eq_false_iff_not]at h_t25
     refine srR g0_ok fun _ K18=>?_;refine zcz ?_;refine s_n K18 ?_;refine z0g (z0d g0_ok (fun _ _ h=>h) (by first|rfl|assumption) [.tmp 4] rfl ?_);refine rtD ?_
     show SV.c (.bool false)=_
     rw[decide_eq_false (fun e=>h_t25 (by rw[e]))]
    ·simp only[Int.toNat_natCast,Nat.mul_one,Bool.not_eq_false',decide_eq_true_eq]at h_t25
     refine z0b ?_;refine z0a ?_;apply K14;refine z06 g0_ok fun _ K19=>?_
     iterate 3 refine zcz ?_
     refine s_n K19 ?_;refine dnS [] id (k+1) ⟨⟨by omega,zao (d:=0) hk.2 hka hkb h_t25⟩,by omega⟩ [] uUd_0 uUd_0 uUd_0 uUd_0
   ·try simp only[dQ,reduceIte]at h_t14
    refine z0o ?_;refine z01 ?_;refine z01 ?_;refine z0j ?_;apply K8;refine srR g0_ok fun _ K21=>?_;refine zcz ?_;refine s_n K21 ?_;refine z0g (z0d g0_ok (fun _ _ h=>h) (by first|rfl|assumption) [.tmp 4] rfl ?_);refine rtD ?_
    obtain rfl:k=a.length:=by omega
    show SV.c (.bool true)=_
    rw[decide_eq_true (zc3 hk.2 (Nat.le_refl _) (by omega))]

end Go.Proofs.YtppmnaoollkboaaDoor

namespace Go.Proofs.YtppmnaoollkboaaDoor
set_option linter.all false
open Go.Ab Go.RowKit

section
variable {a b:Prop}
theorem qVc0(h:a:=by first|exact vcA|(simp<;>omega)|(simp only[z0y];omega)|exact vcB):a:=h
theorem qVc1(h:a:=by rintro ⟨g1,g2,g3,g4⟩;have g5:=congrArg List.length g3;have g6:=congrArg List.length g4;first|omega|(simp_all;done)|(simp at *;omega)):a:=h
theorem qVc2(h:a:=by first|exact vcA|(simp[hcd,hce]<;>omega)|(show(clsAt _ k).length=4;first|exact hcd|exact hce)|exact hcd|exact hce|exact vcB):a:=h
theorem uVc_0(h:a:=by
    repeat' (first|exact pT|exact trivial|refine aI ?_ ?_|exact cC0|refine low_cons' ?_ ?_|exact cC1|fail)
    all_goals first|omega|exact zcw _|exact z1b _|(show(0:Nat)< (z02 _ _ _ _).length;rw[z00 hcl];decide)|(simp[-List.reduceReplicate];done)|(simp[-List.reduceReplicate]<;>omega)|skip):a:=h
theorem DVc_0(kZ:b)(h:HidB b→a:=by intro kZ;(repeat first|refine aI qVc0 ?_|refine z04 qVc0 ?_|refine z03 qVc0 ?_|refine z0m qVc0 ?_|refine z0c ?_);exact kZ.out):a:=h ⟨kZ⟩
theorem z47(kZ:b)(h:HidB b→a:=by intro kZ;refine sX ?_;refine DVc_0 ?_;refine exI ?_;exact kZ.out):a:=h ⟨kZ⟩
theorem y0a(kZ:b)(h:HidB b→a:=by intro kZ;refine sXT ?_;refine DVc_0 ?_;refine exI ?_;exact kZ.out):a:=h ⟨kZ⟩
theorem DVc_3(kZ:b)(h:HidB b→a:=by intro kZ;(repeat first|refine aI qVc2 ?_|refine z04 qVc2 ?_|refine z03 qVc2 ?_|refine z0m qVc2 ?_|refine z0c ?_);exact kZ.out):a:=h ⟨kZ⟩
theorem y0b(kZ:b)(h:HidB b→a:=by intro kZ;refine qX ?_;refine DVc_3 ?_;refine exI ?_;exact kZ.out):a:=h ⟨kZ⟩
theorem ztw(kZ:b)(h:HidB b→a:=by intro kZ;refine qX ?_;refine DVc_0 ?_;refine exI ?_;exact kZ.out):a:=h ⟨kZ⟩
theorem zr0(kZ:b)(h:HidB b→a:=by intro kZ;refine sX ?_;refine DVc_0 ?_;exact kZ.out):a:=h ⟨kZ⟩
theorem y0c(kZ:b)(h:HidB b→a:=by intro kZ;refine qX ?_;refine DVc_3 ?_;exact kZ.out):a:=h ⟨kZ⟩
theorem zr1(kZ:b)(h:HidB b→a:=by intro kZ;refine qX ?_;refine DVc_0 ?_;exact kZ.out):a:=h ⟨kZ⟩
end
open Go.Aut
attribute [local irreducible] z0s z12 zl z02 z11 putB
def sameD(d e:Dfa):Bool:=decide (d.nc=e.nc∧d.cls=e.cls∧d.next=e.next∧d.acc=e.acc)
theorem z8o{d e:Dfa}:sameD d e=true↔d=e:=by
  cases d;cases e
  simp only[sameD,decide_eq_true_iff,Dfa.mk.injEq]
  exact⟨fun h=>⟨h.2.1,h.1,h.2.2⟩,fun h=>⟨h.2.1,h.1,h.2.2⟩⟩
theorem cls_at{a:List UInt64}(j:Nat):(clsAt a (j / 4))[j%4]? =a[j]? :=by
  rw[clsAt,List.getElem?_take,if_pos (Nat.mod_lt _ (by decide)),List.getElem?_drop]
  congr 1;omega
theorem cls_ext{a b:List UInt64}{n:Nat}(ha:a.length=n*4)(hb:b.length=n*4)(h:∀ i,i< n→clsAt a i=clsAt b i):a=b:=by
  refine List.ext_getElem? fun j=>?_
  by_cases hj:j< n*4
  · rw[←cls_at (a:=a) j, ←cls_at (a:=b) j,h _ (by omega)]
  · rw[List.getElem?_eq_none (by omega),List.getElem?_eq_none (by omega)]
noncomputable def gv1:Ctx:={ P:=Tryd.prog,ty:=ty,glob:=gl,fs:=[(72,.flat zit)] }
theorem z35:gv1.OK:=⟨tyOK,⟨⟨z08 Tryd.func72 kR rfl,ziu⟩,trivial⟩,mixed⟩
@[simp] theorem gv1_ty:gv1.ty=ty:=rfl

def sameS:QSpec:=fun vs K=>∃ d e:Dfa,vs=[dfaV d,dfaV e]∧(d.wf∧e.wf)∧K (.c (.bool (sameD d e)))
theorem y0d:z19 Tryd.prog gl 28 sameS:=by
 refine z1d (Γ:=gv1) (N:=88) Tryd.func28 rfl rfl fun vs K h=>?_;obtain⟨d,e,rfl,⟨hd,he⟩,h⟩:=h;refine⟨_,h,rfl,by simp,fun w I=>?_⟩;refine srR z35 fun _ K2=>?_
 iterate 3 refine z47 ?_
 refine s_n K2 ?_;refine seq_k fun _ K3=>?_;refine srR z35 fun _ K5=>?_
 iterate 7 refine z47 ?_
 refine zr0 ?_;refine exB (fun hb7=>?_) (fun hb7=>?_)
 ·try simp only[dQ,reduceIte]at hb7
  iterate 7 refine sN ?_
  refine z47 ?_;refine zr0 ?_;refine exB (fun hb16=>?_) (fun hb16=>?_)
  rotate_left 1
  ·exfalso;simp at hb16
  iterate 7 refine sN ?_
  refine z47 ?_;refine s_n K5 ?_;refine z09 (b:=_) rfl (fun _=>?_) (fun h_t32=>?_)
  rotate_left 1
  ·exfalso;simp at h_t32
  refine srR z35 fun _ K7=>?_;refine z47 ?_;refine s_n K7 ?_;refine z0g (z0d z35 (fun _ _ h=>h) (by first|rfl|assumption) [.tmp 4] rfl ?_);refine rtD ?_
  show SV.c (.bool false)=_
  rw[sameD,decide_eq_false qVc1]
 ·try simp only[dQ,reduceIte]at hb7
  iterate 7 refine y0a ?_
  refine z47 ?_;refine zr0 ?_;refine exB (fun hb16=>?_) (fun hb16=>?_)
  ·try simp only[dQ,reduceIte]at hb16
   iterate 7 refine sN ?_
   refine z47 ?_;refine s_n K5 ?_;refine z09 (b:=_) rfl (fun _=>?_) (fun h_t32=>?_)
   rotate_left 1
   ·exfalso;simp at h_t32
   refine srR z35 fun _ K9=>?_;refine z47 ?_;refine s_n K9 ?_;refine z0g (z0d z35 (fun _ _ h=>h) (by first|rfl|assumption) [.tmp 4] rfl ?_);refine rtD ?_
   show SV.c (.bool false)=_
   rw[sameD,decide_eq_false qVc1]
  ·try simp only[dQ,reduceIte]at hb16
   iterate 7 refine y0a ?_
   refine z47 ?_;refine s_n K5 ?_;refine z09 (b:=_) rfl (fun h_t32=>?_) (fun h_t32=>?_)
   ·try simp only[dQ,reduceIte]at h_t32
    refine srR z35 fun _ K11=>?_;refine z47 ?_;refine s_n K11 ?_;refine z0g (z0d z35 (fun _ _ h=>h) (by first|rfl|assumption) [.tmp 4] rfl ?_);refine rtD ?_
    show SV.c (.bool false)=_
    rw[sameD,decide_eq_false qVc1]
   ·try simp only[dQ,reduceIte]at h_t32
    refine z0b ?_;apply K3;refine seq_k fun _ K12=>?_
    have hL:d.nc=e.nc∧d.next.length=e.next.length∧d.acc.length=e.acc.length:=by first|omega|(simp at *;omega)
    have hd1:=hd.1
    have he1:=he.1
    have hM1:=hd.2.1
    have hM2:=hd.2.2.1
    have hM3:=hd.2.2.2.1
    refine srR z35 fun _ K14=>?_;refine z47 ?_;refine s_n K14 ?_;refine z07 ?_;refine z0q (α:=Nat) (fun k=>[(2,.c (.dp (dfaC d) 0)),(3,.c (.dp (dfaC e) 0)),(5,.c (.int .i64 k))]) (fun k=>[]) 0 (fun k=>k≤d.nc∧∀ i,i< k→clsAt d.cls i=clsAt e.cls i) (fun k=>d.nc - k) ?_ ?_
    ·refine dnS [0,1] id 0 ⟨Nat.zero_le _,fun i hi=>absurd hi (Nat.not_lt_zero i)⟩ [] uVc_0 uVc_0 uVc_0 uVc_0
    ·intro k hk
     refine seq_k fun _ K15=>?_;refine srR z35 fun _ K17=>?_
     iterate 5 refine z47 ?_
     refine s_n K17 ?_;refine z09 (b:=_) rfl (fun h_t37=>?_) (fun h_t37=>?_)
     ·try simp only[dQ,reduceIte]at h_t37
      refine z0b ?_;apply K15;refine seq_k fun _ K18=>?_;refine z07 ?_
      have hkn:k< d.nc:=by omega
      have hcd:=z31 hd1 hkn
      have hce:=z31 he1 (hL.1▸hkn)
      refine srQ z35 kR fun _ K20=>?_
      iterate 4 refine y0b ?_
      refine y0c ?_;refine exA (.agg (.u64s (clsAt d.cls k))) (as_eq rfl) ?_
      iterate 4 refine y0b ?_
      refine y0c ?_;refine exA (.agg (.u64s (clsAt e.cls k))) (as_eq rfl) ?_;refine y0b ?_;refine q_n K20 ?_;refine z09 (b:=_) rfl (fun h_t50=>?_) (fun h_t50=>?_)
      ·try simp only[dQ,reduceIte]at h_t50
       refine srR z35 fun _ K22=>?_;refine z47 ?_;refine s_n K22 ?_;refine z0g (z0d z35 (fun _ _ h=>h) (by first|rfl|assumption) [.tmp 4] rfl ?_);refine rtD ?_
       show SV.c (.bool false)=_
       rw[sameD,decide_eq_false (fun g=>h_t50 (by rw[g.2.1]))]
      ·try simp only[dQ,reduceIte]at h_t50
       refine z0b ?_;refine z0a ?_;apply K18;refine z06 z35 fun _ K23=>?_
       iterate 3 refine z47 ?_
       refine s_n K23 ?_;refine dnS [] id (k+1) ⟨⟨by omega,fun i hi=>(Nat.lt_succ_iff_lt_or_eq.1 hi).elim (hk.2 i) (fun e=>e▸h_t50)⟩,by omega⟩ [] uVc_0 uVc_0 uVc_0 uVc_0
     ·try simp only[dQ,reduceIte]at h_t37
      refine z0o ?_;refine z01 ?_;refine z01 ?_;refine z0j ?_;apply K12;refine seq_k fun _ K24=>?_
      obtain rfl:k=d.nc:=by omega
      have hcls:d.cls=e.cls:=cls_ext hd1 (hL.1▸he1) hk.2
      refine srR z35 fun _ K26=>?_;refine z47 ?_;refine s_n K26 ?_;refine z07 ?_;refine z0q (α:=Nat) (fun k=>[(2,.c (.dp (dfaC d) 0)),(3,.c (.dp (dfaC e) 0)),(6,.c (.int .i64 k))]) (fun k=>[]) 0 (fun k=>k≤d.next.length∧d.next.take k=e.next.take k) (fun k=>d.next.length - k) ?_ ?_
      ·refine dnS [] id 0 ⟨Nat.zero_le _,rfl⟩ [] uVc_0 uVc_0 uVc_0 uVc_0
      ·intro k hk
       refine seq_k fun _ K27=>?_;refine srR z35 fun _ K29=>?_
       iterate 5 refine z47 ?_
       refine s_n K29 ?_;refine z09 (b:=_) rfl (fun h_t55=>?_) (fun h_t55=>?_)
       ·try simp only[dQ,reduceIte]at h_t55
        refine z0b ?_;apply K27;refine seq_k fun _ K30=>?_;refine z07 ?_
        have hkn:k< d.next.length:=by omega
        have hke:k< e.next.length:=by omega
        have hr1:=hd.2.2.2.2 _ (z3j (d:=[]) hkn)
        have hr2:=he.2.2.2.2 _ (z3j (d:=[]) hke)
        refine srQ z35 kR fun _ K32=>?_
        iterate 4 refine ztw ?_
        refine zr1 ?_;rw[z7j]
        rotate_left 1
        ·first|omega|(simp<;>omega)
        refine exI ?_
        iterate 4 refine ztw ?_
        refine zr1 ?_;rw[z7j]
        rotate_left 1
        ·first|omega|(simp<;>omega)
        refine exI ?_;refine zr1 ?_
        simp only[Int.toNat_natCast,Nat.mul_one]
        refine⟨d.next.getD k [],e.next.getD k [],rfl,⟨hr1,hr2⟩,?_⟩;refine DVc_0 ?_
        first|refine exI ?_|(intro cap10 hcap10;refine exI ?_)
        refine ztw ?_;refine q_n K32 ?_;refine z09 (b:=_) rfl (fun h_t69=>?_) (fun h_t69=>?_)
        ·simp only[Int.toNat_natCast,Nat.mul_one,Bool.not_eq_true',decide_eq_false_iff_not]at h_t69
         refine srR z35 fun _ K34=>?_;refine z47 ?_;refine s_n K34 ?_;refine z0g (z0d z35 (fun _ _ h=>h) (by first|rfl|assumption) [.tmp 4] rfl ?_);refine rtD ?_
         show SV.c (.bool false)=_
         rw[sameD,decide_eq_false (fun g=>h_t69 (by rw[g.2.2.1]))]
        ·simp only[Int.toNat_natCast,Nat.mul_one,Bool.not_eq_false',decide_eq_true_eq]at h_t69
         refine z0b ?_;refine z0a ?_;apply K30;refine z06 z35 fun _ K35=>?_
         iterate 3 refine z47 ?_
         refine s_n K35 ?_;refine dnS [] id (k+1) ⟨⟨by omega,zao (d:=[]) hk.2 hkn hke h_t69⟩,by omega⟩ [] uVc_0 uVc_0 uVc_0 uVc_0
       ·try simp only[dQ,reduceIte]at h_t55
        refine z0o ?_;refine z01 ?_;refine z01 ?_;refine z0j ?_;apply K24;refine seq_k fun _ K36=>?_
        obtain rfl:k=d.next.length:=by omega
        have hnx:d.next=e.next:=zc3 hk.2 (Nat.le_refl _) (by omega)
        refine srR z35 fun _ K38=>?_;refine z47 ?_;refine s_n K38 ?_;refine z07 ?_;refine z0q (α:=Nat) (fun k=>[(2,.c (.dp (dfaC d) 0)),(3,.c (.dp (dfaC e) 0)),(7,.c (.int .i64 k))]) (fun k=>[]) 0 (fun k=>k≤d.acc.length∧d.acc.take k=e.acc.take k) (fun k=>d.acc.length - k) ?_ ?_
        ·refine dnS [] id 0 ⟨Nat.zero_le _,rfl⟩ [] uVc_0 uVc_0 uVc_0 uVc_0
        ·intro k hk
         refine seq_k fun _ K39=>?_;refine srR z35 fun _ K41=>?_
         iterate 5 refine z47 ?_
         refine s_n K41 ?_;refine z09 (b:=_) rfl (fun h_t74=>?_) (fun h_t74=>?_)
         ·try simp only[dQ,reduceIte]at h_t74
          refine z0b ?_;apply K39;refine seq_k fun _ K42=>?_;refine z07 ?_
          have hkn:k< d.acc.length:=by omega
          have hke:k< e.acc.length:=by omega
          refine srQ z35 kR fun _ K44=>?_
          iterate 11 refine ztw ?_
          refine q_n K44 ?_;refine z09 (b:=_) rfl (fun h_t87=>?_) (fun h_t87=>?_)
          ·simp only[Int.toNat_natCast,Nat.mul_one,Bool.not_eq_true',decide_eq_false_iff_not]at h_t87
           refine srR z35 fun _ K46=>?_;refine z47 ?_;refine s_n K46 ?_;refine z0g (z0d z35 (fun _ _ h=>h) (by first|rfl|assumption) [.tmp 4] rfl ?_);refine rtD ?_
           show SV.c (.bool false)=_
           rw[sameD,decide_eq_false (fun g=>h_t87 (by rw[g.2.2.2]))]
          ·simp only[Int.toNat_natCast,Nat.mul_one,Bool.not_eq_false',decide_eq_true_eq]at h_t87
           refine z0b ?_;refine z0a ?_;apply K42;refine z06 z35 fun _ K47=>?_
           iterate 3 refine z47 ?_
           refine s_n K47 ?_;refine dnS [] id (k+1) ⟨⟨by omega,zao (d:=false) hk.2 hkn hke h_t87⟩,by omega⟩ [] uVc_0 uVc_0 uVc_0 uVc_0
         ·try simp only[dQ,reduceIte]at h_t74
          refine z0o ?_;refine z01 ?_;refine z01 ?_;refine z0j ?_;apply K36;refine srR z35 fun _ K49=>?_;refine z47 ?_;refine s_n K49 ?_;refine z0g (z0d z35 (fun _ _ h=>h) (by first|rfl|assumption) [.tmp 4] rfl ?_);refine rtD ?_
          obtain rfl:k=d.acc.length:=by omega
          show SV.c (.bool true)=_
          rw[sameD,decide_eq_true ⟨hL.1,hcls,hnx,zc3 hk.2 (Nat.le_refl _) (by omega)⟩]


end Go.Proofs.YtppmnaoollkboaaDoor

namespace Go.Proofs.YtppmnaoollkboaaDoor
set_option linter.all false
open Go.Ab Go.RowKit

section
variable {a b:Prop}
theorem qVa1(h:a:=by first|exact vcA|(simp[hc]<;>omega)|(refine⟨by omega,by omega,?_⟩;decide)|(simp[hc];omega)|exact vcB):a:=h
theorem qVa2(h:a:=by first|exact vcA|(simp[hw]<;>omega)|exact vcB):a:=h
theorem qVa3(h:a:=by first|exact vcA|(simp[hw,hcl]<;>omega)|(show(clsAt cls k).length=4;exact hcl)|exact hcl|exact vcB):a:=h
theorem qVa4(h:a:=by first|exact vcA|(simp[hw,hcl]<;>omega)|exact vcB):a:=h
theorem uVa_1(h:a:=by
    repeat' (first|exact trivial|refine aI ?_ ?_|exact cC0|refine low_cons' ?_ ?_|exact cC1|fail)
    all_goals first|omega|(rw[cntK,if_pos h_t42];simp;done)|(rw[cntK,if_neg h_t42])|skip):a:=h
theorem uVa_2(h:a:=by
    repeat' (first|exact trivial|refine aI ?_ ?_|exact cC0|refine low_cons' ?_ ?_|exact cC1|fail)
    all_goals first|omega|exact zcw _|exact low_cons' trivial (low_cons' trivial (low_cons' trivial low_nil'))|(simp;done)|(simp<;>omega)|skip):a:=h
theorem DVa_2(kZ:b)(h:HidB b→a:=by intro kZ;(repeat first|refine aI qVa1 ?_|refine z04 qVa1 ?_|refine z03 qVa1 ?_|refine z0m qVa1 ?_|refine z0c ?_);exact kZ.out):a:=h ⟨kZ⟩
theorem sXVa_3(kZ:b)(h:HidB b→a:=by intro kZ;refine sX ?_;refine DVa_2 ?_;refine exI ?_;exact kZ.out):a:=h ⟨kZ⟩
theorem DVa_4(kZ:b)(h:HidB b→a:=by intro kZ;(repeat first|refine aI qVa2 ?_|refine z04 qVa2 ?_|refine z03 qVa2 ?_|refine z0m qVa2 ?_|refine z0c ?_);exact kZ.out):a:=h ⟨kZ⟩
theorem z4o(kZ:b)(h:HidB b→a:=by intro kZ;refine sX ?_;refine DVa_4 ?_;refine exI ?_;exact kZ.out):a:=h ⟨kZ⟩
theorem sXTVa_6(kZ:b)(h:HidB b→a:=by intro kZ;refine sXT ?_;refine DVa_4 ?_;refine exI ?_;exact kZ.out):a:=h ⟨kZ⟩
theorem DVa_7(kZ:b)(h:HidB b→a:=by intro kZ;(repeat first|refine aI qVa3 ?_|refine z04 qVa3 ?_|refine z03 qVa3 ?_|refine z0m qVa3 ?_|refine z0c ?_);exact kZ.out):a:=h ⟨kZ⟩
theorem sXVa_8(kZ:b)(h:HidB b→a:=by intro kZ;refine sX ?_;refine DVa_7 ?_;refine exI ?_;exact kZ.out):a:=h ⟨kZ⟩
theorem DVa_9(kZ:b)(h:HidB b→a:=by intro kZ;(repeat first|refine aI qVa4 ?_|refine z04 qVa4 ?_|refine z03 qVa4 ?_|refine z0m qVa4 ?_|refine z0c ?_);exact kZ.out):a:=h ⟨kZ⟩
theorem y0e(kZ:b)(h:HidB b→a:=by intro kZ;refine sX ?_;refine DVa_9 ?_;refine exI ?_;exact kZ.out):a:=h ⟨kZ⟩
theorem y0f(kZ:b)(h:HidB b→a:=by intro kZ;refine dX ?_;refine DUb_0 ?_;refine exI ?_;exact kZ.out):a:=h ⟨kZ⟩
theorem sXEVa_18(kZ:b)(h:HidB b→a:=by intro kZ;refine sX ?_;refine DVa_4 ?_;exact kZ.out):a:=h ⟨kZ⟩
theorem sXEVa_19(kZ:b)(h:HidB b→a:=by intro kZ;refine sX ?_;refine DVa_9 ?_;exact kZ.out):a:=h ⟨kZ⟩
theorem zol(kZ:b)(h:HidB b→a:=by intro kZ;refine sXT ?_;refine DUb_0 ?_;exact kZ.out):a:=h ⟨kZ⟩
theorem dXEVa_22(kZ:b)(h:HidB b→a:=by intro kZ;refine dX ?_;refine DUb_0 ?_;exact kZ.out):a:=h ⟨kZ⟩
theorem y0g(kZ:b)(h:HidB b→a:=by intro kZ;refine sXT ?_;refine DUf_0 ?_;exact kZ.out):a:=h ⟨kZ⟩
end
open Go.Aut
def ziw(c:List UInt64)(b:Nat):Bool:=decide (shr64 (c.getD (b / 64) 0) (b%64)%2=1)
def zr2:QSpec:=fun vs K=>∃ c:List UInt64,∃ b:Nat,vs=[.agg (.u64s c),.c (.int .i64 b)]∧(c.length=4∧b< 256)∧K (.c (.bool (ziw c b)))
theorem zom:z19 Tryd.prog gl 34 zr2:=by
 refine z1d (Γ:=g0) (N:=14) Tryd.func34 rfl rfl fun vs K h=>?_;obtain⟨c,b,rfl,⟨hc,hb⟩,h⟩:=h;refine⟨_,h,rfl,by simp,fun w I=>?_⟩;refine srR g0_ok fun _ K2=>?_
 iterate 2 refine sXUd_1 ?_
 refine s_n K2 ?_;refine srR g0_ok fun _ K4=>?_
 iterate 10 refine sXVa_3 ?_
 refine s_n K4 ?_;refine z0g (z0d g0_ok (fun _ _ h=>h) (by first|rfl|assumption) [.tmp 4] rfl ?_);refine rtD ?_
 show SV.c (.bool _)=_
 rw[ziw,show 0+((b:Int) / 64).toNat*1=b / 64 by omega,show((b:Int)%64).toNat=b%64 by omega]
 rfl

def cntK(cls:List UInt64)(b:Nat):Nat→Nat
  |0=>0
  |k+1=>if ziw (clsAt cls k) b then cntK cls b k+1 else cntK cls b k
theorem y0h(cls:List UInt64)(b:Nat):∀ k,cntK cls b k≤k
  |0=>Nat.le_refl _
  | k+1=>by
    have:=y0h cls b k
    rw[cntK];split<;>omega
def nzB(cls:List UInt64)(k:Nat):Bool:= !decide (clsAt cls k=Z4)
def oneB(cls:List UInt64)(nc b:Nat):Bool:=decide (cntK cls b nc=1)
def partR(cls:List UInt64)(nc:Nat):Bool:=decide (1≤nc∧nc≤256)&&(List.range nc).all (nzB cls)&&(List.range 256).all (oneB cls nc)
noncomputable def n1:Ctx:={ P:=Tryd.prog,ty:=ty,glob:=gl,fs:=[(34,.flat zr2)] }
theorem n1_ok:n1.OK:=⟨tyOK,⟨⟨z08 Tryd.func34 kR rfl,zom⟩,trivial⟩,mixed⟩
@[simp] theorem n1_ty:n1.ty=ty:=rfl

def partS:QSpec:=fun vs K=>∃ cls:List UInt64,∃ nc:Nat,vs=[.c (.ds nc (.u64s cls))]∧(cls.length=nc*4∧nc≤9223372036854775807)∧K (.c (.bool (partR cls nc)))
theorem part_ok:z19 Tryd.prog gl 144 partS:=by
 refine z1d (Γ:=n1) (N:=47) Tryd.func144 rfl rfl fun vs K h=>?_;obtain⟨cls,nc,rfl,⟨hw,hn⟩,h⟩:=h;refine⟨_,h,rfl,by simp,fun w I=>?_⟩;refine srR n1_ok fun _ K2=>?_;refine z4o ?_;refine s_n K2 ?_;refine seq_k fun _ K3=>?_;refine srR n1_ok fun _ K5=>?_
 iterate 3 refine z4o ?_
 refine sXEVa_18 ?_;refine exB (fun hb3=>?_) (fun hb3=>?_)
 ·try simp only[dQ,reduceIte]at hb3
  iterate 3 refine sN ?_
  refine z4o ?_;refine s_n K5 ?_;refine z09 (b:=_) rfl (fun _=>?_) (fun h_t14=>?_)
  rotate_left 1
  ·exfalso;simp at h_t14
  refine srR n1_ok fun _ K7=>?_;refine z4o ?_;refine s_n K7 ?_;refine z0g (z0d n1_ok (fun _ _ h=>h) (by first|rfl|assumption) [.tmp 2] rfl ?_);refine rtD ?_
  show SV.c (.bool false)=_
  rw[partR,decide_eq_false (fun hh=>by omega),Bool.false_and,Bool.false_and]
 ·try simp only[dQ,reduceIte]at hb3
  iterate 3 refine sXTVa_6 ?_
  refine z4o ?_;refine s_n K5 ?_;refine z09 (b:=_) rfl (fun h_t14=>?_) (fun h_t14=>?_)
  ·try simp only[dQ,reduceIte]at h_t14
   refine srR n1_ok fun _ K9=>?_;refine z4o ?_;refine s_n K9 ?_;refine z0g (z0d n1_ok (fun _ _ h=>h) (by first|rfl|assumption) [.tmp 2] rfl ?_);refine rtD ?_
   show SV.c (.bool false)=_
   rw[partR,decide_eq_false (fun hh=>by omega),Bool.false_and,Bool.false_and]
  ·try simp only[dQ,reduceIte]at h_t14
   refine z0b ?_;apply K3;refine seq_k fun _ K10=>?_
   have hbase:1≤nc∧nc≤256:=by omega
   refine srR n1_ok fun _ K12=>?_;refine z4o ?_;refine s_n K12 ?_;refine z07 ?_;refine z0q (α:=Nat) (fun k=>[(0,.c (.ds nc (.u64s cls))),(3,.c (.int .i64 k))]) (fun k=>[]) 0 (fun k=>k≤nc∧(List.range k).all (nzB cls)=true) (fun k=>nc - k) ?_ ?_
   ·refine dnS [] id 0 ⟨Nat.zero_le _,rfl⟩ [] uUd_0 uUd_0 uUd_0 uUd_0
   ·intro k hk
    refine seq_k fun _ K13=>?_;refine srR n1_ok fun _ K15=>?_
    iterate 4 refine z4o ?_
    refine s_n K15 ?_;refine z09 (b:=_) rfl (fun h_t18=>?_) (fun h_t18=>?_)
    ·try simp only[dQ,reduceIte]at h_t18
     refine z0b ?_;apply K13;refine seq_k fun _ K16=>?_;refine z07 ?_
     have hkn:k< nc:=by omega
     have hcl:=z31 hw hkn
     have hsub:(Cont.u64s cls).sub ((k:Int).toNat*4) (4*1)= .u64s (clsAt cls k):=rfl
     refine srR n1_ok fun _ K18=>?_
     iterate 3 refine sXVa_8 ?_
     refine sX ?_;refine aI (by decide) ?_;refine aI (by simp only[z7g];omega) ?_;refine z0c ?_;rw[hsub];refine exI ?_
     iterate 2 refine sXVa_8 ?_
     refine s_n K18 ?_;refine z09 (b:=_) rfl (fun h_t26=>?_) (fun h_t26=>?_)
     ·try simp only[dQ,reduceIte]at h_t26
      refine srR n1_ok fun _ K20=>?_;refine z4o ?_;refine s_n K20 ?_;refine z0g (z0d n1_ok (fun _ _ h=>h) (by first|rfl|assumption) [.tmp 2] rfl ?_);refine rtD ?_
      show SV.c (.bool false)=_
      rw[partR,z7k hkn (by rw[nzB,decide_eq_true (show clsAt cls k=Z4 from h_t26)];rfl),Bool.and_false,Bool.false_and]
     ·try simp only[dQ,reduceIte]at h_t26
      refine z0b ?_;refine z0a ?_;apply K16;refine z06 n1_ok fun _ K21=>?_
      iterate 3 refine z4o ?_
      refine s_n K21 ?_;refine dnS [] id (k+1) ⟨⟨by omega,z7u hk.2 (by rw[nzB,decide_eq_false (show ¬ clsAt cls k=Z4 from h_t26)];rfl)⟩,by omega⟩ [] ?_ ?_ ?_ ?_
      ·exact uUd_0
      ·exact uUd_0
      ·exact uUd_0
      ·exact uUd_0
    ·try simp only[dQ,reduceIte]at h_t18
     refine z0o ?_;refine z01 ?_;refine z01 ?_;refine z0j ?_;apply K10;refine seq_k fun _ K22=>?_
     obtain rfl:k=nc:=by omega
     have hnz:=hk.2
     refine srR n1_ok fun _ K24=>?_;refine z4o ?_;refine s_n K24 ?_;refine z07 ?_;refine z0q (α:=Nat) (fun b=>[(0,.c (.ds k (.u64s cls))),(4,.c (.int .i64 b))]) (fun b=>[]) 0 (fun b=>b≤256∧(List.range b).all (oneB cls k)=true) (fun b=>256 - b) ?_ ?_
     ·refine dnS [] id 0 ⟨Nat.zero_le _,rfl⟩ [] uUd_0 uUd_0 uUd_0 uUd_0
     ·intro b hb
      refine seq_k fun _ K25=>?_;refine srR n1_ok fun _ K27=>?_
      iterate 2 refine z4o ?_
      refine s_n K27 ?_;refine z09 (b:=_) rfl (fun h_t28=>?_) (fun h_t28=>?_)
      ·try simp only[dQ,reduceIte]at h_t28
       refine z0b ?_;apply K25;refine seq_k fun _ K28=>?_;refine z07 ?_
       have hb256:b< 256:=by omega
       refine srR n1_ok fun _ K30=>?_;refine z4o ?_;refine s_n K30 ?_;refine seq_k fun _ K31=>?_;refine srR n1_ok fun _ K33=>?_;refine z4o ?_;refine s_n K33 ?_;refine z07 ?_;refine z0q (α:=Nat) (fun j=>[(0,.c (.ds k (.u64s cls))),(4,.c (.int .i64 b)),(5,.c (.int .i64 (cntK cls b j))),(6,.c (.int .i64 j))]) (fun j=>[]) 0 (fun j=>j≤k) (fun j=>k - j) ?_ ?_
       ·refine dnS [] id 0 (Nat.zero_le _) [] uUd_0 uUd_0 uUd_0 uUd_0
       ·intro j hj
        refine seq_k fun _ K34=>?_;refine srR n1_ok fun _ K36=>?_
        iterate 4 refine z4o ?_
        refine s_n K36 ?_;refine z09 (b:=_) rfl (fun h_t34=>?_) (fun h_t34=>?_)
        ·try simp only[dQ,reduceIte]at h_t34
         refine z0b ?_;apply K34;refine seq_k fun _ K37=>?_;refine z07 ?_
         have hjn:j< k:=by omega
         have hcl:=z31 hw hjn
         have hsub:(Cont.u64s cls).sub ((j:Int).toNat*4) (4*1)= .u64s (clsAt cls j):=rfl
         refine srR n1_ok fun _ K39=>?_
         iterate 3 refine y0e ?_
         refine sX ?_;refine aI (by decide) ?_;refine aI (by simp only[z7g];omega) ?_;refine z0c ?_;rw[hsub];refine exI ?_;refine y0e ?_;refine sXEVa_19 ?_;refine⟨clsAt cls j,b,rfl,⟨hcl,hb256⟩,?_⟩;refine DVa_9 ?_
         first|refine exI ?_|(intro cap5 hcap5;refine exI ?_)
         refine s_n K39 ?_;refine z09 (b:=_) rfl (fun h_t42=>?_) (fun h_t42=>?_)
         ·have hcle:=y0h cls b j
          refine z06 n1_ok fun _ K40=>?_
          iterate 3 refine z4o ?_
          refine s_n K40 ?_;refine z0a ?_;apply K37;refine z06 n1_ok fun _ K41=>?_
          iterate 3 refine z4o ?_
          refine s_n K41 ?_;refine dnS [] id (j+1) ⟨by omega,by omega⟩ [] uVa_1 uUd_0 uUd_0 uUd_0
         ·replace h_t42:¬ ziw (clsAt cls j) b=true:=by rw[h_t42];decide
          refine z0b ?_;refine z0a ?_;apply K37;refine z06 n1_ok fun _ K42=>?_
          iterate 3 refine z4o ?_
          refine s_n K42 ?_;refine dnS [] id (j+1) ⟨by omega,by omega⟩ [] uVa_1 uUd_0 uUd_0 uUd_0
        ·try simp only[dQ,reduceIte]at h_t34
         refine z0o ?_;refine z01 ?_;refine z01 ?_;refine z0j ?_;apply K31
         obtain rfl:j=k:=by omega
         refine srR n1_ok fun _ K44=>?_
         iterate 2 refine z4o ?_
         refine s_n K44 ?_;refine z09 (b:=_) rfl (fun h_t46=>?_) (fun h_t46=>?_)
         ·try simp only[dQ,reduceIte]at h_t46
          refine srR n1_ok fun _ K46=>?_;refine z4o ?_;refine s_n K46 ?_;refine z0g (z0d n1_ok (fun _ _ h=>h) (by first|rfl|assumption) [.tmp 2] rfl ?_);refine rtD ?_
          show SV.c (.bool false)=_
          rw[partR,z7k hb256 (by rw[oneB,decide_eq_false (by omega)]),Bool.and_false]
         ·try simp only[dQ,reduceIte]at h_t46
          refine z0b ?_;refine z0a ?_;apply K28;refine z06 n1_ok fun _ K47=>?_
          iterate 3 refine z4o ?_
          refine s_n K47 ?_;refine dnS [] id (b+1) ⟨⟨by omega,z7u hb.2 (by rw[oneB,decide_eq_true (by omega)])⟩,by omega⟩ [] uUd_0 uUd_0 uUd_0 uUd_0
      ·try simp only[dQ,reduceIte]at h_t28
       refine z0o ?_;refine z01 ?_;refine z01 ?_;refine z0j ?_;apply K22;refine srR n1_ok fun _ K49=>?_;refine z4o ?_;refine s_n K49 ?_;refine z0g (z0d n1_ok (fun _ _ h=>h) (by first|rfl|assumption) [.tmp 2] rfl ?_);refine rtD ?_
       show SV.c (.bool true)=_
       obtain rfl:b=256:=by omega
       rw[partR,decide_eq_true hbase,hnz,hb.2]
       rfl

def zap(d:Dfa):Bool:=decide (1≤d.next.length∧d.acc.length=d.next.length)&&partR d.cls d.nc&&d.next.all (rowOK d.nc d.next.length)
def z7a(d:Dfa):Bool:=decide (d.next.length≤64)&&zap d
noncomputable def n2:Ctx:={ P:=Tryd.prog,ty:=ty,glob:=gl,fs:=[(144,.flat partS)] }
theorem n2_ok:n2.OK:=⟨tyOK,⟨⟨z08 Tryd.func144 kR rfl,part_ok⟩,trivial⟩,mixed⟩
@[simp] theorem n2_ty:n2.ty=ty:=rfl

def y0i:QSpec:=fun vs K=>∃ d:Dfa,vs=[dfaV d]∧d.wf∧K (.c (.bool (zap d)))
theorem y0j :z19 Tryd.prog gl 89 y0i:=by
 refine z1d (Γ:=n2) (N:=70) Tryd.func89 rfl rfl fun vs K h=>?_;obtain⟨d,rfl,⟨hw1,hw2,hw3,hw4,hw5⟩,h⟩:=h;refine⟨_,h,rfl,by simp,fun w I=>?_⟩;refine srR n2_ok fun _ K2=>?_
 iterate 2 refine z1k ?_
 refine s_n K2 ?_;refine srR n2_ok fun _ K4=>?_
 iterate 4 refine z1k ?_
 refine s_n K4 ?_;refine seq_k fun _ K5=>?_;refine srR n2_ok fun _ K7=>?_
 iterate 2 refine z1k ?_
 refine z4w ?_;refine exB (fun hb2=>?_) (fun hb2=>?_)
 ·try simp only[dQ,reduceIte]at hb2
  iterate 5 refine sN ?_
  refine z1k ?_;refine z4w ?_;refine exB (fun hb9=>?_) (fun hb9=>?_)
  rotate_left 1
  ·exfalso;simp at hb9
  iterate 4 refine sN ?_
  refine z1k ?_;refine s_n K7 ?_;refine z09 (b:=_) rfl (fun _=>?_) (fun h_t23=>?_)
  rotate_left 1
  ·exfalso;simp at h_t23
  refine srR n2_ok fun _ K9=>?_;refine z1k ?_;refine s_n K9 ?_;refine z0g (z0d n2_ok (fun _ _ h=>h) (by first|rfl|assumption) [.tmp 2] rfl ?_);refine rtD ?_
  show SV.c (.bool false)=_
  rw[zap,decide_eq_false (fun hh=>by omega),Bool.false_and,Bool.false_and]
 ·try simp only[dQ,reduceIte]at hb2
  iterate 5 refine zhx ?_
  refine z1k ?_;refine z4w ?_;refine exB (fun hb9=>?_) (fun hb9=>?_)
  ·try simp only[dQ,reduceIte]at hb9
   iterate 4 refine sN ?_
   refine z1k ?_;refine s_n K7 ?_;refine z09 (b:=_) rfl (fun _=>?_) (fun h_t23=>?_)
   rotate_left 1
   ·exfalso;simp at h_t23
   refine srR n2_ok fun _ K11=>?_;refine z1k ?_;refine s_n K11 ?_;refine z0g (z0d n2_ok (fun _ _ h=>h) (by first|rfl|assumption) [.tmp 2] rfl ?_);refine rtD ?_
   show SV.c (.bool false)=_
   rw[zap,decide_eq_false (fun hh=>by omega),Bool.false_and,Bool.false_and]
  ·try simp only[dQ,reduceIte]at hb9
   iterate 2 refine zhx ?_
   refine zol ?_;refine⟨d.cls,d.nc,rfl,⟨hw1,hw2⟩,?_⟩;refine DUb_0 ?_
   first|refine exI ?_|(intro cap12 hcap12;refine exI ?_)
   refine zhx ?_;refine z1k ?_;refine s_n K7 ?_;refine z09 (b:=_) rfl (fun h_t23=>?_) (fun h_t23=>?_)
   ·try simp only[dQ,reduceIte]at h_t23
    refine srR n2_ok fun _ K13=>?_;refine z1k ?_;refine s_n K13 ?_;refine z0g (z0d n2_ok (fun _ _ h=>h) (by first|rfl|assumption) [.tmp 2] rfl ?_);refine rtD ?_
    show SV.c (.bool false)=_
    rw[zap,show partR d.cls d.nc=false by simpa using h_t23,Bool.and_false,Bool.false_and]
   ·try simp only[dQ,reduceIte]at h_t23
    refine z0b ?_;apply K5;refine seq_k fun _ K14=>?_
    have hbase:1≤d.next.length∧d.acc.length=d.next.length:=by omega
    have hpart:partR d.cls d.nc=true:=by simpa using h_t23
    refine srR n2_ok fun _ K16=>?_;refine z1k ?_;refine s_n K16 ?_;refine z07 ?_;refine z0q (α:=Nat) (fun k=>[(1,.c (.ptr 0 0)),(3,.c (.int .i64 d.next.length)),(4,.c (.int .i64 k))]) (fun k=>[(0,.own 30 (dfaC d) 3)]) 1 (fun k=>k≤d.next.length∧(d.next.take k).all (rowOK d.nc d.next.length)=true) (fun k=>d.next.length - k) ?_ ?_
    ·refine dnS [] id 0 ⟨Nat.zero_le _,rfl⟩ [0] uVa_2 uVa_2 uVa_2 uVa_2
    ·intro k hk
     refine seq_k fun _ K17=>?_;refine srR n2_ok fun _ K19=>?_
     iterate 3 refine z1k ?_
     refine s_n K19 ?_;refine z09 (b:=_) rfl (fun h_t26=>?_) (fun h_t26=>?_)
     ·try simp only[dQ,reduceIte]at h_t26
      refine z0b ?_;apply K17;refine seq_k fun _ K20=>?_;refine z07 ?_;refine seq_k fun _ K21=>?_
      have hkn:k< d.next.length:=by omega
      have hrl:=hw5 _ (z3j (d:=[]) hkn)
      refine srD n2_ok [(0,true),(1,true),(2,true),(3,true),(4,true),(5,true),(6,true),(7,true),(8,true),(9,true)] rfl kR kR fun _ K23=>?_
      iterate 4 refine y0f ?_
      refine dXEVa_22 ?_;rw[show(k:Int).toNat*1=k by omega,z7j hkn];refine exI ?_
      iterate 5 refine y0f ?_
      refine d_n K23 ?_;refine z09 (b:=_) rfl (fun h_t38=>?_) (fun h_t38=>?_)
      ·try simp only[dQ,reduceIte]at h_t38
       try simp only[Int.toNat_natCast,Nat.mul_one]at h_t38
       refine srR n2_ok fun _ K25=>?_;refine z1k ?_;refine s_n K25 ?_;refine z0g (z0d n2_ok (fun _ _ h=>h) (by first|rfl|assumption) [.tmp 2] rfl ?_);refine rtD ?_
       show SV.c (.bool false)=_
       rw[zap,zbh (d:=[]) hkn (by rw[rowOK,decide_eq_false (by omega),Bool.false_and]),Bool.and_false]
      ·try simp only[dQ,reduceIte]at h_t38
       try simp only[Int.toNat_natCast,Nat.mul_one]at h_t38
       refine z0b ?_;apply K21;refine srR n2_ok fun _ K27=>?_;refine z1k ?_;refine s_n K27 ?_;refine z07 ?_;refine z0q (α:=Nat) (fun j=>[(1,.c (.ptr 0 0)),(3,.c (.int .i64 d.next.length)),(4,.c (.int .i64 k)),(5,.c (.int .i64 j))]) (fun j=>[(0,.own 30 (dfaC d) 3)]) 1 (fun j=>j≤(d.next.getD k []).length∧((d.next.getD k []).take j).all (tgtOK d.next.length)=true) (fun j=>(d.next.getD k []).length - j) ?_ ?_
       ·refine dnS [] id 0 ⟨Nat.zero_le _,rfl⟩ [0] uVa_2 uVa_2 uVa_2 uVa_2
       ·intro j hj
        refine seq_k fun _ K28=>?_;refine srR n2_ok fun _ K30=>?_
        iterate 5 refine z1k ?_
        refine z4w ?_;rw[show(k:Int).toNat*1=k by omega,z7j hkn];refine exI ?_
        iterate 2 refine z1k ?_
        refine s_n K30 ?_;refine z09 (b:=_) rfl (fun h_t46=>?_) (fun h_t46=>?_)
        ·try simp only[dQ,reduceIte]at h_t46
         try simp only[Int.toNat_natCast,Nat.mul_one]at h_t46
         refine z0b ?_;apply K28;refine seq_k fun _ K31=>?_;refine z07 ?_
         have hjn:j< (d.next.getD k []).length:=by omega
         refine srR n2_ok fun _ K33=>?_
         iterate 4 refine z1k ?_
         refine z4w ?_;rw[show(k:Int).toNat*1=k by omega,z7j hkn];refine exI ?_
         iterate 4 refine z1k ?_
         refine z4w ?_;refine exB (fun hb9=>?_) (fun hb9=>?_)
         ·try simp only[dQ,reduceIte]at hb9
          iterate 10 refine sN ?_
          refine z1k ?_;refine s_n K33 ?_;refine z09 (b:=_) rfl (fun _=>?_) (fun h_t69=>?_)
          rotate_left 1
          ·exfalso;simp at h_t69
          have htb:tgtOK d.next.length ((d.next.getD k []).getD j 0)=false:=by
           simp only[tgtOK,Bool.and_eq_false_iff,decide_eq_false_iff_not]
           first|(simp only[Int.toNat_natCast,Nat.mul_one]at hb9 h_t69;omega)|(simp only[Int.toNat_natCast,Nat.mul_one]at hb9;omega)
          refine srR n2_ok fun _ K35=>?_;refine z1k ?_;refine s_n K35 ?_;refine z0g (z0d n2_ok (fun _ _ h=>h) (by first|rfl|assumption) [.tmp 2] rfl ?_);refine rtD ?_
          show SV.c (.bool false)=_
          rw[zap,zbh (d:=[]) hkn (by rw[rowOK,zbh (d:=0) hjn htb,Bool.and_false]),Bool.and_false]
         ·try simp only[dQ,reduceIte]at hb9
          iterate 4 refine zhx ?_
          refine zol ?_;rw[show(k:Int).toNat*1=k by omega,z7j hkn];refine exI ?_
          iterate 5 refine zhx ?_
          refine z1k ?_;refine s_n K33 ?_;refine z09 (b:=_) rfl (fun h_t69=>?_) (fun h_t69=>?_)
          ·try simp only[dQ,reduceIte]at h_t69
           have htb:tgtOK d.next.length ((d.next.getD k []).getD j 0)=false:=by
            simp only[tgtOK,Bool.and_eq_false_iff,decide_eq_false_iff_not]
            first|(simp only[Int.toNat_natCast,Nat.mul_one]at hb9 h_t69;omega)|(simp only[Int.toNat_natCast,Nat.mul_one]at hb9;omega)
           refine srR n2_ok fun _ K37=>?_;refine z1k ?_;refine s_n K37 ?_;refine z0g (z0d n2_ok (fun _ _ h=>h) (by first|rfl|assumption) [.tmp 2] rfl ?_);refine rtD ?_
           show SV.c (.bool false)=_
           rw[zap,zbh (d:=[]) hkn (by rw[rowOK,zbh (d:=0) hjn htb,Bool.and_false]),Bool.and_false]
          ·try simp only[dQ,reduceIte]at h_t69
           refine z0b ?_;refine z0a ?_;apply K31
           have htg:tgtOK d.next.length ((d.next.getD k []).getD j 0)=true:=by simp only[tgtOK,Bool.and_eq_true,decide_eq_true_eq];simp only[Int.toNat_natCast,Nat.mul_one]at hb9 h_t69;exact⟨by omega,by omega⟩
           refine z06 n2_ok fun _ K38=>?_
           iterate 3 refine z1k ?_
           refine s_n K38 ?_;refine dnS [] id (j+1) ⟨⟨by omega,z6t (d:=0) hjn hj.2 htg⟩,by omega⟩ [0] uVa_2 uVa_2 uVa_2 uVa_2
        ·try simp only[dQ,reduceIte]at h_t46
         try simp only[Int.toNat_natCast,Nat.mul_one]at h_t46
         refine z0o ?_;refine z01 ?_;refine z01 ?_;refine z0j ?_;refine z0a ?_;apply K20
         have hrow:rowOK d.nc d.next.length (d.next.getD k [])=true:=by
          have h1:=hj.2
          rw[List.take_of_length_le (by omega)]at h1;rw[rowOK,h1,decide_eq_true (by omega)];rfl
         refine z06 n2_ok fun _ K39=>?_
         iterate 3 refine z1k ?_
         refine s_n K39 ?_;refine dnS [] id (k+1) ⟨⟨by omega,z6t (d:=[]) hkn hk.2 hrow⟩,by omega⟩ [0] uVa_2 uVa_2 uVa_2 uVa_2
     ·try simp only[dQ,reduceIte]at h_t26
      refine z0o ?_;refine z01 ?_;refine z01 ?_;refine z0j ?_;apply K14;refine srR n2_ok fun _ K41=>?_;refine z1k ?_;refine s_n K41 ?_;refine z0g (z0d n2_ok (fun _ _ h=>h) (by first|rfl|assumption) [.tmp 2] rfl ?_);refine rtD ?_
      show SV.c (.bool true)=_
      obtain rfl:k=d.next.length:=by omega
      have h1:=hk.2
      rw[List.take_length]at h1;rw[zap,decide_eq_true hbase,hpart,h1]
      rfl

noncomputable def n3:Ctx:={ P:=Tryd.prog,ty:=ty,glob:=gl,fs:=[(89,.flat y0i)] }
theorem n3_ok:n3.OK:=⟨tyOK,⟨⟨z08 Tryd.func89 kR rfl,y0j⟩,trivial⟩,mixed⟩
@[simp] theorem n3_ty:n3.ty=ty:=rfl

def zba:QSpec:=fun vs K=>∃ d:Dfa,vs=[dfaV d]∧d.wf∧K (.c (.bool (z7a d)))
theorem z8p:z19 Tryd.prog gl 32 zba:=by
 refine z1d (Γ:=n3) (N:=11) Tryd.func32 rfl rfl fun vs K h=>?_;obtain⟨d,rfl,hw,h⟩:=h;refine⟨_,h,rfl,by simp,fun w I=>?_⟩
 have hw':=hw
 obtain⟨hw1,hw2,hw3,hw4,hw5⟩:=hw';refine srR n3_ok fun _ K2=>?_
 iterate 2 refine zcz ?_
 refine s_n K2 ?_;refine srR n3_ok fun _ K4=>?_
 iterate 4 refine zcz ?_
 refine sXEUf_12 ?_;refine exB (fun hb4=>?_) (fun hb4=>?_)
 ·try simp only[dQ,reduceIte]at hb4
  refine sXTUtc_2 ?_;refine y0g ?_;refine⟨d,rfl,hw,?_⟩;refine DUf_0 ?_
  first|refine exI ?_|(intro cap6 hcap6;refine exI ?_)
  iterate 2 refine zcz ?_
  refine s_n K4 ?_;refine z0g (z0d n3_ok (fun _ _ h=>h) (by first|rfl|assumption) [.tmp 2] rfl ?_);refine rtD ?_
  show SV.c (.bool _)=_
  rw[z7a,decide_eq_true (by omega)]
  rfl
 ·try simp only[dQ,reduceIte]at hb4
  iterate 2 refine sN ?_
  iterate 2 refine zcz ?_
  refine s_n K4 ?_;refine z0g (z0d n3_ok (fun _ _ h=>h) (by first|rfl|assumption) [.tmp 2] rfl ?_);refine rtD ?_
  show SV.c (.bool false)=_
  rw[z7a,decide_eq_false (by omega),Bool.false_and]


end Go.Proofs.YtppmnaoollkboaaDoor

namespace Go.Proofs.YtppmnaoollkboaaDoor
set_option linter.all false
open Go.Ab Go.RowKit

section
variable {a b:Prop}
theorem qVd1(h:a:=by first|exact vcA|(simp[hc]<;>omega)|(refine⟨by omega,by omega,?_⟩;decide)|(simp[hc];omega)|(refine⟨by omega,by omega⟩)|exact vcB):a:=h
theorem qVd2(h:a:=by first|exact vcA|(simp[hc]<;>omega)|(simp[hc];done)|(simp[hc];omega)|exact vcB):a:=h
theorem DVd_2(kZ:b)(h:HidB b→a:=by intro kZ;(repeat first|refine aI qVd1 ?_|refine z04 qVd1 ?_|refine z03 qVd1 ?_|refine z0m qVd1 ?_|refine z0c ?_);exact kZ.out):a:=h ⟨kZ⟩
theorem dXVd_3(kZ:b)(h:HidB b→a:=by intro kZ;refine dX ?_;refine DVd_2 ?_;refine exI ?_;exact kZ.out):a:=h ⟨kZ⟩
theorem gX0Vd_4(kZ:b)(h:HidB b→a:=by intro kZ;refine gX0 ?_;refine DVd_2 ?_;refine exI ?_;exact kZ.out):a:=h ⟨kZ⟩
theorem DVd_5(kZ:b)(h:HidB b→a:=by intro kZ;(repeat first|refine aI qVd2 ?_|refine z04 qVd2 ?_|refine z03 qVd2 ?_|refine z0m qVd2 ?_|refine z0c ?_);exact kZ.out):a:=h ⟨kZ⟩
theorem sXVd_6(kZ:b)(h:HidB b→a:=by intro kZ;refine sX ?_;refine DVd_5 ?_;refine exI ?_;exact kZ.out):a:=h ⟨kZ⟩
theorem sX0Vd_7(kZ:b)(h:HidB b→a:=by intro kZ;refine sX0 ?_;refine DVd_5 ?_;refine exI ?_;exact kZ.out):a:=h ⟨kZ⟩
end
open Go.Aut
attribute [local irreducible] z0s z12 zl z02 z11 putB
def withW(c:List UInt64)(b:Nat):List UInt64:=c.set (b / 64) (c.getD (b / 64) 0 ||| shl64 1 (b%64))
@[simp] theorem z6f(c:List UInt64)(b:Nat):(withW c b).length=c.length:=by simp[withW]
def withRS:QSpec:=fun vs K=>∃ c:List UInt64,∃ b:Nat,vs=[.agg (.u64s c),.c (.int .i64 b)]∧(c.length=4∧b< 256)∧K (.agg (.u64s (withW c b)))
theorem withR_ok:z19 Tryd.prog gl 137 withRS:=by
 refine z1d (Γ:=g0) (N:=17) Tryd.func137 rfl rfl fun vs K h=>?_;obtain⟨c,b,rfl,⟨hc,hb⟩,h⟩:=h;refine⟨_,h,rfl,by simp,fun w I=>?_⟩;refine srR g0_ok fun _ K2=>?_
 iterate 2 refine sXUd_1 ?_
 refine s_n K2 ?_;refine srD g0_ok [(0,true),(1,true),(2,true),(3,true),(4,true),(5,true),(6,true),(7,true),(8,true),(9,true),(10,true),(11,false)] rfl kR kR fun _ K4=>?_
 iterate 11 refine dXVd_3 ?_
 refine gX0Vd_4 ?_;refine d_n K4 ?_;refine srR g0_ok fun _ K6=>?_;refine sXVd_6 ?_;refine sX0Vd_7 ?_;refine s_n K6 ?_;refine z0g (z0d g0_ok (fun _ _ h=>h) (by first|rfl|assumption) [.cell 4 50] rfl ?_);refine rtD ?_;rw[withW,show 0+((b:Int) / 64).toNat*1=b / 64 by omega,show((b:Int)%64).toNat=b%64 by omega]
 rfl

def fewB(b:UInt8):UInt8:=if b< 97∨100< b then 97+b%4 else b
def fewL(l:List UInt8)(n:Nat):List UInt8:=(l.take n).map fewB
@[simp] theorem fewL_length(l:List UInt8)(n:Nat):(fewL l n).length=min n l.length:=by simp[fewL]
theorem fewL_succ{l:List UInt8}{k:Nat}(h:k< l.length):fewL l k++([]++[fewB (l.getD k 0)])=fewL l (k+1):=by
  rw[fewL,fewL,List.take_add_one,List.getD_eq_getElem?_getD,List.getElem?_eq_getElem h,List.nil_append,List.map_append];rfl
end Go.Proofs.YtppmnaoollkboaaDoor

namespace Go.Proofs.YtppmnaoollkboaaDoor
set_option linter.all false
open Go.Ab Go.RowKit

open Go.Aut
attribute [local irreducible] z0s z12 zl z02 z11 putB
def zr3(n b:Nat):Nat:=if 97≤b∧b< 97+n then b - 97 else n
def letK(n:Nat):Nat→List UInt64
  |0=>(List.replicate (n+1) (List.replicate 4 0)).flatten
  |b+1=>(letK n b).take (zr3 n b*4)++withW (clsAt (letK n b) (zr3 n b)) b++(letK n b).drop (zr3 n b*4+4)
end Go.Proofs.YtppmnaoollkboaaDoor

namespace Go.Proofs.YtppmnaoollkboaaDoor
set_option linter.all false
open Go.Ab Go.RowKit

open Go.Aut
attribute [local irreducible] z0s z12 zl z02 z11 putB letK
def tgtK(l:List UInt8)(n i:Nat):Int:=if i< l.length then((l.getD i 0).toNat%n:Nat)else 0
def rowK(l:List UInt8)(n nc s j:Nat):List Int:=(List.range j).map fun i=>tgtK l n (s*nc+i)
def rowsK(l:List UInt8)(n nc s:Nat):List (List Int):=(List.range s).map fun i=>rowK l n nc i nc
def accBit(m:UInt8)(i:Nat):Bool:=decide (shr8 m i%2=1)
def accK(m:UInt8)(s:Nat):List Bool:=(List.range s).map (accBit m)
@[simp] theorem rowK_length(l:List UInt8)(n nc s j:Nat):(rowK l n nc s j).length=j:=by simp[rowK]
@[simp] theorem rowsK_length(l:List UInt8)(n nc s:Nat):(rowsK l n nc s).length=s:=by simp[rowsK]
@[simp] theorem accK_length(m:UInt8)(s:Nat):(accK m s).length=s:=by simp[accK]
theorem rowK_succ(l:List UInt8)(n nc s j:Nat){v:Int}(hv:v=tgtK l n (s*nc+j)):rowK l n nc s j++([]++[v])=rowK l n nc s (j+1):=by
  subst hv;rw[rowK,rowK,List.range_succ,List.map_append];rfl
end Go.Proofs.YtppmnaoollkboaaDoor

namespace Go.Proofs.YtppmnaoollkboaaDoor
set_option linter.all false
open Go.Ab Go.RowKit

open Go.Aut
attribute [local irreducible] z0s z12 zl z02 z11 putB
def plc(x n:Int):Int:=if x=0 then n else if x=n then 0 else x
def goodK(f:Nat→Nat→Bool):Nat→List Bool
  |0=>[true]
  |k+1=>goodK f k++[(List.range (k+1)).any fun j=>(goodK f k).getD j false&&f j (k+1)]
def gd(f:Nat→Nat→Bool)(k:Nat):Bool:=(goodK f k).getD k false
def anyK(f:Nat→Nat→Bool)(k j:Nat):Bool:=(List.range j).any fun i=>gd f i&&f i k
def rowG(f:Nat→Nat→Bool)(n k j:Nat):List Bool:=(List.range (n+1)).map fun i=>if i< k then gd f i else if i=k then anyK f k j else false
@[simp] theorem rowG_length(f:Nat→Nat→Bool)(n k j:Nat):(rowG f n k j).length=n+1:=by simp[rowG]
theorem rowG_get(f:Nat→Nat→Bool){n k j i:Nat}(h:i≤n):(rowG f n k j).getD i false=if i< k then gd f i else if i=k then anyK f k j else false:=by
  rw[rowG,List.getD_eq_getElem?_getD,List.getElem?_map,List.getElem?_range (by omega)];rfl
end Go.Proofs.YtppmnaoollkboaaDoor

namespace Go.Proofs.YtppmnaoollkboaaDoor
set_option linter.all false
open Go.Ab Go.RowKit

open Go.Aut
theorem zix{g:Stt→Nat→Stt}{bytes:List Nat}{s0:Stt}{Inv:Stt→Prop}(L:List Stt)(hL:∀ s,Inv s→s∈L)(h0:Inv s0)(hg:∀ s b,Inv s→b< 256→Inv (g s b))(hb:∀ b∈bytes,b< 256)(hp:0< bytes.length){m:Nat}(hm:L.length≤m):¬ Big (stepF g bytes) bytes.length s0 m:=by
  rintro ⟨i,k,hj,hk,hl⟩
  have hz:∀ q,q< i*bytes.length+k→q / bytes.length< (expO (stepF g bytes) bytes.length s0 q).length:=fun q hq=>by
    have h1:q / bytes.length≤i:=by
      rw[←Nat.lt_succ_iff,Nat.div_lt_iff_lt_mul hp,Nat.succ_mul];omega
    have h2:=hj _ h1
    have h3:=z1p (f:=stepF g bytes) (nc:=bytes.length) (b0:=s0) (p:=q / bytes.length*bytes.length) (q:=q) (Nat.div_mul_le_self _ _)
    omega
  have h4:=zqi h0 hg hb hp hz
  have h5:=List.Nodup.length_le_of_subset (z5x (f:=stepF g bytes) (nc:=bytes.length) (b0:=s0) (i*bytes.length+k)) fun s hs=>hL s (h4 s hs)
  omega
theorem shl1_lt{j n:Nat}(h:j< n)(hn:n≤63):(shl64 1 j).toNat< 2 ^ n:=by
  unfold shl64
  rw [if_pos (by omega), UInt64.toNat_shiftLeft, UInt64.toNat_ofNat_of_lt' (by show j< 2 ^ 64;have:(64:Nat)< 2 ^ 64:=by decide
                                                                               omega)]
  rw[Nat.mod_eq_of_lt (show j< 64 by omega)]
  show(1 <<< j)%2 ^ 64< 2 ^ n
  rw[Nat.shiftLeft_eq,Nat.one_mul]
  have h1:2 ^ j< 2 ^ n:=Nat.pow_lt_pow_right (by decide) h
  exact Nat.lt_of_le_of_lt (Nat.mod_le _ _) h1
theorem zon{t:Tab}(ht:t.ok){n:Nat}(h:t.next.length≤n)(hn:n≤63)(x:UInt64){b:Nat}(hb:b< 256):∀ k,k≤t.next.length→(tgK t x b k).toNat< 2 ^ n
  |0,_=>Nat.two_pow_pos n
  | k +1,hk=>by
    have ih:=zon ht h hn x hb k (by omega)
    rw[zgh]
    split
    · rw[UInt64.toNat_or]
      exact Nat.or_lt_two_pow ih (shl1_lt (Nat.lt_of_lt_of_le (nextN ht (by omega) (cellN ht hb).1).1 h) hn)
    · exact ih
theorem zeq{t:Tab}(ht:t.ok){n:Nat}(h:t.next.length≤n)(hn:n≤63)(x:UInt64){b:Nat}(hb:b< 256):(tgtU t x b).toNat< 2 ^ n:=zon ht h hn x hb _ (Nat.le_refl _)
theorem zoo{x:UInt64}{n:Nat}(h0:0< n)(h:x.toNat< 2 ^ n):(x ||| 1).toNat< 2 ^ n:=by
  rw[UInt64.toNat_or];exact Nat.or_lt_two_pow h (Nat.one_lt_two_pow (by omega))
def inB(m n:Nat)(s:Stt):Prop:=s.1< m∧s.2.1=0∧s.2.2.toNat< 2 ^ n
def listB(m n:Nat):List Stt:=(List.range m).flatMap fun a=>(List.range (2 ^ n)).map fun u=>(a,0,UInt64.ofNat u)
theorem zop{m n:Nat}{s:Stt}(h:inB m n s):s∈listB m n:=by
  obtain⟨a,b,c⟩:=s;obtain⟨h1,h2,h3⟩:=h;refine List.mem_flatMap.2 ⟨a,List.mem_range.2 h1,List.mem_map.2 ⟨c.toNat,List.mem_range.2 h3,?_⟩⟩
  show(a,0,UInt64.ofNat c.toNat)=(a,b,c)
  rw[show b=0 from h2,UInt64.ofNat_toNat]
theorem zfk(m n:Nat):(listB m n).length=m*2 ^ n:=by
  rw[listB,List.length_flatMap]
  simp[List.map_const',List.sum_replicate_nat]
theorem zke{x:Tab}{m n:Nat}(h0:0< n){s:Stt}(h:inB m n s):inB m n (entG x s):=by
  unfold entG
  split
  · exact⟨h.1,h.2.1,zoo h0 h.2.2⟩
  · exact h
theorem y0k{x y:Tab}(hx:x.fit)(hy:y.ok){n:Nat}(h0:0< n)(hn:n≤63)(h:y.next.length≤n){q:Nat}(hq:x.next.length*2 ^ n≤q):¬ Big (stepF (catG x y) (jrep (cN x) (cN y))) (jrep (cN x) (cN y)).length (cat0 x) q:=by
  have hj:=j_in x y
  refine zix (Inv:=inB x.next.length n) (listB x.next.length n) (fun s=>zop) (zke (s:=(0,0,0)) h0 ⟨hx.1.npos,rfl,(show(0:UInt64).toNat< 2 ^ n from Nat.two_pow_pos n)⟩) (fun s b hs hb=>zke h0 ⟨(nextN hx.1 hs.1 (cellN hx.1 hb).1).1,rfl,zeq hy h hn _ hb⟩) hj.byte hj.pos (by rw[zfk];exact hq)
theorem y0l{x:Tab}(hx:x.ok){n:Nat}(h0:0< n)(hn:n≤63)(h:x.next.length≤n){q:Nat}(hq:2*2 ^ n≤q):¬ Big (stepF (staG x) (jrep (cN x) (cN x))) (jrep (cN x) (cN x)).length (1,0,1) q:=by
  have hj:=j_in x x
  refine zix (Inv:=inB 2 n) (listB 2 n) (fun s=>zop) ⟨by decide,rfl,Nat.one_lt_two_pow (by omega)⟩ (fun s b hs hb=>⟨by show 0< 2;decide,rfl,?_⟩) hj.byte hj.pos (by rw[zfk];exact hq)
  show(if _ then _ else _:UInt64).toNat< _
  split
  · exact zoo h0 (zeq hx h hn _ hb)
  · exact zeq hx h hn _ hb

end Go.Proofs.YtppmnaoollkboaaDoor

namespace Go.Proofs.YtppmnaoollkboaaDoor
set_option linter.all false
open Go.Ab Go.RowKit

open Go.Aut
theorem zoq{x:List UInt8}(h:x.length≤62):(canD (langW (wN x))).good∧(∀ w,Bytes w→langD (canD (langW (wN x))) w=langW (wN x) w)∧(canD (langW (wN x))).next.length≤x.length+2:=by
  have hf:=zo9 h
  obtain⟨h1,h2,h3⟩:=zsc hf.1
  have hn:(wordT x).next.length=x.length+2:=z1y _ _
  rw[zt8]at h1 h2 h3;refine⟨⟨h1,by omega⟩,fun w hw=>?_,by omega⟩
  have:=zno h2 hw
  rw[this]
  have h4:=zei x w 0 hw (Nat.zero_le _)
  rw[h4];rfl
theorem zdb{u v:List Nat}(h:Bytes (u++v)):Bytes u∧Bytes v:=⟨fun b hb=>h b (List.mem_append_left _ hb),fun b hb=>h b (List.mem_append_right _ hb)⟩
theorem ze6{L L' M M':List Nat→Bool}(e:∀ w,Bytes w→L w=L' w)(e':∀ w,Bytes w→M w=M' w){w:List Nat}(hw:Bytes w):catB L M w=catB L' M' w:=by
  unfold catB;refine decide_eq_decide.2 ⟨?_,?_⟩
  · rintro ⟨u,v,rfl,h1,h2⟩
    exact⟨u,v,rfl,by rw[←e _ (zdb hw).1];exact h1,by rw[←e' _ (zdb hw).2];exact h2⟩
  · rintro ⟨u,v,rfl,h1,h2⟩
    exact⟨u,v,rfl,by rw[e _ (zdb hw).1];exact h1,by rw[e' _ (zdb hw).2];exact h2⟩
theorem zbu{L L':List Nat→Bool}(e:∀ w,Bytes w→L w=L' w){w:List Nat}(hw:Bytes w):starB L w=starB L' w:=by
  have hb:∀ ws:List (List Nat),ws.flatten=w→∀ u∈ws,Bytes u:=fun ws h u hu b hb=>hw b (h▸List.mem_flatten.2 ⟨u,hu,hb⟩)
  unfold starB;refine decide_eq_decide.2 ⟨?_,?_⟩
  · rintro ⟨ws,h1,h2⟩
    exact⟨ws,fun u hu=>by rw[←e _ (hb ws h2 u hu)];exact h1 u hu,h2⟩
  · rintro ⟨ws,h1,h2⟩
    exact⟨ws,fun u hu=>by rw[e _ (hb ws h2 u hu)];exact h1 u hu,h2⟩
theorem y0m(u v:List Nat)(w:List Nat):catB (langW u) (langW v) w=langW (u++v) w:=by
  unfold catB langW;refine decide_eq_decide.2 ⟨?_,?_⟩
  · rintro ⟨a,b,rfl,h1,h2⟩
    rw[of_decide_eq_true h1,of_decide_eq_true h2]
  · rintro rfl
    exact⟨u,v,rfl,decide_eq_true rfl,decide_eq_true rfl⟩
noncomputable def dA:Dfa:=canD (langW (wN [97]))
noncomputable def dB:Dfa:=canD (langW (wN [98]))
theorem z6n:dA.good∧(∀ w,Bytes w→langD dA w=langW [97] w)∧dA.next.length≤3:=zoq (by decide)
theorem zer:dB.good∧(∀ w,Bytes w→langD dB w=langW [98] w)∧dB.next.length≤3:=zoq (by decide)
theorem y0n:canD (langD dA)=dA:=z37 z6n.2.1
theorem canD_dB:canD (langD dB)=dB:=z37 zer.2.1
theorem word_AB:wordR [97,98]=(dAB,0):=by
  rw[wordR,if_neg (by decide),show wN [97,98]=[97,98] from rfl,zxq]
theorem word_A:wordR [97]=(dA,0):=by rw[wordR,if_neg (by decide)];rfl
theorem word_B:wordR [98]=(dB,0):=by rw[wordR,if_neg (by decide)];rfl
theorem word_63:wordR (List.replicate 63 0)=(noD,2):=by rw[wordR,if_pos (by rw[List.length_replicate];decide)]
theorem y0o:z79 dA dB=(dAB,0):=by
  have hv:z0w dA=true∧z0w dB=true:=⟨z1s z6n.1,z1s zer.1⟩
  have hA:=z14 z6n.1
  have hB:=z14 zer.1
  have hl:(tabD dA).next.length*2 ^ 3≤4096:=Nat.le_trans (Nat.mul_le_mul_right _ z6n.2.2) (by decide)
  rw[z79,if_pos hv,y0n,canD_dB,if_neg (y0k hA hB.1 (n:=3) (by decide) (by decide) zer.2.2 hl)]
  have:canD (catB (langD dA) (langD dB))=dAB:=by
    rw[←zxq];exact z37 fun w hw=>(ze6 z6n.2.1 zer.2.1 hw).trans (y0m [97] [98] w)
  rw[this,limL,if_neg (by decide)]
theorem star_A:starR dA=(dAS,0):=by
  have hA:=z14 z6n.1
  rw[starR,if_pos (z1s z6n.1),y0n,if_neg (y0l hA.1 (n:=3) (by decide) (by decide) z6n.2.2 (by decide))]
  have:canD (starB (langD dA))=dAS:=by
    rw[←canD_AS];exact z37 fun w hw=>zbu z6n.2.1 hw
  rw[this,limL,if_neg (by decide)]
theorem z9l:dAB.good:=⟨dAB_ok,by decide⟩
theorem ztx:Bytes [97,98]:=by unfold Bytes;decide
theorem y0p:Bytes [97]:=by unfold Bytes;decide
theorem least_AB:lstR dAB=some [97,98]:=by
  rw[lstR,if_pos (z1s z9l)];refine z73 ⟨ztx,by rw[zg4 _ ztx];rfl,fun v hv h=>?_⟩;rw[zg4 v hv]at h;exact .inl (of_decide_eq_true h).symm
theorem apart_AB:aptR dAB dA=some [97]:=by
  rw[aptR,if_pos ⟨z1s z9l,z1s z6n.1⟩]
  have hl:∀ w,Bytes w→combB (fun x y=>x !=y) dAB dA w=(langW [97,98] w !=langW [97] w):=fun w hw=>by
    show(langD dAB w !=langD dA w)=_
    rw[zg4 w hw,z6n.2.1 w hw]
  refine z73 ⟨y0p,by rw[hl _ y0p];decide,fun v hv h=>?_⟩;rw[hl v hv]at h
  by_cases h1:v=[97]
  · exact .inl h1.symm
  · by_cases h2:v=[97,98]
    · subst h2;exact .inr (.inl (by decide))
    · rw[langW,langW,decide_eq_false h1,decide_eq_false h2]at h;cases h

end Go.Proofs.YtppmnaoollkboaaDoor

namespace Go.Proofs.YtppmnaoollkboaaDoor
set_option linter.all false
open Go.Ab Go.RowKit

open Go.Aut
theorem not_res{d:Dfa}(h:d.good):notR d=(canD (fun w=> !langD d w),0)∧(canD fun w=> !langD d w).good∧(canD fun w=> !langD d w).next.length≤d.next.length:=by
  have hf:=zlz (z14 h)
  obtain⟨h1,h2,h3⟩:=zsc hf.1;rw[zqo h]at h1 h3
  have h3:(canD fun w=> !langD d w).next.length≤d.next.length:=h3
  exact⟨by rw[notR,if_pos (z1s h)],⟨h1,Nat.le_trans h3 h.2⟩,h3⟩
theorem noD_wf:noD.wf:=by
  refine⟨rfl,?_,?_,?_,fun r hr=>by cases hr⟩<;>decide
end Go.Proofs.YtppmnaoollkboaaDoor

namespace Go.Proofs.YtppmnaoollkboaaDoor
set_option linter.all false
open Go.Ab Go.RowKit

open Go.Aut
end Go.Proofs.YtppmnaoollkboaaDoor

namespace Go.Proofs.YtppmnaoollkboaaDoor
set_option linter.all false
open Go.Ab Go.RowKit

open Go.Aut
theorem hasBit_W(c:List UInt64)(b:Nat):ziw c b=hasW c b:=by
  rw[ziw,hasW]
  have h64:b%64< 64:=Nat.mod_lt _ (by decide)
  have hn:(shr64 (c.getD (b / 64) 0) (b%64)).toNat=(c.getD (b / 64) 0).toNat >>> (b%64):=by
    unfold shr64;rw[if_pos h64,UInt64.toNat_shiftRight]
    congr 1
    rw [show (b % 64).toUInt64.toNat = b % 64 from UInt64.toNat_ofNat_of_lt' (by show b%64< 2 ^ 64;have:(64:Nat)< 2 ^ 64:=by decide
                                                                                 omega)]
    omega
  rw[Bool.eq_iff_iff,decide_eq_true_eq,Nat.testBit_eq_decide_div_mod_eq,decide_eq_true_eq, ←UInt64.toNat_inj,UInt64.toNat_mod,hn,Nat.shiftRight_eq_div_pow];exact Iff.rfl
theorem zbb{cls:List UInt64}{k b:Nat}(hb:b< 256):ziw (clsAt cls k) b=hasC cls k b:=by rw[hasBit_W,zad hb]
theorem y0q{cls:List UInt64}{b nc c:Nat}(hb:b< 256)(hc:c< nc)(h:∀ x,x< nc→(hasC cls x b=true↔x=c)):∀ k,k≤nc→cntK cls b k=if c< k then 1 else 0
  |0,_=>by rw[cntK,if_neg (Nat.not_lt_zero c)]
  | k +1,hk=>by
    rw[cntK,y0q hb hc h k (by omega),zbb hb]
    by_cases e:k=c
    · subst e
      rw[(h k (by omega)).2 rfl,if_pos rfl,if_neg (Nat.lt_irrefl k),if_pos (Nat.lt_succ_self k)]
    · have:hasC cls k b=false:=by rw[←Bool.not_eq_true,h k (by omega)];exact e
      rw[this]
      simp only[Bool.false_eq_true,if_false]
      by_cases e2:c< k
      · rw[if_pos e2,if_pos (by omega)]
      · rw[if_neg e2,if_neg (by omega)]
theorem zr4{d:Dfa}(h:d.good):z7a d=true:=by
  obtain⟨hk,h64⟩:=h
  have h1:=hk.npos
  have hv:=z1s (d:=d) ⟨hk,h64⟩
  rw[z0w]at hv
  simp only[Bool.and_eq_true]at hv
  rw[z7a,zap,partR]
  simp only[Bool.and_eq_true,decide_eq_true_eq,List.all_eq_true]
  refine⟨h64,⟨⟨h1,hk.alen⟩,⟨⟨hk.cpos,hk.cmax⟩,fun k hkm=>?_⟩,fun b hb=>?_⟩,fun r hr=>List.all_eq_true.1 hv.2 r hr⟩
  · have hk':=List.mem_range.1 hkm
    obtain⟨b,hb,hc⟩:=hk.full k hk';rw[nzB,Bool.not_eq_true',decide_eq_false_iff_not];intro e;rw[←zad hb,e,z5i]at hc;cases hc
  · have hb':=List.mem_range.1 hb
    obtain⟨c,hc,hx⟩:=hk.part b hb';rw[oneB,decide_eq_true_eq,y0q hb' hc hx _ (Nat.le_refl _),if_pos hc]
def plN(t s:Nat):Nat:=if t=0 then s else if t=s then 0 else t
def mvRow(r:List Int)(s k:Nat):List Int:=(r.take k).map fun x=>plc x (s:Int)
def mvR(d:Dfa)(s t:Nat):List (List Int):=(List.range t).map fun i=>mvRow (d.next.getD (plN i s) []) s (d.next.getD (plN i s) []).length
def mvA(d:Dfa)(s t:Nat):List Bool:=(List.range t).map fun i=>d.acc.getD (plN i s) false
@[simp] theorem mvR_length(d:Dfa)(s t:Nat):(mvR d s t).length=t:=by simp[mvR]
@[simp] theorem mvA_length(d:Dfa)(s t:Nat):(mvA d s t).length=t:=by simp[mvA]
theorem mvRow_length{r:List Int}{s k:Nat}(h:k≤r.length):(mvRow r s k).length=k:=by rw[mvRow,List.length_map,List.length_take,Nat.min_eq_left h]
end Go.Proofs.YtppmnaoollkboaaDoor
