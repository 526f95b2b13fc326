/- Contracts of functions and plain facts, part 14. -/
import Derived.Test.YtpdljmohhpbkpaaDoorNd
import Derived.Test.YtpdljmohhpbkpaaDoorNh
import Derived.Test.YtpdljmohhpbkpaaDoorNb
import Derived.Test.YtpdljmohhpbkpaaDoorNl
import Derived.Test.YtpdljmohhpbkpaaDoorNi
import Derived.Test.YtpdljmohhpbkpaaDoorNc
set_option linter.all false
set_option maxHeartbeats 1000000
set_option maxRecDepth 4000
namespace Go.Proofs.YtpdljmohhpbkpaaDoor
open Go.Ab Go.RowKit

theorem Ks{a b:Prop}(kZ:b)(h:aK b->a:=by intro kZ;refine qX ?_;refine oJ ?_;refine aL ?_;exact kZ.out):a:=h ⟨kZ⟩

open Go.Aut
attribute [local irreducible] eG z12 zl au gz cr
theorem W9{α:Type}{a b:List α}{k:Nat}{d:α}(h:a.take k=b.take k)(h1:k< a.length)(h2:k< b.length)(e:a.getD k d=b.getD k d):a.take (k+1)=b.take (k+1):=by
  rw[List.getD_eq_getElem?_getD,List.getD_eq_getElem?_getD,List.getElem?_eq_getElem h1,List.getElem?_eq_getElem h2,Option.getD_some,Option.getD_some]at e;rw[List.take_add_one,List.take_add_one,h,List.getElem?_eq_getElem h1,List.getElem?_eq_getElem h2,e]
theorem Wp{α:Type}{a b:List α}{k:Nat}(h:a.take k=b.take k)(h1:a.length<=k)(h2:b.length<=k):a=b:=by
  rwa [List.take_of_length_le h1,List.take_of_length_le h2]at h
def Xx:aW:=fun vs K=>∃ a b:List Int,vs=[.c (.ds a.length (.ints .i64 a)),.c (.ds b.length (.ints .i64 b))]/\(a.length<=9223372036854775807/\b.length<=9223372036854775807)/\K (.c (.bool (decide (a=b))))
theorem zka:jJ Tryd.prog gl 23 Xx:=by
 refine kU (Γ:=g0) (N:=26) Tryd.func23 rfl rfl fun vs K h=>?_;obtain⟨a,b,rfl,⟨hb1,hb2⟩,h⟩:=h;refine⟨_,h,rfl,by simp,fun w I=>?_⟩;refine aO aF fun _ K2=>fU ?_;refine aJ K2 (aH fun _ K3=>aO aF fun _ K5=>?_)
 iterate 5 refine fU ?_
 refine aJ K5 (bC (b:=_) rfl (fun h_t10=>?_) (fun h_t10=>?_))
 ·try simp only[dQ,reduceIte]at h_t10
  refine aO aF fun _ K7=>fU ?_;refine aJ K7 (bQ (eU aF (fun _ _ h=>h) (by first|rfl|assumption) [.tmp 4] rfl ?_));refine gV ?_
  show SV.c (.bool false)=_
  rw[decide_eq_false (fun e=>h_t10 (by rw[e]))]
 ·try simp only[dQ,reduceIte]at h_t10
  refine bK (K3 _ _ _ (aH fun _ K8=>aO aF fun _ K10=>fU ?_));refine aJ K10 (bO ?_)
  have hl:a.length=b.length:=by omega
  refine fM (α:=Nat) (fun k=>[(0,.c (.ds a.length (.ints .i64 a))),(1,.c (.ds b.length (.ints .i64 b))),(5,.c (.int .i64 k))]) (fun k=>[]) 0 (fun k=>k<=a.length/\a.take k=b.take k) (fun k=>a.length - k) ?_ ?_
  ·refine ai [] id 0 ⟨Nat.zero_le _,rfl⟩ [] cu cu cu cu
  ·intro k hk;refine aH fun _ K11=>aO aF fun _ K13=>?_
   iterate 4 refine fU ?_
   refine aJ K13 (bC (b:=_) rfl (fun h_t14=>?_) (fun h_t14=>?_))
   ·try simp only[dQ,reduceIte]at h_t14
    refine bK (K11 _ _ _ (aH fun _ K14=>bO ?_))
    have hka:k< a.length:=by omega
    have hkb:k< b.length:=by omega
    refine qB aF aN fun _ K16=>?_
    iterate 9 refine Ks ?_
    refine nG K16 (bC (b:=_) rfl (fun h_t25=>?_) (fun h_t25=>?_))
    ·simp only[Int.toNat_natCast,Nat.mul_one,Bool.not_eq_true',decide_eq_false_iff_not]at h_t25
     refine aO aF fun _ K18=>fU ?_;refine aJ K18 (bQ (eU aF (fun _ _ h=>h) (by first|rfl|assumption) [.tmp 4] rfl ?_));refine gV ?_
     show SV.c (.bool false)=_
     rw[decide_eq_false (fun e=>h_t25 (by rw[e]))]
    ·simp only[Int.toNat_natCast,Nat.mul_one,Bool.not_eq_false',decide_eq_true_eq]at h_t25
     refine bK (dD (K14 _ _ _ (bB aF fun _ K19=>?_)))
     iterate 3 refine fU ?_
     refine aJ K19 (ai [] id (k+1) ⟨⟨by omega,W9 (d:=0) hk.2 hka hkb h_t25⟩,by omega⟩ [] cu cu cu cu)
   ·try simp only[dQ,reduceIte]at h_t14
    refine eY (bJ (bJ (eX (K8 _ _ _ (aO aF fun _ K21=>fU ?_)))));refine aJ K21 (bQ (eU aF (fun _ _ h=>h) (by first|rfl|assumption) [.tmp 4] rfl ?_));refine gV ?_
    obtain rfl:k=a.length:=by omega
    show SV.c (.bool true)=_
    rw[decide_eq_true (Wp hk.2 (Nat.le_refl _) (by omega))]


end Go.Proofs.YtpdljmohhpbkpaaDoor

namespace Go.Proofs.YtpdljmohhpbkpaaDoor
open Go.Ab Go.RowKit

section
variable {a b:Prop}
theorem FW(h:a:=by first|exact gG|(simp<;>omega)|(simp only[nH];omega)|exact gH):a:=h
theorem Kr(h:a:=by rintro ⟨g1,g2,g3,g4⟩;have g5:=congrArg List.length g3;have g6:=congrArg List.length g4;first|omega|(simp_all;done)|(simp at *;omega)):a:=h
theorem FX(h:a:=by first|exact gG|(simp[hcd,hce]<;>omega)|(show(bE _ k).length=4;first|exact hcd|exact hce)|exact hcd|exact hce|exact gH):a:=h
theorem gQ(h:a:=by
    repeat' (first|exact pT|exact trivial|refine aI ?_ ?_|exact iM|refine low_cons' ?_ ?_|exact iN|fail)
    all_goals first|omega|exact NE _|exact lw _|(show(0:Nat)< (au _ _ _ _).length;rw[dJ hcl];decide)|(simp[-List.reduceReplicate];done)|(simp[-List.reduceReplicate]<;>omega)|skip):a:=h
theorem pg(kZ:b)(h:aK b->a:=by intro kZ;(repeat first|refine aI FW ?_|refine bW FW ?_|refine dC FW ?_|refine fT FW ?_|refine fA ?_);exact kZ.out):a:=h ⟨kZ⟩
theorem z50(kZ:b)(h:aK b->a:=by intro kZ;refine sX ?_;refine pg ?_;refine aL ?_;exact kZ.out):a:=h ⟨kZ⟩
theorem y35(kZ:b)(h:aK b->a:=by intro kZ;refine mX ?_;refine pg ?_;refine aL ?_;exact kZ.out):a:=h ⟨kZ⟩
theorem Hr(kZ:b)(h:aK b->a:=by intro kZ;(repeat first|refine aI FX ?_|refine bW FX ?_|refine dC FX ?_|refine fT FX ?_|refine fA ?_);exact kZ.out):a:=h ⟨kZ⟩
theorem WK(kZ:b)(h:aK b->a:=by intro kZ;refine qX ?_;refine Hr ?_;refine aL ?_;exact kZ.out):a:=h ⟨kZ⟩
theorem UQ(kZ:b)(h:aK b->a:=by intro kZ;refine qX ?_;refine pg ?_;refine aL ?_;exact kZ.out):a:=h ⟨kZ⟩
theorem Z8(kZ:b)(h:aK b->a:=by intro kZ;refine sX ?_;refine pg ?_;exact kZ.out):a:=h ⟨kZ⟩
theorem y37(kZ:b)(h:aK b->a:=by intro kZ;refine qX ?_;refine Hr ?_;exact kZ.out):a:=h ⟨kZ⟩
theorem Z9(kZ:b)(h:aK b->a:=by intro kZ;refine qX ?_;refine pg ?_;exact kZ.out):a:=h ⟨kZ⟩
end
open Go.Aut
attribute [local irreducible] eG z12 zl au gz cr
def lq(d e:Dfa):Bool:=decide (d.nc=e.nc/\d.cls=e.cls/\d.next=e.next/\d.acc=e.acc)
theorem uU{d e:Dfa}:lq d e=true↔d=e:=by
  cases d;cases e
  simp only[lq,decide_eq_true_iff,Dfa.mk.injEq]
  exact⟨fun h=>⟨h.2.1,h.1,h.2.2⟩,fun h=>⟨h.2.1,h.1,h.2.2⟩⟩
theorem x9{a:List UInt64}(j:Nat):(bE a (j / 4))[j%4]? =a[j]? :=by
  rw[bE,List.getElem?_take,if_pos (Nat.mod_lt _ (by decide)),List.getElem?_drop]
  congr 1;omega
theorem DW{a b:List UInt64}{n:Nat}(ha:a.length=n*4)(hb:b.length=n*4)(h:∀ i,i< n->bE a i=bE b i):a=b:=by
  refine List.ext_getElem? fun j=>?_
  by_cases hj:j< n*4
  · rw[<-x9 (a:=a) j, <-x9 (a:=b) j,h _ (by omega)]
  · rw[List.getElem?_eq_none (by omega),List.getElem?_eq_none (by omega)]
noncomputable def VZ:Ctx:={ P:=Tryd.prog,ty:=ty,glob:=gl,fs:=[(23,.flat Xx)] }
theorem nD:VZ.OK:=⟨dS,⟨⟨bX Tryd.func23 aN rfl,zka⟩,trivial⟩,mixed⟩
@[simp] theorem V2:VZ.ty=ty:=rfl

def Ap:aW:=fun vs K=>∃ d e:Dfa,vs=[df d,df e]/\(d.wf/\e.wf)/\K (.c (.bool (lq d e)))
theorem y38:jJ Tryd.prog gl 11 Ap:=by
 refine kU (Γ:=VZ) (N:=88) Tryd.func11 rfl rfl fun vs K h=>?_;obtain⟨d,e,rfl,⟨hd,he⟩,h⟩:=h;refine⟨_,h,rfl,by simp,fun w I=>?_⟩;refine aO nD fun _ K2=>?_
 iterate 3 refine z50 ?_
 refine aJ K2 (aH fun _ K3=>aO nD fun _ K5=>?_)
 iterate 7 refine z50 ?_
 refine Z8 ?_;refine fO (fun hb7=>?_) (fun hb7=>?_)
 ·try simp only[dQ,reduceIte]at hb7
  iterate 7 refine sN ?_
  refine z50 ?_;refine Z8 ?_;refine fO (fun hb16=>?_) (fun hb16=>?_)
  rotate_left 1
  ·exfalso;simp at hb16
  iterate 7 refine sN ?_
  refine z50 ?_;refine aJ K5 (bC (b:=_) rfl (fun _=>?_) (fun h_t32=>?_))
  rotate_left 1
  ·exfalso;simp at h_t32
  refine aO nD fun _ K7=>z50 ?_;refine aJ K7 (bQ (eU nD (fun _ _ h=>h) (by first|rfl|assumption) [.tmp 4] rfl ?_));refine gV ?_
  show SV.c (.bool false)=_
  rw[lq,decide_eq_false Kr]
 ·try simp only[dQ,reduceIte]at hb7
  iterate 7 refine y35 ?_
  refine z50 ?_;refine Z8 ?_;refine fO (fun hb16=>?_) (fun hb16=>?_)
  ·try simp only[dQ,reduceIte]at hb16
   iterate 7 refine sN ?_
   refine z50 ?_;refine aJ K5 (bC (b:=_) rfl (fun _=>?_) (fun h_t32=>?_))
   rotate_left 1
   ·exfalso;simp at h_t32
   refine aO nD fun _ K9=>z50 ?_;refine aJ K9 (bQ (eU nD (fun _ _ h=>h) (by first|rfl|assumption) [.tmp 4] rfl ?_));refine gV ?_
   show SV.c (.bool false)=_
   rw[lq,decide_eq_false Kr]
  ·try simp only[dQ,reduceIte]at hb16
   iterate 7 refine y35 ?_
   refine z50 ?_;refine aJ K5 (bC (b:=_) rfl (fun h_t32=>?_) (fun h_t32=>?_))
   ·try simp only[dQ,reduceIte]at h_t32
    refine aO nD fun _ K11=>z50 ?_;refine aJ K11 (bQ (eU nD (fun _ _ h=>h) (by first|rfl|assumption) [.tmp 4] rfl ?_));refine gV ?_
    show SV.c (.bool false)=_
    rw[lq,decide_eq_false Kr]
   ·try simp only[dQ,reduceIte]at h_t32
    refine bK (K3 _ _ _ (aH fun _ K12=>?_))
    have hL:d.nc=e.nc/\d.next.length=e.next.length/\d.acc.length=e.acc.length:=by first|omega|(simp at *;omega)
    have hd1:=hd.1
    have he1:=he.1
    have hM1:=hd.2.1
    have hM2:=hd.2.2.1
    have hM3:=hd.2.2.2.1
    refine aO nD fun _ K14=>z50 ?_;refine aJ K14 (bO (fM (α:=Nat) (fun k=>[(2,.c (.dp (eB d) 0)),(3,.c (.dp (eB e) 0)),(5,.c (.int .i64 k))]) (fun k=>[]) 0 (fun k=>k<=d.nc/\∀ i,i< k->bE d.cls i=bE e.cls i) (fun k=>d.nc - k) ?_ ?_))
    ·refine ai [0,1] id 0 ⟨Nat.zero_le _,fun i hi=>absurd hi (Nat.not_lt_zero i)⟩ [] gQ gQ gQ gQ
    ·intro k hk;refine aH fun _ K15=>aO nD fun _ K17=>?_
     iterate 5 refine z50 ?_
     refine aJ K17 (bC (b:=_) rfl (fun h_t37=>?_) (fun h_t37=>?_))
     ·try simp only[dQ,reduceIte]at h_t37
      refine bK (K15 _ _ _ (aH fun _ K18=>bO ?_))
      have hkn:k< d.nc:=by omega
      have hcd:=z26 hd1 hkn
      have hce:=z26 he1 (hL.1▸hkn)
      refine qB nD aN fun _ K20=>?_
      iterate 4 refine WK ?_
      refine y37 ?_;refine aU (.agg (.u64s (bE d.cls k))) (bq rfl) ?_
      iterate 4 refine WK ?_
      refine y37 ?_;refine aU (.agg (.u64s (bE e.cls k))) (bq rfl) (WK ?_);refine nG K20 (bC (b:=_) rfl (fun h_t50=>?_) (fun h_t50=>?_))
      ·try simp only[dQ,reduceIte]at h_t50
       refine aO nD fun _ K22=>z50 ?_;refine aJ K22 (bQ (eU nD (fun _ _ h=>h) (by first|rfl|assumption) [.tmp 4] rfl ?_));refine gV ?_
       show SV.c (.bool false)=_
       rw[lq,decide_eq_false (fun g=>h_t50 (by rw[g.2.1]))]
      ·try simp only[dQ,reduceIte]at h_t50
       refine bK (dD (K18 _ _ _ (bB nD fun _ K23=>?_)))
       iterate 3 refine z50 ?_
       refine aJ K23 (ai [] id (k+1) ⟨⟨by omega,fun i hi=>(Nat.lt_succ_iff_lt_or_eq.1 hi).elim (hk.2 i) (fun e=>e▸h_t50)⟩,by omega⟩ [] gQ gQ gQ gQ)
     ·try simp only[dQ,reduceIte]at h_t37
      refine eY (bJ (bJ (eX (K12 _ _ _ (aH fun _ K24=>?_)))))
      obtain rfl:k=d.nc:=by omega
      have hcls:d.cls=e.cls:=DW hd1 (hL.1▸he1) hk.2
      refine aO nD fun _ K26=>z50 ?_;refine aJ K26 (bO (fM (α:=Nat) (fun k=>[(2,.c (.dp (eB d) 0)),(3,.c (.dp (eB e) 0)),(6,.c (.int .i64 k))]) (fun k=>[]) 0 (fun k=>k<=d.next.length/\d.next.take k=e.next.take k) (fun k=>d.next.length - k) ?_ ?_))
      ·refine ai [] id 0 ⟨Nat.zero_le _,rfl⟩ [] gQ gQ gQ gQ
      ·intro k hk;refine aH fun _ K27=>aO nD fun _ K29=>?_
       iterate 5 refine z50 ?_
       refine aJ K29 (bC (b:=_) rfl (fun h_t55=>?_) (fun h_t55=>?_))
       ·try simp only[dQ,reduceIte]at h_t55
        refine bK (K27 _ _ _ (aH fun _ K30=>bO ?_))
        have hkn:k< d.next.length:=by omega
        have hke:k< e.next.length:=by omega
        have hr1:=hd.2.2.2.2 _ (sw (d:=[]) hkn)
        have hr2:=he.2.2.2.2 _ (sw (d:=[]) hke)
        refine qB nD aN fun _ K32=>?_
        iterate 4 refine UQ ?_
        refine Z9 ?_;rw[Iw]
        rotate_left 1
        ·first|omega|(simp<;>omega)
        refine aL ?_
        iterate 4 refine UQ ?_
        refine Z9 ?_;rw[Iw]
        rotate_left 1
        ·first|omega|(simp<;>omega)
        refine aL (Z9 ?_)
        simp only[Int.toNat_natCast,Nat.mul_one]
        refine⟨d.next.getD k [],e.next.getD k [],rfl,⟨hr1,hr2⟩,pg ?_⟩
        first|refine aL ?_|(intro cap10 hcap10;refine aL ?_)
        refine UQ ?_;refine nG K32 (bC (b:=_) rfl (fun h_t69=>?_) (fun h_t69=>?_))
        ·simp only[Int.toNat_natCast,Nat.mul_one,Bool.not_eq_true',decide_eq_false_iff_not]at h_t69
         refine aO nD fun _ K34=>z50 ?_;refine aJ K34 (bQ (eU nD (fun _ _ h=>h) (by first|rfl|assumption) [.tmp 4] rfl ?_));refine gV ?_
         show SV.c (.bool false)=_
         rw[lq,decide_eq_false (fun g=>h_t69 (by rw[g.2.2.1]))]
        ·simp only[Int.toNat_natCast,Nat.mul_one,Bool.not_eq_false',decide_eq_true_eq]at h_t69
         refine bK (dD (K30 _ _ _ (bB nD fun _ K35=>?_)))
         iterate 3 refine z50 ?_
         refine aJ K35 (ai [] id (k+1) ⟨⟨by omega,W9 (d:=[]) hk.2 hkn hke h_t69⟩,by omega⟩ [] gQ gQ gQ gQ)
       ·try simp only[dQ,reduceIte]at h_t55
        refine eY (bJ (bJ (eX (K24 _ _ _ (aH fun _ K36=>?_)))))
        obtain rfl:k=d.next.length:=by omega
        have hnx:d.next=e.next:=Wp hk.2 (Nat.le_refl _) (by omega)
        refine aO nD fun _ K38=>z50 ?_;refine aJ K38 (bO (fM (α:=Nat) (fun k=>[(2,.c (.dp (eB d) 0)),(3,.c (.dp (eB e) 0)),(7,.c (.int .i64 k))]) (fun k=>[]) 0 (fun k=>k<=d.acc.length/\d.acc.take k=e.acc.take k) (fun k=>d.acc.length - k) ?_ ?_))
        ·refine ai [] id 0 ⟨Nat.zero_le _,rfl⟩ [] gQ gQ gQ gQ
        ·intro k hk;refine aH fun _ K39=>aO nD fun _ K41=>?_
         iterate 5 refine z50 ?_
         refine aJ K41 (bC (b:=_) rfl (fun h_t74=>?_) (fun h_t74=>?_))
         ·try simp only[dQ,reduceIte]at h_t74
          refine bK (K39 _ _ _ (aH fun _ K42=>bO ?_))
          have hkn:k< d.acc.length:=by omega
          have hke:k< e.acc.length:=by omega
          refine qB nD aN fun _ K44=>?_
          iterate 11 refine UQ ?_
          refine nG K44 (bC (b:=_) rfl (fun h_t87=>?_) (fun h_t87=>?_))
          ·simp only[Int.toNat_natCast,Nat.mul_one,Bool.not_eq_true',decide_eq_false_iff_not]at h_t87
           refine aO nD fun _ K46=>z50 ?_;refine aJ K46 (bQ (eU nD (fun _ _ h=>h) (by first|rfl|assumption) [.tmp 4] rfl ?_));refine gV ?_
           show SV.c (.bool false)=_
           rw[lq,decide_eq_false (fun g=>h_t87 (by rw[g.2.2.2]))]
          ·simp only[Int.toNat_natCast,Nat.mul_one,Bool.not_eq_false',decide_eq_true_eq]at h_t87
           refine bK (dD (K42 _ _ _ (bB nD fun _ K47=>?_)))
           iterate 3 refine z50 ?_
           refine aJ K47 (ai [] id (k+1) ⟨⟨by omega,W9 (d:=false) hk.2 hkn hke h_t87⟩,by omega⟩ [] gQ gQ gQ gQ)
         ·try simp only[dQ,reduceIte]at h_t74
          refine eY (bJ (bJ (eX (K36 _ _ _ (aO nD fun _ K49=>z50 ?_)))));refine aJ K49 (bQ (eU nD (fun _ _ h=>h) (by first|rfl|assumption) [.tmp 4] rfl ?_));refine gV ?_
          obtain rfl:k=d.acc.length:=by omega
          show SV.c (.bool true)=_
          rw[lq,decide_eq_true ⟨hL.1,hcls,hnx,Wp hk.2 (Nat.le_refl _) (by omega)⟩]


end Go.Proofs.YtpdljmohhpbkpaaDoor

namespace Go.Proofs.YtpdljmohhpbkpaaDoor
open Go.Ab Go.RowKit

section
variable {a b:Prop}
theorem FR(h:a:=by first|exact gG|(simp[hc]<;>omega)|(refine⟨by omega,by omega,?_⟩;decide)|(simp[hc];omega)|exact gH):a:=h
theorem FT(h:a:=by first|exact gG|(simp[hw]<;>omega)|exact gH):a:=h
theorem FU(h:a:=by first|exact gG|(simp[hw,hcl]<;>omega)|(show(bE cls k).length=4;exact hcl)|exact hcl|exact gH):a:=h
theorem FV(h:a:=by first|exact gG|(simp[hw,hcl]<;>omega)|exact gH):a:=h
theorem Ii(h:a:=by
    repeat' (first|exact trivial|refine aI ?_ ?_|exact iM|refine low_cons' ?_ ?_|exact iN|fail)
    all_goals first|omega|(rw[jo,if_pos h_t42];simp;done)|(rw[jo,if_neg h_t42])|skip):a:=h
theorem ja(h:a:=by
    repeat' (first|exact trivial|refine aI ?_ ?_|exact iM|refine low_cons' ?_ ?_|exact iN|fail)
    all_goals first|omega|exact NE _|exact low_cons' trivial (low_cons' trivial (low_cons' trivial low_nil'))|(simp;done)|(simp<;>omega)|skip):a:=h
theorem OC(kZ:b)(h:aK b->a:=by intro kZ;(repeat first|refine aI FR ?_|refine bW FR ?_|refine dC FR ?_|refine fT FR ?_|refine fA ?_);exact kZ.out):a:=h ⟨kZ⟩
theorem LD(kZ:b)(h:aK b->a:=by intro kZ;refine sX ?_;refine OC ?_;refine aL ?_;exact kZ.out):a:=h ⟨kZ⟩
theorem wR(kZ:b)(h:aK b->a:=by intro kZ;(repeat first|refine aI FT ?_|refine bW FT ?_|refine dC FT ?_|refine fT FT ?_|refine fA ?_);exact kZ.out):a:=h ⟨kZ⟩
theorem pE(kZ:b)(h:aK b->a:=by intro kZ;refine sX ?_;refine wR ?_;refine aL ?_;exact kZ.out):a:=h ⟨kZ⟩
theorem GK(kZ:b)(h:aK b->a:=by intro kZ;refine mX ?_;refine wR ?_;refine aL ?_;exact kZ.out):a:=h ⟨kZ⟩
theorem OD(kZ:b)(h:aK b->a:=by intro kZ;(repeat first|refine aI FU ?_|refine bW FU ?_|refine dC FU ?_|refine fT FU ?_|refine fA ?_);exact kZ.out):a:=h ⟨kZ⟩
theorem Am(kZ:b)(h:aK b->a:=by intro kZ;refine sX ?_;refine OD ?_;refine aL ?_;exact kZ.out):a:=h ⟨kZ⟩
theorem wS(kZ:b)(h:aK b->a:=by intro kZ;(repeat first|refine aI FV ?_|refine bW FV ?_|refine dC FV ?_|refine fT FV ?_|refine fA ?_);exact kZ.out):a:=h ⟨kZ⟩
theorem y39(kZ:b)(h:aK b->a:=by intro kZ;refine sX ?_;refine wS ?_;refine aL ?_;exact kZ.out):a:=h ⟨kZ⟩
theorem y3a(kZ:b)(h:aK b->a:=by intro kZ;refine dX ?_;refine nM ?_;refine aL ?_;exact kZ.out):a:=h ⟨kZ⟩
theorem Ae(kZ:b)(h:aK b->a:=by intro kZ;refine sX ?_;refine wR ?_;exact kZ.out):a:=h ⟨kZ⟩
theorem Af(kZ:b)(h:aK b->a:=by intro kZ;refine sX ?_;refine wS ?_;exact kZ.out):a:=h ⟨kZ⟩
theorem zqy(kZ:b)(h:aK b->a:=by intro kZ;refine mX ?_;refine nM ?_;exact kZ.out):a:=h ⟨kZ⟩
theorem xm(kZ:b)(h:aK b->a:=by intro kZ;refine dX ?_;refine nM ?_;exact kZ.out):a:=h ⟨kZ⟩
theorem y3b(kZ:b)(h:aK b->a:=by intro kZ;refine mX ?_;refine oJ ?_;exact kZ.out):a:=h ⟨kZ⟩
end
open Go.Aut
def MX(c:List UInt64)(b:Nat):Bool:=decide (iD (c.getD (b / 64) 0) (b%64)%2=1)
def Za:aW:=fun vs K=>∃ c:List UInt64,∃ b:Nat,vs=[.agg (.u64s c),.c (.int .i64 b)]/\(c.length=4/\b< 256)/\K (.c (.bool (MX c b)))
theorem zqz:jJ Tryd.prog gl 83 Za:=by
 refine kU (Γ:=g0) (N:=14) Tryd.func83 rfl rfl fun vs K h=>?_;obtain⟨c,b,rfl,⟨hc,hb⟩,h⟩:=h;refine⟨_,h,rfl,by simp,fun w I=>?_⟩;refine aO aF fun _ K2=>?_
 iterate 2 refine mE ?_
 refine aJ K2 (aO aF fun _ K4=>?_)
 iterate 10 refine LD ?_
 refine aJ K4 (bQ (eU aF (fun _ _ h=>h) (by first|rfl|assumption) [.tmp 4] rfl ?_));refine gV ?_
 show SV.c (.bool _)=_
 rw[MX,show 0+((b:Int) / 64).toNat*1=b / 64 by omega,show((b:Int)%64).toNat=b%64 by omega]
 rfl

def jo(cls:List UInt64)(b:Nat):Nat->Nat
  |0=>0
  |k+1=>if MX (bE cls k) b then jo cls b k+1 else jo cls b k
theorem y3c(cls:List UInt64)(b:Nat):∀ k,jo cls b k<=k
  |0=>Nat.le_refl _
  | k+1=>by
    have:=y3c cls b k
    rw[jo];split<;>omega
def Mb(cls:List UInt64)(k:Nat):Bool:= !decide (bE cls k=Z4)
def zg(cls:List UInt64)(nc b:Nat):Bool:=decide (jo cls b nc=1)
def lW(cls:List UInt64)(nc:Nat):Bool:=decide (1<=nc/\nc<=256)&&(List.range nc).all (Mb cls)&&(List.range 256).all (zg cls nc)
noncomputable def n1:Ctx:={ P:=Tryd.prog,ty:=ty,glob:=gl,fs:=[(83,.flat Za)] }
theorem fK:n1.OK:=⟨dS,⟨⟨bX Tryd.func83 aN rfl,zqz⟩,trivial⟩,mixed⟩
@[simp] theorem z0F:n1.ty=ty:=rfl

def I7:aW:=fun vs K=>∃ cls:List UInt64,∃ nc:Nat,vs=[.c (.ds nc (.u64s cls))]/\(cls.length=nc*4/\nc<=9223372036854775807)/\K (.c (.bool (lW cls nc)))
theorem EZ:jJ Tryd.prog gl 82 I7:=by
 refine kU (Γ:=n1) (N:=47) Tryd.func82 rfl rfl fun vs K h=>?_;obtain⟨cls,nc,rfl,⟨hw,hn⟩,h⟩:=h;refine⟨_,h,rfl,by simp,fun w I=>?_⟩;refine aO fK fun _ K2=>pE ?_;refine aJ K2 (aH fun _ K3=>aO fK fun _ K5=>?_)
 iterate 3 refine pE ?_
 refine Ae ?_;refine fO (fun hb3=>?_) (fun hb3=>?_)
 ·try simp only[dQ,reduceIte]at hb3
  iterate 3 refine sN ?_
  refine pE ?_;refine aJ K5 (bC (b:=_) rfl (fun _=>?_) (fun h_t14=>?_))
  rotate_left 1
  ·exfalso;simp at h_t14
  refine aO fK fun _ K7=>pE ?_;refine aJ K7 (bQ (eU fK (fun _ _ h=>h) (by first|rfl|assumption) [.tmp 2] rfl ?_));refine gV ?_
  show SV.c (.bool false)=_
  rw[lW,decide_eq_false (fun hh=>by omega),Bool.false_and,Bool.false_and]
 ·try simp only[dQ,reduceIte]at hb3
  iterate 3 refine GK ?_
  refine pE ?_;refine aJ K5 (bC (b:=_) rfl (fun h_t14=>?_) (fun h_t14=>?_))
  ·try simp only[dQ,reduceIte]at h_t14
   refine aO fK fun _ K9=>pE ?_;refine aJ K9 (bQ (eU fK (fun _ _ h=>h) (by first|rfl|assumption) [.tmp 2] rfl ?_));refine gV ?_
   show SV.c (.bool false)=_
   rw[lW,decide_eq_false (fun hh=>by omega),Bool.false_and,Bool.false_and]
  ·try simp only[dQ,reduceIte]at h_t14
   refine bK (K3 _ _ _ (aH fun _ K10=>?_))
   have hbase:1<=nc/\nc<=256:=by omega
   refine aO fK fun _ K12=>pE ?_;refine aJ K12 (bO (fM (α:=Nat) (fun k=>[(0,.c (.ds nc (.u64s cls))),(3,.c (.int .i64 k))]) (fun k=>[]) 0 (fun k=>k<=nc/\(List.range k).all (Mb cls)=true) (fun k=>nc - k) ?_ ?_))
   ·refine ai [] id 0 ⟨Nat.zero_le _,rfl⟩ [] cu cu cu cu
   ·intro k hk;refine aH fun _ K13=>aO fK fun _ K15=>?_
    iterate 4 refine pE ?_
    refine aJ K15 (bC (b:=_) rfl (fun h_t18=>?_) (fun h_t18=>?_))
    ·try simp only[dQ,reduceIte]at h_t18
     refine bK (K13 _ _ _ (aH fun _ K16=>bO ?_))
     have hkn:k< nc:=by omega
     have hcl:=z26 hw hkn
     have hsub:(aB.u64s cls).sub ((k:Int).toNat*4) (4*1)= .u64s (bE cls k):=rfl
     refine aO fK fun _ K18=>?_
     iterate 3 refine Am ?_
     refine sX ?_;refine aI (by decide) (aI (by simp only[z66];omega) (fA ?_));rw[hsub];refine aL ?_
     iterate 2 refine Am ?_
     refine aJ K18 (bC (b:=_) rfl (fun h_t26=>?_) (fun h_t26=>?_))
     ·try simp only[dQ,reduceIte]at h_t26
      refine aO fK fun _ K20=>pE ?_;refine aJ K20 (bQ (eU fK (fun _ _ h=>h) (by first|rfl|assumption) [.tmp 2] rfl ?_));refine gV ?_
      show SV.c (.bool false)=_
      rw[lW,Rb hkn (by rw[Mb,decide_eq_true (show bE cls k=Z4 from h_t26)];rfl),Bool.and_false,Bool.false_and]
     ·try simp only[dQ,reduceIte]at h_t26
      refine bK (dD (K16 _ _ _ (bB fK fun _ K21=>?_)))
      iterate 3 refine pE ?_
      refine aJ K21 (ai [] id (k+1) ⟨⟨by omega,WT hk.2 (by rw[Mb,decide_eq_false (show ¬ bE cls k=Z4 from h_t26)];rfl)⟩,by omega⟩ [] ?_ ?_ ?_ ?_)
      ·exact cu
      ·exact cu
      ·exact cu
      ·exact cu
    ·try simp only[dQ,reduceIte]at h_t18
     refine eY (bJ (bJ (eX (K10 _ _ _ (aH fun _ K22=>?_)))))
     obtain rfl:k=nc:=by omega
     have hnz:=hk.2
     refine aO fK fun _ K24=>pE ?_;refine aJ K24 (bO (fM (α:=Nat) (fun b=>[(0,.c (.ds k (.u64s cls))),(4,.c (.int .i64 b))]) (fun b=>[]) 0 (fun b=>b<=256/\(List.range b).all (zg cls k)=true) (fun b=>256 - b) ?_ ?_))
     ·refine ai [] id 0 ⟨Nat.zero_le _,rfl⟩ [] cu cu cu cu
     ·intro b hb;refine aH fun _ K25=>aO fK fun _ K27=>?_
      iterate 2 refine pE ?_
      refine aJ K27 (bC (b:=_) rfl (fun h_t28=>?_) (fun h_t28=>?_))
      ·try simp only[dQ,reduceIte]at h_t28
       refine bK (K25 _ _ _ (aH fun _ K28=>bO ?_))
       have hb256:b< 256:=by omega
       refine aO fK fun _ K30=>pE ?_;refine aJ K30 (aH fun _ K31=>aO fK fun _ K33=>pE ?_);refine aJ K33 (bO (fM (α:=Nat) (fun j=>[(0,.c (.ds k (.u64s cls))),(4,.c (.int .i64 b)),(5,.c (.int .i64 (jo cls b j))),(6,.c (.int .i64 j))]) (fun j=>[]) 0 (fun j=>j<=k) (fun j=>k - j) ?_ ?_))
       ·refine ai [] id 0 (Nat.zero_le _) [] cu cu cu cu
       ·intro j hj;refine aH fun _ K34=>aO fK fun _ K36=>?_
        iterate 4 refine pE ?_
        refine aJ K36 (bC (b:=_) rfl (fun h_t34=>?_) (fun h_t34=>?_))
        ·try simp only[dQ,reduceIte]at h_t34
         refine bK (K34 _ _ _ (aH fun _ K37=>bO ?_))
         have hjn:j< k:=by omega
         have hcl:=z26 hw hjn
         have hsub:(aB.u64s cls).sub ((j:Int).toNat*4) (4*1)= .u64s (bE cls j):=rfl
         refine aO fK fun _ K39=>?_
         iterate 3 refine y39 ?_
         refine sX ?_;refine aI (by decide) (aI (by simp only[z66];omega) (fA ?_));rw[hsub];refine aL (y39 ?_);refine Af ?_;refine⟨bE cls j,b,rfl,⟨hcl,hb256⟩,wS ?_⟩
         first|refine aL ?_|(intro cap5 hcap5;refine aL ?_)
         refine aJ K39 (bC (b:=_) rfl (fun h_t42=>?_) (fun h_t42=>?_))
         ·have hcle:=y3c cls b j
          refine bB fK fun _ K40=>?_
          iterate 3 refine pE ?_
          refine aJ K40 (dD (K37 _ _ _ (bB fK fun _ K41=>?_)))
          iterate 3 refine pE ?_
          refine aJ K41 (ai [] id (j+1) ⟨by omega,by omega⟩ [] Ii cu cu cu)
         ·replace h_t42:¬ MX (bE cls j) b=true:=by rw[h_t42];decide
          refine bK (dD (K37 _ _ _ (bB fK fun _ K42=>?_)))
          iterate 3 refine pE ?_
          refine aJ K42 (ai [] id (j+1) ⟨by omega,by omega⟩ [] Ii cu cu cu)
        ·try simp only[dQ,reduceIte]at h_t34
         refine eY (bJ (bJ (eX (K31 _ _ _ ?_))))
         obtain rfl:j=k:=by omega
         refine aO fK fun _ K44=>?_
         iterate 2 refine pE ?_
         refine aJ K44 (bC (b:=_) rfl (fun h_t46=>?_) (fun h_t46=>?_))
         ·try simp only[dQ,reduceIte]at h_t46
          refine aO fK fun _ K46=>pE ?_;refine aJ K46 (bQ (eU fK (fun _ _ h=>h) (by first|rfl|assumption) [.tmp 2] rfl ?_));refine gV ?_
          show SV.c (.bool false)=_
          rw[lW,Rb hb256 (by rw[zg,decide_eq_false (by omega)]),Bool.and_false]
         ·try simp only[dQ,reduceIte]at h_t46
          refine bK (dD (K28 _ _ _ (bB fK fun _ K47=>?_)))
          iterate 3 refine pE ?_
          refine aJ K47 (ai [] id (b+1) ⟨⟨by omega,WT hb.2 (by rw[zg,decide_eq_true (by omega)])⟩,by omega⟩ [] cu cu cu cu)
      ·try simp only[dQ,reduceIte]at h_t28
       refine eY (bJ (bJ (eX (K22 _ _ _ (aO fK fun _ K49=>pE ?_)))));refine aJ K49 (bQ (eU fK (fun _ _ h=>h) (by first|rfl|assumption) [.tmp 2] rfl ?_));refine gV ?_
       show SV.c (.bool true)=_
       obtain rfl:b=256:=by omega
       rw[lW,decide_eq_true hbase,hnz,hb.2]
       rfl

def Bu(d:Dfa):Bool:=decide (1<=d.next.length/\d.acc.length=d.next.length)&&lW d.cls d.nc&&d.next.all (jZ d.nc d.next.length)
def JI(d:Dfa):Bool:=decide (d.next.length<=64)&&Bu d
noncomputable def n2:Ctx:={ P:=Tryd.prog,ty:=ty,glob:=gl,fs:=[(82,.flat I7)] }
theorem fq:n2.OK:=⟨dS,⟨⟨bX Tryd.func82 aN rfl,EZ⟩,trivial⟩,mixed⟩
@[simp] theorem z0G:n2.ty=ty:=rfl

def y3d:aW:=fun vs K=>∃ d:Dfa,vs=[df d]/\d.wf/\K (.c (.bool (Bu d)))
theorem y3e :jJ Tryd.prog gl 66 y3d:=by
 refine kU (Γ:=n2) (N:=70) Tryd.func66 rfl rfl fun vs K h=>?_;obtain⟨d,rfl,⟨hw1,hw2,hw3,hw4,hw5⟩,h⟩:=h;refine⟨_,h,rfl,by simp,fun w I=>?_⟩;refine aO fq fun _ K2=>?_
 iterate 2 refine gW ?_
 refine aJ K2 (aO fq fun _ K4=>?_)
 iterate 4 refine gW ?_
 refine aJ K4 (aH fun _ K5=>aO fq fun _ K7=>?_)
 iterate 2 refine gW ?_
 refine qd ?_;refine fO (fun hb2=>?_) (fun hb2=>?_)
 ·try simp only[dQ,reduceIte]at hb2
  iterate 5 refine sN ?_
  refine gW ?_;refine qd ?_;refine fO (fun hb9=>?_) (fun hb9=>?_)
  rotate_left 1
  ·exfalso;simp at hb9
  iterate 4 refine sN ?_
  refine gW ?_;refine aJ K7 (bC (b:=_) rfl (fun _=>?_) (fun h_t23=>?_))
  rotate_left 1
  ·exfalso;simp at h_t23
  refine aO fq fun _ K9=>gW ?_;refine aJ K9 (bQ (eU fq (fun _ _ h=>h) (by first|rfl|assumption) [.tmp 2] rfl ?_));refine gV ?_
  show SV.c (.bool false)=_
  rw[Bu,decide_eq_false (fun hh=>by omega),Bool.false_and,Bool.false_and]
 ·try simp only[dQ,reduceIte]at hb2
  iterate 5 refine Cg ?_
  refine gW ?_;refine qd ?_;refine fO (fun hb9=>?_) (fun hb9=>?_)
  ·try simp only[dQ,reduceIte]at hb9
   iterate 4 refine sN ?_
   refine gW ?_;refine aJ K7 (bC (b:=_) rfl (fun _=>?_) (fun h_t23=>?_))
   rotate_left 1
   ·exfalso;simp at h_t23
   refine aO fq fun _ K11=>gW ?_;refine aJ K11 (bQ (eU fq (fun _ _ h=>h) (by first|rfl|assumption) [.tmp 2] rfl ?_));refine gV ?_
   show SV.c (.bool false)=_
   rw[Bu,decide_eq_false (fun hh=>by omega),Bool.false_and,Bool.false_and]
  ·try simp only[dQ,reduceIte]at hb9
   iterate 2 refine Cg ?_
   refine zqy ?_;refine⟨d.cls,d.nc,rfl,⟨hw1,hw2⟩,nM ?_⟩
   first|refine aL ?_|(intro cap12 hcap12;refine aL ?_)
   refine Cg ?_;refine gW ?_;refine aJ K7 (bC (b:=_) rfl (fun h_t23=>?_) (fun h_t23=>?_))
   ·try simp only[dQ,reduceIte]at h_t23
    refine aO fq fun _ K13=>gW ?_;refine aJ K13 (bQ (eU fq (fun _ _ h=>h) (by first|rfl|assumption) [.tmp 2] rfl ?_));refine gV ?_
    show SV.c (.bool false)=_
    rw[Bu,show lW d.cls d.nc=false by simpa using h_t23,Bool.and_false,Bool.false_and]
   ·try simp only[dQ,reduceIte]at h_t23
    refine bK (K5 _ _ _ (aH fun _ K14=>?_))
    have hbase:1<=d.next.length/\d.acc.length=d.next.length:=by omega
    have hpart:lW d.cls d.nc=true:=by simpa using h_t23
    refine aO fq fun _ K16=>gW ?_;refine aJ K16 (bO (fM (α:=Nat) (fun k=>[(1,.c (.ptr 0 0)),(3,.c (.int .i64 d.next.length)),(4,.c (.int .i64 k))]) (fun k=>[(0,.own 30 (eB d) 3)]) 1 (fun k=>k<=d.next.length/\(d.next.take k).all (jZ d.nc d.next.length)=true) (fun k=>d.next.length - k) ?_ ?_))
    ·refine ai [] id 0 ⟨Nat.zero_le _,rfl⟩ [0] ja ja ja ja
    ·intro k hk;refine aH fun _ K17=>aO fq fun _ K19=>?_
     iterate 3 refine gW ?_
     refine aJ K19 (bC (b:=_) rfl (fun h_t26=>?_) (fun h_t26=>?_))
     ·try simp only[dQ,reduceIte]at h_t26
      refine bK (K17 _ _ _ (aH fun _ K20=>bO (aH fun _ K21=>?_)))
      have hkn:k< d.next.length:=by omega
      have hrl:=hw5 _ (sw (d:=[]) hkn)
      refine vR fq [(0,true),(1,true),(2,true),(3,true),(4,true),(5,true),(6,true),(7,true),(8,true),(9,true)] rfl aN aN fun _ K23=>?_
      iterate 4 refine y3a ?_
      refine xm ?_;rw[show(k:Int).toNat*1=k by omega,Iw hkn];refine aL ?_
      iterate 5 refine y3a ?_
      refine iF K23 (bC (b:=_) rfl (fun h_t38=>?_) (fun h_t38=>?_))
      ·try simp only[dQ,reduceIte]at h_t38
       try simp only[Int.toNat_natCast,Nat.mul_one]at h_t38
       refine aO fq fun _ K25=>gW ?_;refine aJ K25 (bQ (eU fq (fun _ _ h=>h) (by first|rfl|assumption) [.tmp 2] rfl ?_));refine gV ?_
       show SV.c (.bool false)=_
       rw[Bu,Cc (d:=[]) hkn (by rw[jZ,decide_eq_false (by omega),Bool.false_and]),Bool.and_false]
      ·try simp only[dQ,reduceIte]at h_t38
       try simp only[Int.toNat_natCast,Nat.mul_one]at h_t38
       refine bK (K21 _ _ _ (aO fq fun _ K27=>gW ?_));refine aJ K27 (bO (fM (α:=Nat) (fun j=>[(1,.c (.ptr 0 0)),(3,.c (.int .i64 d.next.length)),(4,.c (.int .i64 k)),(5,.c (.int .i64 j))]) (fun j=>[(0,.own 30 (eB d) 3)]) 1 (fun j=>j<=(d.next.getD k []).length/\((d.next.getD k []).take j).all (j4 d.next.length)=true) (fun j=>(d.next.getD k []).length - j) ?_ ?_))
       ·refine ai [] id 0 ⟨Nat.zero_le _,rfl⟩ [0] ja ja ja ja
       ·intro j hj;refine aH fun _ K28=>aO fq fun _ K30=>?_
        iterate 5 refine gW ?_
        refine qd ?_;rw[show(k:Int).toNat*1=k by omega,Iw hkn];refine aL ?_
        iterate 2 refine gW ?_
        refine aJ K30 (bC (b:=_) rfl (fun h_t46=>?_) (fun h_t46=>?_))
        ·try simp only[dQ,reduceIte]at h_t46
         try simp only[Int.toNat_natCast,Nat.mul_one]at h_t46
         refine bK (K28 _ _ _ (aH fun _ K31=>bO ?_))
         have hjn:j< (d.next.getD k []).length:=by omega
         refine aO fq fun _ K33=>?_
         iterate 4 refine gW ?_
         refine qd ?_;rw[show(k:Int).toNat*1=k by omega,Iw hkn];refine aL ?_
         iterate 4 refine gW ?_
         refine qd ?_;refine fO (fun hb9=>?_) (fun hb9=>?_)
         ·try simp only[dQ,reduceIte]at hb9
          iterate 10 refine sN ?_
          refine gW ?_;refine aJ K33 (bC (b:=_) rfl (fun _=>?_) (fun h_t69=>?_))
          rotate_left 1
          ·exfalso;simp at h_t69
          have htb:j4 d.next.length ((d.next.getD k []).getD j 0)=false:=by
           simp only[j4,Bool.and_eq_false_iff,decide_eq_false_iff_not]
           first|(simp only[Int.toNat_natCast,Nat.mul_one]at hb9 h_t69;omega)|(simp only[Int.toNat_natCast,Nat.mul_one]at hb9;omega)
          refine aO fq fun _ K35=>gW ?_;refine aJ K35 (bQ (eU fq (fun _ _ h=>h) (by first|rfl|assumption) [.tmp 2] rfl ?_));refine gV ?_
          show SV.c (.bool false)=_
          rw[Bu,Cc (d:=[]) hkn (by rw[jZ,Cc (d:=0) hjn htb,Bool.and_false]),Bool.and_false]
         ·try simp only[dQ,reduceIte]at hb9
          iterate 4 refine Cg ?_
          refine zqy ?_;rw[show(k:Int).toNat*1=k by omega,Iw hkn];refine aL ?_
          iterate 5 refine Cg ?_
          refine gW ?_;refine aJ K33 (bC (b:=_) rfl (fun h_t69=>?_) (fun h_t69=>?_))
          ·try simp only[dQ,reduceIte]at h_t69
           have htb:j4 d.next.length ((d.next.getD k []).getD j 0)=false:=by
            simp only[j4,Bool.and_eq_false_iff,decide_eq_false_iff_not]
            first|(simp only[Int.toNat_natCast,Nat.mul_one]at hb9 h_t69;omega)|(simp only[Int.toNat_natCast,Nat.mul_one]at hb9;omega)
           refine aO fq fun _ K37=>gW ?_;refine aJ K37 (bQ (eU fq (fun _ _ h=>h) (by first|rfl|assumption) [.tmp 2] rfl ?_));refine gV ?_
           show SV.c (.bool false)=_
           rw[Bu,Cc (d:=[]) hkn (by rw[jZ,Cc (d:=0) hjn htb,Bool.and_false]),Bool.and_false]
          ·try simp only[dQ,reduceIte]at h_t69
           refine bK (dD (K31 _ _ _ ?_))
           have htg:j4 d.next.length ((d.next.getD k []).getD j 0)=true:=by simp only[j4,Bool.and_eq_true,decide_eq_true_eq];simp only[Int.toNat_natCast,Nat.mul_one]at hb9 h_t69;exact⟨by omega,by omega⟩
           refine bB fq fun _ K38=>?_
           iterate 3 refine gW ?_
           refine aJ K38 (ai [] id (j+1) ⟨⟨by omega,R8 (d:=0) hjn hj.2 htg⟩,by omega⟩ [0] ja ja ja ja)
        ·try simp only[dQ,reduceIte]at h_t46
         try simp only[Int.toNat_natCast,Nat.mul_one]at h_t46
         refine eY (bJ (bJ (eX (dD (K20 _ _ _ ?_)))))
         have hrow:jZ d.nc d.next.length (d.next.getD k [])=true:=by
          have h1:=hj.2
          rw[List.take_of_length_le (by omega)]at h1;rw[jZ,h1,decide_eq_true (by omega)];rfl
         refine bB fq fun _ K39=>?_
         iterate 3 refine gW ?_
         refine aJ K39 (ai [] id (k+1) ⟨⟨by omega,R8 (d:=[]) hkn hk.2 hrow⟩,by omega⟩ [0] ja ja ja ja)
     ·try simp only[dQ,reduceIte]at h_t26
      refine eY (bJ (bJ (eX (K14 _ _ _ (aO fq fun _ K41=>gW ?_)))));refine aJ K41 (bQ (eU fq (fun _ _ h=>h) (by first|rfl|assumption) [.tmp 2] rfl ?_));refine gV ?_
      show SV.c (.bool true)=_
      obtain rfl:k=d.next.length:=by omega
      have h1:=hk.2
      rw[List.take_length]at h1;rw[Bu,decide_eq_true hbase,hpart,h1]
      rfl

noncomputable def n3:Ctx:={ P:=Tryd.prog,ty:=ty,glob:=gl,fs:=[(66,.flat y3d)] }
theorem tu:n3.OK:=⟨dS,⟨⟨bX Tryd.func66 aN rfl,y3e⟩,trivial⟩,mixed⟩
@[simp] theorem z0H:n3.ty=ty:=rfl

def NK:aW:=fun vs K=>∃ d:Dfa,vs=[df d]/\d.wf/\K (.c (.bool (JI d)))
theorem PZ:jJ Tryd.prog gl 42 NK:=by
 refine kU (Γ:=n3) (N:=11) Tryd.func42 rfl rfl fun vs K h=>?_;obtain⟨d,rfl,hw,h⟩:=h;refine⟨_,h,rfl,by simp,fun w I=>?_⟩
 have hw':=hw
 obtain⟨hw1,hw2,hw3,hw4,hw5⟩:=hw';refine aO tu fun _ K2=>?_
 iterate 2 refine fU ?_
 refine aJ K2 (aO tu fun _ K4=>?_)
 iterate 4 refine fU ?_
 refine gm ?_;refine fO (fun hb4=>?_) (fun hb4=>?_)
 ·try simp only[dQ,reduceIte]at hb4
  refine Ch ?_;refine y3b ?_;refine⟨d,rfl,hw,oJ ?_⟩
  first|refine aL ?_|(intro cap6 hcap6;refine aL ?_)
  iterate 2 refine fU ?_
  refine aJ K4 (bQ (eU tu (fun _ _ h=>h) (by first|rfl|assumption) [.tmp 2] rfl ?_));refine gV ?_
  show SV.c (.bool _)=_
  rw[JI,decide_eq_true (by omega)]
  rfl
 ·try simp only[dQ,reduceIte]at hb4
  iterate 2 refine sN ?_
  iterate 2 refine fU ?_
  refine aJ K4 (bQ (eU tu (fun _ _ h=>h) (by first|rfl|assumption) [.tmp 2] rfl ?_));refine gV ?_
  show SV.c (.bool false)=_
  rw[JI,decide_eq_false (by omega),Bool.false_and]


end Go.Proofs.YtpdljmohhpbkpaaDoor

namespace Go.Proofs.YtpdljmohhpbkpaaDoor
open Go.Ab Go.RowKit

section
variable {a b:Prop}
theorem FY(h:a:=by first|exact gG|(simp[hc]<;>omega)|(refine⟨by omega,by omega,?_⟩;decide)|(simp[hc];omega)|(refine⟨by omega,by omega⟩)|exact gH):a:=h
theorem FZ(h:a:=by first|exact gG|(simp[hc]<;>omega)|(simp[hc];done)|(simp[hc];omega)|exact gH):a:=h
theorem F3(h:a:=by first|exact gG|(simp[PR]<;>omega)|(rw[PR];omega)|exact gH):a:=h
theorem jG(h:a:=by
    repeat' (first|exact pT|exact trivial|refine aI ?_ ?_|exact iM|refine low_cons' ?_ ?_|exact iN|fail)
    all_goals first|omega|(show(_:List UInt8)=_;refine hv _ ?_;simp only[Int.toNat_natCast,Nat.mul_one]at *;first|(rw[rD,if_pos (show l.getD k.1 0< 97\/100< l.getD k.1 0 from Or.inl hb2)];rfl)|(rw[rD,if_pos (show l.getD k.1 0< 97\/100< l.getD k.1 0 from Or.inr h_t29)];rfl)|(rw[rD,if_neg (fun h=>h.elim hb2 h_t29)];done))|(rw[PR];omega)|(show(0:Nat)< (au _ _ _ _).length;rw[dJ hcl];decide)|(simp[-List.reduceReplicate];done)|(simp[-List.reduceReplicate]<;>omega)|skip):a:=h
theorem Ht(kZ:b)(h:aK b->a:=by intro kZ;(repeat first|refine aI FY ?_|refine bW FY ?_|refine dC FY ?_|refine fT FY ?_|refine fA ?_);exact kZ.out):a:=h ⟨kZ⟩
theorem KA(kZ:b)(h:aK b->a:=by intro kZ;refine dX ?_;refine Ht ?_;refine aL ?_;exact kZ.out):a:=h ⟨kZ⟩
theorem Di(kZ:b)(h:aK b->a:=by intro kZ;refine pu ?_;refine Ht ?_;refine aL ?_;exact kZ.out):a:=h ⟨kZ⟩
theorem Hu(kZ:b)(h:aK b->a:=by intro kZ;(repeat first|refine aI FZ ?_|refine bW FZ ?_|refine dC FZ ?_|refine fT FZ ?_|refine fA ?_);exact kZ.out):a:=h ⟨kZ⟩
theorem LF(kZ:b)(h:aK b->a:=by intro kZ;refine sX ?_;refine Hu ?_;refine aL ?_;exact kZ.out):a:=h ⟨kZ⟩
theorem GB(kZ:b)(h:aK b->a:=by intro kZ;refine jl ?_;refine Hu ?_;refine aL ?_;exact kZ.out):a:=h ⟨kZ⟩
theorem wT(kZ:b)(h:aK b->a:=by intro kZ;(repeat first|refine aI F3 ?_|refine bW F3 ?_|refine dC F3 ?_|refine fT F3 ?_|refine fA ?_);exact kZ.out):a:=h ⟨kZ⟩
theorem N7(kZ:b)(h:aK b->a:=by intro kZ;refine sX ?_;refine wT ?_;refine aL ?_;exact kZ.out):a:=h ⟨kZ⟩
theorem Yi(kZ:b)(h:aK b->a:=by intro kZ;refine sX ?_;refine wT ?_;exact kZ.out):a:=h ⟨kZ⟩
end
open Go.Aut
attribute [local irreducible] eG z12 zl au gz cr
def jT(c:List UInt64)(b:Nat):List UInt64:=c.set (b / 64) (c.getD (b / 64) 0 ||| iK 1 (b%64))
@[simp] theorem z28(c:List UInt64)(b:Nat):(jT c b).length=c.length:=by simp[jT]
def WL:aW:=fun vs K=>∃ c:List UInt64,∃ b:Nat,vs=[.agg (.u64s c),.c (.int .i64 b)]/\(c.length=4/\b< 256)/\K (.agg (.u64s (jT c b)))
theorem zwi:jJ Tryd.prog gl 61 WL:=by
 refine kU (Γ:=g0) (N:=17) Tryd.func61 rfl rfl fun vs K h=>?_;obtain⟨c,b,rfl,⟨hc,hb⟩,h⟩:=h;refine⟨_,h,rfl,by simp,fun w I=>?_⟩;refine aO aF fun _ K2=>?_
 iterate 2 refine mE ?_
 refine aJ K2 (vR aF [(0,true),(1,true),(2,true),(3,true),(4,true),(5,true),(6,true),(7,true),(8,true),(9,true),(10,true),(11,false)] rfl aN aN fun _ K4=>?_)
 iterate 11 refine KA ?_
 refine Di ?_;refine iF K4 (aO aF fun _ K6=>LF ?_);refine GB ?_;refine aJ K6 (bQ (eU aF (fun _ _ h=>h) (by first|rfl|assumption) [.cell 4 53] rfl ?_));refine gV ?_;rw[jT,show 0+((b:Int) / 64).toNat*1=b / 64 by omega,show((b:Int)%64).toNat=b%64 by omega]
 rfl

def rD(b:UInt8):UInt8:=if b< 97\/100< b then 97+b%4 else b
def jP(l:List UInt8)(n:Nat):List UInt8:=(l.take n).map rD
@[simp] theorem PR(l:List UInt8)(n:Nat):(jP l n).length=min n l.length:=by simp[jP]
theorem Xy{l:List UInt8}{k:Nat}(h:k< l.length):jP l k++([]++[rD (l.getD k 0)])=jP l (k+1):=by
  rw[jP,jP,List.take_add_one,List.getD_eq_getElem?_getD,List.getElem?_eq_getElem h,List.nil_append,List.map_append];rfl
theorem zwj{l:List UInt8}{k n:Nat}(h:k<=n)(h2:k=n\/l.length<=k):jP l k=jP l n:=by
  rw[jP,jP]
  rcases h2 with rfl|h2
  · rfl
  · rw[List.take_of_length_le h2,List.take_of_length_le (by omega)]
def OU:aW:=fun vs K=>∃ l:List UInt8,∃ n:Nat,vs=[.c (.ds l.length (.u8s l)),.c (.int .i64 n)]/\(l.length<=9223372036854775807/\n<=1048576)/\K (.c (.ds (jP l n).length (.u8s (jP l n))))
theorem KI:jr Tryd.prog gl 6 OU:=by
 refine kJ (Γ:=g0) (N:=38) Tryd.func6 rfl rfl fun vs K h=>?_;obtain⟨l,n,rfl,⟨hl,hn⟩,h⟩:=h;refine⟨_,h,trivial,by simp,fun w I=>?_⟩;refine aO aF fun _ K2=>fU ?_;refine aJ K2 (aO aF fun _ K4=>?_)
 iterate 2 refine fU ?_
 refine aJ K4 (aH fun _ K5=>aO aF fun _ K7=>fU ?_);refine aJ K7 (bO (fM (α:=Nat×Nat) (fun k=>[(0,.c (.ds l.length (.u8s l))),(1,.c (.int .i64 n)),(5,.c (.slice 0 0 k.1 k.2)),(6,.c (.int .i64 k.1))]) (fun k=>[(0,.own 5 (.u8s (jP l k.1)) k.2)]) 1 (fun k=>(k.1<=l.length/\k.1<=n)/\k.1<=k.2) (fun k=>l.length - k.1) ?_ ?_))
 ·refine ai [] id (0,0) ⟨⟨Nat.zero_le _,Nat.zero_le _⟩,Nat.le_refl _⟩ [0] jG jG jG jG
 ·intro k hk
  have hkf:(jP l k.1).length=k.1:=by rw[PR];omega
  refine aH fun _ K8=>aO aF fun _ K10=>?_
  iterate 4 refine fU ?_
  refine gm ?_;refine fO (fun hb4=>?_) (fun hb4=>?_)
  ·try simp only[dQ,reduceIte]at hb4
   iterate 3 refine Ch ?_
   refine fU ?_;refine aJ K10 (bC (b:=_) rfl (fun h_t17=>?_) (fun h_t17=>?_))
   ·try simp only[dQ,reduceIte]at h_t17
    refine bK (K8 _ _ _ (aH fun _ K11=>bO ?_))
    have hkl:k.1< l.length:=by omega
    have hkn:k.1< n:=by omega
    refine aO aF fun _ K13=>?_
    iterate 5 refine fU ?_
    refine aJ K13 (aH fun _ K14=>aO aF fun _ K16=>?_)
    iterate 2 refine fU ?_
    refine gm ?_;refine fO (fun hb2=>?_) (fun hb2=>?_)
    ·try simp only[dQ,reduceIte]at hb2
     iterate 2 refine sN ?_
     refine fU ?_;refine aJ K16 (bC (b:=_) rfl (fun _=>?_) (fun h_t29=>?_))
     rotate_left 1
     ·exfalso;simp at h_t29
     refine bB aF fun _ K17=>?_
     iterate 4 refine fU ?_
     refine aJ K17 (K14 _ _ _ (bB aF fun _ K18=>?_))
     iterate 3 refine N7 ?_
     refine Yi ?_;intro cap3 hcap3;refine aL (N7 ?_);refine aJ K18 (dD (K11 _ _ _ (bB aF fun _ K19=>?_)))
     iterate 3 refine fU ?_
     refine aJ K19 ?_
     have hv:∀ v,v=rD (l.getD k.1 0)->jP l k.1++([]++[v])=jP l (k.1+1):=fun v hv=>by rw[hv];exact Xy hkl
     refine ai [] (fun _=>2) (k.1+1,cap3) ⟨⟨⟨by omega,by omega⟩,by omega⟩,by omega⟩ [2] jG jG jG jG
    ·try simp only[dQ,reduceIte]at hb2
     iterate 2 refine Ch ?_
     refine fU ?_;refine aJ K16 (bC (b:=_) rfl (fun h_t29=>?_) (fun h_t29=>?_))
     ·try simp only[dQ,reduceIte]at h_t29
      refine bB aF fun _ K20=>?_
      iterate 4 refine fU ?_
      refine aJ K20 (K14 _ _ _ (bB aF fun _ K21=>?_))
      iterate 3 refine N7 ?_
      refine Yi ?_;intro cap3 hcap3;refine aL (N7 ?_);refine aJ K21 (dD (K11 _ _ _ (bB aF fun _ K22=>?_)))
      iterate 3 refine fU ?_
      refine aJ K22 ?_
      have hv:∀ v,v=rD (l.getD k.1 0)->jP l k.1++([]++[v])=jP l (k.1+1):=fun v hv=>by rw[hv];exact Xy hkl
      refine ai [] (fun _=>2) (k.1+1,cap3) ⟨⟨⟨by omega,by omega⟩,by omega⟩,by omega⟩ [2] jG jG jG jG
     ·try simp only[dQ,reduceIte]at h_t29
      refine bK (K14 _ _ _ (bB aF fun _ K23=>?_))
      iterate 3 refine N7 ?_
      refine Yi ?_;intro cap3 hcap3;refine aL (N7 ?_);refine aJ K23 (dD (K11 _ _ _ (bB aF fun _ K24=>?_)))
      iterate 3 refine fU ?_
      refine aJ K24 ?_
      have hv:∀ v,v=rD (l.getD k.1 0)->jP l k.1++([]++[v])=jP l (k.1+1):=fun v hv=>by rw[hv];exact Xy hkl
      refine ai [] (fun _=>2) (k.1+1,cap3) ⟨⟨⟨by omega,by omega⟩,by omega⟩,by omega⟩ [2] jG jG jG jG
   ·try simp only[dQ,reduceIte]at h_t17
    refine eY (bJ (bJ (eX (K5 _ _ _ (aO aF fun _ K26=>?_)))))
    iterate 2 refine fU ?_
    refine aJ K26 (bQ (gT aF (fun _ _ h=>h) (by trivial) [0] [.tmp 4] rfl ?_))
    have hfin:jP l k.1=jP l n:=zwj hk.1.2 (by omega)
    rw[<-hfin,hkf]
    all_goals exact jG
  ·try simp only[dQ,reduceIte]at hb4
   iterate 3 refine sN ?_
   refine fU ?_;refine aJ K10 (bC (b:=_) rfl (fun h_t17=>?_) (fun _=>?_))
   ·exfalso;simp at h_t17
   refine eY (bJ (bJ (eX (K5 _ _ _ (aO aF fun _ K28=>?_)))))
   iterate 2 refine fU ?_
   refine aJ K28 (bQ (gT aF (fun _ _ h=>h) (by trivial) [0] [.tmp 4] rfl ?_))
   have hfin:jP l k.1=jP l n:=zwj hk.1.2 (by omega)
   rw[<-hfin,hkf]
   all_goals exact jG


end Go.Proofs.YtpdljmohhpbkpaaDoor

namespace Go.Proofs.YtpdljmohhpbkpaaDoor
open Go.Ab Go.RowKit

section
variable {a b:Prop}
theorem F4(h:a:=by first|exact gG|(simp<;>omega)|(refine⟨by omega,by omega,by omega⟩)|exact gH):a:=h
theorem F5(h:a:=by first|exact gG|(simp<;>omega)|(simp only[z66,hln];omega)|(simp only[z66,z28,hcl];done)|(simp only[z66,z28,hcl,hln];omega)|exact gH):a:=h
theorem fH(h:a:=by
    repeat' (first|exact pT|exact trivial|refine aI ?_ ?_|exact iM|refine low_cons' ?_ ?_|exact iN|fail)
    all_goals first|omega|(show(_:List UInt64)=_;exact zr0 n b (by omega) rfl)|(show(_:Int)=_;rw[mf];split<;>omega)|(show(_:List UInt64)=_;rw[fJ];rfl)|(rw[CJ];omega)|(show(0:Nat)< (au _ _ _ _).length;rw[dJ hcl];decide)|(simp[-List.reduceReplicate];done)|(simp[-List.reduceReplicate]<;>omega)|skip):a:=h
theorem OE(kZ:b)(h:aK b->a:=by intro kZ;(repeat first|refine aI F4 ?_|refine bW F4 ?_|refine dC F4 ?_|refine fT F4 ?_|refine fA ?_);exact kZ.out):a:=h ⟨kZ⟩
theorem LG(kZ:b)(h:aK b->a:=by intro kZ;refine sX ?_;refine OE ?_;refine aL ?_;exact kZ.out):a:=h ⟨kZ⟩
theorem pm(kZ:b)(h:aK b->a:=by intro kZ;(repeat first|refine aI F5 ?_|refine bW F5 ?_|refine dC F5 ?_|refine fT F5 ?_|refine fA ?_);exact kZ.out):a:=h ⟨kZ⟩
theorem H5(kZ:b)(h:aK b->a:=by intro kZ;refine sX ?_;refine pm ?_;refine aL ?_;exact kZ.out):a:=h ⟨kZ⟩
theorem N8(kZ:b)(h:aK b->a:=by intro kZ;refine sX ?_;refine pm ?_;exact kZ.out):a:=h ⟨kZ⟩
theorem Yj(kZ:b)(h:aK b->a:=by intro kZ;refine jl ?_;refine pm ?_;exact kZ.out):a:=h ⟨kZ⟩
end
open Go.Aut
attribute [local irreducible] eG z12 zl au gz cr
def mf(n b:Nat):Nat:=if 97<=b/\b< 97+n then b - 97 else n
theorem Ml(n b:Nat):mf n b<=n:=by unfold mf;split<;>omega
def fJ(n:Nat):Nat->List UInt64
  |0=>(List.replicate (n+1) (List.replicate 4 0)).flatten
  |b+1=>(fJ n b).take (mf n b*4)++jT (bE (fJ n b) (mf n b)) b++(fJ n b).drop (mf n b*4+4)
theorem CJ(n:Nat):∀ b,(fJ n b).length=(n+1)*4
  |0=>by simp[fJ]
  | b+1=>by
    have h:=CJ n b
    have hc:=Ml n b
    have hl:=z26 h (i:=mf n b) (by omega)
    rw[fJ,List.length_append,List.length_append,List.length_take,List.length_drop,z28,hl,h]
    have:mf n b*4+4<=(n+1)*4:=by omega
    omega
theorem zr0(n b:Nat){o:Nat}(ho:o=mf n b*4){c:List UInt64}(hc:c=bE (fJ n b) (mf n b)):(fJ n b).take o++jT c b++(fJ n b).drop (o+(jT c b).length)=fJ n (b+1):=by
  subst ho hc;rw[fJ,z28,z26 (CJ n b) (Nat.lt_succ_of_le (Ml n b))]
noncomputable def Ua:Ctx:={ P:=Tryd.prog,ty:=ty,glob:=gl,fs:=[(61,.flat WL)] }
theorem z82:Ua.OK:=⟨dS,⟨⟨bX Tryd.func61 aN rfl,zwi⟩,trivial⟩,mixed⟩
@[simp] theorem Ub:Ua.ty=ty:=rfl

def zwk:aW:=fun vs K=>∃ n:Nat,vs=[.c (.int .i64 n)]/\n<=159/\K (.c (.ds (n+1) (.u64s (fJ n 256))))
theorem zya:jr Tryd.prog gl 26 zwk:=by
 refine kJ (Γ:=Ua) (N:=34) Tryd.func26 rfl rfl fun vs K h=>?_;obtain⟨n,rfl,hn,h⟩:=h;refine⟨_,h,trivial,by simp,fun w I=>?_⟩;refine aO z82 fun _ K2=>fU ?_;refine aJ K2 (aO z82 fun _ K4=>?_)
 iterate 4 refine LG ?_
 refine aJ K4 (aH fun _ K5=>aO z82 fun _ K7=>fU ?_);refine aJ K7 (bO (fM (α:=Nat) (fun b=>[(0,.c (.int .i64 n)),(3,.c (.slice 0 0 (n+1) (n+1))),(4,.c (.int .i64 (b:Nat)))]) (fun b=>[(0,.own 53 (.u64s (fJ n b)) ((n+1)*4))]) 1 (fun b=>b<=256) (fun b=>256 - b) ?_ ?_))
 ·refine ai [] id 0 (Nat.zero_le _) [0] fH fH fH fH
 ·intro b hb;refine aH fun _ K8=>aO z82 fun _ K10=>?_
  iterate 2 refine fU ?_
  refine aJ K10 (bC (b:=_) rfl (fun h_t10=>?_) (fun h_t10=>?_))
  ·try simp only[dQ,reduceIte]at h_t10
   refine bK (K8 _ _ _ (aH fun _ K11=>bO ?_))
   have hb256:b< 256:=by omega
   have hln:=CJ n b
   have hcn:=Ml n b
   have hcl:=z26 hln (Nat.lt_succ_of_le hcn)
   refine aO z82 fun _ K13=>?_
   iterate 2 refine fU ?_
   refine aJ K13 (aH fun _ K14=>aO z82 fun _ K16=>?_)
   iterate 2 refine fU ?_
   refine gm ?_;refine fO (fun hb2=>?_) (fun hb2=>?_)
   ·try simp only[dQ,reduceIte]at hb2
    iterate 4 refine Ch ?_
    refine fU ?_;refine aJ K16 (bC (b:=_) rfl (fun h_t21=>?_) (fun h_t21=>?_))
    ·try simp only[dQ,reduceIte]at h_t21
     refine bB z82 fun _ K17=>?_
     iterate 3 refine fU ?_
     refine aJ K17 (K14 _ _ _ (fQ [] id [(0,.c (.int .i64 n)),(3,.c (.slice 0 0 (n+1) (n+1))),(4,.c (.int .i64 (b:Nat))),(5,.c (.int .i64 (mf n b:Nat)))] [(0,.own 53 (.u64s (fJ n b)) ((n+1)*4))] 1 [0] fH fH fH fH (bB z82 fun _ K18=>?_)))
     iterate 5 refine H5 ?_
     refine N8 ?_;refine aU (.agg (.u64s (bE (fJ n b) (mf n b)))) (bq (congrArg (fun i=>SV.agg ((aB.u64s (fJ n b)).sub i 4)) (by omega))) (H5 ?_);refine N8 ?_;refine⟨bE (fJ n b) (mf n b),b,rfl,⟨hcl,hb256⟩,pm ?_⟩
     first|refine aL ?_|(intro cap7 hcap7;refine aL ?_)
     refine H5 ?_;refine Yj ?_;refine PQ (by rw[z28,hcl,hln];omega) (aL (aJ K18 (dD (K11 _ _ _ (bB z82 fun _ K19=>?_)))))
     iterate 3 refine fU ?_
     refine aJ K19 (ai [] id (b+1) ⟨by omega,by omega⟩ [0] fH fH fH fH)
    ·try simp only[dQ,reduceIte]at h_t21
     refine bK (K14 _ _ _ (fQ [] id [(0,.c (.int .i64 n)),(3,.c (.slice 0 0 (n+1) (n+1))),(4,.c (.int .i64 (b:Nat))),(5,.c (.int .i64 (mf n b:Nat)))] [(0,.own 53 (.u64s (fJ n b)) ((n+1)*4))] 1 [0] fH fH fH fH (bB z82 fun _ K20=>?_)))
     iterate 5 refine H5 ?_
     refine N8 ?_;refine aU (.agg (.u64s (bE (fJ n b) (mf n b)))) (bq (congrArg (fun i=>SV.agg ((aB.u64s (fJ n b)).sub i 4)) (by omega))) (H5 ?_);refine N8 ?_;refine⟨bE (fJ n b) (mf n b),b,rfl,⟨hcl,hb256⟩,pm ?_⟩
     first|refine aL ?_|(intro cap7 hcap7;refine aL ?_)
     refine H5 ?_;refine Yj ?_;refine PQ (by rw[z28,hcl,hln];omega) (aL (aJ K20 (dD (K11 _ _ _ (bB z82 fun _ K21=>?_)))))
     iterate 3 refine fU ?_
     refine aJ K21 (ai [] id (b+1) ⟨by omega,by omega⟩ [0] fH fH fH fH)
   ·try simp only[dQ,reduceIte]at hb2
    iterate 4 refine sN ?_
    refine fU ?_;refine aJ K16 (bC (b:=_) rfl (fun h_t21=>?_) (fun _=>?_))
    ·exfalso;simp at h_t21
    refine bK (K14 _ _ _ (fQ [] id [(0,.c (.int .i64 n)),(3,.c (.slice 0 0 (n+1) (n+1))),(4,.c (.int .i64 (b:Nat))),(5,.c (.int .i64 (mf n b:Nat)))] [(0,.own 53 (.u64s (fJ n b)) ((n+1)*4))] 1 [0] fH fH fH fH (bB z82 fun _ K22=>?_)))
    iterate 5 refine H5 ?_
    refine N8 ?_;refine aU (.agg (.u64s (bE (fJ n b) (mf n b)))) (bq (congrArg (fun i=>SV.agg ((aB.u64s (fJ n b)).sub i 4)) (by omega))) (H5 ?_);refine N8 ?_;refine⟨bE (fJ n b) (mf n b),b,rfl,⟨hcl,hb256⟩,pm ?_⟩
    first|refine aL ?_|(intro cap7 hcap7;refine aL ?_)
    refine H5 ?_;refine Yj ?_;refine PQ (by rw[z28,hcl,hln];omega) (aL (aJ K22 (dD (K11 _ _ _ (bB z82 fun _ K23=>?_)))))
    iterate 3 refine fU ?_
    refine aJ K23 (ai [] id (b+1) ⟨by omega,by omega⟩ [0] fH fH fH fH)
  ·try simp only[dQ,reduceIte]at h_t10
   refine eY (bJ (bJ (eX (K5 _ _ _ (aO z82 fun _ K25=>?_)))))
   iterate 2 refine fU ?_
   refine aJ K25 (bQ (gT z82 (fun _ _ h=>h) (by trivial) [0] [.tmp 2] rfl ?_))
   obtain rfl:b=256:=by omega
   repeat' (first|exact pT|exact trivial|refine aI ?_ ?_|exact iM|refine low_cons' ?_ ?_|exact iN|fail)
   all_goals first|omega|(show(_:List UInt64)=_;exact zr0 n b (by omega) rfl)|(show(_:Int)=_;rw[mf];split<;>omega)|(show(_:List UInt64)=_;rw[fJ];rfl)|(rw[CJ];omega)|(show(0:Nat)< (au _ _ _ _).length;rw[dJ hcl];decide)|(simp[-List.reduceReplicate];done)|(simp[-List.reduceReplicate]<;>omega)|skip
   all_goals first|(show 0+(n+1)*4<=(fJ n 256).length;rw[CJ];omega)|(rw[if_pos ⟨rfl,CJ n 256⟩];done)|skip


end Go.Proofs.YtpdljmohhpbkpaaDoor

namespace Go.Proofs.YtpdljmohhpbkpaaDoor
open Go.Ab Go.RowKit

section
variable {a b:Prop}
theorem F6(h:a:=by first|exact gG|(simp<;>omega)|exact⟨by omega,by omega,trivial,trivial⟩|(show(s.1+1)*24<=140737488355328/\s.1+1<=9223372036854775807/\_;exact⟨by omega,by omega,trivial,trivial⟩)|(refine⟨by omega,by omega⟩)|(refine⟨by omega,by omega,?_⟩;decide)|(simp only[nH,z75];omega)|(simp only[z17,z83];omega)|(simp only[jI,Wq];omega)|exact gH):a:=h
theorem Va(h:a:=by show(o6 _ _ _ _ _).length=_*1;rw[Wq,Nat.mul_one]):a:=h
theorem Vb(h:a:=by show(aS _).length=_*1;rw[nH,z75,Nat.mul_one]):a:=h
theorem Vd(h:a:=by show(ng _ _).length=_*1;rw[z83,Nat.mul_one]):a:=h
theorem gD(h:a:=by
    repeat' (first|exact pT|exact trivial|refine aI ?_ ?_|exact iM|refine low_cons' ?_ ?_|exact iN|fail)
    all_goals first|omega|(show(_:List Int)=_;refine y3h _ _ _ _ _ ?_;first|(rw[BS,if_pos (by omega),Int.toNat_natCast,Nat.mul_one];exact(Int.natCast_emod _ _).symm)|(rw[BS,if_neg (by omega)]))|(show(_:List Bool)=_;exact y3i _ _ (by rw[WM];rfl))|(show bR _ _ _;rw[zyb];exact nI _)|exact nI _|exact NE _|(show(_:Int)=_;push_cast;rw[Int.add_mul];omega)|(rw[if_pos ⟨rfl,Va⟩,hj];done)|(show _=(l5 _ _ _ _).length;rw[z75];done)|(show _=(ng _ _).length;rw[z83];done)|(rw[if_pos ⟨rfl,Vb⟩];rfl)|(rw[if_pos ⟨rfl,Vd⟩];rfl)|(rw[z75];done)|(rw[z83];done)|(show(0:Nat)< (au _ _ _ _).length;rw[dJ hcl];decide)|(simp[-List.reduceReplicate];done)|(simp[-List.reduceReplicate]<;>omega)|skip):a:=h
theorem nO(kZ:b)(h:aK b->a:=by intro kZ;(repeat first|refine aI F6 ?_|refine bW F6 ?_|refine dC F6 ?_|refine fT F6 ?_|refine fA ?_);exact kZ.out):a:=h ⟨kZ⟩
theorem z49(kZ:b)(h:aK b->a:=by intro kZ;refine sX ?_;refine nO ?_;refine aL ?_;exact kZ.out):a:=h ⟨kZ⟩
theorem Zb(kZ:b)(h:aK b->a:=by intro kZ;refine jl ?_;refine nO ?_;refine aL ?_;exact kZ.out):a:=h ⟨kZ⟩
theorem xq(kZ:b)(h:aK b->a:=by intro kZ;refine dX ?_;refine nO ?_;refine aL ?_;exact kZ.out):a:=h ⟨kZ⟩
theorem KR(kZ:b)(h:aK b->a:=by intro kZ;refine gX ?_;refine nO ?_;refine aL ?_;exact kZ.out):a:=h ⟨kZ⟩
theorem Dj(kZ:b)(h:aK b->a:=by intro kZ;refine pu ?_;refine nO ?_;refine aL ?_;exact kZ.out):a:=h ⟨kZ⟩
theorem N9(kZ:b)(h:aK b->a:=by intro kZ;refine sX ?_;refine nO ?_;exact kZ.out):a:=h ⟨kZ⟩
theorem Dm(kZ:b)(h:aK b->a:=by intro kZ;refine gX ?_;refine nO ?_;exact kZ.out):a:=h ⟨kZ⟩
end
open Go.Aut
attribute [local irreducible] eG z12 zl au gz cr fJ
abbrev Av(a:UInt8)(l:List UInt8)(m:UInt8):SV:=.agg (.cells [.u8 a,.ds l.length (.u8s l),.u8 m])
def fe(a:UInt8):Nat:=1+a.toNat%5
def z60(a:UInt8):Nat:=1+a.toNat / 5%3
def gY(a:UInt8):Nat:=z60 a+1
def BS(l:List UInt8)(n i:Nat):Int:=if i< l.length then((l.getD i 0).toNat%n:Nat)else 0
def o6(l:List UInt8)(n nc s j:Nat):List Int:=(List.range j).map fun i=>BS l n (s*nc+i)
def l5(l:List UInt8)(n nc s:Nat):List (List Int):=(List.range s).map fun i=>o6 l n nc i nc
def WM(m:UInt8)(i:Nat):Bool:=decide (GR m i%2=1)
def ng(m:UInt8)(s:Nat):List Bool:=(List.range s).map (WM m)
@[simp] theorem Wq(l:List UInt8)(n nc s j:Nat):(o6 l n nc s j).length=j:=by simp[o6]
@[simp] theorem z75(l:List UInt8)(n nc s:Nat):(l5 l n nc s).length=s:=by simp[l5]
@[simp] theorem z83(m:UInt8)(s:Nat):(ng m s).length=s:=by simp[ng]
theorem y3h(l:List UInt8)(n nc s j:Nat){v:Int}(hv:v=BS l n (s*nc+j)):o6 l n nc s j++([]++[v])=o6 l n nc s (j+1):=by
  subst hv;rw[o6,o6,List.range_succ,List.map_append];rfl
theorem zyb(l:List UInt8)(n nc s:Nat):aS (l5 l n nc s)++([]++[.ds nc (.ints .i64 (o6 l n nc s nc))])=aS (l5 l n nc (s+1)):=by
  rw[l5,l5,List.range_succ,List.map_append,List.nil_append,aS,aS,List.map_append]
  simp
theorem y3i(m:UInt8)(s:Nat){v:Bool}(hv:v=WM m s):ng m s++([]++[v])=ng m (s+1):=by
  subst hv;rw[ng,ng,List.range_succ,List.map_append];rfl
def oV(a:UInt8)(l:List UInt8)(m:UInt8):Dfa:={ cls:=fJ (z60 a) 256,nc:=gY a,next:=l5 l (fe a) (gY a) (fe a),acc:=ng m (fe a) }
noncomputable def VK:Ctx:={ P:=Tryd.prog,ty:=ty,glob:=gl,fs:=[(26,.data zwk)] }
theorem z51:VK.OK:=⟨dS,⟨⟨bX Tryd.func26 aN rfl,zya⟩,trivial⟩,mixed⟩
@[simp] theorem VL:VK.ty=ty:=rfl

def IW:aW:=fun vs K=>∃ a:UInt8,∃ l:List UInt8,∃ m:UInt8,vs=[Av a l m]/\l.length<=9223372036854775807/\K (df (oV a l m))
theorem EO:jr Tryd.prog gl 5 IW:=by
 refine kJ (Γ:=VK) (N:=73) Tryd.func5 rfl rfl fun vs K h=>?_;obtain⟨a,l,m,rfl,hl,h⟩:=h;refine⟨_,h,NV _,by simp,fun w I=>?_⟩;refine aO z51 fun _ K2=>?_
 iterate 2 refine z49 ?_
 refine aJ K2 ?_
 have haM:=a.toNat_lt
 have hC:gY a=z60 a+1:=rfl
 have hLt:z60 a<=3:=by unfold z60;omega
 have hN:1<=fe a/\fe a<=5:=by unfold fe;omega
 refine aO z51 fun _ K4=>?_
 iterate 4 refine z49 ?_
 refine N9 ?_;refine aU (.c (.int .i64 (((fe a:Nat):Int)))) (az (by rw[fe];push_cast;rfl)) (z49 ?_);refine aJ K4 (aO z51 fun _ K6=>?_)
 iterate 5 refine z49 ?_
 refine N9 ?_;refine aU (.c (.int .i64 (((z60 a:Nat):Int)))) (az (by rw[z60];push_cast;rfl)) (N9 ?_);refine⟨z60 a,rfl,by omega,?_⟩;refine nO ?_
 first|refine aL ?_|(intro cap6 hcap6;refine aL ?_)
 iterate 2 refine z49 ?_
 refine Zb ?_;refine aJ K6 (aO z51 fun _ K8=>z49 ?_);refine aJ K8 (aH fun _ K9=>aO z51 fun _ K11=>z49 ?_);refine aJ K11 (bO (z30 2 1 44 (.cells []) rfl rfl rfl (fun _ h=>by cases h) (z30 2 2 4 (.bools []) rfl rfl rfl trivial (fM (α:=Nat×Nat×Nat) (fun s=>[(1,.c (.dp (.cells [.u8 a,.ds l.length (.u8s l),.u8 m]) 0)),(2,.c (.ptr 0 0)),(3,.c (.int .i64 (fe a:Nat))),(4,.c (.ptr 1 0)),(5,.c (.int .i64 (s.1*gY a:Nat))),(6,.c (.int .i64 (s.1:Nat)))]) (fun s=>[(0,.own 30 (.cells [.nils,.nils,.nils]) 3),(1,.own 30 (.cells [.ds (gY a) (.u64s (fJ (z60 a) 256)),.slice 2 0 s.1 s.2.1,.slice 3 0 s.1 s.2.2]) 3),(2,.own 44 (.cells (aS (l5 l (fe a) (gY a) s.1))) s.2.1),(3,.own 4 (.bools (ng m s.1)) s.2.2)]) 4 (fun s=>s.1<=fe a/\s.1<=s.2.1/\s.1<=s.2.2) (fun s=>fe a - s.1) ?_ ?_))))
 ·refine ai [0] (fun i=>i+1) (0,0,0) ⟨Nat.zero_le _,Nat.le_refl _,Nat.le_refl _⟩ [1,2,3,4] gD gD gD gD
 ·intro s hs
  have hs20:s.1*gY a<=5*4:=Nat.mul_le_mul (by omega) (by omega)
  refine aH fun _ K12=>aO z51 fun _ K14=>?_
  iterate 3 refine z49 ?_
  refine aJ K14 (bC (b:=_) rfl (fun h_t25=>?_) (fun h_t25=>?_))
  ·try simp only[dQ,reduceIte]at h_t25
   refine bK (K12 _ _ _ (aH fun _ K15=>bO (aO z51 fun _ K17=>?_)))
   iterate 2 refine z49 ?_
   refine aJ K17 (aH fun _ K18=>aO z51 fun _ K20=>z49 ?_);refine aJ K20 (bO (fM (α:=Nat×Nat) (fun k=>[(1,.c (.dp (.cells [.u8 a,.ds l.length (.u8s l),.u8 m]) 0)),(2,.c (.ptr 0 0)),(3,.c (.int .i64 (fe a:Nat))),(4,.c (.ptr 1 0)),(5,.c (.int .i64 (s.1*gY a+k.1:Nat))),(6,.c (.int .i64 (s.1:Nat))),(7,.c (.slice 4 0 k.1 k.2)),(8,.c (.int .i64 (k.1:Nat)))]) (fun k=>[(0,.own 30 (.cells [.nils,.nils,.nils]) 3),(1,.own 30 (.cells [.ds (gY a) (.u64s (fJ (z60 a) 256)),.slice 2 0 s.1 s.2.1,.slice 3 0 s.1 s.2.2]) 3),(2,.own 44 (.cells (aS (l5 l (fe a) (gY a) s.1))) s.2.1),(3,.own 4 (.bools (ng m s.1)) s.2.2),(4,.own 3 (.ints .i64 (o6 l (fe a) (gY a) s.1 k.1)) k.2)]) 5 (fun k=>k.1<=gY a/\k.1<=k.2) (fun k=>gY a - k.1) ?_ ?_))
   ·refine ai [] id (0,0) ⟨Nat.zero_le _,Nat.le_refl _⟩ [0,1,2,3,4] gD gD gD gD
   ·intro k hk;refine aH fun _ K21=>aO z51 fun _ K23=>?_
    iterate 5 refine z49 ?_
    refine aJ K23 (bC (b:=_) rfl (fun h_t33=>?_) (fun h_t33=>?_))
    ·try simp only[dQ,reduceIte]at h_t33
     refine bK (K21 _ _ _ (aH fun _ K24=>bO (aO z51 fun _ K26=>z49 ?_)));refine aJ K26 (aH fun _ K27=>aO z51 fun _ K29=>?_)
     iterate 5 refine z49 ?_
     refine aJ K29 (bC (b:=_) rfl (fun h_t40=>?_) (fun h_t40=>?_))
     ·try simp only[dQ,reduceIte]at h_t40
      have hix:s.1*gY a+k.1< l.length:=by omega
      refine bB z51 fun _ K30=>?_
      iterate 9 refine z49 ?_
      refine aJ K30 (K27 _ _ _ (aO z51 fun _ K32=>?_))
      iterate 3 refine z49 ?_
      refine aJ K32 (bB z51 fun _ K33=>?_)
      iterate 3 refine z49 ?_
      refine N9 ?_;intro cap3 hcap3;refine aL (z49 ?_);refine aJ K33 (dD (K24 _ _ _ (bB z51 fun _ K34=>?_)))
      iterate 3 refine z49 ?_
      refine aJ K34 (ai [] (fun i=>if i=4 then 6 else i) (k.1+1,cap3) ⟨⟨by omega,by omega⟩,by omega⟩ [0,1,2,3,6] gD gD gD gD)
     ·try simp only[dQ,reduceIte]at h_t40
      refine bK (K27 _ _ _ (aO z51 fun _ K36=>?_))
      iterate 3 refine z49 ?_
      refine aJ K36 (bB z51 fun _ K37=>?_)
      iterate 3 refine z49 ?_
      refine N9 ?_;intro cap3 hcap3;refine aL (z49 ?_);refine aJ K37 (dD (K24 _ _ _ (bB z51 fun _ K38=>?_)))
      iterate 3 refine z49 ?_
      refine aJ K38 (ai [] (fun i=>if i=4 then 6 else i) (k.1+1,cap3) ⟨⟨by omega,by omega⟩,by omega⟩ [0,1,2,3,6] gD gD gD gD)
    ·try simp only[dQ,reduceIte]at h_t33
     refine eY (bJ (bJ (eX (K18 _ _ _ ?_))))
     obtain hj:k.1=gY a:=by omega
     refine fQ [4] id [(1,.c (.dp (.cells [.u8 a,.ds l.length (.u8s l),.u8 m]) 0)),(2,.c (.ptr 0 0)),(3,.c (.int .i64 (fe a:Nat))),(4,.c (.ptr 1 0)),(5,.c (.int .i64 ((s.1+1)*gY a:Nat))),(6,.c (.int .i64 (s.1:Nat))),(7,.c (.ds (gY a) (.ints .i64 (o6 l (fe a) (gY a) s.1 (gY a)))))] [(0,.own 30 (.cells [.nils,.nils,.nils]) 3),(1,.own 30 (.cells [.ds (gY a) (.u64s (fJ (z60 a) 256)),.slice 2 0 s.1 s.2.1,.slice 3 0 s.1 s.2.2]) 3),(2,.own 44 (.cells (aS (l5 l (fe a) (gY a) s.1))) s.2.1),(3,.own 4 (.bools (ng m s.1)) s.2.2)] 4 [0,1,2,3] gD gD gD gD (aO z51 fun _ K40=>?_)
     iterate 4 refine z49 ?_
     refine N9 ?_;intro cap4 hcap4;refine aL (z49 ?_);refine Zb ?_;refine aJ K40 (ry z51 [(0,true),(1,true),(2,true),(3,true),(4,true),(5,true),(6,true),(7,true),(8,false),(9,false),(10,true),(11,false)] rfl aN aN fun _ K41=>?_)
     iterate 8 refine xq ?_
     refine KR ?_;refine Dm ?_;intro cap9 hcap9;refine aL (xq ?_);refine Dj ?_;refine iF K41 (dD (K15 _ _ _ (bB z51 fun _ K42=>?_)))
     iterate 3 refine z49 ?_
     refine aJ K42 (ai [] (fun i=>if i=2 then 5 else if i=3 then 7 else i) (s.1+1,cap4,cap9) ⟨⟨by omega,by omega,by omega⟩,by omega⟩ [0,1,5,7] gD gD gD gD)
  ·try simp only[dQ,reduceIte]at h_t25
   refine eY (bJ (bJ (eX (K9 _ _ _ (aO z51 fun _ K44=>z49 ?_)))));refine Zb ?_;refine aJ K44 ?_
   obtain hsn:s.1=fe a:=by omega
   rw[hsn];refine bQ (gT z51 (fun _ _ h=>h) (NV _) [2,3] [.cell 2 30] rfl ?_)
   all_goals exact gD


end Go.Proofs.YtpdljmohhpbkpaaDoor

namespace Go.Proofs.YtpdljmohhpbkpaaDoor
open Go.Ab Go.RowKit

open Go.Aut
attribute [local irreducible] eG z12 zl au gz cr
def plc(x n:Int):Int:=if x=0 then n else if x=n then 0 else x
def yS(f:Nat->Nat->Bool):Nat->List Bool
  |0=>[true]
  |k+1=>yS f k++[(List.range (k+1)).any fun j=>(yS f k).getD j false&&f j (k+1)]
def gd(f:Nat->Nat->Bool)(k:Nat):Bool:=(yS f k).getD k false
def OL(f:Nat->Nat->Bool)(k j:Nat):Bool:=(List.range j).any fun i=>gd f i&&f i k
def Fg(f:Nat->Nat->Bool)(n k j:Nat):List Bool:=(List.range (n+1)).map fun i=>if i< k then gd f i else if i=k then OL f k j else false
@[simp] theorem I9(f:Nat->Nat->Bool)(n k j:Nat):(Fg f n k j).length=n+1:=by simp[Fg]
theorem Od(f:Nat->Nat->Bool){n k j i:Nat}(h:i<=n):(Fg f n k j).getD i false=if i< k then gd f i else if i=k then OL f k j else false:=by
  rw[Fg,List.getD_eq_getElem?_getD,List.getElem?_map,List.getElem?_range (by omega)];rfl
end Go.Proofs.YtpdljmohhpbkpaaDoor

namespace Go.Proofs.YtpdljmohhpbkpaaDoor
open Go.Ab Go.RowKit

open Go.Aut
theorem Ws{g:ah->Nat->ah}{bytes:List Nat}{s0:ah}{Inv:ah->Prop}(L:List ah)(hL:∀ s,Inv s->s∈L)(h0:Inv s0)(hg:∀ s b,Inv s->b< 256->Inv (g s b))(hb:∀ b∈bytes,b< 256)(hp:0< bytes.length){m:Nat}(hm:L.length<=m):¬ Big (aC g bytes) bytes.length s0 m:=by
  rintro ⟨i,k,hj,hk,hl⟩
  have hz:∀ q,q< i*bytes.length+k->q / bytes.length< (aR (aC g bytes) bytes.length s0 q).length:=fun q hq=>by
    have h1:q / bytes.length<=i:=by
      rw[<-Nat.lt_succ_iff,Nat.div_lt_iff_lt_mul hp,Nat.succ_mul];omega
    have h2:=hj _ h1
    have h3:=pR (f:=aC g bytes) (nc:=bytes.length) (b0:=s0) (p:=q / bytes.length*bytes.length) (q:=q) (Nat.div_mul_le_self _ _)
    omega
  have h4:=QD h0 hg hb hp hz
  have h5:=List.Nodup.length_le_of_subset (Lh (f:=aC g bytes) (nc:=bytes.length) (b0:=s0) (i*bytes.length+k)) fun s hs=>hL s (h4 s hs)
  omega
theorem GQ{j n:Nat}(h:j< n)(hn:n<=63):(iK 1 j).toNat< 2 ^ n:=by
  unfold iK
  rw [if_pos (by omega), UInt64.toNat_shiftLeft, UInt64.toNat_ofNat_of_lt' (by show j< 2 ^ 64;have:(64:Nat)< 2 ^ 64:=by decide
                                                                               omega)]
  rw[Nat.mod_eq_of_lt (show j< 64 by omega)]
  show(1 <<< j)%2 ^ 64< 2 ^ n
  rw[Nat.shiftLeft_eq,Nat.one_mul]
  have h1:2 ^ j< 2 ^ n:=Nat.pow_lt_pow_right (by decide) h
  exact Nat.lt_of_le_of_lt (Nat.mod_le _ _) h1
theorem zr1{t:Tab}(ht:t.ok){n:Nat}(h:t.next.length<=n)(hn:n<=63)(x:UInt64){b:Nat}(hb:b< 256):∀ k,k<=t.next.length->(qC t x b k).toNat< 2 ^ n
  |0,_=>Nat.two_pow_pos n
  | k +1,hk=>by
    have ih:=zr1 ht h hn x hb k (by omega)
    rw[NI]
    split
    · rw[UInt64.toNat_or]
      exact Nat.or_lt_two_pow ih (GQ (Nat.lt_of_lt_of_le (bz ht (by omega) (av ht hb).1).1 h) hn)
    · exact ih
theorem XY{t:Tab}(ht:t.ok){n:Nat}(h:t.next.length<=n)(hn:n<=63)(x:UInt64){b:Nat}(hb:b< 256):(iO t x b).toNat< 2 ^ n:=zr1 ht h hn x hb _ (Nat.le_refl _)
theorem zr2{x:UInt64}{n:Nat}(h0:0< n)(h:x.toNat< 2 ^ n):(x ||| 1).toNat< 2 ^ n:=by
  rw[UInt64.toNat_or];exact Nat.or_lt_two_pow h (Nat.one_lt_two_pow (by omega))
def OZ(m n:Nat)(s:ah):Prop:=s.1< m/\s.2.1=0/\s.2.2.toNat< 2 ^ n
def rH(m n:Nat):List ah:=(List.range m).flatMap fun a=>(List.range (2 ^ n)).map fun u=>(a,0,UInt64.ofNat u)
theorem zr3{m n:Nat}{s:ah}(h:OZ m n s):s∈rH m n:=by
  obtain⟨a,b,c⟩:=s;obtain⟨h1,h2,h3⟩:=h;refine List.mem_flatMap.2 ⟨a,List.mem_range.2 h1,List.mem_map.2 ⟨c.toNat,List.mem_range.2 h3,?_⟩⟩
  show(a,0,UInt64.ofNat c.toNat)=(a,b,c)
  rw[show b=0 from h2,UInt64.ofNat_toNat]
theorem zh2(m n:Nat):(rH m n).length=m*2 ^ n:=by
  rw[rH,List.length_flatMap]
  simp[List.map_const',List.sum_replicate_nat]
theorem zm5{x:Tab}{m n:Nat}(h0:0< n){s:ah}(h:OZ m n s):OZ m n (lS x s):=by
  unfold lS
  split
  · exact⟨h.1,h.2.1,zr2 h0 h.2.2⟩
  · exact h
theorem y3j{x y:Tab}(hx:x.fit)(hy:y.ok){n:Nat}(h0:0< n)(hn:n<=63)(h:y.next.length<=n){q:Nat}(hq:x.next.length*2 ^ n<=q):¬ Big (aC (aV x y) (aA (cN x) (cN y))) (aA (cN x) (cN y)).length (aX x) q:=by
  have hj:=gF x y
  refine Ws (Inv:=OZ x.next.length n) (rH x.next.length n) (fun s=>zr3) (zm5 (s:=(0,0,0)) h0 ⟨hx.1.npos,rfl,(show(0:UInt64).toNat< 2 ^ n from Nat.two_pow_pos n)⟩) (fun s b hs hb=>zm5 h0 ⟨(bz hx.1 hs.1 (av hx.1 hb).1).1,rfl,XY hy h hn _ hb⟩) hj.byte hj.pos (by rw[zh2];exact hq)
theorem y3k{x:Tab}(hx:x.ok){n:Nat}(h0:0< n)(hn:n<=63)(h:x.next.length<=n){q:Nat}(hq:2*2 ^ n<=q):¬ Big (aC (ae x) (aA (cN x) (cN x))) (aA (cN x) (cN x)).length (1,0,1) q:=by
  have hj:=gF x x
  refine Ws (Inv:=OZ 2 n) (rH 2 n) (fun s=>zr3) ⟨by decide,rfl,Nat.one_lt_two_pow (by omega)⟩ (fun s b hs hb=>⟨by show 0< 2;decide,rfl,?_⟩) hj.byte hj.pos (by rw[zh2];exact hq)
  show(if _ then _ else _:UInt64).toNat< _
  split
  · exact zr2 h0 (XY hx h hn _ hb)
  · exact XY hx h hn _ hb

end Go.Proofs.YtpdljmohhpbkpaaDoor

namespace Go.Proofs.YtpdljmohhpbkpaaDoor
open Go.Ab Go.RowKit

open Go.Aut
theorem Xz{x:List UInt8}(h:x.length<=62):(af (fP (wN x))).good/\(∀ w,Bytes w->aT (af (fP (wN x))) w=fP (wN x) w)/\(af (fP (wN x))).next.length<=x.length+2:=by
  have hf:=Xp h
  obtain⟨h1,h2,h3⟩:=Sy hf.1
  have hn:(jU x).next.length=x.length+2:=sZ _ _
  rw[Y9]at h1 h2 h3;refine⟨⟨h1,by omega⟩,fun w hw=>?_,by omega⟩
  have:=zq0 h2 hw
  rw[this]
  have h4:=XV x w 0 hw (Nat.zero_le _)
  rw[h4];rfl
theorem Si{u v:List Nat}(h:Bytes (u++v)):Bytes u/\Bytes v:=⟨fun b hb=>h b (List.mem_append_left _ hb),fun b hb=>h b (List.mem_append_right _ hb)⟩
theorem XM{L L' M M':List Nat->Bool}(e:∀ w,Bytes w->L w=L' w)(e':∀ w,Bytes w->M w=M' w){w:List Nat}(hw:Bytes w):kL L M w=kL L' M' w:=by
  unfold kL;refine decide_eq_decide.2 ⟨?_,?_⟩
  · rintro ⟨u,v,rfl,h1,h2⟩
    exact⟨u,v,rfl,by rw[<-e _ (Si hw).1];exact h1,by rw[<-e' _ (Si hw).2];exact h2⟩
  · rintro ⟨u,v,rfl,h1,h2⟩
    exact⟨u,v,rfl,by rw[e _ (Si hw).1];exact h1,by rw[e' _ (Si hw).2];exact h2⟩
theorem Wl{L L':List Nat->Bool}(e:∀ w,Bytes w->L w=L' w){w:List Nat}(hw:Bytes w):iL L w=iL L' w:=by
  have hb:∀ ws:List (List Nat),ws.flatten=w->∀ u∈ws,Bytes u:=fun ws h u hu b hb=>hw b (h▸List.mem_flatten.2 ⟨u,hu,hb⟩)
  unfold iL;refine decide_eq_decide.2 ⟨?_,?_⟩
  · rintro ⟨ws,h1,h2⟩
    exact⟨ws,fun u hu=>by rw[<-e _ (hb ws h2 u hu)];exact h1 u hu,h2⟩
  · rintro ⟨ws,h1,h2⟩
    exact⟨ws,fun u hu=>by rw[e _ (hb ws h2 u hu)];exact h1 u hu,h2⟩
theorem y3l(u v:List Nat)(w:List Nat):kL (fP u) (fP v) w=fP (u++v) w:=by
  unfold kL fP;refine decide_eq_decide.2 ⟨?_,?_⟩
  · rintro ⟨a,b,rfl,h1,h2⟩
    rw[of_decide_eq_true h1,of_decide_eq_true h2]
  · rintro rfl
    exact⟨u,v,rfl,decide_eq_true rfl,decide_eq_true rfl⟩
noncomputable def dA:Dfa:=af (fP (wN [97]))
noncomputable def dB:Dfa:=af (fP (wN [98]))
theorem wC:dA.good/\(∀ w,Bytes w->aT dA w=fP [97] w)/\dA.next.length<=3:=Xz (by decide)
theorem Na:dB.good/\(∀ w,Bytes w->aT dB w=fP [98] w)/\dB.next.length<=3:=Xz (by decide)
theorem y3m:af (aT dA)=dA:=CK wC.2.1
theorem DC:af (aT dB)=dB:=CK Na.2.1
theorem Ga:jb [97,98]=(jy,0):=by
  rw[jb,if_neg (by decide),show wN [97,98]=[97,98] from rfl,y0h]
theorem L5:jb [97]=(dA,0):=by rw[jb,if_neg (by decide)];rfl
theorem L6:jb [98]=(dB,0):=by rw[jb,if_neg (by decide)];rfl
theorem G9:jb (List.replicate 63 0)=(uA,2):=by rw[jb,if_pos (by rw[List.length_replicate];decide)]
theorem y3n:z44 dA dB=(jy,0):=by
  have hv:eQ dA=true/\eQ dB=true:=⟨pU wC.1,pU Na.1⟩
  have hA:=kS wC.1
  have hB:=kS Na.1
  have hl:(ag dA).next.length*2 ^ 3<=4096:=Nat.le_trans (Nat.mul_le_mul_right _ wC.2.2) (by decide)
  rw[z44,if_pos hv,y3m,DC,if_neg (y3j hA hB.1 (n:=3) (by decide) (by decide) Na.2.2 hl)]
  have:af (kL (aT dA) (aT dB))=jy:=by
    rw[<-y0h];exact CK fun w hw=>(XM wC.2.1 Na.2.1 hw).trans (y3l [97] [98] w)
  rw[this,lU,if_neg (by decide)]
theorem LV:kI dA=(qK,0):=by
  have hA:=kS wC.1
  rw[kI,if_pos (pU wC.1),y3m,if_neg (y3k hA.1 (n:=3) (by decide) (by decide) wC.2.2 (by decide))]
  have:af (iL (aT dA))=qK:=by
    rw[<-Cz];exact CK fun w hw=>Wl wC.2.1 hw
  rw[this,lU,if_neg (by decide)]
theorem MC:jy.good:=⟨xg,by decide⟩
theorem zwl:Bytes [97,98]:=by unfold Bytes;decide
theorem y3o:Bytes [97]:=by unfold Bytes;decide
theorem yw:zI jy=some [97,98]:=by
  rw[zI,if_pos (pU MC)];refine PO ⟨zwl,by rw[TD _ zwl];rfl,fun v hv h=>?_⟩;rw[TD v hv]at h;exact .inl (of_decide_eq_true h).symm
theorem xA:oO jy dA=some [97]:=by
  rw[oO,if_pos ⟨pU MC,pU wC.1⟩]
  have hl:∀ w,Bytes w->lQ (fun x y=>x !=y) jy dA w=(fP [97,98] w !=fP [97] w):=fun w hw=>by
    show(aT jy w !=aT dA w)=_
    rw[TD w hw,wC.2.1 w hw]
  refine PO ⟨y3o,by rw[hl _ y3o];decide,fun v hv h=>?_⟩;rw[hl v hv]at h
  by_cases h1:v=[97]
  · exact .inl h1.symm
  · by_cases h2:v=[97,98]
    · subst h2;exact .inr (.inl (by decide))
    · rw[fP,fP,decide_eq_false h1,decide_eq_false h2]at h;cases h

end Go.Proofs.YtpdljmohhpbkpaaDoor

namespace Go.Proofs.YtpdljmohhpbkpaaDoor
open Go.Ab Go.RowKit

open Go.Aut
theorem y3p{c:List UInt64}{b x:Nat}(hc:c.length=4)(hb:b< 256)(hx:x< 256):ed (jT c b) x=(ed c x||decide (x=b)):=by
  rw[ed,jT,my (by omega)]
  by_cases e:b / 64=x / 64
  · rw[if_pos e,UInt64.toNat_or,Nat.testBit_or]
    have h1:=Pj (b%64) (x%64)
    rw[NG]at h1;rw[h1,ed,e]
    congr 1
    rw[Bool.eq_iff_iff];simp;omega
  · rw[if_neg e,decide_eq_false (fun h=>e (by rw[h])),Bool.or_false,ed]
theorem zA(n:Nat){b:Nat}(hb:b< 256):fJ n (b+1)=pM (fJ n b) (mf n b) b:=by
  have hl:=z26 (CJ n b) (i:=mf n b) (Nat.lt_succ_of_le (Ml n b))
  have h1:jT (bE (fJ n b) (mf n b)) b=Qi (bE (fJ n b) (mf n b)) (vP [UInt8.ofNat b]):=Q0 (by rw[z28,hl]) (Ld ..) fun x hx=>by
    rw[y3p hl hb hx,y14 _ _ hx,y1d hb hx]
  rw[fJ,h1];rfl
theorem zyc{l:List UInt64}(h:∀ y∈l,y=0)(i:Nat):l.getD i 0=0:=by
  rw[List.getD_eq_getElem?_getD]
  cases e:l[i]? with
  |none=>rfl
  |some y=>exact h y (List.mem_of_getElem? e)
theorem zwm(n:Nat){k x:Nat}(hk:k<=n)(hx:x< 256):∀ b,b<=256->bv (fJ n b) k x=(decide (x< b)&&decide (mf n x=k))
  | 0,_=>by
    rw[bv,fJ,zyc fun y hy=>?_]
    · simp
    · obtain⟨l,hl,hy⟩:=List.mem_flatten.1 hy
      rw[(List.mem_replicate.1 hl).2]at hy;exact(List.mem_replicate.1 hy).2
  | b +1,hb=>by
    rw[zA n (by omega),zvm (CJ n b) (Nat.lt_succ_of_le (Ml n b)) (by omega) (by omega) hx,zwm n hk hx b (by omega),Bool.eq_iff_iff]
    simp only[Bool.or_eq_true,Bool.and_eq_true,decide_eq_true_eq]
    constructor
    · rintro (⟨h1,h2⟩|⟨h1,h2⟩)
      · exact⟨by omega,h2⟩
      · subst h2;exact⟨by omega,h1.symm⟩
    · rintro ⟨h1,h2⟩
      rcases Nat.lt_succ_iff_lt_or_eq.1 h1 with h|h
      · exact .inl ⟨h,h2⟩
      · subst h;exact .inr ⟨h2.symm,rfl⟩
theorem Yk(a:UInt8):1<=fe a/\fe a<=5:=by unfold fe;omega
theorem y3q(a:UInt8):z60 a<=3:=by unfold z60;omega
theorem Yl(a:UInt8)(l:List UInt8)(m:UInt8):(oV a l m).next.length=fe a:=z75 ..
theorem zr4(a:UInt8)(l:List UInt8)(m:UInt8):(oV a l m).good:=by
  have hN:=Yk a
  have hL:=y3q a
  have hlen:=Yl a l m
  have hbit:∀ {k x:Nat},k< gY a->x< 256->(bv (oV a l m).cls k x=true↔mf (z60 a) x=k):=fun {k x} hk hx=>by
    show bv (fJ (z60 a) 256) k x=true↔_
    rw[zwm (z60 a) (Nat.lt_succ_iff.1 hk) hx 256 (Nat.le_refl _),decide_eq_true hx,Bool.true_and,decide_eq_true_eq]
  refine⟨⟨CJ _ 256,by omega,?_,Nat.succ_pos _,by show z60 a+1<=256;omega,fun b hb=>?_,fun c hc=>?_,fun r hr=>?_⟩,by omega⟩
  · rw[hlen];exact z83 ..
  · exact⟨mf (z60 a) b,Nat.lt_succ_of_le (Ml _ _),fun x hx=>by rw[hbit hx hb];exact eq_comm⟩
  · have hc':c<=z60 a:=Nat.lt_succ_iff.1 hc
    by_cases h:c< z60 a
    · refine⟨97+c,by omega,(hbit hc (by omega)).2 ?_⟩
      rw[mf,if_pos ⟨by omega,by omega⟩];omega
    · refine⟨0,by decide,(hbit hc (by decide)).2 ?_⟩
      rw[mf,if_neg (by omega)];omega
  · obtain⟨i,_,rfl⟩:=List.mem_map.1 hr
    refine⟨Wq ..,fun t ht=>?_⟩;obtain⟨j,_,rfl⟩:=List.mem_map.1 ht;rw[hlen,BS]
    split
    · have:(l.getD (i*gY a+j) 0).toNat%fe a< fe a:=Nat.mod_lt _ (by omega)
      omega
    · omega
def zB(A B:Nat):List ah:=(List.range A).flatMap fun p=>(List.range B).map fun q=>(p,q,0)
theorem y3r(A B:Nat):(zB A B).length=A*B:=by
  rw[zB,List.length_flatMap]
  simp[List.map_const',List.sum_replicate_nat]
theorem zwn{a b:Tab}(ha:a.fit)(hb:b.fit){m:Nat}(hm:a.next.length*b.next.length<=m):¬ Big (aC (gZ a b) (aA (cN a) (cN b))) (aA (cN a) (cN b)).length (0,0,0) m:=by
  have hj:=gF a b
  refine Ws (Inv:=lm a b) (zB a.next.length b.next.length) (fun s hs=>?_) ⟨ha.1.npos,hb.1.npos,rfl⟩ (fun s c hs hc=>ZU ha hb hs hc) hj.byte hj.pos (by rw[y3r];exact hm);obtain⟨p,q,r⟩:=s;obtain⟨h1,h2,h3⟩:=hs
  have h3:r=0:=h3
  subst h3;exact List.mem_flatMap.2 ⟨p,List.mem_range.2 h1,List.mem_map.2 ⟨q,List.mem_range.2 h2,rfl⟩⟩
theorem y3s{op:Bool->Bool->Bool}{a b:Tab}(ha:a.fit)(hb:b.fit)(h:a.next.length*b.next.length<=4096):(jE op a b).next.length<=a.next.length*b.next.length:=by
  obtain⟨n,hn,hle⟩:=ZT (zwn ha hb (Nat.le_refl _));rw[jE,jf,if_neg (zwn ha hb (by omega)),Nl hn]
  show(bP _ _ _ n).length<=_
  rw[vY];exact hle
theorem xe{op:Bool->Bool->Bool}{d e:Dfa}(hd:d.good)(he:e.good)(h:d.next.length*e.next.length<=64):jO op d e=(af (lQ op d e),0)/\(af (lQ op d e)).good/\(af (lQ op d e)).next.length<=d.next.length*e.next.length:=by
  have hf:=Xt op hd he
  obtain⟨h1,h2,h3⟩:=Sy hf.1;rw[zw2 hd he]at h1 h3
  have h4:=y3s (op:=op) (kS hd) (kS he) (Nat.le_trans h (by decide))
  have h5:(af (lQ op d e)).next.length<=d.next.length*e.next.length:=Nat.le_trans h3 h4
  refine⟨?_,⟨h1,Nat.le_trans h5 h⟩,h5⟩;rw[jO,if_pos ⟨pU hd,pU he⟩,lU,if_neg (by omega)]
theorem zm6(d:Dfa):lU d=(uA,2)\/lU d=(d,0)/\d.next.length<=64:=by
  unfold lU
  split
  · exact .inl rfl
  · exact .inr ⟨rfl,by omega⟩
theorem zY:uA.wf:=by
  refine⟨rfl,?_,?_,?_,fun r hr=>by cases hr⟩<;>decide
theorem DR{d e:Dfa}(hd:d.good)(he:e.good)(h:¬ Big (aC (aV (ag (af (aT d))) (ag (af (aT e)))) (aA (cN (ag (af (aT d)))) (cN (ag (af (aT e)))))) (aA (cN (ag (af (aT d)))) (cN (ag (af (aT e))))).length (aX (ag (af (aT d)))) 4096):(af (kL (aT d) (aT e))).ok:=by
  have hx:=kS (Bn hd).1
  have hy:=kS (Bn he).1
  have hj:=gF (ag (af (aT d))) (ag (af (aT e)))
  obtain⟨h1,_,h3⟩:=Iz (L:=kL (aT d) (aT e)) (acc:=d9 (ag (af (aT e)))) (m:=4096) (by decide) (fun s x hx'=>Pd s hx') (fun w hw=>ZZ hd he hw) h;rw[<-h3];exact(Sy h1.1).1
theorem GZ{d:Dfa}(hd:d.good)(h:¬ Big (aC (ae (ag (af (aT d)))) (aA (cN (ag (af (aT d)))) (cN (ag (af (aT d)))))) (aA (cN (ag (af (aT d)))) (cN (ag (af (aT d))))).length (1,0,1) 4096):(af (iL (aT d))).ok:=by
  obtain⟨h1,_,h3⟩:=Iz (L:=iL (aT d)) (acc:=fG (ag (af (aT d)))) (m:=4096) (by decide) (fun s x hx'=>Xu s hx') (fun w hw=>Z0 hd hw) h;rw[<-h3];exact(Sy h1.1).1
theorem y3t{d e:Dfa}(hd:d.good)(he:e.good):z44 d e=(uA,2)\/z44 d e=(af (kL (aT d) (aT e)),0)/\(af (kL (aT d) (aT e))).good:=by
  rw[z44,if_pos ⟨pU hd,pU he⟩]
  split
  · exact .inl rfl
  · rename_i h
    rcases zm6 (af (kL (aT d) (aT e)))with h1|⟨h1,h2⟩
    · exact .inl h1
    · exact .inr ⟨h1,DR hd he h,h2⟩
theorem y3u{d:Dfa}(hd:d.good):kI d=(uA,2)\/kI d=(af (iL (aT d)),0)/\(af (iL (aT d))).good:=by
  rw[kI,if_pos (pU hd)]
  split
  · exact .inl rfl
  · rename_i h
    rcases zm6 (af (iL (aT d)))with h1|⟨h1,h2⟩
    · exact .inl h1
    · exact .inr ⟨h1,GZ hd h,h2⟩
end Go.Proofs.YtpdljmohhpbkpaaDoor

namespace Go.Proofs.YtpdljmohhpbkpaaDoor
open Go.Ab Go.RowKit

open Go.Aut
end Go.Proofs.YtpdljmohhpbkpaaDoor

namespace Go.Proofs.YtpdljmohhpbkpaaDoor
open Go.Ab Go.RowKit

open Go.Aut
theorem yT(c:List UInt64)(b:Nat):MX c b=ed c b:=by
  rw[MX,ed]
  have h64:b%64< 64:=Nat.mod_lt _ (by decide)
  have hn:(iD (c.getD (b / 64) 0) (b%64)).toNat=(c.getD (b / 64) 0).toNat >>> (b%64):=by
    unfold iD;rw[if_pos h64,UInt64.toNat_shiftRight]
    congr 1
    rw [show (b % 64).toUInt64.toNat = b % 64 from UInt64.toNat_ofNat_of_lt' (by show b%64< 2 ^ 64;have:(64:Nat)< 2 ^ 64:=by decide
                                                                                 omega)]
    omega
  rw[Bool.eq_iff_iff,decide_eq_true_eq,Nat.testBit_eq_decide_div_mod_eq,decide_eq_true_eq, <-UInt64.toNat_inj,UInt64.toNat_mod,hn,Nat.shiftRight_eq_div_pow];exact Iff.rfl
theorem NL{cls:List UInt64}{k b:Nat}(hb:b< 256):MX (bE cls k) b=bv cls k b:=by rw[yT,JE hb]
theorem y3v{cls:List UInt64}{b nc c:Nat}(hb:b< 256)(hc:c< nc)(h:∀ x,x< nc->(bv cls x b=true↔x=c)):∀ k,k<=nc->jo cls b k=if c< k then 1 else 0
  |0,_=>by rw[jo,if_neg (Nat.not_lt_zero c)]
  | k +1,hk=>by
    rw[jo,y3v hb hc h k (by omega),NL hb]
    by_cases e:k=c
    · subst e
      rw[(h k (by omega)).2 rfl,if_pos rfl,if_neg (Nat.lt_irrefl k),if_pos (Nat.lt_succ_self k)]
    · have:bv cls k b=false:=by rw[<-Bool.not_eq_true,h k (by omega)];exact e
      rw[this]
      simp only[Bool.false_eq_true,if_false]
      by_cases e2:c< k
      · rw[if_pos e2,if_pos (by omega)]
      · rw[if_neg e2,if_neg (by omega)]
theorem ztt{d:Dfa}(h:d.good):JI d=true:=by
  obtain⟨hk,h64⟩:=h
  have h1:=hk.npos
  have hv:=pU (d:=d) ⟨hk,h64⟩
  rw[eQ]at hv
  simp only[Bool.and_eq_true]at hv
  rw[JI,Bu,lW]
  simp only[Bool.and_eq_true,decide_eq_true_eq,List.all_eq_true]
  refine⟨h64,⟨⟨h1,hk.alen⟩,⟨⟨hk.cpos,hk.cmax⟩,fun k hkm=>?_⟩,fun b hb=>?_⟩,fun r hr=>List.all_eq_true.1 hv.2 r hr⟩
  · have hk':=List.mem_range.1 hkm
    obtain⟨b,hb,hc⟩:=hk.full k hk';rw[Mb,Bool.not_eq_true',decide_eq_false_iff_not];intro e;rw[<-JE hb,e,z68]at hc;cases hc
  · have hb':=List.mem_range.1 hb
    obtain⟨c,hc,hx⟩:=hk.part b hb';rw[zg,decide_eq_true_eq,y3v hb' hc hx _ (Nat.le_refl _),if_pos hc]
def V8(t s:Nat):Nat:=if t=0 then s else if t=s then 0 else t
def zW(r:List Int)(s k:Nat):List Int:=(r.take k).map fun x=>plc x (s:Int)
def mvR(d:Dfa)(s t:Nat):List (List Int):=(List.range t).map fun i=>zW (d.next.getD (V8 i s) []) s (d.next.getD (V8 i s) []).length
def mvA(d:Dfa)(s t:Nat):List Bool:=(List.range t).map fun i=>d.acc.getD (V8 i s) false
@[simp] theorem Kb(d:Dfa)(s t:Nat):(mvR d s t).length=t:=by simp[mvR]
@[simp] theorem Ka(d:Dfa)(s t:Nat):(mvA d s t).length=t:=by simp[mvA]
theorem ET{r:List Int}{s k:Nat}(h:k<=r.length):(zW r s k).length=k:=by rw[zW,List.length_map,List.length_take,Nat.min_eq_left h]
end Go.Proofs.YtpdljmohhpbkpaaDoor
