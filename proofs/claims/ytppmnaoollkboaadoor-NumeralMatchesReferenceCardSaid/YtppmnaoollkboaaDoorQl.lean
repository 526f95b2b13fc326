/- Contracts of functions and plain facts, part 12. -/
import Derived.Test.YtppmnaoollkboaaDoorQk
import Derived.Test.YtppmnaoollkboaaDoorQb
import Derived.Test.YtppmnaoollkboaaDoorQj
set_option maxHeartbeats 1000000
set_option maxRecDepth 4000
namespace Go.Proofs.YtppmnaoollkboaaDoor
set_option linter.all false
open Go.Ab Go.RowKit

open Go.Aut
def tgK(t:Tab)(x:UInt64)(b k:Nat):UInt64:=(List.range k).foldl (fun a q=>if bit x q=true then a ||| shl64 1 ((tblT t).δ q (cN t b))else a) 0
def tgtU(t:Tab)(x:UInt64)(b:Nat):UInt64:=tgK t x b t.next.length
theorem tgK_succ(t:Tab)(x:UInt64)(b k:Nat):tgK t x b (k+1)=if bit x k=true then tgK t x b k ||| shl64 1 ((tblT t).δ k (cN t b))else tgK t x b k:=by
  rw[tgK,List.range_succ,List.foldl_append];rfl
theorem tgK_bit {t:Tab} (ht:t.ok) (h64:t.next.length≤64) {x:UInt64} {b:Nat} {k q:Nat} (hk:k≤t.next.length):bit (tgK t x b k) q=true↔∃ r,r< k∧bit x r=true∧(tblT t).δ r (cN t b)=q:=by
  have hc:cN t b< t.nc:=by
    rcases Nat.lt_or_ge b 256 with h|h
    · exact(cellN ht h).1
    · have:cN t b=0:=by
        show(t.cell.getD b 0).toNat=0
        rw[List.getD_eq_getElem?_getD,List.getElem?_eq_none (by rw[ht.clen];exact h)];rfl
      rw[this];exact Tab.nc_pos ht
  induction k with
  |zero=>exact⟨fun h=>(by rw[show tgK t x b 0=0 from rfl,zei]at h;cases h),fun⟨r,hr,_⟩=>absurd hr (Nat.not_lt_zero r)⟩
  | succ k ih=>
    have ih:bit (tgK t x b k) q=true↔∃ r,r< k∧bit x r=true∧(tblT t).δ r (cN t b)=q:=ih (by omega)
    have hd:=(nextN ht (show k< t.next.length by omega) hc).1
    rw[tgK_succ]
    by_cases hb:bit x k=true
    · rw[if_pos hb,bit_or,Bool.or_eq_true,ih,zbw,Bool.and_eq_true,decide_eq_true_eq,decide_eq_true_eq]
      constructor
      · rintro (⟨r,h1,h2⟩|⟨e,_⟩)
        · exact⟨r,by omega,h2⟩
        · exact⟨k,by omega,hb,e.symm⟩
      · rintro ⟨r,h1,h2,h3⟩
        by_cases e:r=k
        · subst e;exact .inr ⟨h3.symm,by omega⟩
        · exact .inl ⟨r,by omega,h2,h3⟩
    · rw[if_neg hb,ih]
      constructor
      · rintro ⟨r,h1,h2⟩;exact⟨r,by omega,h2⟩
      · rintro ⟨r,h1,h2,h3⟩
        have:r≠k:=fun e=>hb (e▸h2)
        exact⟨r,by omega,h2,h3⟩
def memT(t:Tab)(x:UInt64)(q:Nat):Prop:=q< t.next.length∧bit x q=true
theorem zft {t:Tab} (ht:t.ok) (h64:t.next.length≤64) {x:UInt64} {b q:Nat}:memT t (tgtU t x b) q↔∃ r,memT t x r∧(tblT t).δ r (cN t b)=q:=by
  have hc:cN t b< t.nc:=by
    rcases Nat.lt_or_ge b 256 with h|h
    · exact(cellN ht h).1
    · have:cN t b=0:=by
        show(t.cell.getD b 0).toNat=0
        rw[List.getD_eq_getElem?_getD,List.getElem?_eq_none (by rw[ht.clen];exact h)];rfl
      rw[this];exact Tab.nc_pos ht
  rw[memT,tgtU,tgK_bit ht h64 (Nat.le_refl _)]
  constructor
  · rintro ⟨_,r,h1,h2,h3⟩;exact⟨r,⟨h1,h2⟩,h3⟩
  · rintro ⟨r,⟨h1,h2⟩,rfl⟩;exact⟨(nextN ht h1 hc).1,r,h1,h2,rfl⟩
attribute [local irreducible] allB
end Go.Proofs.YtppmnaoollkboaaDoor

namespace Go.Proofs.YtppmnaoollkboaaDoor
set_option linter.all false
open Go.Ab Go.RowKit

open Go.Aut
attribute [local irreducible] z0o z0y zl z08 z0v putB tgK
end Go.Proofs.YtppmnaoollkboaaDoor

namespace Go.Proofs.YtppmnaoollkboaaDoor
set_option linter.all false
open Go.Ab Go.RowKit

theorem uUth_0{a:Prop}(h:a:=by
    repeat' (first|exact trivial|refine aI ?_ ?_|rfl|omega)):a:=h
open Go.Aut
noncomputable def lstR(d:Dfa):Option (List Nat):=if z4x d=true then z42 (langD d)else none
theorem lst_tabD(d:Dfa):z42 ((tblT (tabD d)).lang 0)=z42 (langD d):=z8v fun w hw=>zls d 0 hw
attribute [local irreducible] z0o z0y zl z08 z0v putB prodT canD jL jrep exR z42
noncomputable def gh1:Ctx:={ P:=Tryd.prog,ty:=ty,glob:=gl,fs:=[(50,.flat zoo),(74,.data zjf),(86,.data zxj)] }
theorem zi4:gh1.OK:=⟨tyOK,⟨⟨z0b Tryd.func50 kR rfl,zm2⟩,⟨z0b Tryd.func74 kR rfl,zhz⟩,⟨z0b Tryd.func86 kR rfl,zxk⟩,trivial⟩,mixed⟩
@[simp] theorem gh1_ty:gh1.ty=ty:=rfl

def zxl:QSpec:=fun vs K=>∃ d:Dfa,vs=[dfaV d]∧d.wf∧K (lsV (lstR d))
theorem zxm:z1x Tryd.prog gl 29 zxl:=by
 refine z1c (Γ:=gh1) (N:=12) Tryd.func29 rfl rfl fun vs K h=>?_;obtain⟨d,rfl,hw,h⟩:=h;refine⟨_,h,z6g _,by simp,fun w I=>?_⟩;refine srR zi4 fun _ K2=>?_
 iterate 3 refine z4y ?_
 refine s_n K2 ?_;refine seq_k fun _ K3=>?_;refine srR zi4 fun _ K5=>?_;refine z4y ?_;refine zjg ?_;refine⟨d,rfl,hw,?_⟩;refine DUj_0 ?_
 first|refine exI ?_|(intro cap1 hcap1;refine exI ?_)
 refine z4y ?_;refine s_n K5 ?_;refine z04 (b:=_) rfl (fun h_t6=>?_) (fun h_t6=>?_)
 ·try simp only[dQ,reduceIte]at h_t6
  refine srR zi4 fun _ K7=>?_
  iterate 2 refine z4y ?_
  refine s_n K7 ?_;rw[lstR,if_neg (by simpa using h_t6)];refine z0e (z0g zi4 (fun _ _ h=>h) (z6g _) [] [.tmp 2,.tmp 3] rfl ?_)
  all_goals exact uUth_0
 ·try simp only[dQ,reduceIte]at h_t6
  refine z09 ?_;apply K3
  have hg:=(zd9 hw).1 (by simpa using h_t6)
  refine srR zi4 fun _ K9=>?_;refine z4y ?_;refine zjg ?_;refine⟨d,rfl,hg,?_⟩;refine DUj_0 ?_
  first|refine exI ?_|(intro cap1 hcap1;refine exI ?_)
  refine zjg ?_;refine aI (z93 _) ?_;refine zc1 _ ?_;refine⟨tabD d,rfl,zrc hg,?_⟩;rw[lst_tabD];refine DUj_0 ?_
  first|refine exI ?_|(intro cap2 hcap2;refine exI ?_)
  iterate 4 refine z4y ?_
  refine s_n K9 ?_;rw[lstR,if_pos (zda hg)];refine z0e (z0g zi4 (fun _ _ h=>h) (z6g _) [] [.tmp 2,.tmp 3] rfl ?_)
  all_goals exact uUth_0

end Go.Proofs.YtppmnaoollkboaaDoor
