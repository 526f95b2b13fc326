/- Contracts of functions and plain facts, part 2. -/
import Derived.OrdersHeld
import Derived.StillTail
import Derived.Deep.Quiet
import Derived.Scope
import Derived.RangeFuncNested
import Derived.ProofKit
import Derived.OpenShut
import Derived.Deep.Slices
import Derived.Deep.DeepHandedRow
import Derived.Lib.LaidTab
import Derived.ChangeSame
import Derived.Test.YtpdljmohhpbkpaaDoorProg
import Derived.Test.YtpdljmohhpbkpaaDoorNa
set_option linter.all false
namespace Go.Ab
open Go.RowKit

def qJ(P:Program)(f:FuncId):Prop:=∀ args w,(callFunc f args).run P w= .ok (.enter f args) w
theorem bX{P:Program}{f:FuncId}{fn:Func}(hf:P.funcs[f]? =some fn)(hn:(fn.name== "runtime.NumGoroutine")=false) (hb:fn.body.isNone=false):qJ P f:=fun args w=>by
 have h1:¬ (fn.name= "runtime.NumGoroutine"):=by simpa using hn
 have h2:¬ (fn.body=none):=by intro e;simp[e]at hb
 simp[callFunc,hf,h1,h2]

structure oM(I:Nat->Prop)(w:World)(I':Nat->Prop)(w':World):Prop where
 same:Same w w'
 le:∀ b,I b->I' b
 new:∀ b,I' b->I b\/w.heap.size<=b
 lt:∀ b,I' b->b< w'.heap.size

def ll:Val:=fun _=>none
def gu(I:Nat->Prop)(w:World)(vs:List SV)(xs:List Value):Prop:=
 xs.length=vs.length/\∀ (j:Nat) v,vs[j]? =some v->∃ x,xs[j]? =some x/\v.rel ll I w x/\v.low 0

abbrev aW:=List SV->(SV->Prop)->Prop
abbrev wX:=List SV->(TypeId->Nat->Nat->aB->Prop)->Prop
abbrev tX:=List SV->Heap->Nat->(SV->Heap->Nat->Prop)->Prop

def jJ(P:Program)(glob:Nat->Option aB)(f:FuncId)(q:aW):Prop:=
 ∀ (vs:List SV) (K:SV->Prop),q vs K->∃ v,K v/\v.flat=true/\∀ (I:Nat->Prop) (w:World) (xs:List Value),mF glob I w->(∀ b,I b->b< w.heap.size)->gu I w vs xs->
  Calls P f xs.toArray w fun e w'=>e= .returned v.val/\Same w w'
def jr(P:Program)(glob:Nat->Option aB)(f:FuncId)(q:aW):Prop:=
 ∀ (vs:List SV) (K:SV->Prop),q vs K->∃ v,K v/\v.low 0/\∀ (I:Nat->Prop) (w:World) (xs:List Value),mF glob I w->(∀ b,I b->b< w.heap.size)->gu I w vs xs->
  Calls P f xs.toArray w fun e w'=>∃ x I',e= .returned x/\v.rel ll I' w' x/\oM I w I' w'
def Jk(I:Nat->Prop)(w:World)(I':Nat->Prop)(w':World)(t:TypeId)(s len:Nat)(c:aB)(x:Value):Prop:=
 ∃ ad cap o,x= .slice (ad.map fun b=>⟨b,o,none⟩) len cap/\(o=0\/cap=0)/\len<=cap/\c.len=len*s/\(dw.own t c (cap*s)).Holds ll I' w' ad/\∀ b,ad=some b->w.heap.size<=b/\¬ I' b
def Hw(P:Program)(glob:Nat->Option aB)(f:FuncId)(q:wX):Prop:=
 ∀ (vs:List SV) (K:TypeId->Nat->Nat->aB->Prop),q vs K->∃ t s len c,K t s len c/\c.low 0/\∀ (I:Nat->Prop) (w:World) (xs:List Value),mF glob I w->(∀ b,I b->b< w.heap.size)->gu I w vs xs->
  Calls P f xs.toArray w fun e w'=>∃ x I',e= .returned x/\Jk I w I' w' t s len c x/\oM I w I' w'
def wV(P:Program)(glob:Nat->Option aB)(f:FuncId)(s:tX):Prop:=
 ∀ (C:CC) (β:Val) (n:Nat) (H:Heap) (I:Nat->Prop) (w:World) (vs:List SV) (xs:List Value) (K:SV->Heap->Nat->Prop),mF glob I w->aQ C β n H I w->xs.length=vs.length->(∀ (j:Nat) v,vs[j]? =some v->∃ x,xs[j]? =some x/\v.rel β I w x/\v.low n)->s vs H n K->
  Calls P f xs.toArray w fun e w'=>∃ x,e= .returned x/\After C β n I w K x w'

inductive Spec
 |flat (q:aW)
 |data (q:aW)
 |own (q:wX)
 |ownD (q:wX)
 |gen (s:tX)
def Spec.OK(P:Program)(glob:Nat->Option aB)(f:FuncId):Spec->Prop
 | .flat q=>qJ P f/\jJ P glob f q
 | .data q=>qJ P f/\jr P glob f q
 | .own q=>qJ P f/\Hw P glob f q
 | .ownD q=>qJ P f/\Hw P glob f q
 | .gen s=>qJ P f/\wV P glob f s

def rV:List (FuncId×Spec)->FuncId->Option Spec
 |[],_=>none
 |(g,s)::l,f=>if g=f then some s else rV l f

structure Ctx where
 P:Program
 ty:Nat->Ty
 glob:Nat->Option aB
 fs:List (FuncId×Spec)

def Pv(P:Program)(glob:Nat->Option aB):List (FuncId×Spec)->Prop
 |[]=>True
 |(f,s)::l=>s.OK P glob f/\Pv P glob l
structure Ctx.OK(Γ:Ctx):Prop where
 ty:fD Γ.P Γ.ty
 fs:Pv Γ.P Γ.glob Γ.fs
 mixed:Γ.P.follows .mixedOrders=true

theorem Pv.look{P:Program}{glob:Nat->Option aB}:∀ {l:List (FuncId×Spec)} {f:FuncId} {s:Spec},Pv P glob l->rV l f=some s->s.OK P glob f
 |[],_,_,_,h=>by cases h
 |(g,s')::l,f,s,hl,h=>by
  simp only[rV]at h
  split at h
  ·rename_i e;cases h;subst e;exact hl.1
  ·exact Pv.look hl.2 h

def Cell.isD:Cell->Prop
 | .ptr _ _| .slice _ _ _ _| .map _=>False
 | .clo _ caps=>∀ x∈caps,x.pureB=true/\∀ g l,x≠ .clo g l
 |_=>True
def pI:List Cell->Prop
 |[]=>True
 |x::l=>x.isD/\pI l
def aB.isD:aB->Prop
 | .cells l=>pI l
 |_=>True

def mY(ty:Nat->Ty)(H:Heap)(x:Cell)(K:Cell->Prop):Prop:=
 match x with
 | .slice id off len _=>match H.get id with
  |some (.own t c _)=>c.isD/\(len=0->(ty t).size*len=0)/\off+len*(ty t).size<=c.len/\0< (ty t).size/\Bq c off (len*(ty t).size) fun c=>K (.ds len c)
  |_=>False
 | .ptr id off=>match H.get id with
  |some (.own _ c _)=>c.isD/\off< c.len/\K (.dp c off)
  |_=>False
 | .map _=>False
 |x=>K x
def l6(ty:Nat->Ty)(H:Heap):List Cell->(List Cell->Prop)->Prop
 |[],K=>K []
 |x::l,K=>mY ty H x fun x'=>l6 ty H l fun l'=>K (x'::l')
def Ij(ty:Nat->Ty)(H:Heap)(x:Cell)(K:Cell->Prop):Prop:=
 match x with
 | .clo f caps=>(∀ x∈caps,∀ g l,x≠Cell.clo g l)/\l6 ty H caps fun l=>K (.clo f l)
 |x=>mY ty H x K
def qG(ty:Nat->Ty)(H:Heap)(v:SV)(K:SV->Prop):Prop:=
 match v with
 | .c x=>Ij ty H x fun y=>K (.c y)
 | .agg (.cells l)=>(∀ x∈l,∀ g cs,x≠Cell.clo g cs)/\l6 ty H l fun l'=>K (.agg (.cells l'))
 | .agg k=>K (.agg k)
 | .tup _=>False
def kQ(ty:Nat->Ty)(H:Heap):List SV->(List SV->Prop)->Prop
 |[],K=>K []
 |v::vs,K=>qG ty H v fun v'=>kQ ty H vs fun vs'=>K (v'::vs')

def Cell.ids:Cell->List Nat
 | .slice id _ _ _| .ptr id _=>[id]
 | .clo _ caps=>caps.flatMap fun| .slice id _ _ _| .ptr id _=>[id]|_=>[]
 |_=>[]
def SV.ids:SV->List Nat
 | .c x=>x.ids
 | .agg (.cells l)=>l.flatMap Cell.ids
 |_=>[]
def Heap.delAll:Heap->List Nat->Heap
 |H,[]=>H
 |H,i::is=>Heap.delAll (H.del i) is
theorem Heap.get_delAll:∀ (is:List Nat) (H:Heap) (j:Nat),(H.delAll is).get j=if j∈is then none else H.get j
 |[],H,j=>by simp[Heap.delAll]
 | i::is,H,j=>by
  rw[Heap.delAll,Heap.get_delAll is,Heap.get_del]
  by_cases h1:j∈is
  ·simp[h1]
  ·by_cases h2:i=j
   ·subst h2;simp
   ·simp[h1,h2,Ne.symm h2]

section
variable {P:Program} {C:CC} {β:Val} {n:Nat} {H:Heap} {I:Nat->Prop} {w:World} {ty:Nat->Ty}

def mH(β:Val)(H:Heap)(is:List Nat)(I:Nat->Prop)(b:Nat):Prop:=I b\/∃ id o,id∈is/\H.get id=some o/\β id=some b

theorem zum:∀ {l:List Cell},pI l->∀ x∈l,x.isD
 |[],_,x,hx=>by cases hx
 |y::l,h,x,hx=>by
  rcases List.mem_cons.1 hx with rfl|hx
  ·exact h.1
  ·exact zum h.2 x hx
theorem aB.isD_get{c:aB}(h:c.isD){j:Nat}(hj:j< c.len):(c.get j).isD:=by
 cases c with
 |cells l=>exact zum h _ (sw hj)
 |_=>trivial

theorem Cell.rel_D{x:Cell}(hx:x.isD){v:Value}(h:x.rel β I w v):aZ I w x v:=by
 rcases Cell.clo_or x with⟨f,caps,rfl⟩|hc
 ·obtain⟨g,rfl,hg⟩:=h
  refine .clo f caps g fun j hj=>?_
  have h1:=hg j hj
  have h2:=(hx _ (sw (d:=.nils) hj)).1
  generalize caps.getD j .nils=y at h1 h2
  cases y<;>first|exact h1|(simp[Cell.pureB]at h2)
 ·rw[Cell.rel_eq hc]at h
  cases x<;>first|exact h|exact hx.elim

theorem aB.rel_D{c:aB}(hc:c.isD){b off:Nat}(hI:I b)(h:ru β I w c b off):eH I w c b off:=
 ⟨hI,fun j hj=>let ⟨u,h1,h2⟩:=h j hj;⟨u,h1 w (Below.refl _ _),Cell.rel_D (aB.isD_get hc hj) h2⟩⟩

theorem ru.widen{I':Nat->Prop}(hI:∀ b,I b->I' b){c:aB}(hl:c.low n){b off:Nat}(h:ru β I w c b off):ru β I' w c b off:=
 fun j hj=>let ⟨u,h1,h2⟩:=h j hj;⟨u,h1,Cell.rel_mono (n:=n) (fun _ _=>rfl) (Ext.widen hI) (aB.get_low hl j) h2⟩

theorem Rk{is:List Nat}(hH:aQ C β n H I w){x:Cell}(hxl:x.low n)(hnc:∀ g l,x≠ .clo g l)(his:∀ i∈x.ids,i∈is){v:Value}(hx:x.rel β I w v){K:Cell->Prop}(h:mY ty H x K):
  ∃ y,K y/\aZ (mH β H is I) w y v/\y.pureB=true/\∀ g l,y≠ .clo g l:=by
 have hI:∀ b,I b->mH β H is I b:=fun b h=>.inl h
 unfold mY at h
 split at h
 ·rename_i id off len cap
  split at h
  ·rename_i t c capc hid
   obtain⟨hd,_,hle,hs,hK'⟩:=h
   have hK:K (.ds len (if off=0/\c.len=len*(ty t).size then c else c.sub off (len*(ty t).size))):=by
    unfold Bq at hK'
    split at hK'<;>rename_i hz
    ·rw[if_pos hz];exact hK'
    ·rw[if_neg hz];exact hK'
   obtain⟨hlc,off',hv,hoff⟩:=hx;refine⟨_,hK,?_,rfl,by simp⟩
   have hlow:=(hH.low id _ hid).2
   by_cases h0:len=0
   ·subst h0
    have:∀ k:aB,k.len=0->aZ (mH β H is I) w (.ds 0 k) v:=fun k hk=>by rw[hv];exact .ds0 k _ _ hk
    split
    ·rename_i hz;exact this c (by simpa using hz.2)
    ·exact this _ (by rw[aB.sub_len];simp)
   ·have ho:off'=off:=by rcases hoff with h|h<;>omega
    subst ho
    have hpos:0< len*(ty t).size:=Nat.mul_pos (by omega) hs
    obtain⟨b,hb,hc⟩:=hH.cellsAt hid (off:=off') (by omega)
    have hIb:mH β H is I b:=.inr ⟨id,_,his id (by simp[Cell.ids]),hid,hb⟩
    have hda:=aB.rel_D hd hIb (hc.widen hI hlow)
    have hv':v= .slice (some ⟨b,off',none⟩) len cap:=by rw[hv];simp[place,hb]
    rw[hv']
    split
    ·rename_i hz
     rw[hz.1];exact hda.ds hlc (fun h=>by omega)
    ·have:=hda.sub hle
     rw[Nat.zero_add]at this;exact this.ds hlc (fun h=>by rw[aB.sub_len]at h;omega)
  ·exact h.elim
 ·rename_i id off
  split at h
  ·rename_i t c capc hid
   obtain⟨hd,hle,hK⟩:=h;obtain⟨b,hb,hc⟩:=hH.cellsAt hid hle
   have hv:v= .pointer (place β id off):=hx
   refine⟨_,hK,?_,rfl,by simp⟩
   have hda:=aB.rel_D hd (.inr ⟨id,_,his id (by simp[Cell.ids]),hid,hb⟩:mH β H is I b) (hc.widen hI (hH.low id _ hid).2)
   have:=hda.dp hle
   rw[Nat.zero_add]at this;rw[hv]
   simpa [place,hb]using this
  ·exact h.elim
 ·exact h.elim
 ·rename_i h1 h2 h3
  have hp:x.pureB=true:=by
   cases x<;>first|rfl|exact absurd rfl (h1 _ _ _ _)|exact absurd rfl (h2 _ _)|exact absurd rfl (h3 _)
  rw[Cell.rel_eq hnc]at hx;refine⟨x,h,?_,hp,hnc⟩
  have:aZ I w x v:=by cases x<;>first|exact hx|(simp[Cell.pureB]at hp)
  exact this.mono (Ext.widen hI)

theorem Wi{is:List Nat}(hH:aQ C β n H I w):∀ {l:List Cell} {g:Nat->Value} {K:List Cell->Prop},(∀ x∈l,x.low n)->(∀ x∈l,∀ g cs,x≠ .clo g cs)->(∀ x∈l,∀ i∈x.ids,i∈is)->(∀ j,j< l.length->(l.getD j .nils).rel β I w (g j))->l6 ty H l K->
  ∃ l',K l'/\l'.length=l.length/\∀ j,j< l.length->aZ (mH β H is I) w (l'.getD j .nils) (g j)/\(l'.getD j .nils).pureB=true/\∀ g cs,l'.getD j .nils≠ .clo g cs
 |[],g,K,_,_,_,_,h=>⟨[],h,rfl,fun j hj=>absurd hj (Nat.not_lt_zero j)⟩
 |x::l,g,K,hl,hnc,his,hr,h=>by
  obtain⟨y,h,hy,hyp,hync⟩:=Rk hH (hl x (List.mem_cons_self ..)) (hnc x (List.mem_cons_self ..)) (his x (List.mem_cons_self ..)) (hr 0 (by simp)) h;obtain⟨l',hK,hll,hrel⟩:=Wi (g:=fun j=>g (j+1)) hH (fun x hx=>hl x (List.mem_cons_of_mem _ hx)) (fun x hx=>hnc x (List.mem_cons_of_mem _ hx)) (fun x hx=>his x (List.mem_cons_of_mem _ hx)) (fun j hj=>by have:=hr (j+1) (by simp;omega);simpa using this) h;refine⟨y::l',hK,by simp[hll],fun j hj=>?_⟩
  cases j with
  |zero=>exact⟨hy,hyp,hync⟩
  |succ j=>have:=hrel j (by simp at hj;omega);simpa using this

theorem zun{x:Cell}(h:x.pureB=true)(hc:∀ g cs,x≠ .clo g cs):x.low 0:=by
 rw[Cell.low_eq hc];exact Cell.pure_low1 h

theorem zs4{is:List Nat}(hH:aQ C β n H I w){v:SV}(hvl:v.low n)(his:∀ i∈v.ids,i∈is){x:Value}(hx:v.rel β I w x){K:SV->Prop}(h:qG ty H v K):
  ∃ u,K u/\u.rel ll (mH β H is I) w x/\u.low 0:=by
 unfold qG at h
 split at h
 ·rename_i y
  unfold Ij at h
  split at h
  ·rename_i f caps
   obtain⟨hnc,h⟩:=h;obtain⟨g,rfl,hg⟩:=hx
   obtain⟨l',hK,hll,hr⟩:=Wi (is:=is) (g:=g) hH (fun z hz=>by rw[Cell.low_eq (hnc z hz)];exact hvl z hz) hnc (fun z hz i hi=>his i (by
    simp only[SV.ids,Cell.ids,List.mem_flatMap]
    refine⟨z,hz,?_⟩
    cases z<;>first|exact hi|exact absurd rfl (hnc _ hz _ _)|(simp[Cell.ids]at hi))) (fun j hj=>by
     have:=hg j hj
     rwa [<-Cell.rel_eq (hnc _ (sw hj))]at this) h
   refine⟨_,hK,⟨g,by rw[hll],fun j hj=>?_⟩,fun z hz=>?_⟩
   ·have:=(hr j (by omega)).1
    exact Cell.rel1_of this
   ·obtain⟨j,hj,rfl⟩:=List.mem_iff_getElem.1 hz
    have:=(hr j (by omega)).2
    rw[List.getD_eq_getElem?_getD,List.getElem?_eq_getElem hj,Option.getD_some]at this;exact Cell.pure_low1 this.1
  ·rename_i hnc
   obtain⟨z,hK,hz,hp,hznc⟩:=Rk (is:=is) hH hvl (fun g l e=>hnc g l e) his hx h;exact⟨_,hK,Cell.rel_of hz,zun hp hznc⟩
 ·rename_i l
  obtain⟨hnc,h⟩:=h;obtain⟨vs,rfl,hl,hr⟩:=hx
  obtain⟨l',hK,hll,hr'⟩:=Wi (is:=is) (g:=fun j=>vs.getD j undef) hH hvl hnc (fun z hz i hi=>his i (by simp only[SV.ids,List.mem_flatMap];exact⟨z,hz,hi⟩)) (fun j hj=>by
   obtain⟨u,hu,hru⟩:=hr j hj
   rw[List.getD_eq_getElem?_getD (l:=vs),hu];exact hru) h
  refine⟨_,hK,⟨vs,rfl,by rw[hl];exact hll.symm,fun j hj=>?_⟩,fun z hz=>?_⟩
  ·simp only[aB.len]at hj
   obtain⟨u,hu,_⟩:=hr j (by simp only[aB.len];omega)
   have:=(hr' j (by omega)).1
   rw[List.getD_eq_getElem?_getD (l:=vs),hu,Option.getD_some]at this;exact⟨u,hu,Cell.rel_of this⟩
  ·obtain⟨j,hj,rfl⟩:=List.mem_iff_getElem.1 hz
   have:=(hr' j (by omega)).2
   rw[List.getD_eq_getElem?_getD,List.getElem?_eq_getElem hj,Option.getD_some]at this;exact zun this.1 this.2
 ·rename_i k hk
  obtain⟨vs,rfl,hr⟩:=hx
  have hf:k.flat=true:=by cases k<;>first|rfl|exact absurd rfl (hk _)
  exact⟨_,h,⟨vs,rfl,(aB.rel_flat hf).2 ((aB.rel_flat hf).1 hr)⟩,aB.flat_low hf⟩
 ·exact h.elim

theorem zii{is:List Nat}(hH:aQ C β n H I w):∀ {vs:List SV} {xs:List Value} {K:List SV->Prop},xs.length=vs.length->(∀ (j:Nat) v,vs[j]? =some v->∃ x,xs[j]? =some x/\v.rel β I w x/\v.low n)->(∀ v∈vs,∀ i∈v.ids,i∈is)->kQ ty H vs K->
  ∃ us,K us/\gu (mH β H is I) w us xs
 |[],xs,K,hl,_,_,h=>⟨[],h,hl,fun j v hv=>by simp at hv⟩
 |v::vs,[],K,hl,_,_,h=>by simp at hl
 |v::vs,x::xs,K,hl,hr,his,h=>by
  obtain⟨y,hy,hry,hlow⟩:=hr 0 v rfl
  simp only[List.getElem?_cons_zero,Option.some.injEq]at hy
  subst hy;obtain⟨u,h,hu,hul⟩:=zs4 (is:=is) hH hlow (his v (List.mem_cons_self ..)) hry h;obtain⟨us,hK,hul',hus⟩:=zii (xs:=xs) hH (by simpa using hl) (fun j v hv=>by have:=hr (j+1) v (by simpa using hv);simpa using this) (fun v hv=>his v (List.mem_cons_of_mem _ hv)) h;refine⟨u::us,hK,by simp[hul'],fun j v' hv'=>?_⟩
  cases j with
  |zero=>simp only[List.getElem?_cons_zero,Option.some.injEq]at hv';subst hv';exact⟨x,rfl,hu,hul⟩
  |succ j=>have:=hus j v' (by simpa using hv');simpa using this

theorem SV.noVal_rel{v:SV}(hl:v.low 0){x:Value}(h:v.rel ll I w x):v.rel β I w x:=SV.rel_mono (n:=0) (fun i hi=>absurd hi (Nat.not_lt_zero i)) (Ext.refl _ _) hl h

theorem Il(hH:aQ C β n H I w){is:List Nat}:∀ b,mH β H is I b->b< w.heap.size:=by
 rintro b (h|⟨id,o,_,ho,hb⟩)
 ·exact hH.ilt b h
 ·exact(hH.holds id o ho).lt hb

theorem X7(hH:aQ C β n H I w){is:List Nat}{I':Nat->Prop}{w':World}(hg:oM (mH β H is I) w I' w'):Ext I w I' w'/\aQ C β n (H.delAll is) I' w':=by
 refine⟨fun b hb=>⟨hg.le b (.inl hb),hg.same.block b (hH.ilt b hb)⟩,?_⟩
 have h1:=(hH.later hg.same).sub (H':=H.delAll is) fun id o ho=>by
  rw[Heap.get_delAll]at ho
  split at ho
  ·cases ho
  ·exact ho
 refine h1.widen (fun b hb=>hg.le b (.inl hb)) hg.lt (fun id o ho b hb hI=>?_) (fun b hb=>?_)
 ·rw[Heap.get_delAll]at ho
  split at ho
  ·cases ho
  ·rename_i hni
   rcases hg.new b hI with(h|⟨id',o',hi',ho',hb'⟩)|h
   ·exact hH.off id o ho b hb h
   ·exact hH.sep id id' o o' (fun e=>hni (e▸hi')) ho ho' b hb hb'
   ·have:=(hH.holds id o ho).lt hb;omega
 ·rcases hg.new b hb with(h|⟨id',o',hi',ho',hb'⟩)|h
  ·exact hH.i0 b h
  ·exact .inr (hH.fresh id' o' ho' b hb')
  ·exact .inr (.inl (Nat.le_trans hH.size h))
theorem zxh(hH:aQ C β n H I w){is:List Nat}{v:SV}{x:Value}{I':Nat->Prop}{w':World}(hv:v.rel ll I' w' x)(hl:v.low 0)(hg:oM (mH β H is I) w I' w'){K:SV->Heap->Nat->Prop}(hK:K v (H.delAll is) n):wF C β n I w K x w':=
 let ⟨hE,hH'⟩:=X7 hH hg
 ⟨hg.same,v,_,n,β,I',hK,SV.noVal_rel hl hv,SV.low_mono (Nat.zero_le _) hl,Nat.le_refl _,fun _ _=>rfl,hE,hH'⟩
end
end Go.Ab

namespace Go.Ab
open Go.RowKit
section
variable {P:Program} {C:CC} {β:Val} {n:Nat} {H:Heap} {I:Nat->Prop} {w:World} {E:Env} {a:Act} {Γ:Ctx}

def mR(Γ:Ctx)(f:FuncId)(vs:List SV)(H:Heap)(n:Nat)(K:SV->Heap->Nat->Prop):Prop:=
 match rV Γ.fs f with
 |some (.flat q)=>kQ Γ.ty H vs fun us=>q us fun v=>K v H n
 |some (.data q)=>kQ Γ.ty H vs fun us=>q us fun v=>K v (H.delAll (vs.flatMap SV.ids)) n
 |some (.own q)=>kQ Γ.ty H vs fun us=>q us fun t s len c=>c.flat=true/\∀ cap,len<=cap->K (.c (.slice n 0 len cap)) ((n,.own t c (cap*s))::H) (n+1)
 |some (.ownD q)=>kQ Γ.ty H vs fun us=>q us fun t s len c=>∀ cap,len<=cap->K (.c (.slice n 0 len cap)) ((n,.own t c (cap*s))::H.delAll (vs.flatMap SV.ids)) (n+1)
 |_=>False

def z76(x:SV)(vs:List SV)(K:FuncId->List SV->Prop):Prop:=
 match x with
 | .c (.clo f [])=>K f vs
 | .c (.clo f caps)=>K f (vs++caps.map .c)
 |_=>False

def z77(β:Val)(n:Nat)(I:Nat->Prop)(w:World)(vs:List SV)(xs:List Value):Prop:=
 xs.length=vs.length/\∀ (j:Nat) v,vs[j]? =some v->∃ x,xs[j]? =some x/\v.rel β I w x/\v.low n

theorem R7{x:SV}{v:Value}(hx:x.rel β I w v)(hxl:x.low n){vs:List SV}{xs:List Value}(hr:z77 β n I w vs xs){K:FuncId->List SV->Prop}(h:z76 x vs K):
  ∃ f vs' cs,K f vs'/\v= .func (.func f) #[] cs/\z77 β n I w vs' (xs++cs.toList):=by
 have key:∀ f caps,x= .c (.clo f caps)->K f (vs++caps.map .c)->∃ f vs' cs,K f vs'/\v= .func (.func f) #[] cs/\z77 β n I w vs' (xs++cs.toList):=by
  rintro f caps rfl hK
  obtain⟨g,rfl,hg⟩:=hx;refine⟨f,_,_,hK,rfl,by simp[hr.1],fun j v hv=>?_⟩
  by_cases hj:j< vs.length
  ·rw[List.getElem?_append_left hj]at hv
   obtain⟨y,hy,h2⟩:=hr.2 j v hv;exact⟨y,by rw[List.getElem?_append_left (by rw[hr.1];exact hj)];exact hy,h2⟩
  ·rw[List.getElem?_append_right (by omega),List.getElem?_map]at hv
   obtain⟨y,hy,rfl⟩:=Option.map_eq_some_iff.1 hv
   have hlt:j - vs.length< caps.length:=(List.getElem?_eq_some_iff.1 hy).1
   refine⟨g (j - vs.length),?_,?_,?_⟩
   ·rw[List.getElem?_append_right (by rw[hr.1];omega),hr.1]
    simp[hlt]
   ·have:=hg _ hlt
    rw[List.getD_eq_getElem?_getD,hy,Option.getD_some]at this
    rcases Cell.clo_or y with⟨f',cs',rfl⟩|hnc
    ·exact Cell.rel_of (show aZ I w _ _ from this)
    ·show y.rel β I w _
     rw[Cell.rel_eq hnc];exact this
   ·have hy':y.low1 n:=hxl y (List.mem_of_getElem? hy)
    rcases Cell.clo_or y with⟨f',cs',rfl⟩|hnc
    ·have:=hg _ hlt
     rw[List.getD_eq_getElem?_getD,hy,Option.getD_some]at this;exact aZ.low (show aZ I w _ _ from this)
    ·show y.low n
     rw[Cell.low_eq hnc];exact hy'
 unfold z76 at h
 split at h
 ·exact key _ [] rfl (by simpa using h)
 ·exact key _ _ rfl h
 ·exact h.elim

theorem Mi(hH:aQ C β n H I w){vs:List SV}{xs:List Value}(hr:z77 β n I w vs xs){ty:Nat->Ty}{K:List SV->Prop}(h:kQ ty H vs K):∃ us,K us/\gu (mH β H (vs.flatMap SV.ids) I) w us xs:=
 zii hH hr.1 hr.2 (fun v hv i hi=>List.mem_flatMap.2 ⟨v,hv,hi⟩) h

theorem zi{t:TypeId}{c:aB}{cap:Nat}{β':Val}{I':Nat->Prop}{w':World}{ad:Option Nat}(hf:c.flat=true)(h:(dw.own t c cap).Holds β I w' ad):(dw.own t c cap).Holds β' I' w' ad:=by
 rcases h with⟨b,arr,h1,h2,h3,h4,h5⟩|h
 ·exact .inl ⟨b,arr,h1,h2,h3,h4,(aB.rel_flat hf).2 ((aB.rel_flat hf).1 h5)⟩
 ·exact .inr h

theorem zik(hΓ:Γ.OK)(hG:mF Γ.glob I w)(hH:aQ C β n H I w){f:FuncId}{vs:List SV}{xs:List Value}(hr:z77 β n I w vs xs){K:SV->Heap->Nat->Prop}(h:mR Γ f vs H n K):
  qJ Γ.P f/\Calls Γ.P f xs.toArray w fun e w'=>∃ x,e= .returned x/\wF C β n I w K x w':=by
 have hGi:mF Γ.glob (mH β H (vs.flatMap SV.ids) I) w:=hG.mono (Ext.widen fun b h=>.inl h)
 unfold mR at h
 split at h
 ·rename_i q hq
  obtain⟨hen,hok⟩:=hΓ.fs.look hq;obtain⟨us,h,hargs⟩:=Mi hH hr h;obtain⟨v,hK,hf,hc⟩:=hok us _ h;refine⟨hen,(hc _ w xs hGi (Il hH) hargs).mono ?_⟩
  rintro e w' ⟨rfl,hs⟩
  exact⟨_,rfl,hs,v,H,n,β,I,hK,(SV.rel_flat hf).2 rfl,SV.flat_low hf,Nat.le_refl _,fun _ _=>rfl,hH.ext hs,hH.later hs⟩
 ·rename_i q hq
  obtain⟨hen,hok⟩:=hΓ.fs.look hq;obtain⟨us,h,hargs⟩:=Mi hH hr h;obtain⟨v,hK,hl,hc⟩:=hok us _ h;refine⟨hen,(hc _ w xs hGi (Il hH) hargs).mono ?_⟩
  rintro e w' ⟨x,I',rfl,hv,hg⟩
  exact⟨_,rfl,zxh hH hv hl hg hK⟩
 ·rename_i q hq
  obtain⟨hen,hok⟩:=hΓ.fs.look hq;obtain⟨us,h,hargs⟩:=Mi hH hr h;obtain⟨t,s,len,c,⟨hf,hK⟩,hl,hc⟩:=hok us _ h;refine⟨hen,(hc _ w xs hGi (Il hH) hargs).mono ?_⟩
  rintro e w' ⟨x,I',rfl,⟨ad,cap,o,rfl,ho,hlc,hcl,hh,hnew⟩,hg⟩
  have hH1:=hH.later hg.same
  refine⟨_,rfl,hg.same,_,_,n+1,upd β n ad,I,hK cap hlc,⟨hlc,o,by simp[place,uV],ho⟩,Nat.lt_succ_self n,Nat.le_succ _,tF,hH.ext hg.same,hH1.name (zi hf hh) (aB.flat_low hf) (fun b hb=>.inl (Nat.le_trans hH.size (hnew b hb).1)) (fun id o ho b hb hb'=>?_) (fun b hb hI=>?_)⟩
  ·have:=(hH.holds id o ho).lt hb
   have:=(hnew b hb').1
   omega
  ·have:=hH.ilt b hI
   have:=(hnew b hb).1
   omega
 ·rename_i q hq
  obtain⟨hen,hok⟩:=hΓ.fs.look hq;obtain⟨us,h,hargs⟩:=Mi hH hr h;obtain⟨t,s,len,c,hK,hl,hc⟩:=hok us _ h;refine⟨hen,(hc _ w xs hGi (Il hH) hargs).mono ?_⟩
  rintro e w' ⟨x,I',rfl,⟨ad,cap,o,rfl,ho,hlc,hcl,hh,hnew⟩,hg⟩
  obtain⟨hE,hH'⟩:=X7 hH hg;refine⟨_,rfl,hg.same,_,_,n+1,upd β n ad,I',hK cap hlc,⟨hlc,o,by simp[place,uV],ho⟩,Nat.lt_succ_self n,Nat.le_succ _,tF,hE,hH'.name (hh.mono (n:=0) (fun i hi=>absurd hi (Nat.not_lt_zero i)) (Ext.refl _ _) hl fun _ _=>rfl) (aB.low_mono (Nat.zero_le _) hl) (fun b hb=>.inl (Nat.le_trans hH.size (hnew b hb).1)) (fun id o ho b hb hb'=>?_) (fun b hb=>(hnew b hb).2)⟩;rw[Heap.get_delAll]at ho
  split at ho
  ·cases ho
  ·have:=(hH.holds id o ho).lt hb
   have:=(hnew b hb').1
   omega
 ·exact h.elim


theorem L9{D:List Deferred}{glob:Nat->Option aB}(hE:gy D β n I w E a)(hG:mF glob I w){xs:List Operand}{K:List SV->Prop}(h:evs glob E xs K):∃ vs,K vs/\z77 β n I w vs (xs.map a.eval):=by
 obtain⟨vs,hK,hlow,hl,hr⟩:=SE hE hG h;refine⟨vs,hK,by simp[hl],fun j v hv=>?_⟩
 have hj:j< xs.length:=by rw[<-hl];exact(List.getElem?_eq_some_iff.1 hv).1
 exact⟨a.eval xs[j],by simp[hj],hr j _ v (List.getElem?_eq_getElem hj) hv,hlow v (List.mem_of_getElem? hv)⟩

theorem SF{o:Oper}{c:Call}{x:Operand}{f:FuncId}{cs:Array Value}(ho:o.op= .call c)(hc:c.callee= .value x)(hx:a.eval x= .func (.func f) #[] cs)(he:qJ P f):
  (execOp a.eval o).run P w= .ok (.enter f (c.args.toList.map a.eval++cs.toList).toArray) w:=by
 have e:c.args.map a.eval++cs=(c.args.toList.map a.eval++cs.toList).toArray:=by
  apply Array.ext';simp
 simp only[execOp,ho,resolve,hc,hx,Deferred.ofValue,Sem.run_bind,Sem.run_pure,Result.andThen_ok,invoke,Array.empty_append,e,he _ _]

def rF(Γ:Ctx)(o:Oper)(E:Env)(H:Heap)(n:Nat)(K:SV->Heap->Nat->Prop):Prop:=
 match o.op with
 | .alloc t=>Zp Γ.ty t H n K
 | .box t x=>iY (E.ev Γ.glob x) fun v=>OP v t H n K
 | .buildSlice t len parts=>parts.toList.map (·.1)=List.range len/\evs Γ.glob E (parts.toList.map (·.2)) fun vs=>Wh Γ.ty t len vs H n K
 | .makeSlice t l c=>vQ (E.ev Γ.glob l) fun l=>vQ (E.ev Γ.glob c) fun c=>zM Γ.ty t l c H n K
 | .build t parts=>evs Γ.glob E (parts.toList.map (·.2)) fun vs=>QS Γ.ty t ((parts.toList.map (·.1)).zip vs) fun v=>K v H n
 | .makeMap t none=>zul Γ.ty t H n K
 | .convert src dst x=>match Γ.ty src with
  | .str=>iY (E.ev Γ.glob x) fun v=>X6 Γ.ty src dst v fun v=>K v H n
  |_=>jF Γ.ty Γ.glob o E H fun v=>K v H n
 | .call c=>match c.callee with
  | .value x=>iY (E.ev Γ.glob x) fun x=>evs Γ.glob E c.args.toList fun vs=>z76 x vs fun f vs=>mR Γ f vs H n K
  |_=>jF Γ.ty Γ.glob o E H fun v=>K v H n
 |_=>jF Γ.ty Γ.glob o E H fun v=>K v H n

def Dp(Γ:Ctx)(f:FuncId)(vs:List SV)(H:Heap)(n:Nat)(K:SV->Heap->Nat->Prop):Prop:=
 match rV Γ.fs f with
 |some (.gen s)=>s vs H n K
 |_=>mR Γ f vs H n K

def zN(ty:Nat->Ty)(t:TypeId)(v:SV)(H:Heap)(n:Nat)(K:SV->Heap->Nat->Prop):Prop:=
 match ty t,v with
 | .slice e s _,.c (.slice id off len _)=>match H.get id with
  |some (.own _ (.u8s l) _)=>(ty e= .int .u8/\s=1/\off=0/\len=l.length/\0< len)/\K (.c (.ds len (.u8s l))) (H.del id) n
  |_=>False
 |_,_=>False

theorem Heap.del_sub{id i:Nat}{o:dw}:∀ {H:Heap},(H.del id).get i=some o->i≠id/\H.get i=some o
 |[],h=>by cases h
 | (j,p)::H,h=>by
  simp only[Heap.del]at h
  by_cases hj:j=id
  ·rw[if_pos hj]at h
   obtain⟨h1,h2⟩:=Heap.del_sub h;refine⟨h1,?_⟩
   simp only[Heap.get]
   rw[if_neg (fun e=>h1 (by rw[<-e,hj]))];exact h2
  ·rw[if_neg hj]at h
   simp only[Heap.get]at h ⊢
   by_cases e:j=i
   ·rw[if_pos e]at h ⊢
    exact⟨fun e2=>hj (e.trans e2),h⟩
   ·rw[if_neg e]at h ⊢
    exact Heap.del_sub h

theorem zz5{P:Program}{ty:Nat->Ty}(hT:fD P ty)(hH:aQ C β n H I w){t:TypeId}{v:SV}{x:Value}(hx:v.rel β I w x){K:SV->Heap->Nat->Prop}(h:zN ty t v H n K):
  ∃ u w',(convert t t x).run P w= .ok u w'/\After C β n I w K u w':=by
 unfold zN at h
 split at h
 ·rename_i e s by_ id off len cap ht
  split at h
  ·rename_i te l capc hid
   obtain⟨⟨he,hs1,hoff,hlen,hpos⟩,hK⟩:=h;subst hoff hlen;obtain⟨hlc,off',hv,ho⟩:=hx
   have h0:off'=0:=by rcases ho with h|h<;>omega
   subst h0
   rcases hH.holds id _ hid with⟨b,arr,hb,hw,hsz,hle,hrel⟩|⟨_,h0,_⟩
   ·have hpl:place β id 0=some ⟨b,0,none⟩:=by simp[place,hb]
    rw[hpl]at hv;subst hv
    have hsh:w.shape? b=some (te,arr.size):=by unfold World.shape?;rw[hw]
    have hwb:(w.freeze ⟨b,arr.size,none⟩ 1).heap[b]? =some (.cells arr te (arr.size,arr.size+1)):=by
     unfold World.freeze;rw[if_neg (by decide)]
     simp[Array.getElem?_modify,hw]
    have hoth:∀ k,k≠b->(w.freeze ⟨b,arr.size,none⟩ 1).heap[k]? =w.heap[k]? :=fun k hk=>by
     unfold World.freeze;rw[if_neg (by decide)]
     simp[Array.getElem?_modify,Ne.symm hk]
    have hsize:(w.freeze ⟨b,arr.size,none⟩ 1).heap.size=w.heap.size:=by
     unfold World.freeze;rw[if_neg (by decide)]
     simp
    have hrun:(convert t t (.slice (some ⟨b,0,none⟩) l.length cap)).run P w= .ok (.slice (some ⟨b,0,none⟩) l.length cap) (w.freeze ⟨b,arr.size,none⟩ 1):=by
     simp[convert,run_underlying (hT.slice _ _ _ _ ht).1,run_underlying (hT.int _ _ he),markStringish,hsh]
    obtain⟨w',hw'⟩:∃ w',w.freeze ⟨b,arr.size,none⟩ 1=w':=⟨_,rfl⟩
    have hos:w'.os=w.os:=by rw[<-hw'];rfl
    have htape:w'.tape=w.tape:=by rw[<-hw'];rfl
    have hout:w'.output=w.output:=by rw[<-hw'];rfl
    rw[hw']at hwb hoth hsize hrun
    have hbs:b< w.heap.size:=(hH.holds id _ hid).lt hb
    have hIb:¬ I b:=hH.off id _ hid b hb
    have hE:Ext I w (fun k=>I k\/k=b) w':=fun k hk=>⟨.inl hk,hoth k (fun e=>hIb (e▸hk))⟩
    refine⟨_,w',hrun,.c (.ds l.length (.u8s l)),H.del id,n,β,fun k=>I k\/k=b,hK,?_,trivial,Nat.le_refl _,fun _ _=>rfl,hE,?_⟩
    ·refine eH.ds (c:=.u8s l) ⟨.inr rfl,fun j hj=>?_⟩ hlc (fun h=>h)
     simp only[aB.len]at hj hle hrel
     have hr:=(aB.rel_flat (c:=.u8s l) rfl).1 hrel
     have hja:j< arr.size:=by omega
     refine⟨arr[j],by rw[Nat.zero_add,cell_of_row w' b j arr te _ hwb];simp[hja],?_⟩
     have e1:arr[j]=(Cell.u8 (l.getD j 0)).val:=by
      have:=congrArg (fun z=>z[j]?) hr
      simp[aB.vals,aB.list,hja,hj,List.getElem?_take_of_lt hj]at this
      rw[this]
      simp[List.getD_eq_getElem?_getD,hj]
     rw[e1];exact aZ.flat (.u8 _) rfl
    ·have hne:∀ i o,(H.del id).get i=some o->i≠id/\H.get i=some o:=fun i o h=>Heap.del_sub h
     have hblk:∀ i o,i≠id->H.get i=some o->∀ k,β i=some k->k≠b:=fun i o hi ho k hk e=>hH.sep i id o _ hi ho hid k hk (e▸hb)
     refine⟨hos.trans hH.os,htape.trans hH.tape,hout.trans hH.output,by rw[hsize];exact hH.size,?_,?_,?_,?_,?_,?_,?_,?_,fun k hk=>.inl (hH.base k hk)⟩
     ·intro k hk hF
      rw[hoth k ?_]
      ·exact hH.frame k hk hF
      ·intro e
       rcases hH.fresh id _ hid b hb with h1|h1
       ·omega
       ·exact hF (e▸h1)
     ·intro i o h
      obtain⟨hi,ho⟩:=hne i o h
      have hh:=hH.holds i o ho
      exact hh.mono (n:=n) (fun _ _=>rfl) hE (hH.low i o ho).2 fun k hk=>hoth k (hblk i o hi ho k hk)
     ·intro i o h;exact hH.low i o (hne i o h).2
     ·intro i o h;exact hH.fresh i o (hne i o h).2
     ·intro i j oi oj hij hi hj;exact hH.sep i j oi oj hij (hne i oi hi).2 (hne j oj hj).2
     ·intro i o h k hk hI
      obtain⟨hi,ho⟩:=hne i o h
      rcases hI with h1|h1
      ·exact hH.off i o ho k hk h1
      ·exact hblk i o hi ho k hk h1
     ·intro k hk
      rw[hsize]
      rcases hk with h1|h1
      ·exact hH.ilt k h1
      ·rw[h1];exact hbs
     ·intro k hk
      rcases hk with h1|h1
      ·exact hH.i0 k h1
      ·rw[h1];exact .inr (hH.fresh id _ hid b hb)
   ·simp only[aB.len]at h0;omega
  ·exact h.elim
 ·exact h.elim

def iW (Γ:Ctx) (o:Oper) (E:Env) (H:Heap) (n:Nat) (K:SV->Heap->Nat->Prop):Prop:=
 match o.op with
 | .store t x y=>iY (E.ev Γ.glob x) fun x=>iY (E.ev Γ.glob y) fun y=>match x with
  | .c (.ptr id off)=>Zq Γ.ty t id off y H n K
  |_=>False
 | .mapUpdate t m k v=>iY (E.ev Γ.glob m) fun m=>iY (E.ev Γ.glob k) fun k=>iY (E.ev Γ.glob v) fun v=>TQ Γ.ty t m k v H n K
 | .insert t m k v=>iY (E.ev Γ.glob m) fun m=>iY (E.ev Γ.glob k) fun k=>iY (E.ev Γ.glob v) fun v=>TQ Γ.ty t m k v H n K
 | .call c=>match c.callee with
  | .value x=>iY (E.ev Γ.glob x) fun x=>evs Γ.glob E c.args.toList fun vs=>z76 x vs fun f vs=>Dp Γ f vs H n K
  | .builtin .append=>match c.args.toList,c.argTypes.toList with
   |[x,y],[t,u]=>iY (E.ev Γ.glob x) fun x=>iY (E.ev Γ.glob y) fun y=>match Γ.ty u with
    | .int _=>Yv Γ.ty t x y H n K
    |_=>zs0 Γ.ty t u x y H n K
   |_,_=>False
  |_=>jF Γ.ty Γ.glob o E H fun v=>K v H n
 | .convert src dst x=>match Γ.ty src,Γ.ty dst with
  | .slice _ _ _,.slice _ _ _=>src=dst/\iY (E.ev Γ.glob x) fun v=>zN Γ.ty src v H n K
  |_,_=>rF Γ o E H n K
 |_=>rF Γ o E H n K

theorem Wj{parts:Array (Nat×Operand)}{vs:List SV}(h:z77 β n I w vs ((parts.toList.map (·.2)).map a.eval)):
  Sj β I w ((parts.toList.map (·.1)).zip vs) (parts.toList.map fun(x:Nat×Operand)=>(x.1,a.eval x.2))/\∀ v∈((parts.toList.map (·.1)).zip vs).map (·.2),SV.low n v:=by
 have hl:vs.length=parts.toList.length:=by rw[<-h.1];simp
 refine⟨⟨by simp[hl],fun j i v hj=>?_⟩,fun v hv=>?_⟩
 ·obtain⟨h1,h2⟩:=List.getElem?_zip_eq_some.1 hj
  obtain⟨x,hx,hr,_⟩:=h.2 j v h2
  simp only[List.getElem?_map]at h1 hx ⊢
  obtain⟨q,hq,rfl⟩:=Option.map_eq_some_iff.1 h1;rw[hq]at hx ⊢
  simp only[Option.map_some,Option.some.injEq]at hx ⊢
  exact⟨x,by rw[<-hx],hr⟩
 ·rw[List.map_snd_zip (by simp[hl])]at hv
  obtain⟨j,hj,rfl⟩:=List.mem_iff_getElem.1 hv;obtain⟨x,_,_,hlow⟩:=h.2 j _ (List.getElem?_eq_getElem hj);exact hlow

theorem Wy{o:Oper}{t:TypeId}{parts:Array (Nat×Operand)}{v:Value}(ho:o.op= .build t parts)(h:(Instr.build t (parts.toList.map fun(x:Nat×Operand)=>(x.1,a.eval x.2)).toArray).run P w= .ok v w):(execOp a.eval o).run P w= .ok (.value v) w:=by
 have e:parts.map (fun(x:Nat×Operand)=>(x.1,a.eval x.2))=(parts.toList.map fun(x:Nat×Operand)=>(x.1,a.eval x.2)).toArray:=by rw[<-Array.toList_map,Array.toArray_toList]
 simp only[execOp,ho,e]
 exact kT _ h

theorem fC.mono{o:Oper}{R R':Value->World->Prop}(h:fC P a o w R)(hR:∀ v w',R v w'->R' v w'):fC P a o w R':=by
 unfold fC at h ⊢
 split at h
 ·exact hR _ _ h
 ·exact hR _ _ h
 ·exact Calls.mono h fun e w'' ⟨v,he,hr⟩=>⟨v,he,hR _ _ hr⟩
 ·exact h.elim

theorem PM{D:List Deferred}(hΓ:Γ.OK)(hE:gy D β n I w E a)(hG:mF Γ.glob I w)(hH:aQ C β n H I w){o:Oper}{K:SV->Heap->Nat->Prop}(h:rF Γ o E H n K):fC Γ.P a o w (wF C β n I w K):=by
 have pure:jF Γ.ty Γ.glob o E H (fun v=>K v H n)->fC Γ.P a o w (wF C β n I w K):=fun h=>(Rj (P:=Γ.P) hΓ.ty hG hE hH h).runs hH
 unfold rF at h
 split at h
 ·rename_i t ho;exact zxf hΓ.ty hH ho h
 ·rename_i t x ho
  obtain⟨v,hv,hb,h⟩:=iP hE hG h;exact AY hH ho hv hb h
 ·rename_i t len parts ho
  obtain⟨hp,h⟩:=h;obtain⟨vs,h,hlow,hl,hr⟩:=SE hE hG h;exact zie hΓ.ty hH ho hp ⟨by simpa using hl,hr⟩ hlow h
 ·rename_i t l c ho
  obtain⟨kl,il,hl,h⟩:=uS hE hG h;obtain⟨kc,ic,hc,h⟩:=uS hE hG h;obtain⟨v,w',hr,hA⟩:=zz4 (P:=Γ.P) (kl:=kl) (kc:=kc) hΓ.ty hH h;refine fC.of_value (w':=w') (v:=v) ?_ hA
  simp only[execOp,ho,hl,hc]
  exact congrArg _ (by rfl) |>.trans (by simp[hr])
 ·rename_i t parts ho
  obtain⟨vs,h,hr⟩:=L9 hE hG h;obtain⟨hp,hlow⟩:=Wj hr;obtain⟨v,x,hK,hl,hrel,hrun⟩:=Wx (P:=Γ.P) hΓ.ty hp hlow h;exact fC.of_value (Wy ho (hrun w)) ⟨Below.refl _ _,v,H,n,β,I,hK,hrel,hl,Nat.le_refl _,fun _ _=>rfl,Ext.refl _ _,hH⟩
 ·rename_i t ho
  exact zpf hH ho h
 ·rename_i src dst x ho
  split at h
  ·obtain⟨v,hv,hb,h⟩:=iP hE hG h
   obtain⟨u,w',hr,hA⟩:=zmi (P:=Γ.P) hΓ.ty hH hv h;refine fC.of_value (w':=w') (v:=u) ?_ hA
   simp only[execOp,ho]
   exact congrArg _ (by rfl) |>.trans (by simp[hr])
  ·exact pure h
 ·rename_i c ho
  split at h
  ·rename_i x hc
   obtain⟨vx,hvx,hxl,h⟩:=iP hE hG h;obtain⟨vs,h,hr⟩:=L9 hE hG h;obtain⟨f,vs',cs,h,hf,hr'⟩:=R7 hvx hxl hr h;obtain⟨he,hcall⟩:=zik hΓ hG hH hr' h;unfold fC;rw[SF ho hc hf he];exact hcall
  ·exact pure h
 ·exact pure h

theorem Mf{D:List Deferred}(hΓ:Γ.OK)(hE:gy D β n I w E a)(hG:mF Γ.glob I w)(hH:aQ C β n H I w){o:Oper}{K:SV->Heap->Nat->Prop}(h:iW Γ o E H n K):fC Γ.P a o w (After C β n I w K):=by
 have pure:jF Γ.ty Γ.glob o E H (fun v=>K v H n)->fC Γ.P a o w (After C β n I w K):=fun h=>((Rj (P:=Γ.P) hΓ.ty hG hE hH h).runs hH).mono fun _ _ h=>h.2
 unfold iW at h
 split at h
 ·rename_i t x y ho
  obtain⟨vx,hvx,hbx,h⟩:=iP hE hG h;obtain⟨vy,hvy,hby,h⟩:=iP hE hG h
  split at h
  ·exact zxg hΓ.ty hH ho hvx hvy hby h
  ·exact h.elim
 ·rename_i t m k v ho
  obtain⟨vm,hvm,hbm,h⟩:=iP hE hG h;obtain⟨vk,hvk,hbk,h⟩:=iP hE hG h;obtain⟨vv,hvv,hbv,h⟩:=iP hE hG h;obtain⟨w',hr,hA⟩:=zig (P:=Γ.P) hΓ.ty hH hvm hvk hvv hbk hbv h;exact fC.of_skip (by simp[execOp,ho,hr]) hA
 ·rename_i t m k v ho
  obtain⟨vm,hvm,hbm,h⟩:=iP hE hG h;obtain⟨vk,hvk,hbk,h⟩:=iP hE hG h;obtain⟨vv,hvv,hbv,h⟩:=iP hE hG h;obtain⟨w',hr,hA⟩:=zig (P:=Γ.P) hΓ.ty hH hvm hvk hvv hbk hbv h;exact fC.of_skip (by simp[execOp,ho,hr]) hA
 ·rename_i c ho
  split at h
  ·rename_i x hc
   obtain⟨vx,hvx,hxl,h⟩:=iP hE hG h;obtain⟨vs,h,hr⟩:=L9 hE hG h;obtain⟨f,vs',cs,h,hf,hr'⟩:=R7 hvx hxl hr h;unfold Dp at h
   split at h
   ·rename_i s hs
    obtain⟨he,hok⟩:=hΓ.fs.look hs;unfold fC;rw[SF ho hc hf he];exact hok C β n H I w vs' _ K hG hH hr'.1 hr'.2 h
   ·obtain⟨he,hcall⟩:=zik hΓ hG hH hr' h
    unfold fC;rw[SF ho hc hf he];exact hcall.mono fun e w' ⟨x,h1,h2⟩=>⟨x,h1,h2.2⟩
  ·rename_i hc
   split at h
   ·rename_i x y t u hl ht
    obtain⟨vx,hvx,hbx,h⟩:=iP hE hG h;obtain⟨vy,hvy,hby,h⟩:=iP hE hG h
    obtain⟨v,w',hr,hA⟩:∃ v w',(Builtin.append_ #[t,u] o.type #[a.eval x,a.eval y]).run Γ.P w= .ok v w'/\After C β n I w K v w':=by
     split at h
     ·rename_i hu
      exact zs3 (P:=Γ.P) (ty':=o.type) hΓ.ty hH hu hvx hvy h
     ·exact zs1 (P:=Γ.P) (ty':=o.type) hΓ.ty hH hvx hvy h
    refine fC.of_value ?_ hA
    have ea:c.argTypes= #[t,u]:=by
     have:=congrArg List.toArray ht
     simpa using this
    have el:c.args= #[x,y]:=by
     have:=congrArg List.toArray hl
     simpa using this
    simp[execOp,ho,resolve,hc,el,invoke,builtin,ea,hr]
   ·exact h.elim
  ·exact pure h
 ·rename_i src dst x ho
  split at h
  ·obtain⟨rfl,h⟩:=h
   obtain⟨vx,hvx,_,h⟩:=iP hE hG h;obtain⟨u,w',hr,hA⟩:=zz5 (P:=Γ.P) hΓ.ty hH hvx h;refine fC.of_value (w':=w') (v:=u) ?_ hA
   simp only[execOp,ho]
   exact congrArg _ (by rfl) |>.trans (by simp[hr])
  ·exact(PM hΓ hE hG hH h).mono fun _ _ h=>h.2
 ·exact(PM hΓ hE hG hH h).mono fun _ _ h=>h.2

def JU(Γ:Ctx)(o:Oper)(E:Env)(H:Heap)(K:SV->Prop):Prop:=
 match o.op with
 | .call c=>match c.callee with
  | .value x=>iY (E.ev Γ.glob x) fun x=>evs Γ.glob E c.args.toList fun vs=>z76 x vs fun f vs=>match rV Γ.fs f with
   |some (.flat q)=>kQ Γ.ty H vs fun us=>q us K
   |_=>False
  |_=>jF Γ.ty Γ.glob o E H K
 | .build t parts=>evs Γ.glob E (parts.toList.map (·.2)) fun vs=>QS Γ.ty t ((parts.toList.map (·.1)).zip vs) K
 |_=>jF Γ.ty Γ.glob o E H K

theorem gu.mono{I':Nat->Prop}{w':World}(hE:Ext I w I' w'){vs:List SV}{xs:List Value}(h:gu I w vs xs):gu I' w' vs xs:=
 ⟨h.1,fun j v hv=>let ⟨x,h1,h2,h3⟩:=h.2 j v hv;⟨x,h1,SV.rel_mono (n:=0) (fun i hi=>absurd hi (Nat.not_lt_zero i)) hE h3 h2,h3⟩⟩

theorem zpg{D:List Deferred}(hΓ:Γ.OK)(hE:gy D β n I w E a)(hG:mF Γ.glob I w)(hH:aQ C β n H I w){o:Oper}{K:SV->Prop}(h:JU Γ o E H K):
  ∃ v x,K v/\v.low n/\v.rel β I w x/\∀ w',Same w w'->o.quietAt Γ.P a (Same w) w' x:=by
 have pure:jF Γ.ty Γ.glob o E H K->∃ v x,K v/\v.low n/\v.rel β I w x/\∀ w',Same w w'->o.quietAt Γ.P a (Same w) w' x:=fun h=>by
  obtain⟨v,x,hK,hl,hr,hrun⟩:=Rj (P:=Γ.P) hΓ.ty hG hE hH h;exact⟨v,x,hK,hl,hr,fun w' hw=>by unfold Oper.quietAt;rw[hrun w' hw];exact⟨rfl,rfl⟩⟩
 unfold JU at h
 split at h
 ·rename_i c ho
  split at h
  ·rename_i x hc
   obtain⟨vx,hvx,hxl,h⟩:=iP hE hG h;obtain⟨vs,h,hr⟩:=L9 hE hG h;obtain⟨f,vs',cs,h,hf,hr'⟩:=R7 hvx hxl hr h
   split at h
   ·rename_i q hq
    obtain⟨hen,hok⟩:=hΓ.fs.look hq;obtain⟨us,h,hargs⟩:=Mi hH hr' h;obtain⟨v,hK,hfl,hcall⟩:=hok us _ h;refine⟨v,v.val,hK,SV.flat_low hfl,(SV.rel_flat hfl).2 rfl,fun w' hw=>?_⟩;unfold Oper.quietAt;rw[SF ho hc hf hen]
    have hlt:=Il hH (is:=vs'.flatMap SV.ids)
    have hE':Ext (mH β H (vs'.flatMap SV.ids) I) w (mH β H (vs'.flatMap SV.ids) I) w':=fun b hb=>⟨hb,hw.block b (hlt b hb)⟩
    refine⟨rfl,(hcall _ w' _ ((hG.mono (Ext.widen fun b h=>.inl h)).mono hE') (fun b hb=>Nat.lt_of_lt_of_le (hlt b hb) hw.size) (hargs.mono hE')).mono ?_⟩
    rintro e w'' ⟨rfl,hs⟩
    exact⟨rfl,hw.trans (hs.mono hw.size)⟩
   ·exact h.elim
  ·exact pure h
 ·rename_i t parts ho
  obtain⟨vs,h,hr⟩:=L9 hE hG h;obtain⟨hp,hlow⟩:=Wj hr;obtain⟨v,x,hK,hl,hrel,hrun⟩:=Wx (P:=Γ.P) hΓ.ty hp hlow h;exact⟨v,x,hK,hl,hrel,fun w' _=>by unfold Oper.quietAt;rw[Wy ho (hrun w')];exact⟨rfl,rfl⟩⟩
 ·exact pure h
end
end Go.Ab

namespace Go
section
variable {P:Program} {ops:Array Oper} {md:Region.Mode} {C:World->Prop}

end

namespace Ab
open Go.RowKit

section
variable {P:Program} {ops:Array Oper} {Q:Exit->Act->World->Prop}
def Pw(o:Oper):Bool:=match o.op with
 | .store _ _ _=>true
 | .call c=>match c.callee with
  | .builtin .append=>true
  |_=>false
 | .mapUpdate .. | .insert .. =>true
 |_=>false
def uQ(ops:Array Oper)(j:Nat):Bool:=match ops[j]? with
 |some o=>Pw o
 |none=>false
def xx(ops:Array Oper)(m k:Nat):Bool:=match ops[m]? with
 |some o=>o.after.any fun e=>Region.binds .any e&&e.on==k
 |none=>false
def RY(ops:Array Oper):Nat->List Nat->List Nat
 |0,S=>S
 |k+1,S=>RY ops k (if S.any (fun m=>xx ops m k)then k::S else S)
def kW(ops:Array Oper)(listed:Array Bool):Prop:=∀ m k,listed.getD m false=true->xx ops m k=true->listed.getD k false=true
def nR(ops:Array Oper)(listed:Array Bool)(i:Nat):Bool:=(List.range ops.size).all fun j=> !uQ ops j||listed.getD j true||(RY ops j [j]).contains i

theorem zl5{listed:Array Bool}{j:Nat}(hc:kW ops listed)(hj:∀ k,xx ops j k=true->listed.getD k false=true):∀ (k:Nat) (S:List Nat),(∀ m∈S,m=j\/listed.getD m false=true)->∀ m∈RY ops k S,m=j\/listed.getD m false=true
 |0,_,h=>h
 | k+1,S,h=>by
  unfold RY;refine zl5 hc hj k _ ?_
  split
  ·rename_i ha
   obtain⟨m,hm,hd⟩:=List.any_eq_true.1 ha;intro m' hm'
   rcases List.mem_cons.1 hm' with rfl|hm'
   ·rcases h m hm with rfl|hl
    ·exact .inr (hj _ hd)
    ·exact .inr (hc _ _ hl hd)
   ·exact h m' hm'
  ·exact h

def pQ(P:Program)(ops:Array Oper)(Q:Exit->Act->World->Prop):Nat->Array Bool->Act->World->Prop
 |0,listed,a,w=>Region.ready .any ops listed=[]/\Q .normal a w
 |f+1,listed,a,w=>(Region.ready .any ops listed=[]->Q .normal a w)/\
  ∀ i∈Region.ready .any ops listed,wpOp P ops Q i (fun a' w'=>(uQ ops i=false->Same w w')/\pQ P ops Q f (listed.setIfInBounds i true) a' w') a w

theorem Wz:∀ (f:Nat) (listed:Array Bool) (a:Act) (w:World),pQ P ops Q f listed a w->wpAny P .any ops Q f listed a w
 |0,_,_,_,h=>h
 |f+1,_,_,_,h=>⟨h.1,fun i hi=>wpOp_mono (fun a' w' h'=>Wz f _ a' w' h'.2) (h.2 i hi)⟩

theorem YieldsIf.later{o:Oper}{v:Value}{a:Act}{w w':World}(h:YieldsIf P ops (Same w) o v a)(hs:Same w w'):YieldsIf P ops (Same w') o v a:=
 h.imp (fun⟨h1,h2⟩=>⟨h1,fun w'' h''=>h2 w'' (hs.trans (h''.mono hs.size))⟩) id

theorem zph{listed:Array Bool}{j:Nat}(hj:j∈Region.ready .any ops listed):∀ k,xx ops j k=true->listed.getD k false=true:=by
 intro k hk;obtain⟨_,oj,hoj,hall⟩:=mem_ready.1 hj;unfold xx at hk;rw[hoj]at hk
 simp only[Array.any_eq_true',Bool.and_eq_true,beq_iff_eq]at hk
 obtain⟨e,he,hb,rfl⟩:=hk;exact hall e he hb
theorem zcq{listed:Array Bool}{j m:Nat}(h:listed.getD m false=true):(listed.setIfInBounds j true).getD m false=true:=by
 simp only[Array.getD_eq_getD_getElem?,Array.getElem?_setIfInBounds]at h ⊢
 split
 ·rename_i e;subst e;split
  ·rfl
  ·rename_i hlt;simp[Array.getElem?_eq_none (Nat.le_of_not_lt hlt)]at h
 ·exact h
theorem zs5{listed:Array Bool}{j m:Nat}(h:(listed.setIfInBounds j true).getD m false=true):m=j\/listed.getD m false=true:=by
 by_cases e:m=j
 ·exact .inl e
 ·simp only[Array.getD_eq_getD_getElem?,Array.getElem?_setIfInBounds]at h ⊢
  rw[if_neg (fun e'=>e e'.symm)]at h;exact .inr h
theorem kW.set{listed:Array Bool}{j:Nat}(hc:kW ops listed)(hj:j∈Region.ready .any ops listed):kW ops (listed.setIfInBounds j true):=fun m k hm hd=>by
 rcases zs5 hm with rfl|hm
 ·exact zcq (zph hj k hd)
 ·exact zcq (hc m k hm hd)
theorem zz6{listed:Array Bool}{i j:Nat}(hc:kW ops listed)(hl:nR ops listed i=true)(hi:i∈Region.ready .any ops listed)(hj:j∈Region.ready .any ops listed)(hji:j≠i):uQ ops j=false:=by
 obtain⟨hjl,oj,hoj,_⟩:=mem_ready.1 hj
 have hlt:j< ops.size:=(Array.getElem?_eq_some_iff.1 hoj).1
 have:=List.all_eq_true.1 hl j (List.mem_range.2 hlt)
 simp only[Bool.or_eq_true,Bool.not_eq_true']at this
 rcases this with(h|h)|h
 ·exact h
 ·rw[hjl]at h;cases h
 ·exfalso
  rcases zl5 hc (zph hj) j [j] (fun m hm=>.inl (by simpa using hm)) i (by simpa using h)with e|e
  ·exact hji e.symm
  ·have:=(mem_ready.1 hi).1
   simp only[Array.getD_eq_getD_getElem?]at e this
   cases hx:listed[i]? with
   |none=>rw[hx]at e;cases e
   |some b=>rw[hx]at e this;simp only[Option.getD_some]at e this;rw[e]at this;cases this
theorem zz7{listed:Array Bool}{i j:Nat}(hl:nR ops listed i=true):nR ops (listed.setIfInBounds j true) i=true:=by
 refine List.all_eq_true.2 fun k hk=>?_
 have:=List.all_eq_true.1 hl k hk
 simp only[Bool.or_eq_true,Bool.not_eq_true']at this ⊢
 rcases this with(h|h)|h
 ·exact .inl (.inl h)
 ·refine .inl (.inr ?_)
  simp only[Array.getD_eq_getD_getElem?,Array.getElem?_setIfInBounds]at h ⊢
  split
  ·split<;>rfl
  ·exact h
 ·exact .inr h

theorem zuo{i:Nat}{oi:Oper}{v:Value}(hi:ops[i]? =some oi)(hsel:∀ (j:Nat) (o:Oper) cs b,ops[j]? =some o->o.op≠ .select cs b)(hQ:∀ c a w,Q (.panic c) (a.put oi.dst v) w->Q (.panic c) a w):
  ∀ (f:Nat) (listed:Array Bool) (a:Act) (w:World),(∀ j oj,ops[j]? =some oj->j≠i->listed.getD j true=false->(∀ e∈oj.after,Region.binds .any e=true->e.on≠i)->oi.apart ops oj=true)->
   kW ops listed->nR ops listed i=true->i∈Region.ready .any ops listed->YieldsIf P ops (Same w) oi v a->pQ P ops Q f (listed.setIfInBounds i true) (a.put oi.dst v) w->pQ P ops Q (f+1) listed a w:=by
 intro f
 induction f with
 | zero=>
  intro listed a w _ _ _ hr hy K;refine⟨fun h=>(by rw[h]at hr;cases hr),fun j hj=>?_⟩
  by_cases hji:j=i
  ·subst hji;exact hy.wpOp hi (Below.refl _ _) ⟨fun _=>Below.refl _ _,K⟩
  ·have:=ready_mono hj hji
   rw[K.1]at this;cases this
 | succ f ih=>
  intro listed a w hfree hc hl hr hy K;refine⟨fun h=>(by rw[h]at hr;cases hr),fun j hj=>?_⟩
  by_cases hji:j=i
  ·subst hji;exact hy.wpOp hi (Below.refl _ _) ⟨fun _=>Below.refl _ _,K⟩
  ·have h1:=K.2 j (ready_mono hj hji)
   have hnw:=zz6 hc hl hr hj hji
   obtain⟨hjun,oj,hoj,hall⟩:=mem_ready.1 hj
   have hnot:∀ e∈oj.after,Region.binds .any e=true->e.on≠i:=fun e he hb heq=>by
    have g1:=hall e he hb
    have g0:=(mem_ready.1 hr).1
    rw[heq]at g1
    rcases Nat.lt_or_ge i listed.size with h'|h'
    ·simp[h']at g0 g1;rw[g0]at g1;cases g1
    ·simp[Array.getElem?_eq_none h']at g1
   have h2:=wpOp_putIf hoj (hfree j oj hoj hji hjun hnot) (fun cs b=>hsel i oi cs b hi) (fun cs b=>hsel j oj cs b hoj) hQ hy h1
   have hfree':∀ k ok,ops[k]? =some ok->k≠i->(listed.setIfInBounds j true).getD k true=false->(∀ e∈ok.after,Region.binds .any e=true->e.on≠i)->oi.apart ops ok=true:=fun k ok hk hki hun hno=>by
    refine hfree k ok hk hki ?_ hno
    by_cases hjk:j=k
    ·subst hjk;exact hjun
    ·rw[getD_set_ne true hjk]at hun;exact hun
   refine wpOp_mono (fun a' w' h3=>⟨h3.2.1,ih (listed.setIfInBounds j true) a' w' hfree' (hc.set hj) (zz7 hl) (ready_mono hr (Ne.symm hji)) (YieldsIf.later h3.1 (h3.2.1 hnw)) ?_⟩) h2;rw[Array.setIfInBounds_comm _ _ hji];exact h3.2.2

theorem zcr{i:Nat}{oi:Oper}{v:Value}(hi:ops[i]? =some oi)(hsel:∀ (j:Nat) (o:Oper) cs b,ops[j]? =some o->o.op≠ .select cs b)(hQ:∀ c a w,Q (.panic c) (a.put oi.dst v) w->Q (.panic c) a w):
  ∀ (f:Nat) (listed:Array Bool) (a:Act) (w:World),(∀ j oj,ops[j]? =some oj->j≠i->listed.getD j true=false->(∀ e∈oj.after,Region.binds .any e=true->e.on≠i)->oi.apart ops oj=true)->
   i∈Region.ready .any ops listed->YieldsIf P ops (fun _=>True) oi v a->pQ P ops Q f (listed.setIfInBounds i true) (a.put oi.dst v) w->pQ P ops Q (f+1) listed a w:=by
 intro f
 induction f with
 | zero=>
  intro listed a w _ hr hy K;refine⟨fun h=>(by rw[h]at hr;cases hr),fun j hj=>?_⟩
  by_cases hji:j=i
  ·subst hji;exact hy.wpOp hi trivial ⟨fun _=>Below.refl _ _,K⟩
  ·have:=ready_mono hj hji
   rw[K.1]at this;cases this
 | succ f ih=>
  intro listed a w hfree hr hy K;refine⟨fun h=>(by rw[h]at hr;cases hr),fun j hj=>?_⟩
  by_cases hji:j=i
  ·subst hji;exact hy.wpOp hi trivial ⟨fun _=>Below.refl _ _,K⟩
  ·have h1:=K.2 j (ready_mono hj hji)
   obtain⟨hjun,oj,hoj,hall⟩:=mem_ready.1 hj
   have hnot:∀ e∈oj.after,Region.binds .any e=true->e.on≠i:=fun e he hb heq=>by
    have g1:=hall e he hb
    have g0:=(mem_ready.1 hr).1
    rw[heq]at g1
    rcases Nat.lt_or_ge i listed.size with h'|h'
    ·simp[h']at g0 g1;rw[g0]at g1;cases g1
    ·simp[Array.getElem?_eq_none h']at g1
   have h2:=wpOp_putIf hoj (hfree j oj hoj hji hjun hnot) (fun cs b=>hsel i oi cs b hi) (fun cs b=>hsel j oj cs b hoj) hQ hy h1
   have hfree':∀ k ok,ops[k]? =some ok->k≠i->(listed.setIfInBounds j true).getD k true=false->(∀ e∈ok.after,Region.binds .any e=true->e.on≠i)->oi.apart ops ok=true:=fun k ok hk hki hun hno=>by
    refine hfree k ok hk hki ?_ hno
    by_cases hjk:j=k
    ·subst hjk;exact hjun
    ·rw[getD_set_ne true hjk]at hun;exact hun
   refine wpOp_mono (fun a' w' h3=>⟨h3.2.1,ih (listed.setIfInBounds j true) a' w' hfree' (ready_mono hr (Ne.symm hji)) h3.1 ?_⟩) h2;rw[Array.setIfInBounds_comm _ _ hji];exact h3.2.2

def TR(ops:Array Oper)(i:Nat):Bool:=match ops[i]? with
 |some o=>QQ o
 |none=>false
def JV(ops:Array Oper):List (Nat×Bool)->Array Bool->Bool
 |[],listed=>(Region.ready .any ops listed).isEmpty
 |(i,true)::r,listed=>Region.free .any ops listed i&&(nR ops listed i||TR ops i)&&(Region.ready .any ops listed).contains i&&JV ops r (listed.setIfInBounds i true)
 |(i,false)::r,listed=>Region.ready .any ops listed==[i]&&JV ops r (listed.setIfInBounds i true)
end

section
variable {C:CC} {β:Val} {n N:Nat} {H:Heap} {I:Nat->Prop} {w:World} {E:Env} {a:Act} {Γ:Ctx}

structure St(Γ:Ctx)(N:Nat)(C:CC)(β:Val)(n:Nat)(E:Env)(H:Heap)(I:Nat->Prop)(a:Act)(w:World):Prop where
 env:gy C.D β n I w E a
 size:a.tmps.size=N
 heap:aQ C β n H I w
 glob:mF Γ.glob I w
 anch:C.n0<=n/\∀ i,i< C.n0->β i=C.β0 i

def uX(ops:List Oper)(E:Env)(j:Nat):Option (Option Bool):=
 match (ops[j]?).bind (·.dst) with
 |some d=>match E.get d with
  |some (.c (.bool b))=>some (some b)
  |some (.c (.raw (.tuple _)))=>some none
  |_=>none
 |none=>none

theorem z20{D:List Deferred}{ops:List Oper}{j:Nat}{r:Option Bool}(hE:gy D β n I w E a)(h:uX ops E j=some r):yielded ops.toArray a.tmps j=r:=by
 unfold uX at h
 split at h
 ·rename_i d hd
  have hd':(ops.toArray[j]?).bind (·.dst)=some d:=by simpa using hd
  unfold yielded;rw[hd']
  split at h
  ·rename_i b hb;cases h
   obtain⟨x,hx,hr⟩:=hE.slot d _ hb
   have:=(SV.rel_flat (x:=.c (.bool b)) rfl).1 hr
   subst this
   simp[hx,SV.val,Cell.val]
  ·rename_i l hb;cases h
   obtain⟨x,hx,hr⟩:=hE.slot d _ hb
   have:=(SV.rel_flat (x:=.c (.raw (.tuple l))) rfl).1 hr
   subst this
   simp[hx,SV.val,Cell.val]
  ·cases h
 ·cases h

def oP(N:Nat):Option Tmp->Prop
 |some d=>d< N
 |none=>True

abbrev og:SV:=.c (.raw (.tuple #[]))

def kR(Γ:Ctx)(N:Nat)(ops:List Oper):List Oper->Env->Heap->(Env->Prop)->Prop
 |[],E,_,K=>K E
 | o::os,E,H,K=>oP N o.dst/\match o.guard with
  |none=>JU Γ o E H fun v=>∃ v',v.as v'/\kR Γ N ops os (E.put o.dst v') H K
  |some (j,want)=>match uX ops E j with
   |some (some b)=>(b=want->JU Γ o E H fun v=>∃ v',v.as v'/\kR Γ N ops os (E.put o.dst v') H K)/\(b= !want->kR Γ N ops os (E.put o.dst og) H K)
   |some none=>kR Γ N ops os (E.put o.dst og) H K
   |none=>False

def wpS(Γ:Ctx)(N:Nat)(ops:List Oper):List Oper->Env->Heap->Nat->(Env->Heap->Nat->Prop)->Prop
 |[],E,H,n,K=>K E H n
 | o::os,E,H,n,K=>oP N o.dst/\match o.guard with
  |none=>iW Γ o E H n fun v H n=>∃ v',v.as v'/\wpS Γ N ops os (E.put o.dst v') H n K
  |some (j,want)=>match uX ops E j with
   |some (some b)=>(b=want->iW Γ o E H n fun v H n=>∃ v',v.as v'/\wpS Γ N ops os (E.put o.dst v') H n K)/\(b= !want->wpS Γ N ops os (E.put o.dst og) H n K)
   |some none=>wpS Γ N ops os (E.put o.dst og) H n K
   |none=>False

def kP(Γ:Ctx)(o:Oper)(E:Env)(H:Heap)(K:SV->Prop):Prop:=
 match o.op with
 | .build t parts=>evs Γ.glob E (parts.toList.map (·.2)) fun vs=>QS Γ.ty t ((parts.toList.map (·.1)).zip vs) K
 |_=>jF Γ.ty Γ.glob o E H K

def z89(Γ:Ctx)(o:Oper)(E:Env)(H:Heap)(n:Nat)(K:SV->Heap->Nat->Prop):Prop:=match Pw o with
 |true=>iW Γ o E H n K
 |false=>rF Γ o E H n K
def iZ (Γ:Ctx) (N:Nat) (ops:List Oper):List (Nat×Bool)->Env->Heap->Nat->(Env->Heap->Nat->Prop)->Prop
 |[],E,H,n,K=>K E H n
 | (i,q)::r,E,H,n,K=>match ops[i]? with
  |none=>False
  | some o=>oP N o.dst/\match o.guard with
   |none=>if q then kP Γ o E H fun v=>∃ v',v.as v'/\iZ Γ N ops r (E.put o.dst v') H n K else z89 Γ o E H n fun v H n=>∃ v',v.as v'/\iZ Γ N ops r (E.put o.dst v') H n K
   |some (j,want)=>match uX ops E j with
    |some (some b)=>(b=want->if q then kP Γ o E H fun v=>∃ v',v.as v'/\iZ Γ N ops r (E.put o.dst v') H n K else z89 Γ o E H n fun v H n=>∃ v',v.as v'/\iZ Γ N ops r (E.put o.dst v') H n K)/\(b= !want->iZ Γ N ops r (E.put o.dst og) H n K)
    |some none=>iZ Γ N ops r (E.put o.dst og) H n K
    |none=>False

theorem gy.put{D:List Deferred}(h:gy D β n I w E a)(hN:a.tmps.size=N){d:Option Tmp}(hd:oP N d){v:SV}{x:Value}(hr:v.rel β I w x)(hb:v.low n):gy D β n I w (E.put d v) (a.put d x)/\(a.put d x).tmps.size=N:=by
 cases d with
 |none=>exact⟨h,hN⟩
 | some d=>
  have hlt:d< a.tmps.size:=by rw[hN];exact hd
  refine⟨⟨h.defers,fun i u hu=>?_,fun i u hu=>?_⟩,by simpa [Act.put]using hN⟩
  ·rw[Env.get_put]at hu
   simp only[Act.put,Array.getElem?_setIfInBounds]
   split at hu
   ·rename_i e;cases e;cases hu
    exact⟨x,by simp[hlt],hr⟩
   ·rename_i e
    have:d≠i:=fun e'=>e (by rw[e'])
    rw[if_neg this];exact h.slot i u hu
  ·rw[Env.get_put]at hu
   split at hu
   ·cases hu;exact hb
   ·exact h.low i u hu

theorem Lf:og.rel β I w undef:=Cell.rel_val (β:=β) (x:=.raw _) rfl

theorem XA{D:List Deferred}(hΓ:Γ.OK){ops:List Oper}(hG:mF Γ.glob I w)(hH:aQ C β n H I w){Q:Act->Prop}:∀ (os:List Oper) {E:Env} {a:Act} {K:Env->Prop},gy D β n I w E a->a.tmps.size=N->kR Γ N ops os E H K->
  (∀ E' a',K E'->gy D β n I w E' a'->a'.tmps.size=N->Q a')->wpQuiet Γ.P ops.toArray (Same w) Q os a
 |[],E,a,K,hE,hN,h,hQ=>hQ E a h hE hN
 | o ::os,E,a,K,hE,hN,h,hQ=>by
  obtain⟨hd,h⟩:=h
  have run:JU Γ o E H (fun v=>∃ v',v.as v'/\kR Γ N ops os (E.put o.dst v') H K)->o.quiet Γ.P a (Same w) (wpQuiet Γ.P ops.toArray (Same w) Q os):=by
   intro h;obtain⟨v0,x,⟨v,has,hK⟩,hb,hrel,hr⟩:=zpg hΓ hE hG hH h;obtain⟨hrel,hb⟩:=has _ _ _ _ _ hrel hb;obtain⟨hE',hN'⟩:=hE.put hN hd hrel hb;exact⟨x,hr,XA hΓ hG hH os hE' hN' hK hQ⟩
  have skip:kR Γ N ops os (E.put o.dst og) H K->wpQuiet Γ.P ops.toArray (Same w) Q os (a.put o.dst undef):=by
   intro h;obtain⟨hE',hN'⟩:=hE.put hN hd Lf trivial;exact XA hΓ hG hH os hE' hN' h hQ
  unfold wpQuiet
  split at h
  ·rename_i hg
   simp only[Region.wanted,hg,if_true]
   exact run h
  ·rename_i j want hg
   split at h
   ·rename_i b hy
    have:=z20 hE hy
    simp only[Region.wanted,hg,this]
    by_cases hbw:b=want
    ·subst hbw;simp only[beq_self_eq_true,if_true];exact run (h.1 rfl)
    ·have:(some b==some want)=false:=by simpa using hbw
     simp only[this,Bool.false_eq_true,if_false]
     exact skip (h.2 (by cases b<;>cases want<;>simp_all))
   ·rename_i hy
    have:=z20 hE hy
    simp only[Region.wanted,hg,this]
    exact skip h
   ·exact h.elim

theorem St.after(hS:St Γ N C β n E H I a w){K:SV->Heap->Nat->Prop}{x:Value}{w':World}(hA:After C β n I w K x w'){d:Option Tmp}(hd:oP N d):
  ∃ v H' n' β' I',K v H' n'/\St Γ N C β' n' (E.put d v) H' I' (a.put d x) w':=by
 obtain⟨v,H',n',β',I',hK,hr,hb,hn,hβ,hE,hH⟩:=hA;obtain⟨hE',hN'⟩:=(hS.env.mono hβ hE hn).put hS.size hd hr hb;exact⟨v,H',n',β',I',hK,hE',hN',hH,hS.glob.mono hE,Nat.le_trans hS.anch.1 hn,fun i hi=>(hβ i (Nat.lt_of_lt_of_le hi hS.anch.1)).trans (hS.anch.2 i hi)⟩

theorem After.as{K:SV->Heap->Nat->Prop}{x:Value}{w':World}(h:After C β n I w (fun v H n=>∃ v',v.as v'/\K v' H n) x w'):After C β n I w K x w':=by
 obtain⟨v,H',n',β',I',⟨v',has,hK⟩,hr,hb,h1⟩:=h;obtain⟨hr,hb⟩:=has _ _ _ _ _ hr hb;exact⟨v',H',n',β',I',hK,hr,hb,h1⟩
theorem SG(hΓ:Γ.OK){ops:List Oper}{Q:Exit->Act->World->Prop}:∀ (os:List Oper) {β:Val} {n:Nat} {E:Env} {H:Heap} {I:Nat->Prop} {a:Act} {w:World} {K:Env->Heap->Nat->Prop},St Γ N C β n E H I a w->wpS Γ N ops os E H n K->
  (∀ β' n' E' H' I' a' w',K E' H' n'->St Γ N C β' n' E' H' I' a' w'->Q .normal a' w')->wpList Γ.P ops.toArray Q os a w
 |[],β,n,E,H,I,a,w,K,hS,h,hQ=>hQ β n E H I a w h hS
 | o ::os,β,n,E,H,I,a,w,K,hS,h,hQ=>by
  obtain⟨hd,h⟩:=h
  have run:iW Γ o E H n (fun v H n=>∃ v',v.as v'/\wpS Γ N ops os (E.put o.dst v') H n K)->o.wp Γ.P a w (wpList Γ.P ops.toArray Q os) Q:=by
   intro h;refine(Mf hΓ hS.env hS.glob hS.heap h).wp fun x w' hA=>?_;obtain⟨v,H',n',β',I',hK,hS'⟩:=hS.after hA.as hd;exact SG hΓ os hS' hK hQ
  have skip:wpS Γ N ops os (E.put o.dst og) H n K->wpList Γ.P ops.toArray Q os (a.put o.dst undef) w:=by
   intro h;obtain⟨hE',hN'⟩:=hS.env.put hS.size hd Lf trivial;exact SG hΓ os ⟨hE',hN',hS.heap,hS.glob,hS.anch⟩ h hQ
  unfold wpList
  split at h
  ·rename_i hg
   simp only[Region.wanted,hg,if_true]
   exact .inl (run h)
  ·rename_i j want hg
   split at h
   ·rename_i b hy
    have:=z20 hS.env hy
    simp only[Region.wanted,hg,this]
    by_cases hbw:b=want
    ·subst hbw;simp only[beq_self_eq_true,if_true];exact .inl (run (h.1 rfl))
    ·have:(some b==some want)=false:=by simpa using hbw
     simp only[this,Bool.false_eq_true,if_false]
     exact skip (h.2 (by cases b<;>cases want<;>simp_all))
   ·rename_i hy
    have:=z20 hS.env hy
    simp only[Region.wanted,hg,this]
    exact skip h
   ·exact h.elim

theorem zim{D:List Deferred}(hΓ:Γ.OK)(hE:gy D β n I w E a)(hG:mF Γ.glob I w)(hH:aQ C β n H I w){o:Oper}{K:SV->Prop}(h:kP Γ o E H K):Gives Γ.P β n I w a o K:=by
 unfold kP at h
 split at h
 ·rename_i t parts ho
  obtain⟨vs,h,hr⟩:=L9 hE hG h;obtain⟨hp,hlow⟩:=Wj hr;obtain⟨v,x,hK,hl,hrel,hrun⟩:=Wx (P:=Γ.P) hΓ.ty hp hlow h;exact⟨v,x,hK,hl,hrel,fun w' _=>Wy ho (hrun w')⟩
 ·exact Rj (P:=Γ.P) hΓ.ty hG hE hH h

theorem zin{D:List Deferred}(hΓ:Γ.OK)(hE:gy D β n I w E a)(hG:mF Γ.glob I w)(hH:aQ C β n H I w){o:Oper}(hs:QQ o=true){K:SV->Prop}(h:kP Γ o E H K):
  ∃ v x,K v/\v.low n/\v.rel β I w x/\∀ w',(execOp a.eval o).run Γ.P w'= .ok (.value x) w':=by
 unfold kP at h
 split at h
 ·rename_i t parts ho
  simp[QQ,ho]at hs
 ·exact zrv hΓ.ty hG hE hH hs h
theorem Mq(hΓ:Γ.OK){l:List Oper}(hsel:Region.noSelect l.toArray=true){Q:Exit->Act->World->Prop}(hQp:∀ c a a' w,Q (.panic c) a' w->Q (.panic c) a w):
  ∀ (r:List (Nat×Bool)) (listed:Array Bool) {β:Val} {n:Nat} {E:Env} {H:Heap} {I:Nat->Prop} {a:Act} {w:World} {K:Env->Heap->Nat->Prop},JV l.toArray r listed=true->kW l.toArray listed->St Γ N C β n E H I a w->iZ Γ N l r E H n K->
   (∀ β' n' E' H' I' a' w',K E' H' n'->St Γ N C β' n' E' H' I' a' w'->Q .normal a' w')->pQ Γ.P l.toArray Q r.length listed a w
 |[],listed,β,n,E,H,I,a,w,K,hB,_,hS,h,hQ=>⟨by simpa [JV]using hB,hQ β n E H I a w h hS⟩
 | (i, q)::r,listed,β,n,E,H,I,a,w,K,hB,hc,hS,h,hQ=>by
  unfold iZ at h
  split at h
  ·exact h.elim
  ·rename_i o ho
   obtain⟨hd,h⟩:=h
   have hi:l.toArray[i]? =some o:=by simpa using ho
   cases q with
   | true=>
    simp only[JV,Bool.and_eq_true]at hB
    obtain⟨⟨⟨hf,hlate⟩,hr⟩,hB⟩:=hB
    have hr':i∈Region.ready .any l.toArray listed:=by simpa using hr
    have fin:∀ v x,(nR l.toArray listed i=true/\YieldsIf Γ.P l.toArray (Same w) o x a\/YieldsIf Γ.P l.toArray (fun _=>True) o x a)->v.rel β I w x->v.low n->iZ Γ N l r (E.put o.dst v) H n K->pQ Γ.P l.toArray Q (r.length+1) listed a w:=by
     intro v x hy hrel hlow hK;obtain⟨hE',hN'⟩:=hS.env.put hS.size hd hrel hlow
     rcases hy with⟨hlate,hy⟩|hy
     ·exact zuo hi (Region.noSelect_spec hsel) (fun c a w=>hQp c a _ w) r.length listed a w (Region.free_spec hi hf) hc hlate hr' hy (Mq hΓ hsel hQp r _ hB (hc.set hr') ⟨hE',hN',hS.heap,hS.glob,hS.anch⟩ hK hQ)
     ·exact zcr hi (Region.noSelect_spec hsel) (fun c a w=>hQp c a _ w) r.length listed a w (Region.free_spec hi hf) hr' hy (Mq hΓ hsel hQp r _ hB (hc.set hr') ⟨hE',hN',hS.heap,hS.glob,hS.anch⟩ hK hQ)
    have run:Region.wanted o (yielded l.toArray a.tmps)=true->kP Γ o E H (fun v=>∃ v',v.as v'/\iZ Γ N l r (E.put o.dst v') H n K)->pQ Γ.P l.toArray Q (r.length+1) listed a w:=by
     intro hw h
     rcases Bool.or_eq_true _ _▸hlate with hl1|hl1
     ·obtain⟨v0,x,⟨v,has,hK⟩,hl,hrel,hrun⟩:=zim hΓ hS.env hS.glob hS.heap h
      obtain⟨hrel,hl⟩:=has _ _ _ _ _ hrel hl;exact fin v x (.inl ⟨hl1,.inl ⟨hw,hrun⟩⟩) hrel hl hK
     ·obtain⟨v0,x,⟨v,has,hK⟩,hl,hrel,hrun⟩:=zin hΓ hS.env hS.glob hS.heap (by unfold TR at hl1;rw[hi]at hl1;exact hl1) h
      obtain⟨hrel,hl⟩:=has _ _ _ _ _ hrel hl;exact fin v x (.inr (.inl ⟨hw,fun w' _=>hrun w'⟩)) hrel hl hK
    have skip:Region.wanted o (yielded l.toArray a.tmps)=false->iZ Γ N l r (E.put o.dst og) H n K->pQ Γ.P l.toArray Q (r.length+1) listed a w:=by
     intro hw h;exact fin og undef (.inr (.inr ⟨hw,rfl⟩)) Lf trivial h
    simp only[List.length_cons]
    split at h
    ·rename_i hg
     exact run (by simp[Region.wanted,hg]) (by simpa using h)
    ·rename_i j want hg
     split at h
     ·rename_i b hy
      have hy':=z20 hS.env hy
      by_cases hbw:b=want
      ·subst hbw
       exact run (by simp[Region.wanted,hg,hy']) (by simpa using h.1 rfl)
      ·exact skip (by simpa [Region.wanted,hg,hy']using hbw) (h.2 (by cases b<;>cases want<;>simp_all))
     ·rename_i hy
      exact skip (by simp[Region.wanted,hg,z20 hS.env hy]) h
     ·exact h.elim
   | false=>
    simp only[JV,Bool.and_eq_true,beq_iff_eq]at hB
    obtain⟨hr,hB⟩:=hB
    simp only[List.length_cons]
    refine⟨fun h0=>(by rw[hr]at h0;cases h0),fun j hj=>?_⟩;rw[hr]at hj
    obtain rfl:j=i:=by simpa using hj
    have run:z89 Γ o E H n (fun v H n=>∃ v',v.as v'/\iZ Γ N l r (E.put o.dst v') H n K)->o.wp Γ.P a w (fun a' w'=>(uQ l.toArray j=false->Same w w')/\pQ Γ.P l.toArray Q r.length (listed.setIfInBounds j true) a' w') Q:=by
     intro h
     have hwr:uQ l.toArray j=Pw o:=by unfold uQ;rw[hi]
     have hc':kW l.toArray (listed.setIfInBounds j true):=hc.set (by rw[hr];exact List.mem_singleton.2 rfl)
     unfold z89 at h
     split at h<;>rename_i hw
     ·refine(Mf hΓ hS.env hS.glob hS.heap h).wp fun x w' hA=>?_
      obtain⟨v,H',n',β',I',hK,hS'⟩:=hS.after hA.as hd;exact⟨fun h0=>(by rw[hwr,hw]at h0;cases h0),Mq hΓ hsel hQp r _ hB hc' hS' hK hQ⟩
     ·refine(PM hΓ hS.env hS.glob hS.heap h).wp fun x w' hA=>?_
      obtain⟨v,H',n',β',I',hK,hS'⟩:=hS.after hA.2.as hd;exact⟨fun _=>hA.1,Mq hΓ hsel hQp r _ hB hc' hS' hK hQ⟩
    have skip:iZ Γ N l r (E.put o.dst og) H n K->(uQ l.toArray j=false->Same w w)/\pQ Γ.P l.toArray Q r.length (listed.setIfInBounds j true) (a.put o.dst undef) w:=by
     intro h;obtain⟨hE',hN'⟩:=hS.env.put hS.size hd Lf trivial;exact⟨fun _=>Below.refl _ _,Mq hΓ hsel hQp r _ hB (hc.set (by rw[hr];exact List.mem_singleton.2 rfl)) ⟨hE',hN',hS.heap,hS.glob,hS.anch⟩ h hQ⟩
    unfold wpOp
    simp only[hi]
    split at h
    ·rename_i hg
     simp only[Region.wanted,hg,if_true]
     exact .inl (run (by simpa using h))
    ·rename_i j' want hg
     split at h
     ·rename_i b hy
      have hy':=z20 hS.env hy
      simp only[Region.wanted,hg,hy']
      by_cases hbw:b=want
      ·subst hbw;simp only[beq_self_eq_true,if_true];exact .inl (run (by simpa using h.1 rfl))
      ·have:(some b==some want)=false:=by simpa using hbw
       simp only[this,Bool.false_eq_true,if_false]
       exact skip (h.2 (by cases b<;>cases want<;>simp_all))
     ·rename_i hy
      have hy':=z20 hS.env hy
      simp only[Region.wanted,hg,hy']
      exact skip h
     ·exact h.elim
end
end Ab
end Go

namespace Go.Ab
open Go.RowKit


def LK(ty:Nat->Ty)(H:Heap)(is:List Nat)(id off len n:Nat)(k:aB):Prop:=
 id∈is/\match H.get id with
  |some (.own t c _)=>c.isD/\off+len*(ty t).size<=c.len/\0< (ty t).size/\len=n/\k=(if off=0/\c.len=len*(ty t).size then c else c.sub off (len*(ty t).size))
  |_=>False
def V9(H:Heap)(is:List Nat)(id off off':Nat)(k:aB):Prop:=
 id∈is/\match H.get id with
  |some (.own _ c _)=>c.isD/\off< c.len/\off=off'/\k=c
  |_=>False

def Cell.to1(ty:Nat->Ty)(H:Heap)(is:List Nat)(ρ:Nat->Nat):Cell->Cell->Prop
 | .int k n,.int k' n'=>k=k'/\n=n'
 | .bool b,.bool b'=>b=b'
 | .u8 x,.u8 x'=>x=x'
 | .u32 x,.u32 x'=>x=x'
 | .u64 x,.u64 x'=>x=x'
 | .str s,.str s'=>s=s'
 | .nils,.nils=>True
 | .raw v,.raw v'=>v=v'
 | .ds n c,.ds n' c'=>n=n'/\c=c'
 | .nils,.ds n' c'=>n'=0/\c'.len=0
 | .slice id off len _,.ds n' c'=>LK ty H is id off len n' c'
 | .dp c off,.dp c' off'=>c=c'/\off=off'
 | .ptr id off,.dp c' off'=>V9 H is id off off' c'
 | .ptr id off,.ptr id' off'=>id=ρ id'/\off=off'
 | .slice id off len cap,.slice id' off' len' cap'=>id=ρ id'/\off=off'/\len=len'/\cap=cap'
 | .map id,.map id'=>id=ρ id'
 |_,_=>False
def bR(f:Cell->Cell->Prop):List Cell->List Cell->Prop
 |[],[]=>True
 |x::l,y::m=>f x y/\bR f l m
 |_,_=>False
def Cell.to(ty:Nat->Ty)(H:Heap)(is:List Nat)(ρ:Nat->Nat):Cell->Cell->Prop
 | .clo f caps,.clo f' caps'=>f=f'/\bR (Cell.to1 ty H is ρ) caps caps'
 |x,y=>x.to1 ty H is ρ y
def aB.to(ty:Nat->Ty)(H:Heap)(is:List Nat)(ρ:Nat->Nat):aB->aB->Prop
 | .u8s l,.u8s l'=>l=l'
 | .u32s l,.u32s l'=>l=l'
 | .u64s l,.u64s l'=>l=l'
 | .ints k l,.ints k' l'=>k=k'/\l=l'
 | .bools l,.bools l'=>l=l'
 | .cells l,.cells l'=>bR (Cell.to ty H is ρ) l l'
 | .cells l,.u8s l'=>l=l'.map .u8
 | .cells l,.bools l'=>l=l'.map .bool
 | .cells l,.ints k l'=>l=l'.map (.int k)
 | .u8s l,.cells l'=>l.map .u8=l'
 | .bools l,.cells l'=>l.map .bool=l'
 | .ints k l,.cells l'=>l.map (.int k)=l'
 |_,_=>False
def Part.to(ty:Nat->Ty)(H:Heap)(is:List Nat)(ρ:Nat->Nat):Part->Part->Prop
 | .c x,.c y=>x.to ty H is ρ y
 | .agg k,.agg k'=>k.to ty H is ρ k'
 |_,_=>False
def Yw(f:Part->Part->Prop):List Part->List Part->Prop
 |[],[]=>True
 |x::l,y::m=>f x y/\Yw f l m
 |_,_=>False
def SV.to(ty:Nat->Ty)(H:Heap)(is:List Nat)(ρ:Nat->Nat):SV->SV->Prop
 | .c x,.c y=>x.to ty H is ρ y
 | .agg k,.agg k'=>k.to ty H is ρ k'
 | .tup l,.tup l'=>Yw (Part.to ty H is ρ) l l'
 |_,_=>False
def dw.to(ty:Nat->Ty)(H:Heap)(is:List Nat)(ρ:Nat->Nat):dw->dw->Prop
 | .own t c cap,.own t' c' cap'=>t=t'/\cap=cap'/\c.to ty H is ρ c'
 | .mp t l,.mp t' l'=>t=t'/\l=l'/\∀ x∈l,x.1.flat=true/\x.2.flat=true
 |_,_=>False

def Env.le(ty:Nat->Ty)(H:Heap)(is:List Nat)(ρ:Nat->Nat)(E:Env):Env->Prop
 |[]=>True
 |(s,v)::E'=>iY (E.get s) (fun u=>u.to ty H is ρ v)/\Env.le ty H is ρ E E'
def Heap.le(ty:Nat->Ty)(H:Heap)(is:List Nat)(ρ:Nat->Nat):Heap->Prop
 |[]=>True
 |(id,o)::H'=>((ρ id∉is)/\match H.get (ρ id) with|some u=>u.to ty H is ρ o|none=>False)/\Heap.le ty H is ρ H'
def Env.low(n:Nat):Env->Prop
 |[]=>True
 |(_,v)::E'=>v.low n/\Env.low n E'
def Heap.low(n:Nat):Heap->Prop
 |[]=>True
 |(id,o)::H'=>(id< n/\o.low n)/\Heap.low n H'

theorem Env.low_get{n:Nat}:∀ {E:Env},Env.low n E->∀ {s v},E.get s=some v->v.low n
 |[],_,s,v,h=>by cases h
 |(s',v')::E',h,s,v,hg=>by
  simp only[Env.get]at hg
  split at hg
  ·cases hg;exact h.1
  ·exact Env.low_get h.2 hg
theorem Heap.low_get{n:Nat}:∀ {H:Heap},Heap.low n H->∀ {s o},H.get s=some o->s< n/\o.low n
 |[],_,s,v,h=>by cases h
 |(s',v')::E',h,s,v,hg=>by
  simp only[Heap.get]at hg
  split at hg
  ·rename_i e;cases hg;subst e;exact h.1
  ·exact Heap.low_get h.2 hg
theorem Env.le_get{ty:Nat->Ty}{H:Heap}{is:List Nat}{ρ:Nat->Nat}{E:Env}:∀ {E':Env},Env.le ty H is ρ E E'->∀ {s v},E'.get s=some v->∃ u,E.get s=some u/\u.to ty H is ρ v
 |[],_,s,v,h=>by cases h
 | (s',v')::E',h,s,v,hg=>by
  simp only[Env.get]at hg
  split at hg
  ·rename_i e;cases hg;subst e
   have h1:=h.1
   unfold iY at h1
   split at h1
   ·rename_i u hu;exact⟨u,hu,h1⟩
   ·exact h1.elim
  ·exact Env.le_get h.2 hg
theorem Heap.le_get{ty:Nat->Ty}{H:Heap}{is:List Nat}{ρ:Nat->Nat}:∀ {H':Heap},Heap.le ty H is ρ H'->∀ {s o},H'.get s=some o->ρ s∉is/\∃ u,H.get (ρ s)=some u/\u.to ty H is ρ o
 |[],_,s,v,h=>by cases h
 | (s',v')::E',h,s,v,hg=>by
  simp only[Heap.get]at hg
  split at hg
  ·rename_i e;cases hg;subst e
   have h1:=h.1
   refine⟨h1.1,?_⟩
   have h2:=h1.2
   split at h2
   ·rename_i u hu;exact⟨u,hu,h2⟩
   ·exact h2.elim
  ·exact Heap.le_get h.2 hg
theorem Heap.get_mem:∀ {H:Heap} {s o},H.get s=some o->s∈H.map (·.1)
 |[],s,o,h=>by cases h
 |(s',v')::E',s,o,hg=>by
  simp only[Heap.get]at hg
  split at hg
  ·rename_i e;subst e;simp
  ·exact List.mem_cons_of_mem _ (Heap.get_mem hg)
theorem zdr{ρ:Nat->Nat}:∀ {l:List Nat},(l.map ρ).Nodup->∀ i∈l,∀ j∈l,ρ i=ρ j->i=j
 |[],_,i,hi,_,_,_=>by cases hi
 | x::l,h,i,hi,j,hj,e=>by
  simp only[List.map_cons,List.nodup_cons]at h
  obtain⟨h1,h2⟩:=h
  rcases List.mem_cons.1 hi with hi'|hi'
  ·rcases List.mem_cons.1 hj with hj'|hj'
   ·rw[hi',hj']
   ·rw[hi']at e
    exact absurd (show ρ x∈l.map ρ from List.mem_map.2 ⟨j,hj',e.symm⟩) h1
  ·rcases List.mem_cons.1 hj with hj'|hj'
   ·rw[hj']at e
    exact absurd (show ρ x∈l.map ρ from List.mem_map.2 ⟨i,hi',e⟩) h1
   ·exact zdr h2 i hi' j hj' e

structure Le(Γ:Ctx)(C:CC)(is:List Nat)(ρ:Nat->Nat)(E:Env)(H:Heap)(E':Env)(H':Heap)(n':Nat):Prop where
 env:Env.le Γ.ty H is ρ E E'
 heap:Heap.le Γ.ty H is ρ H'
 inj:((H'.map (·.1)).map ρ).Nodup
 elow:Env.low n' E'
 hlow:Heap.low n' H'
 anch:C.n0<=n'/\∀ i,i< C.n0->ρ i=i

section
variable {Γ:Ctx} {N:Nat} {C:CC} {β:Val} {n:Nat} {E:Env} {H:Heap} {I:Nat->Prop} {a:Act} {w:World} {ty:Nat->Ty} {is:List Nat} {ρ:Nat->Nat}

theorem SH{f:Cell->Cell->Prop}:∀ {l m:List Cell},bR f l m->l.length=m.length/\∀ j,j< l.length->f (l.getD j .nils) (m.getD j .nils)
 |[],[],_=>⟨rfl,fun j hj=>absurd hj (Nat.not_lt_zero j)⟩
 |x::l,y::m,h=>by
  obtain⟨h1,h2⟩:=SH h.2;refine⟨by simp[h1],fun j hj=>?_⟩
  cases j with
  |zero=>exact h.1
  |succ j=>have:=h2 j (by simp at hj;omega);simpa using this
 |[],_::_,h=>h.elim
 |_::_,[],h=>h.elim

theorem zpi(hH:aQ C β n H I w){x y:Cell}(hxl:x.low1 n){v:Value}(hx:x.rel1 β I w v)(h:x.to1 ty H is ρ y):y.rel1 (fun i=>β (ρ i)) (mH β H is I) w v:=by
 have hI:∀ b,I b->mH β H is I b:=fun b h=>.inl h
 unfold Cell.to1 at h
 split at h
 ·obtain⟨rfl,rfl⟩:=h;exact aZ.mono (Ext.widen hI) hx
 ·subst h;exact aZ.mono (Ext.widen hI) hx
 ·subst h;exact aZ.mono (Ext.widen hI) hx
 ·subst h;exact aZ.mono (Ext.widen hI) hx
 ·subst h;exact aZ.mono (Ext.widen hI) hx
 ·subst h;exact aZ.mono (Ext.widen hI) hx
 ·exact aZ.mono (Ext.widen hI) hx
 ·subst h;exact aZ.mono (Ext.widen hI) hx
 ·obtain⟨rfl,rfl⟩:=h;exact aZ.mono (Ext.widen hI) hx
 ·obtain⟨rfl,h0⟩:=h
  have:v=Cell.nils.val:=aZ.of_flat rfl hx
  rw[this];exact aZ.ds0 _ none 0 h0
 ·rename_i id off len cap n' c'
  obtain⟨hid',h⟩:=h
  split at h
  ·rename_i t c capc hid
   obtain⟨hd,hle,hs,rfl,rfl⟩:=h
   obtain⟨u,hu,hr,_,_⟩:=Rk (ty:=ty) (is:=is) hH (x:=.slice id off len cap) hxl (fun _ _=>by simp) (fun i hi=>by simp[Cell.ids]at hi;rw[hi];exact hid') (v:=v) hx (K:=fun y=>y= .ds len (if off=0/\c.len=len*(ty t).size then c else c.sub off (len*(ty t).size))) (by
    unfold mY;simp only[hid];refine⟨hd,fun h=>by simp[h],hle,hs,?_⟩;unfold Bq;split<;>simp_all)
   subst hu;exact hr
  ·exact h.elim
 ·obtain⟨rfl,rfl⟩:=h;exact aZ.mono (Ext.widen hI) hx
 ·rename_i id off c' off'
  obtain⟨hid',h⟩:=h
  split at h
  ·rename_i t c capc hid
   obtain⟨hd,hle,rfl,rfl⟩:=h
   obtain⟨u,hu,hr,_,_⟩:=Rk (ty:=ty) (is:=is) hH (x:=.ptr id off) hxl (fun _ _=>by simp) (fun i hi=>by simp[Cell.ids]at hi;rw[hi];exact hid') (v:=v) hx (K:=fun y=>y= .dp c' off) (by
    unfold mY;simp only[hid];exact⟨hd,hle,trivial⟩)
   subst hu;exact hr
  ·exact h.elim
 ·obtain⟨rfl,rfl⟩:=h;exact hx
 ·obtain⟨rfl,rfl,rfl,rfl⟩:=h;exact hx
 ·subst h;exact hx
 ·exact h.elim

theorem YN(hH:aQ C β n H I w){x y:Cell}(hxl:x.low n){v:Value}(hx:x.rel β I w v)(h:x.to ty H is ρ y):y.rel (fun i=>β (ρ i)) (mH β H is I) w v:=by
 unfold Cell.to at h
 split at h
 ·obtain⟨rfl,h⟩:=h
  obtain⟨h1,h2⟩:=SH h;obtain⟨g,rfl,hg⟩:=hx;exact⟨g,by rw[h1],fun j hj=>zpi hH (hxl _ (sw (by omega))) (hg j (by omega)) (h2 j (by omega))⟩
 ·rename_i hne
  have hxc:∀ f l,x≠ .clo f l:=by
   rintro f l rfl
   cases y<;>first|exact h|exact hne _ _ _ _ rfl rfl
  have hyc:∀ f l,y≠ .clo f l:=by
   rintro f l rfl
   cases x<;>first|exact h|exact hne _ _ _ _ rfl rfl
  rw[Cell.rel_eq hxc]at hx;rw[Cell.rel_eq hyc];rw[Cell.low_eq hxc]at hxl;exact zpi hH hxl hx h

theorem Rl{c:aB}{vs:List Value}:c.rel β I w vs↔(aB.cells c.list).rel β I w vs:=by
 have hl:=aB.list_length c
 constructor
 ·rintro ⟨h1,h2⟩
  exact⟨by rw[h1];exact hl.symm,fun j hj=>by
   obtain⟨v,hv,hr⟩:=h2 j (by simp only[aB.len]at hj;omega)
   exact⟨v,hv,by rw[show(aB.cells c.list).get j=c.list.getD j .nils from rfl,aB.list_getD _ (by simp only[aB.len]at hj;omega)];exact hr⟩⟩
 ·rintro ⟨h1,h2⟩
  exact⟨by rw[h1];exact hl,fun j hj=>by
   obtain⟨v,hv,hr⟩:=h2 j (by simp only[aB.len];omega)
   exact⟨v,hv,by rw[show(aB.cells c.list).get j=c.list.getD j .nils from rfl,aB.list_getD _ hj]at hr;exact hr⟩⟩
theorem z65{c:aB}(hf:c.flat=true){β':Val}{I':Nat->Prop}{vs:List Value}(h:c.rel β I w vs):c.rel β' I' w vs:=(aB.rel_flat hf).2 ((aB.rel_flat hf).1 h)

theorem WX(hH:aQ C β n H I w){c d:aB}(hcl:c.low n){vs:List Value}(hx:c.rel β I w vs)(h:c.to ty H is ρ d):d.rel (fun i=>β (ρ i)) (mH β H is I) w vs:=by
 have asL:∀ c d:aB,c.list=d.list->c.rel β I w vs->d.rel β I w vs:=fun c d e h=>by
  rw[Rl]at h ⊢;rw[<-e];exact h
 unfold aB.to at h
 split at h
 ·subst h;exact z65 rfl hx
 ·subst h;exact z65 rfl hx
 ·subst h;exact z65 rfl hx
 ·obtain⟨rfl,rfl⟩:=h;exact z65 rfl hx
 ·subst h;exact z65 rfl hx
 ·obtain⟨h1,h2⟩:=SH h
  refine⟨by rw[hx.1];exact h1,fun j hj=>?_⟩
  simp only[aB.len]at hj
  obtain⟨v,hv,hr⟩:=hx.2 j (by simp only[aB.len];omega);exact⟨v,hv,YN hH (hcl _ (sw (by omega))) hr (h2 j (by omega))⟩
 ·exact z65 rfl (asL _ (.u8s _) (by simpa [aB.list]using h) hx)
 ·exact z65 rfl (asL _ (.bools _) (by simpa [aB.list]using h) hx)
 ·exact z65 rfl (asL _ (.ints _ _) (by simpa [aB.list]using h) hx)
 ·have h0:=z65 (β':=fun i=>β (ρ i)) (I':=mH β H is I) rfl hx
  rw[Rl]at h0;rw[<-h];exact h0
 ·have h0:=z65 (β':=fun i=>β (ρ i)) (I':=mH β H is I) rfl hx
  rw[Rl]at h0;rw[<-h];exact h0
 ·have h0:=z65 (β':=fun i=>β (ρ i)) (I':=mH β H is I) rfl hx
  rw[Rl]at h0;rw[<-h];exact h0
 ·exact h.elim

theorem zio{f:Part->Part->Prop}:∀ {l m:List Part},Yw f l m->l.length=m.length/\∀ (j:Nat) y,m[j]? =some y->∃ x,l[j]? =some x/\f x y
 |[],[],_=>⟨rfl,fun j y hj=>by simp at hj⟩
 |x::l,y::m,h=>by
  obtain⟨h1,h2⟩:=zio h.2;refine⟨by simp[h1],fun j z hj=>?_⟩
  cases j with
  |zero=>simp at hj;subst hj;exact⟨x,rfl,h.1⟩
  |succ j=>have:=h2 j z (by simpa using hj);simpa using this
 |[],_::_,h=>h.elim
 |_::_,[],h=>h.elim

theorem XB(hH:aQ C β n H I w){x y:SV}(hxl:x.low n){v:Value}(hx:x.rel β I w v)(h:x.to ty H is ρ y):y.rel (fun i=>β (ρ i)) (mH β H is I) w v:=by
 unfold SV.to at h
 split at h
 ·rename_i p q;exact YN (x:=p) (y:=q) hH hxl hx h
 ·rename_i k k'
  obtain⟨vs,rfl,hr⟩:=hx;exact⟨vs,rfl,WX (c:=k) (d:=k') hH hxl hr h⟩
 ·rename_i l l'
  obtain⟨vs,rfl,hl,hr⟩:=hx;obtain⟨h1,h2⟩:=zio h;refine⟨vs,rfl,by omega,fun j q hq=>?_⟩;obtain⟨p,hp,hpq⟩:=h2 j q hq;obtain⟨u,hu,hru⟩:=hr j p hp;refine⟨u,hu,?_⟩
  have hpl:=hxl p (List.mem_of_getElem? hp)
  unfold Part.to at hpq
  split at hpq
  ·rename_i a b;exact YN (x:=a) (y:=b) hH hpl hru hpq
  ·rename_i k k'
   obtain⟨vs',rfl,hr'⟩:=hru;exact⟨vs',rfl,WX (c:=k) (d:=k') hH hpl hr' hpq⟩
  ·exact hpq.elim
 ·exact h.elim

theorem aB.to_len{c d:aB}(h:c.to ty H is ρ d):c.len=d.len:=by
 unfold aB.to at h
 split at h
 all_goals first
  |exact h.elim
  |(subst h;rfl)
  |(obtain⟨rfl,rfl⟩:=h;rfl)
  |exact(SH h).1
  |(subst h;simp[aB.len])

theorem St.le(hS:St Γ N C β n E H I a w){E':Env}{H':Heap}{n':Nat}(h:Le Γ C is ρ E H E' H' n'):St Γ N C (fun i=>β (ρ i)) n' E' H' (mH β H is I) a w:=by
 have hH:=hS.heap
 have hI:∀ b,I b->mH β H is I b:=fun b h=>.inl h
 refine⟨⟨hS.env.defers,fun i v hv=>?_,fun i v hv=>Env.low_get h.elow hv⟩,hS.size,?_,hS.glob.mono (Ext.widen hI),h.anch.1,fun i hi=>?_⟩
 ·obtain⟨u,hu,hto⟩:=Env.le_get h.env hv
  obtain⟨x,hx,hr⟩:=hS.env.slot i u hu;exact⟨x,hx,XB hH (hS.env.low i u hu) hr hto⟩
 ·refine⟨hH.os,hH.tape,hH.output,hH.size,hH.frame,fun id o ho=>?_,fun id o ho=>Heap.low_get h.hlow ho,fun id o ho b hb=>?_,fun i j oi oj hij hi hj b hu hv=>?_,fun id o ho b hb hI'=>?_,Il hH,fun b hb=>?_,fun b hb=>.inl (hH.base b hb)⟩
  ·obtain⟨hni,u,hu,hto⟩:=Heap.le_get h.heap ho
   have hh:=hH.holds _ _ hu
   have hl:=(hH.low _ _ hu).2
   unfold dw.to at hto
   split at hto
   ·rename_i t c cap t' c' cap'
    obtain⟨rfl,rfl,hto⟩:=hto
    have hlen:=aB.to_len hto
    rcases hh with⟨b,arr,h1,h2,h3,h4,h5⟩|⟨h1,h2,h3⟩
    ·exact .inl ⟨b,arr,h1,h2,h3,by omega,by rw[<-hlen];exact WX (c:=c) hH hl h5 hto⟩
    ·exact .inr ⟨h1,by omega,h3⟩
   ·rename_i t l t' l'
    obtain⟨rfl,rfl,hfl⟩:=hto;obtain⟨b,es,ck,h1,h2,h3,h4⟩:=hh
    exact⟨b,es,ck,h1,h2,h3,fun j x hx=>by
     obtain⟨e,he,h5,h6⟩:=h4 j x hx;obtain⟨f1,f2⟩:=hfl x (List.mem_of_getElem? hx)
     exact⟨e,he,(SV.rel_flat f1).2 ((SV.rel_flat f1).1 h5),(SV.rel_flat f2).2 ((SV.rel_flat f2).1 h6)⟩⟩
   ·exact hto.elim
  ·obtain⟨_,u,hu,_⟩:=Heap.le_get h.heap ho
   exact hH.fresh _ u hu b hb
  ·obtain⟨_,ui,hui,_⟩:=Heap.le_get h.heap hi
   obtain⟨_,uj,huj,_⟩:=Heap.le_get h.heap hj;exact hH.sep (ρ i) (ρ j) ui uj (fun e=>hij (zdr h.inj i (Heap.get_mem hi) j (Heap.get_mem hj) e)) hui huj b hu hv
  ·obtain⟨hni,u,hu,_⟩:=Heap.le_get h.heap ho
   rcases hI' with hI'|⟨id',o',hi',ho',hb'⟩
   ·exact hH.off _ u hu b hb hI'
   ·exact hH.sep (ρ id) id' u o' (fun e=>hni (e▸hi')) hu ho' b hb hb'
  ·rcases hb with hb|⟨id',o',hi',ho',hb'⟩
   ·exact hH.i0 b hb
   ·exact .inr (hH.fresh id' o' ho' b hb')
 ·show β (ρ i)=C.β0 i
  rw[h.anch.2 i hi];exact hS.anch.2 i hi

def WP(Γ:Ctx)(N:Nat)(C:CC)(c:Code)(E:Env)(H:Heap)(n:Nat)(Q:Exit->Act->World->Prop):Prop:=
 ∀ β I a w,St Γ N C β n E H I a w->c.wp Γ.P Q a w
def Done(Γ:Ctx)(N:Nat)(C:CC)(E:Env)(H:Heap)(n:Nat)(Q:Act->World->Prop):Prop:=
 ∀ β I a w,St Γ N C β n E H I a w->Q a w

variable {Q:Exit->Act->World->Prop}

theorem St.draw(hS:St Γ N C β n E H I a w):St Γ N C β n E H I a { w with drawn:=w.drawn+1 }:=
 have hs:Same w { w with drawn:=w.drawn+1 }:=(Below.refl _ w).drew
 ⟨hS.env.mono (fun _ _=>rfl) (hS.heap.ext hs) (Nat.le_refl _),hS.size,hS.heap.later hs,hS.glob.mono (hS.heap.ext hs),hS.anch⟩

theorem bB(hΓ:Γ.OK){id:Nat}{l:List Oper}(h:∀ K:Env->Heap->Nat->Prop,(∀ E H n,Done Γ N C E H n (Q .normal)->K E H n)->wpS Γ N l l E H n K):WP Γ N C (.region id l.toArray false) E H n Q:=
 fun _ _ _ _ hS=>wp_region_lit (SG hΓ l hS (h _ fun _ _ _ h=>h) fun β' _ _ _ I' a' w' hK hS'=>hK β' I' a' w' hS')

theorem TS(hΓ:Γ.OK){id:Nat}{l:List Oper}(hB:Region.lexB .any l.toArray=true)(h:∀ K:Env->Prop,(∀ E,Done Γ N C E H n (Q .normal)->K E)->kR Γ N l l E H K):WP Γ N C (.region id l.toArray true) E H n Q:=by
 intro β I a w hS
 have hd:=hS.draw
 exact wp_region_quiet (C:=Same { w with drawn:=w.drawn+1 }) hΓ.mixed hB (Below.refl _ _) (XA hΓ hd.glob hd.heap l hd.env hd.size (h _ fun _ h=>h) fun E' a' hK hE' hN' w' hw'=>hK β I a' w' ⟨hE'.mono (fun _ _=>rfl) (hd.heap.ext hw') (Nat.le_refl _),hN',hd.heap.later hw',hd.glob.mono (hd.heap.ext hw'),hd.anch⟩)

theorem ry(hΓ:Γ.OK){id:Nat}{l:List Oper}(r:List (Nat×Bool))(hl:r.length=l.length)(hsel:Region.noSelect l.toArray=true)(hB:JV l.toArray r (Array.replicate l.toArray.size false)=true)(h:∀ K:Env->Heap->Nat->Prop,(∀ E H n,Done Γ N C E H n (Q .normal)->K E H n)->iZ Γ N l r E H n K):
  WP Γ N C (.region id l.toArray true) E H n Q:=by
 intro β I a w hS
 have hd:=hS.draw
 refine wp_mono (Q:=fun e a w=>e= .normal/\Q .normal a w) (wp_region_any hΓ.mixed (Wz _ _ _ _ ?_)) fun e a' w' h=>by obtain⟨rfl,h⟩:=h;exact h
 have:=Mq (Q:=fun e a w=>e= .normal/\Q .normal a w) hΓ hsel (fun c a a' w h=>by cases h.1) r _ hB (fun m k hm _=>by simp[Array.getD]at hm) hd (h _ fun _ _ _ h=>h) fun β' n' E' H' I' a' w' hK hS'=>⟨rfl,hK β' I' a' w' hS'⟩
 rw[show l.toArray.size=r.length by simp[hl]];rw[show(Array.replicate l.toArray.size false)=Array.replicate r.length false by simp[hl]]at this;exact this

theorem aH{x y:Code}(h:∀ K:Act->World->Prop,(∀ E H n,WP Γ N C y E H n Q->Done Γ N C E H n K)->WP Γ N C x E H n (Exit.then K Q)):WP Γ N C (.seq x y) E H n Q:=
 fun β I a w hS=>wp_seq (h (fun a w=>y.wp Γ.P Q a w) (fun _ _ _ h=>h) β I a w hS)

theorem bC{c:Operand}{x y:Code}{b:Bool}(hc:E.ev Γ.glob c=some (.c (.bool b)))(ht:b=true->WP Γ N C x E H n Q)(hf:b=false->WP Γ N C y E H n Q):WP Γ N C (.cond c x y) E H n Q:=by
 intro β I a w hS
 have:=(SV.rel_flat (x:=.c (.bool b)) rfl).1 (Ph hS.env hS.glob hc).1
 exact wp_cond_split this (fun h=>ht h β I a w hS) (fun h=>hf h β I a w hS)
theorem bO{id:Nat}{c:Code}(h:WP Γ N C c E H n (Exit.inBlock id Q)):WP Γ N C (.block id c) E H n Q:=fun β I a w hS=>wp_block (h β I a w hS)
theorem bK(h:Done Γ N C E H n (Q .normal)):WP Γ N C .skip E H n Q:=fun β I a w hS=>wp_skip (h β I a w hS)
theorem eY{id:Nat}(h:Done Γ N C E H n (Q (.exit id))):WP Γ N C (.exit id) E H n Q:=fun β I a w hS=>wp_exit (h β I a w hS)
theorem bQ(h:Done Γ N C E H n (Q .ret)):WP Γ N C .ret E H n Q:=fun β I a w hS=>wp_ret (h β I a w hS)
theorem eX{id:Nat}(h:Done Γ N C E H n (Q .normal)):Done Γ N C E H n (Exit.inBlock id Q (.exit id)):=fun β I a w hS=>by
 simpa [Exit.inBlock]using h β I a w hS
theorem dD{id:Nat}(h:Done Γ N C E H n (Q .normal)):Done Γ N C E H n (Exit.inBlock id Q .normal):=h
theorem bJ{K:Act->World->Prop}{id:Nat}(h:Done Γ N C E H n (Q (.exit id))):Done Γ N C E H n (Exit.then K Q (.exit id)):=h

def Some'(Γ:Ctx)(N:Nat)(C:CC){α:Type}(E':α->Env)(H':α->Heap)(n':Nat)(J:α->Prop)(a:Act)(w:World):Prop:=
 ∃ x β' I',J x/\St Γ N C β' n' (E' x) (H' x) I' a w

theorem zz8{α:Type}{E':α->Env}{H':α->Heap}{n':Nat}{J:α->Prop}(is:List Nat)(ρ:Nat->Nat)(x:α)(hJ:J x)(hle:Le Γ C is ρ E H (E' x) (H' x) n'):Done Γ N C E H n (Some' Γ N C E' H' n' J):=
 fun _ _ _ _ hS=>⟨x,_,_,hJ,hS.le hle⟩
theorem OI{c:Code}{E':Env}{H':Heap}{n':Nat}(is:List Nat)(ρ:Nat->Nat)(hle:Le Γ C is ρ E H E' H' n')(h:WP Γ N C c E' H' n' Q):WP Γ N C c E H n Q:=
 fun _ _ a w hS=>h _ _ a w (hS.le hle)

theorem fM{α:Type}{body:Code}(E':α->Env)(H':α->Heap)(n':Nat)(J:α->Prop)(μ:α->Nat)(hs:Done Γ N C E H n (Some' Γ N C E' H' n' J))
  (round:∀ x,J x->WP Γ N C body (E' x) (H' x) n' (Exit.then (Some' Γ N C E' H' n' fun x'=>J x'/\μ x'< μ x) Q)):WP Γ N C (.loop body) E H n Q:=by
 intro β I a w hS b k cs
 have key:∀ m x β I a w,μ x=m->J x->St Γ N C β n' (E' x) (H' x) I a w->
   ∃ e a' w',Q e a' w'/\Arrives Γ.P (lone (b.at a (.code body:: .inLoop body::k)) cs w) b k cs e a' w':=by
  intro m
  induction m using Nat.strongRecOn with
  | _ m ih=>
   intro x β I a w hm hJ hS;obtain⟨e,a₁,w₁,hq,harr⟩:=round x hJ β I a w hS b (.inLoop body::k) cs
   cases e with
   |normal=>
    obtain⟨x',β',I',⟨hJ',hlt⟩,hS'⟩:=hq;obtain⟨e₂,a₂,w₂,hq₂,harr₂⟩:=ih (μ x') (hm▸hlt) x' β' I' a₁ w₁ rfl hJ' hS';exact⟨e₂,a₂,w₂,hq₂,.of_steps (Steps.trans harr (.one step_inLoop)) harr₂⟩
   |exit id=>exact⟨_,a₁,w₁,hq,.pass (x:=.inLoop body) rfl (fun _ _=>.inl (by simp)) harr⟩
   |goto l=>exact⟨_,a₁,w₁,hq,.pass (x:=.inLoop body) rfl (fun _ _=>.inl (by simp)) harr⟩
   |ret=>exact⟨_,a₁,w₁,hq,.pass (x:=.inLoop body) rfl (fun _ _=>.inl (by simp)) harr⟩
   |panic ch=>exact⟨_,a₁,w₁,hq,.pass (x:=.inLoop body) rfl (fun _ _=>.inl (by simp)) harr⟩
   |outgrown=>exact⟨_,a₁,w₁,hq,.pass (x:=.inLoop body) rfl (fun _ _=>.inl (by simp)) harr⟩
 obtain⟨x,β',I',hJ,hS'⟩:=hs β I a w hS;obtain⟨e,a',w',hq,harr⟩:=key _ x β' I' a w rfl hJ hS';exact⟨e,a',w',hq,.of_steps (.one step_loop) harr⟩

theorem qf{α:Type}{x y:Code}(E':α->Env)(H':α->Heap)(n':Nat)(J:α->Prop)(hx:WP Γ N C x E H n (Exit.then (Some' Γ N C E' H' n' J) Q))(hy:∀ z,J z->WP Γ N C y (E' z) (H' z) n' Q):
  WP Γ N C (.seq x y) E H n Q:=by
 intro β I a w hS;refine wp_seq (wp_mono (hx β I a w hS) fun e a' w' h=>?_)
 cases e with
 |normal=>obtain⟨z,β',I',hJ,hS'⟩:=h;exact hy z hJ β' I' a' w' hS'
 |_=>exact h

theorem UD{c:Code}(s:Nat)(e:TypeId)(k:aB)(hs:E.get s=some (.c .nils))(hk:k.len=0)(hkb:k.low n)(h:WP Γ N C c ((s,.c (.slice n 0 0 0))::E) ((n,.own e k 0)::H) (n+1) Q):WP Γ N C c E H n Q:=by
 intro β I a w hS
 have hE:=hS.env.mono (tF (β:=β) (n:=n) (x:=none)) (Ext.refl I w) (Nat.le_succ n)
 refine h (upd β n none) I a w ⟨⟨hE.defers,fun i v hv=>?_,fun i v hv=>?_⟩,hS.size,hS.heap.pushNil hk hkb,hS.glob,Nat.le_succ_of_le hS.anch.1,fun i hi=>?_⟩
 ·simp only[Env.get]at hv
  split at hv
  ·rename_i e';cases hv;subst e'
   obtain⟨x,hx,hr⟩:=hS.env.slot _ _ hs
   have:=(SV.rel_flat (x:=.c .nils) rfl).1 hr
   subst this;exact⟨_,hx,Nat.le_refl _,0,by simp[place,uV,SV.val,Cell.val],.inl rfl⟩
  ·exact hE.slot i v hv
 ·simp only[Env.get]at hv
  split at hv
  ·cases hv;exact Nat.lt_succ_self n
  ·exact hE.low i v hv
 ·rw[tF i (Nat.lt_of_lt_of_le hi hS.anch.1)];exact hS.anch.2 i hi
end
end Go.Ab

namespace Go.Ab
open Go.RowKit
section
variable {Γ:Ctx} {N:Nat} {C:CC} {β:Val} {n:Nat} {E:Env} {H:Heap} {I:Nat->Prop} {a:Act} {w:World}

def SV.part:SV->Option Part
 | .c x=>some (.c x)
 | .agg k=>some (.agg k)
 | .tup _=>none

def pO(Γ:Ctx)(E:Env)(H:Heap):List ResultVar->(List SV->Prop)->Prop
 |[],K=>K []
 | .tmp t::rs,K=>iY (E.get t) fun v=>pO Γ E H rs fun vs=>K (v::vs)
 | .cell p t::rs,K=>iY (E.get p) fun v=>Qb H v fun c off=>tZ Γ.ty t c off fun v=>pO Γ E H rs fun vs=>K (v::vs)

def NP:List SV->Option (List Part)
 |[]=>some []
 |v::vs=>match v.part,NP vs with
  |some p,some l=>some (p::l)
  |_,_=>none
def rJ:List SV->(SV->Prop)->Prop
 |[v],K=>K v
 |vs,K=>match NP vs with
  |some ps=>K (.tup ps)
  |none=>False

theorem zgk:∀ {vs:List SV} {ps:List Part},NP vs=some ps->ps.length=vs.length/\∀ (j:Nat) p,ps[j]? =some p->∃ v,vs[j]? =some v/\v.part=some p
 |[],ps,h=>by simp only[NP,Option.some.injEq]at h;subst h;exact⟨rfl,fun j p hp=>by simp at hp⟩
 | v::vs,ps,h=>by
  unfold NP at h
  split at h
  ·rename_i p l hp hl
   cases h;obtain⟨h1,h2⟩:=zgk hl;refine⟨by simp[h1],fun j q hq=>?_⟩
   cases j with
   |zero=>simp at hq;subst hq;exact⟨v,rfl,hp⟩
   |succ j=>have:=h2 j q (by simpa using hq);simpa using this
  ·cases h
theorem SV.part_rel{v:SV}{p:Part}(h:v.part=some p){x:Value}(hr:v.rel β I w x)(hl:v.low n):p.rel β I w x/\p.low n:=by
 cases v<;>simp only[SV.part,Option.some.injEq,reduceCtorEq]at h<;>subst h<;>exact⟨hr,hl⟩

def sQ(tmps:Array Value):ResultVar->Sem Value
 | .tmp t=>pure (tmps.getD t undef)
 | .cell p t=>do loadVar t (<-asAddr (tmps.getD p undef))
theorem zxi(fn:Func)(tmps:Array Value):results fn tmps=(do let vs <-fn.results.mapM (sQ tmps);pure (if h:vs.size=1 then vs[0]else .tuple vs)):=by
 unfold results
 congr 1

theorem XC(hΓ:Γ.OK)(hS:St Γ N C β n E H I a w):∀ {rs:List ResultVar} {K:List SV->Prop},pO Γ E H rs K->
  ∃ vs xs,K vs/\z77 β n I w vs xs/\vs.length=rs.length/\(rs.mapM (sQ a.tmps)).run Γ.P w= .ok xs w
 |[],K,h=>⟨[],[],h,⟨rfl,fun j v hv=>by simp at hv⟩,rfl,rfl⟩
 | .tmp t::rs,K,h=>by
  unfold pO iY at h
  split at h
  ·rename_i v hv
   obtain⟨vs,xs,hK,hc,hl,hr⟩:=XC hΓ hS h;obtain⟨x,hx,hrel⟩:=hS.env.slot t v hv;refine⟨v::vs,x::xs,hK,⟨by simp[hc.1],fun j u hu=>?_⟩,by simp[hl],?_⟩
   ·cases j with
    |zero=>simp at hu;subst hu;exact⟨x,rfl,hrel,hS.env.low t _ hv⟩
    |succ j=>have:=hc.2 j u (by simpa using hu);simpa using this
   ·have h3:(sQ a.tmps (.tmp t)).run Γ.P w= .ok x w:=by simp[sQ,hx]
    rw[List.mapM_cons]
    simp only[Sem.run_bind,h3,Result.andThen_ok,hr,Sem.run_pure]
  ·exact h.elim
 | .cell p t::rs,K,h=>by
  unfold pO iY at h
  split at h
  ·rename_i v hv
   obtain⟨y,hy,hrel⟩:=hS.env.slot p v hv;obtain⟨c,off,h,hlow,hp⟩:=zp6 hS.heap hrel h;obtain⟨sv,u,h,hb,hru,hrun⟩:=zi7 (P:=Γ.P) hΓ.ty hlow hp h;obtain⟨vs,xs,hK,hc,hl,hr⟩:=XC hΓ hS h;refine⟨sv::vs,u::xs,hK,⟨by simp[hc.1],fun j z hz=>?_⟩,by simp[hl],?_⟩
   ·cases j with
    |zero=>simp at hz;subst hz;exact⟨u,rfl,hru,hb⟩
    |succ j=>have:=hc.2 j z (by simpa using hz);simpa using this
   ·have h2:=hrun w (Below.refl _ _)
    have h3:(sQ a.tmps (.cell p t)).run Γ.P w= .ok u w:=by
     simp only[sQ,Array.getD_eq_getD_getElem?,hy,Option.getD_some]
     cases y with
     |pointer q=>
      cases q with
      |none=>simp[Instr.loadAt,Instr.sureAddr,stuck]at h2
      |some ad=>simpa [Instr.loadAt,Instr.sureAddr,asAddr]using h2
     |_=>simp[Instr.loadAt,Instr.sureAddr,stuck]at h2
    rw[List.mapM_cons]
    simp only[Sem.run_bind,h3,Result.andThen_ok,hr,Sem.run_pure]
  ·exact h.elim

theorem z56(hΓ:Γ.OK)(hS:St Γ N C β n E H I a w){fn:Func}{K:SV->Prop}(h:pO Γ E H fn.results.toList fun vs=>rJ vs K):
  ∃ v x,K v/\v.rel β I w x/\v.low n/\(results fn a.tmps).run Γ.P w= .ok x w:=by
 obtain⟨vs,xs,hK,hc,hl,hr⟩:=XC hΓ hS h
 have hm:(fn.results.mapM (sQ a.tmps)).run Γ.P w= .ok xs.toArray w:=by
  rw[Array.mapM_eq_mapM_toList]
  simp[hr]
 have hres:∀ v:Value,(if h:xs.toArray.size=1 then xs.toArray[0]else .tuple xs.toArray)=v->(results fn a.tmps).run Γ.P w= .ok v w:=by
  rintro v rfl
  rw[zxi]
  simp only[Sem.run_bind]
  rw[hm]
  rfl
 have many:vs.length≠1->(match NP vs with|some ps=>K (.tup ps)|none=>False)->∃ v x,K v/\v.rel β I w x/\v.low n/\(results fn a.tmps).run Γ.P w= .ok x w:=by
  intro hne hK
  split at hK
  ·rename_i ps hps
   obtain⟨h1,h2⟩:=zgk hps;refine⟨.tup ps,.tuple xs.toArray,hK,⟨xs,rfl,by rw[hc.1,h1],fun j p hp=>?_⟩,fun p hp=>?_,hres _ ?_⟩
   ·obtain⟨v,hv,hvp⟩:=h2 j p hp
    obtain⟨x,hx,hr,hlow⟩:=hc.2 j v hv;exact⟨x,hx,(SV.part_rel hvp hr hlow).1⟩
   ·obtain⟨j,hj,rfl⟩:=List.mem_iff_getElem.1 hp
    obtain⟨v,hv,hvp⟩:=h2 j _ (List.getElem?_eq_getElem hj);obtain⟨x,hx,hr,hlow⟩:=hc.2 j v hv;exact(SV.part_rel hvp hr hlow).2
   ·rw[dif_neg]
    show ¬ xs.length=1
    rw[hc.1];exact hne
  ·exact hK.elim
 rcases vs with _|⟨v,_|⟨u,vs⟩⟩
 ·exact many (by simp) hK
 ·obtain⟨x,hx,hr,hlow⟩:=hc.2 0 v rfl
  have hl1:=hc.1
  rcases xs with _|⟨y,_|⟨z,zs⟩⟩
  ·simp at hl1
  ·have:y=x:=by simpa using hx
   subst this;exact⟨v,y,hK,hr,hlow,hres y rfl⟩
  ·simp at hl1
 ·exact many (by simp) hK

def di(w:World)(I:Nat->Prop):CC:={ F:=fun _=>False,w0:=w,I0:=I }

theorem aQ.same{w0:World}{I0:Nat->Prop}(h:aQ (di w0 I0) β n H I w):Same w0 w:=⟨h.os,h.tape,h.output,h.size,fun k hk=>h.frame k hk (fun h=>h)⟩
theorem aQ.grow{w0:World}{I0:Nat->Prop}(h:aQ (di w0 I0) β n H I w):oM I0 w0 I w:=
 ⟨h.same,h.base,fun b hb=>(h.i0 b hb).imp id fun h=>h.resolve_right fun h=>h,h.ilt⟩
theorem aQ.growRows{w0:World}{I0:Nat->Prop}(h:aQ (di w0 I0) β n H I w)(is:List Nat):oM I0 w0 (mH β H is I) w:=
 ⟨h.same,fun b hb=>.inl (h.base b hb),fun b hb=>by
  rcases hb with hb|⟨id,o,_,ho,hb⟩
  ·exact(h.i0 b hb).imp (fun h=>h) fun h=>h.resolve_right fun h=>h
  ·exact .inr ((h.fresh id o ho b hb).resolve_right fun h=>h),Il h⟩

def zuq(w0:World)(v:SV)(e:Ending)(w':World):Prop:=e= .returned v.val/\Same w0 w'
def Sk(w0:World)(I0:Nat->Prop)(v:SV)(e:Ending)(w':World):Prop:=∃ x I',e= .returned x/\v.rel ll I' w' x/\oM I0 w0 I' w'
theorem eU(hΓ:Γ.OK){fn:Func}{w0:World}{I0:Nat->Prop}{v:SV}{Q':Act->World->Prop}(hQ:∀ a w,bodyPost Γ.P fn (zuq w0 v) .ret a w->Q' a w)(hf:v.flat=true)(rs:List ResultVar)(hrs:fn.results.toList=rs)
  (h:pO Γ E H rs fun vs=>rJ vs fun x=>x=v):Done Γ N (di w0 I0) E H n Q':=by
 subst hrs;intro β I a w hS;obtain⟨u,x,rfl,hr,hl,hrun⟩:=z56 hΓ hS h;refine hQ a w ⟨hS.env.defers,x,hrun,?_,hS.heap.same⟩;rw[(SV.rel_flat hf).1 hr]

theorem gT(hΓ:Γ.OK){fn:Func}{w0:World}{I0:Nat->Prop}{v:SV}{Q':Act->World->Prop}(hQ:∀ a w,bodyPost Γ.P fn (Sk w0 I0 v) .ret a w->Q' a w)(hv:v.low 0)(is:List Nat)(rs:List ResultVar)(hrs:fn.results.toList=rs)
  (h:pO Γ E H rs fun vs=>rJ vs fun x=>x.to Γ.ty H is id v):Done Γ N (di w0 I0) E H n Q':=by
 subst hrs;intro β I a w hS;obtain⟨u,x,hto,hr,hl,hrun⟩:=z56 hΓ hS h
 have hr':=XB (ρ:=id) hS.heap hl hr hto
 exact hQ a w ⟨hS.env.defers,x,hrun,x,mH β H is I,rfl,SV.rel_mono (n:=0) (fun i hi=>absurd hi (Nat.not_lt_zero i)) (Ext.refl _ _) hv hr',hS.heap.growRows is⟩

def lT:Nat->List SV->Env
 |_,[]=>[]
 |i,v::vs=>(i,v)::lT (i+1) vs
theorem P5:∀ {vs:List SV} {k i:Nat} {v:SV},(lT k vs).get i=some v->∃ j,i=k+j/\vs[j]? =some v
 |[],_,_,_,h=>by cases h
 | u::vs,k,i,v,h=>by
  simp only[lT,Env.get]at h
  split at h
  ·rename_i e;cases h;subst e;exact⟨0,rfl,rfl⟩
  ·obtain⟨j,hj,hv⟩:=P5 h
   exact⟨j+1,by omega,by simpa using hv⟩

theorem Wk{f:FuncId}{fn:Func}{c:Code}{vs:List SV}{xs:List Value}{R:Ending->World->Prop}(hf:Γ.P.funcs[f]? =some fn)(hb:fn.body=some c)(hN:fn.ntmps=N)(hn:vs.length<=N)
  (hH:aQ C β n H I w) (hG:mF Γ.glob I w) (hA:C.n0<=n/\∀ i,i< C.n0->β i=C.β0 i) (hD:C.D=[]) (hr:z77 β n I w vs xs) (h:WP Γ N C c (lT 0 vs) H n (bodyPost Γ.P fn R)):Calls Γ.P f xs.toArray w R:=by
 subst hN;refine calls_of_wp hf hb (h β I _ w ⟨⟨hD.symm,fun i v hv=>?_,fun i v hv=>?_⟩,by simp[hr.1];omega,hH,hG,hA⟩)
 ·obtain⟨j,rfl,hj⟩:=P5 hv
  obtain⟨x,hx,hrel,_⟩:=hr.2 j v hj
  have hlt:j< xs.length:=(List.getElem?_eq_some_iff.1 hx).1
  refine⟨x,?_,hrel⟩;rw[Array.getElem?_append_left (by simp;omega)]
  simpa using hx
 ·obtain⟨j,rfl,hj⟩:=P5 hv
  obtain⟨x,hx,_,hlow⟩:=hr.2 j v hj;exact hlow

theorem aQ.init(hlt:∀ b,I b->b< w.heap.size):aQ (di w I) ll 0 [] I w:=
 ⟨rfl,rfl,rfl,Nat.le_refl _,fun _ _ _=>rfl,fun _ _ h=>(by cases h),fun _ _ h=>(by cases h),fun _ _ h=>(by cases h),fun _ _ _ _ _ h=>(by cases h),fun _ _ h=>(by cases h),hlt,fun _ h=>.inl h,fun _ h=>h⟩

theorem XD{f:FuncId}{fn:Func}{c:Code}{vs:List SV}{xs:List Value}{R:Ending->World->Prop}(hf:Γ.P.funcs[f]? =some fn)(hb:fn.body=some c)(hN:fn.ntmps=N)(hn:vs.length<=N)
  (hG:mF Γ.glob I w) (hlt:∀ b,I b->b< w.heap.size) (hr:gu I w vs xs) (h:WP Γ N (di w I) c (lT 0 vs) [] 0 (bodyPost Γ.P fn R)):Calls Γ.P f xs.toArray w R:=
 Wk hf hb hN hn (aQ.init hlt) hG ⟨Nat.le_refl _,fun i hi=>absurd hi (Nat.not_lt_zero i)⟩ rfl hr h

theorem kU{f:FuncId}{fn:Func}{c:Code}{q:aW}(hf:Γ.P.funcs[f]? =some fn)(hb:fn.body=some c)(hN:fn.ntmps=N)
  (h:∀ vs K,q vs K->∃ v,K v/\v.flat=true/\vs.length<=N/\∀ w I,WP Γ N (di w I) c (lT 0 vs) [] 0 (bodyPost Γ.P fn (zuq w v))):jJ Γ.P Γ.glob f q:=fun vs K hq=>by
 obtain⟨v,hK,hfl,hn,hw⟩:=h vs K hq;exact⟨v,hK,hfl,fun I w xs hG hlt hA=>XD hf hb hN hn hG hlt hA (hw w I)⟩
theorem kJ{f:FuncId}{fn:Func}{c:Code}{q:aW}(hf:Γ.P.funcs[f]? =some fn)(hb:fn.body=some c)(hN:fn.ntmps=N)
  (h:∀ vs K,q vs K->∃ v,K v/\v.low 0/\vs.length<=N/\∀ w I,WP Γ N (di w I) c (lT 0 vs) [] 0 (bodyPost Γ.P fn (Sk w I v))):jr Γ.P Γ.glob f q:=fun vs K hq=>by
 obtain⟨v,hK,hfl,hn,hw⟩:=h vs K hq;exact⟨v,hK,hfl,fun I w xs hG hlt hA=>XD hf hb hN hn hG hlt hA (hw w I)⟩
theorem JA{n:Int}:sJ .i64 n↔ -9223372036854775808<=n/\n<=9223372036854775807:=by simp[sJ,IntKind.min,IntKind.max,IntKind.signed,IntKind.bits]

variable {ops os:List Oper} {o:Oper}
theorem z0I{K:Env->Prop}(h:K E):kR Γ N ops [] E H K:=h
theorem Oe{K:Env->Heap->Nat->Prop}(h:K E H n):wpS Γ N ops [] E H n K:=h
theorem z0A{K:Env->Heap->Nat->Prop}(h:K E H n):iZ Γ N ops [] E H n K:=h
theorem Fa{d j:Nat}{want b:Bool}{K:Env->Prop}(hd:o.dst=some d)(hN:d< N)(hg:o.guard=some (j,want))(hy:uX ops E j=some (some b))
  (h1:b=want->∀ K':SV->Prop,(∀ v,kR Γ N ops os ((d,v)::E) H K->K' v)->JU Γ o E H K')
  (h2:b= !want->kR Γ N ops os ((d,og)::E) H K):kR Γ N ops (o::os) E H K:=by
 refine⟨by rw[hd];exact hN,?_⟩;rw[hg,hd]
 simp only[hy]
 exact⟨fun e=>h1 e _ fun v h=>⟨v,SV.as_refl v,h⟩,h2⟩
theorem Ao{d:Nat}{K:Env->Heap->Nat->Prop}(hd:o.dst=some d)(hN:d< N)(hg:o.guard=none)
  (h:∀ K':SV->Heap->Nat->Prop,(∀ v H n,wpS Γ N ops os ((d,v)::E) H n K->K' v H n)->iW Γ o E H n K'):wpS Γ N ops (o::os) E H n K:=by
 refine⟨by rw[hd];exact hN,?_⟩;rw[hg,hd];exact h _ fun v _ _ h=>⟨v,SV.as_refl v,h⟩
theorem GN{K:Env->Heap->Nat->Prop}(hd:o.dst=none)(hg:o.guard=none)
  (h:∀ K':SV->Heap->Nat->Prop,(∀ v H n,wpS Γ N ops os E H n K->K' v H n)->iW Γ o E H n K'):wpS Γ N ops (o::os) E H n K:=by
 refine⟨by rw[hd];trivial,?_⟩;rw[hg,hd];exact h _ fun v _ _ h=>⟨v,SV.as_refl v,h⟩
theorem GM{d j:Nat}{want b:Bool}{K:Env->Heap->Nat->Prop}(hd:o.dst=some d)(hN:d< N)(hg:o.guard=some (j,want))(hy:uX ops E j=some (some b))
  (h1:b=want->∀ K':SV->Heap->Nat->Prop,(∀ v H n,wpS Γ N ops os ((d,v)::E) H n K->K' v H n)->iW Γ o E H n K')
  (h2:b= !want->wpS Γ N ops os ((d,og)::E) H n K):wpS Γ N ops (o::os) E H n K:=by
 refine⟨by rw[hd];exact hN,?_⟩;rw[hg,hd]
 simp only[hy]
 exact⟨fun e=>h1 e _ fun v _ _ h=>⟨v,SV.as_refl v,h⟩,h2⟩
theorem xu{i d:Nat}{r:List (Nat×Bool)}{K:Env->Heap->Nat->Prop}(ho:ops[i]? =some o)(hd:o.dst=some d)(hN:d< N)(hg:o.guard=none)
  (h:∀ K':SV->Prop,(∀ v,iZ Γ N ops r ((d,v)::E) H n K->K' v)->kP Γ o E H K'):iZ Γ N ops ((i,true)::r) E H n K:=by
 unfold iZ;rw[ho];refine⟨by rw[hd];exact hN,?_⟩;rw[hg,hd];exact h _ fun v h=>⟨v,SV.as_refl v,h⟩
theorem KC{i d:Nat}{r:List (Nat×Bool)}{K:Env->Heap->Nat->Prop}(ho:ops[i]? =some o)(hd:o.dst=some d)(hN:d< N)(hg:o.guard=none)
  (h:∀ K':SV->Heap->Nat->Prop,(∀ v H n,iZ Γ N ops r ((d,v)::E) H n K->K' v H n)->z89 Γ o E H n K'):iZ Γ N ops ((i,false)::r) E H n K:=by
 unfold iZ;rw[ho];refine⟨by rw[hd];exact hN,?_⟩;rw[hg,hd];exact h _ fun v _ _ h=>⟨v,SV.as_refl v,h⟩
theorem D7{i:Nat}{r:List (Nat×Bool)}{K:Env->Heap->Nat->Prop}(ho:ops[i]? =some o)(hd:o.dst=none)(hg:o.guard=none)
  (h:∀ K':SV->Heap->Nat->Prop,(∀ v H n,iZ Γ N ops r E H n K->K' v H n)->z89 Γ o E H n K'):iZ Γ N ops ((i,false)::r) E H n K:=by
 unfold iZ;rw[ho];refine⟨by rw[hd];trivial,?_⟩;rw[hg,hd];exact h _ fun v _ _ h=>⟨v,SV.as_refl v,h⟩
end
end Go.Ab

namespace Go.Ab

@[simp] theorem IJ{n:Int}:sJ .i64 n↔ -9223372036854775808<=n/\n<=9223372036854775807:=JA
@[simp] theorem NQ{l:List UInt8}:(aB.u8s l).len=l.length:=rfl
@[simp] theorem yz{l:List UInt32}:(aB.u32s l).len=l.length:=rfl
@[simp] theorem z66{l:List UInt64}:(aB.u64s l).len=l.length:=rfl
@[simp] theorem jI{k:IntKind}{l:List Int}:(aB.ints k l).len=l.length:=rfl
@[simp] theorem z17{l:List Bool}:(aB.bools l).len=l.length:=rfl
@[simp] theorem zpj{l:List Cell}:(aB.cells l).len=l.length:=rfl
@[simp] theorem Me{l:List UInt8}:(aB.u8s l).solid:=trivial
@[simp] theorem LM{l:List UInt32}:(aB.u32s l).solid:=trivial
@[simp] theorem LP{l:List UInt64}:(aB.u64s l).solid:=trivial
@[simp] theorem Rt{k:IntKind}{l:List Int}:(aB.ints k l).solid:=trivial
@[simp] theorem Ib{l:List Bool}:(aB.bools l).solid:=trivial
@[simp] theorem max_i64:IntKind.max .i64=9223372036854775807:=rfl
@[simp] theorem OO:IntKind.bits .i64=64:=rfl
theorem dC{c d:aB}{K:aB->Prop}(h:c.len=d.len)(hK:K d):c.splice 0 d K:=by
 unfold aB.splice;rw[if_pos ⟨rfl,h⟩];exact hK
theorem fT{p a b:Prop}[Decidable p](hp:p)(ha:a):if p then a else b:=by rw[if_pos hp];exact ha
theorem fA{c:aB}{off m:Nat}{K:aB->Prop}(h:K (c.sub off m)):Bq c off m K:=by
 unfold Bq
 split
 ·rename_i e
  obtain⟨rfl,rfl⟩:=e;rw[aB.sub_all]at h;exact h
 ·exact h
theorem bW{c:aB}{m:Nat}{K:aB->Prop}(h:c.len=m)(hK:K c):Bq c 0 m K:=by
 unfold Bq;rw[if_pos ⟨rfl,h⟩];exact hK
theorem low_nil'{n:Nat}:(aB.cells []).low n:=fun x hx=>by cases hx
theorem low_cons'{n:Nat}{x:Cell}{l:List Cell}(hx:x.low n)(h:(aB.cells l).low n):(aB.cells (x::l)).low n:=fun y hy=>by
 rcases List.mem_cons.1 hy with rfl|hy
 ·exact hx
 ·exact h y hy
end Go.Ab

namespace Go.Ab
open Go.RowKit

theorem aI{p q:Prop}(h:p)(k:q):p/\q:=⟨h,k⟩
section
variable {a b:Prop}
theorem gG(h:a:=by first|omega|exact trivial|rfl|(simp only[NQ,yz,z66,jI,z17,zpj];omega)|exact JA.mpr ⟨by omega,by omega⟩):a:=h
theorem gH(h:a:=by first|(refine And.intro ?_ ?_<;>exact trivial)|exact⟨trivial,trivial,trivial⟩|decide|(refine And.intro rfl ?_;(repeat first|exact trivial|refine And.intro rfl ?_);done)|exact Nat.succ_pos _|exact Nat.le_refl _|(refine And.intro trivial ?_;(repeat first|exact trivial|refine And.intro trivial ?_);done)):a:=h
theorem iM(h:a:=by first|rfl|omega|decide|(show(_:Nat)< _;decide)|exact low_nil'):a:=h
theorem iN(h:a:=by first|exact Nat.le_refl _|exact Nat.succ_pos _):a:=h
end
theorem dQ:(∀ (p:Prop) [Decidable p],(decide p=true)=p)/\(∀ (p:Prop) [Decidable p],(decide p=false)=¬p)/\(∀ a b:Int,(¬a< b)=(b<=a))/\(∀ a b:Int,(¬a<=b)=(b< a))/\(∀ b:Bool,((!b)=true)=(b=false))/\(∀ b:Bool,((!b)=false)=(b=true))/\(∀ a b:Bool,((!a)=b)=(a= !b))/\((!true)=false)/\((!false)=true)/\((false=true)=False)/\(∀ m n:Nat,((m:Int)=n)=(m=n)):=
 ⟨fun p _=>propext decide_eq_true_iff,fun p _=>by simp,fun a b=>propext Int.not_lt,fun a b=>propext Int.not_le,fun b=>by cases b<;>simp,fun b=>by cases b<;>simp,fun a b=>by cases a<;>cases b<;>simp,rfl,rfl,by simp,fun m n=>propext Int.natCast_inj⟩

section
variable {Γ:Ctx} {N:Nat} {C:CC} {ops os:List Oper} {o:Oper} {E:Env} {H:Heap} {n:Nat}
theorem sS{d:Nat}{K:Env->Heap->Nat->Prop}(h:∀ K':SV->Heap->Nat->Prop,(∀ v H n,wpS Γ N ops os ((d,v)::E) H n K->K' v H n)->iW Γ o E H n K')(hd:o.dst=some d:=by rfl)(hN:d< N:=by decide)(hg:o.guard=none:=by rfl):wpS Γ N ops (o::os) E H n K:=Ao hd hN hg h
theorem Qj{K:Env->Heap->Nat->Prop}(h:∀ K':SV->Heap->Nat->Prop,(∀ v H n,wpS Γ N ops os E H n K->K' v H n)->iW Γ o E H n K')(hd:o.dst=none:=by rfl)(hg:o.guard=none:=by rfl):wpS Γ N ops (o::os) E H n K:=GN hd hg h
theorem qA{d:Nat}{v:SV}{H':Heap}{n':Nat}{K:Env->Heap->Nat->Prop}(h:wpS Γ N ops os ((d,v)::E) H' n' K)(hs:∀ K':SV->Heap->Nat->Prop,K' v H' n'->iW Γ o E H n K':=by exact fun _ h=>h)(hd:o.dst=some d:=by rfl)(hN:d< N:=by decide)(hg:o.guard=none:=by rfl):wpS Γ N ops (o::os) E H n K:=
 Ao hd hN hg fun K' hS=>hs K' (hS _ _ _ h)
theorem dR{i d:Nat}{r:List (Nat×Bool)}{K:Env->Heap->Nat->Prop}(h:∀ K':SV->Prop,(∀ v,iZ Γ N ops r ((d,v)::E) H n K->K' v)->kP Γ o E H K')(ho:ops[i]? =some o:=by rfl)(hd:o.dst=some d:=by rfl)(hN:d< N:=by decide)(hg:o.guard=none:=by rfl):iZ Γ N ops ((i,true)::r) E H n K:=xu ho hd hN hg h
theorem Zy{i d:Nat}{v:SV}{r:List (Nat×Bool)}{K:Env->Heap->Nat->Prop}(h:iZ Γ N ops r ((d,v)::E) H n K)(ho:ops[i]? =some o:=by rfl)(hs:∀ K':SV->Prop,K' v->kP Γ o E H K':=by exact fun _ h=>h)(hd:o.dst=some d:=by rfl)(hN:d< N:=by decide)(hg:o.guard=none:=by rfl):iZ Γ N ops ((i,true)::r) E H n K:=
 xu ho hd hN hg fun K' hS=>hs K' (hS _ h)
theorem dG{i d:Nat}{r:List (Nat×Bool)}{K:Env->Heap->Nat->Prop}(h:∀ K':SV->Heap->Nat->Prop,(∀ v H n,iZ Γ N ops r ((d,v)::E) H n K->K' v H n)->z89 Γ o E H n K')(ho:ops[i]? =some o:=by rfl)(hd:o.dst=some d:=by rfl)(hN:d< N:=by decide)(hg:o.guard=none:=by rfl):iZ Γ N ops ((i,false)::r) E H n K:=KC ho hd hN hg h
theorem sN{d j:Nat}{b:Bool}{K:Env->Heap->Nat->Prop}(h:wpS Γ N ops os ((d,og)::E) H n K)(hd:o.dst=some d:=by rfl)(hN:d< N:=by decide)(hg:o.guard=some (j,b):=by rfl)(hy:uX ops E j=some (some !b):=by rfl):wpS Γ N ops (o::os) E H n K:=GM hd hN hg hy (fun e=>by cases b<;>cases e) (fun _=>h)
theorem qN{d j:Nat}{b:Bool}{K:Env->Prop}(h:kR Γ N ops os ((d,og)::E) H K)(hd:o.dst=some d:=by rfl)(hN:d< N:=by decide)(hg:o.guard=some (j,b):=by rfl)(hy:uX ops E j=some (some !b):=by rfl):kR Γ N ops (o::os) E H K:=Fa hd hN hg hy (fun e=>by cases b<;>cases e) (fun _=>h)
variable {Q:Exit->Act->World->Prop}
theorem fQ(is:List Nat)(ρ:Nat->Nat)(E':Env)(H':Heap)(n':Nat)(ks:List Nat){c:Code}(h1:Env.le Γ.ty H is ρ E E')(h2:Heap.le Γ.ty H is ρ H')(h3:Env.low n' E')(h4:Heap.low n' H')(h:WP Γ N C c E' H' n' Q)(h5:(H'.map (·.1)).map ρ=ks:=by rfl)(h6:ks.Nodup:=by decide)(h7:C.n0<=n'/\∀ i,i< C.n0->ρ i=i:=by exact⟨Nat.zero_le _,fun i hi=>absurd hi (Nat.not_lt_zero i)⟩):WP Γ N C c E H n Q:=
 OI is ρ ⟨h1,h2,h5▸h6,h3,h4,h7⟩ h
theorem ai{α:Type}{E':α->Env}{H':α->Heap}{n':Nat}{J:α->Prop}(is:List Nat)(ρ:Nat->Nat)(x:α)(hJ:J x)(ks:List Nat)(h1:Env.le Γ.ty H is ρ E (E' x))(h2:Heap.le Γ.ty H is ρ (H' x))(h3:Env.low n' (E' x))(h4:Heap.low n' (H' x))(h5:((H' x).map (·.1)).map ρ=ks:=by rfl)(h6:ks.Nodup:=by decide)(h7:C.n0<=n'/\∀ i,i< C.n0->ρ i=i:=by exact⟨Nat.zero_le _,fun i hi=>absurd hi (Nat.not_lt_zero i)⟩):Done Γ N C E H n (Some' Γ N C E' H' n' J):=
 zz8 is ρ x hJ ⟨h1,h2,h5▸h6,h3,h4,h7⟩
end
end Go.Ab

namespace Go.Ab
open Go.RowKit
section
variable {Γ:Ctx} {N:Nat} {C:CC} {β:Val} {n:Nat} {E:Env} {H:Heap} {I:Nat->Prop} {a:Act} {w:World}

def uo(w:World)(I:Nat->Prop)(b:Nat):CC:={ F:=fun k=>k=b,w0:=w,I0:=I,β0:=fun _=>some b,n0:=1 }
abbrev qw:=TypeId->aB->Nat->Nat->List SV->(aB->SV->Prop)->Prop
def wY(P:Program)(glob:Nat->Option aB)(f:FuncId)(q:qw):Prop:=
 ∀ te c cap off vs K,q te c cap off vs K->∃ c' v,K c' v/\c'.flat=true/\v.flat=true/\∀ (I:Nat->Prop) (w:World) (b:Nat) (xs:List Value),mF glob I w->aQ (uo w I b) (fun _=>some b) 1 [(0,.own te c cap)] I w->
  z77 (fun _=>some b) 1 I w (.c (.ptr 0 off)::vs) xs->Calls P f xs.toArray w fun e w'=>e= .returned v.val/\∃ I' β' n',aQ (uo w I b) β' n' [(0,.own te c' cap)] I' w'/\β' 0=some b
def Ko(q:qw):tX:=fun vs H n K=>match vs with
 | .c (.ptr id off)::rest=>match H.get id with
  |some (.own te c cap)=>(c.flat=true/\0< c.len/\∀ v∈rest,v.low 0)/\q te c cap off rest fun c' v=>K v ((id,.own te c' cap)::H) n
  |_=>False
 |_=>False

theorem Heap.get_one{o o':dw}{id:Nat}(h:Heap.get [(0,o)] id=some o'):id=0/\o=o':=by
 simp only[Heap.get]at h
 split at h
 ·rename_i e;cases h;exact⟨e.symm,rfl⟩
 ·cases h

theorem Dr{P:Program}{glob:Nat->Option aB}{f:FuncId}{q:qw}(h:wY P glob f q):wV P glob f (Ko q):=by
 intro C β n H I w vs xs K hG hH hlen hargs hs;unfold Ko at hs
 split at hs
 ·rename_i id off rest
  split at hs
  ·rename_i te c cap hid
   obtain⟨⟨hfl,hpos,hlow⟩,hq⟩:=hs;obtain⟨c',v,hK,hfl',hvfl,hcall⟩:=h _ _ _ _ _ _ hq;obtain⟨b,hb,-⟩:=hH.cellsAt hid (off:=0) hpos
   have hrow:=hH.holds id _ hid
   have hoffb:¬ I b:=hH.off id _ hid b hb
   have hbw:b< w.heap.size:=dw.Holds.lt hrow hb
   have hflat:∀ {β1 β2:Val} {I1 I2:Nat->Prop} {w1:World} {d:aB},d.flat=true->(dw.own te d cap).Holds β1 I1 w1 (some b)->(dw.own te d cap).Holds β2 I2 w1 (some b):=by
    intro β1 β2 I1 I2 w1 d hd hh
    rcases hh with⟨b',arr,h1,h2,h3,h4,h5⟩|⟨h1,_⟩
    ·exact .inl ⟨b',arr,h1,h2,h3,h4,(aB.rel_flat hd).2 ((aB.rel_flat hd).1 h5)⟩
    ·cases h1
   have hH0:aQ (uo w I b) (fun _=>some b) 1 [(0,.own te c cap)] I w:=by
    refine⟨rfl,rfl,rfl,Nat.le_refl _,fun _ _ _=>rfl,?_,?_,?_,?_,?_,hH.ilt,fun _ h=>.inl h,fun _ h=>h⟩
    ·intro i o ho;obtain⟨rfl,rfl⟩:=Heap.get_one ho
     rw[hb]at hrow;exact hflat hfl hrow
    ·intro i o ho;obtain⟨rfl,rfl⟩:=Heap.get_one ho
     exact⟨Nat.one_pos,aB.flat_low hfl⟩
    ·intro i o ho b' hb';cases hb';exact .inr rfl
    ·intro i j oi oj hij hi hj;obtain⟨rfl,-⟩:=Heap.get_one hi;obtain⟨rfl,-⟩:=Heap.get_one hj;exact absurd rfl hij
    ·intro i o ho b' hb';cases hb';exact hoffb
   have hrel:z77 (fun _=>some b) 1 I w (.c (.ptr 0 off)::rest) xs:=by
    refine⟨by simpa using hlen,fun j u hu=>?_⟩
    cases j with
    |zero=>
     obtain⟨x,hx,hr,_⟩:=hargs 0 _ rfl;cases hu;refine⟨x,hx,?_,Nat.one_pos⟩
     have hr':x= .pointer (place β id off):=hr
     show x= .pointer (place (fun _=>some b) 0 off)
     rw[hr',place,place,hb]
    |succ j=>
     obtain⟨x,hx,hr,_⟩:=hargs (j+1) _ hu
     have hl0:=hlow u (List.mem_of_getElem? (by simpa using hu))
     exact⟨x,hx,SV.rel_mono (n:=0) (fun i hi=>absurd hi (Nat.not_lt_zero i)) (Ext.refl _ _) hl0 hr,SV.low_mono (Nat.zero_le _) hl0⟩
   refine Calls.mono (hcall I w b xs hG hH0 hrel) fun e w' ⟨he,I',β',n',hA,hβ'⟩=>⟨v.val,he,?_⟩
   have hE:Ext I w I' w':=fun b0 h0=>⟨hA.base b0 h0,hA.frame b0 (hH.ilt b0 h0) (fun e=>hoffb (e▸h0))⟩
   have hkeep:∀ k,k< w.heap.size->k≠b->w'.heap[k]? =w.heap[k]? :=fun k hk hkb=>hA.frame k hk hkb
   have hsz:w.heap.size<=w'.heap.size:=hA.size
   have hIb:¬ I' b:=hA.off 0 _ rfl b hβ'
   have hrow':=hA.holds 0 _ rfl
   rw[hβ']at hrow'
   have hget:∀ i o,Heap.get ((id,dw.own te c' cap)::H) i=some o->(i=id/\o= .own te c' cap)\/(i≠id/\H.get i=some o):=fun i o ho=>by
    simp only[Heap.get]at ho
    split at ho
    ·rename_i e;cases ho;exact .inl ⟨e.symm,rfl⟩
    ·rename_i e;exact .inr ⟨fun e'=>e e'.symm,ho⟩
   have hne:∀ i o,i≠id->H.get i=some o->∀ b',β i=some b'->b'≠b:=fun i o hi ho b' hb' e=>hH.sep i id o _ hi ho hid b' hb' (e▸hb)
   refine⟨v,_,n,β,I',hK,(SV.rel_flat hvfl).2 rfl,SV.flat_low hvfl,Nat.le_refl _,fun _ _=>rfl,hE,?_⟩;refine⟨hA.os.trans hH.os,hA.tape.trans hH.tape,hA.output.trans hH.output,Nat.le_trans hH.size hsz,?_,?_,?_,?_,?_,?_,hA.ilt,?_,fun b0 h0=>hA.base b0 (hH.base b0 h0)⟩
   ·intro k hk hF
    rw[hkeep k (Nat.lt_of_lt_of_le hk hH.size) ?_]
    ·exact hH.frame k hk hF
    ·intro e
     rcases hH.fresh id _ hid b hb with h1|h1
     ·omega
     ·exact hF (e▸h1)
   ·intro i o ho
    rcases hget i o ho with⟨rfl,rfl⟩|⟨hi,ho⟩
    ·rw[hb];exact hflat hfl' hrow'
    ·have hh:=hH.holds i o ho
     exact hh.mono (n:=n) (fun _ _=>rfl) hE (hH.low i o ho).2 fun b' hb'=>hkeep b' (dw.Holds.lt hh hb') (hne i o hi ho b' hb')
   ·intro i o ho
    rcases hget i o ho with⟨rfl,rfl⟩|⟨hi,ho⟩
    ·exact⟨(hH.low _ _ hid).1,aB.flat_low hfl'⟩
    ·exact hH.low i o ho
   ·intro i o ho b' hb'
    rcases hget i o ho with⟨rfl,rfl⟩|⟨hi,ho⟩
    ·exact hH.fresh _ _ hid b' hb'
    ·exact hH.fresh i o ho b' hb'
   ·intro i j oi oj hij hi hj b' h1 h2
    rcases hget i oi hi with⟨hi1,_⟩|⟨hi1,hi2⟩
    ·rcases hget j oj hj with⟨hj1,_⟩|⟨hj1,hj2⟩
     ·exact hij (hi1.trans hj1.symm)
     ·exact hH.sep id j _ oj (fun e=>hj1 e.symm) hid hj2 b' (hi1▸h1) h2
    ·rcases hget j oj hj with⟨hj1,_⟩|⟨hj1,hj2⟩
     ·exact hH.sep i id oi _ hi1 hi2 hid b' h1 (hj1▸h2)
     ·exact hH.sep i j oi oj hij hi2 hj2 b' h1 h2
   ·intro i o ho b' hb' hI'
    rcases hget i o ho with⟨rfl,rfl⟩|⟨hi,ho⟩
    ·rw[hb]at hb';cases hb';exact hIb hI'
    ·have hlt:=dw.Holds.lt (hH.holds i o ho) hb'
     rcases hA.i0 b' hI' with h1|h1|h1
     ·exact hH.off i o ho b' hb' h1
     ·have h1':w.heap.size<=b':=h1
      omega
     ·exact hne i o hi ho b' hb' h1
   ·intro b' hI'
    rcases hA.i0 b' hI' with h1|h1|h1
    ·exact hH.i0 b' h1
    ·exact .inr (.inl (Nat.le_trans hH.size h1))
    ·exact absurd hI' (by have h1':b'=b:=h1;rw[h1'];exact hIb)
  ·exact hs.elim
 ·exact hs.elim

def zz9(w0:World)(I0:Nat->Prop)(b:Nat)(te:TypeId)(c':aB)(cap:Nat)(v:SV)(e:Ending)(w':World):Prop:=
 e= .returned v.val/\∃ I' β' n',aQ (uo w0 I0 b) β' n' [(0,.own te c' cap)] I' w'/\β' 0=some b

theorem zza(hΓ:Γ.OK){fn:Func}{w0:World}{I0:Nat->Prop}{b:Nat}{te:TypeId}{c':aB}{cap:Nat}{Q':Act->World->Prop}(hQ:∀ a w,bodyPost Γ.P fn (zz9 w0 I0 b te c' cap og) .ret a w->Q' a w)(hrs:fn.results.toList=[])
  (hH':H.get 0=some (.own te c' cap)):Done Γ N (uo w0 I0 b) E H n Q':=by
 intro β I a w hS;obtain⟨u,x,rfl,hr,hl,hrun⟩:=z56 (K:=fun x=>x= .tup []) hΓ hS (fn:=fn) (by rw[hrs];exact rfl);refine hQ a w ⟨hS.env.defers,x,hrun,?_,I,β,n,?_,?_⟩
 ·obtain⟨vs,h1,h2,_⟩:=hr
  rw[h1,List.eq_nil_of_length_eq_zero h2]
  rfl
 ·refine hS.heap.sub fun id o ho=>?_
  obtain⟨rfl,rfl⟩:=Heap.get_one ho;exact hH'
 ·exact hS.anch.2 0 Nat.one_pos

theorem Kq{f:FuncId}{fn:Func}{c:Code}{q:qw}(hf:Γ.P.funcs[f]? =some fn)(hb:fn.body=some c)(hN:fn.ntmps=N)
  (h:∀ te k cap off vs K,q te k cap off vs K->∃ c' v,K c' v/\c'.flat=true/\v.flat=true/\vs.length+1<=N/\∀ w I b,WP Γ N (uo w I b) c (lT 0 (.c (.ptr 0 off)::vs)) [(0,.own te k cap)] 1 (bodyPost Γ.P fn (zz9 w I b te c' cap v))):wY Γ.P Γ.glob f q:=fun te k cap off vs K hq=>by
 obtain⟨c',v,hK,h1,h2,h3,hw⟩:=h te k cap off vs K hq;exact⟨c',v,hK,h1,h2,fun I w b xs hG hH hr=>Wk hf hb hN (by simpa using h3) hH hG ⟨Nat.le_refl _,fun _ _=>rfl⟩ rfl hr (hw w I b)⟩
end
end Go.Ab

namespace Go.Ab
open Go.RowKit

def fr(ro:Option Nat):Fence:={ Fence.wide with round:=ro }
section
variable {P:Program} {a:Act} {w:World} {m:Nat} {ro:Option Nat}

theorem zxj{f:FuncId}{args:Array Value}{R:Ending->World->Prop}(h:Calls P f args w R):CallsIn (fr ro) m P f args w R:=by
 have h2:CallsIn Fence.wide m P f args w R:=callsIn_wide.2 h
 cases ro with
 |none=>exact h2
 |some l=>exact CallsIn.inRound l h2

theorem fC.wpIn{o:Oper}{R:Value->World->Prop}(h:fC P a o w R)(hnd:∀ c,o.op≠ .defer c){K:Act->World->Prop}{Q:Exit->Act->World->Prop}(hK:∀ v w',R v w'->K (a.put o.dst v) w'):o.wpIn (fr ro) m P a w K Q:=by
 refine⟨fun _ _=>trivial,?_⟩;rw[show(fr ro).round=ro from rfl,Oper.semAt_eq ro a.eval o hnd];unfold fC at h;unfold Oper.uponIn
 split at h
 ·rename_i v w' hr;rw[hr];exact hK _ _ h
 ·rename_i w' hr;rw[hr];exact hK _ _ h
 ·rename_i f args w' hr;rw[hr]
  refine⟨fun hd=>(by cases hd),zxj (Calls.mono h fun e w'' ⟨v,he,hR⟩=>?_)⟩;subst he;exact hK _ _ hR
 ·exact h.elim

theorem zxk{o:Oper}{c:Call}{x:Operand}{l:Nat}{R:Ending->World->Prop}(ho:o.op= .call c)(hc:c.callee= .value x)(hx:a.eval x= .func (.yield l) #[] #[])(hy:YieldAt (fr ro) (m - 1) P l (c.args.map a.eval) w R)
  {K:Act->World->Prop} {Q:Exit->Act->World->Prop} (hK:∀ e w',R e w'->∃ v,e= .returned v/\K (a.put o.dst v) w'):o.wpIn (fr ro) m P a w K Q:=by
 refine⟨fun _ _=>trivial,?_⟩;rw[show(fr ro).round=ro from rfl,Oper.semAt_eq ro a.eval o (fun c' h=>by rw[ho]at h;cases h)];obtain⟨fn,tmps,assign,body,hrun,hR⟩:=hy
 have e:(execOp a.eval o).run P w= .ok (.round l fn tmps assign body) w:=by
  simp only[execOp,ho,resolve,hc,hx,Deferred.ofValue,Sem.run_bind,Sem.run_pure,Result.andThen_ok,invoke,Array.empty_append]
  simpa using hrun
 rw[e];refine⟨fun hd=>(by cases hd),RoundIn.mono hR fun e' w' hRe=>?_⟩;obtain⟨v,rfl,hk⟩:=hK e' w' hRe;exact hk
end

section
variable {Γ:Ctx} {N:Nat} {C:CC} {β:Val} {n:Nat} {E:Env} {H:Heap} {I:Nat->Prop} {a:Act} {w:World} {m:Nat} {ro:Option Nat}

def Ba(Γ:Ctx)(N:Nat):List Oper->Env->Heap->Nat->(Env->Heap->Nat->Prop)->Prop
 |[],E,H,n,K=>K E H n
 |o::os,E,H,n,K=>(oP N o.dst/\o.guard=none/\∀ c,o.op≠ .defer c)/\iW Γ o E H n fun v H n=>∃ v',v.as v'/\Ba Γ N os (E.put o.dst v') H n K

theorem SI(hΓ:Γ.OK){ops:Array Oper}{Q:Exit->Act->World->Prop}{rest:List Nat}{K:Env->Heap->Nat->Prop}
  (hK:∀ β' n' E' H' I' a' w',K E' H' n'->St Γ N C β' n' E' H' I' a' w'->wpOpsIn (fr ro) m Γ.P ops Q rest a' w'):
  ∀ (os:List Oper) (k:Nat) (β:Val) (n:Nat) (E:Env) (H:Heap) (I:Nat->Prop) (a:Act) (w:World),(∀ j,j< os.length->ops[k+j]? =os[j]?)->St Γ N C β n E H I a w->Ba Γ N os E H n K->
   wpOpsIn (fr ro) m Γ.P ops Q (List.range' k os.length++rest) a w
 |[],k,β,n,E,H,I,a,w,_,hS,h=>by simpa using hK β n E H I a w h hS
 |o::os,k,β,n,E,H,I,a,w,hl,hS,h=>by
  obtain⟨⟨hd,hg,hnd⟩,h⟩:=h
  have h0:ops[k]? =some o:=by simpa using hl 0 (by simp)
  rw[List.length_cons,List.range'_succ,List.cons_append];unfold wpOpsIn
  simp only[h0,Region.wanted,hg,if_true]
  refine(Mf hΓ hS.env hS.glob hS.heap h).wpIn hnd fun x w' hA=>?_;obtain⟨v,H',n',β',I',hK',hS'⟩:=hS.after hA.as hd;exact SI hΓ hK os (k+1) _ _ _ _ _ _ _ (fun j hj=>by have:=hl (j+1) (by simp;omega);simpa [Nat.add_assoc,Nat.add_comm 1 j]using this) hS' hK'

theorem zxl(hΓ:Γ.OK){id:Nat}{l:List Oper}{Q:Exit->Act->World->Prop}(h:∀ K:Env->Heap->Nat->Prop,(∀ E H n,Done Γ N C E H n (Q .normal)->K E H n)->Ba Γ N l E H n K)(hS:St Γ N C β n E H I a w):
  (Code.region id l.toArray false).wpIn (fr ro) m Γ.P Q a w:=by
 refine wpIn_region ?_;rw[show List.range l.toArray.size=List.range' 0 l.length++[] by simp[List.range_eq_range']];exact SI hΓ (fun β' n' E' H' I' a' w' hK hS'=>hK β' I' a' w' hS') l 0 β n E H I a w (fun j _=>by simp) hS (h _ fun _ _ _ h=>h)
end
end Go.Ab

namespace Go.Ab
open Go.RowKit
section
variable {Γ:Ctx} {N:Nat} {C:CC} {β:Val} {n:Nat} {E:Env} {H:Heap} {I:Nat->Prop} {a:Act} {w:World} {l:List Oper} {Q:Exit->Act->World->Prop}

def Ng(ops:Array Oper):List (Nat×Bool)->Array Bool->Bool
 |[],_=>true
 |(i,true)::r,listed=>Region.free .any ops listed i&&(nR ops listed i||TR ops i)&&(Region.ready .any ops listed).contains i&&Ng ops r (listed.setIfInBounds i true)
 |(i,false)::r,listed=>Region.ready .any ops listed==[i]&&Ng ops r (listed.setIfInBounds i true)
def Sl:List (Nat×Bool)->Array Bool->Array Bool
 |[],listed=>listed
 |(i,_)::r,listed=>Sl r (listed.setIfInBounds i true)

def WB(Γ:Ctx)(N:Nat)(C:CC)(l:List Oper)(Q:Exit->Act->World->Prop)(g:Nat)(listed:Array Bool)(E:Env)(H:Heap)(n:Nat):Prop:=
 ∀ β I a w,kW l.toArray listed->St Γ N C β n E H I a w->pQ Γ.P l.toArray (fun e a w=>e= .normal/\Q .normal a w) g listed a w
def Zw(Γ:Ctx)(N:Nat)(C:CC)(l:List Oper)(Q:Exit->Act->World->Prop)(g:Nat)(listed:Array Bool)(E:Env)(H:Heap)(n:Nat)(i:Nat):Prop:=
 ∀ β I a w,kW l.toArray listed->i∈Region.ready .any l.toArray listed->St Γ N C β n E H I a w->
  wpOp Γ.P l.toArray (fun e a w=>e= .normal/\Q .normal a w) i (fun a' w'=>(uQ l.toArray i=false->Same w w')/\pQ Γ.P l.toArray (fun e a w=>e= .normal/\Q .normal a w) g (listed.setIfInBounds i true) a' w') a w

theorem z24{g:Nat}{listed:Array Bool}(hr:Region.ready .any l.toArray listed=[])(h:Done Γ N C E H n (Q .normal)):WB Γ N C l Q g listed E H n:=fun β I a w _ hS=>by
 have hq:(fun(e:Exit) (a:Act) (w:World)=>e= .normal/\Q .normal a w) .normal a w:=⟨rfl,h β I a w hS⟩
 cases g with
 |zero=>exact⟨hr,hq⟩
 |succ g=>exact⟨fun _=>hq,fun i hi=>by rw[hr]at hi;cases hi⟩

theorem ji{g:Nat}{listed:Array Bool}(rs:List Nat)(hr:Region.ready .any l.toArray listed=rs)(hne:rs≠[])(h:∀ i∈rs,Zw Γ N C l Q g listed E H n i):WB Γ N C l Q (g+1) listed E H n:=fun β I a w hc hS=>
 ⟨fun h0=>absurd (hr.symm.trans h0) hne,fun i hi=>h i (hr▸hi) β I a w hc hi hS⟩

theorem lK (hΓ:Γ.OK) {g:Nat} (hsel:Region.noSelect l.toArray=true):∀ (r:List (Nat×Bool)) {listed:Array Bool} {E:Env} {H:Heap} {n:Nat},Ng l.toArray r listed=true->
  (∀ K:Env->Heap->Nat->Prop,(∀ E H n,WB Γ N C l Q g (Sl r listed) E H n->K E H n)->iZ Γ N l r E H n K)->WB Γ N C l Q (r.length+g) listed E H n:=by
 intro r listed E H n hB h β I a w hc hS
 have key:∀ (r:List (Nat×Bool)) (listed:Array Bool) {β:Val} {n:Nat} {E:Env} {H:Heap} {I:Nat->Prop} {a:Act} {w:World} {K:Env->Heap->Nat->Prop},Ng l.toArray r listed=true->kW l.toArray listed->St Γ N C β n E H I a w->iZ Γ N l r E H n K->
   (∀ β' n' E' H' I' a' w',K E' H' n'->kW l.toArray (Sl r listed)->St Γ N C β' n' E' H' I' a' w'->pQ Γ.P l.toArray (fun e a w=>e= .normal/\Q .normal a w) g (Sl r listed) a' w')->
   pQ Γ.P l.toArray (fun e a w=>e= .normal/\Q .normal a w) (r.length+g) listed a w:=by
  intro r
  induction r with
  |nil=>intro listed β n E H I a w K _ hc hS h hQ;rw[List.length_nil,Nat.zero_add];exact hQ β n E H I a w h hc hS
  | cons x r ih=>
   obtain⟨i,q⟩:=x;intro listed β n E H I a w K hB hc hS h hQ;unfold iZ at h;rw[List.length_cons,show r.length+1+g=(r.length+g)+1 by omega]
   split at h
   ·exact h.elim
   ·rename_i o ho
    obtain⟨hd,h⟩:=h
    have hi:l.toArray[i]? =some o:=by simpa using ho
    cases q with
    | true=>
     simp only[Ng,Bool.and_eq_true]at hB
     obtain⟨⟨⟨hf,hlate⟩,hr⟩,hB⟩:=hB
     have hr':i∈Region.ready .any l.toArray listed:=by simpa using hr
     have fin:∀ v x,(nR l.toArray listed i=true/\YieldsIf Γ.P l.toArray (Same w) o x a\/YieldsIf Γ.P l.toArray (fun _=>True) o x a)->v.rel β I w x->v.low n->iZ Γ N l r (E.put o.dst v) H n K->pQ Γ.P l.toArray (fun e a w=>e= .normal/\Q .normal a w) (r.length+g+1) listed a w:=by
      intro v x hy hrel hlow hK;obtain⟨hE',hN'⟩:=hS.env.put hS.size hd hrel hlow
      rcases hy with⟨hlate,hy⟩|hy
      ·exact zuo hi (Region.noSelect_spec hsel) (fun c a w h=>by cases h.1) (r.length+g) listed a w (Region.free_spec hi hf) hc hlate hr' hy (ih _ hB (hc.set hr') ⟨hE',hN',hS.heap,hS.glob,hS.anch⟩ hK hQ)
      ·exact zcr hi (Region.noSelect_spec hsel) (fun c a w h=>by cases h.1) (r.length+g) listed a w (Region.free_spec hi hf) hr' hy (ih _ hB (hc.set hr') ⟨hE',hN',hS.heap,hS.glob,hS.anch⟩ hK hQ)
     have run:Region.wanted o (yielded l.toArray a.tmps)=true->kP Γ o E H (fun v=>∃ v',v.as v'/\iZ Γ N l r (E.put o.dst v') H n K)->pQ Γ.P l.toArray (fun e a w=>e= .normal/\Q .normal a w) (r.length+g+1) listed a w:=by
      intro hw h
      rcases Bool.or_eq_true _ _▸hlate with hl1|hl1
      ·obtain⟨v0,x,⟨v,has,hK⟩,hl,hrel,hrun⟩:=zim hΓ hS.env hS.glob hS.heap h
       obtain⟨hrel,hl⟩:=has _ _ _ _ _ hrel hl;exact fin v x (.inl ⟨hl1,.inl ⟨hw,hrun⟩⟩) hrel hl hK
      ·obtain⟨v0,x,⟨v,has,hK⟩,hl,hrel,hrun⟩:=zin hΓ hS.env hS.glob hS.heap (by unfold TR at hl1;rw[hi]at hl1;exact hl1) h
       obtain⟨hrel,hl⟩:=has _ _ _ _ _ hrel hl;exact fin v x (.inr (.inl ⟨hw,fun w' _=>hrun w'⟩)) hrel hl hK
     have skip:Region.wanted o (yielded l.toArray a.tmps)=false->iZ Γ N l r (E.put o.dst og) H n K->pQ Γ.P l.toArray (fun e a w=>e= .normal/\Q .normal a w) (r.length+g+1) listed a w:=by
      intro hw h;exact fin og undef (.inr (.inr ⟨hw,rfl⟩)) Lf trivial h
     split at h
     ·rename_i hg
      exact run (by simp[Region.wanted,hg]) (by simpa using h)
     ·rename_i j want hg
      split at h
      ·rename_i b hy
       have hy':=z20 hS.env hy
       by_cases hbw:b=want
       ·subst hbw
        exact run (by simp[Region.wanted,hg,hy']) (by simpa using h.1 rfl)
       ·exact skip (by simpa [Region.wanted,hg,hy']using hbw) (h.2 (by cases b<;>cases want<;>simp_all))
      ·rename_i hy
       exact skip (by simp[Region.wanted,hg,z20 hS.env hy]) h
      ·exact h.elim
    | false=>
     simp only[Ng,Bool.and_eq_true,beq_iff_eq]at hB
     obtain⟨hr,hB⟩:=hB;refine⟨fun h0=>(by rw[hr]at h0;cases h0),fun j hj=>?_⟩
     have hcs:kW l.toArray (listed.setIfInBounds i true):=hc.set (by rw[hr];exact List.mem_singleton.2 rfl)
     rw[hr]at hj
     obtain rfl:j=i:=by simpa using hj
     have run:z89 Γ o E H n (fun v H n=>∃ v',v.as v'/\iZ Γ N l r (E.put o.dst v') H n K)->o.wp Γ.P a w (fun a' w'=>(uQ l.toArray j=false->Same w w')/\pQ Γ.P l.toArray (fun e a w=>e= .normal/\Q .normal a w) (r.length+g) (listed.setIfInBounds j true) a' w') (fun e a w=>e= .normal/\Q .normal a w):=by
      intro h
      have hwr:uQ l.toArray j=Pw o:=by unfold uQ;rw[hi]
      unfold z89 at h
      split at h<;>rename_i hw
      ·refine(Mf hΓ hS.env hS.glob hS.heap h).wp fun x w' hA=>?_
       obtain⟨v,H',n',β',I',hK,hS'⟩:=hS.after hA.as hd;exact⟨fun h0=>(by rw[hwr,hw]at h0;cases h0),ih _ hB hcs hS' hK hQ⟩
      ·refine(PM hΓ hS.env hS.glob hS.heap h).wp fun x w' hA=>?_
       obtain⟨v,H',n',β',I',hK,hS'⟩:=hS.after hA.2.as hd;exact⟨fun _=>hA.1,ih _ hB hcs hS' hK hQ⟩
     have skip:iZ Γ N l r (E.put o.dst og) H n K->(uQ l.toArray j=false->Same w w)/\pQ Γ.P l.toArray (fun e a w=>e= .normal/\Q .normal a w) (r.length+g) (listed.setIfInBounds j true) (a.put o.dst undef) w:=by
      intro h;obtain⟨hE',hN'⟩:=hS.env.put hS.size hd Lf trivial;exact⟨fun _=>Below.refl _ _,ih _ hB hcs ⟨hE',hN',hS.heap,hS.glob,hS.anch⟩ h hQ⟩
     unfold wpOp
     simp only[hi]
     split at h
     ·rename_i hg
      simp only[Region.wanted,hg,if_true]
      exact .inl (run (by simpa using h))
     ·rename_i j' want hg
      split at h
      ·rename_i b hy
       have hy':=z20 hS.env hy
       simp only[Region.wanted,hg,hy']
       by_cases hbw:b=want
       ·subst hbw;simp only[beq_self_eq_true,if_true];exact .inl (run (by simpa using h.1 rfl))
       ·have:(some b==some want)=false:=by simpa using hbw
        simp only[this,Bool.false_eq_true,if_false]
        exact skip (h.2 (by cases b<;>cases want<;>simp_all))
      ·rename_i hy
       have hy':=z20 hS.env hy
       simp only[Region.wanted,hg,hy']
       exact skip h
      ·exact h.elim
 exact key r listed hB hc hS (h _ fun _ _ _ h=>h) fun β' n' E' H' I' a' w' hK hc' hS'=>hK β' I' a' w' hc' hS'

theorem QT(hΓ:Γ.OK){id:Nat}(h:WB Γ N C l Q l.length (Array.replicate l.toArray.size false) E H n):WP Γ N C (.region id l.toArray true) E H n Q:=by
 intro β I a w hS
 have hd:=hS.draw
 refine wp_mono (Q:=fun e a w=>e= .normal/\Q .normal a w) (wp_region_any hΓ.mixed (Wz _ _ _ _ ?_)) fun e a' w' h=>by obtain⟨rfl,h⟩:=h;exact h
 have:=h β I a { w with drawn:=w.drawn+1 } (fun m k hm _=>by simp[Array.getD]at hm) hd
 simpa using this
end
end Go.Ab

namespace Go.Ab
open Go.RowKit
section
variable {Γ:Ctx} {N:Nat} {C:CC} {β β':Val} {n n':Nat} {E:Env} {H H':Heap} {I I':Nat->Prop} {a:Act} {w w':World} {m:Nat} {ro:Option Nat} {Q:Exit->Act->World->Prop}

def oN(w:World)(I:Nat->Prop)(β:Val)(n:Nat)(H:Heap)(D:List Deferred):CC:={ F:=fun b=>∃ id o,H.get id=some o/\β id=some b,w0:=w,I0:=I,β0:=β,n0:=n,D:=D }

theorem aQ.ank(h:aQ C β n H I w)(D:List Deferred):aQ (oN w I β n H D) β n H I w:=
 ⟨rfl,rfl,rfl,Nat.le_refl _,fun _ _ _=>rfl,h.holds,h.low,fun id o ho b hb=>.inr ⟨id,o,ho,hb⟩,h.sep,h.off,h.ilt,fun _ h=>.inl h,fun _ h=>h⟩

theorem aQ.unank{D:List Deferred}(h:aQ C β n H I w)(k:aQ (oN w I β n H D) β' n' H' I' w'):aQ C β' n' H' I' w':=by
 have hfr:∀ b,(∃ id o,H.get id=some o/\β id=some b)->C.w0.heap.size<=b\/C.F b:=fun b ⟨id,o,ho,hb⟩=>h.fresh id o ho b hb
 have hsz:w.heap.size<=w'.heap.size:=k.size
 refine⟨k.os.trans h.os,k.tape.trans h.tape,k.output.trans h.output,Nat.le_trans h.size hsz,fun b hb hF=>?_,k.holds,k.low,fun id o ho b hb=>?_,k.sep,k.off,k.ilt,fun b hb=>?_,fun b hb=>k.base b (h.base b hb)⟩
 ·refine(k.frame b (Nat.lt_of_lt_of_le hb h.size) fun hf=>?_).trans (h.frame b hb hF)
  rcases hfr b hf with h1|h1
  ·omega
  ·exact hF h1
 ·rcases k.fresh id o ho b hb with h1|h1
  ·exact .inl (Nat.le_trans h.size h1)
  ·exact hfr b h1
 ·rcases k.i0 b hb with h1|h1|h1
  ·exact h.i0 b h1
  ·exact .inr (.inl (Nat.le_trans h.size h1))
  ·exact .inr (hfr b h1)

theorem aQ.ankExt{D:List Deferred}(h:aQ C β n H I w)(k:aQ (oN w I β n H D) β' n' H' I' w'):Ext I w I' w':=
 fun b hb=>⟨k.base b hb,k.frame b (h.ilt b hb) fun⟨id,o,ho,hb'⟩=>h.off id o ho b hb' hb⟩

structure Aside(β:Val)(H:Heap)(I:Nat->Prop)(w:World)(r:Nat)(o:Obj):Prop where
 at':w.heap[r]? =some o
 data:¬ I r
 own:∀ id o,H.get id=some o->∀ b,β id=some b->b≠r

theorem Aside.lt{r:Nat}{o:Obj}(h:Aside β H I w r o):r< w.heap.size:=(Array.getElem?_eq_some_iff.1 h.at').1

theorem Aside.ank{D:List Deferred}{r:Nat}{o:Obj}(h:Aside β H I w r o)(k:aQ (oN w I β n H D) β' n' H' I' w'):Aside β' H' I' w' r o:=by
 have hno:¬ ∃ id o,H.get id=some o/\β id=some r:=fun⟨id,o,ho,hb⟩=>h.own id o ho r hb rfl
 refine⟨(k.frame r h.lt hno).trans h.at',fun hI=>?_,fun id o ho b hb e=>?_⟩
 ·rcases k.i0 r hI with h1|h1|h1
  ·exact h.data h1
  ·exact absurd h.lt (Nat.not_lt.2 h1)
  ·exact hno h1
 ·subst e
  rcases k.fresh id o ho b hb with h1|h1
  ·exact absurd h.lt (Nat.not_lt.2 h1)
  ·exact hno h1

theorem Aside.put{r r':Nat}{o o':Obj}(h:Aside β H I w r o)(hne:r≠r'):Aside β H I (w.putObj r' o') r o:=⟨(World.putObj_heap_other hne).trans h.at',h.data,h.own⟩
theorem Aside.same{r:Nat}{o:Obj}(h:Aside β H I w r o)(o':Obj):Aside β H I (w.putObj r o') r o':=⟨World.putObj_heap_same h.lt,h.data,h.own⟩

theorem aQ.other(h:aQ C β n H I w){r:Nat}{o:Obj}(hr:C.w0.heap.size<=r)(hA:Aside β H I w r o)(o':Obj):aQ C β n H I (w.putObj r o')/\Ext I w I (w.putObj r o'):=by
 have hE:Ext I w I (w.putObj r o'):=fun b hb=>⟨hb,World.putObj_heap_other (fun e=>hA.data (e▸hb))⟩
 refine⟨⟨h.os,h.tape,h.output,by rw[World.putObj_size];exact h.size,fun k hk hf=>?_,fun id o' ho=>?_,h.low,h.fresh,h.sep,h.off,fun b hb=>by rw[World.putObj_size];exact h.ilt b hb,h.i0,h.base⟩,hE⟩
 ·rw[World.putObj_heap_other (by omega)];exact h.frame k hk hf
 ·exact(h.holds id o' ho).mono (n:=n) (fun _ _=>rfl) hE (h.low id o' ho).2 fun b hb=>World.putObj_heap_other (hA.own id o' ho b hb)

theorem aQ.party{D D':Nat->Prop}{β1:Val}{n1:Nat}{H1:Heap}(h:aQ C β n H I w)(k:aQ (di w D) β1 n1 H1 D' w')(hD:∀ b,D b->I b):aQ C β n H (fun b=>I b\/D' b) w':=by
 have hs:Same w w':=k.same
 have hsz:=hs.size
 refine(h.later hs).widen (fun b hb=>.inl hb) (fun b hb=>?_) (fun id o ho b hb hI=>?_) (fun b hb=>?_)
 ·rcases hb with hb|hb
  ·exact Nat.lt_of_lt_of_le (h.ilt b hb) hsz
  ·exact k.ilt b hb
 ·rcases hI with hI|hI
  ·exact h.off id o ho b hb hI
  ·rcases k.i0 b hI with h1|h1|h1
   ·exact h.off id o ho b hb (hD b h1)
   ·have:=(h.holds id o ho).lt hb
    have h1':w.heap.size<=b:=h1
    omega
   ·exact h1
 ·rcases hb with hb|hb
  ·exact h.i0 b hb
  ·rcases k.i0 b hb with h1|h1|h1
   ·exact h.i0 b (hD b h1)
   ·exact .inr (.inl (Nat.le_trans h.size h1))
   ·exact h1.elim

theorem Aside.party{D D':Nat->Prop}{β1:Val}{n1:Nat}{H1:Heap}{r:Nat}{o:Obj}(h:Aside β H I w r o)(k:aQ (di w D) β1 n1 H1 D' w')(hD:∀ b,D b->I b):Aside β H (fun b=>I b\/D' b) w' r o:=by
 refine⟨(k.same.block r h.lt).trans h.at',fun hI=>?_,h.own⟩
 rcases hI with hI|hI
 ·exact h.data hI
 ·rcases k.i0 r hI with h1|h1|h1
  ·exact h.data (hD r h1)
  ·exact absurd h.lt (Nat.not_lt.2 h1)
  ·exact h1

theorem aQ.reval(h:aQ C β' n' H I w)(hl:∀ id o,H.get id=some o->id< n/\o.low n)(hβ:∀ i,i< n->β' i=β i):aQ C β n H I w:=by
 have e:∀ id o,H.get id=some o->β id=β' id:=fun id o ho=>(hβ id (hl id o ho).1).symm
 refine⟨h.os,h.tape,h.output,h.size,h.frame,fun id o ho=>?_,hl,fun id o ho b hb=>h.fresh id o ho b (e id o ho▸hb),fun i j oi oj hij hi hj b hb hb'=>h.sep i j oi oj hij hi hj b (e i oi hi▸hb) (e j oj hj▸hb'),fun id o ho b hb=>h.off id o ho b (e id o ho▸hb),h.ilt,h.i0,h.base⟩;rw[e id o ho];exact(h.holds id o ho).mono (n:=n) (fun i hi=>(hβ i hi).symm) (Ext.refl _ _) (hl id o ho).2 fun _ _=>rfl
theorem Aside.reval{r:Nat}{o:Obj}(h:Aside β' H I w r o)(hl:∀ id o,H.get id=some o->id< n/\o.low n)(hβ:∀ i,i< n->β' i=β i):Aside β H I w r o:=
 ⟨h.at',h.data,fun id o ho b hb=>h.own id o ho b ((hβ id (hl id o ho).1).trans hb)⟩
theorem Aside.sub{H2:Heap}{r:Nat}{o:Obj}(h:Aside β H I w r o)(hs:∀ id o,H2.get id=some o->H.get id=some o):Aside β H2 I w r o:=⟨h.at',h.data,fun id o ho=>h.own id o (hs id o ho)⟩

def Jl(Γ:Ctx)(N:Nat)(C:CC)(ro:Option Nat)(m:Nat)(c:Code)(E:Env)(H:Heap)(n:Nat)(Q:Exit->Act->World->Prop):Prop:=
 ∀ β I a w,St Γ N C β n E H I a w->c.wpIn (fr ro) m Γ.P Q a w
theorem zl7(hΓ:Γ.OK){id:Nat}{l:List Oper}(h:∀ K:Env->Heap->Nat->Prop,(∀ E H n,Done Γ N C E H n (Q .normal)->K E H n)->Ba Γ N l E H n K):Jl Γ N C ro m (.region id l.toArray false) E H n Q:=
 fun _ _ _ _ hS=>zxl hΓ h hS
theorem zzb{id:Nat}{c:Code}(h:Jl Γ N C ro m c E H n (Exit.inBlock id Q)):Jl Γ N C ro m (.block id c) E H n Q:=fun β I a w hS=>wpIn_block (h β I a w hS)

theorem uR{K:Env->Heap->Nat->Prop}(h:K E H n):Ba Γ N [] E H n K:=h
theorem z91{o:Oper}{os:List Oper}{d:Nat}{K:Env->Heap->Nat->Prop}(hd:o.dst=some d)(hN:d< N)(hg:o.guard=none)(hnd:∀ c,o.op≠ .defer c)
  (h:∀ K':SV->Heap->Nat->Prop,(∀ v H n,Ba Γ N os ((d,v)::E) H n K->K' v H n)->iW Γ o E H n K'):Ba Γ N (o::os) E H n K:=by
 refine⟨⟨by rw[hd];exact hN,hg,hnd⟩,?_⟩;rw[hd];exact h _ fun v _ _ h=>⟨v,SV.as_refl v,h⟩

theorem Heap.sub_of{H:Heap}:∀ {H':Heap},(∀ x∈H',H.get x.1=some x.2)->∀ i o,H'.get i=some o->H.get i=some o
 |[],_,_,_,h=>by cases h
 |(j,u)::H',hx,i,o,h=>by
  simp only[Heap.get]at h
  split at h
  ·rename_i e;cases h;subst e;exact hx _ List.mem_cons_self
  ·exact Heap.sub_of (fun x hm=>hx x (List.mem_cons_of_mem _ hm)) i o h

end
end Go.Ab

namespace Go.Ab
open Go.RowKit
section
variable {Γ:Ctx} {N:Nat} {C:CC} {β β':Val} {n n':Nat} {E:Env} {H H':Heap} {I I':Nat->Prop} {a:Act} {w w':World} {m:Nat} {Q:Exit->Act->World->Prop}

theorem ziq{P:Program}{body:Code}(At:Nat->Act->World->Prop)(K:Nat)(hK:∀ k a w,At k a w->k<=K)(round:∀ k a w,At k a w->body.wp P (Exit.then (At (k+1)) Q) a w)(k:Nat)(a:Act)(w:World)(h:At k a w):(Code.loop body).wp P Q a w:=by
 intro b k' cs
 have key:∀ m k a w,K+1 - k=m->At k a w->∃ e a' w',Q e a' w'/\Arrives P (lone (b.at a (.code body:: .inLoop body::k')) cs w) b k' cs e a' w':=by
  intro m
  induction m with
  |zero=>intro k a w hm h;have:=hK k a w h;omega
  | succ m ih=>
   intro k a w hm h;obtain⟨e,a₁,w₁,hq,harr⟩:=round k a w h b (.inLoop body::k') cs
   cases e with
   |normal=>
    obtain⟨e₂,a₂,w₂,hq₂,harr₂⟩:=ih (k+1) a₁ w₁ (by omega) hq;exact⟨e₂,a₂,w₂,hq₂,.of_steps (Steps.trans harr (.one step_inLoop)) harr₂⟩
   |exit id=>exact⟨_,a₁,w₁,hq,.pass (x:=.inLoop body) rfl (fun _ _=>.inl (by simp)) harr⟩
   |goto l=>exact⟨_,a₁,w₁,hq,.pass (x:=.inLoop body) rfl (fun _ _=>.inl (by simp)) harr⟩
   |ret=>exact⟨_,a₁,w₁,hq,.pass (x:=.inLoop body) rfl (fun _ _=>.inl (by simp)) harr⟩
   |panic ch=>exact⟨_,a₁,w₁,hq,.pass (x:=.inLoop body) rfl (fun _ _=>.inl (by simp)) harr⟩
   |outgrown=>exact⟨_,a₁,w₁,hq,.pass (x:=.inLoop body) rfl (fun _ _=>.inl (by simp)) harr⟩
 obtain⟨e,a',w',hq,harr⟩:=key _ k a w rfl h;exact⟨e,a',w',hq,.of_steps (.one step_loop) harr⟩

def uf(Γ:Ctx)(N:Nat)(J:(Nat->Prop)->World->Prop)(E:Env)(a:Act)(w:World):Prop:=∃ D β n,J D w/\St Γ N (di w D) β n E [] D a w

theorem uf.wp{J:(Nat->Prop)->World->Prop}{c:Code}(hA:uf Γ N J E a w)(h:∀ D w n,J D w->WP Γ N (di w D) c E [] n Q):c.wp Γ.P Q a w:=by
 obtain⟨D,β,n,hJ,hS⟩:=hA;exact h D w n hJ β D a w hS

theorem St.atJ{J:(Nat->Prop)->World->Prop}{w0:World}{D0:Nat->Prop}(hJ:J D0 w0)(hab:∀ D w D' w' β n H,J D w->aQ (di w D) β n H D' w'->J D' w')(hS:St Γ N (di w0 D0) β n E H I a w):uf Γ N J E a w:=
 ⟨I,β,n,hab _ _ _ _ _ _ _ hJ hS.heap,hS.env,hS.size,⟨rfl,rfl,rfl,Nat.le_refl _,fun _ _ _=>rfl,fun _ _ h=>(by cases h),fun _ _ h=>(by cases h),fun _ _ h=>(by cases h),fun _ _ _ _ _ h=>(by cases h),fun _ _ h=>(by cases h),hS.heap.ilt,fun _ h=>.inl h,fun _ h=>h⟩,hS.glob,Nat.zero_le _,fun i hi=>absurd hi (Nat.not_lt_zero i)⟩

theorem Zr{J:(Nat->Prop)->World->Prop}{w0:World}{D0:Nat->Prop}{c:Code}(hJ:J D0 w0)(hab:∀ D w D' w' β n H,J D w->aQ (di w D) β n H D' w'->J D' w')(h:∀ a w,uf Γ N J E a w->c.wp Γ.P Q a w):WP Γ N (di w0 D0) c E H n Q:=
 fun _ _ a w hS=>h a w (hS.atJ hJ hab)

theorem uf.sub{J:(Nat->Prop)->World->Prop}{E':Env}(h:uf Γ N J E a w)(hs:∀ i v,E'.get i=some v->E.get i=some v):uf Γ N J E' a w:=by
 obtain⟨D,β,n,hJ,hS⟩:=h;exact⟨D,β,n,hJ,⟨hS.env.defers,fun i v hv=>hS.env.slot i v (hs i v hv),fun i v hv=>hS.env.low i v (hs i v hv)⟩,hS.size,hS.heap,hS.glob,hS.anch⟩

theorem Env.sub_of{E:Env}:∀ {E':Env},(∀ x∈E',E.get x.1=some x.2)->∀ i v,E'.get i=some v->E.get i=some v
 |[],_,_,_,h=>by cases h
 |(j,u)::E',hx,i,v,h=>by
  simp only[Env.get]at h
  split at h
  ·rename_i e;cases h;subst e;exact hx _ List.mem_cons_self
  ·exact Env.sub_of (fun x hm=>hx x (List.mem_cons_of_mem _ hm)) i v h

theorem Aq{x y:Code}(h:∀ K:Act->World->Prop,(∀ C E H n,WP Γ N C y E H n Q->Done Γ N C E H n K)->WP Γ N C x E H n (Exit.then K Q)):WP Γ N C (.seq x y) E H n Q:=
 fun β I a w hS=>wp_seq (h (fun a w=>y.wp Γ.P Q a w) (fun _ _ _ _ h=>h) β I a w hS)
theorem zgl(hΓ:Γ.OK){fn:Func}{R:Ending->World->Prop}(hD:C.D=[])(hrs:fn.results.toList=[])(hR:∀ β I a w,St Γ N C β n E H I a w->R (.returned (.tuple #[])) w):Done Γ N C E H n (bodyPost Γ.P fn R .normal):=by
 intro β I a w hS;obtain⟨u,x,rfl,hr,hl,hrun⟩:=z56 (K:=fun x=>x= .tup []) hΓ hS (fn:=fn) (by rw[hrs];exact rfl);refine⟨hS.env.defers.trans hD,x,hrun,?_⟩;obtain⟨vs,h1,h2,_⟩:=hr;rw[h1,List.eq_nil_of_length_eq_zero h2];exact hR β I a w hS

theorem zpl{f:FuncId}{fn:Func}{c:Code}{vs:List SV}{xs:List Value}{R:Ending->World->Prop}(hf:Γ.P.funcs[f]? =some fn)(hb:fn.body=some c)(hN:fn.ntmps=N)(hn:vs.length<=N)
  (hH:aQ C β n H I w) (hG:mF Γ.glob I w) (hA:C.n0<=n/\∀ i,i< C.n0->β i=C.β0 i) (hD:C.D=[]) (hr:z77 β n I w vs xs) (h:WP Γ N C c (lT 0 vs) H n (bodyPostM Fence.wide 0 Γ.P fn R)):Calls Γ.P f xs.toArray w R:=by
 subst hN;refine(callsIn_wide (n:=0)).1 (callsIn_of_wp_marks hf hb trivial ((wpIn_wide (n:=0)).2 (h β I _ w ⟨⟨hD.symm,fun i v hv=>?_,fun i v hv=>?_⟩,by simp[hr.1];omega,hH,hG,hA⟩)))
 ·obtain⟨j,rfl,hj⟩:=P5 hv
  obtain⟨x,hx,hrel,_⟩:=hr.2 j v hj
  have hlt:j< xs.length:=(List.getElem?_eq_some_iff.1 hx).1
  refine⟨x,?_,hrel⟩;rw[Array.getElem?_append_left (by simp;omega)]
  simpa using hx
 ·obtain⟨j,rfl,hj⟩:=P5 hv
  obtain⟨x,hx,_,hlow⟩:=hr.2 j v hj;exact hlow

end
end Go.Ab

namespace Go.Ab
open Go.RowKit Go.ChangeShapes Go.Deep
section
variable {H:Type} {enc:TypeId×Value->H} {P:Program} {W W':World}

abbrev qQ(W:World):Nat->Prop:=fun b=>b< W.heap.size

def Fit(enc:TypeId×Value->H)(P:Program)(W:World)(t:TypeId)(S:Cell->Prop):Prop:=
 ∀ fuel cs x,DataW.trod enc P W 0 (fun _=>true) true fuel t cs=some x->∃ v c,cs=[v]/\aZ (qQ W) W c v/\S c
theorem Fit.mono{t:TypeId}{S S':Cell->Prop}(h:Fit enc P W t S)(hS:∀ c,S c->S' c):Fit enc P W t S':=fun fuel cs x hx=>
 let ⟨v,c,h1,h2,h3⟩:=h fuel cs x hx;⟨v,c,h1,h2,hS c h3⟩

theorem LY{n:Int}(h:(Lit.int .u8 n).wf=true):Value.int .u8 n=(Cell.u8 (UInt8.ofNat n.toNat)).val:=by
 have:0<=n/\n<=255:=by simpa [Lit.wf,IntKind.min,IntKind.max,IntKind.signed,IntKind.bits]using h
 simp[Cell.val];omega
theorem Zs{t:TypeId}(ht:P.underlying t=some (.int .u8)):Fit enc P W t fun c=>∃ b,c= .u8 b:=fun fuel cs x h=>by
 obtain⟨n,rfl,rfl,hw⟩:=DataW.trod_int ht h;rw[LY hw];exact⟨_,_,rfl,aZ.flat (.u8 _) rfl,_,rfl⟩
theorem zpm{a:Addr}{v:Value}(h:W.cell? a=some v):a.spot=none/\a.block< W.heap.size:=by
 unfold World.cell? at h
 split at h
 ·rename_i hb
  split at h
  ·cases h
  ·rename_i hs
   exact⟨by simpa using hs,(Array.getElem?_eq_some_iff.1 hb).1⟩
 ·cases h

theorem zze{t e:TypeId}{S:Cell->Prop}(ht:P.underlying t=some (.slice e))(hc:P.cellsOf e=1)(he:Fit enc P W e S):
  Fit enc P W t fun c=>∃ xs:List Cell,c= .ds xs.length (.cells xs)/\xs.length<=9223372036854775807/\∀ x∈xs,S x:=fun fuel cs x h=>by
 rcases open_slice1 ht hc h with⟨rfl,_⟩|⟨a,len,cap,m,n,V,D,Pl,rfl,hb,hl,hm,hmm,rfl,hx⟩
 ·exact⟨_,.ds 0 (.cells []),rfl,.ds0 _ _ _ rfl,[],rfl,Nat.zero_le _,by simp⟩
 ·simp only[if_true]at hmm
  have hmm:=hmm.symm
  subst hmm
  obtain⟨f,hf⟩:=choose_lt (α:=Cell) (n:=len) (p:=fun i c=>aZ (qQ W) W c (V i)/\S c) (fun i hi=>by
   obtain⟨v,c,hv,h1,h2⟩:=he _ _ _ (hx i (by omega)).2;cases hv
   exact⟨c,h1,h2⟩)
  have hmax:len<=9223372036854775807:=by have:=hm;simp only[maxLen]at this;omega
  refine⟨_,.ds ((List.range len).map f).length (.cells ((List.range len).map f)),rfl,?_,_,rfl,by simpa using hmax,fun x hx=>?_⟩
  ·by_cases h0:len=0
   ·subst h0;exact .ds0 _ _ _ rfl
   ·obtain⟨hs,hbl⟩:=zpm (hx 0 (by omega)).1
    obtain⟨b,o,s⟩:=a
    have hs':s=none:=by simpa [Addr.add]using hs
    subst hs';rw[show((List.range len).map f).length=len by simp];refine .ds len _ b o cap V hl hbl (by show 0< ((List.range len).map f).length;simp;omega) (fun j hj=>?_) (fun j hj=>?_)
    ·have hj':j< len:=by simpa [aB.len]using hj
     have e:(⟨b,o,none⟩:Addr).add j=⟨b,o+j,none⟩:=by
      unfold Addr.add
      split
      ·rename_i h;rw[h];rfl
      ·rfl
     rw[<-e];exact(hx j (by omega)).1
    ·have hj':j< len:=by simpa [aB.len]using hj
     have e:(aB.cells ((List.range len).map f)).get j=f j:=by simp[aB.get,List.getD_eq_getElem?_getD,hj']
     rw[e];exact(hf j hj').1
  ·obtain⟨i,hi,rfl⟩:=List.mem_map.1 hx
   exact(hf i (List.mem_range.1 hi)).2

theorem aZ.recont{I:Nat->Prop}{n:Nat}{c c':aB}{v:Value}(h:aZ I W (.ds n c) v)(hl:c'.len=c.len)(hg:∀ j,j< c.len->c'.get j=c.get j):aZ I W (.ds n c') v:=by
 cases h with
 |flat _ h=>cases h
 |ds0 _ a cap h=>exact .ds0 _ _ _ (hl.trans h)
 |ds _ _ b off cap f h1 h2 h3 h4 h5=>exact .ds n c' b off cap f h1 h2 (hl▸h3) (fun j hj=>h4 j (hl▸hj)) (fun j hj=>by rw[hg j (hl▸hj)];exact h5 j (hl▸hj))

theorem zzf{t e:TypeId}{α:Type}{S:Cell->Prop}{g:α->Cell}{K:List α->aB}(ht:P.underlying t=some (.slice e))(hc:P.cellsOf e=1)(he:Fit enc P W e S)(hS:∀ c,S c->∃ a,c=g a)
  (hK:∀ l,(K l).len=l.length/\∀ j (h:j< l.length),(K l).get j=g l[j]):Fit enc P W t fun c=>∃ l:List α,c= .ds l.length (K l)/\l.length<=9223372036854775807:=fun fuel cs x h=>by
 obtain⟨v,c,rfl,hd,xs,rfl,hl,hx⟩:=zze ht hc he fuel cs x h
 have key:∀ xs:List Cell,(∀ x∈xs,S x)->∃ l:List α,xs=l.map g:=by
  intro xs
  induction xs with
  |nil=>exact fun _=>⟨[],rfl⟩
  |cons x xs ih=>
   intro hx;obtain⟨a,rfl⟩:=hS x (hx x (by simp));obtain⟨l,rfl⟩:=ih fun y hy=>hx y (by simp[hy]);exact⟨a::l,rfl⟩
 obtain⟨l,rfl⟩:=key xs hx;refine⟨v,.ds l.length (K l),rfl,?_,l,rfl,by simpa using hl⟩;rw[List.length_map]at hd;refine hd.recont (by rw[(hK l).1];exact(List.length_map ..).symm) (fun j hj=>?_)
 have hj':j< l.length:=by simpa [aB.len]using hj
 rw[(hK l).2 j hj']
 simp[aB.get,List.getD_eq_getElem?_getD,hj']

theorem zpn{t e:TypeId}(ht:P.underlying t=some (.slice e))(hc:P.cellsOf e=1)(he:P.underlying e=some (.int .u8)):Fit enc P W t fun c=>∃ l:List UInt8,c= .ds l.length (.u8s l)/\l.length<=9223372036854775807:=
 zzf ht hc (Zs he) (fun _ h=>h) (fun l=>⟨rfl,fun j h=>by simp[aB.get,List.getD_eq_getElem?_getD,h]⟩)
theorem zzg{I:Nat->Prop}:gu I W [] []:=⟨rfl,fun j v h=>by simp at h⟩
theorem zl8{I:Nat->Prop}{s:SV}{v:Value}{vs:List SV}{xs:List Value}(hr:s.rel ll I W v)(hl:s.low 0)(h:gu I W vs xs):gu I W (s::vs) (v::xs):=by
 refine⟨by simp[h.1],fun j u hu=>?_⟩
 cases j with
 |zero=>cases hu;exact⟨v,rfl,hr,hl⟩
 |succ j=>exact h.2 j u hu
theorem zxm{I:Nat->Prop}{c:Cell}{v:Value}{vs:List SV}{xs:List Value}(hr:aZ I W c v)(h:gu I W vs xs):gu I W (.c c::vs) (v::xs):=zl8 (Cell.rel_of hr) (aZ.low hr) h
theorem zzh{r:Reach}{base:Nat}{t e:TypeId}{v:Value}{d:DataW H}{p:List MemPlace}{S:Cell->Prop}(ht:P.underlying t=some (.slice e))(hf:Fit enc P W t S)(hval:Value.okWide P W r base t v)(h:DataW.Trod enc P W 0 (fun _=>true) true t v d p):
  ∃ c,aZ (qQ W) W c v/\S c:=by
 obtain⟨a,len,cap,rfl⟩:=Go.WideShapes.okWide_slice ht hval;obtain⟨fuel,h⟩:=h;obtain⟨v',c,hv,h1,h2⟩:=hf fuel _ _ h;cases hv;exact⟨c,h1,h2⟩
theorem zdu(hl:laidOutB P=true)(hb:Below W.heap.size W W'):∀ {ts:List TypeId} {vs:List Value} {ds:List (DataW H)} {ps:List MemPlace},(∀ t∈ts,P.readableRec t=true/\t< P.types.size)->DataW.TrodAll enc P W 0 (fun _=>true) true ts vs ds ps->
  (∀ x∈ps,x.block< W.heap.size)->DataW.TrodAll enc P W' 0 (fun b=>decide (b< W.heap.size)) true ts vs ds ps
 |[],[],[],ps,_,h,_=>h
 |t::ts,v::vs,d::ds,ps,ht,⟨p,q,h1,h2,e⟩,hlt=>by
  subst e;exact⟨p,q,Below.trod hl (ht t (by simp)).1 (ht t (by simp)).2 h1 hb fun x hx=>hlt x (by simp[hx]),zdu hl hb (fun u hu=>ht u (by simp[hu])) h2 fun x hx=>hlt x (by simp[hx]),rfl⟩
 |[],_::_,_,_,_,h,_=>by cases h
 |[],[],_::_,_,_,h,_=>by cases h
 |_::_,[],_,_,_,h,_=>by cases h
 |_::_,_::_,[],_,_,h,_=>by cases h

theorem AO{f:Func}{s:ChangeSpec}{args:Array Value}{ds gs:List (DataW H)}{before:List MemPlace}{tb:TypeId}(hl:laidOutB P=true)(hts:∀ t∈f.params.toList,P.readableRec t=true/\t< P.types.size)(hr:f.resultTypes= #[tb])(htb:P.underlying tb=some .bool)
  (hW:DataW.Whole enc P f.params.toList s.vars false W args.toList ds gs before) (hv:s.vars=[]) (hs:(s.fn H (ds++gs)).results=[.lit (.bool true)]/\(s.fn H (ds++gs)).args=ds/\(s.fn H (ds++gs)).vars=[]) (hb:Same W W'):
  s.post enc P f false true false false W args (.bool true) W':=by
 have hW':=hW
 obtain⟨p,q,hA,hV,rfl,hfz,hnd⟩:=hW;rw[hv]at hV;obtain⟨rfl,rfl⟩:=trodVars_none hV;refine⟨_,_,_,[],p,[],hW',?_,?_,?_,hb.frame _,fun h=>by cases h⟩
 ·rw[hs.1,hr]
  exact trodAll_cons_mk (shut_bool htb true) trodAll_mk0
 ·rw[hs.2.1]
  exact zdu hl hb hts hA fun x hx=>hW'.lt x (by simp[hx])
 ·rw[hs.2.2,hv]
  rfl
end
end Go.Ab

namespace Go.Ab
open Go.RowKit
section
variable {Γ:Ctx} {N:Nat} {C:CC} {β:Val} {n:Nat} {E:Env} {H:Heap} {I:Nat->Prop} {a:Act} {w:World}

def gM(x:Cell):Prop:=x.pureB=true/\∀ g l,x≠ .clo g l
theorem zl9{ty:Nat->Ty}{x:Cell}(hx:gM x){K:SV->Prop}(h:K (.c x)):qG ty H (.c x) K:=by
 obtain⟨h1,h2⟩:=hx
 cases x<;>first|exact h|(simp[Cell.pureB]at h1;done)|exact absurd rfl (h2 _ _)
theorem viewS_data'{ty:Nat->Ty}:∀ {xs:List Cell} (_:∀ x∈xs,gM x) {K:List SV->Prop} (_:K (xs.map .c)),kQ ty H (xs.map .c) K
 |[],_,_,h=>h
 |x::xs,hx,K,h=>zl9 (hx x (.head _)) (viewS_data' (xs:=xs) (fun y hy=>hx y (.tail _ hy)) h)
theorem Rm{f:FuncId}{caps:List Cell}{vs:List SV}{K:FuncId->List SV->Prop}(h:K f (vs++caps.map .c)):z76 (.c (.clo f caps)) vs K:=by
 cases caps with
 |nil=>simpa [z76]using h
 |cons x xs=>exact h
theorem zzi{f:FuncId}{q:aW}(hq:rV Γ.fs f=some (.flat q)){xs caps:List Cell}(hx:∀ x∈xs,gM x)(hc:∀ x∈caps,gM x){K:SV->Heap->Nat->Prop}(h:q ((xs++caps).map .c) fun v=>K v H n):
  z76 (.c (.clo f caps)) (xs.map .c) fun f vs=>mR Γ f vs H n K:=by
 refine Rm ?_;unfold mR
 simp only[hq]
 rw[<-List.map_append];exact viewS_data' (fun x hx'=>(List.mem_append.1 hx').elim (hx x) (hc x)) h
theorem zkx{f:FuncId}{q:aW}(hq:rV Γ.fs f=some (.flat q)){xs caps:List Cell}(hx:∀ x∈xs,gM x)(hc:∀ x∈caps,gM x){K:SV->Prop}(h:q ((xs++caps).map .c) K):
  z76 (.c (.clo f caps)) (xs.map .c) fun f vs=>match rV Γ.fs f with
   |some (.flat q)=>kQ Γ.ty H vs fun us=>q us K
   |_=>False:=by
 refine Rm ?_;rw[hq];rw[<-List.map_append];exact viewS_data' (fun x hx'=>(List.mem_append.1 hx').elim (hx x) (hc x)) h
theorem zzj{x:Cell}(h:gM x){n:Nat}:x.low1 n:=by
 obtain⟨h1,h2⟩:=h
 cases x<;>first|exact trivial|(simp[Cell.pureB]at h1;done)|exact absurd rfl (h2 _ _)
theorem uy{caps:List Cell}(h:∀ x∈caps,gM x){n:Nat}{f:FuncId}:SV.low n (.c (.clo f caps)):=fun x hx=>zzj (h x hx)
theorem BU{ty:Nat->Ty}{is:List Nat}{ρ:Nat->Nat}{x:Cell}(h:gM x):x.to1 ty H is ρ x:=by
 obtain⟨h1,h2⟩:=h
 cases x<;>first|exact trivial|exact⟨rfl,rfl⟩|exact rfl|(simp[Cell.pureB]at h1;done)|exact absurd rfl (h2 _ _)
theorem Gl{ty:Nat->Ty}{is:List Nat}{ρ:Nat->Nat}:∀ {caps:List Cell} (_:∀ x∈caps,gM x),bR (Cell.to1 ty H is ρ) caps caps
 |[],_=>trivial
 |x::l,h=>⟨BU (h x (.head _)),Gl fun y hy=>h y (.tail _ hy)⟩
theorem zzk{k:IntKind}{n:Int}:gM (.int k n):=⟨rfl,fun _ _=>by simp⟩
theorem zpo{x:UInt64}:gM (.u64 x):=⟨rfl,fun _ _=>by simp⟩
theorem zla{x:Bool}:gM (.bool x):=⟨rfl,fun _ _=>by simp⟩
theorem qV{c:aB}{o:Nat}:gM (.dp c o):=⟨rfl,fun _ _=>by simp⟩
theorem si:∀ x∈([]:List Cell),gM x:=fun x hx=>by cases hx
theorem o8{x:Cell}{xs:List Cell}(h:gM x)(hs:∀ y∈xs,gM y):∀ y∈x::xs,gM y:=fun y hy=>by
 rcases List.mem_cons.1 hy with rfl|hy
 ·exact h
 ·exact hs y hy
theorem zpp{f:FuncId}{s:Spec}:∀ {l:List (FuncId×Spec)} (_:∀ p∈l,p.1≠f),rV (l++[(f,s)]) f=some s
 |[],_=>by simp[rV]
 |(g,s')::l,h=>by
  show(if g=f then some s' else rV (l++[(f,s)]) f)=_
  rw[if_neg (h (g,s') (.head _))];exact zpp fun p hp=>h p (.tail _ hp)
end
end Go.Ab

namespace Go.Ab
open Go.RowKit
section
variable {Γ:Ctx} {N:Nat} {C:CC} {β:Val} {n:Nat} {E:Env} {H:Heap} {I:Nat->Prop} {a:Act} {w:World} {Q:Exit->Act->World->Prop}

theorem EK{l:List Cell}{i m:Nat}{x:Cell}(h:(aB.cells l).low m)(hx:x.low m):(aB.cells (l.set i x)).low m:=fun y hy=>by
 rcases List.mem_or_eq_of_mem_set hy with hy|rfl
 ·exact h y hy
 ·exact hx
theorem Fe{l:List Cell}{i m cap:Nat}(hn:l[i]? =some .nils){vs:List Value}(h:(aB.cells l).rel β I w vs)(hb:β m=none):(aB.cells (l.set i (.slice m 0 0 0))).rel β I w vs:=by
 refine⟨by rw[h.1];simp[aB.len],fun j hj=>?_⟩
 simp only[aB.len,List.length_set]at hj
 obtain⟨v,hv,hr⟩:=h.2 j hj;refine⟨v,hv,?_⟩
 by_cases e:i=j
 ·subst e
  have h1:(aB.cells l).get i= .nils:=by simp[aB.get,List.getD_eq_getElem?_getD,hn]
  rw[h1]at hr
  have h2:v= .slice none 0 0:=aZ.of_flat (x:=.nils) rfl hr
  have h3:(aB.cells (l.set i (.slice m 0 0 0))).get i= .slice m 0 0 0:=by simp[aB.get,List.getD_eq_getElem?_getD,hj]
  rw[h3,h2];exact⟨Nat.le_refl _,0,by simp[place,hb],.inl rfl⟩
 ·have h3:(aB.cells (l.set i (.slice m 0 0 0))).get j=(aB.cells l).get j:=by simp[aB.get,List.getD_eq_getElem?_getD,e]
  rw[h3];exact hr
theorem z30{c:Code}(r i:Nat)(e:TypeId)(k:aB){t:TypeId}{l:List Cell}{cap:Nat}(hr:H.get r=some (.own t (.cells l) cap))(hi:l[i]? =some .nils)(hk:k.len=0)(hkb:k.low n)
  (h:WP Γ N C c E ((r,.own t (.cells (l.set i (.slice n 0 0 0))) cap)::(n,.own e k 0)::H) (n+1) Q):WP Γ N C c E H n Q:=by
 intro β I a w hS
 have hE:=hS.env.mono (tF (β:=β) (n:=n) (x:=none)) (Ext.refl I w) (Nat.le_succ n)
 have hH:=hS.heap.pushNil (t:=e) hk hkb
 have hrn:r≠n:=by have:=(hS.heap.low r _ hr).1;omega
 have hr':Heap.get ((n,dw.own e k 0)::H) r=some (.own t (.cells l) cap):=by rw[Heap.get_cons,if_neg (fun e=>hrn e.symm)];exact hr
 have hlow:=(hH.low r _ hr').2
 have hil:i< l.length:=(List.getElem?_eq_some_iff.1 hi).1
 have hub:upd β n none n=none:=uV
 rcases hH.holds r _ hr' with⟨b,arr,h1,h2,h3,h4,h5⟩|⟨_,h0,_⟩
 ·obtain⟨_,hH2⟩:=hH.write (w':=w) (o':=.own t (.cells (l.set i (.slice n 0 0 0))) cap) hr' h1 rfl rfl rfl (Nat.le_refl _) (fun _ _ _=>rfl)
   (fun _=>.inl ⟨b,arr,rfl,h2,h3,by simpa [aB.len]using h4,by
    have:=Fe (i:=i) (m:=n) (cap:=0) hi h5 hub
    simpa [aB.len]using this⟩) (EK hlow (Nat.lt_succ_self n))
  exact h (upd β n none) I a w ⟨hE,hS.size,hH2,hS.glob,Nat.le_succ_of_le hS.anch.1,fun i hi=>by rw[tF i (Nat.lt_of_lt_of_le hi hS.anch.1)];exact hS.anch.2 i hi⟩
 ·simp only[aB.len]at h0;omega
end
end Go.Ab

namespace Go.Ab
open Go.RowKit
section
variable {Γ:Ctx} {N:Nat} {C:CC} {β β' β1:Val} {n m k:Nat} {E:Env} {H H1:Heap} {I D D':Nat->Prop} {a:Act} {w w':World}

def Cell.up1(k:Nat):Cell->Cell
 | .ptr id off=>.ptr (k+id) off
 | .slice id off len cap=>.slice (k+id) off len cap
 | .map id=>.map (k+id)
 |x=>x
def Cell.up(k:Nat):Cell->Cell
 | .clo f caps=>.clo f (caps.map (Cell.up1 k))
 |x=>x.up1 k
def aB.up(k:Nat):aB->aB
 | .cells l=>.cells (l.map (Cell.up k))
 |c=>c
def Part.up(k:Nat):Part->Part
 | .c x=>.c (x.up k)
 | .agg d=>.agg (d.up k)
def SV.up(k:Nat):SV->SV
 | .c x=>.c (x.up k)
 | .agg d=>.agg (d.up k)
 | .tup l=>.tup (l.map (Part.up k))
def dw.up(k:Nat):dw->dw
 | .own t c cap=>.own t (c.up k) cap
 | .mp t l=>.mp t (l.map fun x=>(x.1.up k,x.2.up k))
def Heap.up(k:Nat):Heap->Heap
 |[]=>[]
 |(j,o)::H=>(k+j,o.up k)::Heap.up k H

theorem zzl(hβ:∀ i,β (k+i)=β' i){x:Cell}{v:Value}(h:x.rel1 β' I w v):(x.up1 k).rel1 β I w v:=by
 cases x with
 |ptr id off=>show v=_;rw[place,hβ];exact h
 |slice id off len cap=>
  obtain⟨h1,o,h2,h3⟩:=(show len<=cap/\∃ off',v= .slice (place β' id off') len cap/\(off'=off\/cap=0) from h);exact(show len<=cap/\∃ off',v= .slice (place β (k+id) off') len cap/\(off'=off\/cap=0) from⟨h1,o,by rw[place,hβ];exact h2,h3⟩)
 |map id=>show v=_;rw[hβ];exact h
 |_=>exact h
theorem zzm{x:Cell}(h:x.low1 m):(x.up1 k).low1 (k+m):=by
 cases x<;>first|exact Nat.add_lt_add_left h k|trivial
theorem Zt(hβ:∀ i,β (k+i)=β' i){x:Cell}{v:Value}(h:x.rel β' I w v):(x.up k).rel β I w v:=by
 rcases Cell.clo_or x with⟨f,caps,rfl⟩|hnc
 ·obtain⟨g,hv,hg⟩:=h
  refine⟨g,by simpa using hv,fun j hj=>?_⟩
  have hj':j< caps.length:=by simpa using hj
  rw[show(caps.map (Cell.up1 k)).getD j .nils=(caps.getD j .nils).up1 k by simp[List.getD_eq_getElem?_getD,hj']];exact zzl hβ (hg j hj')
 ·rw[Cell.rel_eq hnc]at h
  have e:x.up k=x.up1 k:=by cases x<;>first|rfl|exact absurd rfl (hnc _ _)
  have hnc':∀ f caps,x.up1 k≠ .clo f caps:=by
   intro f caps;cases x<;>first|exact absurd rfl (hnc _ _)|(intro h;cases h)
  rw[e,Cell.rel_eq hnc'];exact zzl hβ h
theorem Zu{x:Cell}(h:x.low m):(x.up k).low (k+m):=by
 rcases Cell.clo_or x with⟨f,caps,rfl⟩|hnc
 ·intro y hy
  obtain⟨z,hz,rfl⟩:=List.mem_map.1 hy;exact zzm (h z hz)
 ·rw[Cell.low_eq hnc]at h
  have e:x.up k=x.up1 k:=by cases x<;>first|rfl|exact absurd rfl (hnc _ _)
  have hnc':∀ f caps,x.up1 k≠ .clo f caps:=by
   intro f caps;cases x<;>first|exact absurd rfl (hnc _ _)|(intro h;cases h)
  rw[e,Cell.low_eq hnc'];exact zzm h
theorem PT(c:aB):(c.up k).len=c.len:=by cases c<;>simp[aB.up,aB.len]
theorem XE(hβ:∀ i,β (k+i)=β' i){c:aB}{vs:List Value}(h:c.rel β' I w vs):(c.up k).rel β I w vs:=by
 refine⟨by rw[PT];exact h.1,fun j hj=>?_⟩;rw[PT]at hj;obtain⟨v,hv,hr⟩:=h.2 j hj;refine⟨v,hv,?_⟩
 cases c with
 |cells l=>
  have hj':j< l.length:=hj
  rw[show(aB.up k (.cells l)).get j=((aB.cells l).get j).up k by simp[aB.up,aB.get,List.getD_eq_getElem?_getD,hj']];exact Zt hβ hr
 |_=>exact(Cell.rel_flat rfl).2 ((Cell.rel_flat rfl).1 hr)
theorem XF{c:aB}(h:c.low m):(c.up k).low (k+m):=by
 cases c with
 |cells l=>
  intro y hy;obtain⟨z,hz,rfl⟩:=List.mem_map.1 hy;exact Zu (h z hz)
 |_=>trivial
theorem zxn(hβ:∀ i,β (k+i)=β' i){p:Part}{v:Value}(h:p.rel β' I w v):(p.up k).rel β I w v:=by
 cases p with
 |c x=>exact Zt hβ h
 |agg c=>obtain⟨vs,hv,hr⟩:=h;exact⟨vs,hv,XE hβ hr⟩
theorem zxo{p:Part}(h:p.low m):(p.up k).low (k+m):=by
 cases p with
 |c x=>exact Zu h
 |agg c=>exact XF h
theorem YO(hβ:∀ i,β (k+i)=β' i){x:SV}{v:Value}(h:x.rel β' I w v):(x.up k).rel β I w v:=by
 cases x with
 |c x=>exact Zt hβ h
 |agg c=>obtain⟨vs,hv,hr⟩:=h;exact⟨vs,hv,XE hβ hr⟩
 |tup l=>
  obtain⟨vs,hv,hl,hr⟩:=h;refine⟨vs,hv,by simpa using hl,fun j p hp=>?_⟩;rw[List.getElem?_map]at hp;obtain⟨q,hq,rfl⟩:=Option.map_eq_some_iff.1 hp;obtain⟨u,hu,hur⟩:=hr j q hq;exact⟨u,hu,zxn hβ hur⟩
theorem YP{x:SV}(h:x.low m):(x.up k).low (k+m):=by
 cases x with
 |c x=>exact Zu h
 |agg c=>exact XF h
 |tup l=>
  intro y hy;obtain⟨z,hz,rfl⟩:=List.mem_map.1 hy;exact zxo (h z hz)
theorem zs7(hβ:∀ i,β (k+i)=β' i){o:dw}{ad:Option Nat}(h:o.Holds β' I w ad):(o.up k).Holds β I w ad:=by
 cases o with
 |own t c cap=>
  rcases h with⟨b,arr,h1,h2,h3,h4,h5⟩|⟨h1,h2,h3⟩
  ·exact .inl ⟨b,arr,h1,h2,h3,by rw[PT];exact h4,by rw[PT];exact XE hβ h5⟩
  ·exact .inr ⟨h1,by rw[PT];exact h2,h3⟩
 |mp t l=>
  obtain⟨b,es,ck,h1,h2,h3,h4⟩:=h;refine⟨b,es,ck,h1,h2,by simpa using h3,fun j x hx=>?_⟩;rw[List.getElem?_map]at hx;obtain⟨y,hy,rfl⟩:=Option.map_eq_some_iff.1 hx;obtain⟨e,he,h5,h6⟩:=h4 j y hy;exact⟨e,he,YO hβ h5,YO hβ h6⟩
theorem zzp{o:dw}(h:o.low m):(o.up k).low (k+m):=by
 cases o with
 |own t c cap=>exact XF h
 |mp t l=>
  intro y hy;obtain⟨z,hz,rfl⟩:=List.mem_map.1 hy;exact⟨YP (h z hz).1,YP (h z hz).2⟩
theorem Heap.get_up:∀ {H:Heap} {i:Nat} {o:dw},(Heap.up k H).get i=some o->∃ j o',i=k+j/\o=o'.up k/\H.get j=some o'
 |[],i,o,h=>by cases h
 | (j,p)::H,i,o,h=>by
  simp only[Heap.up,Heap.get]at h
  split at h
  ·rename_i e;cases h;exact⟨j,p,e.symm,rfl,by simp[Heap.get]⟩
  ·rename_i e
   obtain⟨j',o',rfl,rfl,h3⟩:=Heap.get_up h;refine⟨j',o',rfl,rfl,?_⟩
   simp only[Heap.get]
   rw[if_neg (fun e'=>e (by rw[e']))];exact h3
theorem Heap.get_app:∀ {A B:Heap} {i:Nat} {o:dw},Heap.get (A++B) i=some o->A.get i=some o\/B.get i=some o
 |[],B,i,o,h=>.inr h
 |(j,p)::A,B,i,o,h=>by
  have h:Heap.get ((j,p)::(A++B)) i=some o:=h
  simp only[Heap.get]at h ⊢
  split at h
  ·rename_i e;rw[if_pos e];exact .inl h
  ·rename_i e;rw[if_neg e];exact Heap.get_app h

def both(β β1:Val)(n:Nat):Val:=fun i=>if i< n then β i else β1 (i - n)
theorem Gm{i:Nat}(h:i< n):both β β1 n i=β i:=if_pos h
theorem JB(i:Nat):both β β1 n (n+i)=β1 i:=by
 rw[both,if_neg (by omega),Nat.add_sub_cancel_left]
theorem aQ.join{is:List Nat}(h:aQ C β n H I w)(hk:aQ (di w (mH β H is I)) β1 m H1 D' w'):Ext I w D' w'/\aQ C (both β β1 n) (n+m) (Heap.up n H1++H.delAll is) D' w':=by
 obtain⟨hE,hH⟩:=X7 h (is:=is) hk.grow;refine⟨hE,hH.os,hH.tape,hH.output,hH.size,hH.frame,?_,?_,?_,?_,?_,hH.ilt,hH.i0,hH.base⟩
 ·intro i o ho
  rcases Heap.get_app ho with ho|ho
  ·obtain⟨j,o',rfl,rfl,hj⟩:=Heap.get_up ho
   rw[JB];exact zs7 JB (hk.holds j o' hj)
  ·have hlt:=(hH.low i o ho)
   rw[Gm hlt.1];exact(hH.holds i o ho).mono (n:=n) (fun i hi=>Gm hi) (Ext.refl _ _) hlt.2 fun _ _=>rfl
 ·intro i o ho
  rcases Heap.get_app ho with ho|ho
  ·obtain⟨j,o',rfl,rfl,hj⟩:=Heap.get_up ho
   exact⟨Nat.add_lt_add_left (hk.low j o' hj).1 n,zzp (hk.low j o' hj).2⟩
  ·exact⟨Nat.lt_of_lt_of_le (hH.low i o ho).1 (Nat.le_add_right n m),dw.low_mono (Nat.le_add_right n m) (hH.low i o ho).2⟩
 ·intro i o ho b hb
  rcases Heap.get_app ho with ho|ho
  ·obtain⟨j,o',rfl,rfl,hj⟩:=Heap.get_up ho
   rw[JB]at hb
   have h1:w.heap.size<=b:=(hk.fresh j o' hj b hb).resolve_right fun h=>h
   exact .inl (Nat.le_trans h.size h1)
  ·rw[Gm (hH.low i o ho).1]at hb
   exact hH.fresh i o ho b hb
 ·intro i j oi oj hij hi hj b h1 h2
  have old:∀ i o,(H.delAll is).get i=some o->∀ b,β i=some b->b< w.heap.size:=fun i o ho b hb=>by
   rw[Heap.get_delAll]at ho
   split at ho
   ·cases ho
   ·exact(h.holds i o ho).lt hb
  have new:∀ i o,H1.get i=some o->∀ b,β1 i=some b->w.heap.size<=b:=fun i o ho b hb=>(hk.fresh i o ho b hb).resolve_right fun h=>h
  rcases Heap.get_app hi with hi|hi<;>rcases Heap.get_app hj with hj|hj
  ·obtain⟨i',o1,rfl,rfl,hi'⟩:=Heap.get_up hi
   obtain⟨j',o2,rfl,rfl,hj'⟩:=Heap.get_up hj;rw[JB]at h1 h2;exact hk.sep i' j' o1 o2 (fun e=>hij (by rw[e])) hi' hj' b h1 h2
  ·obtain⟨i',o1,rfl,rfl,hi'⟩:=Heap.get_up hi
   rw[JB]at h1;rw[Gm (hH.low j oj hj).1]at h2
   have:=new i' o1 hi' b h1;have:=old j oj hj b h2;omega
  ·obtain⟨j',o2,rfl,rfl,hj'⟩:=Heap.get_up hj
   rw[JB]at h2;rw[Gm (hH.low i oi hi).1]at h1
   have:=new j' o2 hj' b h2;have:=old i oi hi b h1;omega
  ·rw[Gm (hH.low i oi hi).1]at h1
   rw[Gm (hH.low j oj hj).1]at h2;exact hH.sep i j oi oj hij hi hj b h1 h2
 ·intro i o ho b hb
  rcases Heap.get_app ho with ho|ho
  ·obtain⟨j,o',rfl,rfl,hj⟩:=Heap.get_up ho
   rw[JB]at hb;exact hk.off j o' hj b hb
  ·rw[Gm (hH.low i o ho).1]at hb
   exact hH.off i o ho b hb

abbrev qp:=List SV->(SV->Heap->Nat->Prop)->Prop
def Yx(w0:World)(I0:Nat->Prop)(K:SV->Heap->Nat->Prop)(e:Ending)(w':World):Prop:=
 ∃ x v H1 m β1 I',e= .returned x/\K v H1 m/\v.rel β1 I' w' x/\v.low m/\aQ (di w0 I0) β1 m H1 I' w'
def wW(P:Program)(glob:Nat->Option aB)(f:FuncId)(q:qp):Prop:=
 ∀ (vs:List SV) (K:SV->Heap->Nat->Prop),q vs K->∀ (I:Nat->Prop) (w:World) (xs:List Value),mF glob I w->(∀ b,I b->b< w.heap.size)->gu I w vs xs->Calls P f xs.toArray w (Yx w I K)
def O8(ty:Nat->Ty)(q:qp):tX:=fun vs H n K=>kQ ty H vs fun us=>q us fun v H1 m=>K (v.up n) (Heap.up n H1++H.delAll (vs.flatMap SV.ids)) (n+m)
theorem Dq{P:Program}{glob:Nat->Option aB}{ty:Nat->Ty}{f:FuncId}{q:qp}(h:wW P glob f q):wV P glob f (O8 ty q):=by
 intro C β n H I w vs xs K hG hH hlen hargs hs;obtain⟨us,hq,hA⟩:=Mi hH ⟨hlen,hargs⟩ hs
 have hG':mF glob (mH β H (vs.flatMap SV.ids) I) w:=hG.mono (Ext.widen fun b hb=>.inl hb)
 refine Calls.mono (h us _ hq _ w xs hG' (Il hH) hA) fun e w' ⟨x,v,H1,m,β1,I',he,hK,hr,hl,hk⟩=>⟨x,he,?_⟩;obtain⟨hE,hJ⟩:=hH.join hk;exact⟨v.up n,_,n+m,both β β1 n,I',hK,YO JB hr,YP hl,Nat.le_add_right n m,fun i hi=>Gm hi,hE,hJ⟩
theorem Kg{f:FuncId}{fn:Func}{c:Code}{q:qp}(hf:Γ.P.funcs[f]? =some fn)(hb:fn.body=some c)(hN:fn.ntmps=N)
  (h:∀ vs K,q vs K->vs.length<=N/\∀ w I,WP Γ N (di w I) c (lT 0 vs) [] 0 (bodyPost Γ.P fn (Yx w I K))):wW Γ.P Γ.glob f q:=fun vs K hq I w xs hG hlt hA=>
 XD hf hb hN (h vs K hq).1 hG hlt hA ((h vs K hq).2 w I)
theorem wU(hΓ:Γ.OK){fn:Func}{w0:World}{I0:Nat->Prop}{K:SV->Heap->Nat->Prop}{Q':Act->World->Prop}(hQ:∀ a w,bodyPost Γ.P fn (Yx w0 I0 K) .ret a w->Q' a w)(rs:List ResultVar)(hrs:fn.results.toList=rs)
  (h:pO Γ E H rs fun vs=>rJ vs fun x=>K x H n):Done Γ N (di w0 I0) E H n Q':=by
 subst hrs;intro β I a w hS;obtain⟨u,x,hto,hr,hl,hrun⟩:=z56 hΓ hS h;exact hQ a w ⟨hS.env.defers,x,hrun,x,u,H,n,β,I,rfl,hto,hr,hl,hS.heap⟩
end
end Go.Ab

namespace Go.Ab
open Go.RowKit
section
variable {Γ:Ctx} {N:Nat} {C:CC} {β β':Val} {n n':Nat} {E:Env} {H H':Heap} {I I':Nat->Prop} {a:Act} {w w':World} {m:Nat} {ro:Option Nat} {Q:Exit->Act->World->Prop}

def wZ(P:Program)(glob:Nat->Option aB)(g:FuncId)(caps:List SV)(xs:List (List SV)):Prop:=
 ∀ (I:Nat->Prop) (W:World) (cs:List Value) (l:Nat),mF glob I W->(∀ b,I b->b< W.heap.size)->gu I W caps cs->
 ∀ (J:Nat->(Nat->Prop)->World->Prop) (Z:(Nat->Prop)->World->Prop),
  (∀ k D w D' w' β n H,J k D w->aQ (di w D) β n H D' w'->J k D' w')->
  (∀ D w D' w' β n H,Z D w->aQ (di w D) β n H D' w'->Z D' w')->
  (∀ k D w x vs m,xs[k]? =some x->J k D w->gu D w x vs->YieldAt Fence.wide m P l vs.toArray w fun e w'=>(e= .returned (.bool true)/\J (k+1) D w'\/e= .returned (.bool false)/\Z D w')/\∀ b,D b->w'.heap[b]? =w.heap[b]?)->
  J 0 I W->Calls P g (#[.func (.yield l) #[] #[]]++cs.toArray) W fun e w'=>(∃ v,e= .returned v)/\∃ D,J xs.length D w'\/Z D w'

def QU:List Tmp->List SV->Env->Env
 |p::ps,x::xs,E=>(p,x)::QU ps xs E
 |_,_,E=>E
theorem XG:∀ {ps:List Tmp} {xs:List SV} {E:Env} {i:Nat} {u:SV},ps.Nodup->xs.length=ps.length->(QU ps xs E).get i=some u->(∃ j:Nat,ps[j]? =some i/\xs[j]? =some u)\/(i∉ps/\E.get i=some u)
 |[],[],E,i,u,_,_,h=>.inr ⟨by simp,h⟩
 | p::ps,x::xs,E,i,u,hn,hl,h=>by
  simp only[QU,Env.get]at h
  split at h
  ·rename_i e;cases h;subst e;exact .inl ⟨0,rfl,rfl⟩
  ·rename_i e
   rcases XG (List.nodup_cons.1 hn).2 (by simpa using hl) h with⟨j,h1,h2⟩|⟨h1,h2⟩
   ·exact .inl ⟨j+1,by simpa using h1,by simpa using h2⟩
   ·exact .inr ⟨by simp[h1];exact fun e'=>e e'.symm,h2⟩
 |[],_::_,_,_,_,_,hl,_=>by simp at hl
 |_::_,[],_,_,_,_,hl,_=>by simp at hl
theorem zzq:∀ {ps:List Tmp} {vs:List Value},ps.Nodup->∀ {t0:Array Value},(∀ p∈ps,p< t0.size)->vs.length=ps.length->∀ t:Array Value,t=t0->∀ tm,tm=(ps.toArray.zip vs.toArray).foldl (fun tmps (t,a)=>tmps.setIfInBounds t a) t->
  tm.size=t0.size/\(∀ (j:Nat) i,ps[j]? =some i->tm[i]? =vs[j]?)/\∀ i,i∉ps->tm[i]? =t0[i]? :=by
 intro ps vs hn t0 hlt hl t ht tm htm;subst ht
 have e:tm=(ps.zip vs).foldl (fun tmps (x:Tmp×Value)=>tmps.setIfInBounds x.1 x.2) t:=by rw[htm];simp[List.zip_toArray]
 clear htm
 induction ps generalizing vs t tm with
 |nil=>
  have:vs=[]:=List.eq_nil_of_length_eq_zero (by simpa using hl)
  subst this;subst e;exact⟨rfl,fun j i h=>by simp at h,fun i _=>rfl⟩
 | cons p ps ih=>
  cases vs with
  |nil=>simp at hl
  | cons v vs=>
   obtain⟨hp,hn'⟩:=List.nodup_cons.1 hn;obtain⟨h1,h2,h3⟩:=ih hn' (by simpa using hl) (t.setIfInBounds p v) tm (fun q hq=>by rw[Array.size_setIfInBounds];exact hlt q (List.mem_cons_of_mem _ hq)) (by rw[e];rfl);refine⟨by rw[h1,Array.size_setIfInBounds],fun j i hj=>?_,fun i hi=>?_⟩
   ·cases j with
    |zero=>
     obtain rfl:p=i:=by simpa using hj
     rw[h3 p hp]
     simp[hlt p List.mem_cons_self]
    |succ j=>have:=h2 j i (by simpa using hj);simpa using this
   ·rw[h3 i (fun h=>hi (List.mem_cons_of_mem _ h)),Array.getElem?_setIfInBounds_ne (fun e'=>hi (by rw[<-e'];exact List.mem_cons_self))]

theorem zmp(hΓ:Γ.OK){J J' Z:(Nat->Prop)->World->Prop}(hab:∀ D w D' w' β n H,J D w->aQ (di w D) β n H D' w'->J D' w')(habz:∀ D w D' w' β n H,Z D w->aQ (di w D) β n H D' w'->Z D' w')(hab':∀ D w D' w' β n H,J' D w->aQ (di w D) β n H D' w'->J' D' w')
  {id d l:Nat} {ops:List Oper} (i:Nat) {o:Oper} (hi:ops[i]? =some o) {c:Call} {x:Operand} {ys:List SV} (ho:o.op= .call c) (hc:c.callee= .value x) (hg:o.guard=none) (hd:o.dst=some d) (hdN:d< N)
  (hy:∀ D w vs m,J D w->gu D w ys vs->YieldAt Fence.wide m Γ.P l vs.toArray w fun e w'=>(e= .returned (.bool true)/\J' D w'\/e= .returned (.bool false)/\Z D w')/\∀ b,D b->w'.heap[b]? =w.heap[b]?)
  {args:List Operand} (harg:c.args=args.toArray) {E2:Bool->Env}
  (h:∀ n,Ba Γ N (ops.take i) E [] n fun E1 H1 n1=>E1.ev Γ.glob x=some (.c (.raw (.func (.yield l) #[] #[])))/\evs Γ.glob E1 args (fun us=>us=ys)/\(∀ y∈ys,y.low 0)/\∀ r:Bool,Ba Γ N (ops.drop (i+1)) ((d,.c (.bool r))::E1) [] n1 fun E3 _ _=>∀ i v,(E2 r).get i=some v->E3.get i=some v)
  (hA:uf Γ N J E a w) (hQ:∀ a w,uf Γ N J' (E2 true) a w->Q .normal a w) (hZ:∀ a w,uf Γ N Z (E2 false) a w->Q .normal a w):(Code.region id ops.toArray false).wp Γ.P Q a w:=by
 obtain⟨l1,hl1⟩:∃ l1,l1=ops.take i:=⟨_,rfl⟩;obtain⟨l2,hl2⟩:∃ l2,l2=ops.drop (i+1):=⟨_,rfl⟩
 have hops:ops=l1++o::l2:=by
  obtain⟨hlt,hget⟩:=List.getElem?_eq_some_iff.1 hi;rw[hl1,hl2, <-hget,List.getElem_cons_drop,List.take_append_drop]
 rw[<-hl1, <-hl2]at h;clear hl1 hl2 hi;subst hops;obtain⟨D,β,n,hJ,hS⟩:=hA;refine(wpIn_wide (n:=0)).1 (wpIn_region ?_)
 show wpOpsIn (fr none) 0 Γ.P _ Q _ a w
 have hr:List.range (l1++o::l2).toArray.size=List.range' 0 l1.length++(l1.length::(List.range' (l1.length+1) l2.length++[])):=by
  rw[List.append_nil,List.range_eq_range', <-List.range'_succ]
  simp only[List.size_toArray,List.length_append,List.length_cons]
  rw[<-List.range'_append]
  simp
 rw[hr];refine SI hΓ ?_ l1 0 β n E [] D a w (fun j hj=>by simp[List.getElem?_append_left hj]) hS (h n)
 rintro β1 n1 E1 H1 I1 a1 w1 ⟨hx,hv,hlow,h2⟩ hS1
 have hJ1:=hab _ _ _ _ _ _ _ hJ hS1.heap
 unfold wpOpsIn
 have h0:(l1++o::l2).toArray[l1.length]? =some o:=by simp
 simp only[h0,Region.wanted,hg,if_true]
 have hxv:a1.eval x= .func (.yield l) #[] #[]:=(SV.rel_flat (x:=.c (.raw _)) rfl).1 (Ph hS1.env hS1.glob hx).1
 obtain⟨us,rfl,hrel⟩:=L9 hS1.env hS1.glob hv
 have hargs:gu I1 w1 us (args.map a1.eval):=by
  refine⟨hrel.1,fun j u hu=>?_⟩;obtain⟨z,hz,hr2,_⟩:=hrel.2 j u hu
  have hl0:=hlow u (List.mem_of_getElem? hu)
  exact⟨z,hz,SV.rel_mono (n:=0) (fun i hi=>absurd hi (Nat.not_lt_zero i)) (Ext.refl _ _) hl0 hr2,hl0⟩
 refine zxk (l:=l) ho hc hxv (R:=fun e w'=>(e= .returned (.bool true)/\J' I1 w'\/e= .returned (.bool false)/\Z I1 w')/\∀ b,I1 b->w'.heap[b]? =w1.heap[b]?) (by rw[harg,show Array.map a1.eval args.toArray=(args.map a1.eval).toArray by simp];exact hy I1 w1 _ _ hJ1 hargs) ?_
 rintro e w2 ⟨hR,hkeep⟩
 obtain⟨r,he,hJ2⟩:∃ r:Bool,e= .returned (.bool r)/\((r=true/\J' I1 w2)\/(r=false/\Z I1 w2)):=by
  rcases hR with⟨h1,h3⟩|⟨h1,h3⟩
  ·exact⟨true,h1,.inl ⟨rfl,h3⟩⟩
  ·exact⟨false,h1,.inr ⟨rfl,h3⟩⟩
 subst he;refine⟨_,rfl,?_⟩
 have hE:Ext I1 w1 I1 w2:=fun b hb=>⟨hb,hkeep b hb⟩
 have hS2:St Γ N (di w2 I1) β1 n1 ((d,.c (.bool r))::E1) [] I1 (a1.put o.dst (.bool r)) w2:=by
  refine⟨⟨by rw[hd];exact hS1.env.defers,fun i u hu=>?_,fun i u hu=>?_⟩,by rw[hd];simpa [Act.put]using hS1.size,⟨rfl,rfl,rfl,Nat.le_refl _,fun _ _ _=>rfl,fun _ _ h=>(by cases h),fun _ _ h=>(by cases h),fun _ _ h=>(by cases h),fun _ _ _ _ _ h=>(by cases h),fun _ _ h=>(by cases h),fun b hb=>?_,fun _ h=>.inl h,fun _ h=>h⟩,hS1.glob.mono hE,Nat.zero_le _,fun i hi=>absurd hi (Nat.not_lt_zero i)⟩
  ·rw[hd]
   simp only[Env.get]at hu
   split at hu
   ·rename_i e;cases hu;subst e
    exact⟨.bool r,by simp[Act.put,hS1.size,hdN],(SV.rel_flat (x:=.c (.bool r)) rfl).2 rfl⟩
   ·rename_i e
    obtain⟨z,h1,h3⟩:=hS1.env.slot i u hu;exact⟨z,by simpa [Act.put,Array.getElem?_setIfInBounds_ne e]using h1,SV.rel_mono (n:=n1) (fun _ _=>rfl) hE (hS1.env.low i u hu) h3⟩
  ·simp only[Env.get]at hu
   split at hu
   ·cases hu;exact SV.flat_low rfl
   ·exact hS1.env.low i u hu
  ·have h1:=hS1.heap.ilt b hb
   have h2:=hkeep b hb
   rw[Array.getElem?_eq_getElem h1]at h2;exact(Array.getElem?_eq_some_iff.1 h2).1
 refine SI hΓ ?_ l2 (l1.length+1) β1 n1 _ [] I1 _ w2 (fun j hj=>by rw[List.getElem?_toArray,List.getElem?_append_right (by omega),show l1.length+1+j - l1.length=j+1 by omega,List.getElem?_cons_succ]) hS2 (h2 r)
 rintro β3 n3 E3 H3 I3 a3 w3 hs hS3
 rcases hJ2 with⟨rfl,hJ2⟩|⟨rfl,hJ2⟩
 ·exact hQ a3 w3 ((hS3.atJ hJ2 hab').sub hs)
 ·exact hZ a3 w3 ((hS3.atJ hJ2 habz).sub hs)

def IM:Code->Exit
 | .exit id=>.exit id
 | .goto t=>.goto t
 |_=>.ret
def Zv:Code->Bool
 | .ret=>true
 | .exit _=>true
 |_=>false
end
end Go.Ab

namespace Go.Ab
open Go.RowKit

def aB.eqv(c d:aB):Prop:=d.len=c.len/\∀ j,j< c.len->d.get j=c.get j
theorem aB.eqv.symm{c d:aB}(h:c.eqv d):d.eqv c:=⟨h.1.symm,fun j hj=>(h.2 j (h.1▸hj)).symm⟩
theorem aB.eqv.trans{c d e:aB}(h:c.eqv d)(k:d.eqv e):c.eqv e:=⟨k.1.trans h.1,fun j hj=>(k.2 j (h.1.symm▸hj)).trans (h.2 j hj)⟩
theorem aB.eqv_low{c d:aB}(h:c.eqv d){n:Nat}(hc:c.low n):d.low n:=by
 cases d with
 |cells l=>
  intro x hx;obtain⟨j,hj,rfl⟩:=List.mem_iff_getElem.1 hx
  have h2:=h.2 j (by rw[<-h.1];exact hj)
  have h3:(aB.cells l).get j=l[j]:=by simp[aB.get,List.getD_eq_getElem?_getD,hj]
  rw[<-h3,h2];exact aB.get_low hc j
 |_=>trivial
theorem aB.eqv_rel{c d:aB}(h:c.eqv d){β:Val}{I:Nat->Prop}{w:World}{vs:List Value}(hr:c.rel β I w vs):d.rel β I w vs:=
 ⟨hr.1.trans h.1.symm,fun j hj=>by
  have hj':j< c.len:=h.1▸hj
  rw[h.2 j hj'];exact hr.2 j hj'⟩
theorem SV.as_agg{c d:aB}(h:c.eqv d):SV.as (.agg c) (.agg d):=fun β I w x n hr hl=>by
 obtain⟨vs,hv,hc⟩:=hr;exact⟨⟨vs,hv,aB.eqv_rel h hc⟩,aB.eqv_low h hl⟩
theorem yD(l:List UInt64):(aB.cells (l.map .u64)).eqv (.u64s l):=by
 refine⟨by simp[aB.len],fun j hj=>?_⟩
 have hj':j< l.length:=by simpa [aB.len]using hj
 simp[aB.get,List.getD_eq_getElem?_getD,hj']
end Go.Ab

namespace Go.Ab
open Go.RowKit
section
variable {Γ:Ctx} {N:Nat} {C:CC} {β β':Val} {n n':Nat} {E:Env} {H H':Heap} {I I':Nat->Prop} {a:Act} {w w':World} {m:Nat} {ro:Option Nat} {Q:Exit->Act->World->Prop}

theorem Ci{K:Act->World->Prop}{E':Env}{H':Heap}{n':Nat}(is:List Nat)(ρ:Nat->Nat)(hle:Le Γ C is ρ E H E' H' n')(h:Done Γ N C E' H' n' K):Done Γ N C E H n K:=
 fun _ _ a w hS=>h _ _ a w (hS.le hle)
theorem zur{K:Act->World->Prop}{E':Env}{H':Heap}{n':Nat}(is:List Nat)(ρ:Nat->Nat)(h:Done Γ N C E' H' n' K)(hle:Le Γ C is ρ E H E' H' n'):Done Γ N C E H n K:=Ci is ρ hle h
theorem w9{c:Code}(h:C.n0<=n->Jl Γ N C ro m c E H n Q):Jl Γ N C ro m c E H n Q:=fun β I a w hS=>h hS.anch.1 β I a w hS
theorem Gf{o:Oper}{os:List Oper}{K:Env->Heap->Nat->Prop}(hd:o.dst=none)(hg:o.guard=none)(hnd:∀ c,o.op≠ .defer c)
  (h:∀ K':SV->Heap->Nat->Prop,(∀ v H n,Ba Γ N os E H n K->K' v H n)->iW Γ o E H n K'):Ba Γ N (o::os) E H n K:=by
 refine⟨⟨by rw[hd];trivial,hg,hnd⟩,?_⟩;rw[hd];exact h _ fun v _ _ h=>⟨v,SV.as_refl v,h⟩

theorem xw{f:FuncId}{fn:Func}{c:Code}{q:aW}(hf:Γ.P.funcs[f]? =some fn)(hb:fn.body=some c)(hN:fn.ntmps=N)
  (h:∀ vs K,q vs K->∃ v,K v/\v.low 0/\vs.length<=N/\∀ w I,WP Γ N (di w I) c (lT 0 vs) [] 0 (bodyPostM Fence.wide 0 Γ.P fn (Sk w I v))):jr Γ.P Γ.glob f q:=fun vs K hq=>by
 obtain⟨v,hK,hfl,hn,hw⟩:=h vs K hq;exact⟨v,hK,hfl,fun I w xs hG hlt hA=>zpl hf hb hN hn (aQ.init hlt) hG ⟨Nat.le_refl _,fun i hi=>absurd hi (Nat.not_lt_zero i)⟩ rfl hA (hw w I)⟩
theorem zxp(hΓ:Γ.OK){fn:Func}{w0:World}{I0:Nat->Prop}{v:SV}{w1:World}{I1:Nat->Prop}{β1:Val}{n1 d:Nat}{H1:Heap}{Q':Act->World->Prop}(h1:aQ (di w0 I0) β1 n1 H1 I1 w1)(hd:w0.heap.size<=d)(hA:Aside β1 H1 I1 w1 d (.deferred (some [])))
  (hQ:∀ a w,bodyPostM Fence.wide 0 Γ.P fn (Sk w0 I0 v) .ret a w->Q' a w) (hv:v.low 0) (is:List Nat) (rs:List ResultVar) (hrs:fn.results.toList=rs) (h:pO Γ E H rs fun vs=>rJ vs fun x=>x.to Γ.ty H is id v):
  Done Γ N (oN w1 I1 β1 n1 H1 [{ target:=.collected d,args:= #[] }]) E H n Q':=by
 subst hrs;intro β I a w hS
 have hH:=h1.unank hS.heap
 have hA':=hA.ank hS.heap
 obtain⟨hH2,hE2⟩:=hH.other hd hA' (.deferred none)
 have hS2:St Γ N { di w0 I0 with D:=a.defers } β n E H I a (w.putObj d (.deferred none)):=
  ⟨⟨rfl,fun i u hu=>let ⟨y,h1,h2⟩:=hS.env.slot i u hu;⟨y,h1,SV.rel_mono (n:=n) (fun _ _=>rfl) hE2 (hS.env.low i u hu) h2⟩,hS.env.low⟩,hS.size,
   ⟨hH2.os,hH2.tape,hH2.output,hH2.size,hH2.frame,hH2.holds,hH2.low,hH2.fresh,hH2.sep,hH2.off,hH2.ilt,hH2.i0,hH2.base⟩,hS.glob.mono hE2,Nat.zero_le _,fun i hi=>absurd hi (Nat.not_lt_zero i)⟩
 obtain⟨u,x,hto,hr,hl,hrun⟩:=z56 hΓ hS2 h
 have hr':=XB (ρ:=id) hH2 hl hr hto
 refine hQ a w ?_
 show LeavesInM _ _ _ _ _ _ a.defers _ _
 rw[hS.env.defers];refine⟨by simp,.inl ⟨d,_,rfl,run_takeDeferred hA'.at',?_⟩⟩;exact⟨x,hrun,x,mH β H is I,rfl,SV.rel_mono (n:=0) (fun i hi=>absurd hi (Nat.not_lt_zero i)) (Ext.refl _ _) hv hr',hH2.growRows is⟩
theorem aQ.ankN{D:List Deferred}{n1 n2:Nat}(k:aQ (oN w I β n1 H D) β' n' H' I' w'):aQ (oN w I β n2 H D) β' n' H' I' w':=⟨k.os,k.tape,k.output,k.size,k.frame,k.holds,k.low,k.fresh,k.sep,k.off,k.ilt,k.i0,k.base⟩
theorem zxq(hΓ:Γ.OK){α:Type}{g:Operand}{ps:List Tmp}{assign body:Code}{gf:FuncId}{caps:List Cell}{xs:List (List SV)}
  (hen:qJ Γ.P gf) (hseq:wZ Γ.P Γ.glob gf (caps.map .c) xs) (hg:E.ev Γ.glob g=some (.c (.clo gf caps))) (hcaps:∀ v∈caps.map SV.c,v.low 0) (hps:ps.Nodup/\(∀ p∈ps,p< N)/\∀ x∈xs,x.length=ps.length) (jc:Code) (hjc:Zv jc=true)
  (n1:Nat) (hn1:n1<=n) (hCn:C.n0<=n1) (hE1:∀ i v,E.get i=some v->v.low n1)
  (Hk:Nat->α->Heap) (Pk:Nat->α->Prop) (y0:α) (h0:Hk 0 y0=H) (hP0:Pk 0 y0) (E1:Nat->α->Env) (Hz:Nat->α->Heap) (Zk:Nat->α->Prop)
  (hassign:∀ k y x,xs[k]? =some x->Pk k y->∀ C' ro m Q,C'.n0=n1->Done Γ N C' (E1 k y) (Hk k y) n (Q .normal)->Jl Γ N C' ro m assign (QU ps x E) (Hk k y) n Q)
  (hbody:∀ k y x,xs[k]? =some x->Pk k y->∀ C' ro m Q,C'.n0=n1->(∀ y',Pk (k+1) y'->Done Γ N C' [] (Hk (k+1) y') n (Q .normal))->(∀ y',Zk k y'->Done Γ N C' [] (Hz k y') n (Q (IM jc)))->Jl Γ N C' ro m body (E1 k y) (Hk k y) n Q)
  (hend:∀ y β I w d,Pk xs.length y->aQ C β n (Hk xs.length y) I w->C.w0.heap.size<=d->Aside β (Hk xs.length y) I w d (.deferred (some []))->Done Γ N (oN w I β n (Hk xs.length y) ({ target:=.collected d,args:= #[] }::C.D)) E (Hk xs.length y) n (Q .normal))
  (hstop:∀ k y β I w d,k< xs.length->Zk k y->aQ C β n (Hz k y) I w->C.w0.heap.size<=d->Aside β (Hz k y) I w d (.deferred (some []))->Done Γ N (oN w I β n (Hz k y) ({ target:=.collected d,args:= #[] }::C.D)) E (Hz k y) n (Q (IM jc))):
  WP Γ N C (.rangeFunc g ps.toArray assign body) E H n Q:=by
 intro β I a w hS;refine(wpIn_wide (n:=0)).1 (wpIn_rangeFunc ?_);intro fn hfn;obtain⟨hev,hevl⟩:=Ph hS.env hS.glob hg
 obtain⟨f',vs',cs,⟨rfl,rfl⟩,hval,hrel⟩:=R7 (x:=.c (.clo gf caps)) hev hevl (vs:=[]) (xs:=[]) ⟨rfl,fun j v hv=>by simp at hv⟩ (K:=fun f vs=>f=gf/\vs=caps.map .c) (by
  unfold z76
  split
  ·rename_i e;cases e;exact⟨rfl,rfl⟩
  ·rename_i e;cases e;exact⟨rfl,rfl⟩
  ·rename_i h1 h2;exact absurd rfl (h2 _ _))
 have hargs:gu I w (caps.map .c) cs.toList:=by
  refine⟨by simpa using hrel.1,fun j v hv=>?_⟩;obtain⟨x,hx,hr,_⟩:=hrel.2 j v hv
  have hl0:=hcaps v (List.mem_of_getElem? hv)
  exact⟨x,by simpa using hx,SV.rel_mono (n:=0) (fun i hi=>absurd hi (Nat.not_lt_zero i)) (Ext.refl _ _) hl0 hr,hl0⟩
 obtain⟨rec,hrec⟩:∃ rec:LoopState->Loop,rec=fun st=>{ state:=st,pending:=none,fn,tmps:=a.tmps,params:=ps.toArray,assign,body,defers:=w.heap.size }:=⟨_,rfl⟩;obtain⟨W1,hW1⟩:∃ W1,(w.alloc (.deferred (some []))).alloc (.loop (rec .ready))=W1:=⟨_,rfl⟩
 have hSame:Same w W1:=by rw[<-hW1];exact((Below.refl _ w).alloc (Nat.le_refl _) _).alloc (by simp) _
 have hL1:W1.heap[w.heap.size+1]? =some (.loop (rec .ready)):=by
  rw[<-hW1];have:=World.alloc_heap_new (w.alloc (.deferred (some []))) (.loop (rec .ready));rwa [World.size_alloc]at this
 have K1:W1.heap[w.heap.size]? =some (.deferred (some [])):=by
  rw[<-hW1];exact(Below.heap_alloc _ _ _ (by simp)).trans (World.alloc_heap_new w _)
 have hblk:∀ id o,(Hk 0 y0).get id=some o->∀ b,β id=some b->b< w.heap.size:=fun id o ho b hb=>by
  rw[h0]at ho;exact(hS.heap.holds id o ho).lt hb
 have hC:=hS.heap.size
 let J:Nat->(Nat->Prop)->World->Prop:=fun k D W=>∃ y βk I',Pk k y/\(∀ i,i< n1->βk i=β i)/\aQ C βk n (Hk k y) I' W/\Ext I w I' W/\(∀ b,D b->I' b)/\Aside βk (Hk k y) I' W (w.heap.size+1) (.loop (rec .ready))/\Aside βk (Hk k y) I' W w.heap.size (.deferred (some []))
 let Z:(Nat->Prop)->World->Prop:=fun D W=>∃ k y βk I',(k< xs.length/\Zk k y)/\(∀ i,i< n1->βk i=β i)/\aQ C βk n (Hz k y) I' W/\Ext I w I' W/\(∀ b,D b->I' b)/\Aside βk (Hz k y) I' W (w.heap.size+1) (.loop { rec .done with pending:=some jc })/\Aside βk (Hz k y) I' W w.heap.size (.deferred (some []))
 refine⟨w.heap.size+1,[{ target:=.collected w.heap.size,args:= #[] }],W1,{ target:=.fn (.func f') cs,args:= #[.func (.yield (w.heap.size+1)) #[] #[]] },W1,f',
  #[.func (.yield (w.heap.size+1)) #[] #[]]++cs,W1,?_,?_,fun _ _=>trivial,?_,fun h=>Bool.noConfusion h,?_⟩
 ·rw[<-hW1,hrec];exact run_enterLoop_outer _ _ _ _ _
 ·simp only[resolve,hval]
  simp[go_sem]
 ·simp[invoke,go_sem,hen _ _]
 refine callsIn_wide.2 (Calls.mono (hseq I W1 cs.toList (w.heap.size+1) ?_ ?_ ?_ J Z ?_ ?_ ?_ ?_) ?_)
 ·exact hS.glob.mono (hS.heap.ext hSame)
 ·exact fun b hb=>Nat.lt_of_lt_of_le (hS.heap.ilt b hb) hSame.size
 ·exact hargs.mono (hS.heap.ext hSame)
 ·-- the iterator's own steps
  rintro k D W D' W' β1 n2 H1 ⟨y,βk,I',hPy,hβk,hH,hE,hD,hA1,hA2⟩ hk
  refine⟨y,βk,_,hPy,hβk,hH.party hk hD,fun b hb=>?_,fun b hb=>.inr hb,hA1.party hk hD,hA2.party hk hD⟩
  have h1:=hE b hb
  exact⟨.inl h1.1,(hk.same.block b (hH.ilt b h1.1)).trans h1.2⟩
 ·rintro D W D' W' β1 n2 H1 ⟨k,y,βk,I',hk0,hβk,hH,hE,hD,hA1,hA2⟩ hk
  refine⟨k,y,βk,_,hk0,hβk,hH.party hk hD,fun b hb=>?_,fun b hb=>.inr hb,hA1.party hk hD,hA2.party hk hD⟩
  have h1:=hE b hb
  exact⟨.inl h1.1,(hk.same.block b (hH.ilt b h1.1)).trans h1.2⟩
 ·-- one round
  rintro k D W x v m hx ⟨y,βk,I',hPy,hβk,hH,hE,hD,hA1,hA2⟩ hv
  have hy:=run_yield (P:=Γ.P) (args:=v.toArray) hA1.at' (by rw[hrec];show v.toArray.size=ps.toArray.size;rw[List.size_toArray,List.size_toArray,hv.1,hps.2.2 x (List.mem_of_getElem? hx)])
  rw[hrec]at hy;refine⟨fn,_,assign,body,hy,roundIn_of_wpIn hfn ?_⟩;obtain⟨tm,htm⟩:∃ tm,tm=(ps.toArray.zip v.toArray).foldl (fun tmps (t,a)=>tmps.setIfInBounds t a) a.tmps:=⟨_,rfl⟩;obtain⟨htsz,htin,htout⟩:=zzq hps.1 (fun p hp=>by rw[hS.size];exact hps.2.1 p hp) (hv.1.trans (hps.2.2 x (List.mem_of_getElem? hx))) a.tmps rfl tm htm
  have hSa:St Γ N (oN W I' βk n1 (Hk k y) []) βk n (QU ps x E) (Hk k y) I' { tmps:=tm,defers:=[] } W:=by
   refine⟨⟨rfl,fun i u hu=>?_,fun i u hu=>?_⟩,by rw[htsz];exact hS.size,(hH.ank []).ankN,hS.glob.mono hE,hn1,fun _ _=>rfl⟩
   ·rcases XG hps.1 (hps.2.2 x (List.mem_of_getElem? hx)) hu with⟨j,hj,hxj⟩|⟨hi,hu⟩
    ·obtain⟨y,h1,h2,h3⟩:=hv.2 j u hxj
     exact⟨y,(htin j i hj).trans h1,SV.rel_mono (n:=0) (fun i hi=>absurd hi (Nat.not_lt_zero i)) (fun b hb=>⟨hD b hb,rfl⟩) h3 h2⟩
    ·obtain⟨y,h1,h2⟩:=hS.env.slot i u hu
     exact⟨y,(htout i hi).trans h1,SV.rel_mono (n:=n1) hβk hE (hE1 i u hu) h2⟩
   ·rcases XG hps.1 (hps.2.2 x (List.mem_of_getElem? hx)) hu with⟨j,hj,hxj⟩|⟨hi,hu⟩
    ·obtain⟨y,h1,h2,h3⟩:=hv.2 j u hxj
     exact SV.low_mono (Nat.zero_le _) h3
    ·exact hS.env.low i u hu
  show assign.wpIn (fr (some (w.heap.size+1))) m Γ.P _ { tmps:=(ps.toArray.zip v.toArray).foldl (fun tmps (t,a)=>tmps.setIfInBounds t a) a.tmps,defers:=[] } W
  rw[<-htm];refine hassign k y x hx hPy _ (some (w.heap.size+1)) m _ rfl ?_ βk I' _ W hSa;intro βa Ia aa Wa hSt
  have hβa:∀ i,i< n1->βa i=βk i:=fun i hi=>hSt.anch.2 i hi
  have hSh:=hSt.heap.ankN (n2:=n)
  have hHa:aQ C βa n (Hk k y) Ia Wa:=hH.unank hSh
  have hEa:Ext I' W Ia Wa:=hH.ankExt hSh
  have hA1a:Aside βa (Hk k y) Ia Wa (w.heap.size+1) (.loop (rec .ready)):=hA1.ank hSh
  have hA2a:Aside βa (Hk k y) Ia Wa w.heap.size (.deferred (some [])):=hA2.ank hSh
  refine⟨_,run_beginRound hA1a.at' (by rw[hrec]),?_⟩;obtain⟨hHb,hEb⟩:=hHa.other (by omega) hA1a (.loop { rec .ready with state:=.busy })
  have hA1b:=hA1a.same (.loop { rec .ready with state:=.busy })
  have hA2b:=hA2a.put (o':=.loop { rec .ready with state:=.busy }) (show w.heap.size≠w.heap.size+1 by omega)
  refine hbody k y x hx hPy (oN _ Ia βa n1 (Hk k y) []) (some (w.heap.size+1)) m _ rfl ?_ ?_ βa Ia aa _ ⟨hSt.env.mono (fun i hi=>rfl) hEb (Nat.le_refl _),hSt.size,(hHb.ank []).ankN,hSt.glob.mono hEb,hn1,fun _ _=>rfl⟩
  ·intro y' hPy' βc Ic a3 W3 hSt3
   have hβc:∀ i,i< n1->βc i=βa i:=fun i hi=>hSt3.anch.2 i hi
   have hSh3:=hSt3.heap.ankN (n2:=n)
   have hHc:aQ C βc n (Hk (k+1) y') Ic W3:=hHb.unank hSh3
   have hEc:=hHb.ankExt hSh3
   have hA1c:Aside βc (Hk (k+1) y') Ic W3 (w.heap.size+1) (.loop { rec .ready with state:=.busy }):=hA1b.ank hSh3
   have hA2c:Aside βc (Hk (k+1) y') Ic W3 w.heap.size (.deferred (some [])):=hA2b.ank hSh3
   have hβd:∀ i,i< n1->βc i=β i:=fun i hi=>(hβc i hi).trans ((hβa i hi).trans (hβk i hi))
   have hend2:=run_endRound (P:=Γ.P) none hA1c.at'
   refine⟨_,_,hend2,.inl ⟨rfl,?_⟩,?_⟩
   ·obtain⟨hHd,hEd⟩:=hHc.other (by omega) hA1c (.loop (rec .ready))
    have e:({ rec .ready with state:=.busy }:Loop)=rec .busy:=by rw[hrec]
    have e2:({ { rec .ready with state:=.busy } with state:=if(none:Option Code).isNone then LoopState.ready else .done,pending:=none }:Loop)=rec .ready:=by rw[hrec];rfl
    rw[e2];refine⟨y',βc,Ic,hPy',hβd,hHd,hE.trans (hEa.trans (hEb.trans (hEc.trans hEd))),fun b hb=>((hEa.trans (hEb.trans hEc)) b (hD b hb)).1,hA1c.same _,hA2c.put (show w.heap.size≠w.heap.size+1 by omega)⟩
   ·intro b hb
    have h1:=(hEa.trans (hEb.trans hEc)) b (hD b hb)
    rw[World.putObj_heap_other (show b≠w.heap.size+1 from fun e=>hA1c.data (e▸h1.1))];exact h1.2
  ·intro y' hz βc Ic a3 W3 hSt3
   have hβc:∀ i,i< n1->βc i=βa i:=fun i hi=>hSt3.anch.2 i hi
   have hSh3:=hSt3.heap.ankN (n2:=n)
   have hHc:aQ C βc n (Hz k y') Ic W3:=hHb.unank hSh3
   have hEc:=hHb.ankExt hSh3
   have hA1c:Aside βc (Hz k y') Ic W3 (w.heap.size+1) (.loop { rec .ready with state:=.busy }):=hA1b.ank hSh3
   have hA2c:Aside βc (Hz k y') Ic W3 w.heap.size (.deferred (some [])):=hA2b.ank hSh3
   have hβd:∀ i,i< n1->βc i=β i:=fun i hi=>(hβc i hi).trans ((hβa i hi).trans (hβk i hi))
   have hend2:=run_endRound (P:=Γ.P) (some jc) hA1c.at'
   have hkx:k< xs.length:=(List.getElem?_eq_some_iff.1 hx).1
   obtain⟨hHd,hEd⟩:=hHc.other (by omega) hA1c (.loop { rec .done with pending:=some jc })
   have e2:({ { rec .ready with state:=.busy } with state:=if(some jc:Option Code).isNone then LoopState.ready else .done,pending:=some jc }:Loop)={ rec .done with pending:=some jc }:=by rw[hrec];rfl
   rw[e2]at hend2
   have hfin:(∃ v w',(Instr.endRound (w.heap.size+1) (some jc)).run Γ.P W3= .ok v w'/\((fun e w'=>(e=Ending.returned (.bool true)/\J (k+1) D w'\/e=Ending.returned (.bool false)/\Z D w')/\∀ b,D b->w'.heap[b]? =W.heap[b]?) (.returned v) w')):=by
    refine⟨_,_,hend2,.inr ⟨rfl,k,y',βc,Ic,⟨hkx,hz⟩,hβd,hHd,hE.trans (hEa.trans (hEb.trans (hEc.trans hEd))),fun b hb=>((hEa.trans (hEb.trans hEc)) b (hD b hb)).1,hA1c.same _,hA2c.put (show w.heap.size≠w.heap.size+1 by omega)⟩,fun b hb=>?_⟩
    have h1:=(hEa.trans (hEb.trans hEc)) b (hD b hb)
    rw[World.putObj_heap_other (show b≠w.heap.size+1 from fun e=>hA1c.data (e▸h1.1))];exact h1.2
   cases jc<;>first|exact hfin|(simp[Zv]at hjc;done)
 ·refine⟨y0,β,I,hP0,fun _ _=>rfl,by rw[h0];exact hS.heap.later hSame,hS.heap.ext hSame,fun b hb=>hb,⟨hL1,fun h=>?_,fun id o ho b hb e=>?_⟩,⟨K1,fun h=>?_,fun id o ho b hb e=>?_⟩⟩
  ·have:=hS.heap.ilt _ h;omega
  ·have:=hblk id o ho b hb;omega
  ·have:=hS.heap.ilt _ h;omega
  ·have:=hblk id o ho b hb;omega
 ·-- behind the iterator
  rintro e W2 ⟨⟨v,rfl⟩,D,⟨y,βk,I',hPy,hβk,hH,hE,hD,hA1,hA2⟩|⟨k,y,βk,I',⟨hkx,hz⟩,hβk,hH,hE,hD,hA1,hA2⟩⟩
  ·have hl:=run_endLoop (P:=Γ.P) hA1.at' (by rw[hrec];simp)
   refine⟨none,W2.putObj (w.heap.size+1) (.loop { rec .ready with state:=.exhausted }),?_,?_⟩
   ·rw[hrec]at hl ⊢;exact hl
   ·obtain⟨hHd,hEd⟩:=hH.other (by omega) hA1 (.loop { rec .ready with state:=.exhausted })
    have hA3:=hA2.put (o':=.loop { rec .ready with state:=.exhausted }) (show w.heap.size≠w.heap.size+1 by omega)
    have hE3:=hE.trans hEd
    refine hend y βk I' _ w.heap.size hPy hHd (by omega) hA3 βk I' _ _ ⟨⟨?_,fun i u hu=>?_,hS.env.low⟩,hS.size,hHd.ank _,hS.glob.mono hE3,Nat.le_refl _,fun _ _=>rfl⟩
    ·show _::a.defers=_::C.D
     rw[hS.env.defers]
    ·obtain⟨y,h1,h2⟩:=hS.env.slot i u hu
     exact⟨y,h1,SV.rel_mono (n:=n1) hβk hE3 (hE1 i u hu) h2⟩
  ·have hl:=run_endLoop (P:=Γ.P) hA1.at' (by rw[hrec];simp)
   refine⟨some jc,W2.putObj (w.heap.size+1) (.loop { { rec .done with pending:=some jc } with state:=.exhausted }),hl,?_⟩;obtain⟨hHd,hEd⟩:=hH.other (by omega) hA1 (.loop { { rec .done with pending:=some jc } with state:=.exhausted })
   have hA3:=hA2.put (o':=.loop { { rec .done with pending:=some jc } with state:=.exhausted }) (show w.heap.size≠w.heap.size+1 by omega)
   have hE3:=hE.trans hEd
   have hq:=hstop k y βk I' _ w.heap.size hkx hz hHd (by omega) hA3 βk I' { a with defers:={ target:=.collected w.heap.size,args:= #[] }::a.defers } _ ⟨⟨by rw[hS.env.defers];rfl,fun i u hu=>(by
    obtain⟨y,h1,h2⟩:=hS.env.slot i u hu
    exact⟨y,h1,SV.rel_mono (n:=n1) hβk hE3 (hE1 i u hu) h2⟩),hS.env.low⟩,hS.size,hHd.ank _,hS.glob.mono hE3,Nat.le_refl _,fun _ _=>rfl⟩
   show jc.wpIn Fence.wide 0 Γ.P Q _ _
   refine wpIn_wide.2 ?_
   cases jc<;>first|exact wp_ret hq|exact wp_exit hq|(simp[Zv]at hjc;done)
end
end Go.Ab

namespace Go.Ab
open Go.RowKit

def Cell.plain:Cell->Bool
 | .int _ _| .bool _| .u8 _| .u32 _| .u64 _| .str _| .nils| .ds _ _| .dp _ _=>true
 |_=>false
def oD(l:List Cell):Prop:=∀ x∈l,x.plain=true
theorem zpr:oD []:=fun x h=>by cases h
theorem z93{x:Cell}{l:List Cell}(hx:x.plain=true)(hl:oD l):oD (x::l):=fun y hy=>by
 rcases List.mem_cons.1 hy with rfl|hy
 ·exact hx
 ·exact hl y hy
theorem oD.tail{x:Cell}{l:List Cell}(h:oD (x::l)):oD l:=fun y hy=>h y (List.mem_cons_of_mem _ hy)
theorem Cell.plain_isD{x:Cell}(h:x.plain=true):x.isD:=by cases x<;>first|exact trivial|cases h
theorem Cell.plain_solid{x:Cell}(h:x.plain=true):x.solid:=by cases x<;>first|exact trivial|cases h
theorem Cell.plain_low{x:Cell}(h:x.plain=true){n:Nat}:x.low n:=by cases x<;>first|exact trivial|cases h
theorem Cell.plain_to{x:Cell}(h:x.plain=true){ty:Nat->Ty}{H:Heap}{is:List Nat}{ρ:Nat->Nat}:x.to ty H is ρ x:=by
 cases x<;>first|exact trivial|exact rfl|exact⟨rfl,rfl⟩|cases h
theorem oD.isD:∀ {l:List Cell},oD l->(aB.cells l).isD
 |[],_=>trivial
 |x::l,h=>⟨Cell.plain_isD (h x List.mem_cons_self),oD.isD h.tail⟩
theorem oD.solid:∀ {l:List Cell},oD l->(aB.cells l).solid
 |[],_=>trivial
 |x::l,h=>⟨Cell.plain_solid (h x List.mem_cons_self),oD.solid h.tail⟩
theorem oD.low{l:List Cell}(h:oD l){n:Nat}:(aB.cells l).low n:=fun x hx=>Cell.plain_low (h x hx)
theorem oD.to{ty:Nat->Ty}{H:Heap}{is:List Nat}{ρ:Nat->Nat}:∀ {l:List Cell},oD l->(aB.cells l).to ty H is ρ (.cells l)
 |[],_=>trivial
 |x::l,h=>⟨Cell.plain_to (h x List.mem_cons_self),oD.to h.tail⟩
theorem oD.noclo{l:List Cell}(h:oD l):∀ x∈l,∀ g cs,x≠Cell.clo g cs:=fun x hx g cs e=>by
 have:=h x hx;rw[e]at this;cases this

theorem zs9{ty:Nat->Ty}{H:Heap}{x:Cell}(h:x.plain=true){K:Cell->Prop}(k:K x):mY ty H x K:=by
 cases x<;>first|exact k|cases h
theorem zir{ty:Nat->Ty}{H:Heap}:∀ {l:List Cell},oD l->∀ {K:List Cell->Prop},K l->l6 ty H l K
 |[],_,K,k=>k
 |x::l,h,K,k=>zs9 (h x List.mem_cons_self) (zir h.tail (K:=fun l'=>K (x::l')) k)
theorem zlb{ty:Nat->Ty}{H:Heap}{l:List Cell}(h:oD l){K:SV->Prop}(k:K (.agg (.cells l))):qG ty H (.agg (.cells l)) K:=⟨h.noclo,zir h k⟩

structure Rec{α:Type}(enc:α->List Cell)(w:Nat)(P:α->Prop):Prop where
 len:∀ {a},P a->(enc a).length=w
 dat:∀ a,oD (enc a)
def iA{α:Type}(enc:α->List Cell)(l:List α):List Cell:=(l.map enc).flatten
section
variable {α:Type} {enc:α->List Cell} {w:Nat} {P:α->Prop}
theorem AP(a b:List α):iA enc (a++b)=iA enc a++iA enc b:=by simp[iA]
theorem AR(a:α):iA enc [a]=enc a:=by simp[iA]
theorem X8(a:α)(l:List α):iA enc (a::l)=enc a++iA enc l:=by simp[iA]
theorem X9(l:List α)(a:α):iA enc (l++[a])=iA enc l++enc a:=by rw[AP,AR]
theorem YQ(h:Rec enc w P):∀ {l:List α},(∀ a∈l,P a)->(iA enc l).length=l.length*w
 |[],_=>by simp[iA]
 |a::l,hl=>by
  rw[X8,List.length_append,h.len (hl a List.mem_cons_self),YQ h fun x hx=>hl x (List.mem_cons_of_mem _ hx),List.length_cons,Nat.succ_mul,Nat.add_comm]
theorem Iq(h:Rec enc w P)(l:List α):oD (iA enc l):=fun x hx=>by
 obtain⟨m,hm,hx⟩:=List.mem_flatten.1 hx;obtain⟨a,_,rfl⟩:=List.mem_map.1 hm;exact h.dat a x hx
theorem zps(h:Rec enc w P):∀ {l:List α},(∀ a∈l,P a)->∀ n,(iA enc l).drop (n*w)=iA enc (l.drop n)
 |l,_,0=>by simp
 |[],_,n+1=>by simp[iA]
 |a::l,hl,n+1=>by
  rw[X8,List.drop_succ_cons, <-zps h (fun x hx=>hl x (List.mem_cons_of_mem _ hx)) n,Nat.succ_mul,Nat.add_comm, <-List.drop_drop,List.drop_left' (h.len (hl a List.mem_cons_self))]
theorem zzs(h:Rec enc w P){l:List α}(hl:∀ a∈l,P a){i:Nat}{a:α}(e:l[i]? =some a):((iA enc l).drop (i*w)).take w=enc a:=by
 have ha:l.drop i=a::l.drop (i+1):=by
  obtain⟨hi,rfl⟩:=List.getElem?_eq_some_iff.1 e;exact List.drop_eq_getElem_cons hi
 rw[zps h hl,ha,X8,List.take_left' (h.len (hl a (List.mem_of_getElem? e)))]
theorem AQ(h:Rec enc w P){l:List α}(hl:∀ a∈l,P a){i:Nat}{a:α}(e:l[i]? =some a){j:Nat}(hj:j< w):(aB.cells (iA enc l)).get (i*w+j)=(enc a).getD j .nils:=by
 rw[<-zzs h hl e]
 show List.getD _ _ _=_
 rw[List.getD_eq_getElem?_getD,List.getD_eq_getElem?_getD,List.getElem?_take,if_pos hj,List.getElem?_drop]
theorem AU(h:Rec enc w P){l:List α}(hl:∀ a∈l,P a){i:Nat}{a:α}(e:l[i]? =some a):(aB.cells (iA enc l)).sub (i*w) w= .cells (enc a):=congrArg aB.cells (zzs h hl e)
theorem IC{v u:SV}(h:v=u):v.as u:=h▸SV.as_refl v
theorem Fj(h:Rec enc w P){l:List α}(hl:∀ a∈l,P a){i:Nat}{a:α}(e:l[i]? =some a):SV.as (.agg ((aB.cells (iA enc l)).sub (i*w) w)) (.agg (.cells (enc a))):=IC (congrArg SV.agg (AU h hl e))
theorem YR(h:Rec enc w P){l:List α}(hl:∀ a∈l,P a){i o m:Nat}(ho:o=i*w)(hm:m=w){a:α}(e:l[i]? =some a):SV.as (.agg ((aB.cells (iA enc l)).sub o m)) (.agg (.cells (enc a))):=by subst ho;subst hm;exact Fj h hl e
theorem NB(h:Rec enc w P){l:List α}(hl:∀ a∈l,P a){i j o:Nat}(ho:o=i*w+j)(hj:j< w){a:α}(e:l[i]? =some a){x:Cell}(hx:(enc a).getD j .nils=x):SV.as (.c ((aB.cells (iA enc l)).get o)) (.c x):=by
 subst ho;subst hx;exact IC (congrArg SV.c (AQ h hl e hj))
theorem Sm(h:Rec enc w P){l:List α}{n:Nat}:(aB.cells (iA enc l)).low n:=(Iq h l).low
theorem Ru(h:Rec enc w P)(l:List α):(aB.cells (iA enc l)).solid:=(Iq h l).solid
theorem Sn{ty:Nat->Ty}{H:Heap}{is:List Nat}{ρ:Nat->Nat}{x y:List Cell}(hp:oD y)(e:x=y):(aB.cells x).to ty H is ρ (.cells y):=by subst e;exact hp.to
theorem Rec.low(h:Rec enc w P)(a:α){n:Nat}:(aB.cells (enc a)).low n:=(h.dat a).low
theorem Rec.isD(h:Rec enc w P)(a:α):(aB.cells (enc a)).isD:=(h.dat a).isD
theorem Rec.solid(h:Rec enc w P)(a:α):(aB.cells (enc a)).solid:=(h.dat a).solid
theorem Rec.to(h:Rec enc w P){ty:Nat->Ty}{H:Heap}{is:List Nat}{ρ:Nat->Nat}(a:α):(aB.cells (enc a)).to ty H is ρ (.cells (enc a)):=(h.dat a).to
end
end Go.Ab

namespace Go.Ab
open Go.RowKit

section
variable {Γ:Ctx} {N:Nat} {C:CC}
theorem Xa(hΓ:Γ.OK){ops os2:List Oper}{Q:Exit->Act->World->Prop}:∀ (os:List Oper) {β:Val} {n:Nat} {E:Env} {H:Heap} {I:Nat->Prop} {a:Act} {w:World} {K:Env->Heap->Nat->Prop},St Γ N C β n E H I a w->wpS Γ N ops os E H n K->
  (∀ β' n' E' H' I' a' w',K E' H' n'->St Γ N C β' n' E' H' I' a' w'->wpList Γ.P ops.toArray Q os2 a' w')->wpList Γ.P ops.toArray Q (os++os2) a w
 |[],β,n,E,H,I,a,w,K,hS,h,hQ=>hQ β n E H I a w h hS
 | o ::os,β,n,E,H,I,a,w,K,hS,h,hQ=>by
  obtain⟨hd,h⟩:=h
  have run:iW Γ o E H n (fun v H n=>∃ v',v.as v'/\wpS Γ N ops os (E.put o.dst v') H n K)->o.wp Γ.P a w (wpList Γ.P ops.toArray Q (os++os2)) Q:=by
   intro h;refine(Mf hΓ hS.env hS.glob hS.heap h).wp fun x w' hA=>?_;obtain⟨v,H',n',β',I',hK,hS'⟩:=hS.after hA.as hd;exact Xa hΓ os hS' hK hQ
  have skip:wpS Γ N ops os (E.put o.dst og) H n K->wpList Γ.P ops.toArray Q (os++os2) (a.put o.dst undef) w:=by
   intro h;obtain⟨hE',hN'⟩:=hS.env.put hS.size hd Lf trivial;exact Xa hΓ os ⟨hE',hN',hS.heap,hS.glob,hS.anch⟩ h hQ
  show wpList Γ.P ops.toArray Q (o::(os++os2)) a w
  unfold wpList
  split at h
  ·rename_i hg
   simp only[Region.wanted,hg,if_true]
   exact .inl (run h)
  ·rename_i j want hg
   split at h
   ·rename_i b hy
    have:=z20 hS.env hy
    simp only[Region.wanted,hg,this]
    by_cases hbw:b=want
    ·subst hbw;simp only[beq_self_eq_true,if_true];exact .inl (run (h.1 rfl))
    ·have:(some b==some want)=false:=by simpa using hbw
     simp only[this,Bool.false_eq_true,if_false]
     exact skip (h.2 (by cases b<;>cases want<;>simp_all))
   ·rename_i hy
    have:=z20 hS.env hy
    simp only[Region.wanted,hg,this]
    exact skip h
   ·exact h.elim

def wpC(Γ:Ctx)(N:Nat)(C:CC)(ops:List Oper):List Nat->List Oper->Env->Heap->Nat->(Env->Heap->Nat->Prop)->Prop
 |[],os,E,H,n,K=>wpS Γ N ops os E H n K
 |k::ks,os,E,H,n,K=>wpS Γ N ops (os.take k) E H n fun E1 H1 n1=>∃ is ρ E' H' n',Le Γ C is ρ E1 H1 E' H' n'/\wpC Γ N C ops ks (os.drop k) E' H' n' K
theorem zpt(hΓ:Γ.OK){ops:List Oper}{Q:Exit->Act->World->Prop}:∀ (ks:List Nat) (os:List Oper) {β:Val} {n:Nat} {E:Env} {H:Heap} {I:Nat->Prop} {a:Act} {w:World} {K:Env->Heap->Nat->Prop},St Γ N C β n E H I a w->wpC Γ N C ops ks os E H n K->
  (∀ β' n' E' H' I' a' w',K E' H' n'->St Γ N C β' n' E' H' I' a' w'->Q .normal a' w')->wpList Γ.P ops.toArray Q os a w
 |[],os,β,n,E,H,I,a,w,K,hS,h,hQ=>SG hΓ os hS h hQ
 |k::ks,os,β,n,E,H,I,a,w,K,hS,h,hQ=>by
  rw[<-List.take_append_drop k os];refine Xa hΓ _ hS h fun β' n' E' H' I' a' w' hK hS'=>?_;obtain⟨is,ρ,E2,H2,n2,hle,h2⟩:=hK;exact zpt hΓ ks _ (hS'.le hle) h2 hQ
theorem AF(hΓ:Γ.OK)(ks:List Nat){id:Nat}{l:List Oper}{E:Env}{H:Heap}{n:Nat}{R:Exit->Act->World->Prop}(h:∀ K:Env->Heap->Nat->Prop,(∀ E H n,Done Γ N C E H n (R .normal)->K E H n)->wpC Γ N C l ks l E H n K):WP Γ N C (.region id l.toArray false) E H n R:=
 fun _ _ _ _ hS=>wp_region_lit (zpt hΓ ks l hS (h _ fun _ _ _ h=>h) fun β' _ _ _ I' a' w' hK hS'=>hK β' I' a' w' hS')
theorem UV{X:Env->Heap->Nat->Prop}{E1:Env}{H1:Heap}{E':Env}{H':Heap}{n':Nat}(is:List Nat)(ρ:Nat->Nat)(hle:Le Γ C is ρ E1 H1 E' H' n')(h:X E' H' n'):∃ is ρ E' H' n',Le Γ C is ρ E1 H1 E' H' n'/\X E' H' n':=⟨is,ρ,E',H',n',hle,h⟩
end
end Go.Ab

namespace Go.Ab
open Go.RowKit Go.ChangeShapes Go.Deep
section
variable {H:Type} {enc:TypeId×Value->H} {P:Program} {W W':World}

def z67(W:World):List Cell->List Value->Prop
 |[],[]=>True
 |c::cs,v::vs=>aZ (qQ W) W c v/\z67 W cs vs
 |_,_=>False
theorem z67.len:∀ {l:List Cell} {vs:List Value},z67 W l vs->vs.length=l.length
 |[],[],_=>rfl
 |_::_,_::_,h=>by simp[z67.len h.2]
 |[],_::_,h=>h.elim
 |_::_,[],h=>h.elim
theorem z67.app:∀ {l m:List Cell} {vs us:List Value},z67 W l vs->z67 W m us->z67 W (l++m) (vs++us)
 |[],_,[],_,_,h=>h
 |_::_,_,_::_,_,h,k=>⟨h.1,z67.app h.2 k⟩
 |[],_,_::_,_,h,_=>h.elim
 |_::_,_,[],_,h,_=>h.elim
theorem z67.get:∀ {l:List Cell} {vs:List Value},z67 W l vs->∀ (j:Nat) c,l[j]? =some c->∃ v,vs[j]? =some v/\aZ (qQ W) W c v
 |c::l,v::vs,h,0,d,e=>by
  obtain rfl:c=d:=by simpa using e
  exact⟨v,rfl,h.1⟩
 |c::l,v::vs,h,j+1,d,e=>by
  obtain⟨u,hu,hc⟩:=z67.get h.2 j d (by simpa using e);exact⟨u,by simpa using hu,hc⟩
 |[],[],_,j,d,e=>by simp at e
 |[],_::_,h,_,_,_=>h.elim
 |_::_,[],h,_,_,_=>h.elim
theorem z67.flat{α:Type}{f:α->Cell}(hf:∀ a,(f a).flat=true):∀ l:List α,z67 W (l.map f) (l.map fun a=>(f a).val)
 |[]=>trivial
 |a::l=>⟨.flat _ (hf a),z67.flat hf l⟩

def qo(enc:TypeId×Value->H)(P:Program)(W:World)(t:TypeId)(S:List Cell->Prop):Prop:=
 ∀ fuel cs x,DataW.trod enc P W 0 (fun _=>true) true fuel t cs=some x->∃ l,z67 W l cs/\S l
theorem qo.mono{t:TypeId}{S S':List Cell->Prop}(h:qo enc P W t S)(hS:∀ l,S l->S' l):qo enc P W t S':=fun fuel cs x hx=>
 let ⟨l,h1,h2⟩:=h fuel cs x hx;⟨l,h1,hS l h2⟩
theorem YS{t:TypeId}{S:Cell->Prop}(h:Fit enc P W t S):qo enc P W t fun l=>∃ c,l=[c]/\S c:=fun fuel cs x hx=>by
 obtain⟨v,c,rfl,h1,h2⟩:=h fuel cs x hx;exact⟨[c],⟨h1,trivial⟩,c,rfl,h2⟩

def tV(enc:TypeId×Value->H)(P:Program)(W:World):Nat->List Field->List (List Cell->Prop)->Prop
 |_,[],[]=>True
 |off,f::fs,S::Ss=>f.offset=off/\qo enc P W f.type S/\tV enc P W (off+P.cellsOf f.type) fs Ss
 |_,_,_=>False
def u7:List (List Cell->Prop)->List (List Cell)->Prop
 |[],[]=>True
 |S::Ss,l::ls=>S l/\u7 Ss ls
 |_,_=>False
theorem Xb{S:List Cell->Prop}{Ss:List (List Cell->Prop)}:∀ {ls:List (List Cell)},u7 (S::Ss) ls->∃ l ls',ls=l::ls'/\S l/\u7 Ss ls'
 |l::ls,h=>⟨l,ls,rfl,h.1,h.2⟩
 |[],h=>h.elim
theorem ww:∀ {ls:List (List Cell)},u7 [] ls->ls=[]
 |[],_=>rfl
 |_::_,h=>h.elim
def yB(P:Program)(off:Nat):List Field->Nat
 |[]=>off
 |f::fs=>yB P (off+P.cellsOf f.type) fs
theorem ziw{n:Nat}{cs:List Value}:∀ {fs:List Field} {Ss:List (List Cell->Prop)} {off:Nat},tV enc P W off fs Ss->(∀ (i:Nat) f,fs[i]? =some f->∃ x,DataW.trod enc P W 0 (fun _=>true) true n f.type ((cs.drop f.offset).take (P.cellsOf f.type))=some x)->
  cs.length=yB P off fs->∃ ls,u7 Ss ls/\z67 W ls.flatten (cs.drop off)
 | [],[],off,_,_,hl=>⟨[],trivial,by
   have hl:cs.length=off:=hl
   rw[List.drop_of_length_le (by omega)];exact trivial⟩
 |f::fs,S::Ss,off,⟨ho,hf,hr⟩,hx,hl=>by
  obtain⟨x,h0⟩:=hx 0 f rfl;obtain⟨l,h1,h2⟩:=hf _ _ _ h0;obtain⟨ls,h3,h4⟩:=ziw hr (fun i g hg=>hx (i+1) g (by simpa using hg)) hl;refine⟨l::ls,⟨h2,h3⟩,?_⟩;rw[ho]at h1
  have:=h1.app h4
  rw[<-List.drop_drop,List.take_append_drop]at this
  simpa using this
 |[],_::_,_,h,_,_=>h.elim
 |_::_,[],_,h,_,_=>h.elim
theorem zsa{t:TypeId}{fs:Array Field}{Ss:List (List Cell->Prop)}(ht:P.underlying t=some (.struct fs))(he:P.cellsOf t=yB P 0 fs.toList)(hf:tV enc P W 0 fs.toList Ss):
  qo enc P W t fun l=>∃ ls,l=ls.flatten/\u7 Ss ls:=fun fuel cs x h=>by
 obtain⟨xs,n,-,-,hl,hxl,hx⟩:=DataW.trod_struct ht h
 obtain⟨ls,h1,h2⟩:=ziw (cs:=cs) (n:=n) hf (fun i f hi=>by
  have hi':fs[i]? =some f:=by simpa using hi
  have hlt:i< xs.length:=by rw[hxl];exact(Array.getElem?_eq_some_iff.1 hi').1
  exact⟨xs[i],(hx i f hi').trans (List.getElem?_eq_getElem hlt)⟩) (by rw[hl,he])
 exact⟨_,by simpa using h2,ls,rfl,h1⟩

theorem zix{r:Reach}{base:Nat}{t:TypeId}{fs:Array Field}{S:List Cell->Prop}{v:Value}{d:DataW H}{p:List MemPlace}(ht:P.underlying t=some (.struct fs))(hf:qo enc P W t S)(hval:Value.okWide P W r base t v)(h:DataW.Trod enc P W 0 (fun _=>true) true t v d p):
  ∃ (vs:List Value) (l:List Cell),v= .agg vs.toArray/\z67 W l vs/\S l:=by
 obtain⟨cs,rfl,hs⟩:=Go.WideShapes.okWide_struct ht hval;obtain⟨fuel,h⟩:=h;obtain⟨l,h1,h2⟩:=hf _ _ _ h;exact⟨cs.toList,l,by simp,h1,h2⟩
theorem ziy{l:List Cell}{us:List Value}{vs:List SV}{xs:List Value}(hc:z67 W l us)(h:gu (qQ W) W vs xs):gu (qQ W) W (.agg (.cells l)::vs) (.agg us.toArray::xs):=by
 refine zl8 (s:=.agg (.cells l)) ⟨us,by simp,?_,fun j hj=>?_⟩ (fun z hz=>?_) h
 ·exact hc.len
 ·have hj':j< l.length:=hj
  obtain⟨v,hv,hd⟩:=hc.get j _ (List.getElem?_eq_getElem hj');refine⟨v,hv,?_⟩
  have e:(aB.cells l).get j=l[j]:=by
   show l.getD j .nils=_
   rw[List.getD_eq_getElem?_getD,List.getElem?_eq_getElem hj'];rfl
  rw[e];exact Cell.rel_of hd
 ·obtain⟨j,hj,rfl⟩:=List.mem_iff_getElem.1 hz
  obtain⟨v,hv,hd⟩:=hc.get j _ (List.getElem?_eq_getElem hj);exact aZ.low hd
end
end Go.Ab

namespace Go.Ab
open Go.RowKit

structure aK(b:Prop):Prop where out:b
section
variable {a b:Prop}
theorem vV(h:a:=by first|exact Bj trivial trivial|exact Lu hcl|exact Ll hcl|(show _< (au _ _ _ _).length;rw[dJ hcl];omega)|(show _<=(au _ _ _ _).length;rw[dJ hcl];omega)|(show(au _ _ _ _).length=259;exact dJ hcl)|(show 259=(au _ _ _ _).length;exact(dJ hcl).symm)|(show _< (aS _).length;rw[nH];omega)|(simp only[jH];omega)|(simp only[jI,jH];omega)|(simp only[z17,vX];omega)):a:=h
theorem Vn(h:a:=by first|exact Bj trivial trivial|exact Lu ha.1.clen|exact Ll ha.1.clen|(show _< (au _ _ _ _).length;rw[dJ ha.1.clen];omega)|(show _<=(au _ _ _ _).length;rw[dJ ha.1.clen];omega)|(show(au _ _ _ _).length=259;exact dJ ha.1.clen)|(show 259=(au _ _ _ _).length;exact(dJ ha.1.clen).symm)|(show _< (aS _).length;rw[nH];omega)|(simp only[jH];omega)|(simp only[jI,jH];omega)|(simp only[z17,vX];omega)):a:=h
theorem Vo(h:a:=by first|exact Bj trivial trivial|exact Lu hb.1.clen|exact Ll hb.1.clen|(show _< (au _ _ _ _).length;rw[dJ hb.1.clen];omega)|(show _<=(au _ _ _ _).length;rw[dJ hb.1.clen];omega)|(show(au _ _ _ _).length=259;exact dJ hb.1.clen)|(show 259=(au _ _ _ _).length;exact(dJ hb.1.clen).symm)|(show _< (aS _).length;rw[nH];omega)|(simp only[jH];omega)|(simp only[jI,jH];omega)|(simp only[z17,vX];omega)):a:=h
theorem RZ(h:a:=by first|exact Bj trivial trivial|exact Lu hx.1.clen|exact Ll hx.1.clen|(show _< (au _ _ _ _).length;rw[dJ hx.1.clen];omega)|(show _<=(au _ _ _ _).length;rw[dJ hx.1.clen];omega)|(show(au _ _ _ _).length=259;exact dJ hx.1.clen)|(show 259=(au _ _ _ _).length;exact(dJ hx.1.clen).symm)|(show _< (aS _).length;rw[nH];omega)|(simp only[jH];omega)|(simp only[jI,jH];omega)|(simp only[z17,vX];omega)):a:=h
theorem Vp(h:a:=by first|exact Bj trivial trivial|exact Lu hy.1.clen|exact Ll hy.1.clen|(show _< (au _ _ _ _).length;rw[dJ hy.1.clen];omega)|(show _<=(au _ _ _ _).length;rw[dJ hy.1.clen];omega)|(show(au _ _ _ _).length=259;exact dJ hy.1.clen)|(show 259=(au _ _ _ _).length;exact(dJ hy.1.clen).symm)|(show _< (aS _).length;rw[nH];omega)|(simp only[jH];omega)|(simp only[jI,jH];omega)|(simp only[z17,vX];omega)):a:=h
theorem vTr(h:a:=by first|exact Bj trivial trivial|exact Lu hrc|exact Ll hrc|(show _< (au _ _ _ _).length;rw[dJ hrc];omega)|(show _<=(au _ _ _ _).length;rw[dJ hrc];omega)|(show(au _ _ _ _).length=259;exact dJ hrc)|(show 259=(au _ _ _ _).length;exact(dJ hrc).symm)|(show _< (aS _).length;rw[nH];omega)|(simp only[jH];omega)|(simp only[jI,jH];omega)|(simp only[z17,vX];omega)):a:=h
theorem vTp(h:a:=by first|exact Bj trivial trivial|exact Lu hpf.1.clen|exact Ll hpf.1.clen|(show _< (au _ _ _ _).length;rw[dJ hpf.1.clen];omega)|(show _<=(au _ _ _ _).length;rw[dJ hpf.1.clen];omega)|(show(au _ _ _ _).length=259;exact dJ hpf.1.clen)|(show 259=(au _ _ _ _).length;exact(dJ hpf.1.clen).symm)|(show _< (aS _).length;rw[nH];omega)|(simp only[jH];omega)|(simp only[jI,jH];omega)|(simp only[z17,vX];omega)):a:=h
theorem pT(h:a:=by first|exact MR|exact mo|exact Nj|exact Bp trivial trivial|exact sj ⟨rfl,rfl⟩ ⟨rfl,rfl⟩|exact wo _|exact NE _|exact nI _|exact z31 _|exact zap.symm|exact zap|exact Nat.le_refl _):a:=h
theorem gV(kZ:b)(h:aK b->a:=by intro kZ;(repeat refine And.intro (by first|omega|exact trivial|rfl|(simp<;>omega)) ?_);(try refine fT (by first|omega|exact trivial|rfl|(simp<;>omega)) ?_);exact kZ.out):a:=h ⟨kZ⟩
end
theorem aL{v:SV}{F:SV->Prop}(h:F v):∃ v',v.as v'/\F v':=⟨v,SV.as_refl v,h⟩
theorem aU{v:SV}{F:SV->Prop}(v':SV)(ha:v.as v')(h:F v'):∃ v',v.as v'/\F v':=⟨v',ha,h⟩
theorem fO{b:Bool}{F:SV->Prop}(ht:b=true->F (.c (.bool true)))(hf:b=false->F (.c (.bool false))):∃ v',(SV.c (.bool b)).as v'/\F v':=by
 cases b
 ·exact aL (hf rfl)
 ·exact aL (ht rfl)
section
variable {Γ:Ctx} {N:Nat} {C:CC} {ops os:List Oper} {o:Oper} {E:Env} {H:Heap} {n:Nat}
theorem sX{d:Nat}{K:Env->Heap->Nat->Prop}(h:iW Γ o E H n fun v H n=>∃ v',v.as v'/\wpS Γ N ops os ((d,v')::E) H n K)(hd:o.dst=some d:=by rfl)(hN:d< N:=by decide)(hg:o.guard=none:=by rfl):wpS Γ N ops (o::os) E H n K:=by
 refine⟨by rw[hd];exact hN,?_⟩;rw[hg,hd];exact h
theorem jl{K:Env->Heap->Nat->Prop}(h:iW Γ o E H n fun v H n=>∃ v',v.as v'/\wpS Γ N ops os E H n K)(hd:o.dst=none:=by rfl)(hg:o.guard=none:=by rfl):wpS Γ N ops (o::os) E H n K:=by
 refine⟨by rw[hd];trivial,?_⟩;rw[hg,hd];exact h
theorem mX{d j:Nat}{b:Bool}{K:Env->Heap->Nat->Prop}(h:iW Γ o E H n fun v H n=>∃ v',v.as v'/\wpS Γ N ops os ((d,v')::E) H n K)(hd:o.dst=some d:=by rfl)(hN:d< N:=by decide)(hg:o.guard=some (j,b):=by rfl)(hy:uX ops E j=some (some b):=by rfl):wpS Γ N ops (o::os) E H n K:=by
 refine⟨by rw[hd];exact hN,?_⟩;rw[hg,hd];simp only[hy];exact⟨fun _=>h,fun e=>by cases b<;>cases e⟩
theorem qX{d:Nat}{K:Env->Prop}(h:JU Γ o E H fun v=>∃ v',v.as v'/\kR Γ N ops os ((d,v')::E) H K)(hd:o.dst=some d:=by rfl)(hN:d< N:=by decide)(hg:o.guard=none:=by rfl):kR Γ N ops (o::os) E H K:=by
 refine⟨by rw[hd];exact hN,?_⟩;rw[hg,hd];exact h
theorem Md{d j:Nat}{b:Bool}{K:Env->Prop}(h:JU Γ o E H fun v=>∃ v',v.as v'/\kR Γ N ops os ((d,v')::E) H K)(hd:o.dst=some d:=by rfl)(hN:d< N:=by decide)(hg:o.guard=some (j,b):=by rfl)(hy:uX ops E j=some (some b):=by rfl):kR Γ N ops (o::os) E H K:=by
 refine⟨by rw[hd];exact hN,?_⟩;rw[hg,hd];simp only[hy];exact⟨fun _=>h,fun e=>by cases b<;>cases e⟩
theorem dX{i d:Nat}{r:List (Nat×Bool)}{K:Env->Heap->Nat->Prop}(h:kP Γ o E H fun v=>∃ v',v.as v'/\iZ Γ N ops r ((d,v')::E) H n K)(ho:ops[i]? =some o:=by rfl)(hd:o.dst=some d:=by rfl)(hN:d< N:=by decide)(hg:o.guard=none:=by rfl):iZ Γ N ops ((i,true)::r) E H n K:=by
 unfold iZ;rw[ho];refine⟨by rw[hd];exact hN,?_⟩;rw[hg,hd];exact h
theorem Zz{i d j:Nat}{b:Bool}{r:List (Nat×Bool)}{K:Env->Heap->Nat->Prop}(h:kP Γ o E H fun v=>∃ v',v.as v'/\iZ Γ N ops r ((d,v')::E) H n K)(ho:ops[i]? =some o:=by rfl)(hd:o.dst=some d:=by rfl)(hN:d< N:=by decide)(hg:o.guard=some (j,b):=by rfl)(hy:uX ops E j=some (some b):=by rfl):iZ Γ N ops ((i,true)::r) E H n K:=by
 unfold iZ;rw[ho];refine⟨by rw[hd];exact hN,?_⟩;rw[hg,hd];simp only[hy];exact⟨fun _=>h,fun e=>by cases b<;>cases e⟩
theorem gX{i d:Nat}{r:List (Nat×Bool)}{K:Env->Heap->Nat->Prop}(h:z89 Γ o E H n fun v H n=>∃ v',v.as v'/\iZ Γ N ops r ((d,v')::E) H n K)(ho:ops[i]? =some o:=by rfl)(hd:o.dst=some d:=by rfl)(hN:d< N:=by decide)(hg:o.guard=none:=by rfl):iZ Γ N ops ((i,false)::r) E H n K:=by
 unfold iZ;rw[ho];refine⟨by rw[hd];exact hN,?_⟩;rw[hg,hd];exact h
theorem pu{i:Nat}{r:List (Nat×Bool)}{K:Env->Heap->Nat->Prop}(h:z89 Γ o E H n fun v H n=>∃ v',v.as v'/\iZ Γ N ops r E H n K)(ho:ops[i]? =some o:=by rfl)(hd:o.dst=none:=by rfl)(hg:o.guard=none:=by rfl):iZ Γ N ops ((i,false)::r) E H n K:=by
 unfold iZ;rw[ho];refine⟨by rw[hd];trivial,?_⟩;rw[hg,hd];exact h
theorem gXT{i d j:Nat}{b:Bool}{r:List (Nat×Bool)}{K:Env->Heap->Nat->Prop}(h:z89 Γ o E H n fun v H n=>∃ v',v.as v'/\iZ Γ N ops r ((d,v')::E) H n K)(ho:ops[i]? =some o:=by rfl)(hd:o.dst=some d:=by rfl)(hN:d< N:=by decide)(hg:o.guard=some (j,b):=by rfl)(hy:uX ops E j=some (some b):=by rfl):iZ Γ N ops ((i,false)::r) E H n K:=by
 unfold iZ;rw[ho];refine⟨by rw[hd];exact hN,?_⟩;rw[hg,hd];simp only[hy];exact⟨fun _=>h,fun e=>by cases b<;>cases e⟩
theorem gN{i d j:Nat}{b q:Bool}{r:List (Nat×Bool)}{K:Env->Heap->Nat->Prop}(h:iZ Γ N ops r ((d,og)::E) H n K)(ho:ops[i]? =some o:=by rfl)(hd:o.dst=some d:=by rfl)(hN:d< N:=by decide)(hg:o.guard=some (j,b):=by rfl)(hy:uX ops E j=some (some !b):=by rfl):iZ Γ N ops ((i,q)::r) E H n K:=by
 unfold iZ;rw[ho];refine⟨by rw[hd];exact hN,?_⟩;rw[hg,hd];simp only[hy];exact⟨(fun e=>by cases b<;>cases e),fun _=>h⟩
end
section
variable {Γ:Ctx} {N:Nat} {C:CC} {β:Val} {n:Nat} {E:Env} {H:Heap} {I:Nat->Prop} {a:Act} {w:World} {l:List Oper} {Q:Exit->Act->World->Prop}
theorem dY(hΓ:Γ.OK){g i d:Nat}{o:Oper}{listed:Array Bool} 
  (h:z89 Γ o E H n fun v H n=>∃ v',v.as v'/\WB Γ N C l Q g (listed.setIfInBounds i true) ((d,v')::E) H n) (ho:l[i]? =some o:=by rfl) (hd:o.dst=some d:=by rfl) (hN:d< N:=by decide) (hg:o.guard=none:=by rfl):Zw Γ N C l Q g listed E H n i:=fun β I a w hc hr hS=>by
 have hi:l.toArray[i]? =some o:=by simpa using ho
 have hwr:uQ l.toArray i=Pw o:=by unfold uQ;rw[hi]
 have hdst:oP N o.dst:=by rw[hd];exact hN
 have h':=h
 unfold wpOp
 simp only[hi,Region.wanted,hg,if_true]
 refine .inl ?_;unfold z89 at h'
 split at h'<;>rename_i hw
 ·refine(Mf hΓ hS.env hS.glob hS.heap h').wp fun x w' hA=>?_
  obtain⟨v,H',n',β',I',hK,hS'⟩:=hS.after hA.as hdst;rw[hd]at hS';rw[hd];exact⟨fun h0=>(by rw[hwr,hw]at h0;cases h0),hK β' I' _ w' (hc.set hr) hS'⟩
 ·refine(PM hΓ hS.env hS.glob hS.heap h').wp fun x w' hA=>?_
  obtain⟨v,H',n',β',I',hK,hS'⟩:=hS.after hA.2.as hdst;rw[hd]at hS';rw[hd];exact⟨fun _=>hA.1,hK β' I' _ w' (hc.set hr) hS'⟩

end
section
variable {Γ:Ctx} {N:Nat} {C:CC} {E:Env} {H:Heap} {n:Nat} {Q:Exit->Act->World->Prop} {y:Code}
theorem aO(hΓ:Γ.OK){id:Nat}{l:List Oper}(h:∀ K:Env->Heap->Nat->Prop,(∀ E H n,WP Γ N C y E H n Q->K E H n)->wpS Γ N l l E H n K):WP Γ N C (.seq (.region id l.toArray false) y) E H n Q:=
 aH fun _ hK'=>bB hΓ fun K hK=>h K fun _ _ _ hw=>hK _ _ _ (hK' _ _ _ hw)
theorem qB(hΓ:Γ.OK){id:Nat}{l:List Oper}(hB:Region.lexB .any l.toArray=true)(h:∀ K:Env->Prop,(∀ E,WP Γ N C y E H n Q->K E)->kR Γ N l l E H K):WP Γ N C (.seq (.region id l.toArray true) y) E H n Q:=
 aH fun _ hK'=>TS hΓ hB fun K hK=>h K fun _ hw=>hK _ (hK' _ _ _ hw)
theorem vR(hΓ:Γ.OK){id:Nat}{l:List Oper}(r:List (Nat×Bool))(hl:r.length=l.length)(hsel:Region.noSelect l.toArray=true)(hB:JV l.toArray r (Array.replicate l.toArray.size false)=true)(h:∀ K:Env->Heap->Nat->Prop,(∀ E H n,WP Γ N C y E H n Q->K E H n)->iZ Γ N l r E H n K):WP Γ N C (.seq (.region id l.toArray true) y) E H n Q:=
 aH fun _ hK'=>ry hΓ r hl hsel hB fun K hK=>h K fun _ _ _ hw=>hK _ _ _ (hK' _ _ _ hw)
end
end Go.Ab

namespace Go.Ab
open Go.RowKit
section
variable {Γ:Ctx} {N:Nat} {C:CC} {E:Env} {H:Heap} {n:Nat} {a:Act} {w:World} {Q:Exit->Act->World->Prop}
theorem Yy{J:(Nat->Prop)->World->Prop}{c:Code}(hA:uf Γ N J E a w)(hlow:∀ x∈E,x.2.low 0)(h:∀ D w,J D w->WP Γ N (di w D) c E [] 0 Q):c.wp Γ.P Q a w:=by
 obtain⟨D,β,n,hJ,hS⟩:=hA
 have hg:∀ {E:Env} {i:Tmp} {v:SV},E.get i=some v->(i,v)∈E:=by
  intro E
  induction E with
  |nil=>intro i v h;cases h
  |cons x E ih=>
   intro i v h;obtain⟨j,u⟩:=x
   simp only[Env.get]at h
   split at h
   ·rename_i e;cases h;subst e;exact List.mem_cons_self
   ·exact List.mem_cons_of_mem _ (ih h)
 exact h D w hJ β D a w ⟨⟨hS.env.defers,hS.env.slot,fun i v hv=>hlow _ (hg hv)⟩,hS.size,⟨rfl,rfl,rfl,Nat.le_refl _,fun _ _ _=>rfl,fun _ _ h=>(by cases h),fun _ _ h=>(by cases h),fun _ _ h=>(by cases h),fun _ _ _ _ _ h=>(by cases h),fun _ _ h=>(by cases h),hS.heap.ilt,fun _ h=>.inl h,fun _ h=>h⟩,hS.glob,Nat.zero_le _,fun i hi=>absurd hi (Nat.not_lt_zero i)⟩
theorem zzt{Q':Act->World->Prop}(hΓ:Γ.OK){fn:Func}{R:Ending->World->Prop}(hQ:∀ a w,bodyPost Γ.P fn R .ret a w->Q' a w)(hD:C.D=[])(hrs:fn.results.toList=[])(hR:∀ β I a w,St Γ N C β n E H I a w->R (.returned (.tuple #[])) w):Done Γ N C E H n Q':=fun β I a w hS=>hQ a w (zgl hΓ hD hrs hR β I a w hS)
theorem bq{v v':SV}(h:v=v'):v.as v':=h▸SV.as_refl v
theorem Cm{c:Code}(h:WP Γ N C c E H n Q):Done Γ N C E H n (fun a w=>c.wp Γ.P Q a w):=h
def qz:SV->Prop
 | .c x=>gM x
 | .agg c=>c.flat=true
 | .tup _=>False
theorem zlc:∀ {l:List Cell},CW l=true->∀ x∈l,∀ g cs,x≠Cell.clo g cs
 |x::l,h,y,hy,g,cs=>by
  have h:(x.flat&&CW l)=true:=h
  rw[Bool.and_eq_true]at h
  rcases List.mem_cons.1 hy with rfl|hy
  ·intro e;subst e;exact absurd h.1 (by simp[Cell.flat])
  ·exact zlc h.2 y hy g cs
 |[],_,y,hy,_,_=>by cases hy
theorem zld{ty:Nat->Ty}:∀ {l:List Cell} (_:CW l=true) {K:List Cell->Prop} (_:K l),l6 ty H l K
 |[],_,_,h=>h
 |x::l,hl,K,h=>by
  have hl:(x.flat&&CW l)=true:=hl
  rw[Bool.and_eq_true]at hl
  have h2:l6 ty H l fun l'=>K (x::l'):=zld hl.2 h
  show mY ty H x _
  have hx:=hl.1
  cases x<;>first|exact h2|(simp[Cell.flat]at hx;done)
theorem Rn{ty:Nat->Ty}:∀ {xs:List SV} (_:∀ x∈xs,qz x) {K:List SV->Prop} (_:K xs),kQ ty H xs K
 |[],_,_,h=>h
 | .c x::xs,hx,K,h=>zl9 (show gM x from hx _ (.head _)) (Rn (xs:=xs) (fun y hy=>hx y (.tail _ hy)) h)
 | .agg c::xs,hx,K,h=>by
  have hc:c.flat=true:=hx _ (.head _)
  have h2:kQ ty H xs fun vs'=>K (.agg c::vs'):=Rn (xs:=xs) (fun y hy=>hx y (.tail _ hy)) h
  show qG ty H (.agg c) _
  cases c with
  |cells l=>exact⟨zlc hc,zld hc h2⟩
  |u8s _=>exact h2
  |u32s _=>exact h2
  |u64s _=>exact h2
  |ints _ _=>exact h2
  |bools _=>exact h2
 | .tup l::xs,hx,_,_=>(hx _ (.head _)).elim
theorem zzu{f:FuncId}{q:aW}(hq:rV Γ.fs f=some (.flat q)){xs:List SV}{caps:List Cell}(hx:∀ x∈xs,qz x)(hc:∀ x∈caps,gM x){K:SV->Heap->Nat->Prop}(h:q (xs++caps.map .c) fun v=>K v H n):
  z76 (.c (.clo f caps)) xs fun f vs=>Dp Γ f vs H n K:=by
 refine Rm ?_;unfold Dp;rw[hq];unfold mR
 simp only[hq]
 exact Rn (fun x hx'=>(List.mem_append.1 hx').elim (hx x) fun h=>by
  obtain⟨y,hy,rfl⟩:=List.mem_map.1 h
  exact hc y hy) h
theorem zxr{f:FuncId}{q:aW}(hq:rV Γ.fs f=some (.flat q)){xs:List SV}{caps:List Cell}(hx:∀ x∈xs,qz x)(hc:∀ x∈caps,gM x){K:SV->Heap->Nat->Prop}(h:q (xs++caps.map .c) fun v=>K v H n):
  z76 (.c (.clo f caps)) xs fun f vs=>mR Γ f vs H n K:=by
 refine Rm ?_;unfold mR
 simp only[hq]
 exact Rn (fun x hx'=>(List.mem_append.1 hx').elim (hx x) fun h=>by
  obtain⟨y,hy,rfl⟩:=List.mem_map.1 h
  exact hc y hy) h
end
end Go.Ab

namespace Go.Ab
open Go.RowKit
section
variable {Γ:Ctx} {N:Nat} {C:CC} {n:Nat} {E:Env} {H:Heap} {l:List Oper} {Q:Exit->Act->World->Prop}
theorem mr(g:Nat)(listed:Array Bool)(E':Env)(H':Heap)(n':Nat){g0:Nat}{listed0:Array Bool}(h1:WB Γ N C l Q g listed E' H' n')(h2:WB Γ N C l Q g listed E' H' n'->WB Γ N C l Q g0 listed0 E H n):WB Γ N C l Q g0 listed0 E H n:=h2 h1
theorem dI(is:List Nat)(ρ:Nat->Nat){E':Env}{H':Heap}{n':Nat}(ks:List Nat){g:Nat}{listed listed':Array Bool}(h:WB Γ N C l Q g listed' E' H' n')(hl:listed=listed')(h1:Env.le Γ.ty H is ρ E E')(h2:Heap.le Γ.ty H is ρ H')(h3:Env.low n' E')(h4:Heap.low n' H')(h5:(H'.map (·.1)).map ρ=ks:=by rfl)(h6:ks.Nodup:=by decide)(h7:C.n0<=n'/\∀ i,i< C.n0->ρ i=i:=by exact⟨Nat.zero_le _,fun i hi=>absurd hi (Nat.not_lt_zero i)⟩):WB Γ N C l Q g listed E H n:=
 fun _ _ a w hc hS=>h _ _ a w (hl▸hc) (hS.le ⟨h1,h2,h5▸h6,h3,h4,h7⟩) |> fun x=>hl▸x
end
section
variable {Γ:Ctx} {N:Nat} {ops:List Oper} {o:Oper} {os:List Oper} {E:Env} {H:Heap} {n:Nat}
end
end Go.Ab

namespace Go.Ab
open Go.RowKit
theorem aN{a:Prop}(h:a:=by kernel_rfl):a:=h
theorem az{a b:Int}(h:a=b):SV.as (.c (.int .i64 a)) (.c (.int .i64 b)):=by subst h;exact SV.as_refl _
theorem dN{a b:Bool}(h:a=b):SV.as (.c (.bool a)) (.c (.bool b)):=by subst h;exact SV.as_refl _
theorem ak{a b:Cell}(h:a=b):SV.as (.c a) (.c b):=by subst h;exact SV.as_refl _
section
variable {Γ:Ctx} {N:Nat} {ops:List Oper} {E:Env} {H:Heap} {n:Nat} {X K:Env->Heap->Nat->Prop} {Y L:Env->Prop}
theorem aJ(k:∀ E H n,X E H n->K E H n)(h:X E H n):wpS Γ N ops [] E H n K:=k _ _ _ h
theorem iF(k:∀ E H n,X E H n->K E H n)(h:X E H n):iZ Γ N ops [] E H n K:=k _ _ _ h
theorem nG(k:∀ E,Y E->L E)(h:Y E):kR Γ N ops [] E H L:=k _ h
end
section
variable {a b:Prop}
theorem vU(h:a:=by first|exact rX trivial trivial|(show _< (rt _ _ _).length;rw[bG hcl];omega)|(show _<=(rt _ _ _).length;rw[bG hcl];omega)|(show(rt _ _ _).length=258;exact bG hcl)|(show 258=(rt _ _ _).length;exact(bG hcl).symm)|(show 0+(rt _ _ _).length<=(List.replicate 256 _++List.replicate 2 _).length;rw[bG hcl];simp)|(show(List.replicate 256 _++List.replicate 2 _).length=(rt _ _ _).length;rw[bG hcl];simp)|(show dz.length=(rt _ _ _).length;rw[jA,bG hcl])|(show 0+(rt _ _ _).length<=dz.length;rw[jA,bG hcl];decide)|(show(rt _ _ _).length=dz.length;rw[jA,bG hcl])|(show _< (aS _).length;rw[nH];omega)|(simp only[jI];omega)|(simp only[z17];omega)):a:=h
theorem Vk(h:a:=by first|exact rX trivial trivial|(show _< (rt _ _ _).length;rw[bG ha.1.clen];omega)|(show _<=(rt _ _ _).length;rw[bG ha.1.clen];omega)|(show(rt _ _ _).length=258;exact bG ha.1.clen)|(show 258=(rt _ _ _).length;exact(bG ha.1.clen).symm)|(show 0+(rt _ _ _).length<=(List.replicate 256 _++List.replicate 2 _).length;rw[bG ha.1.clen];simp)|(show(List.replicate 256 _++List.replicate 2 _).length=(rt _ _ _).length;rw[bG ha.1.clen];simp)|(show dz.length=(rt _ _ _).length;rw[jA,bG ha.1.clen])|(show 0+(rt _ _ _).length<=dz.length;rw[jA,bG ha.1.clen];decide)|(show(rt _ _ _).length=dz.length;rw[jA,bG ha.1.clen])|(show _< (aS _).length;rw[nH];omega)|(simp only[jI];omega)|(simp only[z17];omega)):a:=h
theorem Vl(h:a:=by first|exact rX trivial trivial|(show _< (rt _ _ _).length;rw[bG hb.1.clen];omega)|(show _<=(rt _ _ _).length;rw[bG hb.1.clen];omega)|(show(rt _ _ _).length=258;exact bG hb.1.clen)|(show 258=(rt _ _ _).length;exact(bG hb.1.clen).symm)|(show 0+(rt _ _ _).length<=(List.replicate 256 _++List.replicate 2 _).length;rw[bG hb.1.clen];simp)|(show(List.replicate 256 _++List.replicate 2 _).length=(rt _ _ _).length;rw[bG hb.1.clen];simp)|(show dz.length=(rt _ _ _).length;rw[jA,bG hb.1.clen])|(show 0+(rt _ _ _).length<=dz.length;rw[jA,bG hb.1.clen];decide)|(show(rt _ _ _).length=dz.length;rw[jA,bG hb.1.clen])|(show _< (aS _).length;rw[nH];omega)|(simp only[jI];omega)|(simp only[z17];omega)):a:=h
theorem vRt(h:a:=by first|exact rX trivial trivial|(show _< (rt _ _ _).length;rw[bG ht.1.clen];omega)|(show _<=(rt _ _ _).length;rw[bG ht.1.clen];omega)|(show(rt _ _ _).length=258;exact bG ht.1.clen)|(show 258=(rt _ _ _).length;exact(bG ht.1.clen).symm)|(show 0+(rt _ _ _).length<=(List.replicate 256 _++List.replicate 2 _).length;rw[bG ht.1.clen];simp)|(show(List.replicate 256 _++List.replicate 2 _).length=(rt _ _ _).length;rw[bG ht.1.clen];simp)|(show dz.length=(rt _ _ _).length;rw[jA,bG ht.1.clen])|(show 0+(rt _ _ _).length<=dz.length;rw[jA,bG ht.1.clen];decide)|(show(rt _ _ _).length=dz.length;rw[jA,bG ht.1.clen])|(show _< (aS _).length;rw[nH];omega)|(simp only[jI];omega)|(simp only[z17];omega)):a:=h
theorem vRp(h:a:=by first|exact rX trivial trivial|(show _< (rt _ _ _).length;rw[bG hpf.1.clen];omega)|(show _<=(rt _ _ _).length;rw[bG hpf.1.clen];omega)|(show(rt _ _ _).length=258;exact bG hpf.1.clen)|(show 258=(rt _ _ _).length;exact(bG hpf.1.clen).symm)|(show 0+(rt _ _ _).length<=(List.replicate 256 _++List.replicate 2 _).length;rw[bG hpf.1.clen];simp)|(show(List.replicate 256 _++List.replicate 2 _).length=(rt _ _ _).length;rw[bG hpf.1.clen];simp)|(show dz.length=(rt _ _ _).length;rw[jA,bG hpf.1.clen])|(show 0+(rt _ _ _).length<=dz.length;rw[jA,bG hpf.1.clen];decide)|(show(rt _ _ _).length=dz.length;rw[jA,bG hpf.1.clen])|(show _< (aS _).length;rw[nH];omega)|(simp only[jI];omega)|(simp only[z17];omega)):a:=h
theorem PG(h:a:=by first|exact rX trivial trivial|(show _< (rt _ _ _).length;rw[bG hjl];omega)|(show _<=(rt _ _ _).length;rw[bG hjl];omega)|(show(rt _ _ _).length=258;exact bG hjl)|(show 258=(rt _ _ _).length;exact(bG hjl).symm)|(show 0+(rt _ _ _).length<=(List.replicate 256 _++List.replicate 2 _).length;rw[bG hjl];simp)|(show(List.replicate 256 _++List.replicate 2 _).length=(rt _ _ _).length;rw[bG hjl];simp)|(show dz.length=(rt _ _ _).length;rw[jA,bG hjl])|(show 0+(rt _ _ _).length<=dz.length;rw[jA,bG hjl];decide)|(show(rt _ _ _).length=dz.length;rw[jA,bG hjl])|(show _< (aS _).length;rw[nH];omega)|(simp only[jI];omega)|(simp only[z17];omega)):a:=h
theorem vRz(h:a:=by first|exact rX trivial trivial|(show _< (rt _ _ _).length;rw[bG hzz];omega)|(show _<=(rt _ _ _).length;rw[bG hzz];omega)|(show(rt _ _ _).length=258;exact bG hzz)|(show 258=(rt _ _ _).length;exact(bG hzz).symm)|(show 0+(rt _ _ _).length<=(List.replicate 256 _++List.replicate 2 _).length;rw[bG hzz];simp)|(show(List.replicate 256 _++List.replicate 2 _).length=(rt _ _ _).length;rw[bG hzz];simp)|(show dz.length=(rt _ _ _).length;rw[jA,bG hzz])|(show 0+(rt _ _ _).length<=dz.length;rw[jA,bG hzz];decide)|(show(rt _ _ _).length=dz.length;rw[jA,bG hzz])|(show _< (aS _).length;rw[nH];omega)|(simp only[jI];omega)|(simp only[z17];omega)):a:=h
theorem Vm(h:a:=by first|exact rX trivial trivial|(show _< (rt _ _ _).length;rw[bG CL];omega)|(show _<=(rt _ _ _).length;rw[bG CL];omega)|(show(rt _ _ _).length=258;exact bG CL)|(show 258=(rt _ _ _).length;exact(bG CL).symm)|(show 0+(rt _ _ _).length<=(List.replicate 256 _++List.replicate 2 _).length;rw[bG CL];simp)|(show(List.replicate 256 _++List.replicate 2 _).length=(rt _ _ _).length;rw[bG CL];simp)|(show dz.length=(rt _ _ _).length;rw[jA,bG CL])|(show 0+(rt _ _ _).length<=dz.length;rw[jA,bG CL];decide)|(show(rt _ _ _).length=dz.length;rw[jA,bG CL])|(show _< (aS _).length;rw[nH];omega)|(simp only[jI];omega)|(simp only[z17];omega)):a:=h
theorem vRd(h:a:=by first|exact rX trivial trivial|(show _< (rt _ _ _).length;rw[bG (nJ hgd.1).clen];omega)|(show _<=(rt _ _ _).length;rw[bG (nJ hgd.1).clen];omega)|(show(rt _ _ _).length=258;exact bG (nJ hgd.1).clen)|(show 258=(rt _ _ _).length;exact(bG (nJ hgd.1).clen).symm)|(show 0+(rt _ _ _).length<=(List.replicate 256 _++List.replicate 2 _).length;rw[bG (nJ hgd.1).clen];simp)|(show(List.replicate 256 _++List.replicate 2 _).length=(rt _ _ _).length;rw[bG (nJ hgd.1).clen];simp)|(show dz.length=(rt _ _ _).length;rw[jA,bG (nJ hgd.1).clen])|(show 0+(rt _ _ _).length<=dz.length;rw[jA,bG (nJ hgd.1).clen];decide)|(show(rt _ _ _).length=dz.length;rw[jA,bG (nJ hgd.1).clen])|(show _< (aS _).length;rw[nH];omega)|(simp only[jI];omega)|(simp only[z17];omega)):a:=h
theorem vRe(h:a:=by first|exact rX trivial trivial|(show _< (rt _ _ _).length;rw[bG (nJ hge.1).clen];omega)|(show _<=(rt _ _ _).length;rw[bG (nJ hge.1).clen];omega)|(show(rt _ _ _).length=258;exact bG (nJ hge.1).clen)|(show 258=(rt _ _ _).length;exact(bG (nJ hge.1).clen).symm)|(show 0+(rt _ _ _).length<=(List.replicate 256 _++List.replicate 2 _).length;rw[bG (nJ hge.1).clen];simp)|(show(List.replicate 256 _++List.replicate 2 _).length=(rt _ _ _).length;rw[bG (nJ hge.1).clen];simp)|(show dz.length=(rt _ _ _).length;rw[jA,bG (nJ hge.1).clen])|(show 0+(rt _ _ _).length<=dz.length;rw[jA,bG (nJ hge.1).clen];decide)|(show(rt _ _ _).length=dz.length;rw[jA,bG (nJ hge.1).clen])|(show _< (aS _).length;rw[nH];omega)|(simp only[jI];omega)|(simp only[z17];omega)):a:=h
theorem vRk(h:a:=by first|exact rX trivial trivial|(show _< (rt _ _ _).length;rw[bG (rq _ _)];omega)|(show _<=(rt _ _ _).length;rw[bG (rq _ _)];omega)|(show(rt _ _ _).length=258;exact bG (rq _ _))|(show 258=(rt _ _ _).length;exact(bG (rq _ _)).symm)|(show 0+(rt _ _ _).length<=(List.replicate 256 _++List.replicate 2 _).length;rw[bG (rq _ _)];simp)|(show(List.replicate 256 _++List.replicate 2 _).length=(rt _ _ _).length;rw[bG (rq _ _)];simp)|(show dz.length=(rt _ _ _).length;rw[jA,bG (rq _ _)])|(show 0+(rt _ _ _).length<=dz.length;rw[jA,bG (rq _ _)];decide)|(show(rt _ _ _).length=dz.length;rw[jA,bG (rq _ _)])|(show _< (aS _).length;rw[nH];omega)|(simp only[jI];omega)|(simp only[z17];omega)):a:=h
theorem vRi(h:a:=by first|exact rX trivial trivial|(show _< (rt _ _ _).length;rw[bG (pV _)];omega)|(show _<=(rt _ _ _).length;rw[bG (pV _)];omega)|(show(rt _ _ _).length=258;exact bG (pV _))|(show 258=(rt _ _ _).length;exact(bG (pV _)).symm)|(show 0+(rt _ _ _).length<=(List.replicate 256 _++List.replicate 2 _).length;rw[bG (pV _)];simp)|(show(List.replicate 256 _++List.replicate 2 _).length=(rt _ _ _).length;rw[bG (pV _)];simp)|(show dz.length=(rt _ _ _).length;rw[jA,bG (pV _)])|(show 0+(rt _ _ _).length<=dz.length;rw[jA,bG (pV _)];decide)|(show(rt _ _ _).length=dz.length;rw[jA,bG (pV _)])|(show _< (aS _).length;rw[nH];omega)|(simp only[jI];omega)|(simp only[z17];omega)):a:=h
theorem vRl(h:a:=by first|exact rX trivial trivial|(show _< (rt _ _ _).length;rw[bG (qH _ _)];omega)|(show _<=(rt _ _ _).length;rw[bG (qH _ _)];omega)|(show(rt _ _ _).length=258;exact bG (qH _ _))|(show 258=(rt _ _ _).length;exact(bG (qH _ _)).symm)|(show 0+(rt _ _ _).length<=(List.replicate 256 _++List.replicate 2 _).length;rw[bG (qH _ _)];simp)|(show(List.replicate 256 _++List.replicate 2 _).length=(rt _ _ _).length;rw[bG (qH _ _)];simp)|(show dz.length=(rt _ _ _).length;rw[jA,bG (qH _ _)])|(show 0+(rt _ _ _).length<=dz.length;rw[jA,bG (qH _ _)];decide)|(show(rt _ _ _).length=dz.length;rw[jA,bG (qH _ _)])|(show _< (aS _).length;rw[nH];omega)|(simp only[jI];omega)|(simp only[z17];omega)):a:=h
theorem pJ(h:a:=by first|exact ou|exact Kw|exact y42|exact Bv trivial trivial|exact rY ⟨rfl,rfl⟩ ⟨rfl,rfl⟩|exact Co _|exact jA.symm|exact jA):a:=h
end
end Go.Ab

namespace Go.Proofs.YtpdljmohhpbkpaaDoor
open Go.Ab
set_option maxRecDepth 8000

def ty:Nat->Ty
  |2=>.int .i64
  |3=>.int .i64
  |4=>.bool
  |5=>.int .u8
  |9=>.str
  |12=>.int .u64
  |21=>.int .i32
  |22=>.slice 5 1 1
  |23=>.struct [(0,1,5),(1,1,22),(2,1,5)] 3 (.cells ([.u8 0]++[.nils]++[.u8 0]))
  |24=>.struct [(0,1,5),(1,1,22),(2,1,5)] 3 (.cells ([.u8 0]++[.nils]++[.u8 0]))
  |26=>.slice 53 4 32
  |27=>.slice 44 1 24
  |28=>.slice 4 1 1
  |29=>.struct [(0,1,26),(1,1,27),(2,1,28)] 3 (.cells (List.replicate 3 (.nils)))
  |30=>.struct [(0,1,26),(1,1,27),(2,1,28)] 3 (.cells (List.replicate 3 (.nils)))
  |33=>.int .i64
  |44=>.slice 3 1 8
  |47=>.func
  |49=>.func
  |51=>.int .u64
  |52=>.arr 4 51 1 (.u64s (List.replicate 4 0))
  |53=>.arr 4 51 1 (.u64s (List.replicate 4 0))
  |54=>.arr 256 3 1 (.ints .i64 (List.replicate 256 0))
  |55=>.struct [(0,256,54),(256,1,3),(257,1,27),(258,1,28)] 259 (.cells (List.replicate 257 (.int .i64 0)++List.replicate 2 (.nils)))
  |56=>.struct [(0,256,54),(256,1,3),(257,1,27),(258,1,28)] 259 (.cells (List.replicate 257 (.int .i64 0)++List.replicate 2 (.nils)))
  |61=>.arr 1 51 1 (.u64s (List.replicate 1 0))
  |62=>.arr 1 51 1 (.u64s (List.replicate 1 0))
  |63=>.struct [(0,1,3),(1,1,3),(2,1,62)] 3 (.cells (List.replicate 2 (.int .i64 0)++[.u64 0]))
  |64=>.struct [(0,1,3),(1,1,3),(2,1,62)] 3 (.cells (List.replicate 2 (.int .i64 0)++[.u64 0]))
  |65=>.func
  |67=>.func
  |71=>.func
  |73=>.struct [(0,256,54),(256,1,27),(257,1,28)] 258 (.cells (List.replicate 256 (.int .i64 0)++List.replicate 2 (.nils)))
  |74=>.struct [(0,256,54),(256,1,27),(257,1,28)] 258 (.cells (List.replicate 256 (.int .i64 0)++List.replicate 2 (.nils)))
  |79=>.struct [(0,1,3),(1,1,51)] 2 (.cells ([.int .i64 0]++[.u64 0]))
  |80=>.struct [(0,1,3),(1,1,51)] 2 (.cells ([.int .i64 0]++[.u64 0]))
  |81=>.slice 80 2 16
  |99=>.map 100 3
  |100=>.arr 2 3 1 (.ints .i64 (List.replicate 2 0))
  |102=>.map 64 3
  |103=>.slice 64 3 24
  |110=>.slice 22 1 24
  |113=>.func
  |115=>.func
  |116=>.func
  |118=>.map 9 3
  |119=>.int .u64
  |125=>.func
  |128=>.ptr
  |130=>.arr 64 5 1 (.u8s (List.replicate 64 0))
  |138=>.int .u32
  |142=>.ptr
  |_=>.other

theorem dS:fD Tryd.prog ty where
  int:=by
    intro t k h;unfold ty at h;split at h<;>cases h
    all_goals kernel_rfl
  bool:=by
    intro t h;unfold ty at h;split at h<;>cases h
    · kernel_rfl
  str:=by
    intro t h;unfold ty at h;split at h<;>cases h
    · kernel_rfl
  slice:=by
    intro t e s b h;unfold ty at h;split at h<;>cases h
    · exact⟨aN,aN,.int .u8 0,aN,aN,by decide⟩
    · exact⟨aN,aN,.agg ((.u64s (List.replicate 4 0):aB).vals:List Value).toArray,aN,aN,by decide⟩
    · exact⟨aN,aN,.slice none 0 0,aN,aN,by decide⟩
    · exact⟨aN,aN,.bool false,aN,aN,by decide⟩
    · exact⟨aN,aN,.int .i64 0,aN,aN,by decide⟩
    · exact⟨aN,aN,.agg ((.cells ([.int .i64 0]++[.u64 0]):aB).vals:List Value).toArray,aN,aN,by decide⟩
    · exact⟨aN,aN,.agg ((.cells (List.replicate 2 (.int .i64 0)++[.u64 0]):aB).vals:List Value).toArray,aN,aN,by decide⟩
    · exact⟨aN,aN,.slice none 0 0,aN,aN,by decide⟩
  arr:=by
    intro t n e s z h;unfold ty at h;split at h<;>cases h
    all_goals exact⟨aN,aN,aN⟩
  struct:=by
    intro t fs n z h;unfold ty at h;split at h<;>cases h
    · exact⟨⟨_,Tryd.underlying23,rfl,by simp only[List.mem_cons,List.not_mem_nil,or_false];rintro f (rfl|rfl|rfl)<;>kernel_rfl⟩,aN⟩
    · exact⟨⟨_,Tryd.underlying24,rfl,by simp only[List.mem_cons,List.not_mem_nil,or_false];rintro f (rfl|rfl|rfl)<;>kernel_rfl⟩,aN⟩
    · exact⟨⟨_,Tryd.underlying29,rfl,by simp only[List.mem_cons,List.not_mem_nil,or_false];rintro f (rfl|rfl|rfl)<;>kernel_rfl⟩,aN⟩
    · exact⟨⟨_,Tryd.underlying30,rfl,by simp only[List.mem_cons,List.not_mem_nil,or_false];rintro f (rfl|rfl|rfl)<;>kernel_rfl⟩,aN⟩
    · exact⟨⟨_,Tryd.underlying55,rfl,by simp only[List.mem_cons,List.not_mem_nil,or_false];rintro f (rfl|rfl|rfl|rfl)<;>kernel_rfl⟩,aN⟩
    · exact⟨⟨_,Tryd.underlying56,rfl,by simp only[List.mem_cons,List.not_mem_nil,or_false];rintro f (rfl|rfl|rfl|rfl)<;>kernel_rfl⟩,aN⟩
    · exact⟨⟨_,Tryd.underlying63,rfl,by simp only[List.mem_cons,List.not_mem_nil,or_false];rintro f (rfl|rfl|rfl)<;>kernel_rfl⟩,aN⟩
    · exact⟨⟨_,Tryd.underlying64,rfl,by simp only[List.mem_cons,List.not_mem_nil,or_false];rintro f (rfl|rfl|rfl)<;>kernel_rfl⟩,aN⟩
    · exact⟨⟨_,Tryd.underlying73,rfl,by simp only[List.mem_cons,List.not_mem_nil,or_false];rintro f (rfl|rfl|rfl)<;>kernel_rfl⟩,aN⟩
    · exact⟨⟨_,Tryd.underlying74,rfl,by simp only[List.mem_cons,List.not_mem_nil,or_false];rintro f (rfl|rfl|rfl)<;>kernel_rfl⟩,aN⟩
    · exact⟨⟨_,Tryd.underlying79,rfl,by simp only[List.mem_cons,List.not_mem_nil,or_false];rintro f (rfl|rfl)<;>kernel_rfl⟩,aN⟩
    · exact⟨⟨_,Tryd.underlying80,rfl,by simp only[List.mem_cons,List.not_mem_nil,or_false];rintro f (rfl|rfl)<;>kernel_rfl⟩,aN⟩
  ptr:=by
    intro t h;unfold ty at h;split at h<;>cases h
    · exact⟨_,Tryd.underlying128⟩
    · exact⟨_,Tryd.underlying142⟩
  func:=by
    intro t h;unfold ty at h;split at h<;>cases h
    · exact⟨_,_,_,Tryd.underlying47⟩
    · exact⟨_,_,_,Tryd.underlying49⟩
    · exact⟨_,_,_,Tryd.underlying65⟩
    · exact⟨_,_,_,Tryd.underlying67⟩
    · exact⟨_,_,_,Tryd.underlying71⟩
    · exact⟨_,_,_,Tryd.underlying113⟩
    · exact⟨_,_,_,Tryd.underlying115⟩
    · exact⟨_,_,_,Tryd.underlying116⟩
    · exact⟨_,_,_,Tryd.underlying125⟩
  map:=by
    intro t k e h;unfold ty at h;split at h<;>cases h
    all_goals kernel_rfl
  size:=by
    intro t;unfold ty;split<;>intro h<;>first|exact absurd rfl h|kernel_rfl
  zero:=by
    intro t z h;unfold ty at h;split at h<;>simp only[nZ,Option.some.injEq,reduceCtorEq]at h<;>subst h
    · exact⟨.int .i64 0,aN,aN,aN⟩
    · exact⟨.int .i64 0,aN,aN,aN⟩
    · exact⟨.bool false,aN,aN,aN⟩
    · exact⟨.int .u8 0,aN,aN,aN⟩
    · exact⟨.string ⟨#[]⟩,aN,aN,aN⟩
    · exact⟨.int .u64 0,aN,aN,aN⟩
    · exact⟨.int .i32 0,aN,aN,aN⟩
    · exact⟨.slice none 0 0,aN,aN,aN⟩
    · exact⟨.agg ((.cells ([.u8 0]++[.nils]++[.u8 0]):aB).vals:List Value).toArray,aN,by rfl,aN⟩
    · exact⟨.agg ((.cells ([.u8 0]++[.nils]++[.u8 0]):aB).vals:List Value).toArray,aN,by rfl,aN⟩
    · exact⟨.slice none 0 0,aN,aN,aN⟩
    · exact⟨.slice none 0 0,aN,aN,aN⟩
    · exact⟨.slice none 0 0,aN,aN,aN⟩
    · exact⟨.agg ((.cells (List.replicate 3 (.nils)):aB).vals:List Value).toArray,aN,by rfl,aN⟩
    · exact⟨.agg ((.cells (List.replicate 3 (.nils)):aB).vals:List Value).toArray,aN,by rfl,aN⟩
    · exact⟨.int .i64 0,aN,aN,aN⟩
    · exact⟨.slice none 0 0,aN,aN,aN⟩
    · exact⟨.nilFunc,aN,aN,aN⟩
    · exact⟨.nilFunc,aN,aN,aN⟩
    · exact⟨.int .u64 0,aN,aN,aN⟩
    · exact⟨.agg ((.u64s (List.replicate 4 0):aB).vals:List Value).toArray,aN,by rfl,aN⟩
    · exact⟨.agg ((.u64s (List.replicate 4 0):aB).vals:List Value).toArray,aN,by rfl,aN⟩
    · exact⟨.agg ((.ints .i64 (List.replicate 256 0):aB).vals:List Value).toArray,aN,by rfl,aN⟩
    · exact⟨.agg ((.cells (List.replicate 257 (.int .i64 0)++List.replicate 2 (.nils)):aB).vals:List Value).toArray,aN,by rfl,aN⟩
    · exact⟨.agg ((.cells (List.replicate 257 (.int .i64 0)++List.replicate 2 (.nils)):aB).vals:List Value).toArray,aN,by rfl,aN⟩
    · exact⟨.agg ((.u64s (List.replicate 1 0):aB).vals:List Value).toArray,aN,by rfl,aN⟩
    · exact⟨.agg ((.u64s (List.replicate 1 0):aB).vals:List Value).toArray,aN,by rfl,aN⟩
    · exact⟨.agg ((.cells (List.replicate 2 (.int .i64 0)++[.u64 0]):aB).vals:List Value).toArray,aN,by rfl,aN⟩
    · exact⟨.agg ((.cells (List.replicate 2 (.int .i64 0)++[.u64 0]):aB).vals:List Value).toArray,aN,by rfl,aN⟩
    · exact⟨.nilFunc,aN,aN,aN⟩
    · exact⟨.nilFunc,aN,aN,aN⟩
    · exact⟨.nilFunc,aN,aN,aN⟩
    · exact⟨.agg ((.cells (List.replicate 256 (.int .i64 0)++List.replicate 2 (.nils)):aB).vals:List Value).toArray,aN,by rfl,aN⟩
    · exact⟨.agg ((.cells (List.replicate 256 (.int .i64 0)++List.replicate 2 (.nils)):aB).vals:List Value).toArray,aN,by rfl,aN⟩
    · exact⟨.agg ((.cells ([.int .i64 0]++[.u64 0]):aB).vals:List Value).toArray,aN,by rfl,aN⟩
    · exact⟨.agg ((.cells ([.int .i64 0]++[.u64 0]):aB).vals:List Value).toArray,aN,by rfl,aN⟩
    · exact⟨.slice none 0 0,aN,aN,aN⟩
    · exact⟨.map none,aN,aN,aN⟩
    · exact⟨.agg ((.ints .i64 (List.replicate 2 0):aB).vals:List Value).toArray,aN,by rfl,aN⟩
    · exact⟨.map none,aN,aN,aN⟩
    · exact⟨.slice none 0 0,aN,aN,aN⟩
    · exact⟨.slice none 0 0,aN,aN,aN⟩
    · exact⟨.nilFunc,aN,aN,aN⟩
    · exact⟨.nilFunc,aN,aN,aN⟩
    · exact⟨.nilFunc,aN,aN,aN⟩
    · exact⟨.map none,aN,aN,aN⟩
    · exact⟨.int .u64 0,aN,aN,aN⟩
    · exact⟨.nilFunc,aN,aN,aN⟩
    · exact⟨.agg ((.u8s (List.replicate 64 0):aB).vals:List Value).toArray,aN,by rfl,aN⟩
    · exact⟨.int .u32 0,aN,aN,aN⟩
  zeroV:=by
    intro t z h;unfold ty at h;split at h<;>simp only[nZ,Option.some.injEq,reduceCtorEq]at h<;>subst h
    all_goals kernel_rfl
  key:=by
    intro t z h hl;unfold ty at h;split at h<;>simp only[Ty.wide,Option.some.injEq,reduceCtorEq]at h<;>subst h
    · exact CX aN hl
    · exact CX aN hl
    · exact CX aN hl
    · exact CX aN hl
    · exact⟨aN,aN,aN,⟨[.int .u64 0,.int .u64 0,.int .u64 0,.int .u64 0],aN⟩,aN,aN,aN⟩
    · exact⟨aN,aN,aN,⟨[.int .u64 0,.int .u64 0,.int .u64 0,.int .u64 0],aN⟩,aN,aN,aN⟩
    · exact CX aN hl
    · exact CX aN hl
    · exact CX aN hl
    · exact⟨aN,aN,aN,⟨[.int .u64 0],aN⟩,aN,aN,aN⟩
    · exact⟨aN,aN,aN,⟨[.int .u64 0],aN⟩,aN,aN,aN⟩
    · exact⟨aN,aN,aN,⟨[.int .i64 0,.int .i64 0,.int .u64 0],aN⟩,aN,aN,aN⟩
    · exact⟨aN,aN,aN,⟨[.int .i64 0,.int .i64 0,.int .u64 0],aN⟩,aN,aN,aN⟩
    · exact CX aN hl
    · exact CX aN hl
    · exact⟨aN,aN,aN,⟨[.int .i64 0,.int .u64 0],aN⟩,aN,aN,aN⟩
    · exact⟨aN,aN,aN,⟨[.int .i64 0,.int .u64 0],aN⟩,aN,aN,aN⟩
    · exact⟨aN,aN,aN,⟨[.int .i64 0,.int .i64 0],aN⟩,aN,aN,aN⟩
    · exact CX aN hl
@[simp] theorem Ve:(ty 2).size=1:=rfl
@[simp] theorem Vf:(ty 3).size=1:=rfl
@[simp] theorem Vg:(ty 4).size=1:=rfl
@[simp] theorem Vh:(ty 5).size=1:=rfl
@[simp] theorem Vi:(ty 9).size=1:=rfl
@[simp] theorem Ql:(ty 12).size=1:=rfl
@[simp] theorem Qm:(ty 21).size=1:=rfl
@[simp] theorem Qn:(ty 22).size=1:=rfl
@[simp] theorem Qo:(ty 23).size=3:=rfl
@[simp] theorem Qp:(ty 24).size=3:=rfl
@[simp] theorem Qq:(ty 26).size=1:=rfl
@[simp] theorem Qr:(ty 27).size=1:=rfl
@[simp] theorem Qs:(ty 28).size=1:=rfl
@[simp] theorem Qt:(ty 29).size=3:=rfl
@[simp] theorem Qu:(ty 30).size=3:=rfl
@[simp] theorem Qv:(ty 33).size=1:=rfl
@[simp] theorem Qw:(ty 44).size=1:=rfl
@[simp] theorem Qx:(ty 47).size=1:=rfl
@[simp] theorem Qy:(ty 49).size=1:=rfl
@[simp] theorem Qz:(ty 51).size=1:=rfl
@[simp] theorem RA:(ty 52).size=4:=rfl
@[simp] theorem RB:(ty 53).size=4:=rfl
@[simp] theorem RD:(ty 54).size=256:=rfl
@[simp] theorem RE:(ty 55).size=259:=rfl
@[simp] theorem RF:(ty 56).size=259:=rfl
@[simp] theorem RG:(ty 61).size=1:=rfl
@[simp] theorem RH:(ty 62).size=1:=rfl
@[simp] theorem RI:(ty 63).size=3:=rfl
@[simp] theorem RJ:(ty 64).size=3:=rfl
@[simp] theorem RL:(ty 65).size=1:=rfl
@[simp] theorem RN:(ty 67).size=1:=rfl
@[simp] theorem RO:(ty 71).size=1:=rfl
@[simp] theorem RP:(ty 73).size=258:=rfl
@[simp] theorem RQ:(ty 74).size=258:=rfl
@[simp] theorem RS:(ty 79).size=2:=rfl
@[simp] theorem RU:(ty 80).size=2:=rfl
@[simp] theorem RV:(ty 81).size=1:=rfl
@[simp] theorem RX:(ty 99).size=1:=rfl
@[simp] theorem Og:(ty 100).size=2:=rfl
@[simp] theorem Oh:(ty 102).size=1:=rfl
@[simp] theorem Oi:(ty 103).size=1:=rfl
@[simp] theorem Oj:(ty 110).size=1:=rfl
@[simp] theorem Ol:(ty 113).size=1:=rfl
@[simp] theorem Om:(ty 115).size=1:=rfl
@[simp] theorem On:(ty 116).size=1:=rfl
@[simp] theorem Oo:(ty 118).size=1:=rfl
@[simp] theorem Oq:(ty 119).size=1:=rfl
@[simp] theorem Ot:(ty 125).size=1:=rfl
@[simp] theorem Ou:(ty 128).size=1:=rfl
@[simp] theorem Ov:(ty 130).size=64:=rfl
@[simp] theorem Ow:(ty 138).size=1:=rfl
@[simp] theorem Ox:(ty 142).size=1:=rfl

theorem mixed:Tryd.prog.follows .mixedOrders=true:=by kernel_rfl
end Go.Proofs.YtpdljmohhpbkpaaDoor
