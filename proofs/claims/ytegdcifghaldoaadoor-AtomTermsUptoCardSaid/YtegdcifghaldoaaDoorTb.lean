/- Contracts of functions and plain facts, part 2. -/
import Derived.OrdersHeld
import Derived.StillTail
import Derived.Deep.Quiet
import Derived.Scope
import Derived.RangeFuncNested
import Derived.ProofKit
import Derived.OpenShut
import Derived.Deep.Slices
import Derived.Deep.DeepHandedRow
import Derived.Lib.LaidTab
import Derived.ChangeSame
import Derived.Test.YtegdcifghaldoaaDoorProg
import Derived.Test.YtegdcifghaldoaaDoorTa
namespace Go.Ab
set_option linter.all false
open Go.RowKit

def z6u(P:Program)(f:FuncId):Prop:=∀ args w,(callFunc f args).run P w= .ok (.enter f args) w
theorem z07{P:Program}{f:FuncId}{fn:Func}(hf:P.funcs[f]? =some fn)(hn:(fn.name== "runtime.NumGoroutine")=false) (hb:fn.body.isNone=false):z6u P f:=fun args w=>by
 have h1:¬ (fn.name= "runtime.NumGoroutine"):=by simpa using hn
 have h2:¬ (fn.body=none):=by intro e;simp[e]at hb
 simp[callFunc,hf,h1,h2]

structure GrowI(I:Nat→Prop)(w:World)(I':Nat→Prop)(w':World):Prop where
 same:Same w w'
 le:∀ b,I b→I' b
 new:∀ b,I' b→I b∨w.heap.size≤b
 lt:∀ b,I' b→b< w'.heap.size

def noVal:Val:=fun _=>none
def ArgsD(I:Nat→Prop)(w:World)(vs:List SV)(xs:List Value):Prop:=
 xs.length=vs.length∧∀ (j:Nat) v,vs[j]? =some v→∃ x,xs[j]? =some x∧v.rel noVal I w x∧v.low 0

abbrev QSpec:=List SV→(SV→Prop)→Prop
abbrev OSpec:=List SV→(TypeId→Nat→Nat→Cont→Prop)→Prop
abbrev GSpec:=List SV→Heap→Nat→(SV→Heap→Nat→Prop)→Prop

def z11(P:Program)(glob:Nat→Option Cont)(f:FuncId)(q:QSpec):Prop:=
 ∀ (vs:List SV) (K:SV→Prop),q vs K→∃ v,K v∧v.flat=true∧∀ (I:Nat→Prop) (w:World) (xs:List Value),z26 glob I w→(∀ b,I b→b< w.heap.size)→ArgsD I w vs xs→
  Calls P f xs.toArray w fun e w'=>e= .returned v.val∧Same w w'
def z3u(P:Program)(glob:Nat→Option Cont)(f:FuncId)(q:QSpec):Prop:=
 ∀ (vs:List SV) (K:SV→Prop),q vs K→∃ v,K v∧v.low 0∧∀ (I:Nat→Prop) (w:World) (xs:List Value),z26 glob I w→(∀ b,I b→b< w.heap.size)→ArgsD I w vs xs→
  Calls P f xs.toArray w fun e w'=>∃ x I',e= .returned x∧v.rel noVal I' w' x∧GrowI I w I' w'
def OwnRow(I:Nat→Prop)(w:World)(I':Nat→Prop)(w':World)(t:TypeId)(s len:Nat)(c:Cont)(x:Value):Prop:=
 ∃ ad cap o,x= .slice (ad.map fun b=>⟨b,o,none⟩) len cap∧(o=0∨cap=0)∧len≤cap∧c.len=len*s∧(SObj.own t c (cap*s)).Holds noVal I' w' ad∧∀ b,ad=some b→w.heap.size≤b∧¬ I' b
def OwnOK(P:Program)(glob:Nat→Option Cont)(f:FuncId)(q:OSpec):Prop:=
 ∀ (vs:List SV) (K:TypeId→Nat→Nat→Cont→Prop),q vs K→∃ t s len c,K t s len c∧c.low 0∧∀ (I:Nat→Prop) (w:World) (xs:List Value),z26 glob I w→(∀ b,I b→b< w.heap.size)→ArgsD I w vs xs→
  Calls P f xs.toArray w fun e w'=>∃ x I',e= .returned x∧OwnRow I w I' w' t s len c x∧GrowI I w I' w'
def GenOK(P:Program)(glob:Nat→Option Cont)(f:FuncId)(s:GSpec):Prop:=
 ∀ (C:CC) (β:Val) (n:Nat) (H:Heap) (I:Nat→Prop) (w:World) (vs:List SV) (xs:List Value) (K:SV→Heap→Nat→Prop),z26 glob I w→HeapOK C β n H I w→xs.length=vs.length→(∀ (j:Nat) v,vs[j]? =some v→∃ x,xs[j]? =some x∧v.rel β I w x∧v.low n)→s vs H n K→
  Calls P f xs.toArray w fun e w'=>∃ x,e= .returned x∧After C β n I w K x w'

inductive Spec
 |flat (q:QSpec)
 |data (q:QSpec)
 |own (q:OSpec)
 |ownD (q:OSpec)
 |gen (s:GSpec)
def Spec.OK(P:Program)(glob:Nat→Option Cont)(f:FuncId):Spec→Prop
 | .flat q=>z6u P f∧z11 P glob f q
 | .data q=>z6u P f∧z3u P glob f q
 | .own q=>z6u P f∧OwnOK P glob f q
 | .ownD q=>z6u P f∧OwnOK P glob f q
 | .gen s=>z6u P f∧GenOK P glob f s

def z3n:List (FuncId×Spec)→FuncId→Option Spec
 |[],_=>none
 |(g,s)::l,f=>if g=f then some s else z3n l f

structure Ctx where
 P:Program
 ty:Nat→Ty
 glob:Nat→Option Cont
 fs:List (FuncId×Spec)

def zb3(P:Program)(glob:Nat→Option Cont):List (FuncId×Spec)→Prop
 |[]=>True
 |(f,s)::l=>s.OK P glob f∧zb3 P glob l
structure Ctx.OK(Γ:Ctx):Prop where
 ty:TyOK Γ.P Γ.ty
 fs:zb3 Γ.P Γ.glob Γ.fs
 mixed:Γ.P.follows .mixedOrders=true

theorem zb3.look{P:Program}{glob:Nat→Option Cont}:∀ {l:List (FuncId×Spec)} {f:FuncId} {s:Spec},zb3 P glob l→z3n l f=some s→s.OK P glob f
 |[],_,_,_,h=>by cases h
 |(g,s')::l,f,s,hl,h=>by
  simp only[z3n]at h
  split at h
  ·rename_i e;cases h;subst e;exact hl.1
  ·exact zb3.look hl.2 h

def Cell.isD:Cell→Prop
 | .ptr _ _| .slice _ _ _ _| .map _=>False
 | .clo _ caps=>∀ x∈caps,x.pureB=true∧∀ g l,x≠ .clo g l
 |_=>True
def allD:List Cell→Prop
 |[]=>True
 |x::l=>x.isD∧allD l
def Cont.isD:Cont→Prop
 | .cells l=>allD l
 |_=>True

def viewC(ty:Nat→Ty)(H:Heap)(x:Cell)(K:Cell→Prop):Prop:=
 match x with
 | .slice id off len _=>match H.get id with
  |some (.own t c _)=>c.isD∧(len=0→(ty t).size*len=0)∧off+len*(ty t).size≤c.len∧0< (ty t).size∧z6p c off (len*(ty t).size) fun c=>K (.ds len c)
  |_=>False
 | .ptr id off=>match H.get id with
  |some (.own _ c _)=>c.isD∧off< c.len∧K (.dp c off)
  |_=>False
 | .map _=>False
 |x=>K x
def viewL(ty:Nat→Ty)(H:Heap):List Cell→(List Cell→Prop)→Prop
 |[],K=>K []
 |x::l,K=>viewC ty H x fun x'=>viewL ty H l fun l'=>K (x'::l')
def view1(ty:Nat→Ty)(H:Heap)(x:Cell)(K:Cell→Prop):Prop:=
 match x with
 | .clo f caps=>(∀ x∈caps,∀ g l,x≠Cell.clo g l)∧viewL ty H caps fun l=>K (.clo f l)
 |x=>viewC ty H x K
def viewV(ty:Nat→Ty)(H:Heap)(v:SV)(K:SV→Prop):Prop:=
 match v with
 | .c x=>view1 ty H x fun y=>K (.c y)
 | .agg (.cells l)=>(∀ x∈l,∀ g cs,x≠Cell.clo g cs)∧viewL ty H l fun l'=>K (.agg (.cells l'))
 | .agg k=>K (.agg k)
 | .tup _=>False
def viewS(ty:Nat→Ty)(H:Heap):List SV→(List SV→Prop)→Prop
 |[],K=>K []
 |v::vs,K=>viewV ty H v fun v'=>viewS ty H vs fun vs'=>K (v'::vs')

def Cell.ids:Cell→List Nat
 | .slice id _ _ _| .ptr id _=>[id]
 | .clo _ caps=>caps.flatMap fun| .slice id _ _ _| .ptr id _=>[id]|_=>[]
 |_=>[]
def SV.ids:SV→List Nat
 | .c x=>x.ids
 | .agg (.cells l)=>l.flatMap Cell.ids
 |_=>[]
def Heap.delAll:Heap→List Nat→Heap
 |H,[]=>H
 |H,i::is=>Heap.delAll (H.del i) is
theorem Heap.get_delAll:∀ (is:List Nat) (H:Heap) (j:Nat),(H.delAll is).get j=if j∈is then none else H.get j
 |[],H,j=>by simp[Heap.delAll]
 | i::is,H,j=>by
  rw[Heap.delAll,Heap.get_delAll is,Heap.get_del]
  by_cases h1:j∈is
  ·simp[h1]
  ·by_cases h2:i=j
   ·subst h2;simp
   ·simp[h1,h2,Ne.symm h2]

section
variable {P:Program} {C:CC} {β:Val} {n:Nat} {H:Heap} {I:Nat→Prop} {w:World} {ty:Nat→Ty}

def z1b(β:Val)(H:Heap)(is:List Nat)(I:Nat→Prop)(b:Nat):Prop:=I b∨∃ id o,id∈is∧H.get id=some o∧β id=some b

theorem zii:∀ {l:List Cell},allD l→∀ x∈l,x.isD
 |[],_,x,hx=>by cases hx
 |y::l,h,x,hx=>by
  rcases List.mem_cons.1 hx with rfl|hx
  ·exact h.1
  ·exact zii h.2 x hx
theorem Cont.isD_get{c:Cont}(h:c.isD){j:Nat}(hj:j< c.len):(c.get j).isD:=by
 cases c with
 |cells l=>exact zii h _ (z2g hj)
 |_=>trivial

theorem Cell.rel_D{x:Cell}(hx:x.isD){v:Value}(h:x.rel β I w v):CellD I w x v:=by
 rcases Cell.clo_or x with⟨f,caps,rfl⟩|hc
 ·obtain⟨g,rfl,hg⟩:=h
  refine .clo f caps g fun j hj=>?_
  have h1:=hg j hj
  have h2:=(hx _ (z2g (d:=.nils) hj)).1
  generalize caps.getD j .nils=y at h1 h2
  cases y<;>first|exact h1|(simp[Cell.pureB]at h2)
 ·rw[Cell.rel_eq hc]at h
  cases x<;>first|exact h|exact hx.elim

theorem Cont.rel_D{c:Cont}(hc:c.isD){b off:Nat}(hI:I b)(h:z37 β I w c b off):DatAt I w c b off:=
 ⟨hI,fun j hj=>let ⟨u,h1,h2⟩:=h j hj;⟨u,h1 w (Below.refl _ _),Cell.rel_D (Cont.isD_get hc hj) h2⟩⟩

theorem z37.widen{I':Nat→Prop}(hI:∀ b,I b→I' b){c:Cont}(hl:c.low n){b off:Nat}(h:z37 β I w c b off):z37 β I' w c b off:=
 fun j hj=>let ⟨u,h1,h2⟩:=h j hj;⟨u,h1,Cell.rel_mono (n:=n) (fun _ _=>rfl) (Ext.widen hI) (Cont.get_low hl j) h2⟩

theorem z67{is:List Nat}(hH:HeapOK C β n H I w){x:Cell}(hxl:x.low n)(hnc:∀ g l,x≠ .clo g l)(his:∀ i∈x.ids,i∈is){v:Value}(hx:x.rel β I w v){K:Cell→Prop}(h:viewC ty H x K):
  ∃ y,K y∧CellD (z1b β H is I) w y v∧y.pureB=true∧∀ g l,y≠ .clo g l:=by
 have hI:∀ b,I b→z1b β H is I b:=fun b h=>.inl h
 unfold viewC at h
 split at h
 ·rename_i id off len cap
  split at h
  ·rename_i t c capc hid
   obtain⟨hd,_,hle,hs,hK'⟩:=h
   have hK:K (.ds len (if off=0∧c.len=len*(ty t).size then c else c.sub off (len*(ty t).size))):=by
    unfold z6p at hK'
    split at hK'<;>rename_i hz
    ·rw[if_pos hz];exact hK'
    ·rw[if_neg hz];exact hK'
   obtain⟨hlc,off',hv,hoff⟩:=hx;refine⟨_,hK,?_,rfl,by simp⟩
   have hlow:=(hH.low id _ hid).2
   by_cases h0:len=0
   ·subst h0
    have:∀ k:Cont,k.len=0→CellD (z1b β H is I) w (.ds 0 k) v:=fun k hk=>by rw[hv];exact .ds0 k _ _ hk
    split
    ·rename_i hz;exact this c (by simpa using hz.2)
    ·exact this _ (by rw[Cont.sub_len];simp)
   ·have ho:off'=off:=by rcases hoff with h|h<;>omega
    subst ho
    have hpos:0< len*(ty t).size:=Nat.mul_pos (by omega) hs
    obtain⟨b,hb,hc⟩:=hH.cellsAt hid (off:=off') (by omega)
    have hIb:z1b β H is I b:=.inr ⟨id,_,his id (by simp[Cell.ids]),hid,hb⟩
    have hda:=Cont.rel_D hd hIb (hc.widen hI hlow)
    have hv':v= .slice (some ⟨b,off',none⟩) len cap:=by rw[hv];simp[place,hb]
    rw[hv']
    split
    ·rename_i hz
     rw[hz.1];exact hda.ds hlc (fun h=>by omega)
    ·have:=hda.sub hle
     rw[Nat.zero_add]at this;exact this.ds hlc (fun h=>by rw[Cont.sub_len]at h;omega)
  ·exact h.elim
 ·rename_i id off
  split at h
  ·rename_i t c capc hid
   obtain⟨hd,hle,hK⟩:=h;obtain⟨b,hb,hc⟩:=hH.cellsAt hid hle
   have hv:v= .pointer (place β id off):=hx
   refine⟨_,hK,?_,rfl,by simp⟩
   have hda:=Cont.rel_D hd (.inr ⟨id,_,his id (by simp[Cell.ids]),hid,hb⟩:z1b β H is I b) (hc.widen hI (hH.low id _ hid).2)
   have:=hda.dp hle
   rw[Nat.zero_add]at this;rw[hv]
   simpa [place,hb]using this
  ·exact h.elim
 ·exact h.elim
 ·rename_i h1 h2 h3
  have hp:x.pureB=true:=by
   cases x<;>first|rfl|exact absurd rfl (h1 _ _ _ _)|exact absurd rfl (h2 _ _)|exact absurd rfl (h3 _)
  rw[Cell.rel_eq hnc]at hx;refine⟨x,h,?_,hp,hnc⟩
  have:CellD I w x v:=by cases x<;>first|exact hx|(simp[Cell.pureB]at hp)
  exact this.mono (Ext.widen hI)

theorem z7r{is:List Nat}(hH:HeapOK C β n H I w):∀ {l:List Cell} {g:Nat→Value} {K:List Cell→Prop},(∀ x∈l,x.low n)→(∀ x∈l,∀ g cs,x≠ .clo g cs)→(∀ x∈l,∀ i∈x.ids,i∈is)→(∀ j,j< l.length→(l.getD j .nils).rel β I w (g j))→viewL ty H l K→
  ∃ l',K l'∧l'.length=l.length∧∀ j,j< l.length→CellD (z1b β H is I) w (l'.getD j .nils) (g j)∧(l'.getD j .nils).pureB=true∧∀ g cs,l'.getD j .nils≠ .clo g cs
 |[],g,K,_,_,_,_,h=>⟨[],h,rfl,fun j hj=>absurd hj (Nat.not_lt_zero j)⟩
 |x::l,g,K,hl,hnc,his,hr,h=>by
  obtain⟨y,h,hy,hyp,hync⟩:=z67 hH (hl x (List.mem_cons_self ..)) (hnc x (List.mem_cons_self ..)) (his x (List.mem_cons_self ..)) (hr 0 (by simp)) h;obtain⟨l',hK,hll,hrel⟩:=z7r (g:=fun j=>g (j+1)) hH (fun x hx=>hl x (List.mem_cons_of_mem _ hx)) (fun x hx=>hnc x (List.mem_cons_of_mem _ hx)) (fun x hx=>his x (List.mem_cons_of_mem _ hx)) (fun j hj=>by have:=hr (j+1) (by simp;omega);simpa using this) h;refine⟨y::l',hK,by simp[hll],fun j hj=>?_⟩
  cases j with
  |zero=>exact⟨hy,hyp,hync⟩
  |succ j=>have:=hrel j (by simp at hj;omega);simpa using this

theorem zij{x:Cell}(h:x.pureB=true)(hc:∀ g cs,x≠ .clo g cs):x.low 0:=by
 rw[Cell.low_eq hc];exact Cell.pure_low1 h

theorem zgr{is:List Nat}(hH:HeapOK C β n H I w){v:SV}(hvl:v.low n)(his:∀ i∈v.ids,i∈is){x:Value}(hx:v.rel β I w x){K:SV→Prop}(h:viewV ty H v K):
  ∃ u,K u∧u.rel noVal (z1b β H is I) w x∧u.low 0:=by
 unfold viewV at h
 split at h
 ·rename_i y
  unfold view1 at h
  split at h
  ·rename_i f caps
   obtain⟨hnc,h⟩:=h;obtain⟨g,rfl,hg⟩:=hx
   obtain⟨l',hK,hll,hr⟩:=z7r (is:=is) (g:=g) hH (fun z hz=>by rw[Cell.low_eq (hnc z hz)];exact hvl z hz) hnc (fun z hz i hi=>his i (by
    simp only[SV.ids,Cell.ids,List.mem_flatMap]
    refine⟨z,hz,?_⟩
    cases z<;>first|exact hi|exact absurd rfl (hnc _ hz _ _)|(simp[Cell.ids]at hi))) (fun j hj=>by
     have:=hg j hj
     rwa [←Cell.rel_eq (hnc _ (z2g hj))]at this) h
   refine⟨_,hK,⟨g,by rw[hll],fun j hj=>?_⟩,fun z hz=>?_⟩
   ·have:=(hr j (by omega)).1
    exact Cell.rel1_of this
   ·obtain⟨j,hj,rfl⟩:=List.mem_iff_getElem.1 hz
    have:=(hr j (by omega)).2
    rw[List.getD_eq_getElem?_getD,List.getElem?_eq_getElem hj,Option.getD_some]at this;exact Cell.pure_low1 this.1
  ·rename_i hnc
   obtain⟨z,hK,hz,hp,hznc⟩:=z67 (is:=is) hH hvl (fun g l e=>hnc g l e) his hx h;exact⟨_,hK,Cell.rel_of hz,zij hp hznc⟩
 ·rename_i l
  obtain⟨hnc,h⟩:=h;obtain⟨vs,rfl,hl,hr⟩:=hx
  obtain⟨l',hK,hll,hr'⟩:=z7r (is:=is) (g:=fun j=>vs.getD j undef) hH hvl hnc (fun z hz i hi=>his i (by simp only[SV.ids,List.mem_flatMap];exact⟨z,hz,hi⟩)) (fun j hj=>by
   obtain⟨u,hu,hru⟩:=hr j hj
   rw[List.getD_eq_getElem?_getD (l:=vs),hu];exact hru) h
  refine⟨_,hK,⟨vs,rfl,by rw[hl];exact hll.symm,fun j hj=>?_⟩,fun z hz=>?_⟩
  ·simp only[Cont.len]at hj
   obtain⟨u,hu,_⟩:=hr j (by simp only[Cont.len];omega)
   have:=(hr' j (by omega)).1
   rw[List.getD_eq_getElem?_getD (l:=vs),hu,Option.getD_some]at this;exact⟨u,hu,Cell.rel_of this⟩
  ·obtain⟨j,hj,rfl⟩:=List.mem_iff_getElem.1 hz
   have:=(hr' j (by omega)).2
   rw[List.getD_eq_getElem?_getD,List.getElem?_eq_getElem hj,Option.getD_some]at this;exact zij this.1 this.2
 ·rename_i k hk
  obtain⟨vs,rfl,hr⟩:=hx
  have hf:k.flat=true:=by cases k<;>first|rfl|exact absurd rfl (hk _)
  exact⟨_,h,⟨vs,rfl,(Cont.rel_flat hf).2 ((Cont.rel_flat hf).1 hr)⟩,Cont.flat_low hf⟩
 ·exact h.elim

theorem zb4{is:List Nat}(hH:HeapOK C β n H I w):∀ {vs:List SV} {xs:List Value} {K:List SV→Prop},xs.length=vs.length→(∀ (j:Nat) v,vs[j]? =some v→∃ x,xs[j]? =some x∧v.rel β I w x∧v.low n)→(∀ v∈vs,∀ i∈v.ids,i∈is)→viewS ty H vs K→
  ∃ us,K us∧ArgsD (z1b β H is I) w us xs
 |[],xs,K,hl,_,_,h=>⟨[],h,hl,fun j v hv=>by simp at hv⟩
 |v::vs,[],K,hl,_,_,h=>by simp at hl
 |v::vs,x::xs,K,hl,hr,his,h=>by
  obtain⟨y,hy,hry,hlow⟩:=hr 0 v rfl
  simp only[List.getElem?_cons_zero,Option.some.injEq]at hy
  subst hy;obtain⟨u,h,hu,hul⟩:=zgr (is:=is) hH hlow (his v (List.mem_cons_self ..)) hry h;obtain⟨us,hK,hul',hus⟩:=zb4 (xs:=xs) hH (by simpa using hl) (fun j v hv=>by have:=hr (j+1) v (by simpa using hv);simpa using this) (fun v hv=>his v (List.mem_cons_of_mem _ hv)) h;refine⟨u::us,hK,by simp[hul'],fun j v' hv'=>?_⟩
  cases j with
  |zero=>simp only[List.getElem?_cons_zero,Option.some.injEq]at hv';subst hv';exact⟨x,rfl,hu,hul⟩
  |succ j=>have:=hus j v' (by simpa using hv');simpa using this

theorem SV.noVal_rel{v:SV}(hl:v.low 0){x:Value}(h:v.rel noVal I w x):v.rel β I w x:=SV.rel_mono (n:=0) (fun i hi=>absurd hi (Nat.not_lt_zero i)) (Ext.refl _ _) hl h

theorem z3f(hH:HeapOK C β n H I w){is:List Nat}:∀ b,z1b β H is I b→b< w.heap.size:=by
 rintro b (h|⟨id,o,_,ho,hb⟩)
 ·exact hH.ilt b h
 ·exact(hH.holds id o ho).lt hb

theorem zev(hH:HeapOK C β n H I w){is:List Nat}{I':Nat→Prop}{w':World}(hg:GrowI (z1b β H is I) w I' w'):Ext I w I' w'∧HeapOK C β n (H.delAll is) I' w':=by
 refine⟨fun b hb=>⟨hg.le b (.inl hb),hg.same.block b (hH.ilt b hb)⟩,?_⟩
 have h1:=(hH.later hg.same).sub (H':=H.delAll is) fun id o ho=>by
  rw[Heap.get_delAll]at ho
  split at ho
  ·cases ho
  ·exact ho
 refine h1.widen (fun b hb=>hg.le b (.inl hb)) hg.lt (fun id o ho b hb hI=>?_) (fun b hb=>?_)
 ·rw[Heap.get_delAll]at ho
  split at ho
  ·cases ho
  ·rename_i hni
   rcases hg.new b hI with(h|⟨id',o',hi',ho',hb'⟩)|h
   ·exact hH.off id o ho b hb h
   ·exact hH.sep id id' o o' (fun e=>hni (e▸hi')) ho ho' b hb hb'
   ·have:=(hH.holds id o ho).lt hb;omega
 ·rcases hg.new b hb with(h|⟨id',o',hi',ho',hb'⟩)|h
  ·exact hH.i0 b h
  ·exact .inr (hH.fresh id' o' ho' b hb')
  ·exact .inr (.inl (Nat.le_trans hH.size h))
theorem zkt(hH:HeapOK C β n H I w){is:List Nat}{v:SV}{x:Value}{I':Nat→Prop}{w':World}(hv:v.rel noVal I' w' x)(hl:v.low 0)(hg:GrowI (z1b β H is I) w I' w'){K:SV→Heap→Nat→Prop}(hK:K v (H.delAll is) n):z6h C β n I w K x w':=
 let ⟨hE,hH'⟩:=zev hH hg
 ⟨hg.same,v,_,n,β,I',hK,SV.noVal_rel hl hv,SV.low_mono (Nat.zero_le _) hl,Nat.le_refl _,fun _ _=>rfl,hE,hH'⟩
end
end Go.Ab

namespace Go.Ab
set_option linter.all false
open Go.RowKit
section
variable {P:Program} {C:CC} {β:Val} {n:Nat} {H:Heap} {I:Nat→Prop} {w:World} {E:Env} {a:Act} {Γ:Ctx}

def callG(Γ:Ctx)(f:FuncId)(vs:List SV)(H:Heap)(n:Nat)(K:SV→Heap→Nat→Prop):Prop:=
 match z3n Γ.fs f with
 |some (.flat q)=>viewS Γ.ty H vs fun us=>q us fun v=>K v H n
 |some (.data q)=>viewS Γ.ty H vs fun us=>q us fun v=>K v (H.delAll (vs.flatMap SV.ids)) n
 |some (.own q)=>viewS Γ.ty H vs fun us=>q us fun t s len c=>c.flat=true∧∀ cap,len≤cap→K (.c (.slice n 0 len cap)) ((n,.own t c (cap*s))::H) (n+1)
 |some (.ownD q)=>viewS Γ.ty H vs fun us=>q us fun t s len c=>∀ cap,len≤cap→K (.c (.slice n 0 len cap)) ((n,.own t c (cap*s))::H.delAll (vs.flatMap SV.ids)) (n+1)
 |_=>False

def z7s(x:SV)(vs:List SV)(K:FuncId→List SV→Prop):Prop:=
 match x with
 | .c (.clo f caps)=>if f< 1000000 then K f (vs++caps.map .c)else K (f - 1000000) (.agg (.cells caps)::vs)
 |_=>False

def z4l(β:Val)(n:Nat)(I:Nat→Prop)(w:World)(vs:List SV)(xs:List Value):Prop:=
 xs.length=vs.length∧∀ (j:Nat) v,vs[j]? =some v→∃ x,xs[j]? =some x∧v.rel β I w x∧v.low n

theorem zgs{caps:List Cell}{g:Nat→Value}(hg:∀ j,j< caps.length→(caps.getD j .nils).rel1 β I w (g j))(hxl:∀ x∈caps,x.low1 n){j:Nat}{y:Cell}(hy:caps[j]? =some y):y.rel β I w (g j)∧y.low n:=by
 have hlt:j< caps.length:=(List.getElem?_eq_some_iff.1 hy).1
 have h1:=hg _ hlt
 rw[List.getD_eq_getElem?_getD,hy,Option.getD_some]at h1
 have hy':y.low1 n:=hxl y (List.mem_of_getElem? hy)
 rcases Cell.clo_or y with⟨f',cs',rfl⟩|hnc
 ·exact⟨Cell.rel_of (show CellD I w _ _ from h1),CellD.low (show CellD I w _ _ from h1)⟩
 ·refine⟨?_,?_⟩
  ·rw[Cell.rel_eq hnc];exact h1
  ·rw[Cell.low_eq hnc];exact hy'
theorem z50{x:SV}{v:Value}(hx:x.rel β I w v)(hxl:x.low n){vs:List SV}{xs:List Value}(hr:z4l β n I w vs xs){K:FuncId→List SV→Prop}(h:z7s x vs K):
  ∃ f vs' fi cs,K f vs'∧v= .func (.func f) fi cs∧z4l β n I w vs' (fi.toList++xs++cs.toList):=by
 unfold z7s at h
 split at h
 ·rename_i f caps
  obtain⟨g,rfl,hg⟩:=hx
  split at h<;>rename_i hlt
  ·refine⟨f,_, #[],_,h,zao hlt _,by simp[hr.1],fun j v hv=>?_⟩
   simp only[List.nil_append]
   by_cases hj:j< vs.length
   ·rw[List.getElem?_append_left hj]at hv
    obtain⟨y,hy,h2⟩:=hr.2 j v hv;exact⟨y,by rw[List.getElem?_append_left (by rw[hr.1];exact hj)];exact hy,h2⟩
   ·rw[List.getElem?_append_right (by omega),List.getElem?_map]at hv
    obtain⟨y,hy,rfl⟩:=Option.map_eq_some_iff.1 hv
    have hlt:j - vs.length< caps.length:=(List.getElem?_eq_some_iff.1 hy).1
    have hc:=zgs hg hxl hy
    refine⟨g (j - vs.length),?_,hc.1,hc.2⟩;rw[List.getElem?_append_right (by rw[hr.1];omega),hr.1]
    simp[hlt]
  ·refine⟨f - 1000000,_, #[.agg ((List.range caps.length).map g).toArray], #[],h,by unfold cloV;rw[if_neg hlt],by simp[hr.1],fun j v hv=>?_⟩
   match j,hv with
   | 0,hv=>
    obtain rfl:SV.agg (.cells caps)=v:=by simpa using hv
    refine⟨_,rfl,⟨_,rfl,by simp[Cont.len],fun j hj=>?_⟩,fun y hy=>?_⟩
    ·have hj':j< caps.length:=hj
     refine⟨g j,by simp[hj'],?_⟩;exact(zgs hg hxl (show caps[j]? =some (caps.getD j .nils) by rw[List.getD_eq_getElem?_getD,List.getElem?_eq_getElem hj'];rfl)).1
    ·obtain⟨j,hj,rfl⟩:=List.mem_iff_getElem.1 hy
     exact(zgs hg hxl (List.getElem?_eq_getElem hj)).2
   |j+1,hv=>
    obtain⟨y,hy,h2⟩:=hr.2 j v (by simpa using hv);exact⟨y,by simpa using hy,h2⟩
 ·exact h.elim
theorem zcc{f0:FuncId}{caps:List Cell}(hlt:f0< 1000000){v:Value}(hx:(SV.c (.clo f0 caps)).rel β I w v)(hxl:(SV.c (.clo f0 caps)).low n):
  ∃ cs,v= .func (.func f0) #[] cs∧z4l β n I w (caps.map .c) cs.toList:=by
 obtain⟨f,vs',fi,cs,h,hv,hr⟩:=z50 hx hxl (vs:=[]) (xs:=[]) ⟨rfl,fun j v hv=>by simp at hv⟩ (K:=fun f vs=>f=f0∧vs=caps.map .c) (by
  show(if f0< 1000000 then _ else _)
  rw[if_pos hlt]
  exact⟨rfl,rfl⟩)
 obtain⟨rfl,rfl⟩:=h;obtain⟨g,hg,_⟩:=hx;rw[hg,zao hlt]at hv
 injection hv with e1 e2 e3
 subst e2;refine⟨cs,by rw[hg,zao hlt,e3],?_⟩
 simpa using hr

theorem z5n(hH:HeapOK C β n H I w){vs:List SV}{xs:List Value}(hr:z4l β n I w vs xs){ty:Nat→Ty}{K:List SV→Prop}(h:viewS ty H vs K):∃ us,K us∧ArgsD (z1b β H (vs.flatMap SV.ids) I) w us xs:=
 zb4 hH hr.1 hr.2 (fun v hv i hi=>List.mem_flatMap.2 ⟨v,hv,hi⟩) h

theorem own_flat{t:TypeId}{c:Cont}{cap:Nat}{β':Val}{I':Nat→Prop}{w':World}{ad:Option Nat}(hf:c.flat=true)(h:(SObj.own t c cap).Holds β I w' ad):(SObj.own t c cap).Holds β' I' w' ad:=by
 rcases h with⟨b,arr,h1,h2,h3,h4,h5⟩|h
 ·exact .inl ⟨b,arr,h1,h2,h3,h4,(Cont.rel_flat hf).2 ((Cont.rel_flat hf).1 h5)⟩
 ·exact .inr h

theorem zb5(hΓ:Γ.OK)(hG:z26 Γ.glob I w)(hH:HeapOK C β n H I w){f:FuncId}{vs:List SV}{xs:List Value}(hr:z4l β n I w vs xs){K:SV→Heap→Nat→Prop}(h:callG Γ f vs H n K):
  z6u Γ.P f∧Calls Γ.P f xs.toArray w fun e w'=>∃ x,e= .returned x∧z6h C β n I w K x w':=by
 have hGi:z26 Γ.glob (z1b β H (vs.flatMap SV.ids) I) w:=hG.mono (Ext.widen fun b h=>.inl h)
 unfold callG at h
 split at h
 ·rename_i q hq
  obtain⟨hen,hok⟩:=hΓ.fs.look hq;obtain⟨us,h,hargs⟩:=z5n hH hr h;obtain⟨v,hK,hf,hc⟩:=hok us _ h;refine⟨hen,(hc _ w xs hGi (z3f hH) hargs).mono ?_⟩
  rintro e w' ⟨rfl,hs⟩
  exact⟨_,rfl,hs,v,H,n,β,I,hK,(SV.rel_flat hf).2 rfl,SV.flat_low hf,Nat.le_refl _,fun _ _=>rfl,hH.ext hs,hH.later hs⟩
 ·rename_i q hq
  obtain⟨hen,hok⟩:=hΓ.fs.look hq;obtain⟨us,h,hargs⟩:=z5n hH hr h;obtain⟨v,hK,hl,hc⟩:=hok us _ h;refine⟨hen,(hc _ w xs hGi (z3f hH) hargs).mono ?_⟩
  rintro e w' ⟨x,I',rfl,hv,hg⟩
  exact⟨_,rfl,zkt hH hv hl hg hK⟩
 ·rename_i q hq
  obtain⟨hen,hok⟩:=hΓ.fs.look hq;obtain⟨us,h,hargs⟩:=z5n hH hr h;obtain⟨t,s,len,c,⟨hf,hK⟩,hl,hc⟩:=hok us _ h;refine⟨hen,(hc _ w xs hGi (z3f hH) hargs).mono ?_⟩
  rintro e w' ⟨x,I',rfl,⟨ad,cap,o,rfl,ho,hlc,hcl,hh,hnew⟩,hg⟩
  have hH1:=hH.later hg.same
  refine⟨_,rfl,hg.same,_,_,n+1,upd β n ad,I,hK cap hlc,⟨hlc,o,by simp[place,z2q],ho⟩,Nat.lt_succ_self n,Nat.le_succ _,z54,hH.ext hg.same,?_⟩;refine hH1.name (own_flat hf hh) (Cont.flat_low hf) (fun b hb=>.inl (Nat.le_trans hH.size (hnew b hb).1)) (fun id o ho b hb hb'=>?_) (fun b hb hI=>?_)
  ·have:=(hH.holds id o ho).lt hb
   have:=(hnew b hb').1
   omega
  ·have:=hH.ilt b hI
   have:=(hnew b hb).1
   omega
 ·rename_i q hq
  obtain⟨hen,hok⟩:=hΓ.fs.look hq;obtain⟨us,h,hargs⟩:=z5n hH hr h;obtain⟨t,s,len,c,hK,hl,hc⟩:=hok us _ h;refine⟨hen,(hc _ w xs hGi (z3f hH) hargs).mono ?_⟩
  rintro e w' ⟨x,I',rfl,⟨ad,cap,o,rfl,ho,hlc,hcl,hh,hnew⟩,hg⟩
  obtain⟨hE,hH'⟩:=zev hH hg;refine⟨_,rfl,hg.same,_,_,n+1,upd β n ad,I',hK cap hlc,⟨hlc,o,by simp[place,z2q],ho⟩,Nat.lt_succ_self n,Nat.le_succ _,z54,hE,?_⟩;refine hH'.name (hh.mono (n:=0) (fun i hi=>absurd hi (Nat.not_lt_zero i)) (Ext.refl _ _) hl fun _ _=>rfl) (Cont.low_mono (Nat.zero_le _) hl) (fun b hb=>.inl (Nat.le_trans hH.size (hnew b hb).1)) (fun id o ho b hb hb'=>?_) (fun b hb=>(hnew b hb).2);rw[Heap.get_delAll]at ho
  split at ho
  ·cases ho
  ·have:=(hH.holds id o ho).lt hb
   have:=(hnew b hb').1
   omega
 ·exact h.elim


theorem z3g{D:List Deferred}{glob:Nat→Option Cont}(hE:EnvOK D β n I w E a)(hG:z26 glob I w){xs:List Operand}{K:List SV→Prop}(h:evs glob E xs K):∃ vs,K vs∧z4l β n I w vs (xs.map a.eval):=by
 obtain⟨vs,hK,hlow,hl,hr⟩:=z85 hE hG h;refine⟨vs,hK,by simp[hl],fun j v hv=>?_⟩
 have hj:j< xs.length:=by rw[←hl];exact(List.getElem?_eq_some_iff.1 hv).1
 exact⟨a.eval xs[j],by simp[hj],hr j _ v (List.getElem?_eq_getElem hj) hv,hlow v (List.mem_of_getElem? hv)⟩

theorem z87{o:Oper}{c:Call}{x:Operand}{f:FuncId}{fi cs:Array Value}(ho:o.op= .call c)(hc:c.callee= .value x)(hx:a.eval x= .func (.func f) fi cs)(he:z6u P f):
  (execOp a.eval o).run P w= .ok (.enter f (fi.toList++c.args.toList.map a.eval++cs.toList).toArray) w:=by
 have e:fi++c.args.map a.eval++cs=(fi.toList++c.args.toList.map a.eval++cs.toList).toArray:=by
  apply Array.ext';simp
 simp only[execOp,ho,resolve,hc,hx,Deferred.ofValue,Sem.run_bind,Sem.run_pure,Result.andThen_ok,invoke,e,he _ _]

def growS(Γ:Ctx)(o:Oper)(E:Env)(H:Heap)(n:Nat)(K:SV→Heap→Nat→Prop):Prop:=
 match o.op with
 | .alloc t=>zly Γ.ty t H n K
 | .box t x=>onV (E.ev Γ.glob x) fun v=>boxS v t H n K
 | .buildSlice t len parts=>parts.toList.map (·.1)=List.range len∧evs Γ.glob E (parts.toList.map (·.2)) fun vs=>z7q Γ.ty t len vs H n K
 | .makeSlice t l c=>onI (E.ev Γ.glob l) fun l=>onI (E.ev Γ.glob c) fun c=>makeS Γ.ty t l c H n K
 | .build t parts=>evs Γ.glob E (parts.toList.map (·.2)) fun vs=>zet Γ.ty t ((parts.toList.map (·.1)).zip vs) fun v=>K v H n
 | .makeMap t none=>zih Γ.ty t H n K
 | .convert src dst x=>match Γ.ty src with
  | .str=>onV (E.ev Γ.glob x) fun v=>zb1 Γ.ty src dst v fun v=>K v H n
  |_=>pureS Γ.ty Γ.glob o E H fun v=>K v H n
 | .call c=>match c.callee with
  | .value x=>onV (E.ev Γ.glob x) fun x=>evs Γ.glob E c.args.toList fun vs=>z7s x vs fun f vs=>callG Γ f vs H n K
  |_=>pureS Γ.ty Γ.glob o E H fun v=>K v H n
 |_=>pureS Γ.ty Γ.glob o E H fun v=>K v H n

def genS(Γ:Ctx)(f:FuncId)(vs:List SV)(H:Heap)(n:Nat)(K:SV→Heap→Nat→Prop):Prop:=
 match z3n Γ.fs f with
 |some (.gen s)=>s vs H n K
 |_=>callG Γ f vs H n K

def markS(ty:Nat→Ty)(t:TypeId)(v:SV)(H:Heap)(n:Nat)(K:SV→Heap→Nat→Prop):Prop:=
 match ty t,v with
 | .slice e s _,.c (.slice id off len _)=>match H.get id with
  |some (.own _ (.u8s l) _)=>(ty e= .int .u8∧s=1∧off=0∧len=l.length∧0< len)∧K (.c (.ds len (.u8s l))) (H.del id) n
  |_=>False
 |_,_=>False

theorem Heap.del_sub{id i:Nat}{o:SObj}:∀ {H:Heap},(H.del id).get i=some o→i≠id∧H.get i=some o
 |[],h=>by cases h
 | (j,p)::H,h=>by
  simp only[Heap.del]at h
  by_cases hj:j=id
  ·rw[if_pos hj]at h
   obtain⟨h1,h2⟩:=Heap.del_sub h;refine⟨h1,?_⟩
   simp only[Heap.get]
   rw[if_neg (fun e=>h1 (by rw[←e,hj]))];exact h2
  ·rw[if_neg hj]at h
   simp only[Heap.get]at h ⊢
   by_cases e:j=i
   ·rw[if_pos e]at h ⊢
    exact⟨fun e2=>hj (e.trans e2),h⟩
   ·rw[if_neg e]at h ⊢
    exact Heap.del_sub h

theorem zm2{P:Program}{ty:Nat→Ty}(hT:TyOK P ty)(hH:HeapOK C β n H I w){t:TypeId}{v:SV}{x:Value}(hx:v.rel β I w x){K:SV→Heap→Nat→Prop}(h:markS ty t v H n K):
  ∃ u w',(convert t t x).run P w= .ok u w'∧After C β n I w K u w':=by
 unfold markS at h
 split at h
 ·rename_i e s by_ id off len cap ht
  split at h
  ·rename_i te l capc hid
   obtain⟨⟨he,hs1,hoff,hlen,hpos⟩,hK⟩:=h;subst hoff hlen;obtain⟨hlc,off',hv,ho⟩:=hx
   have h0:off'=0:=by rcases ho with h|h<;>omega
   subst h0
   rcases hH.holds id _ hid with⟨b,arr,hb,hw,hsz,hle,hrel⟩|⟨_,h0,_⟩
   ·have hpl:place β id 0=some ⟨b,0,none⟩:=by simp[place,hb]
    rw[hpl]at hv;subst hv
    have hsh:w.shape? b=some (te,arr.size):=by unfold World.shape?;rw[hw]
    have hwb:(w.freeze ⟨b,arr.size,none⟩ 1).heap[b]? =some (.cells arr te (arr.size,arr.size+1)):=by
     unfold World.freeze;rw[if_neg (by decide)]
     simp[Array.getElem?_modify,hw]
    have hoth:∀ k,k≠b→(w.freeze ⟨b,arr.size,none⟩ 1).heap[k]? =w.heap[k]? :=fun k hk=>by
     unfold World.freeze;rw[if_neg (by decide)]
     simp[Array.getElem?_modify,Ne.symm hk]
    have hsize:(w.freeze ⟨b,arr.size,none⟩ 1).heap.size=w.heap.size:=by
     unfold World.freeze;rw[if_neg (by decide)]
     simp
    have hrun:(convert t t (.slice (some ⟨b,0,none⟩) l.length cap)).run P w= .ok (.slice (some ⟨b,0,none⟩) l.length cap) (w.freeze ⟨b,arr.size,none⟩ 1):=by
     simp[convert,run_underlying (hT.slice _ _ _ _ ht).1,run_underlying (hT.int _ _ he),markStringish,hsh]
    obtain⟨w',hw'⟩:∃ w',w.freeze ⟨b,arr.size,none⟩ 1=w':=⟨_,rfl⟩
    have hos:w'.os=w.os:=by rw[←hw'];rfl
    have htape:w'.tape=w.tape:=by rw[←hw'];rfl
    have hout:w'.output=w.output:=by rw[←hw'];rfl
    rw[hw']at hwb hoth hsize hrun
    have hbs:b< w.heap.size:=(hH.holds id _ hid).lt hb
    have hIb:¬ I b:=hH.off id _ hid b hb
    have hE:Ext I w (fun k=>I k∨k=b) w':=fun k hk=>⟨.inl hk,hoth k (fun e=>hIb (e▸hk))⟩
    refine⟨_,w',hrun,.c (.ds l.length (.u8s l)),H.del id,n,β,fun k=>I k∨k=b,hK,?_,trivial,Nat.le_refl _,fun _ _=>rfl,hE,?_⟩
    ·refine DatAt.ds (c:=.u8s l) ⟨.inr rfl,fun j hj=>?_⟩ hlc (fun h=>h)
     simp only[Cont.len]at hj hle hrel
     have hr:=(Cont.rel_flat (c:=.u8s l) rfl).1 hrel
     have hja:j< arr.size:=by omega
     refine⟨arr[j],by rw[Nat.zero_add,cell_of_row w' b j arr te _ hwb];simp[hja],?_⟩
     have e1:arr[j]=(Cell.u8 (l.getD j 0)).val:=by
      have:=congrArg (fun z=>z[j]?) hr
      simp[Cont.vals,Cont.list,hja,hj,List.getElem?_take_of_lt hj]at this
      rw[this]
      simp[List.getD_eq_getElem?_getD,hj]
     rw[e1];exact CellD.flat (.u8 _) rfl
    ·have hne:∀ i o,(H.del id).get i=some o→i≠id∧H.get i=some o:=fun i o h=>Heap.del_sub h
     have hblk:∀ i o,i≠id→H.get i=some o→∀ k,β i=some k→k≠b:=fun i o hi ho k hk e=>hH.sep i id o _ hi ho hid k hk (e▸hb)
     refine⟨hos.trans hH.os,htape.trans hH.tape,hout.trans hH.output,by rw[hsize];exact hH.size,?_,?_,?_,?_,?_,?_,?_,?_,fun k hk=>.inl (hH.base k hk)⟩
     ·intro k hk hF
      rw[hoth k ?_]
      ·exact hH.frame k hk hF
      ·intro e
       rcases hH.fresh id _ hid b hb with h1|h1
       ·omega
       ·exact hF (e▸h1)
     ·intro i o h
      obtain⟨hi,ho⟩:=hne i o h
      have hh:=hH.holds i o ho
      exact hh.mono (n:=n) (fun _ _=>rfl) hE (hH.low i o ho).2 fun k hk=>hoth k (hblk i o hi ho k hk)
     ·intro i o h;exact hH.low i o (hne i o h).2
     ·intro i o h;exact hH.fresh i o (hne i o h).2
     ·intro i j oi oj hij hi hj;exact hH.sep i j oi oj hij (hne i oi hi).2 (hne j oj hj).2
     ·intro i o h k hk hI
      obtain⟨hi,ho⟩:=hne i o h
      rcases hI with h1|h1
      ·exact hH.off i o ho k hk h1
      ·exact hblk i o hi ho k hk h1
     ·intro k hk
      rw[hsize]
      rcases hk with h1|h1
      ·exact hH.ilt k h1
      ·rw[h1];exact hbs
     ·intro k hk
      rcases hk with h1|h1
      ·exact hH.i0 k h1
      ·rw[h1];exact .inr (hH.fresh id _ hid b hb)
   ·simp only[Cont.len]at h0;omega
  ·exact h.elim
 ·exact h.elim

def stepS (Γ:Ctx) (o:Oper) (E:Env) (H:Heap) (n:Nat) (K:SV→Heap→Nat→Prop):Prop:=
 match o.op with
 | .store t x y=>onV (E.ev Γ.glob x) fun x=>onV (E.ev Γ.glob y) fun y=>match x with
  | .c (.ptr id off)=>zlz Γ.ty t id off y H n K
  |_=>False
 | .mapUpdate t m k v=>onV (E.ev Γ.glob m) fun m=>onV (E.ev Γ.glob k) fun k=>onV (E.ev Γ.glob v) fun v=>z4k Γ.ty t m k v H n K
 | .insert t m k v=>onV (E.ev Γ.glob m) fun m=>onV (E.ev Γ.glob k) fun k=>onV (E.ev Γ.glob v) fun v=>z4k Γ.ty t m k v H n K
 | .call c=>match c.callee with
  | .value x=>onV (E.ev Γ.glob x) fun x=>evs Γ.glob E c.args.toList fun vs=>z7s x vs fun f vs=>genS Γ f vs H n K
  | .builtin .append=>match c.args.toList,c.argTypes.toList with
   |[x,y],[t,u]=>onV (E.ev Γ.glob x) fun x=>onV (E.ev Γ.glob y) fun y=>match Γ.ty u with
    | .int _=>zgp Γ.ty t x y H n K
    |_=>zgn Γ.ty t u x y H n K
   |_,_=>False
  |_=>pureS Γ.ty Γ.glob o E H fun v=>K v H n
 | .convert src dst x=>match Γ.ty src,Γ.ty dst with
  | .slice _ _ _,.slice _ _ _=>src=dst∧onV (E.ev Γ.glob x) fun v=>markS Γ.ty src v H n K
  |_,_=>growS Γ o E H n K
 |_=>growS Γ o E H n K

theorem z7t{parts:Array (Nat×Operand)}{vs:List SV}(h:z4l β n I w vs ((parts.toList.map (·.2)).map a.eval)):
  za8 β I w ((parts.toList.map (·.1)).zip vs) (parts.toList.map fun(x:Nat×Operand)=>(x.1,a.eval x.2))∧∀ v∈((parts.toList.map (·.1)).zip vs).map (·.2),SV.low n v:=by
 have hl:vs.length=parts.toList.length:=by rw[←h.1];simp
 refine⟨⟨by simp[hl],fun j i v hj=>?_⟩,fun v hv=>?_⟩
 ·obtain⟨h1,h2⟩:=List.getElem?_zip_eq_some.1 hj
  obtain⟨x,hx,hr,_⟩:=h.2 j v h2
  simp only[List.getElem?_map]at h1 hx ⊢
  obtain⟨q,hq,rfl⟩:=Option.map_eq_some_iff.1 h1;rw[hq]at hx ⊢
  simp only[Option.map_some,Option.some.injEq]at hx ⊢
  exact⟨x,by rw[←hx],hr⟩
 ·rw[List.map_snd_zip (by simp[hl])]at hv
  obtain⟨j,hj,rfl⟩:=List.mem_iff_getElem.1 hv;obtain⟨x,_,_,hlow⟩:=h.2 j _ (List.getElem?_eq_getElem hj);exact hlow

theorem z90{o:Oper}{t:TypeId}{parts:Array (Nat×Operand)}{v:Value}(ho:o.op= .build t parts)(h:(Instr.build t (parts.toList.map fun(x:Nat×Operand)=>(x.1,a.eval x.2)).toArray).run P w= .ok v w):(execOp a.eval o).run P w= .ok (.value v) w:=by
 have e:parts.map (fun(x:Nat×Operand)=>(x.1,a.eval x.2))=(parts.toList.map fun(x:Nat×Operand)=>(x.1,a.eval x.2)).toArray:=by rw[←Array.toList_map,Array.toArray_toList]
 simp only[execOp,ho,e]
 exact z0x _ h

theorem Runs.mono{o:Oper}{R R':Value→World→Prop}(h:Runs P a o w R)(hR:∀ v w',R v w'→R' v w'):Runs P a o w R':=by
 unfold Runs at h ⊢
 split at h
 ·exact hR _ _ h
 ·exact hR _ _ h
 ·exact Calls.mono h fun e w'' ⟨v,he,hr⟩=>⟨v,he,hR _ _ hr⟩
 ·exact h.elim

theorem z7u{D:List Deferred}(hΓ:Γ.OK)(hE:EnvOK D β n I w E a)(hG:z26 Γ.glob I w)(hH:HeapOK C β n H I w){o:Oper}{K:SV→Heap→Nat→Prop}(h:growS Γ o E H n K):Runs Γ.P a o w (z6h C β n I w K):=by
 have pure:pureS Γ.ty Γ.glob o E H (fun v=>K v H n)→Runs Γ.P a o w (z6h C β n I w K):=fun h=>(z65 (P:=Γ.P) hΓ.ty hG hE hH h).runs hH
 unfold growS at h
 split at h
 ·rename_i t ho;exact zkr hΓ.ty hH ho h
 ·rename_i t x ho
  obtain⟨v,hv,hb,h⟩:=z0n hE hG h;exact run_boxS hH ho hv hb h
 ·rename_i t len parts ho
  obtain⟨hp,h⟩:=h;obtain⟨vs,h,hlow,hl,hr⟩:=z85 hE hG h;exact zb0 hΓ.ty hH ho hp ⟨by simpa using hl,hr⟩ hlow h
 ·rename_i t l c ho
  obtain⟨kl,il,hl,h⟩:=z27 hE hG h;obtain⟨kc,ic,hc,h⟩:=z27 hE hG h;obtain⟨v,w',hr,hA⟩:=zm1 (P:=Γ.P) (kl:=kl) (kc:=kc) hΓ.ty hH h;refine Runs.of_value (w':=w') (v:=v) ?_ hA
  simp only[execOp,ho,hl,hc]
  exact congrArg _ (by rfl) |>.trans (by simp[hr])
 ·rename_i t parts ho
  obtain⟨vs,h,hr⟩:=z3g hE hG h;obtain⟨hp,hlow⟩:=z7t hr;obtain⟨v,x,hK,hl,hrel,hrun⟩:=z8z (P:=Γ.P) hΓ.ty hp hlow h;exact Runs.of_value (z90 ho (hrun w)) ⟨Below.refl _ _,v,H,n,β,I,hK,hrel,hl,Nat.le_refl _,fun _ _=>rfl,Ext.refl _ _,hH⟩
 ·rename_i t ho
  exact zeu hH ho h
 ·rename_i src dst x ho
  split at h
  ·obtain⟨v,hv,hb,h⟩:=z0n hE hG h
   obtain⟨u,w',hr,hA⟩:=zdc (P:=Γ.P) hΓ.ty hH hv h;refine Runs.of_value (w':=w') (v:=u) ?_ hA
   simp only[execOp,ho]
   exact congrArg _ (by rfl) |>.trans (by simp[hr])
  ·exact pure h
 ·rename_i c ho
  split at h
  ·rename_i x hc
   obtain⟨vx,hvx,hxl,h⟩:=z0n hE hG h;obtain⟨vs,h,hr⟩:=z3g hE hG h;obtain⟨f,vs',fi,cs,h,hf,hr'⟩:=z50 hvx hxl hr h;obtain⟨he,hcall⟩:=zb5 hΓ hG hH hr' h;unfold Runs;rw[z87 ho hc hf he];exact hcall
  ·exact pure h
 ·exact pure h

theorem z68{D:List Deferred}(hΓ:Γ.OK)(hE:EnvOK D β n I w E a)(hG:z26 Γ.glob I w)(hH:HeapOK C β n H I w){o:Oper}{K:SV→Heap→Nat→Prop}(h:stepS Γ o E H n K):Runs Γ.P a o w (After C β n I w K):=by
 have pure:pureS Γ.ty Γ.glob o E H (fun v=>K v H n)→Runs Γ.P a o w (After C β n I w K):=fun h=>((z65 (P:=Γ.P) hΓ.ty hG hE hH h).runs hH).mono fun _ _ h=>h.2
 unfold stepS at h
 split at h
 ·rename_i t x y ho
  obtain⟨vx,hvx,hbx,h⟩:=z0n hE hG h;obtain⟨vy,hvy,hby,h⟩:=z0n hE hG h
  split at h
  ·exact zks hΓ.ty hH ho hvx hvy hby h
  ·exact h.elim
 ·rename_i t m k v ho
  obtain⟨vm,hvm,hbm,h⟩:=z0n hE hG h;obtain⟨vk,hvk,hbk,h⟩:=z0n hE hG h;obtain⟨vv,hvv,hbv,h⟩:=z0n hE hG h;obtain⟨w',hr,hA⟩:=zb2 (P:=Γ.P) hΓ.ty hH hvm hvk hvv hbk hbv h;exact Runs.of_skip (by simp[execOp,ho,hr]) hA
 ·rename_i t m k v ho
  obtain⟨vm,hvm,hbm,h⟩:=z0n hE hG h;obtain⟨vk,hvk,hbk,h⟩:=z0n hE hG h;obtain⟨vv,hvv,hbv,h⟩:=z0n hE hG h;obtain⟨w',hr,hA⟩:=zb2 (P:=Γ.P) hΓ.ty hH hvm hvk hvv hbk hbv h;exact Runs.of_skip (by simp[execOp,ho,hr]) hA
 ·rename_i c ho
  split at h
  ·rename_i x hc
   obtain⟨vx,hvx,hxl,h⟩:=z0n hE hG h;obtain⟨vs,h,hr⟩:=z3g hE hG h;obtain⟨f,vs',fi,cs,h,hf,hr'⟩:=z50 hvx hxl hr h;unfold genS at h
   split at h
   ·rename_i s hs
    obtain⟨he,hok⟩:=hΓ.fs.look hs;unfold Runs;rw[z87 ho hc hf he];exact hok C β n H I w vs' _ K hG hH hr'.1 hr'.2 h
   ·obtain⟨he,hcall⟩:=zb5 hΓ hG hH hr' h
    unfold Runs;rw[z87 ho hc hf he];exact hcall.mono fun e w' ⟨x,h1,h2⟩=>⟨x,h1,h2.2⟩
  ·rename_i hc
   split at h
   ·rename_i x y t u hl ht
    obtain⟨vx,hvx,hbx,h⟩:=z0n hE hG h;obtain⟨vy,hvy,hby,h⟩:=z0n hE hG h
    obtain⟨v,w',hr,hA⟩:∃ v w',(Builtin.append_ #[t,u] o.type #[a.eval x,a.eval y]).run Γ.P w= .ok v w'∧After C β n I w K v w':=by
     split at h
     ·rename_i hu
      exact zgq (P:=Γ.P) (ty':=o.type) hΓ.ty hH hu hvx hvy h
     ·exact zgo (P:=Γ.P) (ty':=o.type) hΓ.ty hH hvx hvy h
    refine Runs.of_value ?_ hA
    have ea:c.argTypes= #[t,u]:=by
     have:=congrArg List.toArray ht
     simpa using this
    have el:c.args= #[x,y]:=by
     have:=congrArg List.toArray hl
     simpa using this
    simp[execOp,ho,resolve,hc,el,invoke,builtin,ea,hr]
   ·exact h.elim
  ·exact pure h
 ·rename_i src dst x ho
  split at h
  ·obtain⟨rfl,h⟩:=h
   obtain⟨vx,hvx,_,h⟩:=z0n hE hG h;obtain⟨u,w',hr,hA⟩:=zm2 (P:=Γ.P) hΓ.ty hH hvx h;refine Runs.of_value (w':=w') (v:=u) ?_ hA
   simp only[execOp,ho]
   exact congrArg _ (by rfl) |>.trans (by simp[hr])
  ·exact(z7u hΓ hE hG hH h).mono fun _ _ h=>h.2
 ·exact(z7u hΓ hE hG hH h).mono fun _ _ h=>h.2

def z9v(Γ:Ctx)(o:Oper)(E:Env)(H:Heap)(K:SV→Prop):Prop:=
 match o.op with
 | .call c=>match c.callee with
  | .value x=>onV (E.ev Γ.glob x) fun x=>evs Γ.glob E c.args.toList fun vs=>z7s x vs fun f vs=>match z3n Γ.fs f with
   |some (.flat q)=>viewS Γ.ty H vs fun us=>q us K
   |_=>False
  |_=>pureS Γ.ty Γ.glob o E H K
 | .build t parts=>evs Γ.glob E (parts.toList.map (·.2)) fun vs=>zet Γ.ty t ((parts.toList.map (·.1)).zip vs) K
 |_=>pureS Γ.ty Γ.glob o E H K

theorem ArgsD.mono{I':Nat→Prop}{w':World}(hE:Ext I w I' w'){vs:List SV}{xs:List Value}(h:ArgsD I w vs xs):ArgsD I' w' vs xs:=
 ⟨h.1,fun j v hv=>let ⟨x,h1,h2,h3⟩:=h.2 j v hv;⟨x,h1,SV.rel_mono (n:=0) (fun i hi=>absurd hi (Nat.not_lt_zero i)) hE h3 h2,h3⟩⟩

theorem zew{D:List Deferred}(hΓ:Γ.OK)(hE:EnvOK D β n I w E a)(hG:z26 Γ.glob I w)(hH:HeapOK C β n H I w){o:Oper}{K:SV→Prop}(h:z9v Γ o E H K):
  ∃ v x,K v∧v.low n∧v.rel β I w x∧∀ w',Same w w'→o.quietAt Γ.P a (Same w) w' x:=by
 have pure:pureS Γ.ty Γ.glob o E H K→∃ v x,K v∧v.low n∧v.rel β I w x∧∀ w',Same w w'→o.quietAt Γ.P a (Same w) w' x:=fun h=>by
  obtain⟨v,x,hK,hl,hr,hrun⟩:=z65 (P:=Γ.P) hΓ.ty hG hE hH h;exact⟨v,x,hK,hl,hr,fun w' hw=>by unfold Oper.quietAt;rw[hrun w' hw];exact⟨rfl,rfl⟩⟩
 unfold z9v at h
 split at h
 ·rename_i c ho
  split at h
  ·rename_i x hc
   obtain⟨vx,hvx,hxl,h⟩:=z0n hE hG h;obtain⟨vs,h,hr⟩:=z3g hE hG h;obtain⟨f,vs',fi,cs,h,hf,hr'⟩:=z50 hvx hxl hr h
   split at h
   ·rename_i q hq
    obtain⟨hen,hok⟩:=hΓ.fs.look hq;obtain⟨us,h,hargs⟩:=z5n hH hr' h;obtain⟨v,hK,hfl,hcall⟩:=hok us _ h;refine⟨v,v.val,hK,SV.flat_low hfl,(SV.rel_flat hfl).2 rfl,fun w' hw=>?_⟩;unfold Oper.quietAt;rw[z87 ho hc hf hen]
    have hlt:=z3f hH (is:=vs'.flatMap SV.ids)
    have hE':Ext (z1b β H (vs'.flatMap SV.ids) I) w (z1b β H (vs'.flatMap SV.ids) I) w':=fun b hb=>⟨hb,hw.block b (hlt b hb)⟩
    refine⟨rfl,(hcall _ w' _ ((hG.mono (Ext.widen fun b h=>.inl h)).mono hE') (fun b hb=>Nat.lt_of_lt_of_le (hlt b hb) hw.size) (hargs.mono hE')).mono ?_⟩
    rintro e w'' ⟨rfl,hs⟩
    exact⟨rfl,hw.trans (hs.mono hw.size)⟩
   ·exact h.elim
  ·exact pure h
 ·rename_i t parts ho
  obtain⟨vs,h,hr⟩:=z3g hE hG h;obtain⟨hp,hlow⟩:=z7t hr;obtain⟨v,x,hK,hl,hrel,hrun⟩:=z8z (P:=Γ.P) hΓ.ty hp hlow h;exact⟨v,x,hK,hl,hrel,fun w' _=>by unfold Oper.quietAt;rw[z90 ho (hrun w')];exact⟨rfl,rfl⟩⟩
 ·exact pure h
end
end Go.Ab

namespace Go
set_option linter.all false
section
variable {P:Program} {ops:Array Oper} {md:Region.Mode} {C:World→Prop}

end

namespace Ab
set_option linter.all false
open Go.RowKit

section
variable {P:Program} {ops:Array Oper} {Q:Exit→Act→World→Prop}
def zgt(o:Oper):Bool:=match o.op with
 | .store _ _ _=>true
 | .call c=>match c.callee with
  | .builtin .append=>true
  |_=>false
 | .mapUpdate .. | .insert .. =>true
 |_=>false
def wrB(ops:Array Oper)(j:Nat):Bool:=match ops[j]? with
 |some o=>zgt o
 |none=>false
def depB(ops:Array Oper)(m k:Nat):Bool:=match ops[m]? with
 |some o=>o.after.any fun e=>Region.binds .any e&&e.on==k
 |none=>false
def ups(ops:Array Oper):Nat→List Nat→List Nat
 |0,S=>S
 |k+1,S=>ups ops k (if S.any (fun m=>depB ops m k)then k::S else S)
def z88(ops:Array Oper)(listed:Array Bool):Prop:=∀ m k,listed.getD m false=true→depB ops m k=true→listed.getD k false=true
def lateB(ops:Array Oper)(listed:Array Bool)(i:Nat):Bool:=(List.range ops.size).all fun j=> !wrB ops j||listed.getD j true||(ups ops j [j]).contains i

theorem zcl{listed:Array Bool}{j:Nat}(hc:z88 ops listed)(hj:∀ k,depB ops j k=true→listed.getD k false=true):∀ (k:Nat) (S:List Nat),(∀ m∈S,m=j∨listed.getD m false=true)→∀ m∈ups ops k S,m=j∨listed.getD m false=true
 |0,_,h=>h
 | k+1,S,h=>by
  unfold ups;refine zcl hc hj k _ ?_
  split
  ·rename_i ha
   obtain⟨m,hm,hd⟩:=List.any_eq_true.1 ha;intro m' hm'
   rcases List.mem_cons.1 hm' with rfl|hm'
   ·rcases h m hm with rfl|hl
    ·exact .inr (hj _ hd)
    ·exact .inr (hc _ _ hl hd)
   ·exact h m' hm'
  ·exact h

def wpT(P:Program)(ops:Array Oper)(Q:Exit→Act→World→Prop):Nat→Array Bool→Act→World→Prop
 |0,listed,a,w=>Region.ready .any ops listed=[]∧Q .normal a w
 |f+1,listed,a,w=>(Region.ready .any ops listed=[]→Q .normal a w)∧
  ∀ i∈Region.ready .any ops listed,wpOp P ops Q i (fun a' w'=>(wrB ops i=false→Same w w')∧wpT P ops Q f (listed.setIfInBounds i true) a' w') a w

theorem zcm:∀ (f:Nat) (listed:Array Bool) (a:Act) (w:World),wpT P ops Q f listed a w→wpAny P .any ops Q f listed a w
 |0,_,_,_,h=>h
 |f+1,_,_,_,h=>⟨h.1,fun i hi=>wpOp_mono (fun a' w' h'=>zcm f _ a' w' h'.2) (h.2 i hi)⟩

theorem YieldsIf.later{o:Oper}{v:Value}{a:Act}{w w':World}(h:YieldsIf P ops (Same w) o v a)(hs:Same w w'):YieldsIf P ops (Same w') o v a:=
 h.imp (fun⟨h1,h2⟩=>⟨h1,fun w'' h''=>h2 w'' (hs.trans (h''.mono hs.size))⟩) id

theorem zex{listed:Array Bool}{j:Nat}(hj:j∈Region.ready .any ops listed):∀ k,depB ops j k=true→listed.getD k false=true:=by
 intro k hk;obtain⟨_,oj,hoj,hall⟩:=mem_ready.1 hj;unfold depB at hk;rw[hoj]at hk
 simp only[Array.any_eq_true',Bool.and_eq_true,beq_iff_eq]at hk
 obtain⟨e,he,hb,rfl⟩:=hk;exact hall e he hb
theorem z7j{listed:Array Bool}{j m:Nat}(h:listed.getD m false=true):(listed.setIfInBounds j true).getD m false=true:=by
 simp only[Array.getD_eq_getD_getElem?,Array.getElem?_setIfInBounds]at h ⊢
 split
 ·rename_i e;subst e;split
  ·rfl
  ·rename_i hlt;simp[Array.getElem?_eq_none (Nat.le_of_not_lt hlt)]at h
 ·exact h
theorem zgu{listed:Array Bool}{j m:Nat}(h:(listed.setIfInBounds j true).getD m false=true):m=j∨listed.getD m false=true:=by
 by_cases e:m=j
 ·exact .inl e
 ·simp only[Array.getD_eq_getD_getElem?,Array.getElem?_setIfInBounds]at h ⊢
  rw[if_neg (fun e'=>e e'.symm)]at h;exact .inr h
theorem z88.set{listed:Array Bool}{j:Nat}(hc:z88 ops listed)(hj:j∈Region.ready .any ops listed):z88 ops (listed.setIfInBounds j true):=fun m k hm hd=>by
 rcases zgu hm with rfl|hm
 ·exact z7j (zex hj k hd)
 ·exact z7j (hc m k hm hd)
theorem zm3{listed:Array Bool}{i j:Nat}(hc:z88 ops listed)(hl:lateB ops listed i=true)(hi:i∈Region.ready .any ops listed)(hj:j∈Region.ready .any ops listed)(hji:j≠i):wrB ops j=false:=by
 obtain⟨hjl,oj,hoj,_⟩:=mem_ready.1 hj
 have hlt:j< ops.size:=(Array.getElem?_eq_some_iff.1 hoj).1
 have:=List.all_eq_true.1 hl j (List.mem_range.2 hlt)
 simp only[Bool.or_eq_true,Bool.not_eq_true']at this
 rcases this with(h|h)|h
 ·exact h
 ·rw[hjl]at h;cases h
 ·exfalso
  rcases zcl hc (zex hj) j [j] (fun m hm=>.inl (by simpa using hm)) i (by simpa using h)with e|e
  ·exact hji e.symm
  ·have:=(mem_ready.1 hi).1
   simp only[Array.getD_eq_getD_getElem?]at e this
   cases hx:listed[i]? with
   |none=>rw[hx]at e;cases e
   |some b=>rw[hx]at e this;simp only[Option.getD_some]at e this;rw[e]at this;cases this
theorem zm4{listed:Array Bool}{i j:Nat}(hl:lateB ops listed i=true):lateB ops (listed.setIfInBounds j true) i=true:=by
 refine List.all_eq_true.2 fun k hk=>?_
 have:=List.all_eq_true.1 hl k hk
 simp only[Bool.or_eq_true,Bool.not_eq_true']at this ⊢
 rcases this with(h|h)|h
 ·exact .inl (.inl h)
 ·refine .inl (.inr ?_)
  simp only[Array.getD_eq_getD_getElem?,Array.getElem?_setIfInBounds]at h ⊢
  split
  ·split<;>rfl
  ·exact h
 ·exact .inr h

theorem wpT_take{i:Nat}{oi:Oper}{v:Value}(hi:ops[i]? =some oi)(hsel:∀ (j:Nat) (o:Oper) cs b,ops[j]? =some o→o.op≠ .select cs b)(hQ:∀ c a w,Q (.panic c) (a.put oi.dst v) w→Q (.panic c) a w):
  ∀ (f:Nat) (listed:Array Bool) (a:Act) (w:World),(∀ j oj,ops[j]? =some oj→j≠i→listed.getD j true=false→(∀ e∈oj.after,Region.binds .any e=true→e.on≠i)→oi.apart ops oj=true)→
   z88 ops listed→lateB ops listed i=true→i∈Region.ready .any ops listed→YieldsIf P ops (Same w) oi v a→wpT P ops Q f (listed.setIfInBounds i true) (a.put oi.dst v) w→wpT P ops Q (f+1) listed a w:=by
 intro f
 induction f with
 | zero=>
  intro listed a w _ _ _ hr hy K;refine⟨fun h=>(by rw[h]at hr;cases hr),fun j hj=>?_⟩
  by_cases hji:j=i
  ·subst hji;exact hy.wpOp hi (Below.refl _ _) ⟨fun _=>Below.refl _ _,K⟩
  ·have:=ready_mono hj hji
   rw[K.1]at this;cases this
 | succ f ih=>
  intro listed a w hfree hc hl hr hy K;refine⟨fun h=>(by rw[h]at hr;cases hr),fun j hj=>?_⟩
  by_cases hji:j=i
  ·subst hji;exact hy.wpOp hi (Below.refl _ _) ⟨fun _=>Below.refl _ _,K⟩
  ·have h1:=K.2 j (ready_mono hj hji)
   have hnw:=zm3 hc hl hr hj hji
   obtain⟨hjun,oj,hoj,hall⟩:=mem_ready.1 hj
   have hnot:∀ e∈oj.after,Region.binds .any e=true→e.on≠i:=fun e he hb heq=>by
    have g1:=hall e he hb
    have g0:=(mem_ready.1 hr).1
    rw[heq]at g1
    rcases Nat.lt_or_ge i listed.size with h'|h'
    ·simp[h']at g0 g1;rw[g0]at g1;cases g1
    ·simp[Array.getElem?_eq_none h']at g1
   have h2:=wpOp_putIf hoj (hfree j oj hoj hji hjun hnot) (fun cs b=>hsel i oi cs b hi) (fun cs b=>hsel j oj cs b hoj) hQ hy h1
   have hfree':∀ k ok,ops[k]? =some ok→k≠i→(listed.setIfInBounds j true).getD k true=false→(∀ e∈ok.after,Region.binds .any e=true→e.on≠i)→oi.apart ops ok=true:=fun k ok hk hki hun hno=>by
    refine hfree k ok hk hki ?_ hno
    by_cases hjk:j=k
    ·subst hjk;exact hjun
    ·rw[getD_set_ne true hjk]at hun;exact hun
   refine wpOp_mono (fun a' w' h3=>⟨h3.2.1,ih (listed.setIfInBounds j true) a' w' hfree' (hc.set hj) (zm4 hl) (ready_mono hr (Ne.symm hji)) (YieldsIf.later h3.1 (h3.2.1 hnw)) ?_⟩) h2;rw[Array.setIfInBounds_comm _ _ hji];exact h3.2.2

theorem zcd{i:Nat}{oi:Oper}{v:Value}(hi:ops[i]? =some oi)(hsel:∀ (j:Nat) (o:Oper) cs b,ops[j]? =some o→o.op≠ .select cs b)(hQ:∀ c a w,Q (.panic c) (a.put oi.dst v) w→Q (.panic c) a w):
  ∀ (f:Nat) (listed:Array Bool) (a:Act) (w:World),(∀ j oj,ops[j]? =some oj→j≠i→listed.getD j true=false→(∀ e∈oj.after,Region.binds .any e=true→e.on≠i)→oi.apart ops oj=true)→
   i∈Region.ready .any ops listed→YieldsIf P ops (fun _=>True) oi v a→wpT P ops Q f (listed.setIfInBounds i true) (a.put oi.dst v) w→wpT P ops Q (f+1) listed a w:=by
 intro f
 induction f with
 | zero=>
  intro listed a w _ hr hy K;refine⟨fun h=>(by rw[h]at hr;cases hr),fun j hj=>?_⟩
  by_cases hji:j=i
  ·subst hji;exact hy.wpOp hi trivial ⟨fun _=>Below.refl _ _,K⟩
  ·have:=ready_mono hj hji
   rw[K.1]at this;cases this
 | succ f ih=>
  intro listed a w hfree hr hy K;refine⟨fun h=>(by rw[h]at hr;cases hr),fun j hj=>?_⟩
  by_cases hji:j=i
  ·subst hji;exact hy.wpOp hi trivial ⟨fun _=>Below.refl _ _,K⟩
  ·have h1:=K.2 j (ready_mono hj hji)
   obtain⟨hjun,oj,hoj,hall⟩:=mem_ready.1 hj
   have hnot:∀ e∈oj.after,Region.binds .any e=true→e.on≠i:=fun e he hb heq=>by
    have g1:=hall e he hb
    have g0:=(mem_ready.1 hr).1
    rw[heq]at g1
    rcases Nat.lt_or_ge i listed.size with h'|h'
    ·simp[h']at g0 g1;rw[g0]at g1;cases g1
    ·simp[Array.getElem?_eq_none h']at g1
   have h2:=wpOp_putIf hoj (hfree j oj hoj hji hjun hnot) (fun cs b=>hsel i oi cs b hi) (fun cs b=>hsel j oj cs b hoj) hQ hy h1
   have hfree':∀ k ok,ops[k]? =some ok→k≠i→(listed.setIfInBounds j true).getD k true=false→(∀ e∈ok.after,Region.binds .any e=true→e.on≠i)→oi.apart ops ok=true:=fun k ok hk hki hun hno=>by
    refine hfree k ok hk hki ?_ hno
    by_cases hjk:j=k
    ·subst hjk;exact hjun
    ·rw[getD_set_ne true hjk]at hun;exact hun
   refine wpOp_mono (fun a' w' h3=>⟨h3.2.1,ih (listed.setIfInBounds j true) a' w' hfree' (ready_mono hr (Ne.symm hji)) h3.1 ?_⟩) h2;rw[Array.setIfInBounds_comm _ _ hji];exact h3.2.2

def zgv(ops:Array Oper)(i:Nat):Bool:=match ops[i]? with
 |some o=>zeq o
 |none=>false
def z6i(ops:Array Oper):List (Nat×Bool)→Array Bool→Bool
 |[],listed=>(Region.ready .any ops listed).isEmpty
 |(i,true)::r,listed=>Region.free .any ops listed i&&(lateB ops listed i||zgv ops i)&&(Region.ready .any ops listed).contains i&&z6i ops r (listed.setIfInBounds i true)
 |(i,false)::r,listed=>Region.ready .any ops listed==[i]&&z6i ops r (listed.setIfInBounds i true)
end

section
variable {C:CC} {β:Val} {n N:Nat} {H:Heap} {I:Nat→Prop} {w:World} {E:Env} {a:Act} {Γ:Ctx}

structure St(Γ:Ctx)(N:Nat)(C:CC)(β:Val)(n:Nat)(E:Env)(H:Heap)(I:Nat→Prop)(a:Act)(w:World):Prop where
 env:EnvOK C.D β n I w E a
 size:a.tmps.size=N
 heap:HeapOK C β n H I w
 glob:z26 Γ.glob I w
 anch:C.n0≤n∧∀ i,i< C.n0→β i=C.β0 i

def z4u(ops:List Oper)(E:Env)(j:Nat):Option (Option Bool):=
 match (ops[j]?).bind (·.dst) with
 |some d=>match E.get d with
  |some (.c (.bool b))=>some (some b)
  |some (.c (.raw (.tuple _)))=>some none
  |_=>none
 |none=>none

theorem z1w{D:List Deferred}{ops:List Oper}{j:Nat}{r:Option Bool}(hE:EnvOK D β n I w E a)(h:z4u ops E j=some r):yielded ops.toArray a.tmps j=r:=by
 unfold z4u at h
 split at h
 ·rename_i d hd
  have hd':(ops.toArray[j]?).bind (·.dst)=some d:=by simpa using hd
  unfold yielded;rw[hd']
  split at h
  ·rename_i b hb;cases h
   obtain⟨x,hx,hr⟩:=hE.slot d _ hb
   have:=(SV.rel_flat (x:=.c (.bool b)) rfl).1 hr
   subst this
   simp[hx,SV.val,Cell.val]
  ·rename_i l hb;cases h
   obtain⟨x,hx,hr⟩:=hE.slot d _ hb
   have:=(SV.rel_flat (x:=.c (.raw (.tuple l))) rfl).1 hr
   subst this
   simp[hx,SV.val,Cell.val]
  ·cases h
 ·cases h

def dstOK(N:Nat):Option Tmp→Prop
 |some d=>d< N
 |none=>True

abbrev z39:SV:=.c (.raw (.tuple #[]))

def wpQS(Γ:Ctx)(N:Nat)(ops:List Oper):List Oper→Env→Heap→(Env→Prop)→Prop
 |[],E,_,K=>K E
 | o::os,E,H,K=>dstOK N o.dst∧match o.guard with
  |none=>z9v Γ o E H fun v=>∃ v',v.as v'∧wpQS Γ N ops os (E.put o.dst v') H K
  |some (j,want)=>match z4u ops E j with
   |some (some b)=>(b=want→z9v Γ o E H fun v=>∃ v',v.as v'∧wpQS Γ N ops os (E.put o.dst v') H K)∧(b= !want→wpQS Γ N ops os (E.put o.dst z39) H K)
   |some none=>wpQS Γ N ops os (E.put o.dst z39) H K
   |none=>False

def wpS(Γ:Ctx)(N:Nat)(ops:List Oper):List Oper→Env→Heap→Nat→(Env→Heap→Nat→Prop)→Prop
 |[],E,H,n,K=>K E H n
 | o::os,E,H,n,K=>dstOK N o.dst∧match o.guard with
  |none=>stepS Γ o E H n fun v H n=>∃ v',v.as v'∧wpS Γ N ops os (E.put o.dst v') H n K
  |some (j,want)=>match z4u ops E j with
   |some (some b)=>(b=want→stepS Γ o E H n fun v H n=>∃ v',v.as v'∧wpS Γ N ops os (E.put o.dst v') H n K)∧(b= !want→wpS Γ N ops os (E.put o.dst z39) H n K)
   |some none=>wpS Γ N ops os (E.put o.dst z39) H n K
   |none=>False

def readS(Γ:Ctx)(o:Oper)(E:Env)(H:Heap)(K:SV→Prop):Prop:=
 match o.op with
 | .build t parts=>evs Γ.glob E (parts.toList.map (·.2)) fun vs=>zet Γ.ty t ((parts.toList.map (·.1)).zip vs) K
 |_=>pureS Γ.ty Γ.glob o E H K

def z7k(Γ:Ctx)(o:Oper)(E:Env)(H:Heap)(n:Nat)(K:SV→Heap→Nat→Prop):Prop:=match zgt o with
 |true=>stepS Γ o E H n K
 |false=>growS Γ o E H n K
def wpD (Γ:Ctx) (N:Nat) (ops:List Oper):List (Nat×Bool)→Env→Heap→Nat→(Env→Heap→Nat→Prop)→Prop
 |[],E,H,n,K=>K E H n
 | (i,q)::r,E,H,n,K=>match ops[i]? with
  |none=>False
  | some o=>dstOK N o.dst∧match o.guard with
   |none=>if q then readS Γ o E H fun v=>∃ v',v.as v'∧wpD Γ N ops r (E.put o.dst v') H n K else z7k Γ o E H n fun v H n=>∃ v',v.as v'∧wpD Γ N ops r (E.put o.dst v') H n K
   |some (j,want)=>match z4u ops E j with
    |some (some b)=>(b=want→if q then readS Γ o E H fun v=>∃ v',v.as v'∧wpD Γ N ops r (E.put o.dst v') H n K else z7k Γ o E H n fun v H n=>∃ v',v.as v'∧wpD Γ N ops r (E.put o.dst v') H n K)∧(b= !want→wpD Γ N ops r (E.put o.dst z39) H n K)
    |some none=>wpD Γ N ops r (E.put o.dst z39) H n K
    |none=>False

theorem EnvOK.put{D:List Deferred}(h:EnvOK D β n I w E a)(hN:a.tmps.size=N){d:Option Tmp}(hd:dstOK N d){v:SV}{x:Value}(hr:v.rel β I w x)(hb:v.low n):EnvOK D β n I w (E.put d v) (a.put d x)∧(a.put d x).tmps.size=N:=by
 cases d with
 |none=>exact⟨h,hN⟩
 | some d=>
  have hlt:d< a.tmps.size:=by rw[hN];exact hd
  refine⟨⟨h.defers,fun i u hu=>?_,fun i u hu=>?_⟩,by simpa [Act.put]using hN⟩
  ·rw[Env.get_put]at hu
   simp only[Act.put,Array.getElem?_setIfInBounds]
   split at hu
   ·rename_i e;cases e;cases hu
    exact⟨x,by simp[hlt],hr⟩
   ·rename_i e
    have:d≠i:=fun e'=>e (by rw[e'])
    rw[if_neg this];exact h.slot i u hu
  ·rw[Env.get_put]at hu
   split at hu
   ·cases hu;exact hb
   ·exact h.low i u hu

theorem z5o:z39.rel β I w undef:=Cell.rel_val (β:=β) (x:=.raw _) rfl

theorem z91{D:List Deferred}(hΓ:Γ.OK){ops:List Oper}(hG:z26 Γ.glob I w)(hH:HeapOK C β n H I w){Q:Act→Prop}:∀ (os:List Oper) {E:Env} {a:Act} {K:Env→Prop},EnvOK D β n I w E a→a.tmps.size=N→wpQS Γ N ops os E H K→
  (∀ E' a',K E'→EnvOK D β n I w E' a'→a'.tmps.size=N→Q a')→wpQuiet Γ.P ops.toArray (Same w) Q os a
 |[],E,a,K,hE,hN,h,hQ=>hQ E a h hE hN
 | o ::os,E,a,K,hE,hN,h,hQ=>by
  obtain⟨hd,h⟩:=h
  have run:z9v Γ o E H (fun v=>∃ v',v.as v'∧wpQS Γ N ops os (E.put o.dst v') H K)→o.quiet Γ.P a (Same w) (wpQuiet Γ.P ops.toArray (Same w) Q os):=by
   intro h;obtain⟨v0,x,⟨v,has,hK⟩,hb,hrel,hr⟩:=zew hΓ hE hG hH h;obtain⟨hrel,hb⟩:=has _ _ _ _ _ hrel hb;obtain⟨hE',hN'⟩:=hE.put hN hd hrel hb;exact⟨x,hr,z91 hΓ hG hH os hE' hN' hK hQ⟩
  have skip:wpQS Γ N ops os (E.put o.dst z39) H K→wpQuiet Γ.P ops.toArray (Same w) Q os (a.put o.dst undef):=by
   intro h;obtain⟨hE',hN'⟩:=hE.put hN hd z5o trivial;exact z91 hΓ hG hH os hE' hN' h hQ
  unfold wpQuiet
  split at h
  ·rename_i hg
   simp only[Region.wanted,hg,if_true]
   exact run h
  ·rename_i j want hg
   split at h
   ·rename_i b hy
    have:=z1w hE hy
    simp only[Region.wanted,hg,this]
    by_cases hbw:b=want
    ·subst hbw;simp only[beq_self_eq_true,if_true];exact run (h.1 rfl)
    ·have:(some b==some want)=false:=by simpa using hbw
     simp only[this,Bool.false_eq_true,if_false]
     exact skip (h.2 (by cases b<;>cases want<;>simp_all))
   ·rename_i hy
    have:=z1w hE hy
    simp only[Region.wanted,hg,this]
    exact skip h
   ·exact h.elim

theorem St.after(hS:St Γ N C β n E H I a w){K:SV→Heap→Nat→Prop}{x:Value}{w':World}(hA:After C β n I w K x w'){d:Option Tmp}(hd:dstOK N d):
  ∃ v H' n' β' I',K v H' n'∧St Γ N C β' n' (E.put d v) H' I' (a.put d x) w':=by
 obtain⟨v,H',n',β',I',hK,hr,hb,hn,hβ,hE,hH⟩:=hA;obtain⟨hE',hN'⟩:=(hS.env.mono hβ hE hn).put hS.size hd hr hb;exact⟨v,H',n',β',I',hK,hE',hN',hH,hS.glob.mono hE,Nat.le_trans hS.anch.1 hn,fun i hi=>(hβ i (Nat.lt_of_lt_of_le hi hS.anch.1)).trans (hS.anch.2 i hi)⟩

theorem After.as{K:SV→Heap→Nat→Prop}{x:Value}{w':World}(h:After C β n I w (fun v H n=>∃ v',v.as v'∧K v' H n) x w'):After C β n I w K x w':=by
 obtain⟨v,H',n',β',I',⟨v',has,hK⟩,hr,hb,h1⟩:=h;obtain⟨hr,hb⟩:=has _ _ _ _ _ hr hb;exact⟨v',H',n',β',I',hK,hr,hb,h1⟩
theorem z89(hΓ:Γ.OK){ops:List Oper}{Q:Exit→Act→World→Prop}:∀ (os:List Oper) {β:Val} {n:Nat} {E:Env} {H:Heap} {I:Nat→Prop} {a:Act} {w:World} {K:Env→Heap→Nat→Prop},St Γ N C β n E H I a w→wpS Γ N ops os E H n K→
  (∀ β' n' E' H' I' a' w',K E' H' n'→St Γ N C β' n' E' H' I' a' w'→Q .normal a' w')→wpList Γ.P ops.toArray Q os a w
 |[],β,n,E,H,I,a,w,K,hS,h,hQ=>hQ β n E H I a w h hS
 | o ::os,β,n,E,H,I,a,w,K,hS,h,hQ=>by
  obtain⟨hd,h⟩:=h
  have run:stepS Γ o E H n (fun v H n=>∃ v',v.as v'∧wpS Γ N ops os (E.put o.dst v') H n K)→o.wp Γ.P a w (wpList Γ.P ops.toArray Q os) Q:=by
   intro h;refine(z68 hΓ hS.env hS.glob hS.heap h).wp fun x w' hA=>?_;obtain⟨v,H',n',β',I',hK,hS'⟩:=hS.after hA.as hd;exact z89 hΓ os hS' hK hQ
  have skip:wpS Γ N ops os (E.put o.dst z39) H n K→wpList Γ.P ops.toArray Q os (a.put o.dst undef) w:=by
   intro h;obtain⟨hE',hN'⟩:=hS.env.put hS.size hd z5o trivial;exact z89 hΓ os ⟨hE',hN',hS.heap,hS.glob,hS.anch⟩ h hQ
  unfold wpList
  split at h
  ·rename_i hg
   simp only[Region.wanted,hg,if_true]
   exact .inl (run h)
  ·rename_i j want hg
   split at h
   ·rename_i b hy
    have:=z1w hS.env hy
    simp only[Region.wanted,hg,this]
    by_cases hbw:b=want
    ·subst hbw;simp only[beq_self_eq_true,if_true];exact .inl (run (h.1 rfl))
    ·have:(some b==some want)=false:=by simpa using hbw
     simp only[this,Bool.false_eq_true,if_false]
     exact skip (h.2 (by cases b<;>cases want<;>simp_all))
   ·rename_i hy
    have:=z1w hS.env hy
    simp only[Region.wanted,hg,this]
    exact skip h
   ·exact h.elim

theorem zgw{D:List Deferred}(hΓ:Γ.OK)(hE:EnvOK D β n I w E a)(hG:z26 Γ.glob I w)(hH:HeapOK C β n H I w){o:Oper}{K:SV→Prop}(h:readS Γ o E H K):Gives Γ.P β n I w a o K:=by
 unfold readS at h
 split at h
 ·rename_i t parts ho
  obtain⟨vs,h,hr⟩:=z3g hE hG h;obtain⟨hp,hlow⟩:=z7t hr;obtain⟨v,x,hK,hl,hrel,hrun⟩:=z8z (P:=Γ.P) hΓ.ty hp hlow h;exact⟨v,x,hK,hl,hrel,fun w' _=>z90 ho (hrun w')⟩
 ·exact z65 (P:=Γ.P) hΓ.ty hG hE hH h

theorem zgx{D:List Deferred}(hΓ:Γ.OK)(hE:EnvOK D β n I w E a)(hG:z26 Γ.glob I w)(hH:HeapOK C β n H I w){o:Oper}(hs:zeq o=true){K:SV→Prop}(h:readS Γ o E H K):
  ∃ v x,K v∧v.low n∧v.rel β I w x∧∀ w',(execOp a.eval o).run Γ.P w'= .ok (.value x) w':=by
 unfold readS at h
 split at h
 ·rename_i t parts ho
  simp[zeq,ho]at hs
 ·exact zgi hΓ.ty hG hE hH hs h
theorem z5p(hΓ:Γ.OK){l:List Oper}(hsel:Region.noSelect l.toArray=true){Q:Exit→Act→World→Prop}(hQp:∀ c a a' w,Q (.panic c) a' w→Q (.panic c) a w):
  ∀ (r:List (Nat×Bool)) (listed:Array Bool) {β:Val} {n:Nat} {E:Env} {H:Heap} {I:Nat→Prop} {a:Act} {w:World} {K:Env→Heap→Nat→Prop},z6i l.toArray r listed=true→z88 l.toArray listed→St Γ N C β n E H I a w→wpD Γ N l r E H n K→
   (∀ β' n' E' H' I' a' w',K E' H' n'→St Γ N C β' n' E' H' I' a' w'→Q .normal a' w')→wpT Γ.P l.toArray Q r.length listed a w
 |[],listed,β,n,E,H,I,a,w,K,hB,_,hS,h,hQ=>⟨by simpa [z6i]using hB,hQ β n E H I a w h hS⟩
 | (i, q)::r,listed,β,n,E,H,I,a,w,K,hB,hc,hS,h,hQ=>by
  unfold wpD at h
  split at h
  ·exact h.elim
  ·rename_i o ho
   obtain⟨hd,h⟩:=h
   have hi:l.toArray[i]? =some o:=by simpa using ho
   cases q with
   | true=>
    simp only[z6i,Bool.and_eq_true]at hB
    obtain⟨⟨⟨hf,hlate⟩,hr⟩,hB⟩:=hB
    have hr':i∈Region.ready .any l.toArray listed:=by simpa using hr
    have fin:∀ v x,(lateB l.toArray listed i=true∧YieldsIf Γ.P l.toArray (Same w) o x a∨YieldsIf Γ.P l.toArray (fun _=>True) o x a)→v.rel β I w x→v.low n→wpD Γ N l r (E.put o.dst v) H n K→wpT Γ.P l.toArray Q (r.length+1) listed a w:=by
     intro v x hy hrel hlow hK;obtain⟨hE',hN'⟩:=hS.env.put hS.size hd hrel hlow
     rcases hy with⟨hlate,hy⟩|hy
     ·exact wpT_take hi (Region.noSelect_spec hsel) (fun c a w=>hQp c a _ w) r.length listed a w (Region.free_spec hi hf) hc hlate hr' hy (z5p hΓ hsel hQp r _ hB (hc.set hr') ⟨hE',hN',hS.heap,hS.glob,hS.anch⟩ hK hQ)
     ·exact zcd hi (Region.noSelect_spec hsel) (fun c a w=>hQp c a _ w) r.length listed a w (Region.free_spec hi hf) hr' hy (z5p hΓ hsel hQp r _ hB (hc.set hr') ⟨hE',hN',hS.heap,hS.glob,hS.anch⟩ hK hQ)
    have run:Region.wanted o (yielded l.toArray a.tmps)=true→readS Γ o E H (fun v=>∃ v',v.as v'∧wpD Γ N l r (E.put o.dst v') H n K)→wpT Γ.P l.toArray Q (r.length+1) listed a w:=by
     intro hw h
     rcases Bool.or_eq_true _ _▸hlate with hl1|hl1
     ·obtain⟨v0,x,⟨v,has,hK⟩,hl,hrel,hrun⟩:=zgw hΓ hS.env hS.glob hS.heap h
      obtain⟨hrel,hl⟩:=has _ _ _ _ _ hrel hl;exact fin v x (.inl ⟨hl1,.inl ⟨hw,hrun⟩⟩) hrel hl hK
     ·obtain⟨v0,x,⟨v,has,hK⟩,hl,hrel,hrun⟩:=zgx hΓ hS.env hS.glob hS.heap (by unfold zgv at hl1;rw[hi]at hl1;exact hl1) h
      obtain⟨hrel,hl⟩:=has _ _ _ _ _ hrel hl;exact fin v x (.inr (.inl ⟨hw,fun w' _=>hrun w'⟩)) hrel hl hK
    have skip:Region.wanted o (yielded l.toArray a.tmps)=false→wpD Γ N l r (E.put o.dst z39) H n K→wpT Γ.P l.toArray Q (r.length+1) listed a w:=by
     intro hw h;exact fin z39 undef (.inr (.inr ⟨hw,rfl⟩)) z5o trivial h
    simp only[List.length_cons]
    split at h
    ·rename_i hg
     exact run (by simp[Region.wanted,hg]) (by simpa using h)
    ·rename_i j want hg
     split at h
     ·rename_i b hy
      have hy':=z1w hS.env hy
      by_cases hbw:b=want
      ·subst hbw
       exact run (by simp[Region.wanted,hg,hy']) (by simpa using h.1 rfl)
      ·exact skip (by simpa [Region.wanted,hg,hy']using hbw) (h.2 (by cases b<;>cases want<;>simp_all))
     ·rename_i hy
      exact skip (by simp[Region.wanted,hg,z1w hS.env hy]) h
     ·exact h.elim
   | false=>
    simp only[z6i,Bool.and_eq_true,beq_iff_eq]at hB
    obtain⟨hr,hB⟩:=hB
    simp only[List.length_cons]
    refine⟨fun h0=>(by rw[hr]at h0;cases h0),fun j hj=>?_⟩;rw[hr]at hj
    obtain rfl:j=i:=by simpa using hj
    have run:z7k Γ o E H n (fun v H n=>∃ v',v.as v'∧wpD Γ N l r (E.put o.dst v') H n K)→o.wp Γ.P a w (fun a' w'=>(wrB l.toArray j=false→Same w w')∧wpT Γ.P l.toArray Q r.length (listed.setIfInBounds j true) a' w') Q:=by
     intro h
     have hwr:wrB l.toArray j=zgt o:=by unfold wrB;rw[hi]
     have hc':z88 l.toArray (listed.setIfInBounds j true):=hc.set (by rw[hr];exact List.mem_singleton.2 rfl)
     unfold z7k at h
     split at h<;>rename_i hw
     ·refine(z68 hΓ hS.env hS.glob hS.heap h).wp fun x w' hA=>?_
      obtain⟨v,H',n',β',I',hK,hS'⟩:=hS.after hA.as hd;exact⟨fun h0=>(by rw[hwr,hw]at h0;cases h0),z5p hΓ hsel hQp r _ hB hc' hS' hK hQ⟩
     ·refine(z7u hΓ hS.env hS.glob hS.heap h).wp fun x w' hA=>?_
      obtain⟨v,H',n',β',I',hK,hS'⟩:=hS.after hA.2.as hd;exact⟨fun _=>hA.1,z5p hΓ hsel hQp r _ hB hc' hS' hK hQ⟩
    have skip:wpD Γ N l r (E.put o.dst z39) H n K→(wrB l.toArray j=false→Same w w)∧wpT Γ.P l.toArray Q r.length (listed.setIfInBounds j true) (a.put o.dst undef) w:=by
     intro h;obtain⟨hE',hN'⟩:=hS.env.put hS.size hd z5o trivial;exact⟨fun _=>Below.refl _ _,z5p hΓ hsel hQp r _ hB (hc.set (by rw[hr];exact List.mem_singleton.2 rfl)) ⟨hE',hN',hS.heap,hS.glob,hS.anch⟩ h hQ⟩
    unfold wpOp
    simp only[hi]
    split at h
    ·rename_i hg
     simp only[Region.wanted,hg,if_true]
     exact .inl (run (by simpa using h))
    ·rename_i j' want hg
     split at h
     ·rename_i b hy
      have hy':=z1w hS.env hy
      simp only[Region.wanted,hg,hy']
      by_cases hbw:b=want
      ·subst hbw;simp only[beq_self_eq_true,if_true];exact .inl (run (by simpa using h.1 rfl))
      ·have:(some b==some want)=false:=by simpa using hbw
       simp only[this,Bool.false_eq_true,if_false]
       exact skip (h.2 (by cases b<;>cases want<;>simp_all))
     ·rename_i hy
      have hy':=z1w hS.env hy
      simp only[Region.wanted,hg,hy']
      exact skip h
     ·exact h.elim
end
end Ab
end Go

namespace Go.Ab
set_option linter.all false
open Go.RowKit


def sliceD(ty:Nat→Ty)(H:Heap)(is:List Nat)(id off len n:Nat)(k:Cont):Prop:=
 id∈is∧match H.get id with
  |some (.own t c _)=>c.isD∧off+len*(ty t).size≤c.len∧0< (ty t).size∧len=n∧k=(if off=0∧c.len=len*(ty t).size then c else c.sub off (len*(ty t).size))
  |_=>False
def ptrD(H:Heap)(is:List Nat)(id off off':Nat)(k:Cont):Prop:=
 id∈is∧match H.get id with
  |some (.own _ c _)=>c.isD∧off< c.len∧off=off'∧k=c
  |_=>False

def Cell.to1(ty:Nat→Ty)(H:Heap)(is:List Nat)(ρ:Nat→Nat):Cell→Cell→Prop
 | .int k n,.int k' n'=>k=k'∧n=n'
 | .bool b,.bool b'=>b=b'
 | .u8 x,.u8 x'=>x=x'
 | .u32 x,.u32 x'=>x=x'
 | .u64 x,.u64 x'=>x=x'
 | .str s,.str s'=>s=s'
 | .nils,.nils=>True
 | .raw v,.raw v'=>v=v'
 | .ds n c,.ds n' c'=>n=n'∧c=c'
 | .nils,.ds n' c'=>n'=0∧c'.len=0
 | .slice id off len _,.ds n' c'=>sliceD ty H is id off len n' c'
 | .dp c off,.dp c' off'=>c=c'∧off=off'
 | .ptr id off,.dp c' off'=>ptrD H is id off off' c'
 | .ptr id off,.ptr id' off'=>id=ρ id'∧off=off'
 | .slice id off len cap,.slice id' off' len' cap'=>id=ρ id'∧off=off'∧len=len'∧cap=cap'
 | .map id,.map id'=>id=ρ id'
 |_,_=>False
def allTo(f:Cell→Cell→Prop):List Cell→List Cell→Prop
 |[],[]=>True
 |x::l,y::m=>f x y∧allTo f l m
 |_,_=>False
def Cell.to(ty:Nat→Ty)(H:Heap)(is:List Nat)(ρ:Nat→Nat):Cell→Cell→Prop
 | .clo f caps,.clo f' caps'=>f=f'∧allTo (Cell.to1 ty H is ρ) caps caps'
 |x,y=>x.to1 ty H is ρ y
def Cont.to(ty:Nat→Ty)(H:Heap)(is:List Nat)(ρ:Nat→Nat):Cont→Cont→Prop
 | .u8s l,.u8s l'=>l=l'
 | .u32s l,.u32s l'=>l=l'
 | .u64s l,.u64s l'=>l=l'
 | .ints k l,.ints k' l'=>k=k'∧l=l'
 | .bools l,.bools l'=>l=l'
 | .cells l,.cells l'=>allTo (Cell.to ty H is ρ) l l'
 | .cells l,.u8s l'=>l=l'.map .u8
 | .cells l,.bools l'=>l=l'.map .bool
 | .cells l,.ints k l'=>l=l'.map (.int k)
 | .u8s l,.cells l'=>l.map .u8=l'
 | .bools l,.cells l'=>l.map .bool=l'
 | .ints k l,.cells l'=>l.map (.int k)=l'
 |_,_=>False
def Part.to(ty:Nat→Ty)(H:Heap)(is:List Nat)(ρ:Nat→Nat):Part→Part→Prop
 | .c x,.c y=>x.to ty H is ρ y
 | .agg k,.agg k'=>k.to ty H is ρ k'
 |_,_=>False
def zgy(f:Part→Part→Prop):List Part→List Part→Prop
 |[],[]=>True
 |x::l,y::m=>f x y∧zgy f l m
 |_,_=>False
def SV.to(ty:Nat→Ty)(H:Heap)(is:List Nat)(ρ:Nat→Nat):SV→SV→Prop
 | .c x,.c y=>x.to ty H is ρ y
 | .agg k,.agg k'=>k.to ty H is ρ k'
 | .tup l,.tup l'=>zgy (Part.to ty H is ρ) l l'
 |_,_=>False
def SObj.to(ty:Nat→Ty)(H:Heap)(is:List Nat)(ρ:Nat→Nat):SObj→SObj→Prop
 | .own t c cap,.own t' c' cap'=>t=t'∧cap=cap'∧c.to ty H is ρ c'
 | .mp t l,.mp t' l'=>t=t'∧l=l'∧∀ x∈l,x.1.flat=true∧x.2.flat=true
 |_,_=>False

def Env.le(ty:Nat→Ty)(H:Heap)(is:List Nat)(ρ:Nat→Nat)(E:Env):Env→Prop
 |[]=>True
 |(s,v)::E'=>onV (E.get s) (fun u=>u.to ty H is ρ v)∧Env.le ty H is ρ E E'
def Heap.le(ty:Nat→Ty)(H:Heap)(is:List Nat)(ρ:Nat→Nat):Heap→Prop
 |[]=>True
 |(id,o)::H'=>((ρ id∉is)∧match H.get (ρ id) with|some u=>u.to ty H is ρ o|none=>False)∧Heap.le ty H is ρ H'
def Env.low(n:Nat):Env→Prop
 |[]=>True
 |(_,v)::E'=>v.low n∧Env.low n E'
def Heap.low(n:Nat):Heap→Prop
 |[]=>True
 |(id,o)::H'=>(id< n∧o.low n)∧Heap.low n H'

theorem Env.low_get{n:Nat}:∀ {E:Env},Env.low n E→∀ {s v},E.get s=some v→v.low n
 |[],_,s,v,h=>by cases h
 |(s',v')::E',h,s,v,hg=>by
  simp only[Env.get]at hg
  split at hg
  ·cases hg;exact h.1
  ·exact Env.low_get h.2 hg
theorem Heap.low_get{n:Nat}:∀ {H:Heap},Heap.low n H→∀ {s o},H.get s=some o→s< n∧o.low n
 |[],_,s,v,h=>by cases h
 |(s',v')::E',h,s,v,hg=>by
  simp only[Heap.get]at hg
  split at hg
  ·rename_i e;cases hg;subst e;exact h.1
  ·exact Heap.low_get h.2 hg
theorem Env.le_get{ty:Nat→Ty}{H:Heap}{is:List Nat}{ρ:Nat→Nat}{E:Env}:∀ {E':Env},Env.le ty H is ρ E E'→∀ {s v},E'.get s=some v→∃ u,E.get s=some u∧u.to ty H is ρ v
 |[],_,s,v,h=>by cases h
 | (s',v')::E',h,s,v,hg=>by
  simp only[Env.get]at hg
  split at hg
  ·rename_i e;cases hg;subst e
   have h1:=h.1
   unfold onV at h1
   split at h1
   ·rename_i u hu;exact⟨u,hu,h1⟩
   ·exact h1.elim
  ·exact Env.le_get h.2 hg
theorem Heap.le_get{ty:Nat→Ty}{H:Heap}{is:List Nat}{ρ:Nat→Nat}:∀ {H':Heap},Heap.le ty H is ρ H'→∀ {s o},H'.get s=some o→ρ s∉is∧∃ u,H.get (ρ s)=some u∧u.to ty H is ρ o
 |[],_,s,v,h=>by cases h
 | (s',v')::E',h,s,v,hg=>by
  simp only[Heap.get]at hg
  split at hg
  ·rename_i e;cases hg;subst e
   have h1:=h.1
   refine⟨h1.1,?_⟩
   have h2:=h1.2
   split at h2
   ·rename_i u hu;exact⟨u,hu,h2⟩
   ·exact h2.elim
  ·exact Heap.le_get h.2 hg
theorem Heap.get_mem:∀ {H:Heap} {s o},H.get s=some o→s∈H.map (·.1)
 |[],s,o,h=>by cases h
 |(s',v')::E',s,o,hg=>by
  simp only[Heap.get]at hg
  split at hg
  ·rename_i e;subst e;simp
  ·exact List.mem_cons_of_mem _ (Heap.get_mem hg)
theorem z8a{ρ:Nat→Nat}:∀ {l:List Nat},(l.map ρ).Nodup→∀ i∈l,∀ j∈l,ρ i=ρ j→i=j
 |[],_,i,hi,_,_,_=>by cases hi
 | x::l,h,i,hi,j,hj,e=>by
  simp only[List.map_cons,List.nodup_cons]at h
  obtain⟨h1,h2⟩:=h
  rcases List.mem_cons.1 hi with hi'|hi'
  ·rcases List.mem_cons.1 hj with hj'|hj'
   ·rw[hi',hj']
   ·rw[hi']at e
    exact absurd (show ρ x∈l.map ρ from List.mem_map.2 ⟨j,hj',e.symm⟩) h1
  ·rcases List.mem_cons.1 hj with hj'|hj'
   ·rw[hj']at e
    exact absurd (show ρ x∈l.map ρ from List.mem_map.2 ⟨i,hi',e⟩) h1
   ·exact z8a h2 i hi' j hj' e

structure Le(Γ:Ctx)(C:CC)(is:List Nat)(ρ:Nat→Nat)(E:Env)(H:Heap)(E':Env)(H':Heap)(n':Nat):Prop where
 env:Env.le Γ.ty H is ρ E E'
 heap:Heap.le Γ.ty H is ρ H'
 inj:((H'.map (·.1)).map ρ).Nodup
 elow:Env.low n' E'
 hlow:Heap.low n' H'
 anch:C.n0≤n'∧∀ i,i< C.n0→ρ i=i

section
variable {Γ:Ctx} {N:Nat} {C:CC} {β:Val} {n:Nat} {E:Env} {H:Heap} {I:Nat→Prop} {a:Act} {w:World} {ty:Nat→Ty} {is:List Nat} {ρ:Nat→Nat}

theorem z8b{f:Cell→Cell→Prop}:∀ {l m:List Cell},allTo f l m→l.length=m.length∧∀ j,j< l.length→f (l.getD j .nils) (m.getD j .nils)
 |[],[],_=>⟨rfl,fun j hj=>absurd hj (Nat.not_lt_zero j)⟩
 |x::l,y::m,h=>by
  obtain⟨h1,h2⟩:=z8b h.2;refine⟨by simp[h1],fun j hj=>?_⟩
  cases j with
  |zero=>exact h.1
  |succ j=>have:=h2 j (by simp at hj;omega);simpa using this
 |[],_::_,h=>h.elim
 |_::_,[],h=>h.elim

theorem zey(hH:HeapOK C β n H I w){x y:Cell}(hxl:x.low1 n){v:Value}(hx:x.rel1 β I w v)(h:x.to1 ty H is ρ y):y.rel1 (fun i=>β (ρ i)) (z1b β H is I) w v:=by
 have hI:∀ b,I b→z1b β H is I b:=fun b h=>.inl h
 unfold Cell.to1 at h
 split at h
 ·obtain⟨rfl,rfl⟩:=h;exact CellD.mono (Ext.widen hI) hx
 ·subst h;exact CellD.mono (Ext.widen hI) hx
 ·subst h;exact CellD.mono (Ext.widen hI) hx
 ·subst h;exact CellD.mono (Ext.widen hI) hx
 ·subst h;exact CellD.mono (Ext.widen hI) hx
 ·subst h;exact CellD.mono (Ext.widen hI) hx
 ·exact CellD.mono (Ext.widen hI) hx
 ·subst h;exact CellD.mono (Ext.widen hI) hx
 ·obtain⟨rfl,rfl⟩:=h;exact CellD.mono (Ext.widen hI) hx
 ·obtain⟨rfl,h0⟩:=h
  have:v=Cell.nils.val:=CellD.of_flat rfl hx
  rw[this];exact CellD.ds0 _ none 0 h0
 ·rename_i id off len cap n' c'
  obtain⟨hid',h⟩:=h
  split at h
  ·rename_i t c capc hid
   obtain⟨hd,hle,hs,rfl,rfl⟩:=h
   obtain⟨u,hu,hr,_,_⟩:=z67 (ty:=ty) (is:=is) hH (x:=.slice id off len cap) hxl (fun _ _=>by simp) (fun i hi=>by simp[Cell.ids]at hi;rw[hi];exact hid') (v:=v) hx (K:=fun y=>y= .ds len (if off=0∧c.len=len*(ty t).size then c else c.sub off (len*(ty t).size))) (by
    unfold viewC;simp only[hid];refine⟨hd,fun h=>by simp[h],hle,hs,?_⟩;unfold z6p;split<;>simp_all)
   subst hu;exact hr
  ·exact h.elim
 ·obtain⟨rfl,rfl⟩:=h;exact CellD.mono (Ext.widen hI) hx
 ·rename_i id off c' off'
  obtain⟨hid',h⟩:=h
  split at h
  ·rename_i t c capc hid
   obtain⟨hd,hle,rfl,rfl⟩:=h
   obtain⟨u,hu,hr,_,_⟩:=z67 (ty:=ty) (is:=is) hH (x:=.ptr id off) hxl (fun _ _=>by simp) (fun i hi=>by simp[Cell.ids]at hi;rw[hi];exact hid') (v:=v) hx (K:=fun y=>y= .dp c' off) (by
    unfold viewC;simp only[hid];exact⟨hd,hle,trivial⟩)
   subst hu;exact hr
  ·exact h.elim
 ·obtain⟨rfl,rfl⟩:=h;exact hx
 ·obtain⟨rfl,rfl,rfl,rfl⟩:=h;exact hx
 ·subst h;exact hx
 ·exact h.elim

theorem zdd(hH:HeapOK C β n H I w){x y:Cell}(hxl:x.low n){v:Value}(hx:x.rel β I w v)(h:x.to ty H is ρ y):y.rel (fun i=>β (ρ i)) (z1b β H is I) w v:=by
 unfold Cell.to at h
 split at h
 ·obtain⟨rfl,h⟩:=h
  obtain⟨h1,h2⟩:=z8b h;obtain⟨g,rfl,hg⟩:=hx;exact⟨g,by rw[h1],fun j hj=>zey hH (hxl _ (z2g (by omega))) (hg j (by omega)) (h2 j (by omega))⟩
 ·rename_i hne
  have hxc:∀ f l,x≠ .clo f l:=by
   rintro f l rfl
   cases y<;>first|exact h|exact hne _ _ _ _ rfl rfl
  have hyc:∀ f l,y≠ .clo f l:=by
   rintro f l rfl
   cases x<;>first|exact h|exact hne _ _ _ _ rfl rfl
  rw[Cell.rel_eq hxc]at hx;rw[Cell.rel_eq hyc];rw[Cell.low_eq hxc]at hxl;exact zey hH hxl hx h

theorem z69{c:Cont}{vs:List Value}:c.rel β I w vs↔(Cont.cells c.list).rel β I w vs:=by
 have hl:=Cont.list_length c
 constructor
 ·rintro ⟨h1,h2⟩
  exact⟨by rw[h1];exact hl.symm,fun j hj=>by
   obtain⟨v,hv,hr⟩:=h2 j (by simp only[Cont.len]at hj;omega)
   exact⟨v,hv,by rw[show(Cont.cells c.list).get j=c.list.getD j .nils from rfl,Cont.list_getD _ (by simp only[Cont.len]at hj;omega)];exact hr⟩⟩
 ·rintro ⟨h1,h2⟩
  exact⟨by rw[h1];exact hl,fun j hj=>by
   obtain⟨v,hv,hr⟩:=h2 j (by simp only[Cont.len];omega)
   exact⟨v,hv,by rw[show(Cont.cells c.list).get j=c.list.getD j .nils from rfl,Cont.list_getD _ hj]at hr;exact hr⟩⟩
theorem z3o{c:Cont}(hf:c.flat=true){β':Val}{I':Nat→Prop}{vs:List Value}(h:c.rel β I w vs):c.rel β' I' w vs:=(Cont.rel_flat hf).2 ((Cont.rel_flat hf).1 h)

theorem z6v(hH:HeapOK C β n H I w){c d:Cont}(hcl:c.low n){vs:List Value}(hx:c.rel β I w vs)(h:c.to ty H is ρ d):d.rel (fun i=>β (ρ i)) (z1b β H is I) w vs:=by
 have asL:∀ c d:Cont,c.list=d.list→c.rel β I w vs→d.rel β I w vs:=fun c d e h=>by
  rw[z69]at h ⊢;rw[←e];exact h
 unfold Cont.to at h
 split at h
 ·subst h;exact z3o rfl hx
 ·subst h;exact z3o rfl hx
 ·subst h;exact z3o rfl hx
 ·obtain⟨rfl,rfl⟩:=h;exact z3o rfl hx
 ·subst h;exact z3o rfl hx
 ·obtain⟨h1,h2⟩:=z8b h
  refine⟨by rw[hx.1];exact h1,fun j hj=>?_⟩
  simp only[Cont.len]at hj
  obtain⟨v,hv,hr⟩:=hx.2 j (by simp only[Cont.len];omega);exact⟨v,hv,zdd hH (hcl _ (z2g (by omega))) hr (h2 j (by omega))⟩
 ·exact z3o rfl (asL _ (.u8s _) (by simpa [Cont.list]using h) hx)
 ·exact z3o rfl (asL _ (.bools _) (by simpa [Cont.list]using h) hx)
 ·exact z3o rfl (asL _ (.ints _ _) (by simpa [Cont.list]using h) hx)
 ·have h0:=z3o (β':=fun i=>β (ρ i)) (I':=z1b β H is I) rfl hx
  rw[z69]at h0;rw[←h];exact h0
 ·have h0:=z3o (β':=fun i=>β (ρ i)) (I':=z1b β H is I) rfl hx
  rw[z69]at h0;rw[←h];exact h0
 ·have h0:=z3o (β':=fun i=>β (ρ i)) (I':=z1b β H is I) rfl hx
  rw[z69]at h0;rw[←h];exact h0
 ·exact h.elim

theorem zb6{f:Part→Part→Prop}:∀ {l m:List Part},zgy f l m→l.length=m.length∧∀ (j:Nat) y,m[j]? =some y→∃ x,l[j]? =some x∧f x y
 |[],[],_=>⟨rfl,fun j y hj=>by simp at hj⟩
 |x::l,y::m,h=>by
  obtain⟨h1,h2⟩:=zb6 h.2;refine⟨by simp[h1],fun j z hj=>?_⟩
  cases j with
  |zero=>simp at hj;subst hj;exact⟨x,rfl,h.1⟩
  |succ j=>have:=h2 j z (by simpa using hj);simpa using this
 |[],_::_,h=>h.elim
 |_::_,[],h=>h.elim

theorem z92(hH:HeapOK C β n H I w){x y:SV}(hxl:x.low n){v:Value}(hx:x.rel β I w v)(h:x.to ty H is ρ y):y.rel (fun i=>β (ρ i)) (z1b β H is I) w v:=by
 unfold SV.to at h
 split at h
 ·rename_i p q;exact zdd (x:=p) (y:=q) hH hxl hx h
 ·rename_i k k'
  obtain⟨vs,rfl,hr⟩:=hx;exact⟨vs,rfl,z6v (c:=k) (d:=k') hH hxl hr h⟩
 ·rename_i l l'
  obtain⟨vs,rfl,hl,hr⟩:=hx;obtain⟨h1,h2⟩:=zb6 h;refine⟨vs,rfl,by omega,fun j q hq=>?_⟩;obtain⟨p,hp,hpq⟩:=h2 j q hq;obtain⟨u,hu,hru⟩:=hr j p hp;refine⟨u,hu,?_⟩
  have hpl:=hxl p (List.mem_of_getElem? hp)
  unfold Part.to at hpq
  split at hpq
  ·rename_i a b;exact zdd (x:=a) (y:=b) hH hpl hru hpq
  ·rename_i k k'
   obtain⟨vs',rfl,hr'⟩:=hru;exact⟨vs',rfl,z6v (c:=k) (d:=k') hH hpl hr' hpq⟩
  ·exact hpq.elim
 ·exact h.elim

theorem Cont.to_len{c d:Cont}(h:c.to ty H is ρ d):c.len=d.len:=by
 unfold Cont.to at h
 split at h
 all_goals first
  |exact h.elim
  |(subst h;rfl)
  |(obtain⟨rfl,rfl⟩:=h;rfl)
  |exact(z8b h).1
  |(subst h;simp[Cont.len])

theorem St.le(hS:St Γ N C β n E H I a w){E':Env}{H':Heap}{n':Nat}(h:Le Γ C is ρ E H E' H' n'):St Γ N C (fun i=>β (ρ i)) n' E' H' (z1b β H is I) a w:=by
 have hH:=hS.heap
 have hI:∀ b,I b→z1b β H is I b:=fun b h=>.inl h
 refine⟨⟨hS.env.defers,fun i v hv=>?_,fun i v hv=>Env.low_get h.elow hv⟩,hS.size,?_,hS.glob.mono (Ext.widen hI),h.anch.1,fun i hi=>?_⟩
 ·obtain⟨u,hu,hto⟩:=Env.le_get h.env hv
  obtain⟨x,hx,hr⟩:=hS.env.slot i u hu;exact⟨x,hx,z92 hH (hS.env.low i u hu) hr hto⟩
 ·refine⟨hH.os,hH.tape,hH.output,hH.size,hH.frame,fun id o ho=>?_,fun id o ho=>Heap.low_get h.hlow ho,fun id o ho b hb=>?_,fun i j oi oj hij hi hj b hu hv=>?_,fun id o ho b hb hI'=>?_,z3f hH,fun b hb=>?_,fun b hb=>.inl (hH.base b hb)⟩
  ·obtain⟨hni,u,hu,hto⟩:=Heap.le_get h.heap ho
   have hh:=hH.holds _ _ hu
   have hl:=(hH.low _ _ hu).2
   unfold SObj.to at hto
   split at hto
   ·rename_i t c cap t' c' cap'
    obtain⟨rfl,rfl,hto⟩:=hto
    have hlen:=Cont.to_len hto
    rcases hh with⟨b,arr,h1,h2,h3,h4,h5⟩|⟨h1,h2,h3⟩
    ·exact .inl ⟨b,arr,h1,h2,h3,by omega,by rw[←hlen];exact z6v (c:=c) hH hl h5 hto⟩
    ·exact .inr ⟨h1,by omega,h3⟩
   ·rename_i t l t' l'
    obtain⟨rfl,rfl,hfl⟩:=hto;obtain⟨b,es,ck,h1,h2,h3,h4⟩:=hh
    exact⟨b,es,ck,h1,h2,h3,fun j x hx=>by
     obtain⟨e,he,h5,h6⟩:=h4 j x hx;obtain⟨f1,f2⟩:=hfl x (List.mem_of_getElem? hx)
     exact⟨e,he,(SV.rel_flat f1).2 ((SV.rel_flat f1).1 h5),(SV.rel_flat f2).2 ((SV.rel_flat f2).1 h6)⟩⟩
   ·exact hto.elim
  ·obtain⟨_,u,hu,_⟩:=Heap.le_get h.heap ho
   exact hH.fresh _ u hu b hb
  ·obtain⟨_,ui,hui,_⟩:=Heap.le_get h.heap hi
   obtain⟨_,uj,huj,_⟩:=Heap.le_get h.heap hj;exact hH.sep (ρ i) (ρ j) ui uj (fun e=>hij (z8a h.inj i (Heap.get_mem hi) j (Heap.get_mem hj) e)) hui huj b hu hv
  ·obtain⟨hni,u,hu,_⟩:=Heap.le_get h.heap ho
   rcases hI' with hI'|⟨id',o',hi',ho',hb'⟩
   ·exact hH.off _ u hu b hb hI'
   ·exact hH.sep (ρ id) id' u o' (fun e=>hni (e▸hi')) hu ho' b hb hb'
  ·rcases hb with hb|⟨id',o',hi',ho',hb'⟩
   ·exact hH.i0 b hb
   ·exact .inr (hH.fresh id' o' ho' b hb')
 ·show β (ρ i)=C.β0 i
  rw[h.anch.2 i hi];exact hS.anch.2 i hi

def WP(Γ:Ctx)(N:Nat)(C:CC)(c:Code)(E:Env)(H:Heap)(n:Nat)(Q:Exit→Act→World→Prop):Prop:=
 ∀ β I a w,St Γ N C β n E H I a w→c.wp Γ.P Q a w
def Done(Γ:Ctx)(N:Nat)(C:CC)(E:Env)(H:Heap)(n:Nat)(Q:Act→World→Prop):Prop:=
 ∀ β I a w,St Γ N C β n E H I a w→Q a w

variable {Q:Exit→Act→World→Prop}

theorem St.draw(hS:St Γ N C β n E H I a w):St Γ N C β n E H I a { w with drawn:=w.drawn+1 }:=
 have hs:Same w { w with drawn:=w.drawn+1 }:=(Below.refl _ w).drew
 ⟨hS.env.mono (fun _ _=>rfl) (hS.heap.ext hs) (Nat.le_refl _),hS.size,hS.heap.later hs,hS.glob.mono (hS.heap.ext hs),hS.anch⟩

theorem z04(hΓ:Γ.OK){id:Nat}{l:List Oper}(h:∀ K:Env→Heap→Nat→Prop,(∀ E H n,Done Γ N C E H n (Q .normal)→K E H n)→wpS Γ N l l E H n K):WP Γ N C (.region id l.toArray false) E H n Q:=
 fun _ _ _ _ hS=>wp_region_lit (z89 hΓ l hS (h _ fun _ _ _ h=>h) fun β' _ _ _ I' a' w' hK hS'=>hK β' I' a' w' hS')

theorem zgz(hΓ:Γ.OK){id:Nat}{l:List Oper}(hB:Region.lexB .any l.toArray=true)(h:∀ K:Env→Prop,(∀ E,Done Γ N C E H n (Q .normal)→K E)→wpQS Γ N l l E H K):WP Γ N C (.region id l.toArray true) E H n Q:=by
 intro β I a w hS
 have hd:=hS.draw
 refine wp_region_quiet (C:=Same { w with drawn:=w.drawn+1 }) hΓ.mixed hB (Below.refl _ _) ?_;exact z91 hΓ hd.glob hd.heap l hd.env hd.size (h _ fun _ h=>h) fun E' a' hK hE' hN' w' hw'=>hK β I a' w' ⟨hE'.mono (fun _ _=>rfl) (hd.heap.ext hw') (Nat.le_refl _),hN',hd.heap.later hw',hd.glob.mono (hd.heap.ext hw'),hd.anch⟩

theorem zh0(hΓ:Γ.OK){id:Nat}{l:List Oper}(r:List (Nat×Bool))(hl:r.length=l.length)(hsel:Region.noSelect l.toArray=true)(hB:z6i l.toArray r (Array.replicate l.toArray.size false)=true)(h:∀ K:Env→Heap→Nat→Prop,(∀ E H n,Done Γ N C E H n (Q .normal)→K E H n)→wpD Γ N l r E H n K):
  WP Γ N C (.region id l.toArray true) E H n Q:=by
 intro β I a w hS
 have hd:=hS.draw
 refine wp_mono (Q:=fun e a w=>e= .normal∧Q .normal a w) (wp_region_any hΓ.mixed (zcm _ _ _ _ ?_)) fun e a' w' h=>by obtain⟨rfl,h⟩:=h;exact h
 have:=z5p (Q:=fun e a w=>e= .normal∧Q .normal a w) hΓ hsel (fun c a a' w h=>by cases h.1) r _ hB (fun m k hm _=>by simp[Array.getD]at hm) hd (h _ fun _ _ _ h=>h) fun β' n' E' H' I' a' w' hK hS'=>⟨rfl,hK β' I' a' w' hS'⟩
 rw[show l.toArray.size=r.length by simp[hl]];rw[show(Array.replicate l.toArray.size false)=Array.replicate r.length false by simp[hl]]at this;exact this

theorem seq_k{x y:Code}(h:∀ K:Act→World→Prop,(∀ E H n,WP Γ N C y E H n Q→Done Γ N C E H n K)→WP Γ N C x E H n (Exit.then K Q)):WP Γ N C (.seq x y) E H n Q:=
 fun β I a w hS=>wp_seq (h (fun a w=>y.wp Γ.P Q a w) (fun _ _ _ h=>h) β I a w hS)

theorem z06{c:Operand}{x y:Code}{b:Bool}(hc:E.ev Γ.glob c=some (.c (.bool b)))(ht:b=true→WP Γ N C x E H n Q)(hf:b=false→WP Γ N C y E H n Q):WP Γ N C (.cond c x y) E H n Q:=by
 intro β I a w hS
 have:=(SV.rel_flat (x:=.c (.bool b)) rfl).1 (z82 hS.env hS.glob hc).1
 exact wp_cond_split this (fun h=>ht h β I a w hS) (fun h=>hf h β I a w hS)
theorem z0a{id:Nat}{c:Code}(h:WP Γ N C c E H n (Exit.inBlock id Q)):WP Γ N C (.block id c) E H n Q:=fun β I a w hS=>wp_block (h β I a w hS)
theorem z0g(h:Done Γ N C E H n (Q .normal)):WP Γ N C .skip E H n Q:=fun β I a w hS=>wp_skip (h β I a w hS)
theorem z0y{id:Nat}(h:Done Γ N C E H n (Q (.exit id))):WP Γ N C (.exit id) E H n Q:=fun β I a w hS=>wp_exit (h β I a w hS)
theorem z0b(h:Done Γ N C E H n (Q .ret)):WP Γ N C .ret E H n Q:=fun β I a w hS=>wp_ret (h β I a w hS)
theorem z0s{id:Nat}(h:Done Γ N C E H n (Q .normal)):Done Γ N C E H n (Exit.inBlock id Q (.exit id)):=fun β I a w hS=>by
 simpa [Exit.inBlock]using h β I a w hS
theorem z5q{id id':Nat}(hne:id'≠id)(h:Done Γ N C E H n (Q (.exit id'))):Done Γ N C E H n (Exit.inBlock id Q (.exit id')):=fun β I a w hS=>by
 simpa [Exit.inBlock,hne]using h β I a w hS
theorem z08{id:Nat}(h:Done Γ N C E H n (Q .normal)):Done Γ N C E H n (Exit.inBlock id Q .normal):=h
theorem z03{K:Act→World→Prop}{id:Nat}(h:Done Γ N C E H n (Q (.exit id))):Done Γ N C E H n (Exit.then K Q (.exit id)):=h

def Some'(Γ:Ctx)(N:Nat)(C:CC){α:Type}(E':α→Env)(H':α→Heap)(n':Nat)(J:α→Prop)(a:Act)(w:World):Prop:=
 ∃ x β' I',J x∧St Γ N C β' n' (E' x) (H' x) I' a w

theorem zm5{α:Type}{E':α→Env}{H':α→Heap}{n':Nat}{J:α→Prop}(is:List Nat)(ρ:Nat→Nat)(x:α)(hJ:J x)(hle:Le Γ C is ρ E H (E' x) (H' x) n'):Done Γ N C E H n (Some' Γ N C E' H' n' J):=
 fun _ _ _ _ hS=>⟨x,_,_,hJ,hS.le hle⟩
theorem WP_le{c:Code}{E':Env}{H':Heap}{n':Nat}(is:List Nat)(ρ:Nat→Nat)(hle:Le Γ C is ρ E H E' H' n')(h:WP Γ N C c E' H' n' Q):WP Γ N C c E H n Q:=
 fun _ _ a w hS=>h _ _ a w (hS.le hle)

theorem z13{α:Type}{body:Code}(E':α→Env)(H':α→Heap)(n':Nat)(J:α→Prop)(μ:α→Nat)(hs:Done Γ N C E H n (Some' Γ N C E' H' n' J))
  (round:∀ x,J x→WP Γ N C body (E' x) (H' x) n' (Exit.then (Some' Γ N C E' H' n' fun x'=>J x'∧μ x'< μ x) Q)):WP Γ N C (.loop body) E H n Q:=by
 intro β I a w hS b k cs
 have key:∀ m x β I a w,μ x=m→J x→St Γ N C β n' (E' x) (H' x) I a w→
   ∃ e a' w',Q e a' w'∧Arrives Γ.P (lone (b.at a (.code body:: .inLoop body::k)) cs w) b k cs e a' w':=by
  intro m
  induction m using Nat.strongRecOn with
  | _ m ih=>
   intro x β I a w hm hJ hS;obtain⟨e,a₁,w₁,hq,harr⟩:=round x hJ β I a w hS b (.inLoop body::k) cs
   cases e with
   |normal=>
    obtain⟨x',β',I',⟨hJ',hlt⟩,hS'⟩:=hq;obtain⟨e₂,a₂,w₂,hq₂,harr₂⟩:=ih (μ x') (hm▸hlt) x' β' I' a₁ w₁ rfl hJ' hS';exact⟨e₂,a₂,w₂,hq₂,.of_steps (Steps.trans harr (.one step_inLoop)) harr₂⟩
   |exit id=>exact⟨_,a₁,w₁,hq,.pass (x:=.inLoop body) rfl (fun _ _=>.inl (by simp)) harr⟩
   |goto l=>exact⟨_,a₁,w₁,hq,.pass (x:=.inLoop body) rfl (fun _ _=>.inl (by simp)) harr⟩
   |ret=>exact⟨_,a₁,w₁,hq,.pass (x:=.inLoop body) rfl (fun _ _=>.inl (by simp)) harr⟩
   |panic ch=>exact⟨_,a₁,w₁,hq,.pass (x:=.inLoop body) rfl (fun _ _=>.inl (by simp)) harr⟩
   |outgrown=>exact⟨_,a₁,w₁,hq,.pass (x:=.inLoop body) rfl (fun _ _=>.inl (by simp)) harr⟩
 obtain⟨x,β',I',hJ,hS'⟩:=hs β I a w hS;obtain⟨e,a',w',hq,harr⟩:=key _ x β' I' a w rfl hJ hS';exact⟨e,a',w',hq,.of_steps (.one step_loop) harr⟩

theorem z3a{α:Type}{x y:Code}(E':α→Env)(H':α→Heap)(n':Nat)(J:α→Prop)(hx:WP Γ N C x E H n (Exit.then (Some' Γ N C E' H' n' J) Q))(hy:∀ z,J z→WP Γ N C y (E' z) (H' z) n' Q):
  WP Γ N C (.seq x y) E H n Q:=by
 intro β I a w hS;refine wp_seq (wp_mono (hx β I a w hS) fun e a' w' h=>?_)
 cases e with
 |normal=>obtain⟨z,β',I',hJ,hS'⟩:=h;exact hy z hJ β' I' a' w' hS'
 |_=>exact h

theorem WP_nil{c:Code}(s:Nat)(e:TypeId)(k:Cont)(hs:E.get s=some (.c .nils))(hk:k.len=0)(hkb:k.low n)(h:WP Γ N C c ((s,.c (.slice n 0 0 0))::E) ((n,.own e k 0)::H) (n+1) Q):WP Γ N C c E H n Q:=by
 intro β I a w hS
 have hE:=hS.env.mono (z54 (β:=β) (n:=n) (x:=none)) (Ext.refl I w) (Nat.le_succ n)
 refine h (upd β n none) I a w ⟨⟨hE.defers,fun i v hv=>?_,fun i v hv=>?_⟩,hS.size,hS.heap.pushNil hk hkb,hS.glob,Nat.le_succ_of_le hS.anch.1,fun i hi=>?_⟩
 ·simp only[Env.get]at hv
  split at hv
  ·rename_i e';cases hv;subst e'
   obtain⟨x,hx,hr⟩:=hS.env.slot _ _ hs
   have:=(SV.rel_flat (x:=.c .nils) rfl).1 hr
   subst this;exact⟨_,hx,Nat.le_refl _,0,by simp[place,z2q,SV.val,Cell.val],.inl rfl⟩
  ·exact hE.slot i v hv
 ·simp only[Env.get]at hv
  split at hv
  ·cases hv;exact Nat.lt_succ_self n
  ·exact hE.low i v hv
 ·rw[z54 i (Nat.lt_of_lt_of_le hi hS.anch.1)];exact hS.anch.2 i hi
end
end Go.Ab

namespace Go.Ab
set_option linter.all false
open Go.RowKit
section
variable {Γ:Ctx} {N:Nat} {C:CC} {β:Val} {n:Nat} {E:Env} {H:Heap} {I:Nat→Prop} {a:Act} {w:World}

def SV.part:SV→Option Part
 | .c x=>some (.c x)
 | .agg k=>some (.agg k)
 | .tup _=>none

def resS(Γ:Ctx)(E:Env)(H:Heap):List ResultVar→(List SV→Prop)→Prop
 |[],K=>K []
 | .tmp t::rs,K=>onV (E.get t) fun v=>resS Γ E H rs fun vs=>K (v::vs)
 | .cell p t::rs,K=>onV (E.get p) fun v=>atS H v fun c off=>loadS Γ.ty t c off fun v=>resS Γ E H rs fun vs=>K (v::vs)

def z93:List SV→Option (List Part)
 |[]=>some []
 |v::vs=>match v.part,z93 vs with
  |some p,some l=>some (p::l)
  |_,_=>none
def packS:List SV→(SV→Prop)→Prop
 |[v],K=>K v
 |vs,K=>match z93 vs with
  |some ps=>K (.tup ps)
  |none=>False

theorem z9w:∀ {vs:List SV} {ps:List Part},z93 vs=some ps→ps.length=vs.length∧∀ (j:Nat) p,ps[j]? =some p→∃ v,vs[j]? =some v∧v.part=some p
 |[],ps,h=>by simp only[z93,Option.some.injEq]at h;subst h;exact⟨rfl,fun j p hp=>by simp at hp⟩
 | v::vs,ps,h=>by
  unfold z93 at h
  split at h
  ·rename_i p l hp hl
   cases h;obtain⟨h1,h2⟩:=z9w hl;refine⟨by simp[h1],fun j q hq=>?_⟩
   cases j with
   |zero=>simp at hq;subst hq;exact⟨v,rfl,hp⟩
   |succ j=>have:=h2 j q (by simpa using hq);simpa using this
  ·cases h
theorem SV.part_rel{v:SV}{p:Part}(h:v.part=some p){x:Value}(hr:v.rel β I w x)(hl:v.low n):p.rel β I w x∧p.low n:=by
 cases v<;>simp only[SV.part,Option.some.injEq,reduceCtorEq]at h<;>subst h<;>exact⟨hr,hl⟩

def resF(tmps:Array Value):ResultVar→Sem Value
 | .tmp t=>pure (tmps.getD t undef)
 | .cell p t=>do loadVar t (←asAddr (tmps.getD p undef))
theorem zku(fn:Func)(tmps:Array Value):results fn tmps=(do let vs ←fn.results.mapM (resF tmps);pure (if h:vs.size=1 then vs[0]else .tuple vs)):=by
 unfold results
 congr 1

theorem z94(hΓ:Γ.OK)(hS:St Γ N C β n E H I a w):∀ {rs:List ResultVar} {K:List SV→Prop},resS Γ E H rs K→
  ∃ vs xs,K vs∧z4l β n I w vs xs∧vs.length=rs.length∧(rs.mapM (resF a.tmps)).run Γ.P w= .ok xs w
 |[],K,h=>⟨[],[],h,⟨rfl,fun j v hv=>by simp at hv⟩,rfl,rfl⟩
 | .tmp t::rs,K,h=>by
  unfold resS onV at h
  split at h
  ·rename_i v hv
   obtain⟨vs,xs,hK,hc,hl,hr⟩:=z94 hΓ hS h;obtain⟨x,hx,hrel⟩:=hS.env.slot t v hv;refine⟨v::vs,x::xs,hK,⟨by simp[hc.1],fun j u hu=>?_⟩,by simp[hl],?_⟩
   ·cases j with
    |zero=>simp at hu;subst hu;exact⟨x,rfl,hrel,hS.env.low t _ hv⟩
    |succ j=>have:=hc.2 j u (by simpa using hu);simpa using this
   ·have h3:(resF a.tmps (.tmp t)).run Γ.P w= .ok x w:=by simp[resF,hx]
    rw[List.mapM_cons]
    simp only[Sem.run_bind,h3,Result.andThen_ok,hr,Sem.run_pure]
  ·exact h.elim
 | .cell p t::rs,K,h=>by
  unfold resS onV at h
  split at h
  ·rename_i v hv
   obtain⟨y,hy,hrel⟩:=hS.env.slot p v hv;obtain⟨c,off,h,hlow,hp⟩:=zel hS.heap hrel h;obtain⟨sv,u,h,hb,hru,hrun⟩:=zat (P:=Γ.P) hΓ.ty hlow hp h;obtain⟨vs,xs,hK,hc,hl,hr⟩:=z94 hΓ hS h;refine⟨sv::vs,u::xs,hK,⟨by simp[hc.1],fun j z hz=>?_⟩,by simp[hl],?_⟩
   ·cases j with
    |zero=>simp at hz;subst hz;exact⟨u,rfl,hru,hb⟩
    |succ j=>have:=hc.2 j z (by simpa using hz);simpa using this
   ·have h2:=hrun w (Below.refl _ _)
    have h3:(resF a.tmps (.cell p t)).run Γ.P w= .ok u w:=by
     simp only[resF,Array.getD_eq_getD_getElem?,hy,Option.getD_some]
     cases y with
     |pointer q=>
      cases q with
      |none=>simp[Instr.loadAt,Instr.sureAddr,stuck]at h2
      |some ad=>simpa [Instr.loadAt,Instr.sureAddr,asAddr]using h2
     |_=>simp[Instr.loadAt,Instr.sureAddr,stuck]at h2
    rw[List.mapM_cons]
    simp only[Sem.run_bind,h3,Result.andThen_ok,hr,Sem.run_pure]
  ·exact h.elim

theorem z30(hΓ:Γ.OK)(hS:St Γ N C β n E H I a w){fn:Func}{K:SV→Prop}(h:resS Γ E H fn.results.toList fun vs=>packS vs K):
  ∃ v x,K v∧v.rel β I w x∧v.low n∧(results fn a.tmps).run Γ.P w= .ok x w:=by
 obtain⟨vs,xs,hK,hc,hl,hr⟩:=z94 hΓ hS h
 have hm:(fn.results.mapM (resF a.tmps)).run Γ.P w= .ok xs.toArray w:=by
  rw[Array.mapM_eq_mapM_toList]
  simp[hr]
 have hres:∀ v:Value,(if h:xs.toArray.size=1 then xs.toArray[0]else .tuple xs.toArray)=v→(results fn a.tmps).run Γ.P w= .ok v w:=by
  rintro v rfl
  rw[zku]
  simp only[Sem.run_bind]
  rw[hm]
  rfl
 have many:vs.length≠1→(match z93 vs with|some ps=>K (.tup ps)|none=>False)→∃ v x,K v∧v.rel β I w x∧v.low n∧(results fn a.tmps).run Γ.P w= .ok x w:=by
  intro hne hK
  split at hK
  ·rename_i ps hps
   obtain⟨h1,h2⟩:=z9w hps;refine⟨.tup ps,.tuple xs.toArray,hK,⟨xs,rfl,by rw[hc.1,h1],fun j p hp=>?_⟩,fun p hp=>?_,hres _ ?_⟩
   ·obtain⟨v,hv,hvp⟩:=h2 j p hp
    obtain⟨x,hx,hr,hlow⟩:=hc.2 j v hv;exact⟨x,hx,(SV.part_rel hvp hr hlow).1⟩
   ·obtain⟨j,hj,rfl⟩:=List.mem_iff_getElem.1 hp
    obtain⟨v,hv,hvp⟩:=h2 j _ (List.getElem?_eq_getElem hj);obtain⟨x,hx,hr,hlow⟩:=hc.2 j v hv;exact(SV.part_rel hvp hr hlow).2
   ·rw[dif_neg]
    show ¬ xs.length=1
    rw[hc.1];exact hne
  ·exact hK.elim
 rcases vs with _|⟨v,_|⟨u,vs⟩⟩
 ·exact many (by simp) hK
 ·obtain⟨x,hx,hr,hlow⟩:=hc.2 0 v rfl
  have hl1:=hc.1
  rcases xs with _|⟨y,_|⟨z,zs⟩⟩
  ·simp at hl1
  ·have:y=x:=by simpa using hx
   subst this;exact⟨v,y,hK,hr,hlow,hres y rfl⟩
  ·simp at hl1
 ·exact many (by simp) hK

def pureC(w:World)(I:Nat→Prop):CC:={ F:=fun _=>False,w0:=w,I0:=I }

theorem HeapOK.same{w0:World}{I0:Nat→Prop}(h:HeapOK (pureC w0 I0) β n H I w):Same w0 w:=⟨h.os,h.tape,h.output,h.size,fun k hk=>h.frame k hk (fun h=>h)⟩
theorem HeapOK.grow{w0:World}{I0:Nat→Prop}(h:HeapOK (pureC w0 I0) β n H I w):GrowI I0 w0 I w:=
 ⟨h.same,h.base,fun b hb=>(h.i0 b hb).imp id fun h=>h.resolve_right fun h=>h,h.ilt⟩
theorem HeapOK.growRows{w0:World}{I0:Nat→Prop}(h:HeapOK (pureC w0 I0) β n H I w)(is:List Nat):GrowI I0 w0 (z1b β H is I) w:=
 ⟨h.same,fun b hb=>.inl (h.base b hb),fun b hb=>by
  rcases hb with hb|⟨id,o,_,ho,hb⟩
  ·exact(h.i0 b hb).imp (fun h=>h) fun h=>h.resolve_right fun h=>h
  ·exact .inr ((h.fresh id o ho b hb).resolve_right fun h=>h),z3f h⟩

def zik(w0:World)(v:SV)(e:Ending)(w':World):Prop:=e= .returned v.val∧Same w0 w'
def za9(w0:World)(I0:Nat→Prop)(v:SV)(e:Ending)(w':World):Prop:=∃ x I',e= .returned x∧v.rel noVal I' w' x∧GrowI I0 w0 I' w'
def zm6(w0:World)(I0:Nat→Prop)(t:TypeId)(s len:Nat)(c:Cont)(e:Ending)(w':World):Prop:=∃ x I',e= .returned x∧OwnRow I0 w0 I' w' t s len c x∧GrowI I0 w0 I' w'

theorem z02(hΓ:Γ.OK){fn:Func}{w0:World}{I0:Nat→Prop}{v:SV}{Q':Act→World→Prop}(hQ:∀ a w,bodyPost Γ.P fn (zik w0 v) .ret a w→Q' a w)(hf:v.flat=true)(rs:List ResultVar)(hrs:fn.results.toList=rs)
  (h:resS Γ E H rs fun vs=>packS vs fun x=>x=v):Done Γ N (pureC w0 I0) E H n Q':=by
 subst hrs;intro β I a w hS;obtain⟨u,x,rfl,hr,hl,hrun⟩:=z30 hΓ hS h;refine hQ a w ⟨hS.env.defers,x,hrun,?_,hS.heap.same⟩;rw[(SV.rel_flat hf).1 hr]

theorem z19(hΓ:Γ.OK){fn:Func}{w0:World}{I0:Nat→Prop}{v:SV}{Q':Act→World→Prop}(hQ:∀ a w,bodyPost Γ.P fn (za9 w0 I0 v) .ret a w→Q' a w)(hv:v.low 0)(is:List Nat)(rs:List ResultVar)(hrs:fn.results.toList=rs)
  (h:resS Γ E H rs fun vs=>packS vs fun x=>x.to Γ.ty H is id v):Done Γ N (pureC w0 I0) E H n Q':=by
 subst hrs;intro β I a w hS;obtain⟨u,x,hto,hr,hl,hrun⟩:=z30 hΓ hS h
 have hr':=z92 (ρ:=id) hS.heap hl hr hto
 exact hQ a w ⟨hS.env.defers,x,hrun,x,z1b β H is I,rfl,SV.rel_mono (n:=0) (fun i hi=>absurd hi (Nat.not_lt_zero i)) (Ext.refl _ _) hv hr',hS.heap.growRows is⟩

def ownRes(H:Heap)(t:TypeId)(s len:Nat)(c:Cont)(v:SV):Prop:=
 match v with
 | .c .nils=>len=0∧c.len=0
 | .c (.slice id off l cap)=>match H.get id with
  |some (.own t' c' capc)=>t'=t∧off=0∧l=len∧c'=c∧c.len=len*s∧capc=cap*s∧c.isD
  |_=>False
 |_=>False

theorem zaa(hΓ:Γ.OK){fn:Func}{w0:World}{I0:Nat→Prop}{t:TypeId}{s len:Nat}{c:Cont}{Q':Act→World→Prop}(hQ:∀ a w,bodyPost Γ.P fn (zm6 w0 I0 t s len c) .ret a w→Q' a w)(hs:0< s)(rs:List ResultVar)(hrs:fn.results.toList=rs)
  (h:resS Γ E H rs fun vs=>packS vs (ownRes H t s len c)):Done Γ N (pureC w0 I0) E H n Q':=by
 subst hrs;intro β I a w hS;obtain⟨u,x,hto,hr,hl,hrun⟩:=z30 hΓ hS h;refine hQ a w ⟨hS.env.defers,x,hrun,x,I,rfl,?_,hS.heap.grow⟩;unfold ownRes at hto
 split at hto
 ·obtain⟨rfl,h0⟩:=hto
  have:=(SV.rel_flat (x:=.c .nils) rfl).1 hr
  subst this;exact⟨none,0,0,rfl,.inl rfl,Nat.le_refl _,by simpa using h0,.inr ⟨rfl,h0,by simp⟩,fun b hb=>by cases hb⟩
 ·rename_i id off l cap
  split at hto
  ·rename_i t' c' capc hid
   obtain⟨rfl,rfl,rfl,rfl,hcl,rfl,hd⟩:=hto;obtain⟨hlc,off',rfl,hoff⟩:=hr
   have hnew:∀ b,β id=some b→w0.heap.size≤b∧¬ I b:=fun b hb=>⟨(hS.heap.fresh id _ hid b hb).resolve_right fun h=>h,hS.heap.off id _ hid b hb⟩
   have hh:=hS.heap.holds id _ hid
   have hhold:(SObj.own t' c' (cap*s)).Holds noVal I w (β id):=by
    rcases hh with⟨b,arr,h1,h2,h3,h4,h5⟩|h
    ·refine .inl ⟨b,arr,h1,h2,h3,h4,h5.1,fun j hj=>?_⟩
     obtain⟨u,hu,hru⟩:=h5.2 j hj;exact⟨u,hu,Cell.rel_of (Cell.rel_D (Cont.isD_get hd hj) hru)⟩
    ·exact .inr h
   refine⟨β id,cap,off',by simp[place],hoff,hlc,hcl,hhold,hnew⟩
  ·exact hto.elim
 ·exact hto.elim

def envOf:Nat→List SV→Env
 |_,[]=>[]
 |i,v::vs=>(i,v)::envOf (i+1) vs
theorem z6w:∀ {vs:List SV} {k i:Nat} {v:SV},(envOf k vs).get i=some v→∃ j,i=k+j∧vs[j]? =some v
 |[],_,_,_,h=>by cases h
 | u::vs,k,i,v,h=>by
  simp only[envOf,Env.get]at h
  split at h
  ·rename_i e;cases h;subst e;exact⟨0,rfl,rfl⟩
  ·obtain⟨j,hj,hv⟩:=z6w h
   exact⟨j+1,by omega,by simpa using hv⟩

theorem z7v{f:FuncId}{fn:Func}{c:Code}{vs:List SV}{xs:List Value}{R:Ending→World→Prop}(hf:Γ.P.funcs[f]? =some fn)(hb:fn.body=some c)(hN:fn.ntmps=N)(hn:vs.length≤N)
  (hH:HeapOK C β n H I w) (hG:z26 Γ.glob I w) (hA:C.n0≤n∧∀ i,i< C.n0→β i=C.β0 i) (hD:C.D=[]) (hr:z4l β n I w vs xs) (h:WP Γ N C c (envOf 0 vs) H n (bodyPost Γ.P fn R)):Calls Γ.P f xs.toArray w R:=by
 subst hN;refine calls_of_wp hf hb (h β I _ w ⟨⟨hD.symm,fun i v hv=>?_,fun i v hv=>?_⟩,by simp[hr.1];omega,hH,hG,hA⟩)
 ·obtain⟨j,rfl,hj⟩:=z6w hv
  obtain⟨x,hx,hrel,_⟩:=hr.2 j v hj
  have hlt:j< xs.length:=(List.getElem?_eq_some_iff.1 hx).1
  refine⟨x,?_,hrel⟩;rw[Array.getElem?_append_left (by simp;omega)]
  simpa using hx
 ·obtain⟨j,rfl,hj⟩:=z6w hv
  obtain⟨x,hx,_,hlow⟩:=hr.2 j v hj;exact hlow

theorem HeapOK.init(hlt:∀ b,I b→b< w.heap.size):HeapOK (pureC w I) noVal 0 [] I w:=
 ⟨rfl,rfl,rfl,Nat.le_refl _,fun _ _ _=>rfl,fun _ _ h=>(by cases h),fun _ _ h=>(by cases h),fun _ _ h=>(by cases h),fun _ _ _ _ _ h=>(by cases h),fun _ _ h=>(by cases h),hlt,fun _ h=>.inl h,fun _ h=>h⟩

theorem z95{f:FuncId}{fn:Func}{c:Code}{vs:List SV}{xs:List Value}{R:Ending→World→Prop}(hf:Γ.P.funcs[f]? =some fn)(hb:fn.body=some c)(hN:fn.ntmps=N)(hn:vs.length≤N)
  (hG:z26 Γ.glob I w) (hlt:∀ b,I b→b< w.heap.size) (hr:ArgsD I w vs xs) (h:WP Γ N (pureC w I) c (envOf 0 vs) [] 0 (bodyPost Γ.P fn R)):Calls Γ.P f xs.toArray w R:=
 z7v hf hb hN hn (HeapOK.init hlt) hG ⟨Nat.le_refl _,fun i hi=>absurd hi (Nat.not_lt_zero i)⟩ rfl hr h

theorem z0u{f:FuncId}{fn:Func}{c:Code}{q:QSpec}(hf:Γ.P.funcs[f]? =some fn)(hb:fn.body=some c)(hN:fn.ntmps=N)
  (h:∀ vs K,q vs K→∃ v,K v∧v.flat=true∧vs.length≤N∧∀ w I,WP Γ N (pureC w I) c (envOf 0 vs) [] 0 (bodyPost Γ.P fn (zik w v))):z11 Γ.P Γ.glob f q:=fun vs K hq=>by
 obtain⟨v,hK,hfl,hn,hw⟩:=h vs K hq;exact⟨v,hK,hfl,fun I w xs hG hlt hA=>z95 hf hb hN hn hG hlt hA (hw w I)⟩
theorem z3p{f:FuncId}{fn:Func}{c:Code}{q:QSpec}(hf:Γ.P.funcs[f]? =some fn)(hb:fn.body=some c)(hN:fn.ntmps=N)
  (h:∀ vs K,q vs K→∃ v,K v∧v.low 0∧vs.length≤N∧∀ w I,WP Γ N (pureC w I) c (envOf 0 vs) [] 0 (bodyPost Γ.P fn (za9 w I v))):z3u Γ.P Γ.glob f q:=fun vs K hq=>by
 obtain⟨v,hK,hfl,hn,hw⟩:=h vs K hq;exact⟨v,hK,hfl,fun I w xs hG hlt hA=>z95 hf hb hN hn hG hlt hA (hw w I)⟩
theorem zm7{f:FuncId}{fn:Func}{c:Code}{q:OSpec}(hf:Γ.P.funcs[f]? =some fn)(hb:fn.body=some c)(hN:fn.ntmps=N)
  (h:∀ vs K,q vs K→∃ t s len k,K t s len k∧k.low 0∧vs.length≤N∧∀ w I,WP Γ N (pureC w I) c (envOf 0 vs) [] 0 (bodyPost Γ.P fn (zm6 w I t s len k))):OwnOK Γ.P Γ.glob f q:=fun vs K hq=>by
 obtain⟨t,s,len,k,hK,hfl,hn,hw⟩:=h vs K hq;exact⟨t,s,len,k,hK,hfl,fun I w xs hG hlt hA=>z95 hf hb hN hn hG hlt hA (hw w I)⟩

theorem z4m{n:Int}:inR .i64 n↔ -9223372036854775808≤n∧n≤9223372036854775807:=by simp[inR,IntKind.min,IntKind.max,IntKind.signed,IntKind.bits]

variable {ops os:List Oper} {o:Oper}
theorem q_nil{K:Env→Prop}(h:K E):wpQS Γ N ops [] E H K:=h
theorem s_nil{K:Env→Heap→Nat→Prop}(h:K E H n):wpS Γ N ops [] E H n K:=h
theorem d_nil{K:Env→Heap→Nat→Prop}(h:K E H n):wpD Γ N ops [] E H n K:=h
theorem q_guard{d j:Nat}{want b:Bool}{K:Env→Prop}(hd:o.dst=some d)(hN:d< N)(hg:o.guard=some (j,want))(hy:z4u ops E j=some (some b))
  (h1:b=want→∀ K':SV→Prop,(∀ v,wpQS Γ N ops os ((d,v)::E) H K→K' v)→z9v Γ o E H K')
  (h2:b= !want→wpQS Γ N ops os ((d,z39)::E) H K):wpQS Γ N ops (o::os) E H K:=by
 refine⟨by rw[hd];exact hN,?_⟩;rw[hg,hd]
 simp only[hy]
 exact⟨fun e=>h1 e _ fun v h=>⟨v,SV.as_refl v,h⟩,h2⟩
theorem s_step{d:Nat}{K:Env→Heap→Nat→Prop}(hd:o.dst=some d)(hN:d< N)(hg:o.guard=none)
  (h:∀ K':SV→Heap→Nat→Prop,(∀ v H n,wpS Γ N ops os ((d,v)::E) H n K→K' v H n)→stepS Γ o E H n K'):wpS Γ N ops (o::os) E H n K:=by
 refine⟨by rw[hd];exact hN,?_⟩;rw[hg,hd];exact h _ fun v _ _ h=>⟨v,SV.as_refl v,h⟩
theorem s_step0{K:Env→Heap→Nat→Prop}(hd:o.dst=none)(hg:o.guard=none)
  (h:∀ K':SV→Heap→Nat→Prop,(∀ v H n,wpS Γ N ops os E H n K→K' v H n)→stepS Γ o E H n K'):wpS Γ N ops (o::os) E H n K:=by
 refine⟨by rw[hd];trivial,?_⟩;rw[hg,hd];exact h _ fun v _ _ h=>⟨v,SV.as_refl v,h⟩
theorem s_guard{d j:Nat}{want b:Bool}{K:Env→Heap→Nat→Prop}(hd:o.dst=some d)(hN:d< N)(hg:o.guard=some (j,want))(hy:z4u ops E j=some (some b))
  (h1:b=want→∀ K':SV→Heap→Nat→Prop,(∀ v H n,wpS Γ N ops os ((d,v)::E) H n K→K' v H n)→stepS Γ o E H n K')
  (h2:b= !want→wpS Γ N ops os ((d,z39)::E) H n K):wpS Γ N ops (o::os) E H n K:=by
 refine⟨by rw[hd];exact hN,?_⟩;rw[hg,hd]
 simp only[hy]
 exact⟨fun e=>h1 e _ fun v _ _ h=>⟨v,SV.as_refl v,h⟩,h2⟩
theorem d_read{i d:Nat}{r:List (Nat×Bool)}{K:Env→Heap→Nat→Prop}(ho:ops[i]? =some o)(hd:o.dst=some d)(hN:d< N)(hg:o.guard=none)
  (h:∀ K':SV→Prop,(∀ v,wpD Γ N ops r ((d,v)::E) H n K→K' v)→readS Γ o E H K'):wpD Γ N ops ((i,true)::r) E H n K:=by
 unfold wpD;rw[ho];refine⟨by rw[hd];exact hN,?_⟩;rw[hg,hd];exact h _ fun v h=>⟨v,SV.as_refl v,h⟩
theorem d_grow{i d:Nat}{r:List (Nat×Bool)}{K:Env→Heap→Nat→Prop}(ho:ops[i]? =some o)(hd:o.dst=some d)(hN:d< N)(hg:o.guard=none)
  (h:∀ K':SV→Heap→Nat→Prop,(∀ v H n,wpD Γ N ops r ((d,v)::E) H n K→K' v H n)→z7k Γ o E H n K'):wpD Γ N ops ((i,false)::r) E H n K:=by
 unfold wpD;rw[ho];refine⟨by rw[hd];exact hN,?_⟩;rw[hg,hd];exact h _ fun v _ _ h=>⟨v,SV.as_refl v,h⟩
theorem d_grow0{i:Nat}{r:List (Nat×Bool)}{K:Env→Heap→Nat→Prop}(ho:ops[i]? =some o)(hd:o.dst=none)(hg:o.guard=none)
  (h:∀ K':SV→Heap→Nat→Prop,(∀ v H n,wpD Γ N ops r E H n K→K' v H n)→z7k Γ o E H n K'):wpD Γ N ops ((i,false)::r) E H n K:=by
 unfold wpD;rw[ho];refine⟨by rw[hd];trivial,?_⟩;rw[hg,hd];exact h _ fun v _ _ h=>⟨v,SV.as_refl v,h⟩
theorem d_readg{i d j:Nat}{want b:Bool}{r:List (Nat×Bool)}{K:Env→Heap→Nat→Prop}(ho:ops[i]? =some o)(hd:o.dst=some d)(hN:d< N)(hg:o.guard=some (j,want))(hy:z4u ops E j=some (some b))
  (h:b=want→∀ K':SV→Prop,(∀ v,wpD Γ N ops r ((d,v)::E) H n K→K' v)→readS Γ o E H K') (h2:b= !want→wpD Γ N ops r ((d,z39)::E) H n K):wpD Γ N ops ((i,true)::r) E H n K:=by
 unfold wpD;rw[ho];refine⟨by rw[hd];exact hN,?_⟩;rw[hg,hd]
 simp only[hy]
 exact⟨fun e=>h e _ fun v h=>⟨v,SV.as_refl v,h⟩,h2⟩
end
end Go.Ab

namespace Go.Ab
set_option linter.all false

@[simp] theorem inR_i64_iff{n:Int}:inR .i64 n↔ -9223372036854775808≤n∧n≤9223372036854775807:=z4m
@[simp] theorem zm8{l:List UInt8}:(Cont.u8s l).len=l.length:=rfl
@[simp] theorem len_u32s{l:List UInt32}:(Cont.u32s l).len=l.length:=rfl
@[simp] theorem zil{l:List UInt64}:(Cont.u64s l).len=l.length:=rfl
@[simp] theorem z2h{k:IntKind}{l:List Int}:(Cont.ints k l).len=l.length:=rfl
@[simp] theorem z1t{l:List Bool}:(Cont.bools l).len=l.length:=rfl
@[simp] theorem z2v{l:List Cell}:(Cont.cells l).len=l.length:=rfl
@[simp] theorem solid_u8s{l:List UInt8}:(Cont.u8s l).solid:=trivial
@[simp] theorem solid_u32s{l:List UInt32}:(Cont.u32s l).solid:=trivial
@[simp] theorem solid_u64s{l:List UInt64}:(Cont.u64s l).solid:=trivial
@[simp] theorem zcn{k:IntKind}{l:List Int}:(Cont.ints k l).solid:=trivial
@[simp] theorem solid_bools{l:List Bool}:(Cont.bools l).solid:=trivial
@[simp] theorem max_i64:IntKind.max .i64=9223372036854775807:=rfl
@[simp] theorem bits_i64:IntKind.bits .i64=64:=rfl
theorem z09{c d:Cont}{K:Cont→Prop}(h:c.len=d.len)(hK:K d):c.splice 0 d K:=by
 unfold Cont.splice;rw[if_pos ⟨rfl,h⟩];exact hK
theorem z0p{p a b:Prop}[Decidable p](hp:p)(ha:a):if p then a else b:=by rw[if_pos hp];exact ha
theorem z0e{c:Cont}{off m:Nat}{K:Cont→Prop}(h:K (c.sub off m)):z6p c off m K:=by
 unfold z6p
 split
 ·rename_i e
  obtain⟨rfl,rfl⟩:=e;rw[Cont.sub_all]at h;exact h
 ·exact h
theorem z0d{c:Cont}{m:Nat}{K:Cont→Prop}(h:c.len=m)(hK:K c):z6p c 0 m K:=by
 unfold z6p;rw[if_pos ⟨rfl,h⟩];exact hK
theorem low_nil'{n:Nat}:(Cont.cells []).low n:=fun x hx=>by cases hx
theorem low_cons'{n:Nat}{x:Cell}{l:List Cell}(hx:x.low n)(h:(Cont.cells l).low n):(Cont.cells (x::l)).low n:=fun y hy=>by
 rcases List.mem_cons.1 hy with rfl|hy
 ·exact hx
 ·exact h y hy
end Go.Ab

namespace Go.Ab
set_option linter.all false
open Go.RowKit

theorem aI{p q:Prop}(h:p)(k:q):p∧q:=⟨h,k⟩
section
variable {a b:Prop}
theorem vcA(h:a:=by first|omega|exact trivial|rfl|(simp only[zm8,len_u32s,zil,z2h,z1t,z2v];omega)|exact z4m.mpr ⟨by omega,by omega⟩):a:=h
theorem vcB(h:a:=by first|(refine And.intro ?_ ?_<;>exact trivial)|exact⟨trivial,trivial,trivial⟩|decide|(refine And.intro rfl ?_;(repeat first|exact trivial|refine And.intro rfl ?_);done)|exact Nat.succ_pos _|exact Nat.le_refl _|(refine And.intro trivial ?_;(repeat first|exact trivial|refine And.intro trivial ?_);done)):a:=h
theorem cC0(h:a:=by first|rfl|omega|decide|(show(_:Nat)< _;decide)|exact low_nil'):a:=h
theorem cC1(h:a:=by first|exact Nat.le_refl _|exact Nat.succ_pos _):a:=h
end
theorem dQ:(∀ (p:Prop) [Decidable p],(decide p=true)=p)∧(∀ (p:Prop) [Decidable p],(decide p=false)=¬p)∧(∀ a b:Int,(¬a< b)=(b≤a))∧(∀ a b:Int,(¬a≤b)=(b< a))∧(∀ b:Bool,((!b)=true)=(b=false))∧(∀ b:Bool,((!b)=false)=(b=true))∧(∀ a b:Bool,((!a)=b)=(a= !b))∧((!true)=false)∧((!false)=true)∧((false=true)=False)∧(∀ m n:Nat,((m:Int)=n)=(m=n)):=
 ⟨fun p _=>propext decide_eq_true_iff,fun p _=>by simp,fun a b=>propext Int.not_lt,fun a b=>propext Int.not_le,fun b=>by cases b<;>simp,fun b=>by cases b<;>simp,fun a b=>by cases a<;>cases b<;>simp,rfl,rfl,by simp,fun m n=>propext Int.natCast_inj⟩

section
variable {Γ:Ctx} {N:Nat} {C:CC} {ops os:List Oper} {o:Oper} {E:Env} {H:Heap} {n:Nat}
theorem sS{d:Nat}{K:Env→Heap→Nat→Prop}(h:∀ K':SV→Heap→Nat→Prop,(∀ v H n,wpS Γ N ops os ((d,v)::E) H n K→K' v H n)→stepS Γ o E H n K')(hd:o.dst=some d:=by rfl)(hN:d< N:=by decide)(hg:o.guard=none:=by rfl):wpS Γ N ops (o::os) E H n K:=s_step hd hN hg h
theorem sS0{K:Env→Heap→Nat→Prop}(h:∀ K':SV→Heap→Nat→Prop,(∀ v H n,wpS Γ N ops os E H n K→K' v H n)→stepS Γ o E H n K')(hd:o.dst=none:=by rfl)(hg:o.guard=none:=by rfl):wpS Γ N ops (o::os) E H n K:=s_step0 hd hg h
theorem sS1{d:Nat}{v:SV}{H':Heap}{n':Nat}{K:Env→Heap→Nat→Prop}(h:wpS Γ N ops os ((d,v)::E) H' n' K)(hs:∀ K':SV→Heap→Nat→Prop,K' v H' n'→stepS Γ o E H n K':=by exact fun _ h=>h)(hd:o.dst=some d:=by rfl)(hN:d< N:=by decide)(hg:o.guard=none:=by rfl):wpS Γ N ops (o::os) E H n K:=
 s_step hd hN hg fun K' hS=>hs K' (hS _ _ _ h)
theorem dR{i d:Nat}{r:List (Nat×Bool)}{K:Env→Heap→Nat→Prop}(h:∀ K':SV→Prop,(∀ v,wpD Γ N ops r ((d,v)::E) H n K→K' v)→readS Γ o E H K')(ho:ops[i]? =some o:=by rfl)(hd:o.dst=some d:=by rfl)(hN:d< N:=by decide)(hg:o.guard=none:=by rfl):wpD Γ N ops ((i,true)::r) E H n K:=d_read ho hd hN hg h
theorem dD1{i d:Nat}{v:SV}{r:List (Nat×Bool)}{K:Env→Heap→Nat→Prop}(h:wpD Γ N ops r ((d,v)::E) H n K)(ho:ops[i]? =some o:=by rfl)(hs:∀ K':SV→Prop,K' v→readS Γ o E H K':=by exact fun _ h=>h)(hd:o.dst=some d:=by rfl)(hN:d< N:=by decide)(hg:o.guard=none:=by rfl):wpD Γ N ops ((i,true)::r) E H n K:=
 d_read ho hd hN hg fun K' hS=>hs K' (hS _ h)
theorem dG{i d:Nat}{r:List (Nat×Bool)}{K:Env→Heap→Nat→Prop}(h:∀ K':SV→Heap→Nat→Prop,(∀ v H n,wpD Γ N ops r ((d,v)::E) H n K→K' v H n)→z7k Γ o E H n K')(ho:ops[i]? =some o:=by rfl)(hd:o.dst=some d:=by rfl)(hN:d< N:=by decide)(hg:o.guard=none:=by rfl):wpD Γ N ops ((i,false)::r) E H n K:=d_grow ho hd hN hg h
theorem dT{i d j:Nat}{b:Bool}{r:List (Nat×Bool)}{K:Env→Heap→Nat→Prop}(h:∀ K':SV→Prop,(∀ v,wpD Γ N ops r ((d,v)::E) H n K→K' v)→readS Γ o E H K')(ho:ops[i]? =some o:=by rfl)(hd:o.dst=some d:=by rfl)(hN:d< N:=by decide)(hg:o.guard=some (j,b):=by rfl)(hy:z4u ops E j=some (some b):=by rfl):wpD Γ N ops ((i,true)::r) E H n K:=d_readg ho hd hN hg hy (fun _=>h) (fun e=>by cases b<;>cases e)
theorem sN{d j:Nat}{b:Bool}{K:Env→Heap→Nat→Prop}(h:wpS Γ N ops os ((d,z39)::E) H n K)(hd:o.dst=some d:=by rfl)(hN:d< N:=by decide)(hg:o.guard=some (j,b):=by rfl)(hy:z4u ops E j=some (some !b):=by rfl):wpS Γ N ops (o::os) E H n K:=s_guard hd hN hg hy (fun e=>by cases b<;>cases e) (fun _=>h)
theorem qN{d j:Nat}{b:Bool}{K:Env→Prop}(h:wpQS Γ N ops os ((d,z39)::E) H K)(hd:o.dst=some d:=by rfl)(hN:d< N:=by decide)(hg:o.guard=some (j,b):=by rfl)(hy:z4u ops E j=some (some !b):=by rfl):wpQS Γ N ops (o::os) E H K:=q_guard hd hN hg hy (fun e=>by cases b<;>cases e) (fun _=>h)
variable {Q:Exit→Act→World→Prop}
theorem leW(is:List Nat)(ρ:Nat→Nat)(E':Env)(H':Heap)(n':Nat)(ks:List Nat){c:Code}(h1:Env.le Γ.ty H is ρ E E')(h2:Heap.le Γ.ty H is ρ H')(h3:Env.low n' E')(h4:Heap.low n' H')(h:WP Γ N C c E' H' n' Q)(h5:(H'.map (·.1)).map ρ=ks:=by rfl)(h6:ks.Nodup:=by decide)(h7:C.n0≤n'∧∀ i,i< C.n0→ρ i=i:=by exact⟨Nat.zero_le _,fun i hi=>absurd hi (Nat.not_lt_zero i)⟩):WP Γ N C c E H n Q:=
 WP_le is ρ ⟨h1,h2,h5▸h6,h3,h4,h7⟩ h
theorem dnS{α:Type}{E':α→Env}{H':α→Heap}{n':Nat}{J:α→Prop}(is:List Nat)(ρ:Nat→Nat)(x:α)(hJ:J x)(ks:List Nat)(h1:Env.le Γ.ty H is ρ E (E' x))(h2:Heap.le Γ.ty H is ρ (H' x))(h3:Env.low n' (E' x))(h4:Heap.low n' (H' x))(h5:((H' x).map (·.1)).map ρ=ks:=by rfl)(h6:ks.Nodup:=by decide)(h7:C.n0≤n'∧∀ i,i< C.n0→ρ i=i:=by exact⟨Nat.zero_le _,fun i hi=>absurd hi (Nat.not_lt_zero i)⟩):Done Γ N C E H n (Some' Γ N C E' H' n' J):=
 zm5 is ρ x hJ ⟨h1,h2,h5▸h6,h3,h4,h7⟩
end
end Go.Ab

namespace Go.Ab
set_option linter.all false
open Go.RowKit
section
variable {Γ:Ctx} {N:Nat} {C:CC} {β:Val} {n:Nat} {E:Env} {H:Heap} {I:Nat→Prop} {a:Act} {w:World}

def ptrC(w:World)(I:Nat→Prop)(b:Nat):CC:={ F:=fun k=>k=b,w0:=w,I0:=I,β0:=fun _=>some b,n0:=1 }
abbrev PSpec:=TypeId→Cont→Nat→Nat→List SV→(Cont→SV→Prop)→Prop
theorem Heap.get_one{o o':SObj}{id:Nat}(h:Heap.get [(0,o)] id=some o'):id=0∧o=o':=by
 simp only[Heap.get]at h
 split at h
 ·rename_i e;cases h;exact⟨e.symm,rfl⟩
 ·cases h

def zm9(w0:World)(I0:Nat→Prop)(b:Nat)(te:TypeId)(c':Cont)(cap:Nat)(v:SV)(e:Ending)(w':World):Prop:=
 e= .returned v.val∧∃ I' β' n',HeapOK (ptrC w0 I0 b) β' n' [(0,.own te c' cap)] I' w'∧β' 0=some b

theorem zez(hΓ:Γ.OK){fn:Func}{w0:World}{I0:Nat→Prop}{b:Nat}{te:TypeId}{c':Cont}{cap:Nat}{Q':Act→World→Prop}(hQ:∀ a w,bodyPost Γ.P fn (zm9 w0 I0 b te c' cap z39) .ret a w→Q' a w)(hrs:fn.results.toList=[])
  (hH':H.get 0=some (.own te c' cap)):Done Γ N (ptrC w0 I0 b) E H n Q':=by
 intro β I a w hS;obtain⟨u,x,rfl,hr,hl,hrun⟩:=z30 (K:=fun x=>x= .tup []) hΓ hS (fn:=fn) (by rw[hrs];exact rfl);refine hQ a w ⟨hS.env.defers,x,hrun,?_,I,β,n,?_,?_⟩
 ·obtain⟨vs,h1,h2,_⟩:=hr
  rw[h1,List.eq_nil_of_length_eq_zero h2]
  rfl
 ·refine hS.heap.sub fun id o ho=>?_
  obtain⟨rfl,rfl⟩:=Heap.get_one ho;exact hH'
 ·exact hS.anch.2 0 Nat.one_pos

end
end Go.Ab

namespace Go.Ab
set_option linter.all false
open Go.RowKit

def fr(ro:Option Nat):Fence:={ Fence.wide with round:=ro }
section
variable {P:Program} {a:Act} {w:World} {m:Nat} {ro:Option Nat}

theorem zkv{f:FuncId}{args:Array Value}{R:Ending→World→Prop}(h:Calls P f args w R):CallsIn (fr ro) m P f args w R:=by
 have h2:CallsIn Fence.wide m P f args w R:=callsIn_wide.2 h
 cases ro with
 |none=>exact h2
 |some l=>exact CallsIn.inRound l h2

theorem Runs.wpIn{o:Oper}{R:Value→World→Prop}(h:Runs P a o w R)(hnd:∀ c,o.op≠ .defer c){K:Act→World→Prop}{Q:Exit→Act→World→Prop}(hK:∀ v w',R v w'→K (a.put o.dst v) w'):o.wpIn (fr ro) m P a w K Q:=by
 refine⟨fun _ _=>trivial,?_⟩;rw[show(fr ro).round=ro from rfl,Oper.semAt_eq ro a.eval o hnd];unfold Runs at h;unfold Oper.uponIn
 split at h
 ·rename_i v w' hr;rw[hr];exact hK _ _ h
 ·rename_i w' hr;rw[hr];exact hK _ _ h
 ·rename_i f args w' hr;rw[hr]
  refine⟨fun hd=>(by cases hd),zkv (Calls.mono h fun e w'' ⟨v,he,hR⟩=>?_)⟩;subst he;exact hK _ _ hR
 ·exact h.elim

theorem zkw{o:Oper}{c:Call}{x:Operand}{l:Nat}{R:Ending→World→Prop}(ho:o.op= .call c)(hc:c.callee= .value x)(hx:a.eval x= .func (.yield l) #[] #[])(hy:YieldAt (fr ro) (m - 1) P l (c.args.map a.eval) w R)
  {K:Act→World→Prop} {Q:Exit→Act→World→Prop} (hK:∀ e w',R e w'→∃ v,e= .returned v∧K (a.put o.dst v) w'):o.wpIn (fr ro) m P a w K Q:=by
 refine⟨fun _ _=>trivial,?_⟩;rw[show(fr ro).round=ro from rfl,Oper.semAt_eq ro a.eval o (fun c' h=>by rw[ho]at h;cases h)];obtain⟨fn,tmps,assign,body,hrun,hR⟩:=hy
 have e:(execOp a.eval o).run P w= .ok (.round l fn tmps assign body) w:=by
  simp only[execOp,ho,resolve,hc,hx,Deferred.ofValue,Sem.run_bind,Sem.run_pure,Result.andThen_ok,invoke,Array.empty_append]
  simpa using hrun
 rw[e];refine⟨fun hd=>(by cases hd),RoundIn.mono hR fun e' w' hRe=>?_⟩;obtain⟨v,rfl,hk⟩:=hK e' w' hRe;exact hk
end

section
variable {Γ:Ctx} {N:Nat} {C:CC} {β:Val} {n:Nat} {E:Env} {H:Heap} {I:Nat→Prop} {a:Act} {w:World} {m:Nat} {ro:Option Nat}

def wpY(Γ:Ctx)(N:Nat):List Oper→Env→Heap→Nat→(Env→Heap→Nat→Prop)→Prop
 |[],E,H,n,K=>K E H n
 |o::os,E,H,n,K=>(dstOK N o.dst∧o.guard=none∧∀ c,o.op≠ .defer c)∧stepS Γ o E H n fun v H n=>∃ v',v.as v'∧wpY Γ N os (E.put o.dst v') H n K

theorem z8c(hΓ:Γ.OK){ops:Array Oper}{Q:Exit→Act→World→Prop}{rest:List Nat}{K:Env→Heap→Nat→Prop}
  (hK:∀ β' n' E' H' I' a' w',K E' H' n'→St Γ N C β' n' E' H' I' a' w'→wpOpsIn (fr ro) m Γ.P ops Q rest a' w'):
  ∀ (os:List Oper) (k:Nat) (β:Val) (n:Nat) (E:Env) (H:Heap) (I:Nat→Prop) (a:Act) (w:World),(∀ j,j< os.length→ops[k+j]? =os[j]?)→St Γ N C β n E H I a w→wpY Γ N os E H n K→
   wpOpsIn (fr ro) m Γ.P ops Q (List.range' k os.length++rest) a w
 |[],k,β,n,E,H,I,a,w,_,hS,h=>by simpa using hK β n E H I a w h hS
 |o::os,k,β,n,E,H,I,a,w,hl,hS,h=>by
  obtain⟨⟨hd,hg,hnd⟩,h⟩:=h
  have h0:ops[k]? =some o:=by simpa using hl 0 (by simp)
  rw[List.length_cons,List.range'_succ,List.cons_append];unfold wpOpsIn
  simp only[h0,Region.wanted,hg,if_true]
  refine(z68 hΓ hS.env hS.glob hS.heap h).wpIn hnd fun x w' hA=>?_;obtain⟨v,H',n',β',I',hK',hS'⟩:=hS.after hA.as hd;exact z8c hΓ hK os (k+1) _ _ _ _ _ _ _ (fun j hj=>by have:=hl (j+1) (by simp;omega);simpa [Nat.add_assoc,Nat.add_comm 1 j]using this) hS' hK'

theorem zkx(hΓ:Γ.OK){id:Nat}{l:List Oper}{Q:Exit→Act→World→Prop}(h:∀ K:Env→Heap→Nat→Prop,(∀ E H n,Done Γ N C E H n (Q .normal)→K E H n)→wpY Γ N l E H n K)(hS:St Γ N C β n E H I a w):
  (Code.region id l.toArray false).wpIn (fr ro) m Γ.P Q a w:=by
 refine wpIn_region ?_;rw[show List.range l.toArray.size=List.range' 0 l.length++[] by simp[List.range_eq_range']];exact z8c hΓ (fun β' n' E' H' I' a' w' hK hS'=>hK β' I' a' w' hS') l 0 β n E H I a w (fun j _=>by simp) hS (h _ fun _ _ _ h=>h)
end
end Go.Ab

namespace Go.Ab
set_option linter.all false
open Go.RowKit
section
variable {Γ:Ctx} {N:Nat} {C:CC} {β:Val} {n:Nat} {E:Env} {H:Heap} {I:Nat→Prop} {a:Act} {w:World} {l:List Oper} {Q:Exit→Act→World→Prop}

end
end Go.Ab

namespace Go.Ab
set_option linter.all false
open Go.RowKit
section
variable {Γ:Ctx} {N:Nat} {C:CC} {β β':Val} {n n':Nat} {E:Env} {H H':Heap} {I I':Nat→Prop} {a:Act} {w w':World} {m:Nat} {ro:Option Nat} {Q:Exit→Act→World→Prop}

def ankC(w:World)(I:Nat→Prop)(β:Val)(n:Nat)(H:Heap)(D:List Deferred):CC:={ F:=fun b=>∃ id o,H.get id=some o∧β id=some b,w0:=w,I0:=I,β0:=β,n0:=n,D:=D }

theorem HeapOK.ank(h:HeapOK C β n H I w)(D:List Deferred):HeapOK (ankC w I β n H D) β n H I w:=
 ⟨rfl,rfl,rfl,Nat.le_refl _,fun _ _ _=>rfl,h.holds,h.low,fun id o ho b hb=>.inr ⟨id,o,ho,hb⟩,h.sep,h.off,h.ilt,fun _ h=>.inl h,fun _ h=>h⟩

theorem HeapOK.unank{D:List Deferred}(h:HeapOK C β n H I w)(k:HeapOK (ankC w I β n H D) β' n' H' I' w'):HeapOK C β' n' H' I' w':=by
 have hfr:∀ b,(∃ id o,H.get id=some o∧β id=some b)→C.w0.heap.size≤b∨C.F b:=fun b ⟨id,o,ho,hb⟩=>h.fresh id o ho b hb
 have hsz:w.heap.size≤w'.heap.size:=k.size
 refine⟨k.os.trans h.os,k.tape.trans h.tape,k.output.trans h.output,Nat.le_trans h.size hsz,fun b hb hF=>?_,k.holds,k.low,fun id o ho b hb=>?_,k.sep,k.off,k.ilt,fun b hb=>?_,fun b hb=>k.base b (h.base b hb)⟩
 ·refine(k.frame b (Nat.lt_of_lt_of_le hb h.size) fun hf=>?_).trans (h.frame b hb hF)
  rcases hfr b hf with h1|h1
  ·omega
  ·exact hF h1
 ·rcases k.fresh id o ho b hb with h1|h1
  ·exact .inl (Nat.le_trans h.size h1)
  ·exact hfr b h1
 ·rcases k.i0 b hb with h1|h1|h1
  ·exact h.i0 b h1
  ·exact .inr (.inl (Nat.le_trans h.size h1))
  ·exact .inr (hfr b h1)

theorem HeapOK.ankExt{D:List Deferred}(h:HeapOK C β n H I w)(k:HeapOK (ankC w I β n H D) β' n' H' I' w'):Ext I w I' w':=
 fun b hb=>⟨k.base b hb,k.frame b (h.ilt b hb) fun⟨id,o,ho,hb'⟩=>h.off id o ho b hb' hb⟩

structure Aside(β:Val)(H:Heap)(I:Nat→Prop)(w:World)(r:Nat)(o:Obj):Prop where
 at':w.heap[r]? =some o
 data:¬ I r
 own:∀ id o,H.get id=some o→∀ b,β id=some b→b≠r

theorem Aside.lt{r:Nat}{o:Obj}(h:Aside β H I w r o):r< w.heap.size:=(Array.getElem?_eq_some_iff.1 h.at').1

theorem Aside.ank{D:List Deferred}{r:Nat}{o:Obj}(h:Aside β H I w r o)(k:HeapOK (ankC w I β n H D) β' n' H' I' w'):Aside β' H' I' w' r o:=by
 have hno:¬ ∃ id o,H.get id=some o∧β id=some r:=fun⟨id,o,ho,hb⟩=>h.own id o ho r hb rfl
 refine⟨(k.frame r h.lt hno).trans h.at',fun hI=>?_,fun id o ho b hb e=>?_⟩
 ·rcases k.i0 r hI with h1|h1|h1
  ·exact h.data h1
  ·exact absurd h.lt (Nat.not_lt.2 h1)
  ·exact hno h1
 ·subst e
  rcases k.fresh id o ho b hb with h1|h1
  ·exact absurd h.lt (Nat.not_lt.2 h1)
  ·exact hno h1

theorem Aside.put{r r':Nat}{o o':Obj}(h:Aside β H I w r o)(hne:r≠r'):Aside β H I (w.putObj r' o') r o:=⟨(World.putObj_heap_other hne).trans h.at',h.data,h.own⟩
theorem Aside.same{r:Nat}{o:Obj}(h:Aside β H I w r o)(o':Obj):Aside β H I (w.putObj r o') r o':=⟨World.putObj_heap_same h.lt,h.data,h.own⟩

theorem HeapOK.other(h:HeapOK C β n H I w){r:Nat}{o:Obj}(hr:C.w0.heap.size≤r)(hA:Aside β H I w r o)(o':Obj):HeapOK C β n H I (w.putObj r o')∧Ext I w I (w.putObj r o'):=by
 have hE:Ext I w I (w.putObj r o'):=fun b hb=>⟨hb,World.putObj_heap_other (fun e=>hA.data (e▸hb))⟩
 refine⟨⟨h.os,h.tape,h.output,by rw[World.putObj_size];exact h.size,fun k hk hf=>?_,fun id o' ho=>?_,h.low,h.fresh,h.sep,h.off,fun b hb=>by rw[World.putObj_size];exact h.ilt b hb,h.i0,h.base⟩,hE⟩
 ·rw[World.putObj_heap_other (by omega)];exact h.frame k hk hf
 ·exact(h.holds id o' ho).mono (n:=n) (fun _ _=>rfl) hE (h.low id o' ho).2 fun b hb=>World.putObj_heap_other (hA.own id o' ho b hb)

theorem HeapOK.party{D D':Nat→Prop}{β1:Val}{n1:Nat}{H1:Heap}(h:HeapOK C β n H I w)(k:HeapOK (pureC w D) β1 n1 H1 D' w')(hD:∀ b,D b→I b):HeapOK C β n H (fun b=>I b∨D' b) w':=by
 have hs:Same w w':=k.same
 have hsz:=hs.size
 refine(h.later hs).widen (fun b hb=>.inl hb) (fun b hb=>?_) (fun id o ho b hb hI=>?_) (fun b hb=>?_)
 ·rcases hb with hb|hb
  ·exact Nat.lt_of_lt_of_le (h.ilt b hb) hsz
  ·exact k.ilt b hb
 ·rcases hI with hI|hI
  ·exact h.off id o ho b hb hI
  ·rcases k.i0 b hI with h1|h1|h1
   ·exact h.off id o ho b hb (hD b h1)
   ·have:=(h.holds id o ho).lt hb
    have h1':w.heap.size≤b:=h1
    omega
   ·exact h1
 ·rcases hb with hb|hb
  ·exact h.i0 b hb
  ·rcases k.i0 b hb with h1|h1|h1
   ·exact h.i0 b (hD b h1)
   ·exact .inr (.inl (Nat.le_trans h.size h1))
   ·exact h1.elim

theorem Aside.party{D D':Nat→Prop}{β1:Val}{n1:Nat}{H1:Heap}{r:Nat}{o:Obj}(h:Aside β H I w r o)(k:HeapOK (pureC w D) β1 n1 H1 D' w')(hD:∀ b,D b→I b):Aside β H (fun b=>I b∨D' b) w' r o:=by
 refine⟨(k.same.block r h.lt).trans h.at',fun hI=>?_,h.own⟩
 rcases hI with hI|hI
 ·exact h.data hI
 ·rcases k.i0 r hI with h1|h1|h1
  ·exact h.data (hD r h1)
  ·exact absurd h.lt (Nat.not_lt.2 h1)
  ·exact h1

theorem HeapOK.reval(h:HeapOK C β' n' H I w)(hl:∀ id o,H.get id=some o→id< n∧o.low n)(hβ:∀ i,i< n→β' i=β i):HeapOK C β n H I w:=by
 have e:∀ id o,H.get id=some o→β id=β' id:=fun id o ho=>(hβ id (hl id o ho).1).symm
 refine⟨h.os,h.tape,h.output,h.size,h.frame,fun id o ho=>?_,hl,fun id o ho b hb=>h.fresh id o ho b (e id o ho▸hb),fun i j oi oj hij hi hj b hb hb'=>h.sep i j oi oj hij hi hj b (e i oi hi▸hb) (e j oj hj▸hb'),fun id o ho b hb=>h.off id o ho b (e id o ho▸hb),h.ilt,h.i0,h.base⟩;rw[e id o ho];exact(h.holds id o ho).mono (n:=n) (fun i hi=>(hβ i hi).symm) (Ext.refl _ _) (hl id o ho).2 fun _ _=>rfl
theorem Aside.reval{r:Nat}{o:Obj}(h:Aside β' H I w r o)(hl:∀ id o,H.get id=some o→id< n∧o.low n)(hβ:∀ i,i< n→β' i=β i):Aside β H I w r o:=
 ⟨h.at',h.data,fun id o ho b hb=>h.own id o ho b ((hβ id (hl id o ho).1).trans hb)⟩
theorem Aside.sub{H2:Heap}{r:Nat}{o:Obj}(h:Aside β H I w r o)(hs:∀ id o,H2.get id=some o→H.get id=some o):Aside β H2 I w r o:=⟨h.at',h.data,fun id o ho=>h.own id o (hs id o ho)⟩

def WPi(Γ:Ctx)(N:Nat)(C:CC)(ro:Option Nat)(m:Nat)(c:Code)(E:Env)(H:Heap)(n:Nat)(Q:Exit→Act→World→Prop):Prop:=
 ∀ β I a w,St Γ N C β n E H I a w→c.wpIn (fr ro) m Γ.P Q a w
theorem zco(hΓ:Γ.OK){id:Nat}{l:List Oper}(h:∀ K:Env→Heap→Nat→Prop,(∀ E H n,Done Γ N C E H n (Q .normal)→K E H n)→wpY Γ N l E H n K):WPi Γ N C ro m (.region id l.toArray false) E H n Q:=
 fun _ _ _ _ hS=>zkx hΓ h hS
theorem zma{id:Nat}{c:Code}(h:WPi Γ N C ro m c E H n (Exit.inBlock id Q)):WPi Γ N C ro m (.block id c) E H n Q:=fun β I a w hS=>wpIn_block (h β I a w hS)

theorem y_nil{K:Env→Heap→Nat→Prop}(h:K E H n):wpY Γ N [] E H n K:=h
theorem z5r{o:Oper}{os:List Oper}{d:Nat}{K:Env→Heap→Nat→Prop}(hd:o.dst=some d)(hN:d< N)(hg:o.guard=none)(hnd:∀ c,o.op≠ .defer c)
  (h:∀ K':SV→Heap→Nat→Prop,(∀ v H n,wpY Γ N os ((d,v)::E) H n K→K' v H n)→stepS Γ o E H n K'):wpY Γ N (o::os) E H n K:=by
 refine⟨⟨by rw[hd];exact hN,hg,hnd⟩,?_⟩;rw[hd];exact h _ fun v _ _ h=>⟨v,SV.as_refl v,h⟩

theorem Heap.sub_of{H:Heap}:∀ {H':Heap},(∀ x∈H',H.get x.1=some x.2)→∀ i o,H'.get i=some o→H.get i=some o
 |[],_,_,_,h=>by cases h
 |(j,u)::H',hx,i,o,h=>by
  simp only[Heap.get]at h
  split at h
  ·rename_i e;cases h;subst e;exact hx _ List.mem_cons_self
  ·exact Heap.sub_of (fun x hm=>hx x (List.mem_cons_of_mem _ hm)) i o h

end
end Go.Ab

namespace Go.Ab
set_option linter.all false
open Go.RowKit
section
variable {Γ:Ctx} {N:Nat} {C:CC} {β β':Val} {n n':Nat} {E:Env} {H H':Heap} {I I':Nat→Prop} {a:Act} {w w':World} {m:Nat} {Q:Exit→Act→World→Prop}

theorem zb7{P:Program}{body:Code}(At:Nat→Act→World→Prop)(K:Nat)(hK:∀ k a w,At k a w→k≤K)(round:∀ k a w,At k a w→body.wp P (Exit.then (At (k+1)) Q) a w)(k:Nat)(a:Act)(w:World)(h:At k a w):(Code.loop body).wp P Q a w:=by
 intro b k' cs
 have key:∀ m k a w,K+1 - k=m→At k a w→∃ e a' w',Q e a' w'∧Arrives P (lone (b.at a (.code body:: .inLoop body::k')) cs w) b k' cs e a' w':=by
  intro m
  induction m with
  |zero=>intro k a w hm h;have:=hK k a w h;omega
  | succ m ih=>
   intro k a w hm h;obtain⟨e,a₁,w₁,hq,harr⟩:=round k a w h b (.inLoop body::k') cs
   cases e with
   |normal=>
    obtain⟨e₂,a₂,w₂,hq₂,harr₂⟩:=ih (k+1) a₁ w₁ (by omega) hq;exact⟨e₂,a₂,w₂,hq₂,.of_steps (Steps.trans harr (.one step_inLoop)) harr₂⟩
   |exit id=>exact⟨_,a₁,w₁,hq,.pass (x:=.inLoop body) rfl (fun _ _=>.inl (by simp)) harr⟩
   |goto l=>exact⟨_,a₁,w₁,hq,.pass (x:=.inLoop body) rfl (fun _ _=>.inl (by simp)) harr⟩
   |ret=>exact⟨_,a₁,w₁,hq,.pass (x:=.inLoop body) rfl (fun _ _=>.inl (by simp)) harr⟩
   |panic ch=>exact⟨_,a₁,w₁,hq,.pass (x:=.inLoop body) rfl (fun _ _=>.inl (by simp)) harr⟩
   |outgrown=>exact⟨_,a₁,w₁,hq,.pass (x:=.inLoop body) rfl (fun _ _=>.inl (by simp)) harr⟩
 obtain⟨e,a',w',hq,harr⟩:=key _ k a w rfl h;exact⟨e,a',w',hq,.of_steps (.one step_loop) harr⟩

def AtJ(Γ:Ctx)(N:Nat)(J:(Nat→Prop)→World→Prop)(E:Env)(a:Act)(w:World):Prop:=∃ D β n,J D w∧St Γ N (pureC w D) β n E [] D a w

theorem AtJ.wp{J:(Nat→Prop)→World→Prop}{c:Code}(hA:AtJ Γ N J E a w)(h:∀ D w n,J D w→WP Γ N (pureC w D) c E [] n Q):c.wp Γ.P Q a w:=by
 obtain⟨D,β,n,hJ,hS⟩:=hA;exact h D w n hJ β D a w hS

theorem St.atJ{J:(Nat→Prop)→World→Prop}{w0:World}{D0:Nat→Prop}(hJ:J D0 w0)(hab:∀ D w D' w' β n H,J D w→HeapOK (pureC w D) β n H D' w'→J D' w')(hS:St Γ N (pureC w0 D0) β n E H I a w):AtJ Γ N J E a w:=
 ⟨I,β,n,hab _ _ _ _ _ _ _ hJ hS.heap,hS.env,hS.size,⟨rfl,rfl,rfl,Nat.le_refl _,fun _ _ _=>rfl,fun _ _ h=>(by cases h),fun _ _ h=>(by cases h),fun _ _ h=>(by cases h),fun _ _ _ _ _ h=>(by cases h),fun _ _ h=>(by cases h),hS.heap.ilt,fun _ h=>.inl h,fun _ h=>h⟩,hS.glob,Nat.zero_le _,fun i hi=>absurd hi (Nat.not_lt_zero i)⟩

theorem zmb{J:(Nat→Prop)→World→Prop}{w0:World}{D0:Nat→Prop}{c:Code}(hJ:J D0 w0)(hab:∀ D w D' w' β n H,J D w→HeapOK (pureC w D) β n H D' w'→J D' w')(h:∀ a w,AtJ Γ N J E a w→c.wp Γ.P Q a w):WP Γ N (pureC w0 D0) c E H n Q:=
 fun _ _ a w hS=>h a w (hS.atJ hJ hab)

theorem AtJ.sub{J:(Nat→Prop)→World→Prop}{E':Env}(h:AtJ Γ N J E a w)(hs:∀ i v,E'.get i=some v→E.get i=some v):AtJ Γ N J E' a w:=by
 obtain⟨D,β,n,hJ,hS⟩:=h;exact⟨D,β,n,hJ,⟨hS.env.defers,fun i v hv=>hS.env.slot i v (hs i v hv),fun i v hv=>hS.env.low i v (hs i v hv)⟩,hS.size,hS.heap,hS.glob,hS.anch⟩

theorem Env.sub_of{E:Env}:∀ {E':Env},(∀ x∈E',E.get x.1=some x.2)→∀ i v,E'.get i=some v→E.get i=some v
 |[],_,_,_,h=>by cases h
 |(j,u)::E',hx,i,v,h=>by
  simp only[Env.get]at h
  split at h
  ·rename_i e;cases h;subst e;exact hx _ List.mem_cons_self
  ·exact Env.sub_of (fun x hm=>hx x (List.mem_cons_of_mem _ hm)) i v h

theorem seq_kC{x y:Code}(h:∀ K:Act→World→Prop,(∀ C E H n,WP Γ N C y E H n Q→Done Γ N C E H n K)→WP Γ N C x E H n (Exit.then K Q)):WP Γ N C (.seq x y) E H n Q:=
 fun β I a w hS=>wp_seq (h (fun a w=>y.wp Γ.P Q a w) (fun _ _ _ _ h=>h) β I a w hS)
theorem z9x(hΓ:Γ.OK){fn:Func}{R:Ending→World→Prop}(hD:C.D=[])(hrs:fn.results.toList=[])(hR:∀ β I a w,St Γ N C β n E H I a w→R (.returned (.tuple #[])) w):Done Γ N C E H n (bodyPost Γ.P fn R .normal):=by
 intro β I a w hS;obtain⟨u,x,rfl,hr,hl,hrun⟩:=z30 (K:=fun x=>x= .tup []) hΓ hS (fn:=fn) (by rw[hrs];exact rfl);refine⟨hS.env.defers.trans hD,x,hrun,?_⟩;obtain⟨vs,h1,h2,_⟩:=hr;rw[h1,List.eq_nil_of_length_eq_zero h2];exact hR β I a w hS

theorem zf0{f:FuncId}{fn:Func}{c:Code}{vs:List SV}{xs:List Value}{R:Ending→World→Prop}(hf:Γ.P.funcs[f]? =some fn)(hb:fn.body=some c)(hN:fn.ntmps=N)(hn:vs.length≤N)
  (hH:HeapOK C β n H I w) (hG:z26 Γ.glob I w) (hA:C.n0≤n∧∀ i,i< C.n0→β i=C.β0 i) (hD:C.D=[]) (hr:z4l β n I w vs xs) (h:WP Γ N C c (envOf 0 vs) H n (bodyPostM Fence.wide 0 Γ.P fn R)):Calls Γ.P f xs.toArray w R:=by
 subst hN;refine(callsIn_wide (n:=0)).1 (callsIn_of_wp_marks hf hb trivial ((wpIn_wide (n:=0)).2 (h β I _ w ⟨⟨hD.symm,fun i v hv=>?_,fun i v hv=>?_⟩,by simp[hr.1];omega,hH,hG,hA⟩)))
 ·obtain⟨j,rfl,hj⟩:=z6w hv
  obtain⟨x,hx,hrel,_⟩:=hr.2 j v hj
  have hlt:j< xs.length:=(List.getElem?_eq_some_iff.1 hx).1
  refine⟨x,?_,hrel⟩;rw[Array.getElem?_append_left (by simp;omega)]
  simpa using hx
 ·obtain⟨j,rfl,hj⟩:=z6w hv
  obtain⟨x,hx,_,hlow⟩:=hr.2 j v hj;exact hlow

end
end Go.Ab

namespace Go.Ab
set_option linter.all false
open Go.RowKit Go.ChangeShapes Go.Deep
section
variable {H:Type} {enc:TypeId×Value→H} {P:Program} {W W':World}

abbrev oldI(W:World):Nat→Prop:=fun b=>b< W.heap.size

def Fit(enc:TypeId×Value→H)(P:Program)(W:World)(t:TypeId)(S:Cell→Prop):Prop:=
 ∀ fuel cs x,DataW.trod enc P W 0 (fun _=>true) true fuel t cs=some x→∃ v c,cs=[v]∧CellD (oldI W) W c v∧S c
theorem Fit.mono{t:TypeId}{S S':Cell→Prop}(h:Fit enc P W t S)(hS:∀ c,S c→S' c):Fit enc P W t S':=fun fuel cs x hx=>
 let ⟨v,c,h1,h2,h3⟩:=h fuel cs x hx;⟨v,c,h1,h2,hS c h3⟩

theorem zmc{k:IntKind}{n:Int}(h:(Lit.int k n).wf=true):inR k n:=by simpa [Lit.wf,inR]using h
theorem zmd{t:TypeId}{k:IntKind}(ht:P.underlying t=some (.int k)):Fit enc P W t fun c=>∃ n,c= .int k n∧inR k n:=fun fuel cs x h=>by
 obtain⟨n,rfl,rfl,hw⟩:=DataW.trod_int ht h;exact⟨_,.int k n,rfl,.flat _ rfl,n,rfl,zmc hw⟩
theorem fit_bool{t:TypeId}(ht:P.underlying t=some .bool):Fit enc P W t fun c=>∃ b,c= .bool b:=fun fuel cs x h=>by
 obtain⟨b,rfl,rfl⟩:=DataW.trod_bool ht h;exact⟨_,.bool b,rfl,.flat _ rfl,b,rfl⟩
theorem u8_val{n:Int}(h:(Lit.int .u8 n).wf=true):Value.int .u8 n=(Cell.u8 (UInt8.ofNat n.toNat)).val:=by
 have:0≤n∧n≤255:=by simpa [Lit.wf,IntKind.min,IntKind.max,IntKind.signed,IntKind.bits]using h
 simp[Cell.val];omega
theorem zme{t:TypeId}(ht:P.underlying t=some (.int .u8)):Fit enc P W t fun c=>∃ b,c= .u8 b:=fun fuel cs x h=>by
 obtain⟨n,rfl,rfl,hw⟩:=DataW.trod_int ht h;rw[u8_val hw];exact⟨_,_,rfl,CellD.flat (.u8 _) rfl,_,rfl⟩
theorem zb8{a:Addr}{v:Value}(h:W.cell? a=some v):a.spot=none∧a.block< W.heap.size:=by
 unfold World.cell? at h
 split at h
 ·rename_i hb
  split at h
  ·cases h
  ·rename_i hs
   exact⟨by simpa using hs,(Array.getElem?_eq_some_iff.1 hb).1⟩
 ·cases h

theorem zf1{t e:TypeId}{S:Cell→Prop}(ht:P.underlying t=some (.slice e))(hc:P.cellsOf e=1)(he:Fit enc P W e S):
  Fit enc P W t fun c=>∃ xs:List Cell,c= .ds xs.length (.cells xs)∧xs.length≤9223372036854775807∧∀ x∈xs,S x:=fun fuel cs x h=>by
 rcases open_slice1 ht hc h with⟨rfl,_⟩|⟨a,len,cap,m,n,V,D,Pl,rfl,hb,hl,hm,hmm,rfl,hx⟩
 ·exact⟨_,.ds 0 (.cells []),rfl,.ds0 _ _ _ rfl,[],rfl,Nat.zero_le _,by simp⟩
 ·simp only[if_true]at hmm
  have hmm:=hmm.symm
  subst hmm
  obtain⟨f,hf⟩:=choose_lt (α:=Cell) (n:=len) (p:=fun i c=>CellD (oldI W) W c (V i)∧S c) (fun i hi=>by
   obtain⟨v,c,hv,h1,h2⟩:=he _ _ _ (hx i (by omega)).2;cases hv
   exact⟨c,h1,h2⟩)
  have hmax:len≤9223372036854775807:=by have:=hm;simp only[maxLen]at this;omega
  refine⟨_,.ds ((List.range len).map f).length (.cells ((List.range len).map f)),rfl,?_,_,rfl,by simpa using hmax,fun x hx=>?_⟩
  ·by_cases h0:len=0
   ·subst h0;exact .ds0 _ _ _ rfl
   ·obtain⟨hs,hbl⟩:=zb8 (hx 0 (by omega)).1
    obtain⟨b,o,s⟩:=a
    have hs':s=none:=by simpa [Addr.add]using hs
    subst hs';rw[show((List.range len).map f).length=len by simp];refine .ds len _ b o cap V hl hbl (by show 0< ((List.range len).map f).length;simp;omega) (fun j hj=>?_) (fun j hj=>?_)
    ·have hj':j< len:=by simpa [Cont.len]using hj
     have e:(⟨b,o,none⟩:Addr).add j=⟨b,o+j,none⟩:=by
      unfold Addr.add
      split
      ·rename_i h;rw[h];rfl
      ·rfl
     rw[←e];exact(hx j (by omega)).1
    ·have hj':j< len:=by simpa [Cont.len]using hj
     have e:(Cont.cells ((List.range len).map f)).get j=f j:=by simp[Cont.get,List.getD_eq_getElem?_getD,hj']
     rw[e];exact(hf j hj').1
  ·obtain⟨i,hi,rfl⟩:=List.mem_map.1 hx
   exact(hf i (List.mem_range.1 hi)).2

theorem CellD.recont{I:Nat→Prop}{n:Nat}{c c':Cont}{v:Value}(h:CellD I W (.ds n c) v)(hl:c'.len=c.len)(hg:∀ j,j< c.len→c'.get j=c.get j):CellD I W (.ds n c') v:=by
 cases h with
 |flat _ h=>cases h
 |ds0 _ a cap h=>exact .ds0 _ _ _ (hl.trans h)
 |ds _ _ b off cap f h1 h2 h3 h4 h5=>exact .ds n c' b off cap f h1 h2 (hl▸h3) (fun j hj=>h4 j (hl▸hj)) (fun j hj=>by rw[hg j (hl▸hj)];exact h5 j (hl▸hj))

theorem zf2{t e:TypeId}{α:Type}{S:Cell→Prop}{g:α→Cell}{K:List α→Cont}(ht:P.underlying t=some (.slice e))(hc:P.cellsOf e=1)(he:Fit enc P W e S)(hS:∀ c,S c→∃ a,c=g a)
  (hK:∀ l,(K l).len=l.length∧∀ j (h:j< l.length),(K l).get j=g l[j]):Fit enc P W t fun c=>∃ l:List α,c= .ds l.length (K l)∧l.length≤9223372036854775807:=fun fuel cs x h=>by
 obtain⟨v,c,rfl,hd,xs,rfl,hl,hx⟩:=zf1 ht hc he fuel cs x h
 have key:∀ xs:List Cell,(∀ x∈xs,S x)→∃ l:List α,xs=l.map g:=by
  intro xs
  induction xs with
  |nil=>exact fun _=>⟨[],rfl⟩
  |cons x xs ih=>
   intro hx;obtain⟨a,rfl⟩:=hS x (hx x (by simp));obtain⟨l,rfl⟩:=ih fun y hy=>hx y (by simp[hy]);exact⟨a::l,rfl⟩
 obtain⟨l,rfl⟩:=key xs hx;refine⟨v,.ds l.length (K l),rfl,?_,l,rfl,by simpa using hl⟩;rw[List.length_map]at hd;refine hd.recont (by rw[(hK l).1];exact(List.length_map ..).symm) (fun j hj=>?_)
 have hj':j< l.length:=by simpa [Cont.len]using hj
 rw[(hK l).2 j hj']
 simp[Cont.get,List.getD_eq_getElem?_getD,hj']

theorem zb9{t e:TypeId}(ht:P.underlying t=some (.slice e))(hc:P.cellsOf e=1)(he:P.underlying e=some (.int .u8)):Fit enc P W t fun c=>∃ l:List UInt8,c= .ds l.length (.u8s l)∧l.length≤9223372036854775807:=
 zf2 ht hc (zme he) (fun _ h=>h) (fun l=>⟨rfl,fun j h=>by simp[Cont.get,List.getD_eq_getElem?_getD,h]⟩)
theorem z6x{t e q:TypeId}(ht:P.underlying t=some (.slice e))(hc:P.cellsOf e=1)(he:P.underlying e=some (.slice q))(hcq:P.cellsOf q=1)(hq:P.underlying q=some (.int .u8)):
  Fit enc P W t fun c=>∃ ps:List (List UInt8),c= .ds ps.length (.cells (ps.map fun p=>.ds p.length (.u8s p)))∧ps.length≤9223372036854775807∧∀ p∈ps,p.length≤9223372036854775807:=fun fuel cs x h=>by
 obtain⟨v,c,rfl,hd,xs,rfl,hl,hx⟩:=zf1 ht hc (zb9 he hcq hq) fuel cs x h
 have key:∀ xs:List Cell,(∀ x∈xs,∃ l:List UInt8,x= .ds l.length (.u8s l)∧l.length≤9223372036854775807)→∃ ps:List (List UInt8),xs=ps.map (fun p=>.ds p.length (.u8s p))∧∀ p∈ps,p.length≤9223372036854775807:=by
  intro xs
  induction xs with
  |nil=>exact fun _=>⟨[],rfl,by simp⟩
  |cons x xs ih=>
   intro hx;obtain⟨a,rfl,ha⟩:=hx x (by simp);obtain⟨l,rfl,hl⟩:=ih fun y hy=>hx y (by simp[hy]);exact⟨a::l,rfl,by simpa using ⟨ha,hl⟩⟩
 obtain⟨ps,rfl,hp⟩:=key xs hx;rw[List.length_map]at hd hl;exact⟨v,_,rfl,hd,ps,rfl,hl,hp⟩

theorem zmf{I:Nat→Prop}:ArgsD I W [] []:=⟨rfl,fun j v h=>by simp at h⟩
theorem zcp{I:Nat→Prop}{s:SV}{v:Value}{vs:List SV}{xs:List Value}(hr:s.rel noVal I W v)(hl:s.low 0)(h:ArgsD I W vs xs):ArgsD I W (s::vs) (v::xs):=by
 refine⟨by simp[h.1],fun j u hu=>?_⟩
 cases j with
 |zero=>cases hu;exact⟨v,rfl,hr,hl⟩
 |succ j=>exact h.2 j u hu
theorem z96{I:Nat→Prop}{c:Cell}{v:Value}{vs:List SV}{xs:List Value}(hr:CellD I W c v)(h:ArgsD I W vs xs):ArgsD I W (.c c::vs) (v::xs):=zcp (Cell.rel_of hr) (CellD.low hr) h
theorem zba{r:Reach}{base:Nat}{t e:TypeId}{v:Value}{d:DataW H}{p:List MemPlace}{S:Cell→Prop}(ht:P.underlying t=some (.slice e))(hf:Fit enc P W t S)(hval:Value.okWide P W r base t v)(h:DataW.Trod enc P W 0 (fun _=>true) true t v d p):
  ∃ c,CellD (oldI W) W c v∧S c:=by
 obtain⟨a,len,cap,rfl⟩:=Go.WideShapes.okWide_slice ht hval;obtain⟨fuel,h⟩:=h;obtain⟨v',c,hv,h1,h2⟩:=hf fuel _ _ h;cases hv;exact⟨c,h1,h2⟩
theorem z8d(hl:laidOutB P=true)(hb:Below W.heap.size W W'):∀ {ts:List TypeId} {vs:List Value} {ds:List (DataW H)} {ps:List MemPlace},(∀ t∈ts,P.readableRec t=true∧t< P.types.size)→DataW.TrodAll enc P W 0 (fun _=>true) true ts vs ds ps→
  (∀ x∈ps,x.block< W.heap.size)→DataW.TrodAll enc P W' 0 (fun b=>decide (b< W.heap.size)) true ts vs ds ps
 |[],[],[],ps,_,h,_=>h
 |t::ts,v::vs,d::ds,ps,ht,⟨p,q,h1,h2,e⟩,hlt=>by
  subst e;exact⟨p,q,Below.trod hl (ht t (by simp)).1 (ht t (by simp)).2 h1 hb fun x hx=>hlt x (by simp[hx]),z8d hl hb (fun u hu=>ht u (by simp[hu])) h2 fun x hx=>hlt x (by simp[hx]),rfl⟩
 |[],_::_,_,_,_,h,_=>by cases h
 |[],[],_::_,_,_,h,_=>by cases h
 |_::_,[],_,_,_,h,_=>by cases h
 |_::_,_::_,[],_,_,h,_=>by cases h

theorem row_post{f:Func}{s:ChangeSpec}{args:Array Value}{ds gs:List (DataW H)}{before:List MemPlace}{tb:TypeId}(hl:laidOutB P=true)(hts:∀ t∈f.params.toList,P.readableRec t=true∧t< P.types.size)(hr:f.resultTypes= #[tb])(htb:P.underlying tb=some .bool)
  (hW:DataW.Whole enc P f.params.toList s.vars false W args.toList ds gs before) (hv:s.vars=[]) (hs:(s.fn H (ds++gs)).results=[.lit (.bool true)]∧(s.fn H (ds++gs)).args=ds∧(s.fn H (ds++gs)).vars=[]) (hb:Same W W'):
  s.post enc P f false true false false W args (.bool true) W':=by
 have hW':=hW
 obtain⟨p,q,hA,hV,rfl,hfz,hnd⟩:=hW;rw[hv]at hV;obtain⟨rfl,rfl⟩:=trodVars_none hV;refine⟨_,_,_,[],p,[],hW',?_,?_,?_,hb.frame _,fun h=>by cases h⟩
 ·rw[hs.1,hr]
  exact trodAll_cons_mk (shut_bool htb true) trodAll_mk0
 ·rw[hs.2.1]
  exact z8d hl hb hts hA fun x hx=>hW'.lt x (by simp[hx])
 ·rw[hs.2.2,hv]
  rfl
end
end Go.Ab

namespace Go.Ab
set_option linter.all false
open Go.RowKit
section
variable {Γ:Ctx} {N:Nat} {C:CC} {β:Val} {n:Nat} {E:Env} {H:Heap} {I:Nat→Prop} {a:Act} {w:World}

def dataC(x:Cell):Prop:=x.pureB=true∧∀ g l,x≠ .clo g l
theorem zky{ty:Nat→Ty}{x:Cell}(hx:dataC x){K:SV→Prop}(h:K (.c x)):viewV ty H (.c x) K:=by
 obtain⟨h1,h2⟩:=hx
 cases x<;>first|exact h|(simp[Cell.pureB]at h1;done)|exact absurd rfl (h2 _ _)
theorem viewS_data'{ty:Nat→Ty}:∀ {xs:List Cell} (_:∀ x∈xs,dataC x) {K:List SV→Prop} (_:K (xs.map .c)),viewS ty H (xs.map .c) K
 |[],_,_,h=>h
 |x::xs,hx,K,h=>zky (hx x (.head _)) (viewS_data' (xs:=xs) (fun y hy=>hx y (.tail _ hy)) h)
theorem zh1{f:FuncId}{caps:List Cell}{vs:List SV}{K:FuncId→List SV→Prop}(hlt:f< 1000000)(h:K f (vs++caps.map .c)):z7s (.c (.clo f caps)) vs K:=by
 show(if f< 1000000 then _ else _)
 rw[if_pos hlt];exact h
theorem zmg{f:FuncId}{q:QSpec}(hq:z3n Γ.fs f=some (.flat q)){xs caps:List Cell}(hx:∀ x∈xs,dataC x)(hc:∀ x∈caps,dataC x){K:SV→Heap→Nat→Prop}(h:q ((xs++caps).map .c) fun v=>K v H n)(hlt:f< 1000000:=by first|assumption|decide):
  z7s (.c (.clo f caps)) (xs.map .c) fun f vs=>callG Γ f vs H n K:=by
 refine zh1 hlt ?_;unfold callG
 simp only[hq]
 rw[←List.map_append];exact viewS_data' (fun x hx'=>(List.mem_append.1 hx').elim (hx x) (hc x)) h
theorem zmh{x:Cell}(h:dataC x){n:Nat}:x.low1 n:=by
 obtain⟨h1,h2⟩:=h
 cases x<;>first|exact trivial|(simp[Cell.pureB]at h1;done)|exact absurd rfl (h2 _ _)
theorem z0q{caps:List Cell}(h:∀ x∈caps,dataC x){n:Nat}{f:FuncId}:SV.low n (.c (.clo f caps)):=fun x hx=>zmh (h x hx)
theorem to1_data{ty:Nat→Ty}{is:List Nat}{ρ:Nat→Nat}{x:Cell}(h:dataC x):x.to1 ty H is ρ x:=by
 obtain⟨h1,h2⟩:=h
 cases x<;>first|exact trivial|exact⟨rfl,rfl⟩|exact rfl|(simp[Cell.pureB]at h1;done)|exact absurd rfl (h2 _ _)
theorem z0v{ty:Nat→Ty}{is:List Nat}{ρ:Nat→Nat}:∀ {caps:List Cell} (_:∀ x∈caps,dataC x),allTo (Cell.to1 ty H is ρ) caps caps
 |[],_=>trivial
 |x::l,h=>⟨to1_data (h x (.head _)),z0v fun y hy=>h y (.tail _ hy)⟩
theorem zf3{x:UInt64}:dataC (.u64 x):=⟨rfl,fun _ _=>by simp⟩
theorem z0r{c:Cont}{o:Nat}:dataC (.dp c o):=⟨rfl,fun _ _=>by simp⟩
theorem z05:∀ x∈([]:List Cell),dataC x:=fun x hx=>by cases hx
theorem z0j{x:Cell}{xs:List Cell}(h:dataC x)(hs:∀ y∈xs,dataC y):∀ y∈x::xs,dataC y:=fun y hy=>by
 rcases List.mem_cons.1 hy with rfl|hy
 ·exact h
 ·exact hs y hy
theorem zf4{f:FuncId}{s:Spec}:∀ {l:List (FuncId×Spec)} (_:∀ p∈l,p.1≠f),z3n (l++[(f,s)]) f=some s
 |[],_=>by simp[z3n]
 |(g,s')::l,h=>by
  show(if g=f then some s' else z3n (l++[(f,s)]) f)=_
  rw[if_neg (h (g,s') (.head _))];exact zf4 fun p hp=>h p (.tail _ hp)
end
end Go.Ab

namespace Go.Ab
set_option linter.all false
open Go.RowKit
section
variable {Γ:Ctx} {N:Nat} {C:CC} {β:Val} {n:Nat} {E:Env} {H:Heap} {I:Nat→Prop} {a:Act} {w:World} {Q:Exit→Act→World→Prop}

theorem zh2{l:List Cell}{i m:Nat}{x:Cell}(h:(Cont.cells l).low m)(hx:x.low m):(Cont.cells (l.set i x)).low m:=fun y hy=>by
 rcases List.mem_or_eq_of_mem_set hy with hy|rfl
 ·exact h y hy
 ·exact hx
theorem rel_set{l:List Cell}{i m cap:Nat}(hn:l[i]? =some .nils){vs:List Value}(h:(Cont.cells l).rel β I w vs)(hb:β m=none):(Cont.cells (l.set i (.slice m 0 0 0))).rel β I w vs:=by
 refine⟨by rw[h.1];simp[Cont.len],fun j hj=>?_⟩
 simp only[Cont.len,List.length_set]at hj
 obtain⟨v,hv,hr⟩:=h.2 j hj;refine⟨v,hv,?_⟩
 by_cases e:i=j
 ·subst e
  have h1:(Cont.cells l).get i= .nils:=by simp[Cont.get,List.getD_eq_getElem?_getD,hn]
  rw[h1]at hr
  have h2:v= .slice none 0 0:=CellD.of_flat (x:=.nils) rfl hr
  have h3:(Cont.cells (l.set i (.slice m 0 0 0))).get i= .slice m 0 0 0:=by simp[Cont.get,List.getD_eq_getElem?_getD,hj]
  rw[h3,h2];exact⟨Nat.le_refl _,0,by simp[place,hb],.inl rfl⟩
 ·have h3:(Cont.cells (l.set i (.slice m 0 0 0))).get j=(Cont.cells l).get j:=by simp[Cont.get,List.getD_eq_getElem?_getD,e]
  rw[h3];exact hr
theorem WP_nilat{c:Code}(r i:Nat)(e:TypeId)(k:Cont){t:TypeId}{l:List Cell}{cap:Nat}(hr:H.get r=some (.own t (.cells l) cap))(hi:l[i]? =some .nils)(hk:k.len=0)(hkb:k.low n)
  (h:WP Γ N C c E ((r,.own t (.cells (l.set i (.slice n 0 0 0))) cap)::(n,.own e k 0)::H) (n+1) Q):WP Γ N C c E H n Q:=by
 intro β I a w hS
 have hE:=hS.env.mono (z54 (β:=β) (n:=n) (x:=none)) (Ext.refl I w) (Nat.le_succ n)
 have hH:=hS.heap.pushNil (t:=e) hk hkb
 have hrn:r≠n:=by have:=(hS.heap.low r _ hr).1;omega
 have hr':Heap.get ((n,SObj.own e k 0)::H) r=some (.own t (.cells l) cap):=by rw[Heap.get_cons,if_neg (fun e=>hrn e.symm)];exact hr
 have hlow:=(hH.low r _ hr').2
 have hil:i< l.length:=(List.getElem?_eq_some_iff.1 hi).1
 have hub:upd β n none n=none:=z2q
 rcases hH.holds r _ hr' with⟨b,arr,h1,h2,h3,h4,h5⟩|⟨_,h0,_⟩
 ·obtain⟨_,hH2⟩:=hH.write (w':=w) (o':=.own t (.cells (l.set i (.slice n 0 0 0))) cap) hr' h1 rfl rfl rfl (Nat.le_refl _) (fun _ _ _=>rfl)
   (fun _=>.inl ⟨b,arr,rfl,h2,h3,by simpa [Cont.len]using h4,by
    have:=rel_set (i:=i) (m:=n) (cap:=0) hi h5 hub
    simpa [Cont.len]using this⟩) (zh2 hlow (Nat.lt_succ_self n))
  exact h (upd β n none) I a w ⟨hE,hS.size,hH2,hS.glob,Nat.le_succ_of_le hS.anch.1,fun i hi=>by rw[z54 i (Nat.lt_of_lt_of_le hi hS.anch.1)];exact hS.anch.2 i hi⟩
 ·simp only[Cont.len]at h0;omega
end
end Go.Ab

namespace Go.Ab
set_option linter.all false
open Go.RowKit
section
variable {Γ:Ctx} {N:Nat} {C:CC} {β β' β1:Val} {n m k:Nat} {E:Env} {H H1:Heap} {I D D':Nat→Prop} {a:Act} {w w':World}

def Cell.up1(k:Nat):Cell→Cell
 | .ptr id off=>.ptr (k+id) off
 | .slice id off len cap=>.slice (k+id) off len cap
 | .map id=>.map (k+id)
 |x=>x
def Cell.up(k:Nat):Cell→Cell
 | .clo f caps=>.clo f (caps.map (Cell.up1 k))
 |x=>x.up1 k
def Cont.up(k:Nat):Cont→Cont
 | .cells l=>.cells (l.map (Cell.up k))
 |c=>c
def Part.up(k:Nat):Part→Part
 | .c x=>.c (x.up k)
 | .agg d=>.agg (d.up k)
def SV.up(k:Nat):SV→SV
 | .c x=>.c (x.up k)
 | .agg d=>.agg (d.up k)
 | .tup l=>.tup (l.map (Part.up k))
def SObj.up(k:Nat):SObj→SObj
 | .own t c cap=>.own t (c.up k) cap
 | .mp t l=>.mp t (l.map fun x=>(x.1.up k,x.2.up k))
def Heap.up(k:Nat):Heap→Heap
 |[]=>[]
 |(j,o)::H=>(k+j,o.up k)::Heap.up k H

end
end Go.Ab

namespace Go.Ab
set_option linter.all false
open Go.RowKit
section
variable {Γ:Ctx} {N:Nat} {C:CC} {β β':Val} {n n':Nat} {E:Env} {H H':Heap} {I I':Nat→Prop} {a:Act} {w w':World} {m:Nat} {ro:Option Nat} {Q:Exit→Act→World→Prop}

def SeqsOK(P:Program)(glob:Nat→Option Cont)(g:FuncId)(caps:List SV)(xs:List (List SV)):Prop:=
 ∀ (I:Nat→Prop) (W:World) (cs:List Value) (l:Nat),z26 glob I W→(∀ b,I b→b< W.heap.size)→ArgsD I W caps cs→
 ∀ (J:Nat→(Nat→Prop)→World→Prop) (Z:(Nat→Prop)→World→Prop),
  (∀ k D w D' w' β n H,J k D w→HeapOK (pureC w D) β n H D' w'→J k D' w')→
  (∀ D w D' w' β n H,Z D w→HeapOK (pureC w D) β n H D' w'→Z D' w')→
  (∀ k D w x vs m,xs[k]? =some x→J k D w→ArgsD D w x vs→YieldAt Fence.wide m P l vs.toArray w fun e w'=>(e= .returned (.bool true)∧J (k+1) D w'∨e= .returned (.bool false)∧Z D w')∧∀ b,D b→w'.heap[b]? =w.heap[b]?)→
  J 0 I W→Calls P g (#[.func (.yield l) #[] #[]]++cs.toArray) W fun e w'=>(∃ v,e= .returned v)∧∃ D,J xs.length D w'∨Z D w'

def zf5:List Tmp→List SV→Env→Env
 |p::ps,x::xs,E=>(p,x)::zf5 ps xs E
 |_,_,E=>E
theorem z97:∀ {ps:List Tmp} {xs:List SV} {E:Env} {i:Nat} {u:SV},ps.Nodup→xs.length=ps.length→(zf5 ps xs E).get i=some u→(∃ j:Nat,ps[j]? =some i∧xs[j]? =some u)∨(i∉ps∧E.get i=some u)
 |[],[],E,i,u,_,_,h=>.inr ⟨by simp,h⟩
 | p::ps,x::xs,E,i,u,hn,hl,h=>by
  simp only[zf5,Env.get]at h
  split at h
  ·rename_i e;cases h;subst e;exact .inl ⟨0,rfl,rfl⟩
  ·rename_i e
   rcases z97 (List.nodup_cons.1 hn).2 (by simpa using hl) h with⟨j,h1,h2⟩|⟨h1,h2⟩
   ·exact .inl ⟨j+1,by simpa using h1,by simpa using h2⟩
   ·exact .inr ⟨by simp[h1];exact fun e'=>e e'.symm,h2⟩
 |[],_::_,_,_,_,_,hl,_=>by simp at hl
 |_::_,[],_,_,_,_,hl,_=>by simp at hl
theorem zmi:∀ {ps:List Tmp} {vs:List Value},ps.Nodup→∀ {t0:Array Value},(∀ p∈ps,p< t0.size)→vs.length=ps.length→∀ t:Array Value,t=t0→∀ tm,tm=(ps.toArray.zip vs.toArray).foldl (fun tmps (t,a)=>tmps.setIfInBounds t a) t→
  tm.size=t0.size∧(∀ (j:Nat) i,ps[j]? =some i→tm[i]? =vs[j]?)∧∀ i,i∉ps→tm[i]? =t0[i]? :=by
 intro ps vs hn t0 hlt hl t ht tm htm;subst ht
 have e:tm=(ps.zip vs).foldl (fun tmps (x:Tmp×Value)=>tmps.setIfInBounds x.1 x.2) t:=by rw[htm];simp[List.zip_toArray]
 clear htm
 induction ps generalizing vs t tm with
 |nil=>
  have:vs=[]:=List.eq_nil_of_length_eq_zero (by simpa using hl)
  subst this;subst e;exact⟨rfl,fun j i h=>by simp at h,fun i _=>rfl⟩
 | cons p ps ih=>
  cases vs with
  |nil=>simp at hl
  | cons v vs=>
   obtain⟨hp,hn'⟩:=List.nodup_cons.1 hn;obtain⟨h1,h2,h3⟩:=ih hn' (by simpa using hl) (t.setIfInBounds p v) tm (fun q hq=>by rw[Array.size_setIfInBounds];exact hlt q (List.mem_cons_of_mem _ hq)) (by rw[e];rfl);refine⟨by rw[h1,Array.size_setIfInBounds],fun j i hj=>?_,fun i hi=>?_⟩
   ·cases j with
    |zero=>
     obtain rfl:p=i:=by simpa using hj
     rw[h3 p hp]
     simp[hlt p List.mem_cons_self]
    |succ j=>have:=h2 j i (by simpa using hj);simpa using this
   ·rw[h3 i (fun h=>hi (List.mem_cons_of_mem _ h)),Array.getElem?_setIfInBounds_ne (fun e'=>hi (by rw[←e'];exact List.mem_cons_self))]

theorem zde(hΓ:Γ.OK){J J' Z:(Nat→Prop)→World→Prop}(hab:∀ D w D' w' β n H,J D w→HeapOK (pureC w D) β n H D' w'→J D' w')(habz:∀ D w D' w' β n H,Z D w→HeapOK (pureC w D) β n H D' w'→Z D' w')(hab':∀ D w D' w' β n H,J' D w→HeapOK (pureC w D) β n H D' w'→J' D' w')
  {id d l:Nat} {ops:List Oper} (i:Nat) {o:Oper} (hi:ops[i]? =some o) {c:Call} {x:Operand} {ys:List SV} (ho:o.op= .call c) (hc:c.callee= .value x) (hg:o.guard=none) (hd:o.dst=some d) (hdN:d< N)
  (hy:∀ D w vs m,J D w→ArgsD D w ys vs→YieldAt Fence.wide m Γ.P l vs.toArray w fun e w'=>(e= .returned (.bool true)∧J' D w'∨e= .returned (.bool false)∧Z D w')∧∀ b,D b→w'.heap[b]? =w.heap[b]?)
  {args:List Operand} (harg:c.args=args.toArray) {E2:Bool→Env}
  (h:∀ n,wpY Γ N (ops.take i) E [] n fun E1 H1 n1=>E1.ev Γ.glob x=some (.c (.raw (.func (.yield l) #[] #[])))∧evs Γ.glob E1 args (fun us=>us=ys)∧(∀ y∈ys,y.low 0)∧∀ r:Bool,wpY Γ N (ops.drop (i+1)) ((d,.c (.bool r))::E1) [] n1 fun E3 _ _=>∀ i v,(E2 r).get i=some v→E3.get i=some v)
  (hA:AtJ Γ N J E a w) (hQ:∀ a w,AtJ Γ N J' (E2 true) a w→Q .normal a w) (hZ:∀ a w,AtJ Γ N Z (E2 false) a w→Q .normal a w):(Code.region id ops.toArray false).wp Γ.P Q a w:=by
 obtain⟨l1,hl1⟩:∃ l1,l1=ops.take i:=⟨_,rfl⟩;obtain⟨l2,hl2⟩:∃ l2,l2=ops.drop (i+1):=⟨_,rfl⟩
 have hops:ops=l1++o::l2:=by
  obtain⟨hlt,hget⟩:=List.getElem?_eq_some_iff.1 hi;rw[hl1,hl2, ←hget,List.getElem_cons_drop,List.take_append_drop]
 rw[←hl1, ←hl2]at h;clear hl1 hl2 hi;subst hops;obtain⟨D,β,n,hJ,hS⟩:=hA;refine(wpIn_wide (n:=0)).1 (wpIn_region ?_)
 show wpOpsIn (fr none) 0 Γ.P _ Q _ a w
 have hr:List.range (l1++o::l2).toArray.size=List.range' 0 l1.length++(l1.length::(List.range' (l1.length+1) l2.length++[])):=by
  rw[List.append_nil,List.range_eq_range', ←List.range'_succ]
  simp only[List.size_toArray,List.length_append,List.length_cons]
  rw[←List.range'_append]
  simp
 rw[hr];refine z8c hΓ ?_ l1 0 β n E [] D a w (fun j hj=>by simp[List.getElem?_append_left hj]) hS (h n)
 rintro β1 n1 E1 H1 I1 a1 w1 ⟨hx,hv,hlow,h2⟩ hS1
 have hJ1:=hab _ _ _ _ _ _ _ hJ hS1.heap
 unfold wpOpsIn
 have h0:(l1++o::l2).toArray[l1.length]? =some o:=by simp
 simp only[h0,Region.wanted,hg,if_true]
 have hxv:a1.eval x= .func (.yield l) #[] #[]:=(SV.rel_flat (x:=.c (.raw _)) rfl).1 (z82 hS1.env hS1.glob hx).1
 obtain⟨us,rfl,hrel⟩:=z3g hS1.env hS1.glob hv
 have hargs:ArgsD I1 w1 us (args.map a1.eval):=by
  refine⟨hrel.1,fun j u hu=>?_⟩;obtain⟨z,hz,hr2,_⟩:=hrel.2 j u hu
  have hl0:=hlow u (List.mem_of_getElem? hu)
  exact⟨z,hz,SV.rel_mono (n:=0) (fun i hi=>absurd hi (Nat.not_lt_zero i)) (Ext.refl _ _) hl0 hr2,hl0⟩
 refine zkw (l:=l) ho hc hxv (R:=fun e w'=>(e= .returned (.bool true)∧J' I1 w'∨e= .returned (.bool false)∧Z I1 w')∧∀ b,I1 b→w'.heap[b]? =w1.heap[b]?) (by rw[harg,show Array.map a1.eval args.toArray=(args.map a1.eval).toArray by simp];exact hy I1 w1 _ _ hJ1 hargs) ?_
 rintro e w2 ⟨hR,hkeep⟩
 obtain⟨r,he,hJ2⟩:∃ r:Bool,e= .returned (.bool r)∧((r=true∧J' I1 w2)∨(r=false∧Z I1 w2)):=by
  rcases hR with⟨h1,h3⟩|⟨h1,h3⟩
  ·exact⟨true,h1,.inl ⟨rfl,h3⟩⟩
  ·exact⟨false,h1,.inr ⟨rfl,h3⟩⟩
 subst he;refine⟨_,rfl,?_⟩
 have hE:Ext I1 w1 I1 w2:=fun b hb=>⟨hb,hkeep b hb⟩
 have hS2:St Γ N (pureC w2 I1) β1 n1 ((d,.c (.bool r))::E1) [] I1 (a1.put o.dst (.bool r)) w2:=by
  refine⟨⟨by rw[hd];exact hS1.env.defers,fun i u hu=>?_,fun i u hu=>?_⟩,by rw[hd];simpa [Act.put]using hS1.size,⟨rfl,rfl,rfl,Nat.le_refl _,fun _ _ _=>rfl,fun _ _ h=>(by cases h),fun _ _ h=>(by cases h),fun _ _ h=>(by cases h),fun _ _ _ _ _ h=>(by cases h),fun _ _ h=>(by cases h),fun b hb=>?_,fun _ h=>.inl h,fun _ h=>h⟩,hS1.glob.mono hE,Nat.zero_le _,fun i hi=>absurd hi (Nat.not_lt_zero i)⟩
  ·rw[hd]
   simp only[Env.get]at hu
   split at hu
   ·rename_i e;cases hu;subst e
    exact⟨.bool r,by simp[Act.put,hS1.size,hdN],(SV.rel_flat (x:=.c (.bool r)) rfl).2 rfl⟩
   ·rename_i e
    obtain⟨z,h1,h3⟩:=hS1.env.slot i u hu;exact⟨z,by simpa [Act.put,Array.getElem?_setIfInBounds_ne e]using h1,SV.rel_mono (n:=n1) (fun _ _=>rfl) hE (hS1.env.low i u hu) h3⟩
  ·simp only[Env.get]at hu
   split at hu
   ·cases hu;exact SV.flat_low rfl
   ·exact hS1.env.low i u hu
  ·have h1:=hS1.heap.ilt b hb
   have h2:=hkeep b hb
   rw[Array.getElem?_eq_getElem h1]at h2;exact(Array.getElem?_eq_some_iff.1 h2).1
 refine z8c hΓ ?_ l2 (l1.length+1) β1 n1 _ [] I1 _ w2 (fun j hj=>by rw[List.getElem?_toArray,List.getElem?_append_right (by omega),show l1.length+1+j - l1.length=j+1 by omega,List.getElem?_cons_succ]) hS2 (h2 r)
 rintro β3 n3 E3 H3 I3 a3 w3 hs hS3
 rcases hJ2 with⟨rfl,hJ2⟩|⟨rfl,hJ2⟩
 ·exact hQ a3 w3 ((hS3.atJ hJ2 hab').sub hs)
 ·exact hZ a3 w3 ((hS3.atJ hJ2 habz).sub hs)

def jumpE:Code→Exit
 | .exit id=>.exit id
 | .goto t=>.goto t
 |_=>.ret
def zmj:Code→Bool
 | .ret=>true
 | .exit _=>true
 |_=>false
end
end Go.Ab

namespace Go.Ab
set_option linter.all false
open Go.RowKit

def Cont.eqv(c d:Cont):Prop:=d.len=c.len∧∀ j,j< c.len→d.get j=c.get j
theorem Cont.eqv.symm{c d:Cont}(h:c.eqv d):d.eqv c:=⟨h.1.symm,fun j hj=>(h.2 j (h.1▸hj)).symm⟩
theorem Cont.eqv.trans{c d e:Cont}(h:c.eqv d)(k:d.eqv e):c.eqv e:=⟨k.1.trans h.1,fun j hj=>(k.2 j (h.1.symm▸hj)).trans (h.2 j hj)⟩
end Go.Ab

namespace Go.Ab
set_option linter.all false
open Go.RowKit
section
variable {Γ:Ctx} {N:Nat} {C:CC} {β β':Val} {n n':Nat} {E:Env} {H H':Heap} {I I':Nat→Prop} {a:Act} {w w':World} {m:Nat} {ro:Option Nat} {Q:Exit→Act→World→Prop}

theorem Done_le{K:Act→World→Prop}{E':Env}{H':Heap}{n':Nat}(is:List Nat)(ρ:Nat→Nat)(hle:Le Γ C is ρ E H E' H' n')(h:Done Γ N C E' H' n' K):Done Γ N C E H n K:=
 fun _ _ a w hS=>h _ _ a w (hS.le hle)
theorem zim{K:Act→World→Prop}{E':Env}{H':Heap}{n':Nat}(is:List Nat)(ρ:Nat→Nat)(h:Done Γ N C E' H' n' K)(hle:Le Γ C is ρ E H E' H' n'):Done Γ N C E H n K:=Done_le is ρ hle h
theorem WPi_n0{c:Code}(h:C.n0≤n→WPi Γ N C ro m c E H n Q):WPi Γ N C ro m c E H n Q:=fun β I a w hS=>h hS.anch.1 β I a w hS
theorem y_step0{o:Oper}{os:List Oper}{K:Env→Heap→Nat→Prop}(hd:o.dst=none)(hg:o.guard=none)(hnd:∀ c,o.op≠ .defer c)
  (h:∀ K':SV→Heap→Nat→Prop,(∀ v H n,wpY Γ N os E H n K→K' v H n)→stepS Γ o E H n K'):wpY Γ N (o::os) E H n K:=by
 refine⟨⟨by rw[hd];trivial,hg,hnd⟩,?_⟩;rw[hd];exact h _ fun v _ _ h=>⟨v,SV.as_refl v,h⟩

theorem data_ofM{f:FuncId}{fn:Func}{c:Code}{q:QSpec}(hf:Γ.P.funcs[f]? =some fn)(hb:fn.body=some c)(hN:fn.ntmps=N)
  (h:∀ vs K,q vs K→∃ v,K v∧v.low 0∧vs.length≤N∧∀ w I,WP Γ N (pureC w I) c (envOf 0 vs) [] 0 (bodyPostM Fence.wide 0 Γ.P fn (za9 w I v))):z3u Γ.P Γ.glob f q:=fun vs K hq=>by
 obtain⟨v,hK,hfl,hn,hw⟩:=h vs K hq;exact⟨v,hK,hfl,fun I w xs hG hlt hA=>zf0 hf hb hN hn (HeapOK.init hlt) hG ⟨Nat.le_refl _,fun i hi=>absurd hi (Nat.not_lt_zero i)⟩ rfl hA (hw w I)⟩
theorem zkz(hΓ:Γ.OK){fn:Func}{w0:World}{I0:Nat→Prop}{v:SV}{w1:World}{I1:Nat→Prop}{β1:Val}{n1 d:Nat}{H1:Heap}{Q':Act→World→Prop}(h1:HeapOK (pureC w0 I0) β1 n1 H1 I1 w1)(hd:w0.heap.size≤d)(hA:Aside β1 H1 I1 w1 d (.deferred (some [])))
  (hQ:∀ a w,bodyPostM Fence.wide 0 Γ.P fn (za9 w0 I0 v) .ret a w→Q' a w) (hv:v.low 0) (is:List Nat) (rs:List ResultVar) (hrs:fn.results.toList=rs) (h:resS Γ E H rs fun vs=>packS vs fun x=>x.to Γ.ty H is id v):
  Done Γ N (ankC w1 I1 β1 n1 H1 [{ target:=.collected d,args:= #[] }]) E H n Q':=by
 subst hrs;intro β I a w hS
 have hH:=h1.unank hS.heap
 have hA':=hA.ank hS.heap
 obtain⟨hH2,hE2⟩:=hH.other hd hA' (.deferred none)
 have hS2:St Γ N { pureC w0 I0 with D:=a.defers } β n E H I a (w.putObj d (.deferred none)):=
  ⟨⟨rfl,fun i u hu=>let ⟨y,h1,h2⟩:=hS.env.slot i u hu;⟨y,h1,SV.rel_mono (n:=n) (fun _ _=>rfl) hE2 (hS.env.low i u hu) h2⟩,hS.env.low⟩,hS.size,
   ⟨hH2.os,hH2.tape,hH2.output,hH2.size,hH2.frame,hH2.holds,hH2.low,hH2.fresh,hH2.sep,hH2.off,hH2.ilt,hH2.i0,hH2.base⟩,hS.glob.mono hE2,Nat.zero_le _,fun i hi=>absurd hi (Nat.not_lt_zero i)⟩
 obtain⟨u,x,hto,hr,hl,hrun⟩:=z30 hΓ hS2 h
 have hr':=z92 (ρ:=id) hH2 hl hr hto
 refine hQ a w ?_
 show LeavesInM _ _ _ _ _ _ a.defers _ _
 rw[hS.env.defers];refine⟨by simp,.inl ⟨d,_,rfl,run_takeDeferred hA'.at',?_⟩⟩;exact⟨x,hrun,x,z1b β H is I,rfl,SV.rel_mono (n:=0) (fun i hi=>absurd hi (Nat.not_lt_zero i)) (Ext.refl _ _) hv hr',hH2.growRows is⟩
theorem HeapOK.ankN{D:List Deferred}{n1 n2:Nat}(k:HeapOK (ankC w I β n1 H D) β' n' H' I' w'):HeapOK (ankC w I β n2 H D) β' n' H' I' w':=⟨k.os,k.tape,k.output,k.size,k.frame,k.holds,k.low,k.fresh,k.sep,k.off,k.ilt,k.i0,k.base⟩
theorem zl0(hΓ:Γ.OK){α:Type}{g:Operand}{ps:List Tmp}{assign body:Code}{gf:FuncId}{caps:List Cell}{xs:List (List SV)}
  (hen:z6u Γ.P gf) (hseq:SeqsOK Γ.P Γ.glob gf (caps.map .c) xs) (hg:E.ev Γ.glob g=some (.c (.clo gf caps))) (hcaps:∀ v∈caps.map SV.c,v.low 0) (hps:ps.Nodup∧(∀ p∈ps,p< N)∧∀ x∈xs,x.length=ps.length) (jc:Code) (hjc:zmj jc=true)
  (n1:Nat) (hn1:n1≤n) (hCn:C.n0≤n1) (hE1:∀ i v,E.get i=some v→v.low n1)
  (Hk:Nat→α→Heap) (Pk:Nat→α→Prop) (y0:α) (h0:Hk 0 y0=H) (hP0:Pk 0 y0) (E1:Nat→α→Env) (Hz:Nat→α→Heap) (Zk:Nat→α→Prop)
  (hassign:∀ k y x,xs[k]? =some x→Pk k y→∀ C' ro m Q,C'.n0=n1→Done Γ N C' (E1 k y) (Hk k y) n (Q .normal)→WPi Γ N C' ro m assign (zf5 ps x E) (Hk k y) n Q)
  (hbody:∀ k y x,xs[k]? =some x→Pk k y→∀ C' ro m Q,C'.n0=n1→(∀ y',Pk (k+1) y'→Done Γ N C' [] (Hk (k+1) y') n (Q .normal))→(∀ y',Zk k y'→Done Γ N C' [] (Hz k y') n (Q (jumpE jc)))→WPi Γ N C' ro m body (E1 k y) (Hk k y) n Q)
  (hend:∀ y β I w d,Pk xs.length y→HeapOK C β n (Hk xs.length y) I w→C.w0.heap.size≤d→Aside β (Hk xs.length y) I w d (.deferred (some []))→Done Γ N (ankC w I β n (Hk xs.length y) ({ target:=.collected d,args:= #[] }::C.D)) E (Hk xs.length y) n (Q .normal))
  (hstop:∀ k y β I w d,k< xs.length→Zk k y→HeapOK C β n (Hz k y) I w→C.w0.heap.size≤d→Aside β (Hz k y) I w d (.deferred (some []))→Done Γ N (ankC w I β n (Hz k y) ({ target:=.collected d,args:= #[] }::C.D)) E (Hz k y) n (Q (jumpE jc))) (hgf:gf< 1000000:=by decide):
  WP Γ N C (.rangeFunc g ps.toArray assign body) E H n Q:=by
 intro β I a w hS;refine(wpIn_wide (n:=0)).1 (wpIn_rangeFunc ?_);intro fn hfn;obtain⟨hev,hevl⟩:=z82 hS.env hS.glob hg;obtain⟨cs,hval,hrel⟩:=zcc hgf hev hevl;obtain⟨f',hf'⟩:∃ f',f'=gf:=⟨_,rfl⟩;subst hf'
 have hargs:ArgsD I w (caps.map .c) cs.toList:=by
  refine⟨by simpa using hrel.1,fun j v hv=>?_⟩;obtain⟨x,hx,hr,_⟩:=hrel.2 j v hv
  have hl0:=hcaps v (List.mem_of_getElem? hv)
  exact⟨x,by simpa using hx,SV.rel_mono (n:=0) (fun i hi=>absurd hi (Nat.not_lt_zero i)) (Ext.refl _ _) hl0 hr,hl0⟩
 obtain⟨rec,hrec⟩:∃ rec:LoopState→Loop,rec=fun st=>{ state:=st,pending:=none,fn,tmps:=a.tmps,params:=ps.toArray,assign,body,defers:=w.heap.size }:=⟨_,rfl⟩;obtain⟨W1,hW1⟩:∃ W1,(w.alloc (.deferred (some []))).alloc (.loop (rec .ready))=W1:=⟨_,rfl⟩
 have hSame:Same w W1:=by rw[←hW1];exact((Below.refl _ w).alloc (Nat.le_refl _) _).alloc (by simp) _
 have hL1:W1.heap[w.heap.size+1]? =some (.loop (rec .ready)):=by
  rw[←hW1];have:=World.alloc_heap_new (w.alloc (.deferred (some []))) (.loop (rec .ready));rwa [World.size_alloc]at this
 have K1:W1.heap[w.heap.size]? =some (.deferred (some [])):=by
  rw[←hW1];exact(Below.heap_alloc _ _ _ (by simp)).trans (World.alloc_heap_new w _)
 have hblk:∀ id o,(Hk 0 y0).get id=some o→∀ b,β id=some b→b< w.heap.size:=fun id o ho b hb=>by
  rw[h0]at ho;exact(hS.heap.holds id o ho).lt hb
 have hC:=hS.heap.size
 let J:Nat→(Nat→Prop)→World→Prop:=fun k D W=>∃ y βk I',Pk k y∧(∀ i,i< n1→βk i=β i)∧HeapOK C βk n (Hk k y) I' W∧Ext I w I' W∧(∀ b,D b→I' b)∧Aside βk (Hk k y) I' W (w.heap.size+1) (.loop (rec .ready))∧Aside βk (Hk k y) I' W w.heap.size (.deferred (some []))
 let Z:(Nat→Prop)→World→Prop:=fun D W=>∃ k y βk I',(k< xs.length∧Zk k y)∧(∀ i,i< n1→βk i=β i)∧HeapOK C βk n (Hz k y) I' W∧Ext I w I' W∧(∀ b,D b→I' b)∧Aside βk (Hz k y) I' W (w.heap.size+1) (.loop { rec .done with pending:=some jc })∧Aside βk (Hz k y) I' W w.heap.size (.deferred (some []))
 refine⟨w.heap.size+1,[{ target:=.collected w.heap.size,args:= #[] }],W1,{ target:=.fn (.func f') cs,args:= #[.func (.yield (w.heap.size+1)) #[] #[]] },W1,f',
  #[.func (.yield (w.heap.size+1)) #[] #[]]++cs,W1,?_,?_,fun _ _=>trivial,?_,fun h=>Bool.noConfusion h,?_⟩
 ·rw[←hW1,hrec];exact run_enterLoop_outer _ _ _ _ _
 ·simp only[resolve,hval]
  simp[go_sem]
 ·simp[invoke,go_sem,hen _ _]
 refine callsIn_wide.2 (Calls.mono (hseq I W1 cs.toList (w.heap.size+1) ?_ ?_ ?_ J Z ?_ ?_ ?_ ?_) ?_)
 ·exact hS.glob.mono (hS.heap.ext hSame)
 ·exact fun b hb=>Nat.lt_of_lt_of_le (hS.heap.ilt b hb) hSame.size
 ·exact hargs.mono (hS.heap.ext hSame)
 ·-- the iterator's own steps
  rintro k D W D' W' β1 n2 H1 ⟨y,βk,I',hPy,hβk,hH,hE,hD,hA1,hA2⟩ hk
  refine⟨y,βk,_,hPy,hβk,hH.party hk hD,fun b hb=>?_,fun b hb=>.inr hb,hA1.party hk hD,hA2.party hk hD⟩
  have h1:=hE b hb
  exact⟨.inl h1.1,(hk.same.block b (hH.ilt b h1.1)).trans h1.2⟩
 ·rintro D W D' W' β1 n2 H1 ⟨k,y,βk,I',hk0,hβk,hH,hE,hD,hA1,hA2⟩ hk
  refine⟨k,y,βk,_,hk0,hβk,hH.party hk hD,fun b hb=>?_,fun b hb=>.inr hb,hA1.party hk hD,hA2.party hk hD⟩
  have h1:=hE b hb
  exact⟨.inl h1.1,(hk.same.block b (hH.ilt b h1.1)).trans h1.2⟩
 ·-- one round
  rintro k D W x v m hx ⟨y,βk,I',hPy,hβk,hH,hE,hD,hA1,hA2⟩ hv
  have hy:=run_yield (P:=Γ.P) (args:=v.toArray) hA1.at' (by rw[hrec];show v.toArray.size=ps.toArray.size;rw[List.size_toArray,List.size_toArray,hv.1,hps.2.2 x (List.mem_of_getElem? hx)])
  rw[hrec]at hy;refine⟨fn,_,assign,body,hy,roundIn_of_wpIn hfn ?_⟩;obtain⟨tm,htm⟩:∃ tm,tm=(ps.toArray.zip v.toArray).foldl (fun tmps (t,a)=>tmps.setIfInBounds t a) a.tmps:=⟨_,rfl⟩;obtain⟨htsz,htin,htout⟩:=zmi hps.1 (fun p hp=>by rw[hS.size];exact hps.2.1 p hp) (hv.1.trans (hps.2.2 x (List.mem_of_getElem? hx))) a.tmps rfl tm htm
  have hSa:St Γ N (ankC W I' βk n1 (Hk k y) []) βk n (zf5 ps x E) (Hk k y) I' { tmps:=tm,defers:=[] } W:=by
   refine⟨⟨rfl,fun i u hu=>?_,fun i u hu=>?_⟩,by rw[htsz];exact hS.size,(hH.ank []).ankN,hS.glob.mono hE,hn1,fun _ _=>rfl⟩
   ·rcases z97 hps.1 (hps.2.2 x (List.mem_of_getElem? hx)) hu with⟨j,hj,hxj⟩|⟨hi,hu⟩
    ·obtain⟨y,h1,h2,h3⟩:=hv.2 j u hxj
     exact⟨y,(htin j i hj).trans h1,SV.rel_mono (n:=0) (fun i hi=>absurd hi (Nat.not_lt_zero i)) (fun b hb=>⟨hD b hb,rfl⟩) h3 h2⟩
    ·obtain⟨y,h1,h2⟩:=hS.env.slot i u hu
     exact⟨y,(htout i hi).trans h1,SV.rel_mono (n:=n1) hβk hE (hE1 i u hu) h2⟩
   ·rcases z97 hps.1 (hps.2.2 x (List.mem_of_getElem? hx)) hu with⟨j,hj,hxj⟩|⟨hi,hu⟩
    ·obtain⟨y,h1,h2,h3⟩:=hv.2 j u hxj
     exact SV.low_mono (Nat.zero_le _) h3
    ·exact hS.env.low i u hu
  show assign.wpIn (fr (some (w.heap.size+1))) m Γ.P _ { tmps:=(ps.toArray.zip v.toArray).foldl (fun tmps (t,a)=>tmps.setIfInBounds t a) a.tmps,defers:=[] } W
  rw[←htm];refine hassign k y x hx hPy _ (some (w.heap.size+1)) m _ rfl ?_ βk I' _ W hSa;intro βa Ia aa Wa hSt
  have hβa:∀ i,i< n1→βa i=βk i:=fun i hi=>hSt.anch.2 i hi
  have hSh:=hSt.heap.ankN (n2:=n)
  have hHa:HeapOK C βa n (Hk k y) Ia Wa:=hH.unank hSh
  have hEa:Ext I' W Ia Wa:=hH.ankExt hSh
  have hA1a:Aside βa (Hk k y) Ia Wa (w.heap.size+1) (.loop (rec .ready)):=hA1.ank hSh
  have hA2a:Aside βa (Hk k y) Ia Wa w.heap.size (.deferred (some [])):=hA2.ank hSh
  refine⟨_,run_beginRound hA1a.at' (by rw[hrec]),?_⟩;obtain⟨hHb,hEb⟩:=hHa.other (by omega) hA1a (.loop { rec .ready with state:=.busy })
  have hA1b:=hA1a.same (.loop { rec .ready with state:=.busy })
  have hA2b:=hA2a.put (o':=.loop { rec .ready with state:=.busy }) (show w.heap.size≠w.heap.size+1 by omega)
  refine hbody k y x hx hPy (ankC _ Ia βa n1 (Hk k y) []) (some (w.heap.size+1)) m _ rfl ?_ ?_ βa Ia aa _ ⟨hSt.env.mono (fun i hi=>rfl) hEb (Nat.le_refl _),hSt.size,(hHb.ank []).ankN,hSt.glob.mono hEb,hn1,fun _ _=>rfl⟩
  ·intro y' hPy' βc Ic a3 W3 hSt3
   have hβc:∀ i,i< n1→βc i=βa i:=fun i hi=>hSt3.anch.2 i hi
   have hSh3:=hSt3.heap.ankN (n2:=n)
   have hHc:HeapOK C βc n (Hk (k+1) y') Ic W3:=hHb.unank hSh3
   have hEc:=hHb.ankExt hSh3
   have hA1c:Aside βc (Hk (k+1) y') Ic W3 (w.heap.size+1) (.loop { rec .ready with state:=.busy }):=hA1b.ank hSh3
   have hA2c:Aside βc (Hk (k+1) y') Ic W3 w.heap.size (.deferred (some [])):=hA2b.ank hSh3
   have hβd:∀ i,i< n1→βc i=β i:=fun i hi=>(hβc i hi).trans ((hβa i hi).trans (hβk i hi))
   have hend2:=run_endRound (P:=Γ.P) none hA1c.at'
   refine⟨_,_,hend2,.inl ⟨rfl,?_⟩,?_⟩
   ·obtain⟨hHd,hEd⟩:=hHc.other (by omega) hA1c (.loop (rec .ready))
    have e:({ rec .ready with state:=.busy }:Loop)=rec .busy:=by rw[hrec]
    have e2:({ { rec .ready with state:=.busy } with state:=if(none:Option Code).isNone then LoopState.ready else .done,pending:=none }:Loop)=rec .ready:=by rw[hrec];rfl
    rw[e2];refine⟨y',βc,Ic,hPy',hβd,hHd,hE.trans (hEa.trans (hEb.trans (hEc.trans hEd))),fun b hb=>((hEa.trans (hEb.trans hEc)) b (hD b hb)).1,hA1c.same _,hA2c.put (show w.heap.size≠w.heap.size+1 by omega)⟩
   ·intro b hb
    have h1:=(hEa.trans (hEb.trans hEc)) b (hD b hb)
    rw[World.putObj_heap_other (show b≠w.heap.size+1 from fun e=>hA1c.data (e▸h1.1))];exact h1.2
  ·intro y' hz βc Ic a3 W3 hSt3
   have hβc:∀ i,i< n1→βc i=βa i:=fun i hi=>hSt3.anch.2 i hi
   have hSh3:=hSt3.heap.ankN (n2:=n)
   have hHc:HeapOK C βc n (Hz k y') Ic W3:=hHb.unank hSh3
   have hEc:=hHb.ankExt hSh3
   have hA1c:Aside βc (Hz k y') Ic W3 (w.heap.size+1) (.loop { rec .ready with state:=.busy }):=hA1b.ank hSh3
   have hA2c:Aside βc (Hz k y') Ic W3 w.heap.size (.deferred (some [])):=hA2b.ank hSh3
   have hβd:∀ i,i< n1→βc i=β i:=fun i hi=>(hβc i hi).trans ((hβa i hi).trans (hβk i hi))
   have hend2:=run_endRound (P:=Γ.P) (some jc) hA1c.at'
   have hkx:k< xs.length:=(List.getElem?_eq_some_iff.1 hx).1
   obtain⟨hHd,hEd⟩:=hHc.other (by omega) hA1c (.loop { rec .done with pending:=some jc })
   have e2:({ { rec .ready with state:=.busy } with state:=if(some jc:Option Code).isNone then LoopState.ready else .done,pending:=some jc }:Loop)={ rec .done with pending:=some jc }:=by rw[hrec];rfl
   rw[e2]at hend2
   have hfin:(∃ v w',(Instr.endRound (w.heap.size+1) (some jc)).run Γ.P W3= .ok v w'∧((fun e w'=>(e=Ending.returned (.bool true)∧J (k+1) D w'∨e=Ending.returned (.bool false)∧Z D w')∧∀ b,D b→w'.heap[b]? =W.heap[b]?) (.returned v) w')):=by
    refine⟨_,_,hend2,.inr ⟨rfl,k,y',βc,Ic,⟨hkx,hz⟩,hβd,hHd,hE.trans (hEa.trans (hEb.trans (hEc.trans hEd))),fun b hb=>((hEa.trans (hEb.trans hEc)) b (hD b hb)).1,hA1c.same _,hA2c.put (show w.heap.size≠w.heap.size+1 by omega)⟩,?_⟩;intro b hb
    have h1:=(hEa.trans (hEb.trans hEc)) b (hD b hb)
    rw[World.putObj_heap_other (show b≠w.heap.size+1 from fun e=>hA1c.data (e▸h1.1))];exact h1.2
   cases jc<;>first|exact hfin|(simp[zmj]at hjc;done)
 ·refine⟨y0,β,I,hP0,fun _ _=>rfl,by rw[h0];exact hS.heap.later hSame,hS.heap.ext hSame,fun b hb=>hb,⟨hL1,fun h=>?_,fun id o ho b hb e=>?_⟩,⟨K1,fun h=>?_,fun id o ho b hb e=>?_⟩⟩
  ·have:=hS.heap.ilt _ h;omega
  ·have:=hblk id o ho b hb;omega
  ·have:=hS.heap.ilt _ h;omega
  ·have:=hblk id o ho b hb;omega
 ·-- behind the iterator
  rintro e W2 ⟨⟨v,rfl⟩,D,⟨y,βk,I',hPy,hβk,hH,hE,hD,hA1,hA2⟩|⟨k,y,βk,I',⟨hkx,hz⟩,hβk,hH,hE,hD,hA1,hA2⟩⟩
  ·have hl:=run_endLoop (P:=Γ.P) hA1.at' (by rw[hrec];simp)
   refine⟨none,W2.putObj (w.heap.size+1) (.loop { rec .ready with state:=.exhausted }),?_,?_⟩
   ·rw[hrec]at hl ⊢;exact hl
   ·obtain⟨hHd,hEd⟩:=hH.other (by omega) hA1 (.loop { rec .ready with state:=.exhausted })
    have hA3:=hA2.put (o':=.loop { rec .ready with state:=.exhausted }) (show w.heap.size≠w.heap.size+1 by omega)
    have hE3:=hE.trans hEd
    refine hend y βk I' _ w.heap.size hPy hHd (by omega) hA3 βk I' _ _ ⟨⟨?_,fun i u hu=>?_,hS.env.low⟩,hS.size,hHd.ank _,hS.glob.mono hE3,Nat.le_refl _,fun _ _=>rfl⟩
    ·show _::a.defers=_::C.D
     rw[hS.env.defers]
    ·obtain⟨y,h1,h2⟩:=hS.env.slot i u hu
     exact⟨y,h1,SV.rel_mono (n:=n1) hβk hE3 (hE1 i u hu) h2⟩
  ·have hl:=run_endLoop (P:=Γ.P) hA1.at' (by rw[hrec];simp)
   refine⟨some jc,W2.putObj (w.heap.size+1) (.loop { { rec .done with pending:=some jc } with state:=.exhausted }),hl,?_⟩;obtain⟨hHd,hEd⟩:=hH.other (by omega) hA1 (.loop { { rec .done with pending:=some jc } with state:=.exhausted })
   have hA3:=hA2.put (o':=.loop { { rec .done with pending:=some jc } with state:=.exhausted }) (show w.heap.size≠w.heap.size+1 by omega)
   have hE3:=hE.trans hEd
   have hq:=hstop k y βk I' _ w.heap.size hkx hz hHd (by omega) hA3 βk I' { a with defers:={ target:=.collected w.heap.size,args:= #[] }::a.defers } _ ⟨⟨by rw[hS.env.defers];rfl,fun i u hu=>(by
    obtain⟨y,h1,h2⟩:=hS.env.slot i u hu
    exact⟨y,h1,SV.rel_mono (n:=n1) hβk hE3 (hE1 i u hu) h2⟩),hS.env.low⟩,hS.size,hHd.ank _,hS.glob.mono hE3,Nat.le_refl _,fun _ _=>rfl⟩
   show jc.wpIn Fence.wide 0 Γ.P Q _ _
   refine wpIn_wide.2 ?_
   cases jc<;>first|exact wp_ret hq|exact wp_exit hq|(simp[zmj]at hjc;done)
end
end Go.Ab

namespace Go.Ab
set_option linter.all false
open Go.RowKit

def Cell.plain:Cell→Bool
 | .int _ _| .bool _| .u8 _| .u32 _| .u64 _| .str _| .nils| .ds _ _| .dp _ _=>true
 |_=>false
def z01(l:List Cell):Prop:=∀ x∈l,x.plain=true
theorem z8e:z01 []:=fun x h=>by cases h
theorem z25{x:Cell}{l:List Cell}(hx:x.plain=true)(hl:z01 l):z01 (x::l):=fun y hy=>by
 rcases List.mem_cons.1 hy with rfl|hy
 ·exact hx
 ·exact hl y hy
theorem zf6{a b:List Cell}(ha:z01 a)(hb:z01 b):z01 (a++b):=fun y hy=>(List.mem_append.1 hy).elim (ha y) (hb y)
theorem zf7{α:Type}{f:α→Cell}(h:∀ a,(f a).plain=true)(l:List α):z01 (l.map f):=fun y hy=>by
 obtain⟨a,_,rfl⟩:=List.mem_map.1 hy;exact h a
theorem zmk{x:Cell}(hx:x.plain=true)(n:Nat):z01 (List.replicate n x):=fun y hy=>by rw[List.eq_of_mem_replicate hy];exact hx
theorem z01.tail{x:Cell}{l:List Cell}(h:z01 (x::l)):z01 l:=fun y hy=>h y (List.mem_cons_of_mem _ hy)
theorem Cell.plain_isD{x:Cell}(h:x.plain=true):x.isD:=by cases x<;>first|exact trivial|cases h
theorem Cell.plain_solid{x:Cell}(h:x.plain=true):x.solid:=by cases x<;>first|exact trivial|cases h
theorem Cell.plain_low{x:Cell}(h:x.plain=true){n:Nat}:x.low n:=by cases x<;>first|exact trivial|cases h
theorem Cell.plain_to{x:Cell}(h:x.plain=true){ty:Nat→Ty}{H:Heap}{is:List Nat}{ρ:Nat→Nat}:x.to ty H is ρ x:=by
 cases x<;>first|exact trivial|exact rfl|exact⟨rfl,rfl⟩|cases h
theorem z01.isD:∀ {l:List Cell},z01 l→(Cont.cells l).isD
 |[],_=>trivial
 |x::l,h=>⟨Cell.plain_isD (h x List.mem_cons_self),z01.isD h.tail⟩
theorem z01.solid:∀ {l:List Cell},z01 l→(Cont.cells l).solid
 |[],_=>trivial
 |x::l,h=>⟨Cell.plain_solid (h x List.mem_cons_self),z01.solid h.tail⟩
theorem z01.low{l:List Cell}(h:z01 l){n:Nat}:(Cont.cells l).low n:=fun x hx=>Cell.plain_low (h x hx)
theorem z01.to{ty:Nat→Ty}{H:Heap}{is:List Nat}{ρ:Nat→Nat}:∀ {l:List Cell},z01 l→(Cont.cells l).to ty H is ρ (.cells l)
 |[],_=>trivial
 |x::l,h=>⟨Cell.plain_to (h x List.mem_cons_self),z01.to h.tail⟩
theorem z01.noclo{l:List Cell}(h:z01 l):∀ x∈l,∀ g cs,x≠Cell.clo g cs:=fun x hx g cs e=>by
 have:=h x hx;rw[e]at this;cases this

structure Rec{α:Type}(enc:α→List Cell)(w:Nat)(P:α→Prop):Prop where
 len:∀ {a},P a→(enc a).length=w
 dat:∀ a,z01 (enc a)
def z0o{α:Type}(enc:α→List Cell)(l:List α):List Cell:=(l.map enc).flatten
section
variable {α:Type} {enc:α→List Cell} {w:Nat} {P:α→Prop}
theorem rows_app(a b:List α):z0o enc (a++b)=z0o enc a++z0o enc b:=by simp[z0o]
theorem rows_one(a:α):z0o enc [a]=enc a:=by simp[z0o]
theorem zbb(a:α)(l:List α):z0o enc (a::l)=enc a++z0o enc l:=by simp[z0o]
theorem z6y(l:List α)(a:α):z0o enc (l++[a])=z0o enc l++enc a:=by rw[rows_app,rows_one]
theorem z10(h:Rec enc w P):∀ {l:List α},(∀ a∈l,P a)→(z0o enc l).length=l.length*w
 |[],_=>by simp[z0o]
 |a::l,hl=>by
  rw[zbb,List.length_append,h.len (hl a List.mem_cons_self),z10 h fun x hx=>hl x (List.mem_cons_of_mem _ hx),List.length_cons,Nat.succ_mul,Nat.add_comm]
theorem z00(h:Rec enc w P)(l:List α):z01 (z0o enc l):=fun x hx=>by
 obtain⟨m,hm,hx⟩:=List.mem_flatten.1 hx;obtain⟨a,_,rfl⟩:=List.mem_map.1 hm;exact h.dat a x hx
theorem zf8(h:Rec enc w P):∀ {l:List α},(∀ a∈l,P a)→∀ n,(z0o enc l).drop (n*w)=z0o enc (l.drop n)
 |l,_,0=>by simp
 |[],_,n+1=>by simp[z0o]
 |a::l,hl,n+1=>by
  rw[zbb,List.drop_succ_cons, ←zf8 h (fun x hx=>hl x (List.mem_cons_of_mem _ hx)) n,Nat.succ_mul,Nat.add_comm, ←List.drop_drop,List.drop_left' (h.len (hl a List.mem_cons_self))]
theorem zml(h:Rec enc w P){l:List α}(hl:∀ a∈l,P a){i:Nat}{a:α}(e:l[i]? =some a):((z0o enc l).drop (i*w)).take w=enc a:=by
 have ha:l.drop i=a::l.drop (i+1):=by
  obtain⟨hi,rfl⟩:=List.getElem?_eq_some_iff.1 e;exact List.drop_eq_getElem_cons hi
 rw[zf8 h hl,ha,zbb,List.take_left' (h.len (hl a (List.mem_of_getElem? e)))]
theorem rows_get(h:Rec enc w P){l:List α}(hl:∀ a∈l,P a){i:Nat}{a:α}(e:l[i]? =some a){j:Nat}(hj:j< w):(Cont.cells (z0o enc l)).get (i*w+j)=(enc a).getD j .nils:=by
 rw[←zml h hl e]
 show List.getD _ _ _=_
 rw[List.getD_eq_getElem?_getD,List.getD_eq_getElem?_getD,List.getElem?_take,if_pos hj,List.getElem?_drop]
theorem rows_sub(h:Rec enc w P){l:List α}(hl:∀ a∈l,P a){i:Nat}{a:α}(e:l[i]? =some a):(Cont.cells (z0o enc l)).sub (i*w) w= .cells (enc a):=congrArg Cont.cells (zml h hl e)
theorem as_of{v u:SV}(h:v=u):v.as u:=h▸SV.as_refl v
theorem rows_as(h:Rec enc w P){l:List α}(hl:∀ a∈l,P a){i:Nat}{a:α}(e:l[i]? =some a):SV.as (.agg ((Cont.cells (z0o enc l)).sub (i*w) w)) (.agg (.cells (enc a))):=as_of (congrArg SV.agg (rows_sub h hl e))
theorem z31(h:Rec enc w P){l:List α}(hl:∀ a∈l,P a){i o m:Nat}(ho:o=i*w)(hm:m=w){a:α}(e:l[i]? =some a):SV.as (.agg ((Cont.cells (z0o enc l)).sub o m)) (.agg (.cells (enc a))):=by subst ho;subst hm;exact rows_as h hl e
theorem z7a(h:Rec enc w P){l:List α}(hl:∀ a∈l,P a){i j o:Nat}(ho:o=i*w+j)(hj:j< w){a:α}(e:l[i]? =some a){x:Cell}(hx:(enc a).getD j .nils=x):SV.as (.c ((Cont.cells (z0o enc l)).get o)) (.c x):=by
 subst ho;subst hx;exact as_of (congrArg SV.c (rows_get h hl e hj))
theorem zdf(h:Rec enc w P){l:List α}{n:Nat}:(Cont.cells (z0o enc l)).low n:=(z00 h l).low
theorem z8f(h:Rec enc w P)(l:List α):(Cont.cells (z0o enc l)).isD:=(z00 h l).isD
theorem zdg{ty:Nat→Ty}{H:Heap}{is:List Nat}{ρ:Nat→Nat}{x y:List Cell}(hp:z01 y)(e:x=y):(Cont.cells x).to ty H is ρ (.cells y):=by subst e;exact hp.to
theorem Rec.low(h:Rec enc w P)(a:α){n:Nat}:(Cont.cells (enc a)).low n:=(h.dat a).low
theorem Rec.isD(h:Rec enc w P)(a:α):(Cont.cells (enc a)).isD:=(h.dat a).isD
theorem Rec.solid(h:Rec enc w P)(a:α):(Cont.cells (enc a)).solid:=(h.dat a).solid
theorem Rec.to(h:Rec enc w P){ty:Nat→Ty}{H:Heap}{is:List Nat}{ρ:Nat→Nat}(a:α):(Cont.cells (enc a)).to ty H is ρ (.cells (enc a)):=(h.dat a).to
end
end Go.Ab

namespace Go.Ab
set_option linter.all false
open Go.RowKit

section
variable {Γ:Ctx} {N:Nat} {C:CC}
theorem zbc(hΓ:Γ.OK){ops os2:List Oper}{Q:Exit→Act→World→Prop}:∀ (os:List Oper) {β:Val} {n:Nat} {E:Env} {H:Heap} {I:Nat→Prop} {a:Act} {w:World} {K:Env→Heap→Nat→Prop},St Γ N C β n E H I a w→wpS Γ N ops os E H n K→
  (∀ β' n' E' H' I' a' w',K E' H' n'→St Γ N C β' n' E' H' I' a' w'→wpList Γ.P ops.toArray Q os2 a' w')→wpList Γ.P ops.toArray Q (os++os2) a w
 |[],β,n,E,H,I,a,w,K,hS,h,hQ=>hQ β n E H I a w h hS
 | o ::os,β,n,E,H,I,a,w,K,hS,h,hQ=>by
  obtain⟨hd,h⟩:=h
  have run:stepS Γ o E H n (fun v H n=>∃ v',v.as v'∧wpS Γ N ops os (E.put o.dst v') H n K)→o.wp Γ.P a w (wpList Γ.P ops.toArray Q (os++os2)) Q:=by
   intro h;refine(z68 hΓ hS.env hS.glob hS.heap h).wp fun x w' hA=>?_;obtain⟨v,H',n',β',I',hK,hS'⟩:=hS.after hA.as hd;exact zbc hΓ os hS' hK hQ
  have skip:wpS Γ N ops os (E.put o.dst z39) H n K→wpList Γ.P ops.toArray Q (os++os2) (a.put o.dst undef) w:=by
   intro h;obtain⟨hE',hN'⟩:=hS.env.put hS.size hd z5o trivial;exact zbc hΓ os ⟨hE',hN',hS.heap,hS.glob,hS.anch⟩ h hQ
  show wpList Γ.P ops.toArray Q (o::(os++os2)) a w
  unfold wpList
  split at h
  ·rename_i hg
   simp only[Region.wanted,hg,if_true]
   exact .inl (run h)
  ·rename_i j want hg
   split at h
   ·rename_i b hy
    have:=z1w hS.env hy
    simp only[Region.wanted,hg,this]
    by_cases hbw:b=want
    ·subst hbw;simp only[beq_self_eq_true,if_true];exact .inl (run (h.1 rfl))
    ·have:(some b==some want)=false:=by simpa using hbw
     simp only[this,Bool.false_eq_true,if_false]
     exact skip (h.2 (by cases b<;>cases want<;>simp_all))
   ·rename_i hy
    have:=z1w hS.env hy
    simp only[Region.wanted,hg,this]
    exact skip h
   ·exact h.elim

def wpC(Γ:Ctx)(N:Nat)(C:CC)(ops:List Oper):List Nat→List Oper→Env→Heap→Nat→(Env→Heap→Nat→Prop)→Prop
 |[],os,E,H,n,K=>wpS Γ N ops os E H n K
 |k::ks,os,E,H,n,K=>wpS Γ N ops (os.take k) E H n fun E1 H1 n1=>∃ is ρ E' H' n',Le Γ C is ρ E1 H1 E' H' n'∧wpC Γ N C ops ks (os.drop k) E' H' n' K
theorem zf9(hΓ:Γ.OK){ops:List Oper}{Q:Exit→Act→World→Prop}:∀ (ks:List Nat) (os:List Oper) {β:Val} {n:Nat} {E:Env} {H:Heap} {I:Nat→Prop} {a:Act} {w:World} {K:Env→Heap→Nat→Prop},St Γ N C β n E H I a w→wpC Γ N C ops ks os E H n K→
  (∀ β' n' E' H' I' a' w',K E' H' n'→St Γ N C β' n' E' H' I' a' w'→Q .normal a' w')→wpList Γ.P ops.toArray Q os a w
 |[],os,β,n,E,H,I,a,w,K,hS,h,hQ=>z89 hΓ os hS h hQ
 |k::ks,os,β,n,E,H,I,a,w,K,hS,h,hQ=>by
  rw[←List.take_append_drop k os];refine zbc hΓ _ hS h fun β' n' E' H' I' a' w' hK hS'=>?_;obtain⟨is,ρ,E2,H2,n2,hle,h2⟩:=hK;exact zf9 hΓ ks _ (hS'.le hle) h2 hQ
theorem region_c(hΓ:Γ.OK)(ks:List Nat){id:Nat}{l:List Oper}{E:Env}{H:Heap}{n:Nat}{R:Exit→Act→World→Prop}(h:∀ K:Env→Heap→Nat→Prop,(∀ E H n,Done Γ N C E H n (R .normal)→K E H n)→wpC Γ N C l ks l E H n K):WP Γ N C (.region id l.toArray false) E H n R:=
 fun _ _ _ _ hS=>wp_region_lit (zf9 hΓ ks l hS (h _ fun _ _ _ h=>h) fun β' _ _ _ I' a' w' hK hS'=>hK β' I' a' w' hS')
theorem c_le{X:Env→Heap→Nat→Prop}{E1:Env}{H1:Heap}{E':Env}{H':Heap}{n':Nat}(is:List Nat)(ρ:Nat→Nat)(hle:Le Γ C is ρ E1 H1 E' H' n')(h:X E' H' n'):∃ is ρ E' H' n',Le Γ C is ρ E1 H1 E' H' n'∧X E' H' n':=⟨is,ρ,E',H',n',hle,h⟩
end
end Go.Ab

namespace Go.Ab
set_option linter.all false
open Go.RowKit Go.ChangeShapes Go.Deep
section
variable {H:Type} {enc:TypeId×Value→H} {P:Program} {W W':World}

def z3b(W:World):List Cell→List Value→Prop
 |[],[]=>True
 |c::cs,v::vs=>CellD (oldI W) W c v∧z3b W cs vs
 |_,_=>False
theorem z3b.len:∀ {l:List Cell} {vs:List Value},z3b W l vs→vs.length=l.length
 |[],[],_=>rfl
 |_::_,_::_,h=>by simp[z3b.len h.2]
 |[],_::_,h=>h.elim
 |_::_,[],h=>h.elim
theorem z3b.app:∀ {l m:List Cell} {vs us:List Value},z3b W l vs→z3b W m us→z3b W (l++m) (vs++us)
 |[],_,[],_,_,h=>h
 |_::_,_,_::_,_,h,k=>⟨h.1,z3b.app h.2 k⟩
 |[],_,_::_,_,h,_=>h.elim
 |_::_,_,[],_,h,_=>h.elim
theorem z3b.get:∀ {l:List Cell} {vs:List Value},z3b W l vs→∀ (j:Nat) c,l[j]? =some c→∃ v,vs[j]? =some v∧CellD (oldI W) W c v
 |c::l,v::vs,h,0,d,e=>by
  obtain rfl:c=d:=by simpa using e
  exact⟨v,rfl,h.1⟩
 |c::l,v::vs,h,j+1,d,e=>by
  obtain⟨u,hu,hc⟩:=z3b.get h.2 j d (by simpa using e);exact⟨u,by simpa using hu,hc⟩
 |[],[],_,j,d,e=>by simp at e
 |[],_::_,h,_,_,_=>h.elim
 |_::_,[],h,_,_,_=>h.elim
theorem z3b.flat{α:Type}{f:α→Cell}(hf:∀ a,(f a).flat=true):∀ l:List α,z3b W (l.map f) (l.map fun a=>(f a).val)
 |[]=>trivial
 |a::l=>⟨.flat _ (hf a),z3b.flat hf l⟩

def FitN(enc:TypeId×Value→H)(P:Program)(W:World)(t:TypeId)(S:List Cell→Prop):Prop:=
 ∀ fuel cs x,DataW.trod enc P W 0 (fun _=>true) true fuel t cs=some x→∃ l,z3b W l cs∧S l
theorem FitN.mono{t:TypeId}{S S':List Cell→Prop}(h:FitN enc P W t S)(hS:∀ l,S l→S' l):FitN enc P W t S':=fun fuel cs x hx=>
 let ⟨l,h1,h2⟩:=h fuel cs x hx;⟨l,h1,hS l h2⟩
theorem z3q{t:TypeId}{S:Cell→Prop}(h:Fit enc P W t S):FitN enc P W t fun l=>∃ c,l=[c]∧S c:=fun fuel cs x hx=>by
 obtain⟨v,c,rfl,h1,h2⟩:=h fuel cs x hx;exact⟨[c],⟨h1,trivial⟩,c,rfl,h2⟩

theorem zl1{t e:TypeId}{n w:Nat}{S:List Cell→Prop}(ht:P.underlying t=some (.array n e))(hw:P.cellsOf e=w)(hct:P.cellsOf t=n*w)(he:FitN enc P W e S):
  FitN enc P W t fun l=>∃ ls:List (List Cell),l=ls.flatten∧ls.length=n∧∀ x∈ls,S x:=fun fuel cs x h=>by
 obtain⟨xs,m,-,-,hl,hxl,hx⟩:=DataW.trod_array ht h;rw[hw]at hx;rw[hct]at hl
 have key:∀ k,k≤n→∃ ls:List (List Cell),z3b W ls.flatten (cs.take (k*w))∧ls.length=k∧∀ x∈ls,S x:=by
  intro k
  induction k with
  |zero=>exact fun _=>⟨[],by simp[z3b],rfl,by simp⟩
  | succ k ih=>
   intro hk;obtain⟨ls,h1,h2,h3⟩:=ih (by omega)
   have h4:=hx k (by omega)
   rw[List.getElem?_eq_getElem (by omega)]at h4;obtain⟨l,h5,h6⟩:=he _ _ _ h4;refine⟨ls++[l],?_,by simp[h2],fun y hy=>?_⟩
   ·rw[List.flatten_append,show(k+1)*w=k*w+w by rw[Nat.succ_mul],List.take_add]
    simpa using h1.app h5
   ·rcases List.mem_append.1 hy with hy|hy
    ·exact h3 y hy
    ·rw[List.mem_singleton.1 hy];exact h6
 obtain⟨ls,h1,h2,h3⟩:=key n (Nat.le_refl _);rw[List.take_of_length_le (by omega)]at h1;exact⟨_,h1,ls,rfl,h2,h3⟩

def FitFs(enc:TypeId×Value→H)(P:Program)(W:World):Nat→List Field→List (List Cell→Prop)→Prop
 |_,[],[]=>True
 |off,f::fs,S::Ss=>f.offset=off∧FitN enc P W f.type S∧FitFs enc P W (off+P.cellsOf f.type) fs Ss
 |_,_,_=>False
def AllS:List (List Cell→Prop)→List (List Cell)→Prop
 |[],[]=>True
 |S::Ss,l::ls=>S l∧AllS Ss ls
 |_,_=>False
theorem z3c{S:List Cell→Prop}{Ss:List (List Cell→Prop)}:∀ {ls:List (List Cell)},AllS (S::Ss) ls→∃ l ls',ls=l::ls'∧S l∧AllS Ss ls'
 |l::ls,h=>⟨l,ls,rfl,h.1,h.2⟩
 |[],h=>h.elim
theorem zab:∀ {ls:List (List Cell)},AllS [] ls→ls=[]
 |[],_=>rfl
 |_::_,h=>h.elim
def endOf(P:Program)(off:Nat):List Field→Nat
 |[]=>off
 |f::fs=>endOf P (off+P.cellsOf f.type) fs
theorem zbd{n:Nat}{cs:List Value}:∀ {fs:List Field} {Ss:List (List Cell→Prop)} {off:Nat},FitFs enc P W off fs Ss→(∀ (i:Nat) f,fs[i]? =some f→∃ x,DataW.trod enc P W 0 (fun _=>true) true n f.type ((cs.drop f.offset).take (P.cellsOf f.type))=some x)→
  cs.length=endOf P off fs→∃ ls,AllS Ss ls∧z3b W ls.flatten (cs.drop off)
 | [],[],off,_,_,hl=>⟨[],trivial,by
   have hl:cs.length=off:=hl
   rw[List.drop_of_length_le (by omega)];exact trivial⟩
 |f::fs,S::Ss,off,⟨ho,hf,hr⟩,hx,hl=>by
  obtain⟨x,h0⟩:=hx 0 f rfl;obtain⟨l,h1,h2⟩:=hf _ _ _ h0;obtain⟨ls,h3,h4⟩:=zbd hr (fun i g hg=>hx (i+1) g (by simpa using hg)) hl;refine⟨l::ls,⟨h2,h3⟩,?_⟩;rw[ho]at h1
  have:=h1.app h4
  rw[←List.drop_drop,List.take_append_drop]at this
  simpa using this
 |[],_::_,_,h,_,_=>h.elim
 |_::_,[],_,h,_,_=>h.elim
theorem z6a{t:TypeId}{fs:Array Field}{Ss:List (List Cell→Prop)}(ht:P.underlying t=some (.struct fs))(he:P.cellsOf t=endOf P 0 fs.toList)(hf:FitFs enc P W 0 fs.toList Ss):
  FitN enc P W t fun l=>∃ ls,l=ls.flatten∧AllS Ss ls:=fun fuel cs x h=>by
 obtain⟨xs,n,-,-,hl,hxl,hx⟩:=DataW.trod_struct ht h
 obtain⟨ls,h1,h2⟩:=zbd (cs:=cs) (n:=n) hf (fun i f hi=>by
  have hi':fs[i]? =some f:=by simpa using hi
  have hlt:i< xs.length:=by rw[hxl];exact(Array.getElem?_eq_some_iff.1 hi').1
  exact⟨xs[i],(hx i f hi').trans (List.getElem?_eq_getElem hlt)⟩) (by rw[hl,he])
 exact⟨_,by simpa using h2,ls,rfl,h1⟩

theorem zl2{t e:TypeId}{w:Nat}{S:List Cell→Prop}(ht:P.underlying t=some (.slice e))(hw:P.cellsOf e=w)(hpos:0< w)(he:FitN enc P W e S):
  Fit enc P W t fun c=>∃ ls:List (List Cell),c= .ds ls.length (.cells ls.flatten)∧ls.length≤9223372036854775807∧∀ x∈ls,x.length=w∧S x:=fun fuel cs x h=>by
 rcases open_slice ht h with⟨rfl,_⟩|⟨a,len,cap,m,n,D,Pl,rfl,hb,hl,hm,hmm,rfl,hx⟩
 ·exact⟨_,.ds 0 (.cells []),rfl,.ds0 _ _ _ rfl,[],rfl,Nat.zero_le _,by simp⟩
 ·simp only[if_true]at hmm
  have hmm:=hmm.symm
  subst hmm;rw[hw]at hx
  have hmax:len≤9223372036854775807:=by have:=hm;simp only[maxLen]at this;omega
  have key:∀ k,k≤len→∃ (ls:List (List Cell)) (vs:List Value),z3b W ls.flatten vs∧ls.length=k∧(∀ x∈ls,x.length=w∧S x)∧vs.length=k*w∧∀ j,j< k*w→W.cell? (a.add j)=vs[j]? :=by
   intro k
   induction k with
   |zero=>exact fun _=>⟨[],[],trivial,rfl,by simp,by simp,fun j hj=>by simp at hj⟩
   | succ k ih=>
    intro hk;obtain⟨ls,vs,h1,h2,h3,h4,h5⟩:=ih (by omega);obtain⟨cs',h6,h7⟩:=hx k (by omega);obtain⟨_,h8,h9⟩:=World.cells?_some h6;obtain⟨l,h10,h11⟩:=he _ _ _ h7
    have hlw:l.length=w:=by rw[←h10.len,h8]
    refine⟨ls++[l],vs++cs',?_,by simp[h2],fun y hy=>?_,by rw[List.length_append,h4,h8,Nat.succ_mul],fun j hj=>?_⟩
    ·rw[List.flatten_append];simpa using h1.app h10
    ·rcases List.mem_append.1 hy with hy|hy
     ·exact h3 y hy
     ·rw[List.mem_singleton.1 hy];exact⟨hlw,h11⟩
    ·rw[Nat.succ_mul]at hj
     by_cases hj2:j< k*w
     ·rw[List.getElem?_append_left (by omega),h5 j hj2]
     ·rw[List.getElem?_append_right (by omega),h4, ←h9 (j - k*w) (by omega)]
      congr 1
      have:∀ (b:Addr) (x y:Nat),(b.add x).add y=b.add (x+y):=fun b x y=>by
       unfold Addr.add
       by_cases hx:x=0
       ·subst hx;simp
       ·split<;>rename_i hs<;>simp[hs,hx,Nat.add_assoc]
      rw[this]
      congr 1
      omega
  obtain⟨ls,vs,h1,h2,h3,h4,h5⟩:=key len (Nat.le_refl _);refine⟨_,.ds ls.length (.cells ls.flatten),rfl,?_,ls,rfl,by omega,h3⟩
  have hfl:ls.flatten.length=len*w:=by rw[←h1.len,h4]
  by_cases h0:len=0
  ·subst h0
   rw[h2];exact .ds0 _ _ _ (by show ls.flatten.length=0;rw[hfl];simp)
  ·have hp:0< len*w:=Nat.mul_pos (by omega) hpos
   have hfirst:W.cell? (a.add 0)=some (vs[0]'(by omega)):=by rw[h5 0 hp,List.getElem?_eq_getElem]
   obtain⟨hs,hbl⟩:=zb8 hfirst;obtain⟨b,o,s⟩:=a
   have hs':s=none:=by simpa [Addr.add]using hs
   subst hs';rw[h2];refine .ds len _ b o cap (fun j=>vs.getD j default) hl hbl (by show 0< ls.flatten.length;omega) (fun j hj=>?_) (fun j hj=>?_)
   ·have hj':j< len*w:=by rw[←hfl];exact hj
    have e:(⟨b,o,none⟩:Addr).add j=⟨b,o+j,none⟩:=by
     unfold Addr.add
     split
     ·rename_i h;rw[h];rfl
     ·rfl
    rw[←e,h5 j hj',List.getD_eq_getElem?_getD,List.getElem?_eq_getElem (by omega)];rfl
   ·have hj':j< ls.flatten.length:=hj
    obtain⟨v,hv,hc⟩:=h1.get j _ (List.getElem?_eq_getElem hj')
    have e:(Cont.cells ls.flatten).get j=ls.flatten[j]:=by
     show ls.flatten.getD j .nils=_
     rw[List.getD_eq_getElem?_getD,List.getElem?_eq_getElem hj'];rfl
    rw[e,List.getD_eq_getElem?_getD,hv];exact hc

theorem zmm{α:Type}{f:α→List Cell}{Q:α→Prop}:∀ {ls:List (List Cell)},(∀ x∈ls,∃ a,x=f a∧Q a)→∃ l:List α,ls=l.map f∧∀ a∈l,Q a
 |[],_=>⟨[],rfl,by simp⟩
 |x::ls,h=>by
  obtain⟨a,rfl,ha⟩:=h x List.mem_cons_self;obtain⟨l,rfl,hl⟩:=zmm (ls:=ls) fun y hy=>h y (List.mem_cons_of_mem _ hy);exact⟨a::l,rfl,by simpa using ⟨ha,hl⟩⟩
theorem zin{α:Type}{f:α→List Cell}{Q:α→Prop}{t e:TypeId}{w:Nat}(ht:P.underlying t=some (.slice e))(hw:P.cellsOf e=w)(hpos:0< w)(he:FitN enc P W e fun l=>∃ a,l=f a∧Q a):
  Fit enc P W t fun c=>∃ l:List α,c= .ds l.length (.cells (z0o f l))∧l.length≤9223372036854775807∧∀ a∈l,Q a:=
 (zl2 ht hw hpos he).mono fun c ⟨ls,hc,hl,hx⟩=>by
  obtain⟨l,rfl,hq⟩:=zmm (f:=f) (Q:=Q) fun x hx'=>(hx x hx').2;exact⟨l,by rw[hc,List.length_map];rfl,by simpa using hl,hq⟩
end
end Go.Ab

namespace Go.Ab
set_option linter.all false
open Go.RowKit

structure HidB(b:Prop):Prop where out:b
section
variable {a b:Prop}
theorem vTh(h:a:=by first|exact zbn trivial trivial|exact tab_fits hcl|exact znr hcl|(show _< (z0z _ _ _ _).length;rw[z0t hcl];omega)|(show _≤(z0z _ _ _ _).length;rw[z0t hcl];omega)|(show(z0z _ _ _ _).length=259;exact z0t hcl)|(show 259=(z0z _ _ _ _).length;exact(z0t hcl).symm)|(show _< (rowsC _).length;rw[z1d];omega)|(simp only[z9y];omega)|(simp only[z2h,z9y];omega)|(simp only[z1t,zfd];omega)):a:=h
theorem pT(h:a:=by first|exact znq|exact zl_to|exact znp|exact zhd trivial trivial|exact z8j ⟨rfl,rfl⟩ ⟨rfl,rfl⟩|exact allD_tab _|exact zdl _|exact zlb _|exact zn3 _|exact z7l.symm|exact z7l|exact Nat.le_refl _):a:=h
theorem rtD(kZ:b)(h:HidB b→a:=by intro kZ;(repeat refine And.intro (by first|omega|exact trivial|rfl|(simp<;>omega)) ?_);(try refine z0p (by first|omega|exact trivial|rfl|(simp<;>omega)) ?_);exact kZ.out):a:=h ⟨kZ⟩
end
theorem exI{v:SV}{F:SV→Prop}(h:F v):∃ v',v.as v'∧F v':=⟨v,SV.as_refl v,h⟩
theorem exA{v:SV}{F:SV→Prop}(v':SV)(ha:v.as v')(h:F v'):∃ v',v.as v'∧F v':=⟨v',ha,h⟩
theorem exB{b:Bool}{F:SV→Prop}(ht:b=true→F (.c (.bool true)))(hf:b=false→F (.c (.bool false))):∃ v',(SV.c (.bool b)).as v'∧F v':=by
 cases b
 ·exact exI (hf rfl)
 ·exact exI (ht rfl)
section
variable {Γ:Ctx} {N:Nat} {C:CC} {ops os:List Oper} {o:Oper} {E:Env} {H:Heap} {n:Nat}
theorem sX{d:Nat}{K:Env→Heap→Nat→Prop}(h:stepS Γ o E H n fun v H n=>∃ v',v.as v'∧wpS Γ N ops os ((d,v')::E) H n K)(hd:o.dst=some d:=by rfl)(hN:d< N:=by decide)(hg:o.guard=none:=by rfl):wpS Γ N ops (o::os) E H n K:=by
 refine⟨by rw[hd];exact hN,?_⟩;rw[hg,hd];exact h
theorem sX0{K:Env→Heap→Nat→Prop}(h:stepS Γ o E H n fun v H n=>∃ v',v.as v'∧wpS Γ N ops os E H n K)(hd:o.dst=none:=by rfl)(hg:o.guard=none:=by rfl):wpS Γ N ops (o::os) E H n K:=by
 refine⟨by rw[hd];trivial,?_⟩;rw[hg,hd];exact h
theorem sXT{d j:Nat}{b:Bool}{K:Env→Heap→Nat→Prop}(h:stepS Γ o E H n fun v H n=>∃ v',v.as v'∧wpS Γ N ops os ((d,v')::E) H n K)(hd:o.dst=some d:=by rfl)(hN:d< N:=by decide)(hg:o.guard=some (j,b):=by rfl)(hy:z4u ops E j=some (some b):=by rfl):wpS Γ N ops (o::os) E H n K:=by
 refine⟨by rw[hd];exact hN,?_⟩;rw[hg,hd];simp only[hy];exact⟨fun _=>h,fun e=>by cases b<;>cases e⟩
theorem qX{d:Nat}{K:Env→Prop}(h:z9v Γ o E H fun v=>∃ v',v.as v'∧wpQS Γ N ops os ((d,v')::E) H K)(hd:o.dst=some d:=by rfl)(hN:d< N:=by decide)(hg:o.guard=none:=by rfl):wpQS Γ N ops (o::os) E H K:=by
 refine⟨by rw[hd];exact hN,?_⟩;rw[hg,hd];exact h
theorem qXT{d j:Nat}{b:Bool}{K:Env→Prop}(h:z9v Γ o E H fun v=>∃ v',v.as v'∧wpQS Γ N ops os ((d,v')::E) H K)(hd:o.dst=some d:=by rfl)(hN:d< N:=by decide)(hg:o.guard=some (j,b):=by rfl)(hy:z4u ops E j=some (some b):=by rfl):wpQS Γ N ops (o::os) E H K:=by
 refine⟨by rw[hd];exact hN,?_⟩;rw[hg,hd];simp only[hy];exact⟨fun _=>h,fun e=>by cases b<;>cases e⟩
theorem dX{i d:Nat}{r:List (Nat×Bool)}{K:Env→Heap→Nat→Prop}(h:readS Γ o E H fun v=>∃ v',v.as v'∧wpD Γ N ops r ((d,v')::E) H n K)(ho:ops[i]? =some o:=by rfl)(hd:o.dst=some d:=by rfl)(hN:d< N:=by decide)(hg:o.guard=none:=by rfl):wpD Γ N ops ((i,true)::r) E H n K:=by
 unfold wpD;rw[ho];refine⟨by rw[hd];exact hN,?_⟩;rw[hg,hd];exact h
theorem dXT{i d j:Nat}{b:Bool}{r:List (Nat×Bool)}{K:Env→Heap→Nat→Prop}(h:readS Γ o E H fun v=>∃ v',v.as v'∧wpD Γ N ops r ((d,v')::E) H n K)(ho:ops[i]? =some o:=by rfl)(hd:o.dst=some d:=by rfl)(hN:d< N:=by decide)(hg:o.guard=some (j,b):=by rfl)(hy:z4u ops E j=some (some b):=by rfl):wpD Γ N ops ((i,true)::r) E H n K:=by
 unfold wpD;rw[ho];refine⟨by rw[hd];exact hN,?_⟩;rw[hg,hd];simp only[hy];exact⟨fun _=>h,fun e=>by cases b<;>cases e⟩
theorem gX{i d:Nat}{r:List (Nat×Bool)}{K:Env→Heap→Nat→Prop}(h:z7k Γ o E H n fun v H n=>∃ v',v.as v'∧wpD Γ N ops r ((d,v')::E) H n K)(ho:ops[i]? =some o:=by rfl)(hd:o.dst=some d:=by rfl)(hN:d< N:=by decide)(hg:o.guard=none:=by rfl):wpD Γ N ops ((i,false)::r) E H n K:=by
 unfold wpD;rw[ho];refine⟨by rw[hd];exact hN,?_⟩;rw[hg,hd];exact h
theorem gX0{i:Nat}{r:List (Nat×Bool)}{K:Env→Heap→Nat→Prop}(h:z7k Γ o E H n fun v H n=>∃ v',v.as v'∧wpD Γ N ops r E H n K)(ho:ops[i]? =some o:=by rfl)(hd:o.dst=none:=by rfl)(hg:o.guard=none:=by rfl):wpD Γ N ops ((i,false)::r) E H n K:=by
 unfold wpD;rw[ho];refine⟨by rw[hd];trivial,?_⟩;rw[hg,hd];exact h
theorem gXT{i d j:Nat}{b:Bool}{r:List (Nat×Bool)}{K:Env→Heap→Nat→Prop}(h:z7k Γ o E H n fun v H n=>∃ v',v.as v'∧wpD Γ N ops r ((d,v')::E) H n K)(ho:ops[i]? =some o:=by rfl)(hd:o.dst=some d:=by rfl)(hN:d< N:=by decide)(hg:o.guard=some (j,b):=by rfl)(hy:z4u ops E j=some (some b):=by rfl):wpD Γ N ops ((i,false)::r) E H n K:=by
 unfold wpD;rw[ho];refine⟨by rw[hd];exact hN,?_⟩;rw[hg,hd];simp only[hy];exact⟨fun _=>h,fun e=>by cases b<;>cases e⟩
end
section
variable {Γ:Ctx} {N:Nat} {C:CC} {β:Val} {n:Nat} {E:Env} {H:Heap} {I:Nat→Prop} {a:Act} {w:World} {l:List Oper} {Q:Exit→Act→World→Prop}
end
section
variable {Γ:Ctx} {N:Nat} {C:CC} {E:Env} {H:Heap} {n:Nat} {Q:Exit→Act→World→Prop} {y:Code}
theorem srR(hΓ:Γ.OK){id:Nat}{l:List Oper}(h:∀ K:Env→Heap→Nat→Prop,(∀ E H n,WP Γ N C y E H n Q→K E H n)→wpS Γ N l l E H n K):WP Γ N C (.seq (.region id l.toArray false) y) E H n Q:=
 seq_k fun _ hK'=>z04 hΓ fun K hK=>h K fun _ _ _ hw=>hK _ _ _ (hK' _ _ _ hw)
theorem srQ(hΓ:Γ.OK){id:Nat}{l:List Oper}(hB:Region.lexB .any l.toArray=true)(h:∀ K:Env→Prop,(∀ E,WP Γ N C y E H n Q→K E)→wpQS Γ N l l E H K):WP Γ N C (.seq (.region id l.toArray true) y) E H n Q:=
 seq_k fun _ hK'=>zgz hΓ hB fun K hK=>h K fun _ hw=>hK _ (hK' _ _ _ hw)
theorem srD(hΓ:Γ.OK){id:Nat}{l:List Oper}(r:List (Nat×Bool))(hl:r.length=l.length)(hsel:Region.noSelect l.toArray=true)(hB:z6i l.toArray r (Array.replicate l.toArray.size false)=true)(h:∀ K:Env→Heap→Nat→Prop,(∀ E H n,WP Γ N C y E H n Q→K E H n)→wpD Γ N l r E H n K):WP Γ N C (.seq (.region id l.toArray true) y) E H n Q:=
 seq_k fun _ hK'=>zh0 hΓ r hl hsel hB fun K hK=>h K fun _ _ _ hw=>hK _ _ _ (hK' _ _ _ hw)
end
end Go.Ab

namespace Go.Ab
set_option linter.all false
open Go.RowKit
section
variable {Γ:Ctx} {N:Nat} {C:CC} {E:Env} {H:Heap} {n:Nat} {a:Act} {w:World} {Q:Exit→Act→World→Prop}
theorem zh3{J:(Nat→Prop)→World→Prop}{c:Code}(hA:AtJ Γ N J E a w)(hlow:∀ x∈E,x.2.low 0)(h:∀ D w,J D w→WP Γ N (pureC w D) c E [] 0 Q):c.wp Γ.P Q a w:=by
 obtain⟨D,β,n,hJ,hS⟩:=hA
 have hg:∀ {E:Env} {i:Tmp} {v:SV},E.get i=some v→(i,v)∈E:=by
  intro E
  induction E with
  |nil=>intro i v h;cases h
  |cons x E ih=>
   intro i v h;obtain⟨j,u⟩:=x
   simp only[Env.get]at h
   split at h
   ·rename_i e;cases h;subst e;exact List.mem_cons_self
   ·exact List.mem_cons_of_mem _ (ih h)
 exact h D w hJ β D a w ⟨⟨hS.env.defers,hS.env.slot,fun i v hv=>hlow _ (hg hv)⟩,hS.size,⟨rfl,rfl,rfl,Nat.le_refl _,fun _ _ _=>rfl,fun _ _ h=>(by cases h),fun _ _ h=>(by cases h),fun _ _ h=>(by cases h),fun _ _ _ _ _ h=>(by cases h),fun _ _ h=>(by cases h),hS.heap.ilt,fun _ h=>.inl h,fun _ h=>h⟩,hS.glob,Nat.zero_le _,fun i hi=>absurd hi (Nat.not_lt_zero i)⟩
theorem zmn{Q':Act→World→Prop}(hΓ:Γ.OK){fn:Func}{R:Ending→World→Prop}(hQ:∀ a w,bodyPost Γ.P fn R .ret a w→Q' a w)(hD:C.D=[])(hrs:fn.results.toList=[])(hR:∀ β I a w,St Γ N C β n E H I a w→R (.returned (.tuple #[])) w):Done Γ N C E H n Q':=fun β I a w hS=>hQ a w (z9x hΓ hD hrs hR β I a w hS)
theorem as_eq{v v':SV}(h:v=v'):v.as v':=h▸SV.as_refl v
theorem WP_then{c:Code}(h:WP Γ N C c E H n Q):Done Γ N C E H n (fun a w=>c.wp Γ.P Q a w):=h
end
end Go.Ab

namespace Go.Ab
set_option linter.all false
open Go.RowKit
section
variable {Γ:Ctx} {N:Nat} {C:CC} {n:Nat} {E:Env} {H:Heap} {l:List Oper} {Q:Exit→Act→World→Prop}
end
section
variable {Γ:Ctx} {N:Nat} {ops:List Oper} {o:Oper} {os:List Oper} {E:Env} {H:Heap} {n:Nat}
theorem sU{d j:Nat}{b:Bool}{K:Env→Heap→Nat→Prop}(h:wpS Γ N ops os ((d,z39)::E) H n K)(hd:o.dst=some d:=by rfl)(hN:d< N:=by decide)(hg:o.guard=some (j,b):=by rfl)(hy:z4u ops E j=some none:=by rfl):wpS Γ N ops (o::os) E H n K:=by
 unfold wpS;refine⟨by rw[hd];exact hN,?_⟩;rw[hg,hd];simp only[hy];exact h
end
end Go.Ab

namespace Go.Ab
set_option linter.all false
open Go.RowKit
theorem kQf{a:Prop}(h:a:=by kernel_rfl):a:=h
theorem as_i{a b:Int}(h:a=b):SV.as (.c (.int .i64 a)) (.c (.int .i64 b)):=by subst h;exact SV.as_refl _
theorem as_b{a b:Bool}(h:a=b):SV.as (.c (.bool a)) (.c (.bool b)):=by subst h;exact SV.as_refl _
theorem as_c{a b:Cell}(h:a=b):SV.as (.c a) (.c b):=by subst h;exact SV.as_refl _
section
variable {Γ:Ctx} {N:Nat} {ops:List Oper} {E:Env} {H:Heap} {n:Nat} {X K:Env→Heap→Nat→Prop} {Y L:Env→Prop}
theorem s_n(k:∀ E H n,X E H n→K E H n)(h:X E H n):wpS Γ N ops [] E H n K:=k _ _ _ h
theorem d_n(k:∀ E H n,X E H n→K E H n)(h:X E H n):wpD Γ N ops [] E H n K:=k _ _ _ h
theorem q_n(k:∀ E,Y E→L E)(h:Y E):wpQS Γ N ops [] E H L:=k _ h
end
section
variable {a b:Prop}
end
end Go.Ab

namespace Go.Ab
set_option linter.all false
open Go.RowKit
section
variable {Γ:Ctx} {N:Nat} {C:CC} {β:Val} {n:Nat} {E:Env} {H:Heap} {I:Nat→Prop} {a:Act} {w:World}

def zmo(P:Program)(glob:Nat→Option Cont)(f:FuncId)(q:PSpec):Prop:=
 ∀ te c cap off vs K,q te c cap off vs K→∃ c' v,K c' v∧c'.flat=true∧v.flat=true∧∀ (I:Nat→Prop) (w:World) (b:Nat) (xs:List Value),z26 glob I w→HeapOK (ptrC w I b) (fun _=>some b) 1 [(0,.own te c cap)] I w→
  z4l (fun _=>some b) 1 I w (vs++[.c (.ptr 0 off)]) xs→Calls P f xs.toArray w fun e w'=>e= .returned v.val∧∃ I' β' n',HeapOK (ptrC w I b) β' n' [(0,.own te c' cap)] I' w'∧β' 0=some b
def ptr2S(q:PSpec):GSpec:=fun vs H n K=>match vs with
 |[x,.c (.ptr id off)]=>match H.get id with
  |some (.own te c cap)=>(c.flat=true∧0< c.len∧x.low 0)∧q te c cap off [x] fun c' v=>K v ((id,.own te c' cap)::H) n
  |_=>False
 |_=>False

theorem gen_ptr2{P:Program}{glob:Nat→Option Cont}{f:FuncId}{q:PSpec}(h:zmo P glob f q):GenOK P glob f (ptr2S q):=by
 intro C β n H I w vs xs K hG hH hlen hargs hs;unfold ptr2S at hs
 split at hs
 ·rename_i x0 id off
  split at hs
  ·rename_i te c cap hid
   obtain⟨⟨hfl,hpos,hlow⟩,hq⟩:=hs;obtain⟨c',v,hK,hfl',hvfl,hcall⟩:=h _ _ _ _ _ _ hq;obtain⟨b,hb,-⟩:=hH.cellsAt hid (off:=0) hpos
   have hrow:=hH.holds id _ hid
   have hoffb:¬ I b:=hH.off id _ hid b hb
   have hbw:b< w.heap.size:=SObj.Holds.lt hrow hb
   have hflat:∀ {β1 β2:Val} {I1 I2:Nat→Prop} {w1:World} {d:Cont},d.flat=true→(SObj.own te d cap).Holds β1 I1 w1 (some b)→(SObj.own te d cap).Holds β2 I2 w1 (some b):=by
    intro β1 β2 I1 I2 w1 d hd hh
    rcases hh with⟨b',arr,h1,h2,h3,h4,h5⟩|⟨h1,_⟩
    ·exact .inl ⟨b',arr,h1,h2,h3,h4,(Cont.rel_flat hd).2 ((Cont.rel_flat hd).1 h5)⟩
    ·cases h1
   have hH0:HeapOK (ptrC w I b) (fun _=>some b) 1 [(0,.own te c cap)] I w:=by
    refine⟨rfl,rfl,rfl,Nat.le_refl _,fun _ _ _=>rfl,?_,?_,?_,?_,?_,hH.ilt,fun _ h=>.inl h,fun _ h=>h⟩
    ·intro i o ho;obtain⟨rfl,rfl⟩:=Heap.get_one ho
     rw[hb]at hrow;exact hflat hfl hrow
    ·intro i o ho;obtain⟨rfl,rfl⟩:=Heap.get_one ho
     exact⟨Nat.one_pos,Cont.flat_low hfl⟩
    ·intro i o ho b' hb';cases hb';exact .inr rfl
    ·intro i j oi oj hij hi hj;obtain⟨rfl,-⟩:=Heap.get_one hi;obtain⟨rfl,-⟩:=Heap.get_one hj;exact absurd rfl hij
    ·intro i o ho b' hb';cases hb';exact hoffb
   have hrel:z4l (fun _=>some b) 1 I w ([x0]++[.c (.ptr 0 off)]) xs:=by
    refine⟨by simpa using hlen,fun j u hu=>?_⟩
    match j,hu with
    |0,hu=>
     obtain⟨x,hx,hr,_⟩:=hargs 0 _ rfl
     obtain rfl:x0=u:=by simpa using hu
     exact⟨x,hx,SV.rel_mono (n:=0) (fun i hi=>absurd hi (Nat.not_lt_zero i)) (Ext.refl _ _) hlow hr,SV.low_mono (Nat.zero_le _) hlow⟩
    |1,hu=>
     obtain⟨x,hx,hr,_⟩:=hargs 1 _ rfl
     obtain rfl:SV.c (.ptr 0 off)=u:=by simpa using hu
     refine⟨x,hx,?_,Nat.one_pos⟩
     have hr':x= .pointer (place β id off):=hr
     show x= .pointer (place (fun _=>some b) 0 off)
     rw[hr',place,place,hb]
    |j+2,hu=>simp at hu
   refine Calls.mono (hcall I w b xs hG hH0 hrel) fun e w' ⟨he,I',β',n',hA,hβ'⟩=>⟨v.val,he,?_⟩
   have hE:Ext I w I' w':=fun b0 h0=>⟨hA.base b0 h0,hA.frame b0 (hH.ilt b0 h0) (fun e=>hoffb (e▸h0))⟩
   have hkeep:∀ k,k< w.heap.size→k≠b→w'.heap[k]? =w.heap[k]? :=fun k hk hkb=>hA.frame k hk hkb
   have hsz:w.heap.size≤w'.heap.size:=hA.size
   have hIb:¬ I' b:=hA.off 0 _ rfl b hβ'
   have hrow':=hA.holds 0 _ rfl
   rw[hβ']at hrow'
   have hget:∀ i o,Heap.get ((id,SObj.own te c' cap)::H) i=some o→(i=id∧o= .own te c' cap)∨(i≠id∧H.get i=some o):=fun i o ho=>by
    simp only[Heap.get]at ho
    split at ho
    ·rename_i e;cases ho;exact .inl ⟨e.symm,rfl⟩
    ·rename_i e;exact .inr ⟨fun e'=>e e'.symm,ho⟩
   have hne:∀ i o,i≠id→H.get i=some o→∀ b',β i=some b'→b'≠b:=fun i o hi ho b' hb' e=>hH.sep i id o _ hi ho hid b' hb' (e▸hb)
   refine⟨v,_,n,β,I',hK,(SV.rel_flat hvfl).2 rfl,SV.flat_low hvfl,Nat.le_refl _,fun _ _=>rfl,hE,?_⟩;refine⟨hA.os.trans hH.os,hA.tape.trans hH.tape,hA.output.trans hH.output,Nat.le_trans hH.size hsz,?_,?_,?_,?_,?_,?_,hA.ilt,?_,fun b0 h0=>hA.base b0 (hH.base b0 h0)⟩
   ·intro k hk hF
    rw[hkeep k (Nat.lt_of_lt_of_le hk hH.size) ?_]
    ·exact hH.frame k hk hF
    ·intro e
     rcases hH.fresh id _ hid b hb with h1|h1
     ·omega
     ·exact hF (e▸h1)
   ·intro i o ho
    rcases hget i o ho with⟨rfl,rfl⟩|⟨hi,ho⟩
    ·rw[hb];exact hflat hfl' hrow'
    ·have hh:=hH.holds i o ho
     exact hh.mono (n:=n) (fun _ _=>rfl) hE (hH.low i o ho).2 fun b' hb'=>hkeep b' (SObj.Holds.lt hh hb') (hne i o hi ho b' hb')
   ·intro i o ho
    rcases hget i o ho with⟨rfl,rfl⟩|⟨hi,ho⟩
    ·exact⟨(hH.low _ _ hid).1,Cont.flat_low hfl'⟩
    ·exact hH.low i o ho
   ·intro i o ho b' hb'
    rcases hget i o ho with⟨rfl,rfl⟩|⟨hi,ho⟩
    ·exact hH.fresh _ _ hid b' hb'
    ·exact hH.fresh i o ho b' hb'
   ·intro i j oi oj hij hi hj b' h1 h2
    rcases hget i oi hi with⟨hi1,_⟩|⟨hi1,hi2⟩
    ·rcases hget j oj hj with⟨hj1,_⟩|⟨hj1,hj2⟩
     ·exact hij (hi1.trans hj1.symm)
     ·exact hH.sep id j _ oj (fun e=>hj1 e.symm) hid hj2 b' (hi1▸h1) h2
    ·rcases hget j oj hj with⟨hj1,_⟩|⟨hj1,hj2⟩
     ·exact hH.sep i id oi _ hi1 hi2 hid b' h1 (hj1▸h2)
     ·exact hH.sep i j oi oj hij hi2 hj2 b' h1 h2
   ·intro i o ho b' hb' hI'
    rcases hget i o ho with⟨rfl,rfl⟩|⟨hi,ho⟩
    ·rw[hb]at hb';cases hb';exact hIb hI'
    ·have hlt:=SObj.Holds.lt (hH.holds i o ho) hb'
     rcases hA.i0 b' hI' with h1|h1|h1
     ·exact hH.off i o ho b' hb' h1
     ·have h1':w.heap.size≤b':=h1
      omega
     ·exact hne i o hi ho b' hb' h1
   ·intro b' hI'
    rcases hA.i0 b' hI' with h1|h1|h1
    ·exact hH.i0 b' h1
    ·exact .inr (.inl (Nat.le_trans hH.size h1))
    ·exact absurd hI' (by have h1':b'=b:=h1;rw[h1'];exact hIb)
  ·exact hs.elim
 ·exact hs.elim

theorem ptr2_of{f:FuncId}{fn:Func}{c:Code}{q:PSpec}(hf:Γ.P.funcs[f]? =some fn)(hb:fn.body=some c)(hN:fn.ntmps=N)
  (h:∀ te k cap off vs K,q te k cap off vs K→∃ c' v,K c' v∧c'.flat=true∧v.flat=true∧vs.length+1≤N∧∀ w I b,WP Γ N (ptrC w I b) c (envOf 0 (vs++[.c (.ptr 0 off)])) [(0,.own te k cap)] 1 (bodyPost Γ.P fn (zm9 w I b te c' cap v))):zmo Γ.P Γ.glob f q:=fun te k cap off vs K hq=>by
 obtain⟨c',v,hK,h1,h2,h3,hw⟩:=h te k cap off vs K hq;exact⟨c',v,hK,h1,h2,fun I w b xs hG hH hr=>z7v hf hb hN (by simpa using h3) hH hG ⟨Nat.le_refl _,fun _ _=>rfl⟩ rfl hr (hw w I b)⟩
end
end Go.Ab

namespace Go.Ab
set_option linter.all false
open Go.RowKit
def zcq(ops:Array Oper)(m:Nat):List Nat:=
 (List.range ops.size).filter fun i=>
  !m.testBit i&&((ops[i]?).map (·.after.all fun e=> !Region.binds .any e||m.testBit e.on)).getD false
def freeF(ops:Array Oper)(m i:Nat):Bool:=
 match ops[i]? with
 |none=>false
 | some oi=>(List.range ops.size).all fun j=>j==i||m.testBit j||match ops[j]? with
   |some oj=>oj.after.any (fun e=>Region.binds .any e&&e.on==i)||oi.apart ops oj
   |none=>true
def lateF(ops:Array Oper)(m i:Nat):Bool:=(List.range ops.size).all fun j=> !wrB ops j||m.testBit j||(ups ops j [j]).contains i
def zbe(ops:Array Oper):List (Nat×Bool)→Nat→Bool
 |[],m=>(zcq ops m).isEmpty
 |(i,true)::r,m=>freeF ops m i&&(zgv ops i||lateF ops m i)&&(zcq ops m).contains i&&zbe ops r (m ||| (1 <<< i))
 |(i,false)::r,m=>zcq ops m==[i]&&zbe ops r (m ||| (1 <<< i))
structure Bits(ops:Array Oper)(listed:Array Bool)(m:Nat):Prop where
 sz:listed.size=ops.size
 hi:∀ i,ops.size≤i→m.testBit i=false
 at':∀ i (h:i< listed.size),listed[i]=m.testBit i
section
variable {ops:Array Oper} {listed:Array Bool} {m:Nat}
theorem Bits.get(h:Bits ops listed m){i:Nat}(hi:i< ops.size)(d:Bool):listed.getD i d=m.testBit i:=by
 have hl:i< listed.size:=by rw[h.sz];exact hi
 rw[Array.getD_eq_getD_getElem?,Array.getElem?_eq_getElem hl];exact h.at' i hl
theorem Bits.getF(h:Bits ops listed m)(i:Nat):listed.getD i false=m.testBit i:=by
 by_cases hi:i< ops.size
 ·exact h.get hi false
 ·rw[h.hi i (by omega),Array.getD_eq_getD_getElem?,Array.getElem?_eq_none (by rw[h.sz];omega)];rfl
theorem Bits.ready(h:Bits ops listed m):Region.ready .any ops listed=zcq ops m:=by
 unfold Region.ready zcq;refine List.filter_congr fun i hi=>?_;rw[h.get (List.mem_range.1 hi)]
 congr 3
 funext o
 congr 1
 funext e
 rw[h.getF]
theorem Bits.free(h:Bits ops listed m)(i:Nat):Region.free .any ops listed i=freeF ops m i:=by
 unfold Region.free freeF
 cases ops[i]? with
 |none=>rfl
 | some oi=>
  simp only
  rw[Bool.eq_iff_iff,List.all_eq_true,List.all_eq_true]
  constructor
  ·intro hh j hj
   have:=hh j hj
   rwa [h.get (List.mem_range.1 hj)]at this
  ·intro hh j hj
   rw[h.get (List.mem_range.1 hj)];exact hh j hj
theorem Bits.late(h:Bits ops listed m)(i:Nat):lateB ops listed i=lateF ops m i:=by
 unfold lateB lateF;rw[Bool.eq_iff_iff,List.all_eq_true,List.all_eq_true]
 constructor
 ·intro hh j hj
  have:=hh j hj
  rwa [h.get (List.mem_range.1 hj)]at this
 ·intro hh j hj
  rw[h.get (List.mem_range.1 hj)];exact hh j hj
theorem Bits.set(h:Bits ops listed m){i:Nat}(hi:i< ops.size):Bits ops (listed.setIfInBounds i true) (m ||| (1 <<< i)):=by
 have hb:∀ j,(m ||| (1 <<< i)).testBit j=(m.testBit j||decide (j=i)):=fun j=>by
  rw[Nat.testBit_or,Nat.shiftLeft_eq,Nat.one_mul,Nat.testBit_two_pow]
  congr 1
  rw[decide_eq_decide];exact eq_comm
 refine⟨by simpa using h.sz,fun j hj=>?_,fun j hj=>?_⟩
 ·rw[hb,h.hi j hj,decide_eq_false (by omega)];rfl
 ·have hj':j< listed.size:=by simpa using hj
  rw[hb,Array.getElem_setIfInBounds hj']
  ·split
   ·rename_i e;subst e;simp
   ·rename_i e
    rw[h.at' j hj',decide_eq_false (fun e'=>e e'.symm),Bool.or_false]
theorem zio{i:Nat}(h:i∈zcq ops m):i< ops.size:=List.mem_range.1 (List.mem_filter.1 h).1
theorem zdh:∀ (r:List (Nat×Bool)) (listed:Array Bool) (m:Nat),Bits ops listed m→zbe ops r m=true→z6i ops r listed=true
 |[],listed,m,hb,h=>by
  unfold zbe at h;unfold z6i;rw[hb.ready];exact h
 |(i,true)::r,listed,m,hb,h=>by
  unfold zbe at h;unfold z6i
  simp only[Bool.and_eq_true]at h ⊢
  obtain⟨⟨⟨h1,h2⟩,h3⟩,h4⟩:=h;refine⟨⟨⟨by rw[hb.free];exact h1,?_⟩,by rw[hb.ready];exact h3⟩,zdh r _ _ (hb.set (zio (m:=m) (by simpa using h3))) h4⟩;rw[hb.late,Bool.or_comm];exact h2
 |(i,false)::r,listed,m,hb,h=>by
  unfold zbe at h;unfold z6i
  simp only[Bool.and_eq_true]at h ⊢
  refine⟨by rw[hb.ready];exact h.1,zdh r _ _ (hb.set (zio (m:=m) ?_)) h.2⟩
  have:=eq_of_beq h.1
  rw[this];exact List.mem_singleton.2 rfl
theorem zmp:Bits ops (Array.replicate ops.size false) 0:=⟨by simp,fun i _=>Nat.zero_testBit i,fun i h=>by simp⟩
end
section
variable {N:Nat} {Γ:Ctx} {C:CC} {E:Env} {H:Heap} {n:Nat} {Q:Exit→Act→World→Prop}
theorem schedF_k(hΓ:Γ.OK){id:Nat}{l:List Oper}(r:List (Nat×Bool))(hl:r.length=l.length)(hsel:Region.noSelect l.toArray=true)(hB:zbe l.toArray r 0=true)(h:∀ K:Env→Heap→Nat→Prop,(∀ E H n,Done Γ N C E H n (Q .normal)→K E H n)→wpD Γ N l r E H n K):
  WP Γ N C (.region id l.toArray true) E H n Q:=zh0 hΓ r hl hsel (zdh r _ _ zmp hB) h
end
end Go.Ab

namespace Go.Proofs.YtegdcifghaldoaaDoor
set_option linter.all false
open Go.Ab
set_option maxRecDepth 8000

def ty:Nat→Ty
  |2=>.int .i64
  |3=>.int .i64
  |4=>.bool
  |5=>.int .u8
  |9=>.str
  |12=>.int .u64
  |21=>.int .i32
  |22=>.slice 27 2 16
  |23=>.slice 28 1 24
  |26=>.struct [(0,1,3),(1,1,5)] 2 (.cells ([.int .i64 0]++[.u8 0]))
  |27=>.struct [(0,1,3),(1,1,5)] 2 (.cells ([.int .i64 0]++[.u8 0]))
  |28=>.slice 5 1 1
  |31=>.arr 3 4 1 (.bools (List.replicate 3 false))
  |32=>.slice 39 3 24
  |33=>.slice 39 3 24
  |36=>.slice 4 1 1
  |38=>.struct [(0,1,3),(1,1,3),(2,1,3)] 3 (.cells (List.replicate 3 (.int .i64 0)))
  |39=>.struct [(0,1,3),(1,1,3),(2,1,3)] 3 (.cells (List.replicate 3 (.int .i64 0)))
  |41=>.slice 3 1 8
  |42=>.struct [(0,1,23),(1,1,41)] 2 (.cells (List.replicate 2 (.nils)))
  |43=>.struct [(0,1,23),(1,1,41)] 2 (.cells (List.replicate 2 (.nils)))
  |46=>.struct [(0,1,23),(1,1,28)] 2 (.cells (List.replicate 2 (.nils)))
  |47=>.struct [(0,1,23),(1,1,28)] 2 (.cells (List.replicate 2 (.nils)))
  |48=>.slice 76 19 312
  |49=>.slice 74 18 304
  |50=>.slice 33 1 24
  |51=>.struct [(0,1,28),(1,1,41),(2,1,41),(3,1,48),(4,1,49),(5,1,50)] 6 (.cells (List.replicate 6 (.nils)))
  |52=>.struct [(0,1,28),(1,1,41),(2,1,41),(3,1,48),(4,1,49),(5,1,50)] 6 (.cells (List.replicate 6 (.nils)))
  |54=>.struct [(0,1,5),(1,1,23),(2,1,23),(3,1,28)] 4 (.cells ([.u8 0]++List.replicate 3 (.nils)))
  |55=>.struct [(0,1,5),(1,1,23),(2,1,23),(3,1,28)] 4 (.cells ([.u8 0]++List.replicate 3 (.nils)))
  |56=>.slice 43 2 48
  |62=>.slice 148 4 32
  |63=>.slice 41 1 24
  |64=>.struct [(0,1,62),(1,1,63),(2,1,36)] 3 (.cells (List.replicate 3 (.nils)))
  |65=>.struct [(0,1,62),(1,1,63),(2,1,36)] 3 (.cells (List.replicate 3 (.nils)))
  |66=>.struct [(0,1,41),(1,1,3)] 2 (.cells ([.nils]++[.int .i64 0]))
  |67=>.struct [(0,1,41),(1,1,3)] 2 (.cells ([.nils]++[.int .i64 0]))
  |68=>.slice 130 1 24
  |69=>.struct [(0,1,62),(1,1,68),(2,1,36),(3,1,23)] 4 (.cells (List.replicate 4 (.nils)))
  |70=>.struct [(0,1,62),(1,1,68),(2,1,36),(3,1,23)] 4 (.cells (List.replicate 4 (.nils)))
  |71=>.struct [(0,1,3),(1,1,3),(2,1,3),(3,1,3),(4,1,4)] 5 (.cells (List.replicate 4 (.int .i64 0)++[.bool false]))
  |72=>.struct [(0,1,3),(1,1,3),(2,1,3),(3,1,3),(4,1,4)] 5 (.cells (List.replicate 4 (.int .i64 0)++[.bool false]))
  |73=>.struct [(0,1,3),(1,1,22),(2,1,22),(3,3,65),(6,2,67),(8,4,70),(12,5,72),(17,1,3)] 18 (.cells ([.int .i64 0]++List.replicate 6 (.nils)++[.int .i64 0]++List.replicate 4 (.nils)++List.replicate 4 (.int .i64 0)++[.bool false]++[.int .i64 0]))
  |74=>.struct [(0,1,3),(1,1,22),(2,1,22),(3,3,65),(6,2,67),(8,4,70),(12,5,72),(17,1,3)] 18 (.cells ([.int .i64 0]++List.replicate 6 (.nils)++[.int .i64 0]++List.replicate 4 (.nils)++List.replicate 4 (.int .i64 0)++[.bool false]++[.int .i64 0]))
  |75=>.struct [(0,18,74),(18,1,4)] 19 (.cells ([.int .i64 0]++List.replicate 6 (.nils)++[.int .i64 0]++List.replicate 4 (.nils)++List.replicate 4 (.int .i64 0)++[.bool false]++[.int .i64 0]++[.bool false]))
  |76=>.struct [(0,18,74),(18,1,4)] 19 (.cells ([.int .i64 0]++List.replicate 6 (.nils)++[.int .i64 0]++List.replicate 4 (.nils)++List.replicate 4 (.int .i64 0)++[.bool false]++[.int .i64 0]++[.bool false]))
  |88=>.int .i64
  |99=>.func
  |105=>.struct [(0,1,28),(1,1,3)] 2 (.cells ([.nils]++[.int .i64 0]))
  |106=>.struct [(0,1,28),(1,1,3)] 2 (.cells ([.nils]++[.int .i64 0]))
  |107=>.struct [(0,2,43)] 2 (.cells (List.replicate 2 (.nils)))
  |108=>.struct [(0,2,43)] 2 (.cells (List.replicate 2 (.nils)))
  |109=>.func
  |110=>.func
  |114=>.func
  |121=>.arr 256 3 1 (.ints .i64 (List.replicate 256 0))
  |122=>.struct [(0,256,121),(256,1,3),(257,1,63),(258,1,36)] 259 (.cells (List.replicate 257 (.int .i64 0)++List.replicate 2 (.nils)))
  |123=>.struct [(0,256,121),(256,1,3),(257,1,63),(258,1,36)] 259 (.cells (List.replicate 257 (.int .i64 0)++List.replicate 2 (.nils)))
  |127=>.slice 150 2 2
  |128=>.struct [(0,1,3),(1,1,127)] 2 (.cells ([.int .i64 0]++[.nils]))
  |129=>.struct [(0,1,3),(1,1,127)] 2 (.cells ([.int .i64 0]++[.nils]))
  |130=>.slice 129 2 32
  |133=>.struct [(0,1,3),(1,1,4),(2,1,3),(3,1,3)] 4 (.cells ([.int .i64 0]++[.bool false]++List.replicate 2 (.int .i64 0)))
  |134=>.struct [(0,1,3),(1,1,4),(2,1,3),(3,1,3)] 4 (.cells ([.int .i64 0]++[.bool false]++List.replicate 2 (.int .i64 0)))
  |139=>.func
  |142=>.func
  |143=>.map 3 109
  |146=>.int .u64
  |147=>.arr 4 146 1 (.u64s (List.replicate 4 0))
  |148=>.arr 4 146 1 (.u64s (List.replicate 4 0))
  |149=>.struct [(0,1,4),(1,1,5)] 2 (.cells ([.bool false]++[.u8 0]))
  |150=>.struct [(0,1,4),(1,1,5)] 2 (.cells ([.bool false]++[.u8 0]))
  |156=>.func
  |157=>.func
  |163=>.func
  |165=>.func
  |167=>.func
  |168=>.func
  |175=>.arr 64 5 1 (.u8s (List.replicate 64 0))
  |176=>.int .u64
  |184=>.int .u32
  |188=>.ptr
  |_=>.other

theorem tyOK:TyOK Tryd.prog ty where
  int:=by
    intro t k h;unfold ty at h;split at h<;>cases h
    all_goals kernel_rfl
  bool:=by
    intro t h;unfold ty at h;split at h<;>cases h
    · kernel_rfl
  str:=by
    intro t h;unfold ty at h;split at h<;>cases h
    · kernel_rfl
  slice:=by
    intro t e s b h;unfold ty at h;split at h<;>cases h
    · exact⟨kQf,kQf,.agg ((.cells ([.int .i64 0]++[.u8 0]):Cont).vals:List Value).toArray,kQf,kQf,by decide⟩
    · exact⟨kQf,kQf,.slice none 0 0,kQf,kQf,by decide⟩
    · exact⟨kQf,kQf,.int .u8 0,kQf,kQf,by decide⟩
    · exact⟨kQf,kQf,.agg ((.cells (List.replicate 3 (.int .i64 0)):Cont).vals:List Value).toArray,kQf,kQf,by decide⟩
    · exact⟨kQf,kQf,.agg ((.cells (List.replicate 3 (.int .i64 0)):Cont).vals:List Value).toArray,kQf,kQf,by decide⟩
    · exact⟨kQf,kQf,.bool false,kQf,kQf,by decide⟩
    · exact⟨kQf,kQf,.int .i64 0,kQf,kQf,by decide⟩
    · exact⟨kQf,kQf,.agg ((.cells ([.int .i64 0]++List.replicate 6 (.nils)++[.int .i64 0]++List.replicate 4 (.nils)++List.replicate 4 (.int .i64 0)++[.bool false]++[.int .i64 0]++[.bool false]):Cont).vals:List Value).toArray,kQf,kQf,by decide⟩
    · exact⟨kQf,kQf,.agg ((.cells ([.int .i64 0]++List.replicate 6 (.nils)++[.int .i64 0]++List.replicate 4 (.nils)++List.replicate 4 (.int .i64 0)++[.bool false]++[.int .i64 0]):Cont).vals:List Value).toArray,kQf,kQf,by decide⟩
    · exact⟨kQf,kQf,.slice none 0 0,kQf,kQf,by decide⟩
    · exact⟨kQf,kQf,.agg ((.cells (List.replicate 2 (.nils)):Cont).vals:List Value).toArray,kQf,kQf,by decide⟩
    · exact⟨kQf,kQf,.agg ((.u64s (List.replicate 4 0):Cont).vals:List Value).toArray,kQf,kQf,by decide⟩
    · exact⟨kQf,kQf,.slice none 0 0,kQf,kQf,by decide⟩
    · exact⟨kQf,kQf,.slice none 0 0,kQf,kQf,by decide⟩
    · exact⟨kQf,kQf,.agg ((.cells ([.bool false]++[.u8 0]):Cont).vals:List Value).toArray,kQf,kQf,by decide⟩
    · exact⟨kQf,kQf,.agg ((.cells ([.int .i64 0]++[.nils]):Cont).vals:List Value).toArray,kQf,kQf,by decide⟩
  arr:=by
    intro t n e s z h;unfold ty at h;split at h<;>cases h
    all_goals exact⟨kQf,kQf,kQf⟩
  struct:=by
    intro t fs n z h;unfold ty at h;split at h<;>cases h
    · exact⟨⟨_,Tryd.underlying26,rfl,by simp only[List.mem_cons,List.not_mem_nil,or_false];rintro f (rfl|rfl)<;>kernel_rfl⟩,kQf⟩
    · exact⟨⟨_,Tryd.underlying27,rfl,by simp only[List.mem_cons,List.not_mem_nil,or_false];rintro f (rfl|rfl)<;>kernel_rfl⟩,kQf⟩
    · exact⟨⟨_,Tryd.underlying38,rfl,by simp only[List.mem_cons,List.not_mem_nil,or_false];rintro f (rfl|rfl|rfl)<;>kernel_rfl⟩,kQf⟩
    · exact⟨⟨_,Tryd.underlying39,rfl,by simp only[List.mem_cons,List.not_mem_nil,or_false];rintro f (rfl|rfl|rfl)<;>kernel_rfl⟩,kQf⟩
    · exact⟨⟨_,Tryd.underlying42,rfl,by simp only[List.mem_cons,List.not_mem_nil,or_false];rintro f (rfl|rfl)<;>kernel_rfl⟩,kQf⟩
    · exact⟨⟨_,Tryd.underlying43,rfl,by simp only[List.mem_cons,List.not_mem_nil,or_false];rintro f (rfl|rfl)<;>kernel_rfl⟩,kQf⟩
    · exact⟨⟨_,Tryd.underlying46,rfl,by simp only[List.mem_cons,List.not_mem_nil,or_false];rintro f (rfl|rfl)<;>kernel_rfl⟩,kQf⟩
    · exact⟨⟨_,Tryd.underlying47,rfl,by simp only[List.mem_cons,List.not_mem_nil,or_false];rintro f (rfl|rfl)<;>kernel_rfl⟩,kQf⟩
    · exact⟨⟨_,Tryd.underlying51,rfl,by simp only[List.mem_cons,List.not_mem_nil,or_false];rintro f (rfl|rfl|rfl|rfl|rfl|rfl)<;>kernel_rfl⟩,kQf⟩
    · exact⟨⟨_,Tryd.underlying52,rfl,by simp only[List.mem_cons,List.not_mem_nil,or_false];rintro f (rfl|rfl|rfl|rfl|rfl|rfl)<;>kernel_rfl⟩,kQf⟩
    · exact⟨⟨_,Tryd.underlying54,rfl,by simp only[List.mem_cons,List.not_mem_nil,or_false];rintro f (rfl|rfl|rfl|rfl)<;>kernel_rfl⟩,kQf⟩
    · exact⟨⟨_,Tryd.underlying55,rfl,by simp only[List.mem_cons,List.not_mem_nil,or_false];rintro f (rfl|rfl|rfl|rfl)<;>kernel_rfl⟩,kQf⟩
    · exact⟨⟨_,Tryd.underlying64,rfl,by simp only[List.mem_cons,List.not_mem_nil,or_false];rintro f (rfl|rfl|rfl)<;>kernel_rfl⟩,kQf⟩
    · exact⟨⟨_,Tryd.underlying65,rfl,by simp only[List.mem_cons,List.not_mem_nil,or_false];rintro f (rfl|rfl|rfl)<;>kernel_rfl⟩,kQf⟩
    · exact⟨⟨_,Tryd.underlying66,rfl,by simp only[List.mem_cons,List.not_mem_nil,or_false];rintro f (rfl|rfl)<;>kernel_rfl⟩,kQf⟩
    · exact⟨⟨_,Tryd.underlying67,rfl,by simp only[List.mem_cons,List.not_mem_nil,or_false];rintro f (rfl|rfl)<;>kernel_rfl⟩,kQf⟩
    · exact⟨⟨_,Tryd.underlying69,rfl,by simp only[List.mem_cons,List.not_mem_nil,or_false];rintro f (rfl|rfl|rfl|rfl)<;>kernel_rfl⟩,kQf⟩
    · exact⟨⟨_,Tryd.underlying70,rfl,by simp only[List.mem_cons,List.not_mem_nil,or_false];rintro f (rfl|rfl|rfl|rfl)<;>kernel_rfl⟩,kQf⟩
    · exact⟨⟨_,Tryd.underlying71,rfl,by simp only[List.mem_cons,List.not_mem_nil,or_false];rintro f (rfl|rfl|rfl|rfl|rfl)<;>kernel_rfl⟩,kQf⟩
    · exact⟨⟨_,Tryd.underlying72,rfl,by simp only[List.mem_cons,List.not_mem_nil,or_false];rintro f (rfl|rfl|rfl|rfl|rfl)<;>kernel_rfl⟩,kQf⟩
    · exact⟨⟨_,Tryd.underlying73,rfl,by simp only[List.mem_cons,List.not_mem_nil,or_false];rintro f (rfl|rfl|rfl|rfl|rfl|rfl|rfl|rfl)<;>kernel_rfl⟩,kQf⟩
    · exact⟨⟨_,Tryd.underlying74,rfl,by simp only[List.mem_cons,List.not_mem_nil,or_false];rintro f (rfl|rfl|rfl|rfl|rfl|rfl|rfl|rfl)<;>kernel_rfl⟩,kQf⟩
    · exact⟨⟨_,Tryd.underlying75,rfl,by simp only[List.mem_cons,List.not_mem_nil,or_false];rintro f (rfl|rfl)<;>kernel_rfl⟩,kQf⟩
    · exact⟨⟨_,Tryd.underlying76,rfl,by simp only[List.mem_cons,List.not_mem_nil,or_false];rintro f (rfl|rfl)<;>kernel_rfl⟩,kQf⟩
    · exact⟨⟨_,Tryd.underlying105,rfl,by simp only[List.mem_cons,List.not_mem_nil,or_false];rintro f (rfl|rfl)<;>kernel_rfl⟩,kQf⟩
    · exact⟨⟨_,Tryd.underlying106,rfl,by simp only[List.mem_cons,List.not_mem_nil,or_false];rintro f (rfl|rfl)<;>kernel_rfl⟩,kQf⟩
    · exact⟨⟨_,Tryd.underlying107,rfl,by simp only[List.mem_cons,List.not_mem_nil,or_false];rintro f (rfl)<;>kernel_rfl⟩,kQf⟩
    · exact⟨⟨_,Tryd.underlying108,rfl,by simp only[List.mem_cons,List.not_mem_nil,or_false];rintro f (rfl)<;>kernel_rfl⟩,kQf⟩
    · exact⟨⟨_,Tryd.underlying122,rfl,by simp only[List.mem_cons,List.not_mem_nil,or_false];rintro f (rfl|rfl|rfl|rfl)<;>kernel_rfl⟩,kQf⟩
    · exact⟨⟨_,Tryd.underlying123,rfl,by simp only[List.mem_cons,List.not_mem_nil,or_false];rintro f (rfl|rfl|rfl|rfl)<;>kernel_rfl⟩,kQf⟩
    · exact⟨⟨_,Tryd.underlying128,rfl,by simp only[List.mem_cons,List.not_mem_nil,or_false];rintro f (rfl|rfl)<;>kernel_rfl⟩,kQf⟩
    · exact⟨⟨_,Tryd.underlying129,rfl,by simp only[List.mem_cons,List.not_mem_nil,or_false];rintro f (rfl|rfl)<;>kernel_rfl⟩,kQf⟩
    · exact⟨⟨_,Tryd.underlying133,rfl,by simp only[List.mem_cons,List.not_mem_nil,or_false];rintro f (rfl|rfl|rfl|rfl)<;>kernel_rfl⟩,kQf⟩
    · exact⟨⟨_,Tryd.underlying134,rfl,by simp only[List.mem_cons,List.not_mem_nil,or_false];rintro f (rfl|rfl|rfl|rfl)<;>kernel_rfl⟩,kQf⟩
    · exact⟨⟨_,Tryd.underlying149,rfl,by simp only[List.mem_cons,List.not_mem_nil,or_false];rintro f (rfl|rfl)<;>kernel_rfl⟩,kQf⟩
    · exact⟨⟨_,Tryd.underlying150,rfl,by simp only[List.mem_cons,List.not_mem_nil,or_false];rintro f (rfl|rfl)<;>kernel_rfl⟩,kQf⟩
  ptr:=by
    intro t h;unfold ty at h;split at h<;>cases h
    · exact⟨_,Tryd.underlying188⟩
  func:=by
    intro t h;unfold ty at h;split at h<;>cases h
    · exact⟨_,_,_,Tryd.underlying99⟩
    · exact⟨_,_,_,Tryd.underlying109⟩
    · exact⟨_,_,_,Tryd.underlying110⟩
    · exact⟨_,_,_,Tryd.underlying114⟩
    · exact⟨_,_,_,Tryd.underlying139⟩
    · exact⟨_,_,_,Tryd.underlying142⟩
    · exact⟨_,_,_,Tryd.underlying156⟩
    · exact⟨_,_,_,Tryd.underlying157⟩
    · exact⟨_,_,_,Tryd.underlying163⟩
    · exact⟨_,_,_,Tryd.underlying165⟩
    · exact⟨_,_,_,Tryd.underlying167⟩
    · exact⟨_,_,_,Tryd.underlying168⟩
  map:=by
    intro t k e h;unfold ty at h;split at h<;>cases h
    · kernel_rfl
  size:=by
    intro t;unfold ty;split<;>intro h<;>first|exact absurd rfl h|kernel_rfl
  zero:=by
    intro t z h;unfold ty at h;split at h<;>simp only[zeroC,Option.some.injEq,reduceCtorEq]at h<;>subst h
    · exact⟨.int .i64 0,kQf,kQf,kQf⟩
    · exact⟨.int .i64 0,kQf,kQf,kQf⟩
    · exact⟨.bool false,kQf,kQf,kQf⟩
    · exact⟨.int .u8 0,kQf,kQf,kQf⟩
    · exact⟨.string ⟨#[]⟩,kQf,kQf,kQf⟩
    · exact⟨.int .u64 0,kQf,kQf,kQf⟩
    · exact⟨.int .i32 0,kQf,kQf,kQf⟩
    · exact⟨.slice none 0 0,kQf,kQf,kQf⟩
    · exact⟨.slice none 0 0,kQf,kQf,kQf⟩
    · exact⟨.agg ((.cells ([.int .i64 0]++[.u8 0]):Cont).vals:List Value).toArray,kQf,by rfl,kQf⟩
    · exact⟨.agg ((.cells ([.int .i64 0]++[.u8 0]):Cont).vals:List Value).toArray,kQf,by rfl,kQf⟩
    · exact⟨.slice none 0 0,kQf,kQf,kQf⟩
    · exact⟨.agg ((.bools (List.replicate 3 false):Cont).vals:List Value).toArray,kQf,by rfl,kQf⟩
    · exact⟨.slice none 0 0,kQf,kQf,kQf⟩
    · exact⟨.slice none 0 0,kQf,kQf,kQf⟩
    · exact⟨.slice none 0 0,kQf,kQf,kQf⟩
    · exact⟨.agg ((.cells (List.replicate 3 (.int .i64 0)):Cont).vals:List Value).toArray,kQf,by rfl,kQf⟩
    · exact⟨.agg ((.cells (List.replicate 3 (.int .i64 0)):Cont).vals:List Value).toArray,kQf,by rfl,kQf⟩
    · exact⟨.slice none 0 0,kQf,kQf,kQf⟩
    · exact⟨.agg ((.cells (List.replicate 2 (.nils)):Cont).vals:List Value).toArray,kQf,by rfl,kQf⟩
    · exact⟨.agg ((.cells (List.replicate 2 (.nils)):Cont).vals:List Value).toArray,kQf,by rfl,kQf⟩
    · exact⟨.agg ((.cells (List.replicate 2 (.nils)):Cont).vals:List Value).toArray,kQf,by rfl,kQf⟩
    · exact⟨.agg ((.cells (List.replicate 2 (.nils)):Cont).vals:List Value).toArray,kQf,by rfl,kQf⟩
    · exact⟨.slice none 0 0,kQf,kQf,kQf⟩
    · exact⟨.slice none 0 0,kQf,kQf,kQf⟩
    · exact⟨.slice none 0 0,kQf,kQf,kQf⟩
    · exact⟨.agg ((.cells (List.replicate 6 (.nils)):Cont).vals:List Value).toArray,kQf,by rfl,kQf⟩
    · exact⟨.agg ((.cells (List.replicate 6 (.nils)):Cont).vals:List Value).toArray,kQf,by rfl,kQf⟩
    · exact⟨.agg ((.cells ([.u8 0]++List.replicate 3 (.nils)):Cont).vals:List Value).toArray,kQf,by rfl,kQf⟩
    · exact⟨.agg ((.cells ([.u8 0]++List.replicate 3 (.nils)):Cont).vals:List Value).toArray,kQf,by rfl,kQf⟩
    · exact⟨.slice none 0 0,kQf,kQf,kQf⟩
    · exact⟨.slice none 0 0,kQf,kQf,kQf⟩
    · exact⟨.slice none 0 0,kQf,kQf,kQf⟩
    · exact⟨.agg ((.cells (List.replicate 3 (.nils)):Cont).vals:List Value).toArray,kQf,by rfl,kQf⟩
    · exact⟨.agg ((.cells (List.replicate 3 (.nils)):Cont).vals:List Value).toArray,kQf,by rfl,kQf⟩
    · exact⟨.agg ((.cells ([.nils]++[.int .i64 0]):Cont).vals:List Value).toArray,kQf,by rfl,kQf⟩
    · exact⟨.agg ((.cells ([.nils]++[.int .i64 0]):Cont).vals:List Value).toArray,kQf,by rfl,kQf⟩
    · exact⟨.slice none 0 0,kQf,kQf,kQf⟩
    · exact⟨.agg ((.cells (List.replicate 4 (.nils)):Cont).vals:List Value).toArray,kQf,by rfl,kQf⟩
    · exact⟨.agg ((.cells (List.replicate 4 (.nils)):Cont).vals:List Value).toArray,kQf,by rfl,kQf⟩
    · exact⟨.agg ((.cells (List.replicate 4 (.int .i64 0)++[.bool false]):Cont).vals:List Value).toArray,kQf,by rfl,kQf⟩
    · exact⟨.agg ((.cells (List.replicate 4 (.int .i64 0)++[.bool false]):Cont).vals:List Value).toArray,kQf,by rfl,kQf⟩
    · exact⟨.agg ((.cells ([.int .i64 0]++List.replicate 6 (.nils)++[.int .i64 0]++List.replicate 4 (.nils)++List.replicate 4 (.int .i64 0)++[.bool false]++[.int .i64 0]):Cont).vals:List Value).toArray,kQf,by rfl,kQf⟩
    · exact⟨.agg ((.cells ([.int .i64 0]++List.replicate 6 (.nils)++[.int .i64 0]++List.replicate 4 (.nils)++List.replicate 4 (.int .i64 0)++[.bool false]++[.int .i64 0]):Cont).vals:List Value).toArray,kQf,by rfl,kQf⟩
    · exact⟨.agg ((.cells ([.int .i64 0]++List.replicate 6 (.nils)++[.int .i64 0]++List.replicate 4 (.nils)++List.replicate 4 (.int .i64 0)++[.bool false]++[.int .i64 0]++[.bool false]):Cont).vals:List Value).toArray,kQf,by rfl,kQf⟩
    · exact⟨.agg ((.cells ([.int .i64 0]++List.replicate 6 (.nils)++[.int .i64 0]++List.replicate 4 (.nils)++List.replicate 4 (.int .i64 0)++[.bool false]++[.int .i64 0]++[.bool false]):Cont).vals:List Value).toArray,kQf,by rfl,kQf⟩
    · exact⟨.int .i64 0,kQf,kQf,kQf⟩
    · exact⟨.nilFunc,kQf,kQf,kQf⟩
    · exact⟨.agg ((.cells ([.nils]++[.int .i64 0]):Cont).vals:List Value).toArray,kQf,by rfl,kQf⟩
    · exact⟨.agg ((.cells ([.nils]++[.int .i64 0]):Cont).vals:List Value).toArray,kQf,by rfl,kQf⟩
    · exact⟨.agg ((.cells (List.replicate 2 (.nils)):Cont).vals:List Value).toArray,kQf,by rfl,kQf⟩
    · exact⟨.agg ((.cells (List.replicate 2 (.nils)):Cont).vals:List Value).toArray,kQf,by rfl,kQf⟩
    · exact⟨.nilFunc,kQf,kQf,kQf⟩
    · exact⟨.nilFunc,kQf,kQf,kQf⟩
    · exact⟨.nilFunc,kQf,kQf,kQf⟩
    · exact⟨.agg ((.ints .i64 (List.replicate 256 0):Cont).vals:List Value).toArray,kQf,by rfl,kQf⟩
    · exact⟨.agg ((.cells (List.replicate 257 (.int .i64 0)++List.replicate 2 (.nils)):Cont).vals:List Value).toArray,kQf,by rfl,kQf⟩
    · exact⟨.agg ((.cells (List.replicate 257 (.int .i64 0)++List.replicate 2 (.nils)):Cont).vals:List Value).toArray,kQf,by rfl,kQf⟩
    · exact⟨.slice none 0 0,kQf,kQf,kQf⟩
    · exact⟨.agg ((.cells ([.int .i64 0]++[.nils]):Cont).vals:List Value).toArray,kQf,by rfl,kQf⟩
    · exact⟨.agg ((.cells ([.int .i64 0]++[.nils]):Cont).vals:List Value).toArray,kQf,by rfl,kQf⟩
    · exact⟨.slice none 0 0,kQf,kQf,kQf⟩
    · exact⟨.agg ((.cells ([.int .i64 0]++[.bool false]++List.replicate 2 (.int .i64 0)):Cont).vals:List Value).toArray,kQf,by rfl,kQf⟩
    · exact⟨.agg ((.cells ([.int .i64 0]++[.bool false]++List.replicate 2 (.int .i64 0)):Cont).vals:List Value).toArray,kQf,by rfl,kQf⟩
    · exact⟨.nilFunc,kQf,kQf,kQf⟩
    · exact⟨.nilFunc,kQf,kQf,kQf⟩
    · exact⟨.map none,kQf,kQf,kQf⟩
    · exact⟨.int .u64 0,kQf,kQf,kQf⟩
    · exact⟨.agg ((.u64s (List.replicate 4 0):Cont).vals:List Value).toArray,kQf,by rfl,kQf⟩
    · exact⟨.agg ((.u64s (List.replicate 4 0):Cont).vals:List Value).toArray,kQf,by rfl,kQf⟩
    · exact⟨.agg ((.cells ([.bool false]++[.u8 0]):Cont).vals:List Value).toArray,kQf,by rfl,kQf⟩
    · exact⟨.agg ((.cells ([.bool false]++[.u8 0]):Cont).vals:List Value).toArray,kQf,by rfl,kQf⟩
    · exact⟨.nilFunc,kQf,kQf,kQf⟩
    · exact⟨.nilFunc,kQf,kQf,kQf⟩
    · exact⟨.nilFunc,kQf,kQf,kQf⟩
    · exact⟨.nilFunc,kQf,kQf,kQf⟩
    · exact⟨.nilFunc,kQf,kQf,kQf⟩
    · exact⟨.nilFunc,kQf,kQf,kQf⟩
    · exact⟨.agg ((.u8s (List.replicate 64 0):Cont).vals:List Value).toArray,kQf,by rfl,kQf⟩
    · exact⟨.int .u64 0,kQf,kQf,kQf⟩
    · exact⟨.int .u32 0,kQf,kQf,kQf⟩
  zeroV:=by
    intro t z h;unfold ty at h;split at h<;>simp only[zeroC,Option.some.injEq,reduceCtorEq]at h<;>subst h
    all_goals kernel_rfl
  key:=by
    intro t z h hl;unfold ty at h;split at h<;>simp only[Ty.wide,Option.some.injEq,reduceCtorEq]at h<;>subst h
    · exact⟨kQf,kQf,kQf,⟨[.int .i64 0,.int .u8 0],kQf⟩,kQf,kQf,kQf⟩
    · exact⟨kQf,kQf,kQf,⟨[.int .i64 0,.int .u8 0],kQf⟩,kQf,kQf,kQf⟩
    · exact⟨kQf,kQf,kQf,⟨[.bool false,.bool false,.bool false],kQf⟩,kQf,kQf,kQf⟩
    · exact⟨kQf,kQf,kQf,⟨[.int .i64 0,.int .i64 0,.int .i64 0],kQf⟩,kQf,kQf,kQf⟩
    · exact⟨kQf,kQf,kQf,⟨[.int .i64 0,.int .i64 0,.int .i64 0],kQf⟩,kQf,kQf,kQf⟩
    · exact z1j kQf hl
    · exact z1j kQf hl
    · exact z1j kQf hl
    · exact z1j kQf hl
    · exact z1j kQf hl
    · exact z1j kQf hl
    · exact z1j kQf hl
    · exact z1j kQf hl
    · exact z1j kQf hl
    · exact z1j kQf hl
    · exact z1j kQf hl
    · exact z1j kQf hl
    · exact z1j kQf hl
    · exact z1j kQf hl
    · exact⟨kQf,kQf,kQf,⟨[.int .i64 0,.int .i64 0,.int .i64 0,.int .i64 0,.bool false],kQf⟩,kQf,kQf,kQf⟩
    · exact⟨kQf,kQf,kQf,⟨[.int .i64 0,.int .i64 0,.int .i64 0,.int .i64 0,.bool false],kQf⟩,kQf,kQf,kQf⟩
    · exact z1j kQf hl
    · exact z1j kQf hl
    · exact z1j kQf hl
    · exact z1j kQf hl
    · exact z1j kQf hl
    · exact z1j kQf hl
    · exact z1j kQf hl
    · exact z1j kQf hl
    · exact z1j kQf hl
    · exact z1j kQf hl
    · exact z1j kQf hl
    · exact z1j kQf hl
    · exact z1j kQf hl
    · exact⟨kQf,kQf,kQf,⟨[.int .i64 0,.bool false,.int .i64 0,.int .i64 0],kQf⟩,kQf,kQf,kQf⟩
    · exact⟨kQf,kQf,kQf,⟨[.int .i64 0,.bool false,.int .i64 0,.int .i64 0],kQf⟩,kQf,kQf,kQf⟩
    · exact⟨kQf,kQf,kQf,⟨[.int .u64 0,.int .u64 0,.int .u64 0,.int .u64 0],kQf⟩,kQf,kQf,kQf⟩
    · exact⟨kQf,kQf,kQf,⟨[.int .u64 0,.int .u64 0,.int .u64 0,.int .u64 0],kQf⟩,kQf,kQf,kQf⟩
    · exact⟨kQf,kQf,kQf,⟨[.bool false,.int .u8 0],kQf⟩,kQf,kQf,kQf⟩
    · exact⟨kQf,kQf,kQf,⟨[.bool false,.int .u8 0],kQf⟩,kQf,kQf,kQf⟩
    · exact z1j kQf hl
@[simp] theorem size_2:(ty 2).size=1:=rfl
@[simp] theorem size_3:(ty 3).size=1:=rfl
@[simp] theorem size_4:(ty 4).size=1:=rfl
@[simp] theorem size_5:(ty 5).size=1:=rfl
@[simp] theorem size_9:(ty 9).size=1:=rfl
@[simp] theorem size_12:(ty 12).size=1:=rfl
@[simp] theorem size_21:(ty 21).size=1:=rfl
@[simp] theorem size_22:(ty 22).size=1:=rfl
@[simp] theorem size_23:(ty 23).size=1:=rfl
@[simp] theorem size_26:(ty 26).size=2:=rfl
@[simp] theorem size_27:(ty 27).size=2:=rfl
@[simp] theorem size_28:(ty 28).size=1:=rfl
@[simp] theorem size_31:(ty 31).size=3:=rfl
@[simp] theorem size_32:(ty 32).size=1:=rfl
@[simp] theorem size_33:(ty 33).size=1:=rfl
@[simp] theorem size_36:(ty 36).size=1:=rfl
@[simp] theorem size_38:(ty 38).size=3:=rfl
@[simp] theorem size_39:(ty 39).size=3:=rfl
@[simp] theorem size_41:(ty 41).size=1:=rfl
@[simp] theorem size_42:(ty 42).size=2:=rfl
@[simp] theorem size_43:(ty 43).size=2:=rfl
@[simp] theorem size_46:(ty 46).size=2:=rfl
@[simp] theorem size_47:(ty 47).size=2:=rfl
@[simp] theorem size_48:(ty 48).size=1:=rfl
@[simp] theorem size_49:(ty 49).size=1:=rfl
@[simp] theorem size_50:(ty 50).size=1:=rfl
@[simp] theorem size_51:(ty 51).size=6:=rfl
@[simp] theorem size_52:(ty 52).size=6:=rfl
@[simp] theorem size_54:(ty 54).size=4:=rfl
@[simp] theorem size_55:(ty 55).size=4:=rfl
@[simp] theorem size_56:(ty 56).size=1:=rfl
@[simp] theorem size_62:(ty 62).size=1:=rfl
@[simp] theorem size_63:(ty 63).size=1:=rfl
@[simp] theorem size_64:(ty 64).size=3:=rfl
@[simp] theorem size_65:(ty 65).size=3:=rfl
@[simp] theorem size_66:(ty 66).size=2:=rfl
@[simp] theorem size_67:(ty 67).size=2:=rfl
@[simp] theorem size_68:(ty 68).size=1:=rfl
@[simp] theorem size_69:(ty 69).size=4:=rfl
@[simp] theorem size_70:(ty 70).size=4:=rfl
@[simp] theorem size_71:(ty 71).size=5:=rfl
@[simp] theorem size_72:(ty 72).size=5:=rfl
@[simp] theorem size_73:(ty 73).size=18:=rfl
@[simp] theorem size_74:(ty 74).size=18:=rfl
@[simp] theorem size_75:(ty 75).size=19:=rfl
@[simp] theorem size_76:(ty 76).size=19:=rfl
@[simp] theorem size_88:(ty 88).size=1:=rfl
@[simp] theorem size_99:(ty 99).size=1:=rfl
@[simp] theorem size_105:(ty 105).size=2:=rfl
@[simp] theorem size_106:(ty 106).size=2:=rfl
@[simp] theorem size_107:(ty 107).size=2:=rfl
@[simp] theorem size_108:(ty 108).size=2:=rfl
@[simp] theorem size_109:(ty 109).size=1:=rfl
@[simp] theorem size_110:(ty 110).size=1:=rfl
@[simp] theorem size_114:(ty 114).size=1:=rfl
@[simp] theorem size_121:(ty 121).size=256:=rfl
@[simp] theorem size_122:(ty 122).size=259:=rfl
@[simp] theorem size_123:(ty 123).size=259:=rfl
@[simp] theorem size_127:(ty 127).size=1:=rfl
@[simp] theorem size_128:(ty 128).size=2:=rfl
@[simp] theorem size_129:(ty 129).size=2:=rfl
@[simp] theorem size_130:(ty 130).size=1:=rfl
@[simp] theorem size_133:(ty 133).size=4:=rfl
@[simp] theorem size_134:(ty 134).size=4:=rfl
@[simp] theorem size_139:(ty 139).size=1:=rfl
@[simp] theorem size_142:(ty 142).size=1:=rfl
@[simp] theorem size_143:(ty 143).size=1:=rfl
@[simp] theorem size_146:(ty 146).size=1:=rfl
@[simp] theorem size_147:(ty 147).size=4:=rfl
@[simp] theorem size_148:(ty 148).size=4:=rfl
@[simp] theorem size_149:(ty 149).size=2:=rfl
@[simp] theorem size_150:(ty 150).size=2:=rfl
@[simp] theorem size_156:(ty 156).size=1:=rfl
@[simp] theorem size_157:(ty 157).size=1:=rfl
@[simp] theorem size_163:(ty 163).size=1:=rfl
@[simp] theorem size_165:(ty 165).size=1:=rfl
@[simp] theorem size_167:(ty 167).size=1:=rfl
@[simp] theorem size_168:(ty 168).size=1:=rfl
@[simp] theorem size_175:(ty 175).size=64:=rfl
@[simp] theorem size_176:(ty 176).size=1:=rfl
@[simp] theorem size_184:(ty 184).size=1:=rfl
@[simp] theorem size_188:(ty 188).size=1:=rfl

theorem mixed:Tryd.prog.follows .mixedOrders=true:=by kernel_rfl
end Go.Proofs.YtegdcifghaldoaaDoor
