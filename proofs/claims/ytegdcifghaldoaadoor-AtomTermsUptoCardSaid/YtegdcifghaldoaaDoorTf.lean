/- Contracts of functions and plain facts, part 6. -/
import Derived.Test.YtegdcifghaldoaaDoorTd
import Derived.Test.YtegdcifghaldoaaDoorTe
import Derived.Test.YtegdcifghaldoaaDoorTb
import Derived.Test.YtegdcifghaldoaaDoorTc
set_option maxHeartbeats 4000000
set_option maxRecDepth 4000
namespace Go.Proofs.YtegdcifghaldoaaDoor
set_option linter.all false
open Go.Ab Go.RowKit

open Go.Aut
structure Itm where
  x:Int
  b:UInt8
deriving DecidableEq,Inhabited
def itmL(i:Itm):List Cell:=[.int .i64 i.x,.u8 i.b]
theorem pl2{a b:Cell}(ha:a.plain=true)(hb:b.plain=true):z01 [a,b]:=z25 ha (z25 hb z8e)
theorem itmR:Rec itmL 2 (fun _=>True):=⟨fun _=>rfl,fun _=>pl2 rfl rfl⟩
abbrev itmsX(l:List Itm):Cell:=.ds l.length (.cells (z0o itmL l))
structure Pce where
  copy:Bool
  b:UInt8
deriving DecidableEq,Inhabited
def pceL(p:Pce):List Cell:=[.bool p.copy,.u8 p.b]
theorem pceR:Rec pceL 2 (fun _=>True):=⟨fun _=>rfl,fun _=>pl2 rfl rfl⟩
structure Mov where
  to:Int
  out:List Pce
deriving DecidableEq,Inhabited
def movL(m:Mov):List Cell:=[.int .i64 m.to,.ds m.out.length (.cells (z0o pceL m.out))]
theorem movR:Rec movL 2 (fun _=>True):=⟨fun _=>rfl,fun _=>pl2 rfl rfl⟩
structure Tra where
  cls:List UInt64
  nc:Nat
  moves:List (List Mov)
  fin:List Bool
  ends:List (List UInt8)
deriving Inhabited
def lists(ps:List (List UInt8)):List Cell:=ps.map fun p=>.ds p.length (.u8s p)
@[simp] theorem z1x(ps:List (List UInt8)):(lists ps).length=ps.length:=by simp[lists]
theorem z71{ps:List (List UInt8)}{i:Nat}(h:i< ps.length):(Cont.cells (lists ps)).get i= .ds (ps.getD i []).length (.u8s (ps.getD i [])):=by
  simp[Cont.get,lists,List.getD_eq_getElem?_getD,h]
theorem z0f(ps:List (List UInt8)):z01 (lists ps):=zf7 (fun _=>rfl) ps
def recss{α:Type}(enc:α→List Cell)(ls:List (List α)):List Cell:=ls.map fun l=>.ds l.length (.cells (z0o enc l))
@[simp] theorem z3l{α:Type}(enc:α→List Cell)(ls:List (List α)):(recss enc ls).length=ls.length:=by simp[recss]
theorem zfp{α:Type}{enc:α→List Cell}{ls:List (List α)}{i:Nat}(h:i< ls.length):(Cont.cells (recss enc ls)).get i= .ds (ls.getD i []).length (.cells (z0o enc (ls.getD i []))):=by
  simp[Cont.get,recss,List.getD_eq_getElem?_getD,h]
theorem z0h{α:Type}(enc:α→List Cell)(ls:List (List α)):z01 (recss enc ls):=zf7 (fun _=>rfl) ls
def traL(t:Tra):List Cell:=[.ds t.nc (.u64s t.cls),.ds t.moves.length (.cells (recss movL t.moves)),.ds t.fin.length (.bools t.fin),.ds t.ends.length (.cells (lists t.ends))]
abbrev traV(t:Tra):SV:=.agg (.cells (traL t))
theorem pl4{a b c d:Cell}(ha:a.plain=true)(hb:b.plain=true)(hc:c.plain=true)(hd:d.plain=true):z01 [a,b,c,d]:=z25 ha (z25 hb (pl2 hc hd))
theorem z0m(t:Tra):z01 (traL t):=pl4 rfl rfl rfl rfl
def Tra.wf(t:Tra):Prop:=t.cls.length=t.nc*4∧t.nc≤9223372036854775807∧t.moves.length≤9223372036854775807∧t.fin.length≤9223372036854775807∧t.ends.length≤9223372036854775807∧(∀ r∈t.moves,r.length≤9223372036854775807∧∀ m∈r,m.out.length≤9223372036854775807)∧∀ e∈t.ends,e.length≤9223372036854775807
structure Atm where
  kind:Int
  t:List Itm
  u:List Itm
  d:Dfa
  ra:List Int
  rc:Int
  m:Tra
  q:Rul
  n:Int
def atmL(a:Atm):List Cell:=[.int .i64 a.kind,itmsX a.t,itmsX a.u,.ds a.d.nc (.u64s a.d.cls),.ds a.d.next.length (.cells (rowsC a.d.next)),.ds a.d.acc.length (.bools a.d.acc),.ds a.ra.length (.ints .i64 a.ra),.int .i64 a.rc,
  .ds a.m.nc (.u64s a.m.cls),.ds a.m.moves.length (.cells (recss movL a.m.moves)),.ds a.m.fin.length (.bools a.m.fin),.ds a.m.ends.length (.cells (lists a.m.ends)),.int .i64 a.q.base,.int .i64 a.q.digits,.int .i64 a.q.top,.int .i64 a.q.over,.bool a.q.zeros,.int .i64 a.n]
abbrev atmV(a:Atm):SV:=.agg (.cells (atmL a))
theorem z0i(a:Atm):z01 (atmL a):=by
  unfold atmL
  repeat first|exact z8e|refine z25 rfl ?_
theorem atmR:Rec atmL 18 (fun _=>True):=⟨fun _=>rfl,z0i⟩
def Atm.wf(a:Atm):Prop:=a.t.length≤9223372036854775807∧a.u.length≤9223372036854775807∧a.d.wf∧a.ra.length≤9223372036854775807∧a.m.wf
structure Lit' where
  a:Atm
  neg:Bool
def litL(l:Lit'):List Cell:=atmL l.a++[.bool l.neg]
abbrev litV(l:Lit'):SV:=.agg (.cells (litL l))
theorem z0k(l:Lit'):z01 (litL l):=zf6 (z0i l.a) (z25 rfl z8e)
theorem litR:Rec litL 19 (fun _=>True):=⟨fun _=>rfl,z0k⟩
structure FNd where
  kind:Int
  l:Int
  r:Int
deriving DecidableEq,Inhabited
def fndL(x:FNd):List Cell:=[.int .i64 x.kind,.int .i64 x.l,.int .i64 x.r]
theorem fndR:Rec fndL 3 (fun _=>True):=⟨fun _=>rfl,fun _=>z25 rfl (pl2 rfl rfl)⟩
structure Prb where
  alph:List UInt8
  most:List Int
  top:List Int
  lits:List Lit'
  atoms:List Atm
  forms:List (List FNd)
def prbL(q:Prb):List Cell:=[.ds q.alph.length (.u8s q.alph),.ds q.most.length (.ints .i64 q.most),.ds q.top.length (.ints .i64 q.top),.ds q.lits.length (.cells (z0o litL q.lits)),.ds q.atoms.length (.cells (z0o atmL q.atoms)),.ds q.forms.length (.cells (recss fndL q.forms))]
abbrev prbV(q:Prb):SV:=.agg (.cells (prbL q))
theorem z0l(q:Prb):z01 (prbL q):=by
  unfold prbL
  repeat first|exact z8e|refine z25 rfl ?_
def Prb.wf(q:Prb):Prop:=q.alph.length≤9223372036854775807∧q.most.length≤9223372036854775807∧q.top.length≤9223372036854775807∧q.lits.length≤9223372036854775807∧q.atoms.length≤9223372036854775807∧q.forms.length≤9223372036854775807∧(∀ l∈q.lits,l.a.wf)∧(∀ a∈q.atoms,a.wf)∧∀ f∈q.forms,f.length≤9223372036854775807
structure Mdl where
  s:List (List UInt8)
  n:List Int
deriving DecidableEq
def mdlL(m:Mdl):List Cell:=[.ds m.s.length (.cells (lists m.s)),.ds m.n.length (.ints .i64 m.n)]
abbrev mdlV(m:Mdl):SV:=.agg (.cells (mdlL m))
theorem z0c(m:Mdl):z01 (mdlL m):=pl2 rfl rfl
theorem mdlR:Rec mdlL 2 (fun _=>True):=⟨fun _=>rfl,z0c⟩
def Mdl.wf(m:Mdl):Prop:=m.s.length≤9223372036854775807∧m.n.length≤9223372036854775807∧∀ x∈m.s,x.length≤9223372036854775807

end Go.Proofs.YtegdcifghaldoaaDoor

namespace Go.Proofs.YtegdcifghaldoaaDoor
set_option linter.all false
open Go.Ab Go.RowKit

open Go.Aut
def itmOK(n:Nat)(i:Itm):Bool:=decide (-1≤i.x)&&decide (i.x< n)&& !(decide (0≤i.x)&&decide (i.b≠0))
def z2e(t:List Itm)(n:Nat):Bool:=decide (t.length≤24)&&t.all (itmOK n)
def itmW(s:List (List UInt8))(i:Itm):List UInt8:=if 0≤i.x then s.getD i.x.toNat [] else[i.b]
def wordN(t:List Itm)(s:List (List UInt8)):List UInt8:=if z2e t s.length=true then t.flatMap (itmW s) else[]
def pceOK(p:Pce):Bool:= !(p.copy&&decide (p.b≠0))
def movOK(n:Nat)(m:Mov):Bool:=decide (-1≤m.to)&&decide (m.to< n)&&decide (m.out.length≤8)&& !(decide (m.to< 0)&&decide (0< m.out.length))&&m.out.all pceOK
def rowT(t:Tra)(s:Nat):Bool:=decide ((t.moves.getD s []).length=t.nc)&&decide ((t.ends.getD s []).length≤8)&& !(!t.fin.getD s false&&decide (0< (t.ends.getD s []).length))&&(t.moves.getD s []).all (movOK t.moves.length)
def traOK(t:Tra):Bool:=decide (1≤t.moves.length∧t.moves.length≤64∧t.fin.length=t.moves.length∧t.ends.length=t.moves.length∧t.nc≤256)&&clsP t.cls t.nc&&(List.range t.moves.length).all (rowT t)
def z22(l:List Pce)(b:UInt8):List UInt8:=l.map fun p=>if p.copy=true then b else p.b
def cellT(t:Tra)(b:Nat):Nat:=((List.range t.nc).find? fun c=>hasC t.cls c b).getD 0
def movT(t:Tra)(s:Nat)(b:UInt8):Mov:=(t.moves.getD s []).getD (cellT t b.toNat) default
def stepT(t:Tra)(o:Option (List UInt8×Nat))(b:UInt8):Option (List UInt8×Nat):=match o with
  |none=>none
  |some (w,s)=>if(movT t s b).to< 0 then none else some (w++z22 (movT t s b).out b,(movT t s b).to.toNat)
def runT(t:Tra)(w:List UInt8):List UInt8×Bool:=if traOK t=true then(match w.foldl (stepT t) (some ([],0)) with
  |none=>([],false)
  |some (o,s)=>if t.fin.getD s false=true then(o++t.ends.getD s [],true) else([],false)) else([],false)
def zeroD(d:Dfa):Bool:=decide (d.nc=0∧d.next.length=0∧d.acc.length=0)
def zeroR(ra:List Int)(rc:Int):Bool:=decide (ra.length=0∧rc=0)
def zeroT(t:Tra):Bool:=decide (t.nc=0∧t.moves.length=0∧t.fin.length=0∧t.ends.length=0)
def zeroQ(q:Rul):Bool:=decide (q.base=0∧q.digits=0∧q.top=0∧q.over=0∧q.zeros=false)
def z6k(c:Int):Bool:=decide (-1000≤c)&&decide (c≤1000)
def zj9(ra:List Int)(rc:Int)(n:Nat):Bool:=decide (ra.length=n)&&ra.all z6k&&decide (-1000≤rc)&&decide (rc≤999)
def atmB1(a:Atm)(n:Nat):Bool:=(decide (1≤a.kind)&&decide (a.kind≤5))&&z2e a.t n&&z2e a.u n
def atmB2(a:Atm):Bool:= !(decide (a.kind=3)&&decide (0< a.t.length))&& !(decide (a.kind≠2)&&decide (a.kind≠4)&&decide (0< a.u.length))
def atmB3(a:Atm):Bool:=(decide (a.kind=1)||zeroD a.d)&&(decide (a.kind=3)||zeroR a.ra a.rc)&&(decide (a.kind=4)||zeroT a.m)
def atmB4(a:Atm):Bool:=decide (a.kind=5)||(zeroQ a.q&&decide (a.n=0))
def atmB5(a:Atm)(n k:Nat):Bool:=if a.kind=1 then z3k a.d else if a.kind=4 then traOK a.m else if a.kind=5 then a.q.okB&&decide (0≤a.n)&&decide (a.n< k)else if a.kind=3 then zj9 a.ra a.rc (n+k)else true
def atmOK(a:Atm)(n k:Nat):Bool:=atmB1 a n&&atmB2 a&&atmB3 a&&atmB4 a&&atmB5 a n k
def fndOK(i atoms:Nat)(x:FNd):Bool:=
  if x.kind=1 then decide (0≤x.l)&&decide (x.l< atoms)&&decide (x.r=0)
  else if x.kind=2 then decide (0≤x.l)&&decide (x.l< i)&&decide (x.r=0)
  else if x.kind=3∨x.kind=4 then decide (0≤x.l)&&decide (x.l< i)&&decide (0≤x.r)&&decide (x.r< i)else false
def fndZ:FNd:=⟨0,0,0⟩
def z4w(f:List FNd)(atoms:Nat):Bool:=(List.range f.length).all (fun i=>fndOK i atoms (f.getD i fndZ))&&decide (0< f.length)
def z5v:List (List FNd)→Nat→Nat
  |[],n=>n
  |f::fs,n=>if 40< n+f.length then n+f.length else z5v fs (n+f.length)
def ascB(l:List UInt8):Bool:=(List.range (l.length - 1)).all fun i=>decide (l.getD i 0< l.getD (i+1) 0)
def inI(lo hi n:Int):Bool:=decide (lo≤n)&&decide (n≤hi)
def bigQ(q:Prb):Bool:=decide (16< q.alph.length)||decide (12< q.most.length+q.top.length)||decide (40< q.lits.length)||decide (40< q.atoms.length)||decide (40< z5v q.forms 0)
def okQ(q:Prb):Bool:=decide (0< q.alph.length)&&ascB q.alph&&q.most.all (inI 0 8)&&q.top.all (inI 0 64)&&q.lits.all (fun l=>atmOK l.a q.most.length q.top.length)&&q.atoms.all (fun a=>atmOK a q.most.length q.top.length)&&q.forms.all (fun f=>z4w f q.atoms.length)
def z1y(q:Prb):Int:=if bigQ q=true then 2 else if okQ q=true then 0 else 1
def zo1(a:Atm)(m:Mdl):Int:=a.rc+((List.range m.s.length).map fun i=>a.ra.getD i 0*((m.s.getD i []).length:Nat)).sum+((List.range m.n.length).map fun i=>a.ra.getD (m.s.length+i) 0*m.n.getD i 0).sum
def evN(a:Atm)(m:Mdl):Bool:=
  if a.kind=1 then z8k a.d (wordN a.t m.s)else if a.kind=2 then decide (wordN a.t m.s=wordN a.u m.s)else if a.kind=3 then decide (0≤zo1 a m)
  else if a.kind=4 then(runT a.m (wordN a.t m.s)).2&&decide ((runT a.m (wordN a.t m.s)).1=wordN a.u m.s)
  else(readN a.q (wordN a.t m.s)).2&&decide ((readN a.q (wordN a.t m.s)).1=m.n.getD a.n.toNat 0)
def fitsN(l:Lit')(m:Mdl):Bool:=atmOK l.a m.s.length m.n.length&&m.n.all (inI 0 64)
def z4x(l:Lit')(m:Mdl):Bool:=fitsN l m&&(evN l.a m !=l.neg)
def nodeV (f:List FNd) (l:List Bool):Nat→List Bool
  |0=>[]
  | i+1=>let v:=nodeV f l i
    let x:=f.getD i fndZ
    v++[if x.kind=1 then l.getD x.l.toNat false else if x.kind=2 then !v.getD x.l.toNat false else if x.kind=3 then v.getD x.l.toNat false&&v.getD x.r.toNat false else v.getD x.l.toNat false||v.getD x.r.toNat false]
def z5w(f:List FNd)(l:List Bool):Bool:=z4w f l.length&&(nodeV f l f.length).getD (f.length - 1) false
def overB(w alph:List UInt8)(n:Int):Bool:=decide ((w.length:Int)≤n)&&w.all fun b=>alph.contains b
def candN(q:Prb)(m:Mdl):Bool:=decide (m.s.length=q.most.length)&&decide (m.n.length=q.top.length)&&(List.range m.s.length).all (fun i=>overB (m.s.getD i []) q.alph (q.most.getD i 0))&&(List.range m.n.length).all fun i=>inI 0 (q.top.getD i 0) (m.n.getD i 0)
def z2j(q:Prb)(m:Mdl):Bool:=decide (z1y q=0)&&candN q m&&q.lits.all (fun l=>evN l.a m !=l.neg)&&q.forms.all fun f=>z5w f (q.atoms.map fun a=>evN a m)
def powS(a:Nat):Nat→Nat
  |0=>0
  |k+1=>powS a k+a ^ k
def prodQ(o n:Nat):Nat:=min (o*n) 1099511627776
def sizeN(q:Prb):Nat:=if z1y q=0 then(q.top.foldl (fun o t=>prodQ o (t.toNat+1)) (q.most.foldl (fun o m=>prodQ o (powS q.alph.length (m.toNat+1))) 1))else 0

end Go.Proofs.YtegdcifghaldoaaDoor

namespace Go.Proofs.YtegdcifghaldoaaDoor
set_option linter.all false
open Go.Ab Go.RowKit

section
variable {a b:Prop}
theorem qBc1(h:a:=by first|exact vcA|(simp<;>omega)|exact⟨by omega,by omega⟩|(show _< (z0o _ _).length;rw[z10 itmR (fun _ _=>trivial)];omega)|(show _≤(z0o _ _).length;rw[z10 itmR (fun _ _=>trivial)];omega)|exact vcB):a:=h
theorem uBc_0(h:a:=by
    repeat' (first|exact z01.to (z0i _)|exact z01.low (z0i _)|exact z01.to (z0k _)|exact z01.low (z0k _)|exact z01.to (z0l _)|exact z01.low (z0l _)|exact z01.to (z0c _)|exact z01.low (z0c _)|exact z01.to (z0m _)|exact z01.low (z0m _)|exact z01.to (z0f _)|exact z01.low (z0f _)|exact z01.to (z0h _ _)|exact z01.low (z0h _ _)|exact z01.to (z00 itmR _)|exact z01.low (z00 itmR _)|exact z01.to (z00 movR _)|exact z01.low (z00 movR _)|exact z01.to (z00 pceR _)|exact z01.low (z00 pceR _)|exact z01.to (z00 fndR _)|exact z01.low (z00 fndR _)|exact z01.to (z00 atmR _)|exact z01.low (z00 atmR _)|exact z01.to (z00 litR _)|exact z01.low (z00 litR _)|exact z01.to (z00 mdlR _)|exact z01.low (z00 mdlR _)|exact z0v (z0j z0r z05)|exact z0q (z0j z0r z05)|exact z0v z05|exact z0q z05|exact trivial|refine aI ?_ ?_|exact cC0|refine low_cons' ?_ ?_|exact cC1|fail)
    all_goals first|omega|(simp[-List.reduceReplicate];done)|(simp[-List.reduceReplicate]<;>omega)|skip):a:=h
theorem DBc_3(kZ:b)(h:HidB b→a:=by intro kZ;(repeat first|refine aI qBc1 ?_|refine z0d qBc1 ?_|refine z09 qBc1 ?_|refine z0p qBc1 ?_|refine z0e ?_);exact kZ.out):a:=h ⟨kZ⟩
theorem za0(kZ:b)(h:HidB b→a:=by intro kZ;refine sX ?_;refine DBc_3 ?_;refine exI ?_;exact kZ.out):a:=h ⟨kZ⟩
theorem zo2(kZ:b)(h:HidB b→a:=by intro kZ;refine sX ?_;refine DBc_3 ?_;exact kZ.out):a:=h ⟨kZ⟩
end
open Go.Aut
def idxI{α:Type}(p:α→Bool)(l:List α):Int:=if l.any p=true then(l.findIdx p:Nat)else -1
theorem z34{α:Type}{p:α→Bool}{l:List α}{k:Nat}{x:α}(h1:(l.take k).any p=false)(hx:l[k]? =some x)(h2:p x=false):(l.take (k+1)).any p=false:=by
  rw[List.take_add_one,List.any_append,h1,hx];simpa using h2
theorem z9d{α:Type}{p:α→Bool}{l:List α}{k:Nat}{x:α}(h1:(l.take k).any p=false)(hx:l[k]? =some x)(h2:p x=true):idxI p l=(k:Nat):=by
  have hk:k< l.length:=(List.getElem?_eq_some_iff.1 hx).1
  have hxe:l[k]=x:=(List.getElem?_eq_some_iff.1 hx).2
  have ha:l.any p=true:=List.any_eq_true.2 ⟨x,List.mem_of_getElem? hx,h2⟩
  rw[idxI,if_pos ha]
  congr 1
  refine(List.findIdx_eq hk).2 ⟨by rw[hxe];exact h2,fun j hj=>?_⟩
  have:=List.any_eq_false.1 h1 l[j] (List.mem_take_iff_getElem.2 ⟨j,by omega,rfl⟩)
  simpa using this
theorem z7c{α:Type}{p:α→Bool}{l:List α}{k:Nat}(h1:(l.take k).any p=false)(hk:l.length≤k):idxI p l= -1:=by
  rw[List.take_of_length_le hk]at h1;rw[idxI,if_neg (by rw[h1];decide)]
theorem zcv{α:Type}(p:α→Bool)(l:List α):decide (0≤idxI p l)=l.any p:=by
  unfold idxI
  split<;>rename_i h
  · rw[h];exact decide_eq_true (Int.natCast_nonneg _)
  · rw[Bool.not_eq_true]at h;rw[h];rfl
theorem zcw{α:Type}(p:α→Bool)(l:List α):idxI p l< (l.length:Nat)+1∧ -1≤idxI p l:=by
  unfold idxI
  split
  · have:=List.findIdx_le_length (p:=p) (xs:=l);omega
  · omega
theorem hasAt{α:Type}{l:List α}{k:Nat}(h:k< l.length):∃ x,l[k]? =some x:=⟨_,List.getElem?_eq_getElem h⟩
def vt1S:QSpec:=fun vs K=>∃ (x:Itm) (m:Nat),vs=[.agg (.cells (itmL x)),.c (.dp (.ints .i64 [(m:Int)]) 0)]∧K (.c (.bool (!itmOK m x)))
theorem vt1_ok:z11 Tryd.prog gl 68 vt1S:=by
 refine z0u (Γ:=g0) (N:=23) Tryd.func68 rfl rfl fun vs K h=>?_;obtain⟨x,m,rfl,h⟩:=h;refine⟨_,h,rfl,by simp,fun w I=>?_⟩;refine srR g0_ok fun _ K2=>?_
 iterate 2 refine zng ?_
 refine s_n K2 ?_;refine srR g0_ok fun _ K4=>?_
 iterate 3 refine zng ?_
 refine sXEUf_4 ?_;refine exB (fun hb3=>?_) (fun hb3=>?_)
 ·try simp only[dQ,reduceIte]at hb3
  iterate 4 refine sN ?_
  refine zng ?_;refine sXEUf_4 ?_;refine exB (fun hb9=>?_) (fun hb9=>?_)
  rotate_left 1
  ·exfalso;simp at hb9
  iterate 4 refine sN ?_
  iterate 3 refine sU ?_
  refine sN ?_
  iterate 2 refine zng ?_
  refine s_n K4 ?_;refine z0b (z02 g0_ok (fun _ _ h=>h) (by first|rfl|assumption) [.tmp 3] rfl ?_);refine rtD ?_
  show SV.c (.bool _)=SV.c (.bool _)
  congr 2
  first|rfl|(simp[itmOK, *];done)|(simp[itmOK, *]<;>omega)
 ·try simp only[dQ,reduceIte]at hb3
  iterate 2 refine z4n ?_
  refine zdq ?_;refine exA (.c (.int .i64 (m:Int))) (as_eq rfl) ?_;refine z4n ?_;refine zng ?_;refine sXEUf_4 ?_;refine exB (fun hb9=>?_) (fun hb9=>?_)
  ·try simp only[dQ,reduceIte]at hb9
   iterate 4 refine sN ?_
   iterate 3 refine sU ?_
   refine sN ?_
   iterate 2 refine zng ?_
   refine s_n K4 ?_;refine z0b (z02 g0_ok (fun _ _ h=>h) (by first|rfl|assumption) [.tmp 3] rfl ?_);refine rtD ?_
   show SV.c (.bool _)=SV.c (.bool _)
   congr 2
   first|rfl|(simp[itmOK, *];done)|(simp[itmOK, *]<;>omega)
  ·try simp only[dQ,reduceIte]at hb9
   iterate 3 refine z4n ?_
   refine zdq ?_;refine exB (fun hb13=>?_) (fun hb13=>?_)
   ·try simp only[dQ,reduceIte]at hb13
    iterate 4 refine z4n ?_
    iterate 2 refine zng ?_
    refine s_n K4 ?_;refine z0b (z02 g0_ok (fun _ _ h=>h) (by first|rfl|assumption) [.tmp 3] rfl ?_);refine rtD ?_
    show SV.c (.bool _)=SV.c (.bool _)
    congr 2
    first|rfl|(simp[itmOK, *];done)|(simp[itmOK, *]<;>omega)
   ·try simp only[dQ,reduceIte]at hb13
    iterate 3 refine sN ?_
    refine z4n ?_
    iterate 2 refine zng ?_
    refine s_n K4 ?_;refine z0b (z02 g0_ok (fun _ _ h=>h) (by first|rfl|assumption) [.tmp 3] rfl ?_);refine rtD ?_
    show SV.c (.bool _)=SV.c (.bool _)
    congr 2
    first|rfl|(simp[itmOK, *];done)|(simp[itmOK, *]<;>omega)

noncomputable def chasI:Ctx:={ P:=Tryd.prog,ty:=ty,glob:=gl,fs:=[(68,.flat vt1S)] }
theorem z43:chasI.OK:=⟨tyOK,⟨⟨z07 Tryd.func68 kQf rfl,vt1_ok⟩,trivial⟩,mixed⟩
@[simp] theorem chasI_ty:chasI.ty=ty:=rfl

def hasIIS:QSpec:=fun vs K=>∃ (l:List Itm) (m:Nat),vs=[.c (.ds l.length (.cells (z0o itmL l))),.c (.clo 68 [.dp (.ints .i64 [(m:Int)]) 0])]∧(l.length≤9223372036854775807∧True)∧K (.c (.int .i64 (idxI (fun x=> !itmOK m x) l)))
theorem hasII_ok:z11 Tryd.prog gl 94 hasIIS:=by
 refine z0u (Γ:=chasI) (N:=19) Tryd.func94 rfl rfl fun vs K h=>?_;obtain⟨l,m,rfl,⟨hl,hh⟩,h⟩:=h;refine⟨_,h,rfl,by simp,fun w I=>?_⟩;refine srR z43 fun _ K2=>?_;refine za0 ?_;refine s_n K2 ?_;refine seq_k fun _ K3=>?_;refine srR z43 fun _ K5=>?_
 iterate 3 refine za0 ?_
 refine s_n K5 ?_;refine z0a ?_;refine z13 (α:=Nat) (fun k=>[(0,.c (.ds l.length (.cells (z0o itmL l)))),(1,.c (.clo 68 [.dp (.ints .i64 [(m:Int)]) 0])),(7,.c (.int .i64 (l.length:Nat))),(8,.c (.int .i64 (k:Nat)))]) (fun k=>[]) 0 (fun k=>k≤l.length∧(l.take k).any (fun x=> !itmOK m x)=false) (fun k=>l.length - k) ?_ ?_
 ·refine dnS [] id 0 ⟨Nat.zero_le _,by simp⟩ [] uBc_0 uBc_0 uBc_0 uBc_0
 ·intro k hk
  refine srR z43 fun _ K7=>?_;refine za0 ?_;refine s_n K7 ?_;refine seq_k fun _ K8=>?_;refine z06 (b:=_) rfl (fun h_t9=>?_) (fun h_t9=>?_)
  ·try simp only[dQ,reduceIte]at h_t9
   refine z0g ?_;apply K8;refine seq_k fun _ K9=>?_;refine z0a ?_;refine srR z43 fun _ K11=>?_
   iterate 2 refine za0 ?_
   refine s_n K11 ?_
   have hkl:k< l.length:=by omega
   obtain⟨x,hx⟩:=hasAt hkl;refine srR z43 fun _ K13=>?_
   iterate 4 refine za0 ?_
   refine zo2 ?_;refine exA (.agg (.cells (itmL x))) (z31 itmR (fun _ _=>trivial) (i:=k) (by first|rfl|omega) rfl hx) ?_;refine zo2 ?_;refine aI (z01.noclo (itmR.dat x)) ?_;refine⟨x,m,rfl,?_⟩;refine DBc_3 ?_
   first|refine exI ?_|(intro cap5 hcap5;refine exI ?_)
   refine s_n K13 ?_;refine z06 (b:=_) rfl (fun h_t16=>?_) (fun h_t16=>?_)
   ·try simp only[dQ,reduceIte]at h_t16
    refine srR z43 fun _ K15=>?_
    iterate 2 refine za0 ?_
    refine s_n K15 ?_;refine z0b (z02 z43 (fun _ _ h=>h) (by first|rfl|assumption) [.tmp 4] rfl ?_);refine rtD ?_
    show SV.c (.int .i64 _)=_
    rw[z9d hk.2 hx (by simpa using h_t16)]
   ·try simp only[dQ,reduceIte]at h_t16
    refine z0g ?_;refine z08 ?_;apply K9
    have hnx:(fun x=> !itmOK m x) x=false:=by simpa using h_t16
    have hk2:=z34 hk.2 hx hnx
    refine z04 z43 fun _ K16=>?_
    iterate 2 refine za0 ?_
    refine s_n K16 ?_;refine dnS [] id (k+1) ⟨⟨by omega,hk2⟩,by omega⟩ [] uBc_0 uBc_0 uBc_0 uBc_0
  ·try simp only[dQ,reduceIte]at h_t9
   refine z0y ?_;refine z03 ?_;refine z03 ?_;refine z0s ?_;apply K3;refine srR z43 fun _ K18=>?_;refine za0 ?_;refine s_n K18 ?_;refine z0b (z02 z43 (fun _ _ h=>h) (by first|rfl|assumption) [.tmp 4] rfl ?_);refine rtD ?_
   show SV.c (.int .i64 _)=_
   rw[z7c hk.2 (by omega)]

noncomputable def dhasI:Ctx:={ P:=Tryd.prog,ty:=ty,glob:=gl,fs:=[(94,.flat hasIIS)] }
theorem zds:dhasI.OK:=⟨tyOK,⟨⟨z07 Tryd.func94 kQf rfl,hasII_ok⟩,trivial⟩,mixed⟩
@[simp] theorem dhasI_ty:dhasI.ty=ty:=rfl

def hasICS:QSpec:=fun vs K=>∃ (l:List Itm) (m:Nat),vs=[.c (.ds l.length (.cells (z0o itmL l))),.c (.clo 68 [.dp (.ints .i64 [(m:Int)]) 0])]∧(l.length≤9223372036854775807∧True)∧K (.c (.bool (l.any (fun x=> !itmOK m x))))
theorem hasIC_ok:z11 Tryd.prog gl 67 hasICS:=by
 refine z0u (Γ:=dhasI) (N:=9) Tryd.func67 rfl rfl fun vs K h=>?_;obtain⟨l,m,rfl,hl,h⟩:=h;refine⟨_,h,rfl,by simp,fun w I=>?_⟩;refine srR zds fun _ K2=>?_;refine zng ?_;refine s_n K2 ?_
 have hil:=zcw (fun x=> !itmOK m x) l
 refine srR zds fun _ K4=>?_
 iterate 2 refine zng ?_
 refine sXEUf_4 ?_;refine⟨l,m,rfl,hl,?_⟩;refine DUf_0 ?_
 first|refine exI ?_|(intro cap2 hcap2;refine exI ?_)
 iterate 2 refine zng ?_
 refine s_n K4 ?_;refine z0b (z02 zds (fun _ _ h=>h) (by first|rfl|assumption) [.tmp 4] rfl ?_);refine rtD ?_
 show SV.c (.bool _)=_
 rw[zcv]

noncomputable def c1:Ctx:={ P:=Tryd.prog,ty:=ty,glob:=gl,fs:=[(67,.flat hasICS)] }
theorem c1_ok:c1.OK:=⟨tyOK,⟨⟨z07 Tryd.func67 kQf rfl,hasIC_ok⟩,trivial⟩,mixed⟩
@[simp] theorem c1_ty:c1.ty=ty:=rfl

def zhi:QSpec:=fun vs K=>∃ (t:List Itm) (m:Nat),vs=[.c (itmsX t),.c (.int .i64 (m:Int))]∧t.length≤9223372036854775807∧K (.c (.bool (z2e t m)))
theorem zfq:z11 Tryd.prog gl 33 zhi:=by
 refine z0u (Γ:=c1) (N:=14) Tryd.func33 rfl rfl fun vs K h=>?_;obtain⟨t,m,rfl,hl,h⟩:=h;refine⟨_,h,rfl,by simp,fun w I=>?_⟩;refine srR c1_ok fun _ K2=>?_
 iterate 2 refine zng ?_
 refine s_n K2 ?_;refine srR c1_ok fun _ K4=>?_
 iterate 3 refine zng ?_
 refine sXEUf_4 ?_;refine exB (fun hb3=>?_) (fun hb3=>?_)
 ·try simp only[dQ,reduceIte]at hb3
  iterate 2 refine z4n ?_
  refine zdq ?_;refine⟨t,m,rfl,⟨hl,trivial⟩,?_⟩;refine DUf_0 ?_
  first|refine exI ?_|(intro cap6 hcap6;refine exI ?_)
  refine z4n ?_
  iterate 2 refine zng ?_
  refine s_n K4 ?_;refine z0b (z02 c1_ok (fun _ _ h=>h) (by first|rfl|assumption) [.tmp 4] rfl ?_);refine rtD ?_
  show SV.c (.bool _)=SV.c (.bool _)
  congr 2
  first|(rw[z2e,decide_eq_true (show t.length≤24 by omega)];simp[List.any_eq_not_all_not];done)|(rw[z2e,decide_eq_false (show ¬ t.length≤24 by omega)];rfl)
 ·try simp only[dQ,reduceIte]at hb3
  iterate 4 refine sN ?_
  iterate 2 refine zng ?_
  refine s_n K4 ?_;refine z0b (z02 c1_ok (fun _ _ h=>h) (by first|rfl|assumption) [.tmp 4] rfl ?_);refine rtD ?_
  show SV.c (.bool _)=SV.c (.bool _)
  congr 2
  first|(rw[z2e,decide_eq_true (show t.length≤24 by omega)];simp[List.any_eq_not_all_not];done)|(rw[z2e,decide_eq_false (show ¬ t.length≤24 by omega)];rfl)


end Go.Proofs.YtegdcifghaldoaaDoor

namespace Go.Proofs.YtegdcifghaldoaaDoor
set_option linter.all false
open Go.Ab Go.RowKit

section
variable {a b:Prop}
theorem qBd1(h:a:=by first|exact vcA|(simp<;>omega)|exact Nat.le_of_ble_eq_true rfl|exact vcB):a:=h
theorem DBd_3(kZ:b)(h:HidB b→a:=by intro kZ;(repeat first|refine aI qBd1 ?_|refine z0d qBd1 ?_|refine z09 qBd1 ?_|refine z0p qBd1 ?_|refine z0e ?_);exact kZ.out):a:=h ⟨kZ⟩
theorem sXBd_4(kZ:b)(h:HidB b→a:=by intro kZ;refine sX ?_;refine DBd_3 ?_;refine exI ?_;exact kZ.out):a:=h ⟨kZ⟩
end
open Go.Aut
def z9e:QSpec:=fun vs K=>∃ v lo hi:Int,vs=[.c (.int .i64 v),.c (.int .i64 lo),.c (.int .i64 hi)]∧K (.c (.bool (inI lo hi v)))
theorem z72:z11 Tryd.prog gl 52 z9e:=by
 refine z0u (Γ:=g0) (N:=15) Tryd.func52 rfl rfl fun vs K h=>?_;obtain⟨v,lo,hi,rfl,h⟩:=h;refine⟨_,h,rfl,by simp,fun w I=>?_⟩;refine srR g0_ok fun _ K2=>?_;refine zng ?_;refine s_n K2 ?_;refine srR g0_ok fun _ K4=>?_
 iterate 3 refine zng ?_
 refine sXEUf_4 ?_;refine exB (fun hb3=>?_) (fun hb3=>?_)
 ·try simp only[dQ,reduceIte]at hb3
  iterate 3 refine z4n ?_
  iterate 2 refine zng ?_
  refine s_n K4 ?_;refine z0b (z02 g0_ok (fun _ _ h=>h) (by first|rfl|assumption) [.tmp 6] rfl ?_);refine rtD ?_
  show SV.c (.bool _)=SV.c (.bool _)
  congr 2
  try simp only[if_true,if_false,reduceIte,Bool.false_eq_true]
  first|rfl|(unfold inI;rw[decide_eq_decide];omega)|(unfold inI;symm;rw[decide_eq_false_iff_not];omega)|(unfold inI;symm;rw[decide_eq_true_eq];omega)|(simp[inI, *];done)|(simp[inI, *]<;>omega)
 ·try simp only[dQ,reduceIte]at hb3
  iterate 3 refine sN ?_
  iterate 2 refine zng ?_
  refine s_n K4 ?_;refine z0b (z02 g0_ok (fun _ _ h=>h) (by first|rfl|assumption) [.tmp 6] rfl ?_);refine rtD ?_
  show SV.c (.bool _)=SV.c (.bool _)
  congr 2
  try simp only[if_true,if_false,reduceIte,Bool.false_eq_true]
  first|rfl|(unfold inI;rw[decide_eq_decide];omega)|(unfold inI;symm;rw[decide_eq_false_iff_not];omega)|(unfold inI;symm;rw[decide_eq_true_eq];omega)|(simp[inI, *];done)|(simp[inI, *]<;>omega)

noncomputable def cw:Ctx:={ P:=Tryd.prog,ty:=ty,glob:=gl,fs:=[(52,.flat z9e)] }
theorem cw_ok:cw.OK:=⟨tyOK,⟨⟨z07 Tryd.func52 kQf rfl,z72⟩,trivial⟩,mixed⟩
@[simp] theorem cw_ty:cw.ty=ty:=rfl

def va1S:QSpec:=fun vs K=>∃ v:Int,vs=[.c (.int .i64 v)]∧K (.c (.bool (!z6k v)))
theorem va1_ok:z11 Tryd.prog gl 83 va1S:=by
 refine z0u (Γ:=cw) (N:=6) Tryd.func83 rfl rfl fun vs K h=>?_;obtain⟨v,rfl,h⟩:=h;refine⟨_,h,rfl,by simp,fun w I=>?_⟩;refine srR cw_ok fun _ K2=>?_;refine zng ?_;refine s_n K2 ?_;refine srR cw_ok fun _ K4=>?_;refine zng ?_;refine sXEUf_4 ?_;refine⟨v,-1000,1000,rfl,?_⟩;refine DUf_0 ?_
 first|refine exI ?_|(intro cap1 hcap1;refine exI ?_)
 iterate 2 refine zng ?_
 refine s_n K4 ?_;refine z0b (z02 cw_ok (fun _ _ h=>h) (by first|rfl|assumption) [.tmp 2] rfl ?_);refine rtD ?_
 rfl

def ho1S:QSpec:=fun vs K=>∃ v:Int,vs=[.c (.int .i64 v)]∧K (.c (.bool (!inI 0 64 v)))
theorem ho1_ok:z11 Tryd.prog gl 51 ho1S:=by
 refine z0u (Γ:=cw) (N:=6) Tryd.func51 rfl rfl fun vs K h=>?_;obtain⟨v,rfl,h⟩:=h;refine⟨_,h,rfl,by simp,fun w I=>?_⟩;refine srR cw_ok fun _ K2=>?_;refine zng ?_;refine s_n K2 ?_;refine srR cw_ok fun _ K4=>?_;refine zng ?_;refine sXEUf_4 ?_;refine⟨v,0,64,rfl,?_⟩;refine DUf_0 ?_
 first|refine exI ?_|(intro cap1 hcap1;refine exI ?_)
 iterate 2 refine zng ?_
 refine s_n K4 ?_;refine z0b (z02 cw_ok (fun _ _ h=>h) (by first|rfl|assumption) [.tmp 2] rfl ?_);refine rtD ?_
 rfl

noncomputable def chasA:Ctx:={ P:=Tryd.prog,ty:=ty,glob:=gl,fs:=[(83,.flat va1S)] }
theorem z44:chasA.OK:=⟨tyOK,⟨⟨z07 Tryd.func83 kQf rfl,va1_ok⟩,trivial⟩,mixed⟩
@[simp] theorem chasA_ty:chasA.ty=ty:=rfl

def hasAIS:QSpec:=fun vs K=>∃ (l:List Int),vs=[.c (.ds l.length (.ints .i64 l)),.c (.clo 83 [])]∧(l.length≤9223372036854775807∧True)∧K (.c (.int .i64 (idxI (fun x=> !z6k x) l)))
theorem hasAI_ok:z11 Tryd.prog gl 84 hasAIS:=by
 refine z0u (Γ:=chasA) (N:=19) Tryd.func84 rfl rfl fun vs K h=>?_;obtain⟨l,rfl,⟨hl,hh⟩,h⟩:=h;refine⟨_,h,rfl,by simp,fun w I=>?_⟩;refine srR z44 fun _ K2=>?_;refine zng ?_;refine s_n K2 ?_;refine seq_k fun _ K3=>?_;refine srR z44 fun _ K5=>?_
 iterate 3 refine zng ?_
 refine s_n K5 ?_;refine z0a ?_;refine z13 (α:=Nat) (fun k=>[(0,.c (.ds l.length (.ints .i64 l))),(1,.c (.clo 83 [])),(7,.c (.int .i64 (l.length:Nat))),(8,.c (.int .i64 (k:Nat)))]) (fun k=>[]) 0 (fun k=>k≤l.length∧(l.take k).any (fun x=> !z6k x)=false) (fun k=>l.length - k) ?_ ?_
 ·refine dnS [] id 0 ⟨Nat.zero_le _,by simp⟩ [] uBc_0 uBc_0 uBc_0 uBc_0
 ·intro k hk
  refine srR z44 fun _ K7=>?_;refine zng ?_;refine s_n K7 ?_;refine seq_k fun _ K8=>?_;refine z06 (b:=_) rfl (fun h_t9=>?_) (fun h_t9=>?_)
  ·try simp only[dQ,reduceIte]at h_t9
   refine z0g ?_;apply K8;refine seq_k fun _ K9=>?_;refine z0a ?_;refine srR z44 fun _ K11=>?_
   iterate 2 refine zng ?_
   refine s_n K11 ?_
   have hkl:k< l.length:=by omega
   obtain⟨x,hx⟩:=hasAt hkl;refine srR z44 fun _ K13=>?_
   iterate 4 refine zng ?_
   refine sXEUf_4 ?_;refine exA (.c (.int .i64 x)) (as_i (by rw[List.getD_eq_getElem?_getD,show((k:Int).toNat*1)=k by omega,hx];rfl)) ?_;refine sXEUf_4 ?_;refine⟨x,rfl,?_⟩;refine DUf_0 ?_
   first|refine exI ?_|(intro cap5 hcap5;refine exI ?_)
   refine s_n K13 ?_;refine z06 (b:=_) rfl (fun h_t16=>?_) (fun h_t16=>?_)
   ·try simp only[dQ,reduceIte]at h_t16
    refine srR z44 fun _ K15=>?_
    iterate 2 refine zng ?_
    refine s_n K15 ?_;refine z0b (z02 z44 (fun _ _ h=>h) (by first|rfl|assumption) [.tmp 4] rfl ?_);refine rtD ?_
    show SV.c (.int .i64 _)=_
    rw[z9d hk.2 hx (by simpa using h_t16)]
   ·try simp only[dQ,reduceIte]at h_t16
    refine z0g ?_;refine z08 ?_;apply K9
    have hnx:(fun x=> !z6k x) x=false:=by simpa using h_t16
    have hk2:=z34 hk.2 hx hnx
    refine z04 z44 fun _ K16=>?_
    iterate 2 refine zng ?_
    refine s_n K16 ?_;refine dnS [] id (k+1) ⟨⟨by omega,hk2⟩,by omega⟩ [] uBc_0 uBc_0 uBc_0 uBc_0
  ·try simp only[dQ,reduceIte]at h_t9
   refine z0y ?_;refine z03 ?_;refine z03 ?_;refine z0s ?_;apply K3;refine srR z44 fun _ K18=>?_;refine zng ?_;refine s_n K18 ?_;refine z0b (z02 z44 (fun _ _ h=>h) (by first|rfl|assumption) [.tmp 4] rfl ?_);refine rtD ?_
   show SV.c (.int .i64 _)=_
   rw[z7c hk.2 (by omega)]

noncomputable def dhasA:Ctx:={ P:=Tryd.prog,ty:=ty,glob:=gl,fs:=[(84,.flat hasAIS)] }
theorem zdt:dhasA.OK:=⟨tyOK,⟨⟨z07 Tryd.func84 kQf rfl,hasAI_ok⟩,trivial⟩,mixed⟩
@[simp] theorem dhasA_ty:dhasA.ty=ty:=rfl

def hasACS:QSpec:=fun vs K=>∃ (l:List Int),vs=[.c (.ds l.length (.ints .i64 l)),.c (.clo 83 [])]∧(l.length≤9223372036854775807∧True)∧K (.c (.bool (l.any (fun x=> !z6k x))))
theorem hasAC_ok:z11 Tryd.prog gl 50 hasACS:=by
 refine z0u (Γ:=dhasA) (N:=9) Tryd.func50 rfl rfl fun vs K h=>?_;obtain⟨l,rfl,hl,h⟩:=h;refine⟨_,h,rfl,by simp,fun w I=>?_⟩;refine srR zdt fun _ K2=>?_;refine zng ?_;refine s_n K2 ?_
 have hil:=zcw (fun x=> !z6k x) l
 refine srR zdt fun _ K4=>?_
 iterate 2 refine zng ?_
 refine sXEUf_4 ?_;refine⟨l,rfl,hl,?_⟩;refine DUf_0 ?_
 first|refine exI ?_|(intro cap2 hcap2;refine exI ?_)
 iterate 2 refine zng ?_
 refine s_n K4 ?_;refine z0b (z02 zdt (fun _ _ h=>h) (by first|rfl|assumption) [.tmp 4] rfl ?_);refine rtD ?_
 show SV.c (.bool _)=_
 rw[zcv]

noncomputable def chasH:Ctx:={ P:=Tryd.prog,ty:=ty,glob:=gl,fs:=[(51,.flat ho1S)] }
theorem z45:chasH.OK:=⟨tyOK,⟨⟨z07 Tryd.func51 kQf rfl,ho1_ok⟩,trivial⟩,mixed⟩
@[simp] theorem chasH_ty:chasH.ty=ty:=rfl

def hasHIS:QSpec:=fun vs K=>∃ (l:List Int),vs=[.c (.ds l.length (.ints .i64 l)),.c (.clo 51 [])]∧(l.length≤9223372036854775807∧True)∧K (.c (.int .i64 (idxI (fun x=> !inI 0 64 x) l)))
theorem hasHI_ok:z11 Tryd.prog gl 84 hasHIS:=by
 refine z0u (Γ:=chasH) (N:=19) Tryd.func84 rfl rfl fun vs K h=>?_;obtain⟨l,rfl,⟨hl,hh⟩,h⟩:=h;refine⟨_,h,rfl,by simp,fun w I=>?_⟩;refine srR z45 fun _ K2=>?_;refine zng ?_;refine s_n K2 ?_;refine seq_k fun _ K3=>?_;refine srR z45 fun _ K5=>?_
 iterate 3 refine zng ?_
 refine s_n K5 ?_;refine z0a ?_;refine z13 (α:=Nat) (fun k=>[(0,.c (.ds l.length (.ints .i64 l))),(1,.c (.clo 51 [])),(7,.c (.int .i64 (l.length:Nat))),(8,.c (.int .i64 (k:Nat)))]) (fun k=>[]) 0 (fun k=>k≤l.length∧(l.take k).any (fun x=> !inI 0 64 x)=false) (fun k=>l.length - k) ?_ ?_
 ·refine dnS [] id 0 ⟨Nat.zero_le _,by simp⟩ [] uBc_0 uBc_0 uBc_0 uBc_0
 ·intro k hk
  refine srR z45 fun _ K7=>?_;refine zng ?_;refine s_n K7 ?_;refine seq_k fun _ K8=>?_;refine z06 (b:=_) rfl (fun h_t9=>?_) (fun h_t9=>?_)
  ·try simp only[dQ,reduceIte]at h_t9
   refine z0g ?_;apply K8;refine seq_k fun _ K9=>?_;refine z0a ?_;refine srR z45 fun _ K11=>?_
   iterate 2 refine zng ?_
   refine s_n K11 ?_
   have hkl:k< l.length:=by omega
   obtain⟨x,hx⟩:=hasAt hkl;refine srR z45 fun _ K13=>?_
   iterate 4 refine zng ?_
   refine sXEUf_4 ?_;refine exA (.c (.int .i64 x)) (as_i (by rw[List.getD_eq_getElem?_getD,show((k:Int).toNat*1)=k by omega,hx];rfl)) ?_;refine sXEUf_4 ?_;refine⟨x,rfl,?_⟩;refine DUf_0 ?_
   first|refine exI ?_|(intro cap5 hcap5;refine exI ?_)
   refine s_n K13 ?_;refine z06 (b:=_) rfl (fun h_t16=>?_) (fun h_t16=>?_)
   ·try simp only[dQ,reduceIte]at h_t16
    refine srR z45 fun _ K15=>?_
    iterate 2 refine zng ?_
    refine s_n K15 ?_;refine z0b (z02 z45 (fun _ _ h=>h) (by first|rfl|assumption) [.tmp 4] rfl ?_);refine rtD ?_
    show SV.c (.int .i64 _)=_
    rw[z9d hk.2 hx (by simpa using h_t16)]
   ·try simp only[dQ,reduceIte]at h_t16
    refine z0g ?_;refine z08 ?_;apply K9
    have hnx:(fun x=> !inI 0 64 x) x=false:=by simpa using h_t16
    have hk2:=z34 hk.2 hx hnx
    refine z04 z45 fun _ K16=>?_
    iterate 2 refine zng ?_
    refine s_n K16 ?_;refine dnS [] id (k+1) ⟨⟨by omega,hk2⟩,by omega⟩ [] uBc_0 uBc_0 uBc_0 uBc_0
  ·try simp only[dQ,reduceIte]at h_t9
   refine z0y ?_;refine z03 ?_;refine z03 ?_;refine z0s ?_;apply K3;refine srR z45 fun _ K18=>?_;refine zng ?_;refine s_n K18 ?_;refine z0b (z02 z45 (fun _ _ h=>h) (by first|rfl|assumption) [.tmp 4] rfl ?_);refine rtD ?_
   show SV.c (.int .i64 _)=_
   rw[z7c hk.2 (by omega)]

noncomputable def dhasH:Ctx:={ P:=Tryd.prog,ty:=ty,glob:=gl,fs:=[(84,.flat hasHIS)] }
theorem zdu:dhasH.OK:=⟨tyOK,⟨⟨z07 Tryd.func84 kQf rfl,hasHI_ok⟩,trivial⟩,mixed⟩
@[simp] theorem dhasH_ty:dhasH.ty=ty:=rfl

def hasHCS:QSpec:=fun vs K=>∃ (l:List Int),vs=[.c (.ds l.length (.ints .i64 l)),.c (.clo 51 [])]∧(l.length≤9223372036854775807∧True)∧K (.c (.bool (l.any (fun x=> !inI 0 64 x))))
theorem hasHC_ok:z11 Tryd.prog gl 50 hasHCS:=by
 refine z0u (Γ:=dhasH) (N:=9) Tryd.func50 rfl rfl fun vs K h=>?_;obtain⟨l,rfl,hl,h⟩:=h;refine⟨_,h,rfl,by simp,fun w I=>?_⟩;refine srR zdu fun _ K2=>?_;refine zng ?_;refine s_n K2 ?_
 have hil:=zcw (fun x=> !inI 0 64 x) l
 refine srR zdu fun _ K4=>?_
 iterate 2 refine zng ?_
 refine sXEUf_4 ?_;refine⟨l,rfl,hl,?_⟩;refine DUf_0 ?_
 first|refine exI ?_|(intro cap2 hcap2;refine exI ?_)
 iterate 2 refine zng ?_
 refine s_n K4 ?_;refine z0b (z02 zdu (fun _ _ h=>h) (by first|rfl|assumption) [.tmp 4] rfl ?_);refine rtD ?_
 show SV.c (.bool _)=_
 rw[zcv]

def zeroDS:QSpec:=fun vs K=>∃ d:Dfa,vs=[dfaV d]∧(d.nc≤1152921504606846976∧d.next.length≤1152921504606846976∧d.acc.length≤1152921504606846976)∧K (.c (.bool (zeroD d)))
theorem zeroD_ok:z11 Tryd.prog gl 80 zeroDS:=by
 refine z0u (Γ:=g0) (N:=15) Tryd.func80 rfl rfl fun vs K h=>?_;obtain⟨d,rfl,⟨h1,h2,h3⟩,h⟩:=h;refine⟨_,h,rfl,by simp,fun w I=>?_⟩;refine srR g0_ok fun _ K2=>?_
 iterate 2 refine zng ?_
 refine s_n K2 ?_;refine srR g0_ok fun _ K4=>?_
 iterate 13 refine zng ?_
 refine s_n K4 ?_;refine z0b (z02 g0_ok (fun _ _ h=>h) (by first|rfl|assumption) [.tmp 2] rfl ?_);refine rtD ?_
 show SV.c (.bool _)=SV.c (.bool _)
 congr 2
 try simp only[if_true,if_false,reduceIte,Bool.false_eq_true]
 first|rfl|(unfold zeroD;rw[decide_eq_decide];omega)|(unfold zeroD;symm;rw[decide_eq_false_iff_not];omega)|(unfold zeroD;symm;rw[decide_eq_true_eq];omega)|(simp[zeroD, *];done)|(simp[zeroD, *]<;>omega)

def zeroRS:QSpec:=fun vs K=>∃ (ra:List Int) (rc:Int),vs=[.agg (.cells [.ds ra.length (.ints .i64 ra),.int .i64 rc])]∧ra.length≤9223372036854775807∧K (.c (.bool (zeroR ra rc)))
theorem zeroR_ok:z11 Tryd.prog gl 81 zeroRS:=by
 refine z0u (Γ:=g0) (N:=12) Tryd.func81 rfl rfl fun vs K h=>?_;obtain⟨ra,rc,rfl,h1,h⟩:=h;refine⟨_,h,rfl,by simp,fun w I=>?_⟩;refine srR g0_ok fun _ K2=>?_
 iterate 2 refine zng ?_
 refine s_n K2 ?_;refine srR g0_ok fun _ K4=>?_;refine zng ?_;refine sXEUf_4 ?_;refine exA (.c (.ds ra.length (.ints .i64 ra))) (as_eq rfl) ?_
 iterate 2 refine zng ?_
 refine sXEUf_4 ?_;refine exB (fun hb4=>?_) (fun hb4=>?_)
 ·try simp only[dQ,reduceIte]at hb4
  refine z4n ?_;refine zdq ?_;refine exA (.c (.int .i64 rc)) (as_eq rfl) ?_;refine z4n ?_
  iterate 2 refine zng ?_
  refine s_n K4 ?_;refine z0b (z02 g0_ok (fun _ _ h=>h) (by first|rfl|assumption) [.tmp 2] rfl ?_);refine rtD ?_
  show SV.c (.bool _)=SV.c (.bool _)
  congr 2
  try simp only[if_true,if_false,reduceIte,Bool.false_eq_true]
  first|rfl|(unfold zeroR;rw[decide_eq_decide];omega)|(unfold zeroR;symm;rw[decide_eq_false_iff_not];omega)|(unfold zeroR;symm;rw[decide_eq_true_eq];omega)|(simp[zeroR, *];done)|(simp[zeroR, *]<;>omega)|(unfold zeroR;rw[Bool.eq_iff_iff];simp only[decide_eq_true_eq];constructor<;>intro hq<;>first|exact⟨by omega,hq⟩|exact hq.2)
 ·try simp only[dQ,reduceIte]at hb4
  iterate 3 refine sN ?_
  iterate 2 refine zng ?_
  refine s_n K4 ?_;refine z0b (z02 g0_ok (fun _ _ h=>h) (by first|rfl|assumption) [.tmp 2] rfl ?_);refine rtD ?_
  show SV.c (.bool _)=SV.c (.bool _)
  congr 2
  try simp only[if_true,if_false,reduceIte,Bool.false_eq_true]
  first|rfl|(unfold zeroR;rw[decide_eq_decide];omega)|(unfold zeroR;symm;rw[decide_eq_false_iff_not];omega)|(unfold zeroR;symm;rw[decide_eq_true_eq];omega)|(simp[zeroR, *];done)|(simp[zeroR, *]<;>omega)|(unfold zeroR;rw[Bool.eq_iff_iff];simp only[decide_eq_true_eq];constructor<;>intro hq<;>first|exact⟨by omega,hq⟩|exact hq.2)

def zeroTS:QSpec:=fun vs K=>∃ t:Tra,vs=[traV t]∧(t.nc≤1152921504606846976∧t.moves.length≤1152921504606846976∧t.fin.length≤1152921504606846976∧t.ends.length≤1152921504606846976)∧K (.c (.bool (zeroT t)))
theorem zeroT_ok:z11 Tryd.prog gl 82 zeroTS:=by
 refine z0u (Γ:=g0) (N:=19) Tryd.func82 rfl rfl fun vs K h=>?_;obtain⟨t,rfl,⟨h1,h2,h3,h4⟩,h⟩:=h;refine⟨_,h,rfl,by simp,fun w I=>?_⟩;refine srR g0_ok fun _ K2=>?_
 iterate 2 refine sXBd_4 ?_
 refine s_n K2 ?_;refine srR g0_ok fun _ K4=>?_
 iterate 17 refine sXBd_4 ?_
 refine s_n K4 ?_;refine z0b (z02 g0_ok (fun _ _ h=>h) (by first|rfl|assumption) [.tmp 2] rfl ?_);refine rtD ?_
 show SV.c (.bool _)=SV.c (.bool _)
 congr 2
 try simp only[if_true,if_false,reduceIte,Bool.false_eq_true]
 first|rfl|(unfold zeroT;rw[decide_eq_decide];omega)|(unfold zeroT;symm;rw[decide_eq_false_iff_not];omega)|(unfold zeroT;symm;rw[decide_eq_true_eq];omega)|(simp[zeroT, *];done)|(simp[zeroT, *]<;>omega)

def pop8(a:UInt64):UInt64:=a+a >>> 8
def pop16(a:UInt64):UInt64:=a+a >>> 16
theorem wsh(x:UInt64){i:Int}{n:Nat}(hn:i.toNat=n)(h:n< 64):(if false=true then shl64 x i.toNat else shr64 x i.toNat)=x >>> n.toUInt64:=by
  rw[if_neg (by decide),hn,shr64,if_pos h]
theorem pop_and{y:UInt64}{k:Nat}(h:y.toNat%128=k):((((y.toNat:Int).toNat &&& (127:Int).toNat:Nat)):Int)=(k:Int):=by
  rw[Int.toNat_natCast,show(127:Int).toNat=2 ^ 7 - 1 from rfl,Nat.and_two_pow_sub_one_eq_mod];exact congrArg _ h
def popS:QSpec:=fun vs K=>∃ x:UInt64,vs=[.c (.u64 x)]∧K (.c (.int .i64 ((popN x.toNat:Nat):Int)))
theorem pop_ok:z11 Tryd.prog gl 112 popS:=by
 refine z0u (Γ:=g0) (N:=35) Tryd.func112 rfl rfl fun vs K h=>?_;obtain⟨x,rfl,h⟩:=h;refine⟨_,h,rfl,by simp,fun w I=>?_⟩;refine srR g0_ok fun _ K2=>?_;refine zng ?_;refine s_n K2 ?_;refine srR g0_ok fun _ K4=>?_
 iterate 6 refine zng ?_
 refine sXEUf_4 ?_;refine exA (.c (.u64 (pop1 x))) (as_eq (congrArg (fun v=>SV.c (Cell.u64 v)) (by rw[wsh _ (n:=1) (by decide) (by decide)];rfl))) ?_;refine s_n K4 ?_;refine srR g0_ok fun _ K6=>?_
 iterate 6 refine zng ?_
 refine sXEUf_4 ?_;refine exA (.c (.u64 (pop2 (pop1 x)))) (as_eq (congrArg (fun v=>SV.c (Cell.u64 v)) (by rw[wsh _ (n:=2) (by decide) (by decide)];rfl))) ?_;refine s_n K6 ?_;refine srR g0_ok fun _ K8=>?_
 iterate 5 refine zng ?_
 refine sXEUf_4 ?_;refine exA (.c (.u64 (pop4 (pop2 (pop1 x))))) (as_eq (congrArg (fun v=>SV.c (Cell.u64 v)) (by rw[wsh _ (n:=4) (by decide) (by decide)];rfl))) ?_;refine s_n K8 ?_;refine srR g0_ok fun _ K10=>?_
 iterate 4 refine zng ?_
 refine sXEUf_4 ?_;refine exA (.c (.u64 (pop8 (pop4 (pop2 (pop1 x)))))) (as_eq (congrArg (fun v=>SV.c (Cell.u64 v)) (by rw[wsh _ (n:=8) (by decide) (by decide)];rfl))) ?_;refine s_n K10 ?_;refine srR g0_ok fun _ K12=>?_
 iterate 4 refine zng ?_
 refine sXEUf_4 ?_;refine exA (.c (.u64 (pop16 (pop8 (pop4 (pop2 (pop1 x))))))) (as_eq (congrArg (fun v=>SV.c (Cell.u64 v)) (by rw[wsh _ (n:=16) (by decide) (by decide)];rfl))) ?_;refine s_n K12 ?_;refine srR g0_ok fun _ K14=>?_
 iterate 4 refine zng ?_
 refine sXEUf_4 ?_;refine exA (.c (.u64 (popW x))) (as_eq (congrArg (fun v=>SV.c (Cell.u64 v)) (by rw[wsh _ (n:=32) (by decide) (by decide)];rfl))) ?_;refine s_n K14 ?_
 have hpm:=pop_max x
 generalize hy:popW x=y at hpm
 have hp:y.toNat%128=popN x.toNat:=by rw[←hy];exact pop_nat x
 refine srR g0_ok fun _ K16=>?_
 iterate 2 refine zng ?_
 refine sXEUf_4 ?_;refine exA (.c (.int .i64 ((popN x.toNat:Nat):Int))) (as_i (pop_and hp)) ?_;refine zng ?_;refine s_n K16 ?_;refine z0b (z02 g0_ok (fun _ _ h=>h) (by first|rfl|assumption) [.tmp 2] rfl ?_);refine rtD ?_
 rfl


end Go.Proofs.YtegdcifghaldoaaDoor

namespace Go.Proofs.YtegdcifghaldoaaDoor
set_option linter.all false
open Go.Ab Go.RowKit

section
variable {a b:Prop}
theorem qBe3(h:a:=by first|exact vcA|(simp[hw1,hcl]<;>omega)|(show(clsAt cls k).length=4;exact hcl)|exact hcl|exact hsn|exact vcB):a:=h
theorem qBe4(h:a:=by first|exact vcA|(simp[hw1,hcl]<;>omega)|exact hcl|exact hsn|exact vcB):a:=h
theorem uBe_0(h:a:=by
    repeat' (first|exact z01.to (z0i _)|exact z01.low (z0i _)|exact z01.to (z0k _)|exact z01.low (z0k _)|exact z01.to (z0l _)|exact z01.low (z0l _)|exact z01.to (z0c _)|exact z01.low (z0c _)|exact z01.to (z0m _)|exact z01.low (z0m _)|exact z01.to (z0f _)|exact z01.low (z0f _)|exact z01.to (z0h _ _)|exact z01.low (z0h _ _)|exact z01.to (z00 itmR _)|exact z01.low (z00 itmR _)|exact z01.to (z00 movR _)|exact z01.low (z00 movR _)|exact z01.to (z00 pceR _)|exact z01.low (z00 pceR _)|exact z01.to (z00 fndR _)|exact z01.low (z00 fndR _)|exact z01.to (z00 atmR _)|exact z01.low (z00 atmR _)|exact z01.to (z00 litR _)|exact z01.low (z00 litR _)|exact z01.to (z00 mdlR _)|exact z01.low (z00 mdlR _)|exact z0v (z0j z0r z05)|exact z0q (z0j z0r z05)|exact z0v z05|exact z0q z05|exact trivial|refine aI ?_ ?_|exact cC0|refine low_cons' ?_ ?_|exact cC1|fail)
    all_goals first|omega|(show(_:Int)=((sizeK c (_+1):Nat):Int);rw[z9f (by omega)];omega)|(show((0:Int))=((sizeK c 0:Nat):Int);rfl)|(show(_:Int)=((sizeC c:Nat):Int);rw[←zfs hc];congr;omega)|(simp[-List.reduceReplicate];done)|(simp[-List.reduceReplicate]<;>omega)|skip):a:=h
theorem uBe_1(h:a:=by
    repeat' (first|exact z01.to (z0i _)|exact z01.low (z0i _)|exact z01.to (z0k _)|exact z01.low (z0k _)|exact z01.to (z0l _)|exact z01.low (z0l _)|exact z01.to (z0c _)|exact z01.low (z0c _)|exact z01.to (z0m _)|exact z01.low (z0m _)|exact z01.to (z0f _)|exact z01.low (z0f _)|exact z01.to (z0h _ _)|exact z01.low (z0h _ _)|exact z01.to (z00 itmR _)|exact z01.low (z00 itmR _)|exact z01.to (z00 movR _)|exact z01.low (z00 movR _)|exact z01.to (z00 pceR _)|exact z01.low (z00 pceR _)|exact z01.to (z00 fndR _)|exact z01.low (z00 fndR _)|exact z01.to (z00 atmR _)|exact z01.low (z00 atmR _)|exact z01.to (z00 litR _)|exact z01.low (z00 litR _)|exact z01.to (z00 mdlR _)|exact z01.low (z00 mdlR _)|exact z0v (z0j z0r z05)|exact z0q (z0j z0r z05)|exact z0v z05|exact z0q z05|exact trivial|refine aI ?_ ?_|exact cC0|refine low_cons' ?_ ?_|exact cC1|fail)
    all_goals first|omega|(show(_:List UInt64)=_;rfl)|(simp[-List.reduceReplicate];done)|(simp[-List.reduceReplicate]<;>omega)|skip):a:=h
theorem DBe_7(kZ:b)(h:HidB b→a:=by intro kZ;(repeat first|refine aI qBe3 ?_|refine z0d qBe3 ?_|refine z09 qBe3 ?_|refine z0p qBe3 ?_|refine z0e ?_);exact kZ.out):a:=h ⟨kZ⟩
theorem zja(kZ:b)(h:HidB b→a:=by intro kZ;refine sX ?_;refine DBe_7 ?_;refine exI ?_;exact kZ.out):a:=h ⟨kZ⟩
theorem zo3(kZ:b)(h:HidB b→a:=by intro kZ;refine sXT ?_;refine DBe_7 ?_;refine exI ?_;exact kZ.out):a:=h ⟨kZ⟩
theorem zjb(kZ:b)(h:HidB b→a:=by intro kZ;(repeat first|refine aI qBe4 ?_|refine z0d qBe4 ?_|refine z09 qBe4 ?_|refine z0p qBe4 ?_|refine z0e ?_);exact kZ.out):a:=h ⟨kZ⟩
theorem sXBe_11(kZ:b)(h:HidB b→a:=by intro kZ;refine sX ?_;refine zjb ?_;refine exI ?_;exact kZ.out):a:=h ⟨kZ⟩
theorem sX0Be_12(kZ:b)(h:HidB b→a:=by intro kZ;refine sX0 ?_;refine zjb ?_;refine exI ?_;exact kZ.out):a:=h ⟨kZ⟩
theorem sXEBe_14(kZ:b)(h:HidB b→a:=by intro kZ;refine sX ?_;refine DUb_3 ?_;exact kZ.out):a:=h ⟨kZ⟩
theorem zjc(kZ:b)(h:HidB b→a:=by intro kZ;refine sX ?_;refine DBe_7 ?_;exact kZ.out):a:=h ⟨kZ⟩
theorem zfr(kZ:b)(h:HidB b→a:=by intro kZ;refine sXT ?_;refine DBe_7 ?_;exact kZ.out):a:=h ⟨kZ⟩
theorem sXEBe_17(kZ:b)(h:HidB b→a:=by intro kZ;refine sX ?_;refine zjb ?_;exact kZ.out):a:=h ⟨kZ⟩
end
open Go.Aut
def sizeC(c:List UInt64):Nat:=(c.map fun x=>popN x.toNat).sum
def sizeK(c:List UInt64)(k:Nat):Nat:=((c.take k).map fun x=>popN x.toNat).sum
theorem z9f{c:List UInt64}{k:Nat}(h:k< c.length):sizeK c (k+1)=sizeK c k+popN (c.getD k 0).toNat:=by
  rw[sizeK,sizeK,List.take_add_one,at_of (d:=0) h,Option.toList_some,List.map_append,List.sum_append];simp
theorem zjd(c:List UInt64):∀ k,sizeK c k≤64*k
  |0=>by simp[sizeK]
  | k +1=>by
    have:=zjd c k
    rcases Nat.lt_or_ge k c.length with h|h
    · rw[z9f h];have:=z98 (c.getD k 0).toNat;omega
    · have h2:sizeK c (k+1)=sizeK c k:=by rw[sizeK,sizeK,List.take_of_length_le (by omega),List.take_of_length_le h]
      omega
theorem zfs{c:List UInt64}{k:Nat}(h:c.length=k):sizeK c k=sizeC c:=by rw[sizeK,List.take_of_length_le (by omega)];rfl
theorem four64:∀ {c:List UInt64},c.length=4→∃ a b d e,c=[a,b,d,e]
  |[a,b,d,e],_=>⟨a,b,d,e,rfl⟩
theorem z8o{c:List UInt64}(h:c.length=4):sizeC c=0↔c=Z4:=by
  obtain⟨a,b,d,e,rfl⟩:=four64 h
  have e1:sizeC [a,b,d,e]=popN a.toNat+popN b.toNat+popN d.toNat+popN e.toNat:=by simp[sizeC];omega
  rw[e1]
  have:= @z4c a;have:= @z4c b;have:= @z4c d;have:= @z4c e
  constructor
  · intro hz
    rw[z4c.1 (show popN a.toNat=0 by omega),z4c.1 (show popN b.toNat=0 by omega),z4c.1 (show popN d.toNat=0 by omega),z4c.1 (show popN e.toNat=0 by omega)];rfl
  · intro hz
    obtain⟨rfl,rfl,rfl,rfl⟩:a=0∧b=0∧d=0∧e=0:=by simpa [Z4,List.replicate]using hz
    decide
theorem zae(x:UInt64): ~~~x=0↔x=0xffffffffffffffff:=by
  constructor
  · intro h
    have h2: ~~~(~~~x)= ~~~(0:UInt64):=by rw[h]
    rw[UInt64.not_not]at h2;rw[h2];decide
  · intro h;subst h;decide
theorem zo4{c:List UInt64}(h:c.length=4):sizeC c=256↔notK c=Z4:=by
  obtain⟨a,b,d,e,rfl⟩:=four64 h
  have e1:sizeC [a,b,d,e]=popN a.toNat+popN b.toNat+popN d.toNat+popN e.toNat:=by simp[sizeC];omega
  have ha:=z98 a.toNat;have hb:=z98 b.toNat;have hd:=z98 d.toNat;have he:=z98 e.toNat
  have e2:notK [a,b,d,e]=[~~~a, ~~~b, ~~~d, ~~~e]:=rfl
  have e3:notK [a,b,d,e]=Z4↔ ~~~a=0∧ ~~~b=0∧ ~~~d=0∧ ~~~e=0:=by rw[e2];simp[Z4,List.replicate]
  rw[e3,e1,zae,zae,zae,zae, ←z8g, ←z8g, ←z8g, ←z8g]
  omega
theorem zje{cls:List UInt64}{k:Nat}(h:(clsAt cls k).length=4)(e:((sizeC (clsAt cls k):Nat):Int)=0):z23 cls k=false:=by
  have:=(z8o h).1 (by omega)
  simp[z23,this]
theorem zjf{cls:List UInt64}{k:Nat}(h:(andC (seenL cls k) (clsAt cls k)).length=4)(e:0< ((sizeC (andC (seenL cls k) (clsAt cls k)):Nat):Int)):z23 cls k=false:=by
  have:¬ andC (seenL cls k) (clsAt cls k)=Z4:=fun hh=>by
    have:=(z8o h).2 hh
    omega
  simp[z23,this]
theorem good_yes{cls:List UInt64}{k:Nat}(h:(clsAt cls k).length=4)(h2:(andC (seenL cls k) (clsAt cls k)).length=4)(e:¬ ((sizeC (clsAt cls k):Nat):Int)=0)(e2:¬ 0< ((sizeC (andC (seenL cls k) (clsAt cls k)):Nat):Int)):z23 cls k=true:=by
  have h1:¬ clsAt cls k=Z4:=fun hh=>e (by rw[(z8o h).2 hh];rfl)
  have h3:andC (seenL cls k) (clsAt cls k)=Z4:=(z8o h2).1 (by omega)
  simp[z23,h1,h3]
theorem zft{l:List (List UInt8)}{i j:Nat}(h:i< l.length∧j=i):(Cont.cells (lists l)).get j= .ds (l.getD i []).length (.u8s (l.getD i [])):=by rw[h.2];exact z71 h.1
theorem rcs_at{α:Type}{enc:α→List Cell}{l:List (List α)}{i j:Nat}(h:i< l.length∧j=i):(Cont.cells (recss enc l)).get j= .ds (l.getD i []).length (.cells (z0o enc (l.getD i []))):=by rw[h.2];exact zfp h.1
noncomputable def csz:Ctx:={ P:=Tryd.prog,ty:=ty,glob:=gl,fs:=[(112,.flat popS)] }
theorem z8p:csz.OK:=⟨tyOK,⟨⟨z07 Tryd.func112 kQf rfl,pop_ok⟩,trivial⟩,mixed⟩
@[simp] theorem csz_ty:csz.ty=ty:=rfl

def sizeS:QSpec:=fun vs K=>∃ c:List UInt64,vs=[.agg (.u64s c)]∧c.length=4∧K (.c (.int .i64 ((sizeC c:Nat):Int)))
theorem zo5:z11 Tryd.prog gl 106 sizeS:=by
 refine z0u (Γ:=csz) (N:=16) Tryd.func106 rfl rfl fun vs K h=>?_;obtain⟨c,rfl,hc,h⟩:=h;refine⟨_,h,rfl,by simp,fun w I=>?_⟩;refine srR z8p fun _ K2=>?_
 iterate 2 refine sXUd_1 ?_
 refine s_n K2 ?_;refine srR z8p fun _ K4=>?_;refine sXUd_1 ?_;refine s_n K4 ?_;refine seq_k fun _ K5=>?_;refine srR z8p fun _ K7=>?_
 iterate 2 refine sXUd_1 ?_
 refine s_n K7 ?_;refine z0a ?_;refine z13 (α:=Nat) (fun k=>[(6,.agg (.u64s c)),(7,.c (.int .i64 (k:Nat))),(3,.c (.int .i64 ((sizeK c k:Nat):Int)))]) (fun k=>[]) 0 (fun k=>k≤4) (fun k=>4 - k) ?_ ?_
 ·refine dnS [] id 0 (Nat.zero_le _) [] uBe_0 uBe_0 uBe_0 uBe_0
 ·intro k hk
  refine srR z8p fun _ K9=>?_;refine sXUd_1 ?_;refine s_n K9 ?_;refine seq_k fun _ K10=>?_;refine z06 (b:=_) rfl (fun h_t8=>?_) (fun h_t8=>?_)
  ·try simp only[dQ,reduceIte]at h_t8
   refine z0g ?_;apply K10;refine seq_k fun _ K11=>?_;refine z0a ?_
   have hkl:k< 4:=by omega
   refine srR z8p fun _ K13=>?_;refine zni ?_;refine exA (.c (.u64 (c.getD k 0))) (as_eq (congrArg (fun v=>SV.c (Cell.u64 v)) (congrArg (fun i=>c.getD i 0) (by omega)))) ?_;refine sXUd_1 ?_;refine s_n K13 ?_
   have hsl:=zjd c k
   have hpl:=z98 (c.getD k 0).toNat
   refine z04 z8p fun _ K14=>?_
   iterate 2 refine sXUd_1 ?_
   refine zni ?_;refine⟨c.getD k 0,rfl,?_⟩;refine DUd_0 ?_
   first|refine exI ?_|(intro cap2 hcap2;refine exI ?_)
   refine zni ?_;refine exA (.c (.int .i64 ((sizeK c (k+1):Nat):Int))) (as_i (by rw[z9f (by omega)];omega)) ?_;refine sXUd_1 ?_;refine s_n K14 ?_;refine z08 ?_;apply K11;refine z04 z8p fun _ K15=>?_
   iterate 2 refine sXUd_1 ?_
   refine s_n K15 ?_;refine dnS [] id (k+1) ⟨by omega,by omega⟩ [] uBe_0 uBe_0 uBe_0 uBe_0
  ·try simp only[dQ,reduceIte]at h_t8
   refine z0y ?_;refine z03 ?_;refine z03 ?_;refine z0s ?_;apply K5;refine srR z8p fun _ K17=>?_
   iterate 2 refine sXUd_1 ?_
   refine s_n K17 ?_;refine z0b (z02 z8p (fun _ _ h=>h) (by first|rfl|assumption) [.tmp 2] rfl ?_);refine rtD ?_
   obtain rfl:k=4:=by omega
   show SV.c (.int .i64 _)=_
   rw[zfs hc]

noncomputable def cpt:Ctx:={ P:=Tryd.prog,ty:=ty,glob:=gl,fs:=[(106,.flat sizeS),(85,.flat zmx),(86,.flat zmz)] }
theorem z5g:cpt.OK:=⟨tyOK,⟨⟨z07 Tryd.func106 kQf rfl,zo5⟩,⟨z07 Tryd.func85 kQf rfl,ziw⟩,⟨z07 Tryd.func86 kQf rfl,zix⟩,trivial⟩,mixed⟩
@[simp] theorem cpt_ty:cpt.ty=ty:=rfl

def partS:QSpec:=fun vs K=>∃ (cls:List UInt64) (nc:Nat),vs=[.c (.ds nc (.u64s cls))]∧(cls.length=nc*4∧nc≤9223372036854775807)∧K (.c (.bool (clsP cls nc)))
theorem part_ok:z11 Tryd.prog gl 89 partS:=by
 refine z0u (Γ:=cpt) (N:=29) Tryd.func89 rfl rfl fun vs K h=>?_;obtain⟨cls,nc,rfl,⟨hw1,hw2⟩,h⟩:=h;refine⟨_,h,rfl,by simp,fun w I=>?_⟩;refine srR z5g fun _ K2=>?_;refine z1c ?_;refine s_n K2 ?_;refine srR z5g fun _ K4=>?_;refine z1c ?_;refine s_n K4 ?_;refine seq_k fun _ K5=>?_;refine srR z5g fun _ K7=>?_
 iterate 3 refine z1c ?_
 refine s_n K7 ?_;refine z0a ?_;refine z13 (α:=Nat) (fun k=>[(3,.c (.ptr 0 0)),(6,.c (.ds nc (.u64s cls))),(7,.c (.int .i64 (nc:Nat))),(8,.c (.int .i64 (k:Nat)))]) (fun k=>[(0,.own 148 (.u64s (seenL cls k)) 4)]) 1 (fun k=>k≤nc∧(List.range k).all (z23 cls)=true) (fun k=>nc - k) ?_ ?_
 ·refine dnS [] id 0 ⟨Nat.zero_le _,rfl⟩ [0] uBe_1 uBe_1 uBe_1 uBe_1
 ·intro k hk
  refine srR z5g fun _ K9=>?_;refine z1c ?_;refine s_n K9 ?_;refine seq_k fun _ K10=>?_;refine z06 (b:=_) rfl (fun h_t9=>?_) (fun h_t9=>?_)
  ·try simp only[dQ,reduceIte]at h_t9
   refine z0g ?_;apply K10;refine seq_k fun _ K11=>?_;refine z0a ?_
   have hkn:k< nc:=by omega
   have hcl:=z4d hw1 hkn
   have hsn:=z3j cls k
   have han:(andC (seenL cls k) (clsAt cls k)).length=4:=zbh ..
   refine srR z5g fun _ K13=>?_;refine sXUb_4 ?_;refine sXEBe_14 ?_;refine exA (.agg (.u64s (clsAt cls k))) (as_eq rfl) ?_;refine sXUb_4 ?_;refine sX0Ub_5 ?_;refine s_n K13 ?_;refine seq_k fun _ K14=>?_;refine srR z5g fun _ K16=>?_;refine zja ?_;refine zjc ?_;refine⟨clsAt cls k,rfl,hcl,?_⟩;refine DBe_7 ?_
   first|refine exI ?_|(intro cap1 hcap1;refine exI ?_)
   refine zja ?_;refine zjc ?_;refine exB (fun hb3=>?_) (fun hb3=>?_)
   ·try simp only[dQ,reduceIte]at hb3
    iterate 5 refine sN ?_
    refine zja ?_;refine s_n K16 ?_;refine z06 (b:=_) rfl (fun _=>?_) (fun h_t21=>?_)
    rotate_left 1
    ·exfalso;simp at h_t21
    have hng:z23 cls k=false:=by first|exact zje hcl hb3|exact zjf han h_t21
    refine srR z5g fun _ K18=>?_;refine z1c ?_;refine s_n K18 ?_;refine z0b (z02 z5g (fun _ _ h=>h) (by first|rfl|assumption) [.tmp 2] rfl ?_);refine rtD ?_
    show SV.c (.bool false)=_
    rw[clsP,z2w hkn hng,Bool.false_and]
   ·try simp only[dQ,reduceIte]at hb3
    iterate 2 refine zo3 ?_
    refine zfr ?_;refine⟨seenL cls k,clsAt cls k,rfl,⟨hsn,hcl⟩,?_⟩;refine DBe_7 ?_
    first|refine exI ?_|(intro cap6 hcap6;refine exI ?_)
    refine zfr ?_;refine⟨andC (seenL cls k) (clsAt cls k),rfl,han,?_⟩;refine DBe_7 ?_
    first|refine exI ?_|(intro cap7 hcap7;refine exI ?_)
    refine zo3 ?_;refine zja ?_;refine s_n K16 ?_;refine z06 (b:=_) rfl (fun h_t21=>?_) (fun h_t21=>?_)
    ·try simp only[dQ,reduceIte]at h_t21
     have hng:z23 cls k=false:=by first|exact zje hcl hb3|exact zjf han h_t21
     refine srR z5g fun _ K20=>?_;refine z1c ?_;refine s_n K20 ?_;refine z0b (z02 z5g (fun _ _ h=>h) (by first|rfl|assumption) [.tmp 2] rfl ?_);refine rtD ?_
     show SV.c (.bool false)=_
     rw[clsP,z2w hkn hng,Bool.false_and]
    ·try simp only[dQ,reduceIte]at h_t21
     refine z0g ?_;apply K14
     have hgd:z23 cls k=true:=good_yes hcl han hb3 (by omega)
     refine z04 z5g fun _ K21=>?_
     iterate 2 refine sXBe_11 ?_
     refine sXEBe_17 ?_;refine⟨seenL cls k,clsAt cls k,rfl,⟨hsn,hcl⟩,?_⟩;refine zjb ?_
     first|refine exI ?_|(intro cap2 hcap2;refine exI ?_)
     refine sX0Be_12 ?_;refine s_n K21 ?_;refine z08 ?_;apply K11;refine z04 z5g fun _ K22=>?_
     iterate 2 refine z1c ?_
     refine s_n K22 ?_;refine dnS [] id (k+1) ⟨⟨by omega,z2o hk.2 hgd⟩,by omega⟩ [0] uBe_1 uBe_1 uBe_1 uBe_1
  ·try simp only[dQ,reduceIte]at h_t9
   refine z0y ?_;refine z03 ?_;refine z03 ?_;refine z0s ?_;apply K5
   obtain rfl:k=nc:=by omega
   refine srR z5g fun _ K24=>?_;refine z1c ?_;refine z3e ?_;refine⟨seenL cls k,rfl,z3j _ _,?_⟩;refine DUb_0 ?_
   first|refine exI ?_|(intro cap1 hcap1;refine exI ?_)
   iterate 2 refine z1c ?_
   refine s_n K24 ?_;refine z0b (z02 z5g (fun _ _ h=>h) (by first|rfl|assumption) [.tmp 2] rfl ?_);refine rtD ?_
   show SV.c (.bool _)=_
   rw[clsP,hk.2,Bool.true_and]
   congr 2
   rw[decide_eq_decide]
   have hsf:=zo4 (z3j cls k)
   exact⟨fun e=>hsf.1 (by omega),fun e=>by rw[hsf.2 e];rfl⟩


end Go.Proofs.YtegdcifghaldoaaDoor

namespace Go.Proofs.YtegdcifghaldoaaDoor
set_option linter.all false
open Go.Ab Go.RowKit

section
variable {a b:Prop}
theorem qBf1(h:a:=by first|exact vcA|(simp<;>omega)|exact⟨by omega,by omega⟩|(show _< (z0o _ _).length;rw[z10 pceR (fun _ _=>trivial)];omega)|(show _≤(z0o _ _).length;rw[z10 pceR (fun _ _=>trivial)];omega)|exact vcB):a:=h
theorem qBf2(h:a:=by first|exact vcA|(simp<;>omega)|exact⟨by omega,by omega⟩|(show _< (z0o _ _).length;rw[z10 movR (fun _ _=>trivial)];omega)|(show _≤(z0o _ _).length;rw[z10 movR (fun _ _=>trivial)];omega)|exact vcB):a:=h
theorem DBf_3(kZ:b)(h:HidB b→a:=by intro kZ;(repeat first|refine aI qBf1 ?_|refine z0d qBf1 ?_|refine z09 qBf1 ?_|refine z0p qBf1 ?_|refine z0e ?_);exact kZ.out):a:=h ⟨kZ⟩
theorem za1(kZ:b)(h:HidB b→a:=by intro kZ;refine sX ?_;refine DBf_3 ?_;refine exI ?_;exact kZ.out):a:=h ⟨kZ⟩
theorem DBf_5(kZ:b)(h:HidB b→a:=by intro kZ;(repeat first|refine aI qBf2 ?_|refine z0d qBf2 ?_|refine z09 qBf2 ?_|refine z0p qBf2 ?_|refine z0e ?_);exact kZ.out):a:=h ⟨kZ⟩
theorem za2(kZ:b)(h:HidB b→a:=by intro kZ;refine sX ?_;refine DBf_5 ?_;refine exI ?_;exact kZ.out):a:=h ⟨kZ⟩
theorem zo6(kZ:b)(h:HidB b→a:=by intro kZ;refine sX ?_;refine DBf_3 ?_;exact kZ.out):a:=h ⟨kZ⟩
theorem zjg(kZ:b)(h:HidB b→a:=by intro kZ;refine sX ?_;refine DBf_5 ?_;exact kZ.out):a:=h ⟨kZ⟩
end
open Go.Aut
theorem z9g{t:Tra}(h:¬ (1≤t.moves.length∧t.moves.length≤64∧t.fin.length=t.moves.length∧t.ends.length=t.moves.length∧t.nc≤256)):traOK t=false:=by
  rw[traOK,decide_eq_false h];rfl
theorem z9h{t:Tra}(h:clsP t.cls t.nc=false):traOK t=false:=by rw[traOK,h,Bool.and_false,Bool.false_and]
theorem z4p{t:Tra}{k:Nat}(hk:k< t.moves.length)(h:rowT t k=false):traOK t=false:=by rw[traOK,z2w hk h,Bool.and_false]
theorem z4q{t:Tra}(h:1≤t.moves.length∧t.moves.length≤64∧t.fin.length=t.moves.length∧t.ends.length=t.moves.length∧t.nc≤256)(h2:clsP t.cls t.nc=true)(h3:(List.range t.moves.length).all (rowT t)=true):traOK t=true:=by
  rw[traOK,decide_eq_true h,h2,h3];rfl
def vp1S:QSpec:=fun vs K=>∃ p:Pce,vs=[.agg (.cells (pceL p))]∧K (.c (.bool (!pceOK p)))
theorem vp1_ok:z11 Tryd.prog gl 92 vp1S:=by
 refine z0u (Γ:=g0) (N:=10) Tryd.func92 rfl rfl fun vs K h=>?_;obtain⟨p,rfl,h⟩:=h;refine⟨_,h,rfl,by simp,fun w I=>?_⟩;refine srR g0_ok fun _ K2=>?_
 iterate 2 refine zng ?_
 refine s_n K2 ?_;refine srR g0_ok fun _ K4=>?_
 iterate 2 refine zng ?_
 refine sXEUf_4 ?_;refine exB (fun hb2=>?_) (fun hb2=>?_)
 ·try simp only[dQ,reduceIte]at hb2
  iterate 3 refine z4n ?_
  iterate 2 refine zng ?_
  refine s_n K4 ?_;refine z0b (z02 g0_ok (fun _ _ h=>h) (by first|rfl|assumption) [.tmp 2] rfl ?_);refine rtD ?_
  show SV.c (.bool _)=SV.c (.bool _)
  congr 2
  try simp only[if_true,if_false,reduceIte,Bool.false_eq_true]
  first|rfl|(unfold pceOK;rw[decide_eq_decide];omega)|(unfold pceOK;symm;rw[decide_eq_false_iff_not];omega)|(unfold pceOK;symm;rw[decide_eq_true_eq];omega)|(simp[pceOK, *];done)|(simp[pceOK, *]<;>omega)
 ·try simp only[dQ,reduceIte]at hb2
  iterate 3 refine sN ?_
  iterate 2 refine zng ?_
  refine s_n K4 ?_;refine z0b (z02 g0_ok (fun _ _ h=>h) (by first|rfl|assumption) [.tmp 2] rfl ?_);refine rtD ?_
  show SV.c (.bool _)=SV.c (.bool _)
  congr 2
  try simp only[if_true,if_false,reduceIte,Bool.false_eq_true]
  first|rfl|(unfold pceOK;rw[decide_eq_decide];omega)|(unfold pceOK;symm;rw[decide_eq_false_iff_not];omega)|(unfold pceOK;symm;rw[decide_eq_true_eq];omega)|(simp[pceOK, *];done)|(simp[pceOK, *]<;>omega)

noncomputable def chasP:Ctx:={ P:=Tryd.prog,ty:=ty,glob:=gl,fs:=[(92,.flat vp1S)] }
theorem z47:chasP.OK:=⟨tyOK,⟨⟨z07 Tryd.func92 kQf rfl,vp1_ok⟩,trivial⟩,mixed⟩
@[simp] theorem chasP_ty:chasP.ty=ty:=rfl

def hasPIS:QSpec:=fun vs K=>∃ (l:List Pce),vs=[.c (.ds l.length (.cells (z0o pceL l))),.c (.clo 92 [])]∧(l.length≤9223372036854775807∧True)∧K (.c (.int .i64 (idxI (fun x=> !pceOK x) l)))
theorem hasPI_ok:z11 Tryd.prog gl 107 hasPIS:=by
 refine z0u (Γ:=chasP) (N:=19) Tryd.func107 rfl rfl fun vs K h=>?_;obtain⟨l,rfl,⟨hl,hh⟩,h⟩:=h;refine⟨_,h,rfl,by simp,fun w I=>?_⟩;refine srR z47 fun _ K2=>?_;refine za1 ?_;refine s_n K2 ?_;refine seq_k fun _ K3=>?_;refine srR z47 fun _ K5=>?_
 iterate 3 refine za1 ?_
 refine s_n K5 ?_;refine z0a ?_;refine z13 (α:=Nat) (fun k=>[(0,.c (.ds l.length (.cells (z0o pceL l)))),(1,.c (.clo 92 [])),(7,.c (.int .i64 (l.length:Nat))),(8,.c (.int .i64 (k:Nat)))]) (fun k=>[]) 0 (fun k=>k≤l.length∧(l.take k).any (fun x=> !pceOK x)=false) (fun k=>l.length - k) ?_ ?_
 ·refine dnS [] id 0 ⟨Nat.zero_le _,by simp⟩ [] uBc_0 uBc_0 uBc_0 uBc_0
 ·intro k hk
  refine srR z47 fun _ K7=>?_;refine za1 ?_;refine s_n K7 ?_;refine seq_k fun _ K8=>?_;refine z06 (b:=_) rfl (fun h_t9=>?_) (fun h_t9=>?_)
  ·try simp only[dQ,reduceIte]at h_t9
   refine z0g ?_;apply K8;refine seq_k fun _ K9=>?_;refine z0a ?_;refine srR z47 fun _ K11=>?_
   iterate 2 refine za1 ?_
   refine s_n K11 ?_
   have hkl:k< l.length:=by omega
   obtain⟨x,hx⟩:=hasAt hkl;refine srR z47 fun _ K13=>?_
   iterate 4 refine za1 ?_
   refine zo6 ?_;refine exA (.agg (.cells (pceL x))) (z31 pceR (fun _ _=>trivial) (i:=k) (by first|rfl|omega) rfl hx) ?_;refine zo6 ?_;refine aI (z01.noclo (pceR.dat x)) ?_;refine⟨x,rfl,?_⟩;refine DBf_3 ?_
   first|refine exI ?_|(intro cap5 hcap5;refine exI ?_)
   refine s_n K13 ?_;refine z06 (b:=_) rfl (fun h_t16=>?_) (fun h_t16=>?_)
   ·try simp only[dQ,reduceIte]at h_t16
    refine srR z47 fun _ K15=>?_
    iterate 2 refine za1 ?_
    refine s_n K15 ?_;refine z0b (z02 z47 (fun _ _ h=>h) (by first|rfl|assumption) [.tmp 4] rfl ?_);refine rtD ?_
    show SV.c (.int .i64 _)=_
    rw[z9d hk.2 hx (by simpa using h_t16)]
   ·try simp only[dQ,reduceIte]at h_t16
    refine z0g ?_;refine z08 ?_;apply K9
    have hnx:(fun x=> !pceOK x) x=false:=by simpa using h_t16
    have hk2:=z34 hk.2 hx hnx
    refine z04 z47 fun _ K16=>?_
    iterate 2 refine za1 ?_
    refine s_n K16 ?_;refine dnS [] id (k+1) ⟨⟨by omega,hk2⟩,by omega⟩ [] uBc_0 uBc_0 uBc_0 uBc_0
  ·try simp only[dQ,reduceIte]at h_t9
   refine z0y ?_;refine z03 ?_;refine z03 ?_;refine z0s ?_;apply K3;refine srR z47 fun _ K18=>?_;refine za1 ?_;refine s_n K18 ?_;refine z0b (z02 z47 (fun _ _ h=>h) (by first|rfl|assumption) [.tmp 4] rfl ?_);refine rtD ?_
   show SV.c (.int .i64 _)=_
   rw[z7c hk.2 (by omega)]

noncomputable def dhasP:Ctx:={ P:=Tryd.prog,ty:=ty,glob:=gl,fs:=[(107,.flat hasPIS)] }
theorem zdw:dhasP.OK:=⟨tyOK,⟨⟨z07 Tryd.func107 kQf rfl,hasPI_ok⟩,trivial⟩,mixed⟩
@[simp] theorem dhasP_ty:dhasP.ty=ty:=rfl

def hasPCS:QSpec:=fun vs K=>∃ (l:List Pce),vs=[.c (.ds l.length (.cells (z0o pceL l))),.c (.clo 92 [])]∧(l.length≤9223372036854775807∧True)∧K (.c (.bool (l.any (fun x=> !pceOK x))))
theorem hasPC_ok:z11 Tryd.prog gl 91 hasPCS:=by
 refine z0u (Γ:=dhasP) (N:=9) Tryd.func91 rfl rfl fun vs K h=>?_;obtain⟨l,rfl,hl,h⟩:=h;refine⟨_,h,rfl,by simp,fun w I=>?_⟩;refine srR zdw fun _ K2=>?_;refine zng ?_;refine s_n K2 ?_
 have hil:=zcw (fun x=> !pceOK x) l
 refine srR zdw fun _ K4=>?_
 iterate 2 refine zng ?_
 refine sXEUf_4 ?_;refine⟨l,rfl,hl,?_⟩;refine DUf_0 ?_
 first|refine exI ?_|(intro cap2 hcap2;refine exI ?_)
 iterate 2 refine zng ?_
 refine s_n K4 ?_;refine z0b (z02 zdw (fun _ _ h=>h) (by first|rfl|assumption) [.tmp 4] rfl ?_);refine rtD ?_
 show SV.c (.bool _)=_
 rw[zcv]

noncomputable def cm1:Ctx:={ P:=Tryd.prog,ty:=ty,glob:=gl,fs:=[(91,.flat hasPCS)] }
theorem za3:cm1.OK:=⟨tyOK,⟨⟨z07 Tryd.func91 kQf rfl,hasPC_ok⟩,trivial⟩,mixed⟩
@[simp] theorem cm1_ty:cm1.ty=ty:=rfl

def vm1S:QSpec:=fun vs K=>∃ (x:Mov) (m:Nat),vs=[.agg (.cells (movL x)),.c (.dp (.ints .i64 [(m:Int)]) 0)]∧x.out.length≤9223372036854775807∧K (.c (.bool (!movOK m x)))
theorem vm1_ok:z11 Tryd.prog gl 90 vm1S:=by
 refine z0u (Γ:=cm1) (N:=35) Tryd.func90 rfl rfl fun vs K h=>?_;obtain⟨x,m,rfl,hl,h⟩:=h;refine⟨_,h,rfl,by simp,fun w I=>?_⟩;refine srR za3 fun _ K2=>?_
 iterate 2 refine zng ?_
 refine s_n K2 ?_;refine srR za3 fun _ K4=>?_;refine zng ?_;refine sXEUf_4 ?_;refine exA (.c (.int .i64 x.to)) (as_eq rfl) ?_;refine zng ?_;refine sXEUf_4 ?_;refine exB (fun hb3=>?_) (fun hb3=>?_)
 ·try simp only[dQ,reduceIte]at hb3
  iterate 4 refine sN ?_
  refine zng ?_;refine sXEUf_4 ?_;refine exB (fun hb9=>?_) (fun hb9=>?_)
  rotate_left 1
  ·exfalso;simp at hb9
  iterate 4 refine sN ?_
  refine zng ?_;refine sXEUf_4 ?_;refine exB (fun hb15=>?_) (fun hb15=>?_)
  rotate_left 1
  ·exfalso;simp at hb15
  iterate 4 refine sN ?_
  iterate 4 refine sU ?_
  refine sN ?_;refine zng ?_;refine sXEUf_4 ?_;refine exB (fun hb26=>?_) (fun hb26=>?_)
  rotate_left 1
  ·exfalso;simp at hb26
  iterate 3 refine sN ?_
  iterate 2 refine zng ?_
  refine s_n K4 ?_;refine z0b (z02 za3 (fun _ _ h=>h) (by first|rfl|assumption) [.tmp 3] rfl ?_);refine rtD ?_
  show SV.c (.bool _)=SV.c (.bool _)
  congr 2
  try simp only[if_true,if_false,reduceIte,Bool.false_eq_true]
  first|rfl|(unfold movOK;rw[decide_eq_decide];omega)|(unfold movOK;symm;rw[decide_eq_false_iff_not];omega)|(unfold movOK;symm;rw[decide_eq_true_eq];omega)|(simp[movOK, *];done)|(simp[movOK, *]<;>omega)|(unfold movOK;rw[List.all_eq_not_any_not];simp[*];done)|(unfold movOK;rw[List.all_eq_not_any_not];simp[*]<;>omega)
 ·try simp only[dQ,reduceIte]at hb3
  refine z4n ?_;refine zdq ?_;refine exA (.c (.int .i64 x.to)) (as_eq rfl) ?_;refine zdq ?_;refine exA (.c (.int .i64 (m:Int))) (as_eq rfl) ?_;refine z4n ?_;refine zng ?_;refine sXEUf_4 ?_;refine exB (fun hb9=>?_) (fun hb9=>?_)
  ·try simp only[dQ,reduceIte]at hb9
   iterate 4 refine sN ?_
   refine zng ?_;refine sXEUf_4 ?_;refine exB (fun hb15=>?_) (fun hb15=>?_)
   rotate_left 1
   ·exfalso;simp at hb15
   iterate 4 refine sN ?_
   iterate 4 refine sU ?_
   refine sN ?_;refine zng ?_;refine sXEUf_4 ?_;refine exB (fun hb26=>?_) (fun hb26=>?_)
   rotate_left 1
   ·exfalso;simp at hb26
   iterate 3 refine sN ?_
   iterate 2 refine zng ?_
   refine s_n K4 ?_;refine z0b (z02 za3 (fun _ _ h=>h) (by first|rfl|assumption) [.tmp 3] rfl ?_);refine rtD ?_
   show SV.c (.bool _)=SV.c (.bool _)
   congr 2
   try simp only[if_true,if_false,reduceIte,Bool.false_eq_true]
   first|rfl|(unfold movOK;rw[decide_eq_decide];omega)|(unfold movOK;symm;rw[decide_eq_false_iff_not];omega)|(unfold movOK;symm;rw[decide_eq_true_eq];omega)|(simp[movOK, *];done)|(simp[movOK, *]<;>omega)|(unfold movOK;rw[List.all_eq_not_any_not];simp[*];done)|(unfold movOK;rw[List.all_eq_not_any_not];simp[*]<;>omega)
  ·try simp only[dQ,reduceIte]at hb9
   refine z4n ?_;refine zdq ?_;refine exA (.c (.ds x.out.length (.cells (z0o pceL x.out)))) (as_eq rfl) ?_
   iterate 2 refine z4n ?_
   refine zng ?_;refine sXEUf_4 ?_;refine exB (fun hb15=>?_) (fun hb15=>?_)
   ·try simp only[dQ,reduceIte]at hb15
    iterate 4 refine sN ?_
    iterate 4 refine sU ?_
    refine sN ?_;refine zng ?_;refine sXEUf_4 ?_;refine exB (fun hb26=>?_) (fun hb26=>?_)
    rotate_left 1
    ·exfalso;simp at hb26
    iterate 3 refine sN ?_
    iterate 2 refine zng ?_
    refine s_n K4 ?_;refine z0b (z02 za3 (fun _ _ h=>h) (by first|rfl|assumption) [.tmp 3] rfl ?_);refine rtD ?_
    show SV.c (.bool _)=SV.c (.bool _)
    congr 2
    try simp only[if_true,if_false,reduceIte,Bool.false_eq_true]
    first|rfl|(unfold movOK;rw[decide_eq_decide];omega)|(unfold movOK;symm;rw[decide_eq_false_iff_not];omega)|(unfold movOK;symm;rw[decide_eq_true_eq];omega)|(simp[movOK, *];done)|(simp[movOK, *]<;>omega)|(unfold movOK;rw[List.all_eq_not_any_not];simp[*];done)|(unfold movOK;rw[List.all_eq_not_any_not];simp[*]<;>omega)
   ·try simp only[dQ,reduceIte]at hb15
    refine z4n ?_;refine zdq ?_;refine exA (.c (.int .i64 x.to)) (as_eq rfl) ?_;refine z4n ?_;refine zdq ?_;refine exB (fun hb19=>?_) (fun hb19=>?_)
    ·try simp only[dQ,reduceIte]at hb19
     refine z4n ?_;refine zdq ?_;refine exA (.c (.ds x.out.length (.cells (z0o pceL x.out)))) (as_eq rfl) ?_
     iterate 3 refine z4n ?_
     refine zng ?_;refine sXEUf_4 ?_;refine exB (fun hb26=>?_) (fun hb26=>?_)
     ·try simp only[dQ,reduceIte]at hb26
      iterate 3 refine sN ?_
      iterate 2 refine zng ?_
      refine s_n K4 ?_;refine z0b (z02 za3 (fun _ _ h=>h) (by first|rfl|assumption) [.tmp 3] rfl ?_);refine rtD ?_
      show SV.c (.bool _)=SV.c (.bool _)
      congr 2
      try simp only[if_true,if_false,reduceIte,Bool.false_eq_true]
      first|rfl|(unfold movOK;rw[decide_eq_decide];omega)|(unfold movOK;symm;rw[decide_eq_false_iff_not];omega)|(unfold movOK;symm;rw[decide_eq_true_eq];omega)|(simp[movOK, *];done)|(simp[movOK, *]<;>omega)|(unfold movOK;rw[List.all_eq_not_any_not];simp[*];done)|(unfold movOK;rw[List.all_eq_not_any_not];simp[*]<;>omega)
     ·try simp only[dQ,reduceIte]at hb26
      refine z4n ?_;refine zdq ?_;refine exA (.c (.ds x.out.length (.cells (z0o pceL x.out)))) (as_eq rfl) ?_;refine zdq ?_;refine⟨x.out,rfl,⟨hl,trivial⟩,?_⟩;refine DUf_0 ?_
      first|refine exI ?_|(intro cap29 hcap29;refine exI ?_)
      iterate 2 refine zng ?_
      refine s_n K4 ?_;refine z0b (z02 za3 (fun _ _ h=>h) (by first|rfl|assumption) [.tmp 3] rfl ?_);refine rtD ?_
      show SV.c (.bool _)=SV.c (.bool _)
      congr 2
      try simp only[if_true,if_false,reduceIte,Bool.false_eq_true]
      first|rfl|(unfold movOK;rw[decide_eq_decide];omega)|(unfold movOK;symm;rw[decide_eq_false_iff_not];omega)|(unfold movOK;symm;rw[decide_eq_true_eq];omega)|(simp[movOK, *];done)|(simp[movOK, *]<;>omega)|(unfold movOK;rw[List.all_eq_not_any_not];simp[*];done)|(unfold movOK;rw[List.all_eq_not_any_not];simp[*]<;>omega)
    ·try simp only[dQ,reduceIte]at hb19
     iterate 4 refine sN ?_
     refine z4n ?_;refine zng ?_;refine sXEUf_4 ?_;refine exB (fun hb26=>?_) (fun hb26=>?_)
     ·exfalso;simp at hb26
     refine z4n ?_;refine zdq ?_;refine exA (.c (.ds x.out.length (.cells (z0o pceL x.out)))) (as_eq rfl) ?_;refine zdq ?_;refine⟨x.out,rfl,⟨hl,trivial⟩,?_⟩;refine DUf_0 ?_
     first|refine exI ?_|(intro cap29 hcap29;refine exI ?_)
     iterate 2 refine zng ?_
     refine s_n K4 ?_;refine z0b (z02 za3 (fun _ _ h=>h) (by first|rfl|assumption) [.tmp 3] rfl ?_);refine rtD ?_
     show SV.c (.bool _)=SV.c (.bool _)
     congr 2
     try simp only[if_true,if_false,reduceIte,Bool.false_eq_true]
     first|rfl|(unfold movOK;rw[decide_eq_decide];omega)|(unfold movOK;symm;rw[decide_eq_false_iff_not];omega)|(unfold movOK;symm;rw[decide_eq_true_eq];omega)|(simp[movOK, *];done)|(simp[movOK, *]<;>omega)|(unfold movOK;rw[List.all_eq_not_any_not];simp[*];done)|(unfold movOK;rw[List.all_eq_not_any_not];simp[*]<;>omega)

noncomputable def chasM:Ctx:={ P:=Tryd.prog,ty:=ty,glob:=gl,fs:=[(90,.flat vm1S)] }
theorem z48:chasM.OK:=⟨tyOK,⟨⟨z07 Tryd.func90 kQf rfl,vm1_ok⟩,trivial⟩,mixed⟩
@[simp] theorem chasM_ty:chasM.ty=ty:=rfl

def hasMIS:QSpec:=fun vs K=>∃ (l:List Mov) (m:Nat),vs=[.c (.ds l.length (.cells (z0o movL l))),.c (.clo 90 [.dp (.ints .i64 [(m:Int)]) 0])]∧(l.length≤9223372036854775807∧∀ x∈l,x.out.length≤9223372036854775807)∧K (.c (.int .i64 (idxI (fun x=> !movOK m x) l)))
theorem hasMI_ok:z11 Tryd.prog gl 108 hasMIS:=by
 refine z0u (Γ:=chasM) (N:=19) Tryd.func108 rfl rfl fun vs K h=>?_;obtain⟨l,m,rfl,⟨hl,hh⟩,h⟩:=h;refine⟨_,h,rfl,by simp,fun w I=>?_⟩;refine srR z48 fun _ K2=>?_;refine za2 ?_;refine s_n K2 ?_;refine seq_k fun _ K3=>?_;refine srR z48 fun _ K5=>?_
 iterate 3 refine za2 ?_
 refine s_n K5 ?_;refine z0a ?_;refine z13 (α:=Nat) (fun k=>[(0,.c (.ds l.length (.cells (z0o movL l)))),(1,.c (.clo 90 [.dp (.ints .i64 [(m:Int)]) 0])),(7,.c (.int .i64 (l.length:Nat))),(8,.c (.int .i64 (k:Nat)))]) (fun k=>[]) 0 (fun k=>k≤l.length∧(l.take k).any (fun x=> !movOK m x)=false) (fun k=>l.length - k) ?_ ?_
 ·refine dnS [] id 0 ⟨Nat.zero_le _,by simp⟩ [] uBc_0 uBc_0 uBc_0 uBc_0
 ·intro k hk
  refine srR z48 fun _ K7=>?_;refine za2 ?_;refine s_n K7 ?_;refine seq_k fun _ K8=>?_;refine z06 (b:=_) rfl (fun h_t9=>?_) (fun h_t9=>?_)
  ·try simp only[dQ,reduceIte]at h_t9
   refine z0g ?_;apply K8;refine seq_k fun _ K9=>?_;refine z0a ?_;refine srR z48 fun _ K11=>?_
   iterate 2 refine za2 ?_
   refine s_n K11 ?_
   have hkl:k< l.length:=by omega
   obtain⟨x,hx⟩:=hasAt hkl;refine srR z48 fun _ K13=>?_
   iterate 4 refine za2 ?_
   refine zjg ?_;refine exA (.agg (.cells (movL x))) (z31 movR (fun _ _=>trivial) (i:=k) (by first|rfl|omega) rfl hx) ?_;refine zjg ?_;refine aI (z01.noclo (movR.dat x)) ?_;refine⟨x,m,rfl,hh x (List.mem_of_getElem? hx),?_⟩;refine DBf_5 ?_
   first|refine exI ?_|(intro cap5 hcap5;refine exI ?_)
   refine s_n K13 ?_;refine z06 (b:=_) rfl (fun h_t16=>?_) (fun h_t16=>?_)
   ·try simp only[dQ,reduceIte]at h_t16
    refine srR z48 fun _ K15=>?_
    iterate 2 refine za2 ?_
    refine s_n K15 ?_;refine z0b (z02 z48 (fun _ _ h=>h) (by first|rfl|assumption) [.tmp 4] rfl ?_);refine rtD ?_
    show SV.c (.int .i64 _)=_
    rw[z9d hk.2 hx (by simpa using h_t16)]
   ·try simp only[dQ,reduceIte]at h_t16
    refine z0g ?_;refine z08 ?_;apply K9
    have hnx:(fun x=> !movOK m x) x=false:=by simpa using h_t16
    have hk2:=z34 hk.2 hx hnx
    refine z04 z48 fun _ K16=>?_
    iterate 2 refine za2 ?_
    refine s_n K16 ?_;refine dnS [] id (k+1) ⟨⟨by omega,hk2⟩,by omega⟩ [] uBc_0 uBc_0 uBc_0 uBc_0
  ·try simp only[dQ,reduceIte]at h_t9
   refine z0y ?_;refine z03 ?_;refine z03 ?_;refine z0s ?_;apply K3;refine srR z48 fun _ K18=>?_;refine za2 ?_;refine s_n K18 ?_;refine z0b (z02 z48 (fun _ _ h=>h) (by first|rfl|assumption) [.tmp 4] rfl ?_);refine rtD ?_
   show SV.c (.int .i64 _)=_
   rw[z7c hk.2 (by omega)]

noncomputable def dhasM:Ctx:={ P:=Tryd.prog,ty:=ty,glob:=gl,fs:=[(108,.flat hasMIS)] }
theorem zdx:dhasM.OK:=⟨tyOK,⟨⟨z07 Tryd.func108 kQf rfl,hasMI_ok⟩,trivial⟩,mixed⟩
@[simp] theorem dhasM_ty:dhasM.ty=ty:=rfl

def hasMCS:QSpec:=fun vs K=>∃ (l:List Mov) (m:Nat),vs=[.c (.ds l.length (.cells (z0o movL l))),.c (.clo 90 [.dp (.ints .i64 [(m:Int)]) 0])]∧(l.length≤9223372036854775807∧∀ x∈l,x.out.length≤9223372036854775807)∧K (.c (.bool (l.any (fun x=> !movOK m x))))
theorem hasMC_ok:z11 Tryd.prog gl 93 hasMCS:=by
 refine z0u (Γ:=dhasM) (N:=9) Tryd.func93 rfl rfl fun vs K h=>?_;obtain⟨l,m,rfl,hl,h⟩:=h;refine⟨_,h,rfl,by simp,fun w I=>?_⟩;refine srR zdx fun _ K2=>?_;refine zng ?_;refine s_n K2 ?_
 have hil:=zcw (fun x=> !movOK m x) l
 refine srR zdx fun _ K4=>?_
 iterate 2 refine zng ?_
 refine sXEUf_4 ?_;refine⟨l,m,rfl,hl,?_⟩;refine DUf_0 ?_
 first|refine exI ?_|(intro cap2 hcap2;refine exI ?_)
 iterate 2 refine zng ?_
 refine s_n K4 ?_;refine z0b (z02 zdx (fun _ _ h=>h) (by first|rfl|assumption) [.tmp 4] rfl ?_);refine rtD ?_
 show SV.c (.bool _)=_
 rw[zcv]


end Go.Proofs.YtegdcifghaldoaaDoor

namespace Go.Proofs.YtegdcifghaldoaaDoor
set_option linter.all false
open Go.Ab Go.RowKit

section
variable {a b:Prop}
theorem qBg0(h:a:=by first|exact vcA|(simp[hclen,-List.reduceReplicate]<;>omega)|(simp[-List.reduceReplicate];done)|exact vcB):a:=h
theorem qBg1(h:a:=by first|exact vcA|(simp[hclen,-List.reduceReplicate]<;>omega)|(simp[hclen];omega)|(simp[hcl];done)|exact vcB):a:=h
theorem qBg2(h:a:=by first|exact vcA|(simp[hclen,-List.reduceReplicate]<;>omega)|(simp[hcl];done)|exact vcB):a:=h
theorem qBg3(h:a:=by first|exact vcA|(simp[hclen,-List.reduceReplicate]<;>omega)|(show _< (putB _ _ _).length;rw[hpl];omega)|(simp[hpl]<;>omega)|exact vcB):a:=h
theorem uBg_0(h:a:=by
    repeat' (first|exact trivial|refine aI ?_ ?_|exact cC0|refine low_cons' ?_ ?_|exact cC1|fail)
    all_goals first|omega|(show(_:List Int)=_;rw[zj6];done)|(show(_:List Int)=_;exact hset)|(show(_:List Int)=_;exact(zbf d).symm)|(simp[-List.reduceReplicate];done)|(simp[-List.reduceReplicate]<;>omega)|skip):a:=h
theorem DBg_0(kZ:b)(h:HidB b→a:=by intro kZ;(repeat first|refine aI qBg0 ?_|refine z0d qBg0 ?_|refine z09 qBg0 ?_|refine z0p qBg0 ?_|refine z0e ?_);exact kZ.out):a:=h ⟨kZ⟩
theorem z7m(kZ:b)(h:HidB b→a:=by intro kZ;refine sX ?_;refine DBg_0 ?_;refine exI ?_;exact kZ.out):a:=h ⟨kZ⟩
theorem DBg_2(kZ:b)(h:HidB b→a:=by intro kZ;(repeat first|refine aI qBg1 ?_|refine z0d qBg1 ?_|refine z09 qBg1 ?_|refine z0p qBg1 ?_|refine z0e ?_);exact kZ.out):a:=h ⟨kZ⟩
theorem sXBg_3(kZ:b)(h:HidB b→a:=by intro kZ;refine sX ?_;refine DBg_2 ?_;refine exI ?_;exact kZ.out):a:=h ⟨kZ⟩
theorem sX0Bg_4(kZ:b)(h:HidB b→a:=by intro kZ;refine sX0 ?_;refine DBg_2 ?_;refine exI ?_;exact kZ.out):a:=h ⟨kZ⟩
theorem DBg_5(kZ:b)(h:HidB b→a:=by intro kZ;(repeat first|refine aI qBg2 ?_|refine z0d qBg2 ?_|refine z09 qBg2 ?_|refine z0p qBg2 ?_|refine z0e ?_);exact kZ.out):a:=h ⟨kZ⟩
theorem sXBg_6(kZ:b)(h:HidB b→a:=by intro kZ;refine sX ?_;refine DBg_5 ?_;refine exI ?_;exact kZ.out):a:=h ⟨kZ⟩
theorem DBg_7(kZ:b)(h:HidB b→a:=by intro kZ;(repeat first|refine aI qBg3 ?_|refine z0d qBg3 ?_|refine z09 qBg3 ?_|refine z0p qBg3 ?_|refine z0e ?_);exact kZ.out):a:=h ⟨kZ⟩
theorem sXBg_8(kZ:b)(h:HidB b→a:=by intro kZ;refine sX ?_;refine DBg_7 ?_;refine exI ?_;exact kZ.out):a:=h ⟨kZ⟩
theorem sX0Bg_9(kZ:b)(h:HidB b→a:=by intro kZ;refine sX0 ?_;refine DBg_7 ?_;refine exI ?_;exact kZ.out):a:=h ⟨kZ⟩
theorem sX0Bg_10(kZ:b)(h:HidB b→a:=by intro kZ;refine sX0 ?_;refine DBg_0 ?_;refine exI ?_;exact kZ.out):a:=h ⟨kZ⟩
theorem sXEBg_11(kZ:b)(h:HidB b→a:=by intro kZ;refine sX ?_;refine DBg_2 ?_;exact kZ.out):a:=h ⟨kZ⟩
theorem sXEBg_12(kZ:b)(h:HidB b→a:=by intro kZ;refine sX ?_;refine DBg_5 ?_;exact kZ.out):a:=h ⟨kZ⟩
theorem sXEBg_13(kZ:b)(h:HidB b→a:=by intro kZ;refine sX ?_;refine DBg_0 ?_;exact kZ.out):a:=h ⟨kZ⟩
end
open Go.Aut
attribute [local irreducible] z14 z1g putB
def dT(t:Tra):Dfa:={ cls:=t.cls,nc:=t.nc,next:=[List.replicate t.nc 0],acc:=[true] }
theorem dT_good{t:Tra}(hw:t.cls.length=t.nc*4)(hc:clsP t.cls t.nc=true)(hn:t.nc≤256):(dT t).good:=by
  have h0:1≤t.nc:=by
    rcases Nat.eq_zero_or_pos t.nc with h|h
    · exfalso
      rw[h,clsP]at hc
      revert hc
      simp only[List.range_zero,List.all_nil,Bool.true_and,seenL]
      intro hc;exact absurd (of_decide_eq_true hc) (by decide)
    · exact h
  have hwf:(dT t).wf:=⟨hw,by show t.nc≤_;omega,(by decide:1≤9223372036854775807),(by decide:1≤9223372036854775807),fun r hr=>by
    rw[List.mem_singleton.1 (show r∈[List.replicate t.nc 0] from hr),List.length_replicate];omega⟩
  refine(z9b hwf).1 ?_;rw[z3k,Bool.and_eq_true,Bool.and_eq_true,decide_eq_true_eq];refine⟨⟨⟨(by decide:1≤1),(by decide:1≤64),rfl,h0,hn⟩,hc⟩,?_⟩
  show[List.replicate t.nc 0].all _=true
  simp only[List.all_cons,List.all_nil,Bool.and_true,rowOK,Bool.and_eq_true,decide_eq_true_eq]
  refine⟨List.length_replicate,List.all_eq_true.2 fun x hx=>?_⟩;rw[List.eq_of_mem_replicate hx];rfl
theorem cellT_eq{t:Tra}{b:Nat}(hb:b< 256):(z1g (dT t) t.nc).getD b 0=(cellT t b:Nat):=by
  unfold z1g;rw[z3y hb];rfl
theorem zjh{t:Tra}(hg:(dT t).good){b:Nat}(hb:b< 256):cellT t b< t.nc:=by
  obtain⟨c,hc,hx⟩:=hg.1.part b hb
  have h:∀ y,(List.range t.nc).find? (fun c=>hasC t.cls c b)=some y→y< t.nc:=fun y hy=>List.mem_range.1 (List.mem_of_find?_eq_some hy)
  unfold cellT
  cases e:(List.range t.nc).find? (fun c=>hasC t.cls c b) with
  |none=>exact Nat.lt_of_le_of_lt (Nat.zero_le _) (show c< t.nc from hc)
  |some y=>exact h y e
noncomputable def ccl:Ctx:={ P:=Tryd.prog,ty:=ty,glob:=gl,fs:=[(88,.data zhc)] }
theorem z5x:ccl.OK:=⟨tyOK,⟨⟨z07 Tryd.func88 kQf rfl,zfk⟩,trivial⟩,mixed⟩
@[simp] theorem ccl_ty:ccl.ty=ty:=rfl

def zo7:QSpec:=fun vs K=>∃ d:Dfa,vs=[.c (.ds d.nc (.u64s d.cls))]∧d.ok∧K (.agg (.ints .i64 (z1g d d.nc)))
theorem zo8:z11 Tryd.prog gl 61 zo7:=by
 refine z0u (Γ:=ccl) (N:=28) Tryd.func61 rfl rfl fun vs K h=>?_;obtain⟨d,rfl,hok,h⟩:=h;refine⟨_,h,rfl,by simp,fun w I=>?_⟩
 have hclen:=hok.clen
 have hc256:=hok.cmax
 refine srR z5x fun _ K2=>?_;refine z7m ?_;refine s_n K2 ?_;refine srR z5x fun _ K4=>?_;refine z7m ?_;refine s_n K4 ?_;refine seq_k fun _ K5=>?_;refine srR z5x fun _ K7=>?_
 iterate 3 refine z7m ?_
 refine s_n K7 ?_;refine z0a ?_;refine z13 (α:=Nat) (fun i=>[(2,.c (.ptr 0 0)),(3,.c (.ptr 1 0)),(8,.c (.ds d.nc (.u64s d.cls))),(9,.c (.int .i64 (d.nc:Nat))),(10,.c (.int .i64 (i:Nat)))]) (fun i=>[(0,.own 121 (.ints .i64 (List.replicate 256 0)) 256),(1,.own 121 (.ints .i64 (z1g d i)) 256)]) 2 (fun i=>i≤d.nc) (fun i=>d.nc - i) ?_ ?_
 ·refine dnS [] id 0 (Nat.zero_le _) [0,1] uBg_0 uBg_0 uBg_0 uBg_0
 ·intro i hi
  refine srR z5x fun _ K9=>?_;refine z7m ?_;refine s_n K9 ?_;refine seq_k fun _ K10=>?_;refine z06 (b:=_) rfl (fun h_t11=>?_) (fun h_t11=>?_)
  ·try simp only[dQ,reduceIte]at h_t11
   refine z0g ?_;apply K10;refine seq_k fun _ K11=>?_;refine z0a ?_
   have hin:i< d.nc:=by omega
   have hcl:=z4d hclen hin
   refine srR z5x fun _ K13=>?_
   iterate 2 refine sXBg_3 ?_
   refine sXEBg_11 ?_;refine exA (.agg (.u64s (clsAt d.cls i))) (as_eq rfl) ?_
   iterate 2 refine sXBg_3 ?_
   refine sX0Bg_4 ?_;refine s_n K13 ?_;refine srR z5x fun _ K15=>?_;refine sXBg_6 ?_;refine sXEBg_12 ?_;refine⟨clsAt d.cls i,rfl,hcl,?_⟩;refine DBg_5 ?_
   first|refine exI ?_|(intro cap1 hcap1;refine exI ?_)
   iterate 2 refine sXBg_6 ?_
   refine s_n K15 ?_;refine z0a ?_;refine z13 (α:=Nat) (fun j=>[(2,.c (.ptr 0 0)),(3,.c (.ptr 1 0)),(8,.c (.ds d.nc (.u64s d.cls))),(9,.c (.int .i64 (d.nc:Nat))),(10,.c (.int .i64 (i:Nat))),(4,.c (.int .i64 (i:Nat))),(16,.c (.ds (z14 (clsAt d.cls i)).length (.u8s (z14 (clsAt d.cls i))))),(17,.c (.int .i64 ((z14 (clsAt d.cls i)).length:Nat))),(18,.c (.int .i64 (j:Nat)))]) (fun j=>[(0,.own 121 (.ints .i64 (List.replicate 256 0)) 256),(1,.own 121 (.ints .i64 (putB (z1g d i) ((z14 (clsAt d.cls i)).take j) (i:Nat))) 256)]) 2 (fun j=>j≤(z14 (clsAt d.cls i)).length) (fun j=>(z14 (clsAt d.cls i)).length - j) ?_ ?_
   ·refine dnS [] id 0 (Nat.zero_le _) [0,1] uBg_0 uBg_0 uBg_0 uBg_0
   ·intro j hj
    refine srR z5x fun _ K17=>?_;refine z7m ?_;refine s_n K17 ?_;refine seq_k fun _ K18=>?_;refine z06 (b:=_) rfl (fun h_t19=>?_) (fun h_t19=>?_)
    ·try simp only[dQ,reduceIte]at h_t19
     refine z0g ?_;apply K18;refine seq_k fun _ K19=>?_;refine z0a ?_
     have hjn:j< (z14 (clsAt d.cls i)).length:=by omega
     have hbl:=z7b (clsAt d.cls i)
     refine srR z5x fun _ K21=>?_;refine z7m ?_;refine sXEBg_13 ?_;refine exA (.c (.u8 ((z14 (clsAt d.cls i)).getD j 0))) (as_eq (congrArg (fun v=>SV.c (Cell.u8 v)) (congrArg (fun i_=>(z14 (clsAt d.cls i)).getD i_ 0) (by omega)))) ?_;refine z7m ?_;refine s_n K21 ?_
     have hbt:((z14 (clsAt d.cls i)).getD j 0).toNat< 256:=UInt8.toNat_lt _
     have hpl:(putB (z1g d i) ((z14 (clsAt d.cls i)).take j) (i:Nat)).length=256:=by simp
     refine z04 z5x fun _ K22=>?_
     iterate 3 refine sXBg_8 ?_
     refine sX0Bg_9 ?_;refine s_n K22 ?_;refine z08 ?_;apply K19;refine z04 z5x fun _ K23=>?_
     iterate 2 refine z7m ?_
     refine s_n K23 ?_
     have hset:(putB (z1g d i) ((z14 (clsAt d.cls i)).take j) (i:Nat)).set (0+((((z14 (clsAt d.cls i)).getD j 0).toNat:Nat):Int).toNat*1) (i:Nat)=putB (z1g d i) ((z14 (clsAt d.cls i)).take (j+1)) (i:Nat):=by
      rw[show(0+((((z14 (clsAt d.cls i)).getD j 0).toNat:Nat):Int).toNat*1)=((z14 (clsAt d.cls i)).getD j 0).toNat by omega];exact zfb (z1g d i) (i:Nat) hjn
     refine dnS [] id (j+1) ⟨by omega,by omega⟩ [0,1] uBg_0 uBg_0 uBg_0 uBg_0
    ·try simp only[dQ,reduceIte]at h_t19
     refine z0y ?_;refine z03 ?_;refine z03 ?_;refine z0s ?_;refine z08 ?_;apply K11;refine z04 z5x fun _ K24=>?_
     iterate 2 refine z7m ?_
     refine s_n K24 ?_
     obtain rfl:j=(z14 (clsAt d.cls i)).length:=by omega
     have hstep:putB (z1g d i) (z14 (clsAt d.cls i)) (i:Nat)=z1g d (i+1):=zbg hok hin
     rw[List.take_length,hstep];refine dnS [] id (i+1) ⟨by omega,by omega⟩ [0,1] uBg_0 uBg_0 uBg_0 uBg_0
  ·try simp only[dQ,reduceIte]at h_t11
   refine z0y ?_;refine z03 ?_;refine z03 ?_;refine z0s ?_;apply K5;refine srR z5x fun _ K26=>?_;refine z7m ?_;refine sX0Bg_10 ?_;refine s_n K26 ?_
   obtain rfl:i=d.nc:=by omega
   refine z0b (z02 z5x (fun _ _ h=>h) (by first|rfl|assumption) [.cell 2 121] rfl ?_);refine rtD ?_
   try refine z0d (by simp[-List.reduceReplicate]) ?_
   show SV.agg _=SV.agg _
   first|rfl|(simp[-List.reduceReplicate];done)


end Go.Proofs.YtegdcifghaldoaaDoor

namespace Go.Proofs.YtegdcifghaldoaaDoor
set_option linter.all false
open Go.Ab Go.RowKit

section
variable {a b:Prop}
theorem qBh0(h:a:=by first|exact vcA|(simp[hwl]<;>omega)|exact⟨by omega,by omega⟩|(show _< (z0o _ _).length;rw[z10 pceR (fun _ _=>trivial)];omega)|(show _≤(z0o _ _).length;rw[z10 pceR (fun _ _=>trivial)];omega)|exact Nat.le_of_ble_eq_true rfl|exact vcB):a:=h
theorem qBh1(h:a:=by first|exact vcA|(simp[hwl,hwl,List.length_set]<;>omega)|exact⟨by omega,by omega⟩|(show _< (z0o _ _).length;rw[z10 pceR (fun _ _=>trivial)];omega)|(show _≤(z0o _ _).length;rw[z10 pceR (fun _ _=>trivial)];omega)|exact Nat.le_of_ble_eq_true rfl|exact vcB):a:=h
theorem uBh_0(h:a:=by
    repeat' (first|exact z01.to (z0i _)|exact z01.low (z0i _)|exact z01.to (z0k _)|exact z01.low (z0k _)|exact z01.to (z0l _)|exact z01.low (z0l _)|exact z01.to (z0c _)|exact z01.low (z0c _)|exact z01.to (z0m _)|exact z01.low (z0m _)|exact z01.to (z0f _)|exact z01.low (z0f _)|exact z01.to (z0h _ _)|exact z01.low (z0h _ _)|exact z01.to (z00 itmR _)|exact z01.low (z00 itmR _)|exact z01.to (z00 movR _)|exact z01.low (z00 movR _)|exact z01.to (z00 pceR _)|exact z01.low (z00 pceR _)|exact z01.to (z00 fndR _)|exact z01.low (z00 fndR _)|exact z01.to (z00 atmR _)|exact z01.low (z00 atmR _)|exact z01.to (z00 litR _)|exact z01.low (z00 litR _)|exact z01.to (z00 mdlR _)|exact z01.low (z00 mdlR _)|exact z0v (z0j z0r z05)|exact z0q (z0j z0r z05)|exact z0v z05|exact z0q z05|exact trivial|refine aI ?_ ?_|exact cC0|refine low_cons' ?_ ?_|exact cC1|fail)
    all_goals first|omega|(show(_:List UInt8)=_;first|exact hst|(rw[wrK_zero];done)|exact zhl _ _|(obtain rfl:k=l.length:=(by omega);exact zhl _ _))|(obtain rfl:k=l.length:=(by omega);simp[zoa (Nat.le_refl _)];done)|(simp[-List.reduceReplicate];done)|(simp[-List.reduceReplicate]<;>omega)|skip):a:=h
theorem DBh_0(kZ:b)(h:HidB b→a:=by intro kZ;(repeat first|refine aI qBh0 ?_|refine z0d qBh0 ?_|refine z09 qBh0 ?_|refine z0p qBh0 ?_|refine z0e ?_);exact kZ.out):a:=h ⟨kZ⟩
theorem z6l(kZ:b)(h:HidB b→a:=by intro kZ;refine sX ?_;refine DBh_0 ?_;refine exI ?_;exact kZ.out):a:=h ⟨kZ⟩
theorem zo9(kZ:b)(h:HidB b→a:=by intro kZ;refine sX0 ?_;refine DBh_0 ?_;refine exI ?_;exact kZ.out):a:=h ⟨kZ⟩
theorem DBh_3(kZ:b)(h:HidB b→a:=by intro kZ;(repeat first|refine aI qBh1 ?_|refine z0d qBh1 ?_|refine z09 qBh1 ?_|refine z0p qBh1 ?_|refine z0e ?_);exact kZ.out):a:=h ⟨kZ⟩
theorem sXBh_4(kZ:b)(h:HidB b→a:=by intro kZ;refine sX ?_;refine DBh_3 ?_;refine exI ?_;exact kZ.out):a:=h ⟨kZ⟩
theorem sX0Bh_5(kZ:b)(h:HidB b→a:=by intro kZ;refine sX0 ?_;refine DBh_3 ?_;refine exI ?_;exact kZ.out):a:=h ⟨kZ⟩
theorem zhk(kZ:b)(h:HidB b→a:=by intro kZ;refine sX ?_;refine DBh_0 ?_;exact kZ.out):a:=h ⟨kZ⟩
end
open Go.Aut
def wrK(l:List Pce)(b:UInt8)(k:Nat):List UInt8:=z22 (l.take k) b++List.replicate (l.length - k) 0
theorem zoa{l:List Pce}{b:UInt8}{k:Nat}(h:k≤l.length):(wrK l b k).length=l.length:=by simp[wrK,z22];omega
theorem wrK_zero(l:List Pce)(b:UInt8):wrK l b 0=List.replicate l.length 0:=by simp[wrK,z22]
theorem zhl(l:List Pce)(b:UInt8):wrK l b l.length=z22 l b:=by simp[wrK]
theorem zji{l:List Pce}{b v:UInt8}{k:Nat}{x:Pce}(hx:l[k]? =some x)(hv:v=if x.copy=true then b else x.b):(wrK l b k).set k v=wrK l b (k+1):=by
  have hk:k< l.length:=(List.getElem?_eq_some_iff.1 hx).1
  have e:l.length - k=(l.length - (k+1))+1:=by omega
  rw[wrK,wrK,e,List.replicate_succ,List.set_append_right _ _ (by simp[z22];omega),show k - (z22 (l.take k) b).length=0 by simp[z22];omega,List.set_cons_zero,List.take_add_one,hx,hv]
  simp[z22]
theorem wrK_two{l:List Pce}{b:UInt8}{k:Nat}{x:Pce}(hx:l[k]? =some x)(hv:x.copy=true):((wrK l b k).set k x.b).set k b=wrK l b (k+1):=by
  rw[List.set_set];exact zji hx (by rw[if_pos hv])
def zjj:QSpec:=fun vs K=>∃ (l:List Pce) (b:UInt8),vs=[.c (.ds l.length (.cells (z0o pceL l))),.c (.u8 b)]∧l.length≤64∧K (.c (.ds (z22 l b).length (.u8s (z22 l b))))
theorem zld:z3u Tryd.prog gl 62 zjj:=by
 refine z3p (Γ:=g0) (N:=31) Tryd.func62 rfl rfl fun vs K h=>?_;obtain⟨l,b,rfl,hl,h⟩:=h;refine⟨_,h,trivial,by simp,fun w I=>?_⟩;refine srR g0_ok fun _ K2=>?_;refine z6l ?_;refine s_n K2 ?_;refine srR g0_ok fun _ K4=>?_
 iterate 4 refine z6l ?_
 refine s_n K4 ?_;refine seq_k fun _ K5=>?_;refine srR g0_ok fun _ K7=>?_
 iterate 3 refine z6l ?_
 refine s_n K7 ?_;refine z0a ?_;refine z13 (α:=Nat) (fun k=>[(1,.c (.u8 b)),(5,.c (.slice 0 0 l.length l.length)),(11,.c (.ds l.length (.cells (z0o pceL l)))),(12,.c (.int .i64 (l.length:Nat))),(13,.c (.int .i64 (k:Nat)))]) (fun k=>[(0,.own 5 (.u8s (wrK l b k)) l.length)]) 1 (fun k=>k≤l.length) (fun k=>l.length - k) ?_ ?_
 ·refine dnS [] id 0 (Nat.zero_le _) [0] uBh_0 uBh_0 uBh_0 uBh_0
 ·intro k hk
  have hwl:=zoa (b:=b) hk
  refine srR g0_ok fun _ K9=>?_;refine z6l ?_;refine s_n K9 ?_;refine seq_k fun _ K10=>?_;refine z06 (b:=_) rfl (fun h_t14=>?_) (fun h_t14=>?_)
  ·try simp only[dQ,reduceIte]at h_t14
   refine z0g ?_;apply K10;refine seq_k fun _ K11=>?_;refine z0a ?_
   have hkl:k< l.length:=by omega
   obtain⟨x,hx⟩:=hasAt hkl;refine srR g0_ok fun _ K13=>?_
   iterate 2 refine z6l ?_
   refine zhk ?_;refine exA (.agg (.cells (pceL x))) (z31 pceR (fun _ _=>trivial) (i:=k) (by first|rfl|omega) rfl hx) ?_
   iterate 2 refine z6l ?_
   refine zo9 ?_;refine s_n K13 ?_;refine srR g0_ok fun _ K15=>?_
   iterate 3 refine z6l ?_
   refine zhk ?_;refine exA (.c (.u8 x.b)) (as_eq rfl) ?_;refine z6l ?_;refine zo9 ?_;refine s_n K15 ?_;refine srR g0_ok fun _ K17=>?_;refine z6l ?_;refine zhk ?_;refine exA (.c (.bool x.copy)) (as_eq rfl) ?_;refine s_n K17 ?_;refine z06 (b:=_) rfl (fun h_t24=>?_) (fun h_t24=>?_)
   ·refine z04 g0_ok fun _ K18=>?_
    iterate 4 refine sXBh_4 ?_
    refine sX0Bh_5 ?_;refine s_n K18 ?_;refine z08 ?_;apply K11;refine z04 g0_ok fun _ K19=>?_
    iterate 2 refine z6l ?_
    refine s_n K19 ?_
    have hst:((wrK l b k).set (0+(k:Int).toNat*1) x.b).set (0+(k:Int).toNat*1) b=wrK l b (k+1):=by
     rw[show(0+(k:Int).toNat*1)=k by omega];exact wrK_two hx h_t24
    refine dnS [] id (k+1) ⟨by omega,by omega⟩ [0] uBh_0 uBh_0 uBh_0 uBh_0
   ·refine z0g ?_;refine z08 ?_;apply K11;refine z04 g0_ok fun _ K20=>?_
    iterate 2 refine z6l ?_
    refine s_n K20 ?_
    have hst:(wrK l b k).set (0+(k:Int).toNat*1) x.b=wrK l b (k+1):=by
     rw[show(0+(k:Int).toNat*1)=k by omega];exact zji hx (by rw[if_neg (by rw[h_t24];decide)])
    refine dnS [] id (k+1) ⟨by omega,by omega⟩ [0] uBh_0 uBh_0 uBh_0 uBh_0
  ·try simp only[dQ,reduceIte]at h_t14
   refine z0y ?_;refine z03 ?_;refine z03 ?_;refine z0s ?_;apply K5;refine srR g0_ok fun _ K22=>?_
   iterate 2 refine z6l ?_
   refine s_n K22 ?_
   obtain rfl:k=l.length:=by omega
   rw[zhl] at*
   have hwn:(z22 l b).length=l.length:=by simp[z22]
   refine z0b (z19 g0_ok (fun _ _ h=>h) (by trivial) [0] [.tmp 4] rfl ?_)
   repeat' (first|exact z01.to (z0i _)|exact z01.low (z0i _)|exact z01.to (z0k _)|exact z01.low (z0k _)|exact z01.to (z0l _)|exact z01.low (z0l _)|exact z01.to (z0c _)|exact z01.low (z0c _)|exact z01.to (z0m _)|exact z01.low (z0m _)|exact z01.to (z0f _)|exact z01.low (z0f _)|exact z01.to (z0h _ _)|exact z01.low (z0h _ _)|exact z01.to (z00 itmR _)|exact z01.low (z00 itmR _)|exact z01.to (z00 movR _)|exact z01.low (z00 movR _)|exact z01.to (z00 pceR _)|exact z01.low (z00 pceR _)|exact z01.to (z00 fndR _)|exact z01.low (z00 fndR _)|exact z01.to (z00 atmR _)|exact z01.low (z00 atmR _)|exact z01.to (z00 litR _)|exact z01.low (z00 litR _)|exact z01.to (z00 mdlR _)|exact z01.low (z00 mdlR _)|exact z0v (z0j z0r z05)|exact z0q (z0j z0r z05)|exact z0v z05|exact z0q z05|exact trivial|refine aI ?_ ?_|exact cC0|refine low_cons' ?_ ?_|exact cC1|fail)
   all_goals first|omega|exact hwn.symm|exact hwn|(simp[hwn];done)|(simp[-List.reduceReplicate];done)|(simp[-List.reduceReplicate]<;>omega)|skip


end Go.Proofs.YtegdcifghaldoaaDoor
