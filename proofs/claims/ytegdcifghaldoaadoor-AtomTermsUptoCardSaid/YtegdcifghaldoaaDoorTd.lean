/- Contracts of functions and plain facts, part 4. -/
import Derived.Test.YtegdcifghaldoaaDoorTb
import Derived.Test.YtegdcifghaldoaaDoorTc
set_option maxHeartbeats 1000000
set_option maxRecDepth 4000
namespace Go.Proofs.YtegdcifghaldoaaDoor
set_option linter.all false
open Go.Ab Go.RowKit

section
variable {a b:Prop}
theorem qUa0(h:a:=by first|exact vcA|(simp<;>omega)|exact vcB):a:=h
theorem qUa1(h:a:=by first|exact vcA|(simp[ha,hb]<;>omega)|exact vcB):a:=h
theorem qUa2(h:a:=by first|exact vcA|(simp[ha,hb]<;>omega)|(simp[ha,hb]<;>omega)|exact vcB):a:=h
theorem qUa3(h:a:=by first|exact vcA|(simp[ha]<;>omega)|exact vcB):a:=h
theorem uUa0(h:a:=by
    repeat' (first|exact trivial|refine aI ?_ ?_|exact cC0|refine low_cons' ?_ ?_|exact cC1|fail)
    all_goals first|omega|(show(_:List UInt64)=_;first|exact hst|(rw[hi1];exact hst)|rfl)|(simp[ha,hb];done)|(simp<;>omega)|exact z0q z05|skip):a:=h
end
def z32:List UInt8:=[0,1,56,2,57,49,28,3,61,58,42,50,38,29,17,4,62,47,59,36,45,43,51,22,53,39,33,30,24,18,12,5,63,55,48,27,60,41,37,16,46,35,44,21,52,32,23,11,54,26,40,15,34,20,31,10,25,14,19,9,13,8,7,6]
def gl:Nat→Option Cont:=fun g=>if g=1 then some (.u8s z32)else none
noncomputable def g0:Ctx:={ P:=Tryd.prog,ty:=ty,glob:=gl,fs:=[] }
theorem g0_ok:g0.OK:=⟨tyOK,trivial,mixed⟩
@[simp] theorem g0_ty:g0.ty=ty:=rfl
def eqS(q:QSpec):QSpec:=fun vs K=>∃ v,q vs (fun u=>u=v)∧K v
theorem flat_eq{f:FuncId}{q:QSpec}(h:z11 Tryd.prog gl f q):z11 Tryd.prog gl f (eqS q):=fun vs K ⟨v,hq,hK⟩=>by
  obtain⟨u,rfl,hf,hc⟩:=h vs _ hq;exact⟨_,hK,hf,hc⟩
def kAndS:QSpec:=fun vs K=>∃ x y:UInt64,vs=[.c (.u64 x),.c (.u64 y)]∧K (.c (.u64 (x &&& y)))
theorem kAnd_ok:z11 Tryd.prog gl 101 kAndS:=by
 refine z0u (Γ:=g0) (N:=8) Tryd.func101 rfl rfl fun vs K h=>?_;obtain⟨x,y,rfl,h⟩:=h;refine⟨_,h,rfl,by simp,fun w I=>?_⟩;refine seq_k fun _ K1=>?_;refine z04 g0_ok fun _ K2=>?_;refine sS1 ?_;refine s_n K2 ?_;apply K1;refine seq_k fun _ K3=>?_;refine z04 g0_ok fun _ K4=>?_
 iterate 2 refine sS1 ?_
 refine sS fun _ hS=>?_;(repeat refine aI qUa0 ?_);apply hS;clear hS;refine sS1 ?_;refine s_n K4 ?_;apply K3;refine z0b (z02 g0_ok (fun _ _ h=>h) (by first|rfl|assumption) [.tmp 4] rfl ?_)
 repeat refine aI (by first|omega|exact trivial|rfl|(simp<;>omega)) ?_
 try refine z0p (by first|omega|exact trivial|rfl|(simp<;>omega)) ?_
 show _=_
 rfl

def kOrS:QSpec:=fun vs K=>∃ x y:UInt64,vs=[.c (.u64 x),.c (.u64 y)]∧K (.c (.u64 (x ||| y)))
theorem kOr_ok:z11 Tryd.prog gl 102 kOrS:=by
 refine z0u (Γ:=g0) (N:=8) Tryd.func102 rfl rfl fun vs K h=>?_;obtain⟨x,y,rfl,h⟩:=h;refine⟨_,h,rfl,by simp,fun w I=>?_⟩;refine seq_k fun _ K1=>?_;refine z04 g0_ok fun _ K2=>?_;refine sS1 ?_;refine s_n K2 ?_;apply K1;refine seq_k fun _ K3=>?_;refine z04 g0_ok fun _ K4=>?_
 iterate 2 refine sS1 ?_
 refine sS fun _ hS=>?_;(repeat refine aI qUa0 ?_);apply hS;clear hS;refine sS1 ?_;refine s_n K4 ?_;apply K3;refine z0b (z02 g0_ok (fun _ _ h=>h) (by first|rfl|assumption) [.tmp 4] rfl ?_)
 repeat refine aI (by first|omega|exact trivial|rfl|(simp<;>omega)) ?_
 try refine z0p (by first|omega|exact trivial|rfl|(simp<;>omega)) ?_
 show _=_
 rfl

def kNotS:QSpec:=fun vs K=>∃ x y:UInt64,vs=[.c (.u64 x),.c (.u64 y)]∧K (.c (.u64 (~~~x)))
theorem kNot_ok:z11 Tryd.prog gl 103 kNotS:=by
 refine z0u (Γ:=g0) (N:=7) Tryd.func103 rfl rfl fun vs K h=>?_;obtain⟨x,y,rfl,h⟩:=h;refine⟨_,h,rfl,by simp,fun w I=>?_⟩;refine seq_k fun _ K1=>?_;refine z04 g0_ok fun _ K2=>?_;refine sS1 ?_;refine s_n K2 ?_;apply K1;refine seq_k fun _ K3=>?_;refine z04 g0_ok fun _ K4=>?_;refine sS1 ?_;refine sS fun _ hS=>?_;(repeat refine aI qUa0 ?_);apply hS;clear hS;refine sS1 ?_;refine s_n K4 ?_;apply K3;refine z0b (z02 g0_ok (fun _ _ h=>h) (by first|rfl|assumption) [.tmp 4] rfl ?_)
 repeat refine aI (by first|omega|exact trivial|rfl|(simp<;>omega)) ?_
 try refine z0p (by first|omega|exact trivial|rfl|(simp<;>omega)) ?_
 show _=_
 rfl

noncomputable def gK(f:FuncId)(q:QSpec):Ctx:={ P:=Tryd.prog,ty:=ty,glob:=gl,fs:=[(f,.flat (eqS q))] }
theorem gK_ok{f:FuncId}{q:QSpec}(he:z6u Tryd.prog f)(h:z11 Tryd.prog gl f q):(gK f q).OK:=⟨tyOK,⟨⟨he,flat_eq h⟩,trivial⟩,mixed⟩
@[simp] theorem gK_ty{f:FuncId}{q:QSpec}:(gK f q).ty=ty:=rfl
theorem gK_look{f:FuncId}{q:QSpec}:z3n (gK f q).fs f=some (.flat (eqS q)):=zf4 (l:=[]) fun p hp=>by cases hp
def zipK(g:UInt64→UInt64→UInt64)(a b:List UInt64)(k:Nat):List UInt64:=(List.range 4).map fun i=>if i< k then g (a.getD i 0) (b.getD i 0)else 0
def zipC(g:UInt64→UInt64→UInt64)(a b:List UInt64):List UInt64:=zipK g a b 4
@[simp] theorem zh7(g:UInt64→UInt64→UInt64)(a b:List UInt64)(k:Nat):(zipK g a b k).length=4:=by simp[zipK]
@[simp] theorem zbh(g:UInt64→UInt64→UInt64)(a b:List UInt64):(zipC g a b).length=4:=zh7 ..
theorem zmv(g:UInt64→UInt64→UInt64)(a b:List UInt64){k:Nat}(h:k< 4):(zipK g a b k).set k (g (a.getD k 0) (b.getD k 0))=zipK g a b (k+1):=by
  refine List.ext_getElem (by simp) fun i h1 h2=>?_;rw[List.getElem_set]
  simp only[zipK,List.getElem_map,List.getElem_range]
  by_cases e:k=i
  · subst e;rw[if_pos rfl,if_pos (by omega)]
  · rw[if_neg e]
    by_cases e2:i< k
    · rw[if_pos e2,if_pos (by omega)]
    · rw[if_neg e2,if_neg (by omega)]
def zac(f:FuncId)(q:QSpec):QSpec:=fun vs K=>∃ g:UInt64→UInt64→UInt64,∃ a b:List UInt64,vs=[.agg (.u64s a),.agg (.u64s b),.c (.clo f [])]∧(a.length=4∧b.length=4)∧(∀ x y,q [.c (.u64 x),.c (.u64 y)] (fun v=>v= .c (.u64 (g x y))))∧K (.agg (.u64s (zipC g a b)))
theorem z99{cf:FuncId}{cq:QSpec}(hen:z6u Tryd.prog cf)(hok:z11 Tryd.prog gl cf cq)(hlt:cf< 1000000:=by decide):z11 Tryd.prog gl 100 (zac cf cq):=by
 refine z0u (Γ:=gK cf cq) (N:=24) Tryd.func100 rfl rfl fun vs K h=>?_;obtain⟨g,a,b,rfl,⟨ha,hb⟩,hcall,h⟩:=h;refine⟨_,h,rfl,by simp,fun w I=>?_⟩
 have hlook:=gK_look (f:=cf) (q:=cq)
 refine seq_k fun _ K1=>?_;refine z04 (gK_ok hen hok) fun _ K2=>?_;refine sS fun _ hS=>?_;(repeat refine aI qUa1 ?_);apply hS;clear hS;refine sS fun _ hS=>?_;(repeat refine aI qUa1 ?_);apply hS;clear hS;refine sS fun _ hS=>?_;(repeat refine aI qUa1 ?_);apply hS;clear hS;refine s_n K2 ?_;apply K1;refine seq_k fun _ K3=>?_;refine z04 (gK_ok hen hok) fun _ K4=>?_;refine sS fun _ hS=>?_;(repeat refine aI qUa1 ?_);apply hS;clear hS;refine s_n K4 ?_;apply K3;refine seq_k fun _ K5=>?_;refine seq_k fun _ K6=>?_;refine z04 (gK_ok hen hok) fun _ K7=>?_;refine sS1 ?_;refine s_n K7 ?_;apply K6;refine z0a ?_;refine z13 (α:=Nat) (fun k=>[(2,.c (.clo cf [])),(3,.c (.ptr 0 0)),(4,.c (.ptr 1 0)),(6,.c (.ptr 2 0)),(7,.c (.ptr 3 0)),(9,.c (.int .i64 k))]) (fun k=>[(0,.own 148 (.u64s a) 4),(1,.own 148 (.u64s b) 4),(2,.own 148 (.u64s (List.replicate 4 0)) 4),(3,.own 148 (.u64s (zipK g a b k)) 4)]) 4 (fun k=>k≤4) (fun k=>4 - k) ?_ ?_
 ·refine dnS [] id 0 (Nat.zero_le _) [0,1,2,3] ?_ ?_ ?_ ?_
  ·exact uUa0
  ·exact uUa0
  ·exact uUa0
  ·exact uUa0
 ·intro k hk
  refine seq_k fun _ K8=>?_;refine z04 (gK_ok hen hok) fun _ K9=>?_;refine sS fun _ hS=>?_;(repeat refine aI qUa1 ?_);apply hS;clear hS;refine s_n K9 ?_;apply K8;refine seq_k fun _ K10=>?_;refine z06 (b:=_) rfl (fun h_t10=>?_) (fun h_t10=>?_)
  ·try simp only[dQ,reduceIte]at h_t10
   refine z0g ?_;apply K10;refine seq_k fun _ K11=>?_;refine z0a ?_;refine seq_k fun _ K12=>?_;refine z04 (gK_ok hen hok) fun _ K13=>?_
   iterate 2 refine sS1 ?_
   refine s_n K13 ?_;apply K12
   have hk4:k< 4:=by omega
   have hst:=zmv g a b hk4
   have hi1:0+(k:Int).toNat*1=k:=by omega
   refine zh0 (gK_ok hen hok) [(0,true),(1,true),(2,true),(3,true),(4,true),(5,true),(6,true),(7,true),(8,false),(9,true),(10,false)] rfl kQf kQf fun _ K14=>?_
   iterate 3 refine dD1 ?_
   refine dR fun _ hS=>?_;(repeat refine aI qUa2 ?_);apply hS;clear hS;refine dR fun _ hS=>?_;(repeat refine aI qUa2 ?_);(first|apply hS|(refine z0d qUa2 ?_;apply hS)|(refine z0e ?_;apply hS));clear hS;refine dD1 ?_;refine dR fun _ hS=>?_;(repeat refine aI qUa2 ?_);apply hS;clear hS;refine dR fun _ hS=>?_;(repeat refine aI qUa2 ?_);(first|apply hS|(refine z0d qUa2 ?_;apply hS)|(refine z0e ?_;apply hS));clear hS;refine dG fun _ hS=>?_;refine zmg (xs:=[.u64 (a.getD (0+(k:Int).toNat*1) 0),.u64 (b.getD (0+(k:Int).toNat*1) 0)]) hlook (z0j zf3 (z0j zf3 z05)) z05 ?_;refine⟨_,hcall _ _,?_⟩;apply hS;clear hS;refine dR fun _ hS=>?_;(repeat refine aI qUa2 ?_);apply hS;clear hS;refine d_grow0 rfl rfl rfl fun _ hS=>?_
   repeat refine aI qUa2 ?_
   first|apply hS|(refine z09 qUa2 ?_;apply hS)
   clear hS;refine d_n K14 ?_;refine z08 ?_;apply K11;refine z04 (gK_ok hen hok) fun _ K15=>?_;refine sS fun _ hS=>?_;(repeat refine aI qUa1 ?_);apply hS;clear hS;refine sS1 ?_;refine s_n K15 ?_;refine dnS [] id (k+1) ⟨by omega,by omega⟩ [0,1,2,3] ?_ ?_ ?_ ?_
   ·exact uUa0
   ·exact uUa0
   ·exact uUa0
   ·exact uUa0
  ·try simp only[dQ,reduceIte]at h_t10
   refine z0y ?_;refine z03 ?_;refine z03 ?_;refine z0s ?_;apply K5;refine seq_k fun _ K16=>?_;refine z04 (gK_ok hen hok) fun _ K17=>?_;refine sS fun _ hS=>?_;(repeat refine aI qUa1 ?_);(first|apply hS|(refine z0d qUa1 ?_;apply hS)|(refine z0e ?_;apply hS));clear hS;refine sS0 fun _ hS=>?_;(repeat refine aI qUa1 ?_);(first|apply hS|(refine z09 qUa1 ?_;apply hS));clear hS;refine s_n K17 ?_;apply K16;refine z0b (z02 (gK_ok hen hok) (fun _ _ h=>h) (by first|rfl|assumption) [.cell 6 148] rfl ?_)
   repeat refine aI (by first|omega|exact trivial|rfl|(simp<;>omega)) ?_
   try refine z0p (by first|omega|exact trivial|rfl|(simp<;>omega)) ?_
   obtain rfl:k=4:=by omega
   rfl

noncomputable def zmw:Ctx:={ P:=Tryd.prog,ty:=ty,glob:=gl,fs:=[(100,.flat (zac 101 kAndS))] }
theorem zbi:zmw.OK:=⟨tyOK,⟨⟨z07 Tryd.func100 kQf rfl,z99 (z07 Tryd.func101 kQf rfl) kAnd_ok⟩,trivial⟩,mixed⟩
@[simp] theorem kinter_ty:zmw.ty=ty:=rfl

def zmx:QSpec:=fun vs K=>∃ a b:List UInt64,vs=[.agg (.u64s a),.agg (.u64s b)]∧(a.length=4∧b.length=4)∧K (.agg (.u64s (zipC (fun x y=>x &&& y) a b)))
theorem ziw:z11 Tryd.prog gl 85 zmx:=by
 refine z0u (Γ:=zmw) (N:=8) Tryd.func85 rfl rfl fun vs K h=>?_;obtain⟨a,b,rfl,⟨ha,hb⟩,h⟩:=h;refine⟨_,h,rfl,by simp,fun w I=>?_⟩;refine seq_k fun _ K1=>?_;refine z04 zbi fun _ K2=>?_;refine sS fun _ hS=>?_;(repeat refine aI qUa1 ?_);apply hS;clear hS;refine sS fun _ hS=>?_;(repeat refine aI qUa1 ?_);apply hS;clear hS;refine sS fun _ hS=>?_;(repeat refine aI qUa1 ?_);apply hS;clear hS;refine s_n K2 ?_;apply K1;refine seq_k fun _ K3=>?_;refine z04 zbi fun _ K4=>?_;refine sS fun _ hS=>?_;(repeat refine aI qUa1 ?_);(first|apply hS|(refine z0d qUa1 ?_;apply hS)|(refine z0e ?_;apply hS));clear hS;refine sS fun _ hS=>?_;(repeat refine aI qUa1 ?_);(first|apply hS|(refine z0d qUa1 ?_;apply hS)|(refine z0e ?_;apply hS));clear hS;refine sS fun _ hS=>?_;(repeat first|refine aI qUa1 ?_|refine z0d qUa1 ?_|refine z0e ?_);refine⟨fun x y=>x &&& y,a,b,rfl,⟨ha,hb⟩,fun x y=>⟨x,y,rfl,rfl⟩,?_⟩;(repeat refine aI qUa1 ?_);(first|apply hS|(intro cap2 hcap2;apply hS));clear hS;refine sS0 fun _ hS=>?_;(repeat refine aI qUa1 ?_);(first|apply hS|(refine z09 qUa1 ?_;apply hS));clear hS;refine s_n K4 ?_;apply K3;refine z0b (z02 zbi (fun _ _ h=>h) (by first|rfl|assumption) [.cell 4 148] rfl ?_)
 repeat refine aI (by first|omega|exact trivial|rfl|(simp<;>omega)) ?_
 try refine z0p (by first|omega|exact trivial|rfl|(simp<;>omega)) ?_
 show _=_
 rfl



noncomputable def zmy:Ctx:={ P:=Tryd.prog,ty:=ty,glob:=gl,fs:=[(100,.flat (zac 102 kOrS))] }
theorem zbj:zmy.OK:=⟨tyOK,⟨⟨z07 Tryd.func100 kQf rfl,z99 (z07 Tryd.func102 kQf rfl) kOr_ok⟩,trivial⟩,mixed⟩
@[simp] theorem kunion_ty:zmy.ty=ty:=rfl

def zmz:QSpec:=fun vs K=>∃ a b:List UInt64,vs=[.agg (.u64s a),.agg (.u64s b)]∧(a.length=4∧b.length=4)∧K (.agg (.u64s (zipC (fun x y=>x ||| y) a b)))
theorem zix:z11 Tryd.prog gl 86 zmz:=by
 refine z0u (Γ:=zmy) (N:=8) Tryd.func86 rfl rfl fun vs K h=>?_;obtain⟨a,b,rfl,⟨ha,hb⟩,h⟩:=h;refine⟨_,h,rfl,by simp,fun w I=>?_⟩;refine seq_k fun _ K1=>?_;refine z04 zbj fun _ K2=>?_;refine sS fun _ hS=>?_;(repeat refine aI qUa1 ?_);apply hS;clear hS;refine sS fun _ hS=>?_;(repeat refine aI qUa1 ?_);apply hS;clear hS;refine sS fun _ hS=>?_;(repeat refine aI qUa1 ?_);apply hS;clear hS;refine s_n K2 ?_;apply K1;refine seq_k fun _ K3=>?_;refine z04 zbj fun _ K4=>?_;refine sS fun _ hS=>?_;(repeat refine aI qUa1 ?_);(first|apply hS|(refine z0d qUa1 ?_;apply hS)|(refine z0e ?_;apply hS));clear hS;refine sS fun _ hS=>?_;(repeat refine aI qUa1 ?_);(first|apply hS|(refine z0d qUa1 ?_;apply hS)|(refine z0e ?_;apply hS));clear hS;refine sS fun _ hS=>?_;(repeat first|refine aI qUa1 ?_|refine z0d qUa1 ?_|refine z0e ?_);refine⟨fun x y=>x ||| y,a,b,rfl,⟨ha,hb⟩,fun x y=>⟨x,y,rfl,rfl⟩,?_⟩;(repeat refine aI qUa1 ?_);(first|apply hS|(intro cap2 hcap2;apply hS));clear hS;refine sS0 fun _ hS=>?_;(repeat refine aI qUa1 ?_);(first|apply hS|(refine z09 qUa1 ?_;apply hS));clear hS;refine s_n K4 ?_;apply K3;refine z0b (z02 zbj (fun _ _ h=>h) (by first|rfl|assumption) [.cell 4 148] rfl ?_)
 repeat refine aI (by first|omega|exact trivial|rfl|(simp<;>omega)) ?_
 try refine z0p (by first|omega|exact trivial|rfl|(simp<;>omega)) ?_
 show _=_
 rfl



noncomputable def knotC:Ctx:={ P:=Tryd.prog,ty:=ty,glob:=gl,fs:=[(100,.flat (zac 103 kNotS))] }
theorem zdk:knotC.OK:=⟨tyOK,⟨⟨z07 Tryd.func100 kQf rfl,z99 (z07 Tryd.func103 kQf rfl) kNot_ok⟩,trivial⟩,mixed⟩
@[simp] theorem knotC_ty:knotC.ty=ty:=rfl

def notCS:QSpec:=fun vs K=>∃ a:List UInt64,vs=[.agg (.u64s a)]∧a.length=4∧K (.agg (.u64s (zipC (fun x _=> ~~~x) a a)))
theorem notC_ok:z11 Tryd.prog gl 87 notCS:=by
 refine z0u (Γ:=knotC) (N:=6) Tryd.func87 rfl rfl fun vs K h=>?_;obtain⟨a,rfl,ha,h⟩:=h;refine⟨_,h,rfl,by simp,fun w I=>?_⟩;refine seq_k fun _ K1=>?_;refine z04 zdk fun _ K2=>?_;refine sS fun _ hS=>?_;(repeat refine aI qUa3 ?_);apply hS;clear hS;refine sS fun _ hS=>?_;(repeat refine aI qUa3 ?_);apply hS;clear hS;refine s_n K2 ?_;apply K1;refine seq_k fun _ K3=>?_;refine z04 zdk fun _ K4=>?_;refine sS fun _ hS=>?_;(repeat refine aI qUa3 ?_);(first|apply hS|(refine z0d qUa3 ?_;apply hS)|(refine z0e ?_;apply hS));clear hS;refine sS fun _ hS=>?_;(repeat refine aI qUa3 ?_);(first|apply hS|(refine z0d qUa3 ?_;apply hS)|(refine z0e ?_;apply hS));clear hS;refine sS fun _ hS=>?_;(repeat first|refine aI qUa3 ?_|refine z0d qUa3 ?_|refine z0e ?_);refine⟨fun x _=> ~~~x,a,a,rfl,⟨ha,ha⟩,fun x y=>⟨x,y,rfl,rfl⟩,?_⟩;(repeat refine aI qUa3 ?_);(first|apply hS|(intro cap2 hcap2;apply hS));clear hS;refine sS0 fun _ hS=>?_;(repeat refine aI qUa3 ?_);(first|apply hS|(refine z09 qUa3 ?_;apply hS));clear hS;refine s_n K4 ?_;apply K3;refine z0b (z02 zdk (fun _ _ h=>h) (by first|rfl|assumption) [.cell 2 148] rfl ?_)
 repeat refine aI (by first|omega|exact trivial|rfl|(simp<;>omega)) ?_
 try refine z0p (by first|omega|exact trivial|rfl|(simp<;>omega)) ?_
 show _=_
 rfl


end Go.Proofs.YtegdcifghaldoaaDoor

namespace Go.Proofs.YtegdcifghaldoaaDoor
set_option linter.all false
open Go.Ab Go.RowKit

section
variable {a b:Prop}
theorem qUb0(h:a:=by first|exact vcA|(simp[hw1]<;>omega)|exact vcB):a:=h
theorem qUb1(h:a:=by first|exact vcA|(simp[hw1,hcl,hw1]<;>omega)|(simp<;>omega)|exact vcB):a:=h
theorem qUb2(h:a:=by first|exact vcA|(simp[hw1,hcl]<;>omega)|(show(clsAt d.cls k).length=4;exact hcl)|exact hcl|exact vcB):a:=h
theorem qUb3(h:a:=by first|exact vcA|(simp[hw1]<;>omega)|(simp<;>omega)|exact vcB):a:=h
theorem uUb_0(h:a:=by
    repeat' (first|exact trivial|refine aI ?_ ?_|exact cC0|refine low_cons' ?_ ?_|exact cC1|fail)
    all_goals first|omega|exact zdl _|exact low_cons' trivial (low_cons' trivial (low_cons' trivial low_nil'))|(show(_:List UInt64)=_;rfl)|(simp[hcl];done)|(simp<;>omega)|skip):a:=h
theorem DUb_0(kZ:b)(h:HidB b→a:=by intro kZ;(repeat first|refine aI qUb0 ?_|refine z0d qUb0 ?_|refine z09 qUb0 ?_|refine z0p qUb0 ?_|refine z0e ?_);exact kZ.out):a:=h ⟨kZ⟩
theorem z1c(kZ:b)(h:HidB b→a:=by intro kZ;refine sX ?_;refine DUb_0 ?_;refine exI ?_;exact kZ.out):a:=h ⟨kZ⟩
theorem zbk(kZ:b)(h:HidB b→a:=by intro kZ;refine sXT ?_;refine DUb_0 ?_;refine exI ?_;exact kZ.out):a:=h ⟨kZ⟩
theorem DUb_3(kZ:b)(h:HidB b→a:=by intro kZ;(repeat first|refine aI qUb1 ?_|refine z0d qUb1 ?_|refine z09 qUb1 ?_|refine z0p qUb1 ?_|refine z0e ?_);exact kZ.out):a:=h ⟨kZ⟩
theorem sXUb_4(kZ:b)(h:HidB b→a:=by intro kZ;refine sX ?_;refine DUb_3 ?_;refine exI ?_;exact kZ.out):a:=h ⟨kZ⟩
theorem sX0Ub_5(kZ:b)(h:HidB b→a:=by intro kZ;refine sX0 ?_;refine DUb_3 ?_;refine exI ?_;exact kZ.out):a:=h ⟨kZ⟩
theorem DUb_6(kZ:b)(h:HidB b→a:=by intro kZ;(repeat first|refine aI qUb2 ?_|refine z0d qUb2 ?_|refine z09 qUb2 ?_|refine z0p qUb2 ?_|refine z0e ?_);exact kZ.out):a:=h ⟨kZ⟩
theorem zn0(kZ:b)(h:HidB b→a:=by intro kZ;refine sX ?_;refine DUb_6 ?_;refine exI ?_;exact kZ.out):a:=h ⟨kZ⟩
theorem zn1(kZ:b)(h:HidB b→a:=by intro kZ;refine sXT ?_;refine DUb_6 ?_;refine exI ?_;exact kZ.out):a:=h ⟨kZ⟩
theorem DUb_9(kZ:b)(h:HidB b→a:=by intro kZ;(repeat first|refine aI qUb3 ?_|refine z0d qUb3 ?_|refine z09 qUb3 ?_|refine z0p qUb3 ?_|refine z0e ?_);exact kZ.out):a:=h ⟨kZ⟩
theorem zh8(kZ:b)(h:HidB b→a:=by intro kZ;refine sX ?_;refine DUb_9 ?_;refine exI ?_;exact kZ.out):a:=h ⟨kZ⟩
theorem sX0Ub_11(kZ:b)(h:HidB b→a:=by intro kZ;refine sX0 ?_;refine DUb_9 ?_;refine exI ?_;exact kZ.out):a:=h ⟨kZ⟩
theorem z3e(kZ:b)(h:HidB b→a:=by intro kZ;refine sX ?_;refine DUb_0 ?_;exact kZ.out):a:=h ⟨kZ⟩
theorem sXEUb_13(kZ:b)(h:HidB b→a:=by intro kZ;refine sX ?_;refine DUb_6 ?_;exact kZ.out):a:=h ⟨kZ⟩
theorem zn2(kZ:b)(h:HidB b→a:=by intro kZ;refine sXT ?_;refine DUb_6 ?_;exact kZ.out):a:=h ⟨kZ⟩
theorem ziy(kZ:b)(h:HidB b→a:=by intro kZ;refine sX ?_;refine DUb_9 ?_;exact kZ.out):a:=h ⟨kZ⟩
end
open Go.Aut
def rowsC(l:List (List Int)):List Cell:=l.map fun r=>.ds r.length (.ints .i64 r)
abbrev dfaC(d:Dfa):Cont:=.cells [.ds d.nc (.u64s d.cls),.ds d.next.length (.cells (rowsC d.next)),.ds d.acc.length (.bools d.acc)]
abbrev dfaV(d:Dfa):SV:=.agg (dfaC d)
def _root_.Go.Aut.Dfa.wf(d:Dfa):Prop:=d.cls.length=d.nc*4∧d.nc≤9223372036854775807∧d.next.length≤9223372036854775807∧d.acc.length≤9223372036854775807∧∀ r∈d.next,r.length≤9223372036854775807
@[simp] theorem z1d(l:List (List Int)):(rowsC l).length=l.length:=by simp[rowsC]
theorem ziz{l:List (List Int)}{i:Nat}(h:i< l.length):(Cont.cells (rowsC l)).get i= .ds (l.getD i []).length (.ints .i64 (l.getD i [])):=by
  simp[Cont.get,rowsC,List.getD_eq_getElem?_getD,h]
theorem zdl{n:Nat}(l:List (List Int)):(Cont.cells (rowsC l)).low n:=fun x hx=>by
  obtain⟨r,_,rfl⟩:=List.mem_map.1 hx;exact trivial
theorem zn3(l:List (List Int)):allD (rowsC l):=by
  induction l with
  |nil=>trivial
  |cons r l ih=>exact⟨trivial,ih⟩
abbrev Z4:List UInt64:=List.replicate 4 0
def clsAt(l:List UInt64)(i:Nat):List UInt64:=(l.drop (i*4)).take 4
theorem z4d{l:List UInt64}{n i:Nat}(h:l.length=n*4)(hi:i< n):(clsAt l i).length=4:=by simp[clsAt];omega
def orC(a b:List UInt64):List UInt64:=zipC (fun x y=>x ||| y) a b
def andC(a b:List UInt64):List UInt64:=zipC (fun x y=>x &&& y) a b
def notK(a:List UInt64):List UInt64:=zipC (fun x _=> ~~~x) a a
def seenL(l:List UInt64):Nat→List UInt64
  |0=>Z4
  |k+1=>orC (seenL l k) (clsAt l k)
@[simp] theorem z3j(l:List UInt64):∀ k,(seenL l k).length=4
  |0=>rfl
  |k+1=>zbh ..
def z23(l:List UInt64)(k:Nat):Bool:= !decide (clsAt l k=Z4)&&decide (andC (seenL l k) (clsAt l k)=Z4)
def clsP(l:List UInt64)(nc:Nat):Bool:=(List.range nc).all (z23 l)&&decide (notK (seenL l nc)=Z4)
def tgtOK(n:Nat)(t:Int):Bool:=decide (0≤t)&&decide (t< n)
def rowOK(nc n:Nat)(r:List Int):Bool:=decide (r.length=nc)&&r.all (tgtOK n)
def z3k(d:Dfa):Bool:=decide (1≤d.next.length∧d.next.length≤64∧d.acc.length=d.next.length∧1≤d.nc∧d.nc≤256)&&clsP d.cls d.nc&&d.next.all (rowOK d.nc d.next.length)
theorem z8h{α:Type}{p:α→Bool}{l:List α}{k:Nat}{d:α}(h:k< l.length)(h1:(l.take k).all p=true)(h2:p (l.getD k d)=true):(l.take (k+1)).all p=true:=by
  rw[List.take_add_one,List.all_append,h1,List.getElem?_eq_getElem h];rw[List.getD_eq_getElem?_getD,List.getElem?_eq_getElem h]at h2
  simpa using h2
theorem zff{α:Type}{p:α→Bool}{l:List α}{k:Nat}{d:α}(h:k< l.length)(h2:p (l.getD k d)=false):l.all p=false:=by
  rw[List.getD_eq_getElem?_getD,List.getElem?_eq_getElem h]at h2;rw[List.all_eq_false];exact⟨l[k],List.getElem_mem h,by simpa using h2⟩
theorem z2o{p:Nat→Bool}{k:Nat}(h1:(List.range k).all p=true)(h2:p k=true):(List.range (k+1)).all p=true:=by
  rw[List.range_succ,List.all_append,h1];simpa using h2
theorem z2w{p:Nat→Bool}{k n:Nat}(h:k< n)(h2:p k=false):(List.range n).all p=false:=by
  rw[List.all_eq_false];exact⟨k,List.mem_range.2 h,by simpa using h2⟩
noncomputable def m1:Ctx:={ P:=Tryd.prog,ty:=ty,glob:=gl,fs:=[(85,.flat zmx),(86,.flat zmz),(87,.flat notCS)] }
theorem m1_ok:m1.OK:=⟨tyOK,⟨⟨z07 Tryd.func85 kQf rfl,ziw⟩,⟨z07 Tryd.func86 kQf rfl,zix⟩,⟨z07 Tryd.func87 kQf rfl,notC_ok⟩,trivial⟩,mixed⟩
@[simp] theorem m1_ty:m1.ty=ty:=rfl

def zh9:QSpec:=fun vs K=>∃ d:Dfa,vs=[dfaV d]∧d.wf∧K (.c (.bool (z3k d)))
theorem zfg : z11 Tryd.prog gl 58 zh9:=by
 refine z0u (Γ:=m1) (N:=92) Tryd.func58 rfl rfl fun vs K h=>?_;obtain⟨d,rfl,⟨hw1,hw2,hw3,hw4,hw5⟩,h⟩:=h;refine⟨_,h,rfl,by simp,fun w I=>?_⟩;refine srR m1_ok fun _ K2=>?_
 iterate 2 refine z1c ?_
 refine s_n K2 ?_;refine srR m1_ok fun _ K4=>?_
 iterate 4 refine z1c ?_
 refine s_n K4 ?_;refine seq_k fun _ K5=>?_;refine srR m1_ok fun _ K7=>?_
 iterate 2 refine z1c ?_
 refine z3e ?_;refine exB (fun hb2=>?_) (fun hb2=>?_)
 ·try simp only[dQ,reduceIte]at hb2
  iterate 2 refine sN ?_
  refine z1c ?_;refine z3e ?_;refine exB (fun hb6=>?_) (fun hb6=>?_)
  rotate_left 1
  ·exfalso;simp at hb6
  iterate 5 refine sN ?_
  refine z1c ?_;refine z3e ?_;refine exB (fun hb13=>?_) (fun hb13=>?_)
  rotate_left 1
  ·exfalso;simp at hb13
  iterate 4 refine sN ?_
  refine z1c ?_;refine z3e ?_;refine exB (fun hb19=>?_) (fun hb19=>?_)
  rotate_left 1
  ·exfalso;simp at hb19
  iterate 4 refine sN ?_
  refine z1c ?_;refine s_n K7 ?_;refine z06 (b:=_) rfl (fun _=>?_) (fun h_t38=>?_)
  rotate_left 1
  ·exfalso;simp at h_t38
  refine srR m1_ok fun _ K9=>?_;refine z1c ?_;refine s_n K9 ?_;refine z0b (z02 m1_ok (fun _ _ h=>h) (by first|rfl|assumption) [.tmp 2] rfl ?_);refine rtD ?_
  show SV.c (.bool false)=_
  rw[z3k,decide_eq_false (fun hh=>by omega),Bool.false_and,Bool.false_and]
 ·try simp only [dQ,reduceIte]at hb2
  iterate 2 refine zbk ?_
  refine z1c ?_;refine z3e ?_;refine exB (fun hb6=>?_) (fun hb6=>?_)
  ·try simp only[dQ,reduceIte]at hb6
   iterate 5 refine sN ?_
   refine z1c ?_;refine z3e ?_;refine exB (fun hb13=>?_) (fun hb13=>?_)
   rotate_left 1
   ·exfalso;simp at hb13
   iterate 4 refine sN ?_
   refine z1c ?_;refine z3e ?_;refine exB (fun hb19=>?_) (fun hb19=>?_)
   rotate_left 1
   ·exfalso;simp at hb19
   iterate 4 refine sN ?_
   refine z1c ?_;refine s_n K7 ?_;refine z06 (b:=_) rfl (fun _=>?_) (fun h_t38=>?_)
   rotate_left 1
   ·exfalso;simp at h_t38
   refine srR m1_ok fun _ K11=>?_;refine z1c ?_;refine s_n K11 ?_;refine z0b (z02 m1_ok (fun _ _ h=>h) (by first|rfl|assumption) [.tmp 2] rfl ?_);refine rtD ?_
   show SV.c (.bool false)=_
   rw[z3k,decide_eq_false (fun hh=>by omega),Bool.false_and,Bool.false_and]
  ·try simp only [dQ,reduceIte]at hb6
   iterate 5 refine zbk ?_
   refine z1c ?_;refine z3e ?_;refine exB (fun hb13=>?_) (fun hb13=>?_)
   ·try simp only[dQ,reduceIte]at hb13
    iterate 4 refine sN ?_
    refine z1c ?_;refine z3e ?_;refine exB (fun hb19=>?_) (fun hb19=>?_)
    rotate_left 1
    ·exfalso;simp at hb19
    iterate 4 refine sN ?_
    refine z1c ?_;refine s_n K7 ?_;refine z06 (b:=_) rfl (fun _=>?_) (fun h_t38=>?_)
    rotate_left 1
    ·exfalso;simp at h_t38
    refine srR m1_ok fun _ K13=>?_;refine z1c ?_;refine s_n K13 ?_;refine z0b (z02 m1_ok (fun _ _ h=>h) (by first|rfl|assumption) [.tmp 2] rfl ?_);refine rtD ?_
    show SV.c (.bool false)=_
    rw[z3k,decide_eq_false (fun hh=>by omega),Bool.false_and,Bool.false_and]
   ·try simp only[dQ,reduceIte]at hb13
    iterate 4 refine zbk ?_
    refine z1c ?_;refine z3e ?_;refine exB (fun hb19=>?_) (fun hb19=>?_)
    ·try simp only[dQ,reduceIte]at hb19
     iterate 4 refine sN ?_
     refine z1c ?_;refine s_n K7 ?_;refine z06 (b:=_) rfl (fun _=>?_) (fun h_t38=>?_)
     rotate_left 1
     ·exfalso;simp at h_t38
     refine srR m1_ok fun _ K15=>?_;refine z1c ?_;refine s_n K15 ?_;refine z0b (z02 m1_ok (fun _ _ h=>h) (by first|rfl|assumption) [.tmp 2] rfl ?_);refine rtD ?_
     show SV.c (.bool false)=_
     rw[z3k,decide_eq_false (fun hh=>by omega),Bool.false_and,Bool.false_and]
    ·try simp only[dQ,reduceIte]at hb19
     iterate 4 refine zbk ?_
     refine z1c ?_;refine s_n K7 ?_;refine z06 (b:=_) rfl (fun h_t38=>?_) (fun h_t38=>?_)
     ·try simp only[dQ,reduceIte]at h_t38
      refine srR m1_ok fun _ K17=>?_;refine z1c ?_;refine s_n K17 ?_;refine z0b (z02 m1_ok (fun _ _ h=>h) (by first|rfl|assumption) [.tmp 2] rfl ?_);refine rtD ?_
      show SV.c (.bool false)=_
      rw[z3k,decide_eq_false (fun hh=>by omega),Bool.false_and,Bool.false_and]
     ·try simp only[dQ,reduceIte]at h_t38
      refine z0g ?_;apply K5;refine srR m1_ok fun _ K19=>?_;refine z1c ?_;refine s_n K19 ?_;refine seq_k fun _ K20=>?_
      have hbase:1≤d.next.length∧d.next.length≤64∧d.acc.length=d.next.length∧1≤d.nc∧d.nc≤256:=by omega
      refine srR m1_ok fun _ K22=>?_
      iterate 4 refine z1c ?_
      refine s_n K22 ?_;refine z0a ?_;refine z13 (α:=Nat) (fun k=>[(1,.c (.ptr 0 0)),(3,.c (.int .i64 d.next.length)),(4,.c (.ptr 1 0)),(40,.c (.ds d.nc (.u64s d.cls))),(41,.c (.int .i64 d.nc)),(42,.c (.int .i64 k))]) (fun k=>[(0,.own 65 (dfaC d) 3),(1,.own 148 (.u64s (seenL d.cls k)) 4)]) 2 (fun k=>k≤d.nc∧(List.range k).all (z23 d.cls)=true) (fun k=>d.nc - k) ?_ ?_
      ·refine dnS [] id 0 ⟨Nat.zero_le _,rfl⟩ [0,1] uUb_0 uUb_0 uUb_0 uUb_0
      ·intro k hk
       refine srR m1_ok fun _ K24=>?_;refine z1c ?_;refine s_n K24 ?_;refine seq_k fun _ K25=>?_;refine z06 (b:=_) rfl (fun h_t43=>?_) (fun h_t43=>?_)
       ·try simp only[dQ,reduceIte]at h_t43
        refine z0g ?_;apply K25;refine seq_k fun _ K26=>?_;refine z0a ?_
        have hkn:k< d.nc:=by omega
        have hcl:=z4d hw1 hkn
        have hsub:(Cont.u64s d.cls).sub ((k:Int).toNat*4) (4*1)= .u64s (clsAt d.cls k):=rfl
        refine srR m1_ok fun _ K28=>?_;refine sXUb_4 ?_;refine sX ?_;refine aI (by decide) ?_;refine aI (by simp only[zil];omega) ?_;refine z0e ?_;rw[hsub];refine exI ?_;refine sXUb_4 ?_;refine sX0Ub_5 ?_;refine s_n K28 ?_;refine seq_k fun _ K29=>?_;refine srR m1_ok fun _ K31=>?_
        iterate 3 refine zn0 ?_
        refine sXEUb_13 ?_;refine exB (fun hb3=>?_) (fun hb3=>?_)
        ·try simp only[dQ,reduceIte]at hb3
         iterate 5 refine sN ?_
         refine zn0 ?_;refine s_n K31 ?_;refine z06 (b:=_) rfl (fun _=>?_) (fun h_t55=>?_)
         rotate_left 1
         ·exfalso;simp at h_t55
         have hng:z23 d.cls k=false:=by
          first|(rw[z23,decide_eq_true (show clsAt d.cls k=Z4 from hb3)];rfl)|(rw[z23,decide_eq_false (show ¬ andC (seenL d.cls k) (clsAt d.cls k)=Z4 from h_t55),Bool.and_false])
         refine srR m1_ok fun _ K33=>?_;refine z1c ?_;refine s_n K33 ?_;refine z0b (z02 m1_ok (fun _ _ h=>h) (by first|rfl|assumption) [.tmp 2] rfl ?_);refine rtD ?_
         show SV.c (.bool false)=_
         rw[z3k,clsP,z2w hkn hng,Bool.false_and,Bool.and_false,Bool.false_and]
        ·try simp only[dQ,reduceIte]at hb3
         iterate 2 refine zn1 ?_
         refine zn2 ?_;refine⟨seenL d.cls k,clsAt d.cls k,rfl,⟨z3j _ _,hcl⟩,?_⟩;refine DUb_6 ?_
         first|refine exI ?_|(intro cap6 hcap6;refine exI ?_)
         iterate 2 refine zn1 ?_
         refine zn0 ?_;refine s_n K31 ?_;refine z06 (b:=_) rfl (fun h_t55=>?_) (fun h_t55=>?_)
         ·try simp only[dQ,reduceIte]at h_t55
          have hng:z23 d.cls k=false:=by
           first|(rw[z23,decide_eq_true (show clsAt d.cls k=Z4 from hb3)];rfl)|(rw[z23,decide_eq_false (show ¬ andC (seenL d.cls k) (clsAt d.cls k)=Z4 from h_t55),Bool.and_false])
          refine srR m1_ok fun _ K35=>?_;refine z1c ?_;refine s_n K35 ?_;refine z0b (z02 m1_ok (fun _ _ h=>h) (by first|rfl|assumption) [.tmp 2] rfl ?_);refine rtD ?_
          show SV.c (.bool false)=_
          rw[z3k,clsP,z2w hkn hng,Bool.false_and,Bool.and_false,Bool.false_and]
         ·try simp only[dQ,reduceIte]at h_t55
          refine z0g ?_;apply K29
          have hgood:z23 d.cls k=true:=by simp only[z23];simp[hb3];exact h_t55
          refine z04 m1_ok fun _ K36=>?_
          iterate 2 refine zh8 ?_
          refine ziy ?_;refine⟨seenL d.cls k,clsAt d.cls k,rfl,⟨z3j _ _,hcl⟩,?_⟩;refine DUb_9 ?_
          first|refine exI ?_|(intro cap2 hcap2;refine exI ?_)
          refine sX0Ub_11 ?_;refine s_n K36 ?_;refine z08 ?_;apply K26;refine z04 m1_ok fun _ K37=>?_
          iterate 2 refine z1c ?_
          refine s_n K37 ?_;refine dnS [] id (k+1) ⟨⟨by omega,z2o hk.2 hgood⟩,by omega⟩ [0,1] uUb_0 uUb_0 uUb_0 uUb_0
       ·try simp only[dQ,reduceIte]at h_t43
        refine z0y ?_;refine z03 ?_;refine z03 ?_;refine z0s ?_;apply K20;refine seq_k fun _ K38=>?_
        obtain rfl:k=d.nc:=by omega
        have hclsall:=hk.2
        refine srR m1_ok fun _ K40=>?_;refine z1c ?_;refine z3e ?_;refine⟨seenL d.cls d.nc,rfl,z3j _ _,?_⟩;refine DUb_0 ?_
        first|refine exI ?_|(intro cap1 hcap1;refine exI ?_)
        iterate 2 refine z1c ?_
        refine s_n K40 ?_;refine z06 (b:=_) rfl (fun h_t63=>?_) (fun h_t63=>?_)
        ·try simp only[dQ,reduceIte]at h_t63
         refine srR m1_ok fun _ K42=>?_;refine z1c ?_;refine s_n K42 ?_;refine z0b (z02 m1_ok (fun _ _ h=>h) (by first|rfl|assumption) [.tmp 2] rfl ?_);refine rtD ?_
         show SV.c (.bool false)=_
         have h63:¬ notK (seenL d.cls d.nc)=Z4:=h_t63
         rw[z3k,clsP,decide_eq_false h63,Bool.and_false,Bool.and_false,Bool.false_and]
        ·try simp only[dQ,reduceIte]at h_t63
         refine z0g ?_;apply K38;refine seq_k fun _ K43=>?_;refine srR m1_ok fun _ K45=>?_
         iterate 4 refine z1c ?_
         refine s_n K45 ?_;refine z0a ?_;refine z13 (α:=Nat) (fun k=>[(1,.c (.ptr 0 0)),(3,.c (.int .i64 d.next.length)),(4,.c (.ptr 1 0)),(65,.c (.ds d.next.length (.cells (rowsC d.next)))),(66,.c (.int .i64 d.next.length)),(67,.c (.int .i64 k))]) (fun k=>[(0,.own 65 (dfaC d) 3),(1,.own 148 (.u64s (seenL d.cls d.nc)) 4)]) 2 (fun k=>k≤d.next.length∧(d.next.take k).all (rowOK d.nc d.next.length)=true) (fun k=>d.next.length - k) ?_ ?_
         ·refine dnS [] id 0 ⟨Nat.zero_le _,rfl⟩ [0,1] uUb_0 uUb_0 uUb_0 uUb_0
         ·intro k hk
          refine srR m1_ok fun _ K47=>?_;refine z1c ?_;refine s_n K47 ?_;refine seq_k fun _ K48=>?_;refine z06 (b:=_) rfl (fun h_t68=>?_) (fun h_t68=>?_)
          ·try simp only[dQ,reduceIte]at h_t68
           refine z0g ?_;apply K48;refine seq_k fun _ K49=>?_;refine z0a ?_
           have hkn:k< d.next.length:=by omega
           have hrl:=hw5 _ (z2g (d:=[]) hkn)
           refine srR m1_ok fun _ K51=>?_;refine zh8 ?_;refine ziy ?_;rw[ziz]
           rotate_left 1
           ·first|omega|(simp<;>omega)
           refine exI ?_;refine zh8 ?_;refine s_n K51 ?_;refine seq_k fun _ K52=>?_;refine srR m1_ok fun _ K54=>?_
           iterate 6 refine z1c ?_
           refine s_n K54 ?_;refine z06 (b:=_) rfl (fun h_t76=>?_) (fun h_t76=>?_)
           ·try simp only[dQ,reduceIte]at h_t76
            simp only[Int.toNat_natCast,Nat.mul_one]at h_t76
            refine srR m1_ok fun _ K56=>?_;refine z1c ?_;refine s_n K56 ?_;refine z0b (z02 m1_ok (fun _ _ h=>h) (by first|rfl|assumption) [.tmp 2] rfl ?_);refine rtD ?_
            show SV.c (.bool false)=_
            rw[z3k,zff (d:=[]) hkn (by rw[rowOK,decide_eq_false (fun e=>h_t76 (by simpa using e)),Bool.false_and]),Bool.and_false]
           ·try simp only[dQ,reduceIte]at h_t76
            simp only[Int.toNat_natCast,Nat.mul_one]at h_t76
            refine z0g ?_;apply K52;refine srR m1_ok fun _ K58=>?_
            iterate 3 refine z1c ?_
            refine s_n K58 ?_;refine z0a ?_;refine z13 (α:=Nat) (fun j=>[(1,.c (.ptr 0 0)),(3,.c (.int .i64 d.next.length)),(4,.c (.ptr 1 0)),(65,.c (.ds d.next.length (.cells (rowsC d.next)))),(66,.c (.int .i64 d.next.length)),(67,.c (.int .i64 k)),(8,.c (.ds (d.next.getD k []).length (.ints .i64 (d.next.getD k [])))),(77,.c (.ds (d.next.getD k []).length (.ints .i64 (d.next.getD k [])))),(78,.c (.int .i64 (d.next.getD k []).length)),(79,.c (.int .i64 j))]) (fun j=>[(0,.own 65 (dfaC d) 3),(1,.own 148 (.u64s (seenL d.cls d.nc)) 4)]) 2 (fun j=>j≤(d.next.getD k []).length∧((d.next.getD k []).take j).all (tgtOK d.next.length)=true) (fun j=>(d.next.getD k []).length - j) ?_ ?_
            ·refine dnS [] id 0 ⟨Nat.zero_le _,rfl⟩ [0,1] uUb_0 uUb_0 uUb_0 uUb_0
            ·intro j hj
             refine srR m1_ok fun _ K60=>?_;refine z1c ?_;refine s_n K60 ?_;refine seq_k fun _ K61=>?_;refine z06 (b:=_) rfl (fun h_t80=>?_) (fun h_t80=>?_)
             ·try simp only[dQ,reduceIte]at h_t80
              refine z0g ?_;apply K61;refine seq_k fun _ K62=>?_;refine z0a ?_
              have hjn:j< (d.next.getD k []).length:=by omega
              refine srR m1_ok fun _ K64=>?_
              iterate 3 refine z1c ?_
              refine s_n K64 ?_;refine srR m1_ok fun _ K66=>?_
              iterate 2 refine z1c ?_
              refine z3e ?_;refine exB (fun hb2=>?_) (fun hb2=>?_)
              ·try simp only[dQ,reduceIte]at hb2
               iterate 3 refine sN ?_
               refine z1c ?_;refine s_n K66 ?_;refine z06 (b:=_) rfl (fun _=>?_) (fun h_t89=>?_)
               rotate_left 1
               ·exfalso;simp at h_t89
               have htb:tgtOK d.next.length ((d.next.getD k []).getD j 0)=false:=by
                simp only[tgtOK,Bool.and_eq_false_iff,decide_eq_false_iff_not]
                first|(simp only[Int.toNat_natCast,Nat.mul_one]at hb2 h_t89;omega)|(simp only[Int.toNat_natCast,Nat.mul_one]at hb2;omega)
               refine srR m1_ok fun _ K68=>?_;refine z1c ?_;refine s_n K68 ?_;refine z0b (z02 m1_ok (fun _ _ h=>h) (by first|rfl|assumption) [.tmp 2] rfl ?_);refine rtD ?_
               show SV.c (.bool false)=_
               rw[z3k,zff (d:=[]) hkn (by rw[rowOK,zff (d:=0) hjn htb,Bool.and_false]),Bool.and_false]
              ·try simp only[dQ,reduceIte]at hb2
               iterate 3 refine zbk ?_
               refine z1c ?_;refine s_n K66 ?_;refine z06 (b:=_) rfl (fun h_t89=>?_) (fun h_t89=>?_)
               ·try simp only[dQ,reduceIte]at h_t89
                have htb:tgtOK d.next.length ((d.next.getD k []).getD j 0)=false:=by
                 simp only[tgtOK,Bool.and_eq_false_iff,decide_eq_false_iff_not]
                 first|(simp only[Int.toNat_natCast,Nat.mul_one]at hb2 h_t89;omega)|(simp only[Int.toNat_natCast,Nat.mul_one]at hb2;omega)
                refine srR m1_ok fun _ K70=>?_;refine z1c ?_;refine s_n K70 ?_;refine z0b (z02 m1_ok (fun _ _ h=>h) (by first|rfl|assumption) [.tmp 2] rfl ?_);refine rtD ?_
                show SV.c (.bool false)=_
                rw[z3k,zff (d:=[]) hkn (by rw[rowOK,zff (d:=0) hjn htb,Bool.and_false]),Bool.and_false]
               ·try simp only[dQ,reduceIte]at h_t89
                refine z0g ?_;refine z08 ?_;apply K62
                have htg:tgtOK d.next.length ((d.next.getD k []).getD j 0)=true:=by simp only[tgtOK,Bool.and_eq_true,decide_eq_true_eq];simp only[Int.toNat_natCast,Nat.mul_one]at hb2 h_t89;exact⟨by omega,by omega⟩
                refine z04 m1_ok fun _ K71=>?_
                iterate 2 refine z1c ?_
                refine s_n K71 ?_;refine dnS [] id (j+1) ⟨⟨by omega,z8h (d:=0) hjn hj.2 htg⟩,by omega⟩ [0,1] uUb_0 uUb_0 uUb_0 uUb_0
             ·try simp only[dQ,reduceIte]at h_t80
              refine z0y ?_;refine z03 ?_;refine z03 ?_;refine z0s ?_;refine z08 ?_;apply K49
              have hrow:rowOK d.nc d.next.length (d.next.getD k [])=true:=by
               have h1:=hj.2
               rw[List.take_of_length_le (by omega)]at h1;rw[rowOK,h1,decide_eq_true (by omega)];rfl
              refine z04 m1_ok fun _ K72=>?_
              iterate 2 refine z1c ?_
              refine s_n K72 ?_;refine dnS [] id (k+1) ⟨⟨by omega,z8h (d:=[]) hkn hk.2 hrow⟩,by omega⟩ [0,1] uUb_0 uUb_0 uUb_0 uUb_0
          ·try simp only[dQ,reduceIte]at h_t68
           refine z0y ?_;refine z03 ?_;refine z03 ?_;refine z0s ?_;apply K43;refine srR m1_ok fun _ K74=>?_;refine z1c ?_;refine s_n K74 ?_;refine z0b (z02 m1_ok (fun _ _ h=>h) (by first|rfl|assumption) [.tmp 2] rfl ?_);refine rtD ?_
           show SV.c (.bool true)=_
           have h63:notK (seenL d.cls d.nc)=Z4:=h_t63
           rw[z3k,decide_eq_true hbase,clsP,hclsall,decide_eq_true h63]
           obtain rfl:k=d.next.length:=by omega
           have:=hk.2
           rw[List.take_length]at this;rw[this]
           rfl


end Go.Proofs.YtegdcifghaldoaaDoor

namespace Go.Proofs.YtegdcifghaldoaaDoor
set_option linter.all false
open Go.Ab Go.RowKit

theorem qUc0{a:Prop}(h:a:=by first|exact vcA|(simp[z9z]<;>omega)|(rw[z9z];omega)|exact vcB):a:=h

def bit(x:UInt64)(s:Nat):Bool:=x.toBitVec.getLsbD s
theorem zn4{x:UInt64}{s:Nat}(h:64≤s):bit x s=false:=BitVec.getLsbD_of_ge _ _ h
theorem zn5{x y:UInt64}(h:∀ s,s< 64→bit x s=bit y s):x=y:=UInt64.toBitVec_inj.1 (BitVec.eq_of_getLsbD_eq fun i hi=>h i hi)
@[simp] theorem bit_or(x y:UInt64)(s:Nat):bit (x ||| y) s=(bit x s||bit y s):=by simp[bit]
@[simp] theorem zn6(x y:UInt64)(s:Nat):bit (x &&& y) s=(bit x s&&bit y s):=by simp[bit]
@[simp] theorem zdm(s:Nat):bit 0 s=false:=by simp[bit]
theorem bit_one(s:Nat):bit 1 s=decide (s=0):=by
  show(1#64).getLsbD s=_
  rw[BitVec.getLsbD_one];simp
theorem bit_shl1(k s:Nat):bit (shl64 1 k) s=(decide (s=k)&&decide (k< 64)):=by
  unfold shl64
  by_cases hk:k< 64
  · rw[if_pos hk]
    have e:(1 <<< k.toUInt64:UInt64).toBitVec=(1#64) <<< k:=by
      apply BitVec.eq_of_toNat_eq
      show(1 <<< k.toUInt64:UInt64).toNat=_
      rw[UInt64.toNat_shiftLeft]
      simp[show k%18446744073709551616=k by omega,Nat.mod_eq_of_lt hk]
    rw[bit,e,BitVec.getLsbD_shiftLeft,BitVec.getLsbD_one]
    by_cases hs:s=k
    · subst hs;simp[hk]
    · by_cases h1:s< k
      · simp[h1,hs]
      · simp[h1,hs,hk];omega
  · rw[if_neg hk];simp[hk]
theorem zn7(x:UInt64){s:Nat}(h:s< 64):bit (-x) s=((bit x s) ^^ decide (∃ j,j< s∧bit x j=true)):=by
  have e:(-x).toBitVec= -x.toBitVec:=by simp
  rw[bit,e,BitVec.getLsbD_neg]
  simp only[h,decide_true,Bool.true_and]
  rfl
theorem zj0{p:Nat→Bool}:∀ n,(∃ s,s< n∧p s=true)→∃ k,k< n∧p k=true∧∀ j,j< k→p j=false
  |0,⟨s,h,_⟩=>absurd h (Nat.not_lt_zero s)
  | n +1,⟨s,h,hp⟩=>by
    by_cases he:∃ s,s< n∧p s=true
    · obtain⟨k,h1,h2⟩:=zj0 n he
      exact⟨k,by omega,h2⟩
    · refine⟨s,h,hp,fun j hj=>?_⟩
      cases hpj:p j with
      |false=>rfl
      |true=>exact absurd ⟨j,by omega,hpj⟩ he
theorem low_bit{x:UInt64}(h:x≠0):∃ k,k< 64∧bit x k=true∧∀ j,j< k→bit x j=false:=by
  refine zj0 64 ?_;refine Classical.byContradiction fun hn=>h (zn5 fun s hs=>?_);rw[zdm]
  cases hb:bit x s with
  |false=>rfl
  |true=>exact absurd ⟨s,hs,hb⟩ hn
theorem zha{x:UInt64}{k:Nat}(hk:k< 64)(h1:bit x k=true)(h2:∀ j,j< k→bit x j=false):x &&& -x=shl64 1 k:=by
  refine zn5 fun s hs=>?_;rw[zn6,zn7 x hs,bit_shl1]
  by_cases e:s=k
  · subst e
    have:¬ ∃ j,j< s∧bit x j=true:=fun⟨j,hj,hb⟩=>by rw[h2 j hj]at hb;cases hb
    simp[h1,this,hk]
  · by_cases hlt:s< k
    · simp[h2 s hlt,e]
    · have:∃ j,j< s∧bit x j=true:=⟨k,by omega,h1⟩
      cases bit x s<;>simp[this,e]
theorem bit_pred{x:UInt64}{s:Nat}(hs:s< 64):bit (x - 1) s= !(bit (-x) s):=by
  have e:(x - 1).toBitVec= ~~~(-x).toBitVec:=by
    rw[show(-x).toBitVec= -x.toBitVec by simp,BitVec.not_neg];rfl
  rw[bit,e,BitVec.getLsbD_not]
  simp[hs,bit]
theorem zfh {x:UInt64} {k:Nat} (hk:k< 64) (h1:bit x k=true) (h2:∀ j,j< k→bit x j=false) (s:Nat):bit (x &&& (x - 1)) s=(bit x s&& !decide (s=k)):=by
  by_cases hs:s< 64
  · rw[zn6,bit_pred hs,zn7 x hs]
    by_cases e:s=k
    · subst e
      have:¬ ∃ j,j< s∧bit x j=true:=fun⟨j,hj,hb⟩=>by rw[h2 j hj]at hb;cases hb
      simp[h1,this]
    · by_cases hlt:s< k
      · simp[h2 s hlt]
      · have:∃ j,j< s∧bit x j=true:=⟨k,by omega,h1⟩
        cases bit x s<;>simp[this,e]
  · rw[zn4 (by omega),zn4 (x:=x) (by omega)];rfl
theorem shr58_lt(y:UInt64):(shr64 y 58).toNat< 64:=by
  have:=y.toNat_lt
  simp only[shr64]
  rw[if_pos (by decide),UInt64.toNat_shiftRight]
  show y.toNat >>> (58%64)< 64
  rw[Nat.shiftRight_eq_div_pow]
  show y.toNat / 288230376151711744< 64
  omega
def mulT(x:UInt64):UInt64:=(x &&& -x)*285870213051353865
def shT(x:UInt64):UInt64:=shr64 (mulT x) 58
theorem shT_lt(x:UInt64):(shT x).toNat< 64:=shr58_lt _
def tzN(x:UInt64):Nat:=if x=0 then 64 else(z32.getD (shT x).toNat 0).toNat
theorem tz_table:∀ k:Fin 64,(z32.getD (shr64 (shl64 1 k.val*285870213051353865) 58).toNat 0).toNat=k.val:=by decide+kernel
theorem tzN_eq{x:UInt64}{k:Nat}(hk:k< 64)(h1:bit x k=true)(h2:∀ j,j< k→bit x j=false):tzN x=k:=by
  have hx:x≠0:=fun e=>by rw[e,zdm]at h1;cases h1
  rw[tzN,if_neg hx,shT,mulT,zha hk h1 h2];exact tz_table ⟨k,hk⟩
theorem z9z:(Cont.u8s z32).len=64:=by decide
attribute [local irreducible] z32
def tzS:QSpec:=fun vs K=>∃ x:UInt64,vs=[.c (.u64 x)]∧K (.c (.int .i64 (tzN x)))
theorem tz_ok:z11 Tryd.prog gl 111 tzS:=by
 refine z0u (Γ:=g0) (N:=14) Tryd.func111 rfl rfl fun vs K h=>?_;obtain⟨x,rfl,h⟩:=h;refine⟨_,h,rfl,by simp,fun w I=>?_⟩;refine seq_k fun _ K1=>?_;refine z04 g0_ok fun _ K2=>?_;refine sS1 ?_;refine s_n K2 ?_;apply K1;refine seq_k fun _ K3=>?_;refine seq_k fun _ K4=>?_;refine z04 g0_ok fun _ K5=>?_;refine sS1 ?_;refine sS fun _ hS=>?_;(repeat refine aI (by first|exact vcA|(simp<;>omega)|exact vcB) ?_);apply hS;clear hS;refine s_n K5 ?_;apply K4;refine z06 (b:=_) rfl (fun h_t4=>?_) (fun h_t4=>?_)
 ·try simp only[dQ,reduceIte]at h_t4
  refine seq_k fun _ K6=>?_;refine z04 g0_ok fun _ K7=>?_;refine sS1 ?_;refine s_n K7 ?_;apply K6;refine z0b (z02 g0_ok (fun _ _ h=>h) (by first|rfl|assumption) [.tmp 2] rfl ?_)
  repeat refine aI (by first|omega|exact trivial|rfl|(simp<;>omega)) ?_
  try refine z0p (by first|omega|exact trivial|rfl|(simp<;>omega)) ?_
  show SV.c (.int .i64 64)=_
  rw[tzN,if_pos (by simpa using h_t4)]
  rfl
 ·try simp only[dQ,reduceIte]at h_t4
  refine z0g ?_;apply K3;refine seq_k fun _ K8=>?_
  have hVe:(if false=true then shl64 (mulT x) (((UInt64.ofNat (Int.toNat 58)).toNat:Int)).toNat else shr64 (mulT x) (((UInt64.ofNat (Int.toNat 58)).toNat:Int)).toNat:UInt64)=shT x:=by rw[if_neg (by decide)];rfl
  have hsh:(if false=true then shl64 (mulT x) (((UInt64.ofNat (Int.toNat 58)).toNat:Int)).toNat else shr64 (mulT x) (((UInt64.ofNat (Int.toNat 58)).toNat:Int)).toNat:UInt64).toNat< 64:=by rw[hVe];exact shT_lt x
  refine z04 g0_ok fun _ K9=>?_
  iterate 2 refine sS1 ?_
  refine sS fun _ hS=>?_;(repeat refine aI qUc0 ?_);apply hS;clear hS;refine sS fun _ hS=>?_;(repeat refine aI qUc0 ?_);apply hS;clear hS;refine sS fun _ hS=>?_;refine hS (.c (.u64 (mulT x))) _ _ ?_;clear hS;refine sS fun _ hS=>?_;(repeat refine aI qUc0 ?_);apply hS;clear hS;refine sS fun _ hS=>?_;(repeat refine aI qUc0 ?_);apply hS;clear hS;refine sS fun _ hS=>?_;(repeat refine aI qUc0 ?_);(first|apply hS|(refine z0d qUc0 ?_;apply hS)|(refine z0e ?_;apply hS));clear hS;refine sS fun _ hS=>?_;(repeat first|refine aI qUc0 ?_|refine z0d qUc0 ?_|refine z0e ?_);apply hS;clear hS;refine sS1 ?_;refine s_n K9 ?_;apply K8;refine z0b (z02 g0_ok (fun _ _ h=>h) (by first|rfl|assumption) [.tmp 2] rfl ?_)
  repeat refine aI (by first|omega|exact trivial|rfl|(simp<;>omega)) ?_
  try refine z0p (by first|omega|exact trivial|rfl|(simp<;>omega)) ?_
  have h0:x≠0:=by simpa using h_t4
  rw[tzN,if_neg h0]
  show SV.c (.int .i64 (((z32.getD (0+(((if false=true then shl64 (mulT x) (((UInt64.ofNat (Int.toNat 58)).toNat:Int)).toNat else shr64 (mulT x) (((UInt64.ofNat (Int.toNat 58)).toNat:Int)).toNat:UInt64).toNat:Int)).toNat*1) 0).toNat:Nat):Int))=_
  rw[hVe,Nat.zero_add,Nat.mul_one,Int.toNat_natCast]


end Go.Proofs.YtegdcifghaldoaaDoor

namespace Go.Proofs.YtegdcifghaldoaaDoor
set_option linter.all false
open Go.Ab Go.RowKit

section
variable {a b:Prop}
theorem qUd0(h:a:=by first|exact vcA|(simp[hc]<;>omega)|exact vcB):a:=h
theorem qUd1(h:a:=by first|exact vcA|(simp[hc4]<;>omega)|exact vcB):a:=h
theorem qUd2(h:a:=by first|exact vcA|(simp[hc4]<;>omega)|(simp[hc4];omega)|exact vcB):a:=h
theorem qUd3(h:a:=by first|omega|exact trivial|rfl|exact z4m.mpr ⟨by omega,by omega⟩|decide|(simp;omega)):a:=h
theorem uUd_0(h:a:=by
    repeat' (first|exact trivial|refine aI ?_ ?_|exact cC0|refine low_cons' ?_ ?_|exact cC1|fail)):a:=h
theorem uUd_1(h:a:=by
    repeat' (first|exact trivial|refine aI ?_ ?_|exact cC0|refine low_cons' ?_ ?_|exact cC1|fail)
    all_goals first|(show(_:UInt64)=_;rfl)|skip):a:=h
theorem DUd_0(kZ:b)(h:HidB b→a:=by intro kZ;(repeat first|refine aI qUd0 ?_|refine z0d qUd0 ?_|refine z09 qUd0 ?_|refine z0p qUd0 ?_|refine z0e ?_);exact kZ.out):a:=h ⟨kZ⟩
theorem sXUd_1(kZ:b)(h:HidB b→a:=by intro kZ;refine sX ?_;refine DUd_0 ?_;refine exI ?_;exact kZ.out):a:=h ⟨kZ⟩
theorem DUd_2(kZ:b)(h:HidB b→a:=by intro kZ;(repeat first|refine aI qUd1 ?_|refine z0d qUd1 ?_|refine z09 qUd1 ?_|refine z0p qUd1 ?_|refine z0e ?_);exact kZ.out):a:=h ⟨kZ⟩
theorem zfi(kZ:b)(h:HidB b→a:=by intro kZ;refine sX ?_;refine DUd_2 ?_;refine exI ?_;exact kZ.out):a:=h ⟨kZ⟩
theorem DUd_4(kZ:b)(h:HidB b→a:=by intro kZ;(repeat first|refine aI qUd2 ?_|refine z0d qUd2 ?_|refine z09 qUd2 ?_|refine z0p qUd2 ?_|refine z0e ?_);exact kZ.out):a:=h ⟨kZ⟩
theorem sXUd_5(kZ:b)(h:HidB b→a:=by intro kZ;refine sX ?_;refine DUd_4 ?_;refine exI ?_;exact kZ.out):a:=h ⟨kZ⟩
end
open Go.Aut
def bitsL(x:UInt64):List Nat:=(List.range 64).filter (bit x)
theorem zn8{x:UInt64}{s:Nat}:s∈bitsL x↔s< 64∧bit x s=true:=by rw[bitsL,List.mem_filter,List.mem_range]
theorem zfj(x:UInt64):(bitsL x).Pairwise (· < ·):=List.Pairwise.filter _ (List.pairwise_lt_range (n:=64))
def Rem(x:UInt64)(j:Nat)(y:UInt64):Prop:=∀ s,bit y s=true↔s∈(bitsL x).drop j
theorem rem_zero(x:UInt64):Rem x 0 x:=fun s=>by
  rw[List.drop_zero,zn8]
  constructor
  · intro h
    refine⟨?_,h⟩
    rcases Nat.lt_or_ge s 64 with h1|h1
    · exact h1
    · rw[zn4 h1]at h;cases h
  · exact fun h=>h.2
theorem rem_eq{x y:UInt64}{j:Nat}(h:Rem x j y)(hy:y=0):(bitsL x).length≤j:=by
  rcases Nat.lt_or_ge j (bitsL x).length with h1|h1
  · have h2:=(h (bitsL x)[j]).2 (by rw[List.drop_eq_getElem_cons h1];exact List.mem_cons_self)
    rw[hy,zdm]at h2;cases h2
  · exact h1
theorem rem_ne{x y:UInt64}{j:Nat}(h:Rem x j y)(hy:y≠0):j< (bitsL x).length∧tzN y=(bitsL x).getD j 0∧tzN y< 64∧Rem x (j+1) (y &&& (y - 1)):=by
  obtain⟨k,hk,h1,h2⟩:=low_bit hy
  have hm:=(h k).1 h1
  have hj:j< (bitsL x).length:=by
    rcases Nat.lt_or_ge j (bitsL x).length with h3|h3
    · exact h3
    · rw[List.drop_of_length_le h3]at hm;cases hm
  have hd:=List.drop_eq_getElem_cons hj
  have hs:((bitsL x).drop j).Pairwise (· < ·):=(zfj x).sublist (List.drop_sublist _ _)
  rw[hd]at hs hm
  have hkj:k=(bitsL x)[j]:=by
    rcases List.mem_cons.1 hm with e|e
    · exact e
    · have h3:=(List.pairwise_cons.1 hs).1 k e
      have h4:=(h (bitsL x)[j]).2 (by rw[hd];exact List.mem_cons_self)
      rw[h2 _ h3]at h4;cases h4
  have hg:(bitsL x).getD j 0=k:=by rw[z6b hj];exact hkj.symm
  refine⟨hj,by rw[hg];exact tzN_eq hk h1 h2,by rw[tzN_eq hk h1 h2];exact hk,fun s=>?_⟩;rw[zfh hk h1 h2,Bool.and_eq_true,h s,hd,List.mem_cons]
  constructor
  · rintro ⟨e|e,h3⟩
    · simp[e,hkj]at h3
    · exact e
  · intro e
    refine⟨.inr e,?_⟩
    have h3:=(List.pairwise_cons.1 hs).1 s e
    simp;omega
def wordB(i:Nat)(x:UInt64):List UInt8:=(bitsL x).map fun s=>UInt8.ofNat (64*i+s)
def yl(c:List UInt64)(i:Nat):List UInt8:=(List.range i).flatMap fun i=>wordB i (c.getD i 0)
theorem zhb(c:List UInt64)(i:Nat):yl c (i+1)=yl c i++wordB i (c.getD i 0):=by simp[yl,List.range_succ]
theorem range256:List.range 256=(List.range 4).flatMap fun i=>(List.range 64).map fun s=>64*i+s:=by decide+kernel
theorem zn9(c:List UInt64):yl c 4=z14 c:=by
  rw[z14,range256,List.filter_flatMap,List.map_flatMap,yl,List.flatMap_eq_foldl,List.flatMap_eq_foldl]<;>skip
  congr 1
  funext l i
  congr 1
  rw[wordB,bitsL,List.filter_map,List.map_map]
  have e:(List.range 64).filter (bit (c.getD i 0))=(List.range 64).filter ((fun b=>(c.getD (b / 64) 0).toNat.testBit (b%64)) ∘ fun s=>64*i+s):=by
    refine List.filter_congr fun s hs=>?_
    have hs:=List.mem_range.1 hs
    show _=(c.getD ((64*i+s) / 64) 0).toNat.testBit ((64*i+s)%64)
    rw[show(64*i+s) / 64=i by omega,show(64*i+s)%64=s by omega];rfl
  rw[e];rfl
theorem zna(c:List UInt64){i:Nat}(hi:i< 4):∃ r,z14 c=yl c i++wordB i (c.getD i 0)++r:=by
  have key:∀ d,∃ r,yl c (i+1+d)=yl c (i+1)++r:=by
    intro d
    induction d with
    |zero=>exact⟨[],by simp⟩
    | succ d ih=>
      obtain⟨r,hr⟩:=ih;exact⟨r++wordB (i+1+d) (c.getD (i+1+d) 0),by rw[←Nat.add_assoc,zhb,hr,List.append_assoc]⟩
  obtain⟨r,hr⟩:=key (3 - i);rw[show i+1+(3 - i)=4 by omega,zn9,zhb]at hr;exact⟨r,hr⟩
theorem yl_get(c:List UInt64){i j:Nat}(hi:i< 4)(hj:j< (bitsL (c.getD i 0)).length):(z14 c)[(yl c i).length+j]? =some (UInt8.ofNat (64*i+(bitsL (c.getD i 0)).getD j 0)):=by
  obtain⟨r,hr⟩:=zna c hi
  have hl:(wordB i (c.getD i 0)).length=(bitsL (c.getD i 0)).length:=by simp[wordB]
  rw[hr,List.append_assoc,List.getElem?_append_right (by omega),List.getElem?_append_left (by omega),Nat.add_sub_cancel_left,wordB,List.getElem?_map,at_of (d:=0) hj];rfl
theorem znb(n:Nat):UInt8.ofInt (n:Int)=UInt8.ofNat n:=by
  apply UInt8.toNat_inj.1
  simp[UInt8.ofInt]
  omega
def bXs(c:List UInt64):List (List SV):=(z14 c).map fun b=>[.c (.u8 b)]
theorem z9a(c:List UInt64):(bXs c).length=(z14 c).length:=by simp[bXs]
theorem bXs_get(c:List UInt64){i j:Nat}{y:UInt64}(hi:i< 4)(hr:Rem (c.getD i 0) j y)(hy:y≠0):(bXs c)[(yl c i).length+j]? =some [.c (.u8 (UInt8.ofInt (64*(i:Int)+(tzN y:Int))))]:=by
  obtain⟨h1,h2,h3,_⟩:=rem_ne hr hy;rw[bXs,List.getElem?_map,yl_get c hi h1, ←h2,show(64*(i:Int)+(tzN y:Int))=((64*i+tzN y:Nat):Int) by omega,znb];rfl
def boxK(c:List UInt64):Cell:=.dp (.u64s c) 0
theorem zad(c:List UInt64):SV.low 0 (.c (.clo 110 [boxK c])):=fun x hx=>by
  rw[List.mem_singleton.1 hx];trivial
def zj1:QSpec:=fun vs K=>∃ c:List UInt64,vs=[.agg (.u64s c)]∧c.length=4∧K (.c (.clo 110 [boxK c]))
theorem zl5:z3u Tryd.prog gl 105 zj1:=by
 refine z3p (Γ:=g0) (N:=4) Tryd.func105 rfl rfl fun vs K h=>?_;obtain⟨c,rfl,hc,h⟩:=h;refine⟨_,h,zad c,by simp,fun w I=>?_⟩;refine srR g0_ok fun _ K2=>?_
 iterate 2 refine sXUd_1 ?_
 refine s_n K2 ?_;refine srR g0_ok fun _ K4=>?_
 iterate 2 refine sXUd_1 ?_
 refine s_n K4 ?_;refine z0b (z19 g0_ok (fun _ _ h=>h) (zad c) [0] [.tmp 2] rfl ?_)
 repeat' (first|exact trivial|refine aI ?_ ?_|exact cC0|refine low_cons' ?_ ?_|exact cC1|fail)
 all_goals first|exact Nat.one_pos|(simp[hc];done)|skip

noncomputable def gi:Ctx:={ P:=Tryd.prog,ty:=ty,glob:=gl,fs:=[(111,.flat tzS)] }
theorem gi_ok:gi.OK:=⟨tyOK,⟨⟨z07 Tryd.func111 kQf rfl,tz_ok⟩,trivial⟩,mixed⟩
@[simp] theorem gi_ty:gi.ty=ty:=rfl


attribute [local irreducible] z14 tzN bitsL
theorem znc (c:List UInt64) (hc4:c.length=4):SeqsOK Tryd.prog gl 110 [.c (boxK c)] (bXs c):=by
  intro I W cs l hG hlt hargs J Z hab habz hround hJ0;rw[show(#[.func (.yield l) #[] #[]]++cs.toArray:Array Value)=(.func (.yield l) #[] #[]::cs).toArray by simp];refine z7v (Γ:=gi) (N:=26) (C:=pureC W I) (β:=noVal) (n:=0) (H:=[]) (vs:=[.c (.raw (.func (.yield l) #[] #[])),.c (boxK c)]) (xs:=.func (.yield l) #[] #[]::cs) Tryd.func110 rfl rfl (by simp) (HeapOK.init hlt) hG ⟨Nat.le_refl _,fun i hi=>absurd hi (Nat.not_lt_zero i)⟩ rfl ⟨by simpa using hargs.1,fun j v hv=>?_⟩ ?_
  · cases j with
    |zero=>cases hv;exact⟨_,rfl,(SV.rel_flat (x:=.c (.raw _)) rfl).2 rfl,SV.flat_low rfl⟩
    |succ j=>exact hargs.2 j v hv
  refine srR gi_ok fun _ K2=>?_
  iterate 2 refine zfi ?_
  refine s_n K2 ?_;refine z0a ?_;refine leW [] id [(0,.c (.raw (.func (.yield l) #[] #[]))),(5,.agg (.u64s c)),(6,.c (.int .i64 ((0:Nat):Int)))] [] 0 [] ?_ ?_ ?_ ?_ ?_
  · exact uUd_0
  · exact uUd_0
  · exact uUd_0
  · exact uUd_0
  refine zmb (J:=J (yl c 0).length) hJ0 (hab _) fun a1 w1 hA=>?_;refine zb7 (fun i a w=>i≤4∧AtJ gi 26 (J (yl c i).length) [(0,.c (.raw (.func (.yield l) #[] #[]))),(5,.agg (.u64s c)),(6,.c (.int .i64 ((i:Nat):Int)))] a w) 4 (fun _ _ _ h=>h.1) ?_ 0 a1 w1 ⟨Nat.zero_le _,hA⟩;intro i a w ⟨hi,hA⟩;refine zh3 hA (List.forall_mem_cons.2 ⟨SV.flat_low rfl,List.forall_mem_cons.2 ⟨SV.flat_low rfl,List.forall_mem_cons.2 ⟨SV.flat_low rfl,fun _ h=>by cases h⟩⟩⟩) fun D w0 hJk=>?_;refine srR gi_ok fun _ K4=>?_;refine zfi ?_;refine s_n K4 ?_;refine seq_k fun _ K5=>?_;refine z06 (b:=_) rfl (fun h_t7=>?_) (fun h_t7=>?_)
  · try simp only[dQ,reduceIte]at h_t7
    refine z0g ?_;apply K5;refine seq_kC fun _ K6=>?_;refine z0a ?_;refine srR gi_ok fun _ K8=>?_
    iterate 4 refine sXUd_5 ?_
    refine s_n K8 ?_
    have hi4:i< 4:=by omega
    refine z0a ?_;refine leW [] id [(0,.c (.raw (.func (.yield l) #[] #[]))),(5,.agg (.u64s c)),(6,.c (.int .i64 ((i:Nat):Int))),(3,.c (.int .i64 ((i:Nat):Int))),(4,.c (.u64 (c.getD i 0)))] [] 0 [] ?_ ?_ ?_ ?_ ?_
    · exact uUd_1
    · exact uUd_1
    · exact uUd_1
    · exact uUd_1
    refine zmb (J:=J ((yl c i).length+0)) hJk (hab _) fun a2 w2 hA2=>?_;refine zb7 (fun j a w=>∃ y,j≤(bitsL (c.getD i 0)).length∧Rem (c.getD i 0) j y∧AtJ gi 26 (J ((yl c i).length+j)) [(0,.c (.raw (.func (.yield l) #[] #[]))),(5,.agg (.u64s c)),(6,.c (.int .i64 ((i:Nat):Int))),(3,.c (.int .i64 ((i:Nat):Int))),(4,.c (.u64 y))] a w) (bitsL (c.getD i 0)).length (fun _ _ _ ⟨_,h,_⟩=>h) ?_ 0 a2 w2 ⟨_,Nat.zero_le _,rem_zero _,hA2⟩;intro j a w ⟨y,hj,hy,hA3⟩;refine zh3 hA3 (List.forall_mem_cons.2 ⟨SV.flat_low rfl,List.forall_mem_cons.2 ⟨SV.flat_low rfl,List.forall_mem_cons.2 ⟨SV.flat_low rfl,List.forall_mem_cons.2 ⟨SV.flat_low rfl,List.forall_mem_cons.2 ⟨SV.flat_low rfl,fun _ h=>by cases h⟩⟩⟩⟩⟩) fun D2 w3 hJj=>?_;refine seq_k fun _ K9=>?_;refine srR gi_ok fun _ K11=>?_
    iterate 2 refine zfi ?_
    refine s_n K11 ?_;refine z06 (b:=_) rfl (fun h_t11=>?_) (fun h_t11=>?_)
    · try simp only[dQ,reduceIte]at h_t11
      refine z0g ?_;apply K9
      have hy0:y≠0:=by simpa using h_t11
      obtain⟨hr1,hr2,hr3,hr4⟩:=rem_ne hy hy0;refine z0a ?_;refine zmb (J:=J ((yl c i).length+j)) hJj (hab _) fun a4 w4 hA4=>?_;refine wp_seq ?_;refine wp_seq ?_;refine zde (J:=J ((yl c i).length+j)) (J':=J ((yl c i).length+(j+1))) (Z:=Z) gi_ok (hab _) habz (hab _) 7 rfl rfl rfl rfl rfl (by decide) (ys:=[.c (.u8 (UInt8.ofInt (64*(i:Int)+(tzN y:Int))))]) (l:=l) (fun D w v m hj hv=>hround _ D w _ v m (bXs_get c hi4 hy hy0) hj hv) (args:=[.tmp 18]) rfl (E2:=fun r=>[(0,.c (.raw (.func (.yield l) #[] #[]))),(5,.agg (.u64s c)),(6,.c (.int .i64 ((i:Nat):Int))),(3,.c (.int .i64 ((i:Nat):Int))),(4,.c (.u64 y)),(20,.c (.bool (!r)))]) (fun n=>?_) hA4 (fun a5 w5 hA5=>?_) (fun a5 w5 hA5=>?_)
      · simp only[List.take_succ_cons,List.take_zero,List.drop_succ_cons,List.drop_zero]
        refine z5r rfl (by decide) rfl (by intro c h;cases h) fun _ hS=>?_
        repeat refine aI qUd3 ?_
        apply hS;clear hS;refine z5r rfl (by decide) rfl (by intro c h;cases h) fun _ hS=>?_
        repeat refine aI qUd3 ?_
        apply hS;clear hS;refine z5r rfl (by decide) rfl (by intro c h;cases h) fun _ hS=>?_
        repeat refine aI qUd3 ?_
        apply hS;clear hS;refine z5r rfl (by decide) rfl (by intro c h;cases h) fun _ hS=>?_
        repeat refine aI qUd3 ?_
        apply hS;clear hS;refine z5r rfl (by decide) rfl (by intro c h;cases h) fun _ hS=>?_;refine⟨y,rfl,?_⟩
        repeat refine aI qUd3 ?_
        apply hS;clear hS;refine z5r rfl (by decide) rfl (by intro c h;cases h) fun _ hS=>?_
        repeat refine aI qUd3 ?_
        apply hS;clear hS;refine z5r rfl (by decide) rfl (by intro c h;cases h) fun _ hS=>?_
        repeat refine aI qUd3 ?_
        apply hS;clear hS;refine y_nil ?_;refine⟨rfl,rfl,fun y hy=>?_,fun r=>?_⟩
        · rw[List.mem_singleton.1 hy];trivial
        refine z5r rfl (by decide) rfl (by intro c h;cases h) fun _ hS=>?_;apply hS;clear hS;refine y_nil ?_;exact Env.sub_of (List.forall_mem_cons.2 ⟨rfl,List.forall_mem_cons.2 ⟨rfl,List.forall_mem_cons.2 ⟨rfl,List.forall_mem_cons.2 ⟨rfl,List.forall_mem_cons.2 ⟨rfl,List.forall_mem_cons.2 ⟨rfl,fun _ h=>by cases h⟩⟩⟩⟩⟩⟩)
      · simp only[Exit.then]
        refine zh3 hA5 (List.forall_mem_cons.2 ⟨SV.flat_low rfl,List.forall_mem_cons.2 ⟨SV.flat_low rfl,List.forall_mem_cons.2 ⟨SV.flat_low rfl,List.forall_mem_cons.2 ⟨SV.flat_low rfl,List.forall_mem_cons.2 ⟨SV.flat_low rfl,List.forall_mem_cons.2 ⟨SV.flat_low rfl,fun _ h=>by cases h⟩⟩⟩⟩⟩⟩) fun D3 w6 hJ3=>?_;refine z06 (b:=false) rfl (fun h=>absurd h (by decide)) (fun _=>?_);refine z0g ?_;refine WP_then ?_;refine z04 gi_ok fun _ K12=>?_
        iterate 5 refine zfi ?_
        refine s_n K12 ?_;refine z08 ?_;intro β I a w hS;exact⟨_,by omega,hr4,(hS.atJ hJ3 (hab _)).sub (Env.sub_of (List.forall_mem_cons.2 ⟨rfl,List.forall_mem_cons.2 ⟨rfl,List.forall_mem_cons.2 ⟨rfl,List.forall_mem_cons.2 ⟨rfl,List.forall_mem_cons.2 ⟨rfl,fun _ h=>by cases h⟩⟩⟩⟩⟩))⟩
      · simp only[Exit.then]
        refine hA5.wp fun D3 w3 n3 hJ3=>?_;refine z06 (b:=true) rfl (fun _=>?_) (fun h=>absurd h (by decide));exact z0b (zmn (fn:=Tryd.f110) (R:=fun e w'=>(∃ v,e= .returned v)∧∃ D,J (bXs c).length D w'∨Z D w') gi_ok (fun _ _ h=>h) rfl rfl fun β I a w hS=>⟨⟨_,rfl⟩,I,.inr (habz _ _ _ _ _ _ _ hJ3 hS.heap)⟩)
      skip
    · try simp only[dQ,reduceIte]at h_t11
      refine z0y ?_;refine z03 ?_;refine z03 ?_;refine z0s ?_
      have hjl:=rem_eq hy (by simpa using h_t11)
      have hJn:J (yl c (i+1)).length D2 w3:=by
        rw[zhb,List.length_append,wordB,List.length_map,show(bitsL (c.getD i 0)).length=j by omega];exact hJj
      refine z08 ?_;refine K6 _ _ _ _ ?_;refine z04 gi_ok fun _ K13=>?_
      iterate 2 refine zfi ?_
      refine s_n K13 ?_;intro β I a w hS;exact⟨by omega,(hS.atJ hJn (hab _)).sub (Env.sub_of (List.forall_mem_cons.2 ⟨rfl,List.forall_mem_cons.2 ⟨rfl,List.forall_mem_cons.2 ⟨rfl,fun _ h=>by cases h⟩⟩⟩))⟩
    skip
  · try simp only[dQ,reduceIte]at h_t7
    refine z0y ?_;refine z03 ?_;refine z03 ?_;refine z0s ?_
    obtain rfl:i=4:=by omega
    refine z9x gi_ok rfl rfl fun β I a w hS=>⟨⟨_,rfl⟩,I,.inl ?_⟩;rw[z9a, ←zn9];exact hab _ _ _ _ _ _ _ _ hJk hS.heap
  skip

end Go.Proofs.YtegdcifghaldoaaDoor

namespace Go.Proofs.YtegdcifghaldoaaDoor
set_option linter.all false
open Go.Ab Go.RowKit

theorem qUe1{a:Prop}(h:a:=by first|exact vcA|(simp<;>omega)|(refine⟨by omega,by omega,trivial⟩)|(simp<;>omega)|exact vcB):a:=h
theorem uUe0{a:Prop}(h:a:=by
    repeat' (first|exact trivial|refine aI ?_ ?_|exact cC0|refine low_cons' ?_ ?_|exact cC1|fail)
    all_goals first|omega|(show(_:List UInt8)=_;first|exact z8i hk|(rw[List.nil_append];exact z8i hk)|rfl|(simp;done))|exact SV.low_mono (Nat.zero_le _) (zad c)|(simp;done)|(simp<;>omega)|skip):a:=h

open Go.Aut
theorem znd{c:List UInt64}{k:Nat}{x:List SV}(h:(bXs c)[k]? =some x):k< (z14 c).length∧x=[.c (.u8 ((z14 c).getD k 0))]:=by
  rw[bXs,List.getElem?_map]at h
  have hk:k< (z14 c).length:=by
    rcases Nat.lt_or_ge k (z14 c).length with h1|h1
    · exact h1
    · rw[List.getElem?_eq_none h1]at h;cases h
  rw[at_of (d:=0) hk]at h;exact⟨hk,(Option.some.inj h).symm⟩
theorem bXs_one{c:List UInt64}:∀ x∈bXs c,x.length=1:=fun x hx=>by
  obtain⟨k,_,rfl⟩:=List.mem_map.1 hx;rfl
theorem z8i{l:List UInt8}{k:Nat}(h:k< l.length):l.take k++[l.getD k 0]=l.take (k+1):=by rw[List.take_add_one,at_of (d:=0) h];rfl
attribute [local irreducible] z14
def zne:QSpec:=fun vs K=>∃ c:List UInt64,vs=[.c .nils,.c (.clo 110 [boxK c])]∧c.length=4∧K (.c (.ds (z14 c).length (.u8s (z14 c))))
theorem znf:z3u Tryd.prog gl 109 zne:=by
 refine data_ofM (Γ:=g0) (N:=13) Tryd.func109 rfl rfl fun vs K h=>?_;obtain⟨c,rfl,hc,h⟩:=h;refine⟨_,h,trivial,by simp,fun w I=>?_⟩;refine seq_k fun _ K1=>?_;refine z04 g0_ok fun _ K2=>?_;refine sS fun _ hS=>?_;(repeat refine aI qUa0 ?_);apply hS;clear hS;refine sS1 ?_;refine s_n K2 ?_;apply K1;refine seq_kC fun _ K3=>?_;refine seq_k fun _ K4=>?_;refine z04 g0_ok fun _ K5=>?_;refine sS1 ?_;refine s_n K5 ?_;apply K4;refine WP_nilat 0 0 5 (.u8s []) rfl rfl rfl trivial ?_;refine leW [] id [(2,.c (.ptr 0 0)),(6,.c (.clo 110 [boxK c]))] [(0,.own 28 (.cells [.slice 1 0 0 0]) 1),(1,.own 5 (.u8s ((z14 c).take 0)) 0)] 2 [0,1] ?_ ?_ ?_ ?_ ?_
 ·exact uUe0
 ·exact uUe0
 ·exact uUe0
 ·exact uUe0
 refine z0a ?_;refine zl0 g0_ok (α:=Nat) (caps:=[boxK c]) (xs:=bXs c) (z07 Tryd.func110 kQf rfl) (znc c hc) rfl (fun v hv=>?_) ⟨by decide,by decide,bXs_one⟩ (.exit 0) rfl 1 (by omega) (Nat.zero_le _) ?_ (fun k y=>[(0,.own 28 (.cells [.slice 1 0 k y]) 1),(1,.own 5 (.u8s ((z14 c).take k)) y)]) (fun k y=>k≤(z14 c).length∧k≤y) 0 ?_ ⟨Nat.zero_le _,Nat.le_refl _⟩ (fun k y=>[(2,.c (.ptr 0 0)),(6,.c (.clo 110 [boxK c])),(5,.c (.u8 ((z14 c).getD k 0)))]) (fun k y=>[(0,.own 28 (.cells [.slice 1 0 k y]) 1),(1,.own 5 (.u8s ((z14 c).take k)) y)]) (fun k y=>False) ?_ ?_ ?_ ?_
 ·rw[List.mem_singleton.1 hv]
  trivial
 ·intro i v hv
  refine Env.low_get (n:=1) (E:=[(2,.c (.ptr 0 0)),(6,.c (.clo 110 [boxK c]))]) ?_ hv
  repeat' (first|exact trivial|refine aI ?_ ?_|exact cC0|refine low_cons' ?_ ?_|exact cC1|fail)
  all_goals first|omega|(show(_:List UInt8)=_;first|exact z8i hk|(rw[List.nil_append];exact z8i hk)|rfl|(simp;done))|exact SV.low_mono (Nat.zero_le _) (zad c)|(simp;done)|(simp<;>omega)|skip
 ·rfl
 ·intro k y x hx hP C' ro m Q hC hQ
  obtain⟨hk,rfl⟩:=znd hx
  have hbl:=z7b c
  refine WPi_n0 fun hn0=>?_;refine zco g0_ok fun _ K106=>?_;refine z5r rfl (by decide) rfl (by intro c h;cases h) fun _ hS=>?_;apply hS;clear hS;refine y_nil ?_;apply K106
  refine zim [] id hQ ⟨?_,?_,(by decide:List.Nodup ([0,1]:List Nat)),?_,?_,⟨by omega,fun i hi=>by
   have hi':i< 1:=by omega
   first|rfl|(obtain rfl:i=0:=(by omega);rfl)|(simp;omega)|(match i,hi' with
   |0,_=>rfl
   |1,_=>rfl)⟩⟩
  ·exact uUe0
  ·exact uUe0
  ·exact uUe0
  ·exact uUe0
 ·intro k y x hx hP C' ro m Q hC hQ hZ
  obtain⟨hk,rfl⟩:=znd hx
  have hbl:=z7b c
  refine WPi_n0 fun hn0=>?_;refine zma ?_;refine zco g0_ok fun _ K207=>?_;refine z5r rfl (by decide) rfl (by intro c h;cases h) fun _ hS=>?_
  repeat refine aI qUe1 ?_
  first|apply hS|(refine z0d qUe1 ?_;apply hS)|(refine z0e ?_;apply hS)
  clear hS;refine z5r rfl (by decide) rfl (by intro c h;cases h) fun _ hS=>?_;apply hS;clear hS;refine z5r rfl (by decide) rfl (by intro c h;cases h) fun _ hS=>?_
  repeat refine aI qUe1 ?_
  apply hS;clear hS;refine z5r rfl (by decide) rfl (by intro c h;cases h) fun _ hS=>?_
  repeat first|refine aI qUe1 ?_|refine z0d qUe1 ?_|refine z0e ?_
  intro cap3 hcap3;apply hS;clear hS;refine y_step0 rfl rfl (by intro c h;cases h) fun _ hS=>?_
  repeat refine aI qUe1 ?_
  first|apply hS|(refine z09 qUe1 ?_;apply hS)
  clear hS;refine y_nil ?_;apply K207;refine z08 ?_
  refine zim [] (fun i=>if i=0 then 0 else 3) (hQ cap3 ⟨by omega,by omega⟩) ⟨?_,?_,(by decide:List.Nodup ([0,3]:List Nat)),?_,?_,⟨by omega,fun i hi=>by
   have hi':i< 1:=by omega
   first|rfl|(obtain rfl:i=0:=(by omega);rfl)|(simp;omega)|(match i,hi' with
   |0,_=>rfl
   |1,_=>rfl)⟩⟩
  ·exact uUe0
  ·exact uUe0
  ·exact uUe0
  ·exact uUe0
 ·intro y β1 I1 w1 d1 hP hH1 hd0 hA
  rw[z9a]at hH1 hA ⊢
  try rw[z9a]at hP
  refine z08 ?_;refine K3 _ _ _ _ ?_;refine seq_k fun _ K308=>?_;refine z04 g0_ok fun _ K309=>?_;refine sS fun _ hS=>?_;(repeat refine aI qUa0 ?_);(first|apply hS|(refine z0d qUa0 ?_;apply hS)|(refine z0e ?_;apply hS));clear hS;refine sS1 ?_;refine s_n K309 ?_;apply K308;refine z0b (zkz g0_ok hH1 hd0 hA (fun _ _ h=>h) (trivial) [1] [.tmp 4] rfl ?_)
  repeat' (first|exact trivial|refine aI ?_ ?_|exact cC0|refine low_cons' ?_ ?_|exact cC1|fail)
  all_goals first|omega|(show _=z14 c;rw[List.take_length])|(rw[List.take_length];done)|(simp;done)|skip
 ·intro k y β1 I1 w1 d1 hk hZ
  exact absurd hZ id



end Go.Proofs.YtegdcifghaldoaaDoor

namespace Go.Proofs.YtegdcifghaldoaaDoor
set_option linter.all false
open Go.Ab Go.RowKit

section
variable {a b:Prop}
theorem DUf_0(kZ:b)(h:HidB b→a:=by intro kZ;(repeat first|refine aI qUa0 ?_|refine z0d qUa0 ?_|refine z09 qUa0 ?_|refine z0p qUa0 ?_|refine z0e ?_);exact kZ.out):a:=h ⟨kZ⟩
theorem zng(kZ:b)(h:HidB b→a:=by intro kZ;refine sX ?_;refine DUf_0 ?_;refine exI ?_;exact kZ.out):a:=h ⟨kZ⟩
theorem sXEUf_4(kZ:b)(h:HidB b→a:=by intro kZ;refine sX ?_;refine DUf_0 ?_;exact kZ.out):a:=h ⟨kZ⟩
theorem zni(kZ:b)(h:HidB b→a:=by intro kZ;refine sX ?_;refine DUd_0 ?_;exact kZ.out):a:=h ⟨kZ⟩
end
open Go.Aut
attribute [local irreducible] z14
noncomputable def ge1:Ctx:={ P:=Tryd.prog,ty:=ty,glob:=gl,fs:=[(109,.data zne)] }
theorem znj:ge1.OK:=⟨tyOK,⟨⟨z07 Tryd.func109 kQf rfl,znf⟩,trivial⟩,mixed⟩
@[simp] theorem ge1_ty:ge1.ty=ty:=rfl

def zj2:QSpec:=fun vs K=>∃ c:List UInt64,vs=[.c (.clo 110 [boxK c])]∧c.length=4∧K (.c (.ds (z14 c).length (.u8s (z14 c))))
theorem zl6:z3u Tryd.prog gl 104 zj2:=by
 refine z3p (Γ:=ge1) (N:=5) Tryd.func104 rfl rfl fun vs K h=>?_;obtain⟨c,rfl,hc,h⟩:=h;refine⟨_,h,trivial,by simp,fun w I=>?_⟩;refine srR znj fun _ K2=>?_;refine zng ?_;refine s_n K2 ?_;refine srR znj fun _ K4=>?_;refine zng ?_;refine sXEUf_4 ?_;refine aI (fun x hx=>by rw[List.mem_singleton.1 hx];intro g l;intro e;cases e) ?_;refine⟨c,rfl,hc,?_⟩;refine DUf_0 ?_
 first|refine exI ?_|(intro cap1 hcap1;refine exI ?_)
 refine zng ?_;refine s_n K4 ?_;refine z0b (z19 znj (fun _ _ h=>h) (by trivial) [] [.tmp 2] rfl ?_)
 all_goals exact uUd_0

noncomputable def ge2:Ctx:={ P:=Tryd.prog,ty:=ty,glob:=gl,fs:=[(104,.data zj2),(105,.data zj1)] }
theorem znk:ge2.OK:=⟨tyOK,⟨⟨z07 Tryd.func104 kQf rfl,zl6⟩,⟨z07 Tryd.func105 kQf rfl,zl5⟩,trivial⟩,mixed⟩
@[simp] theorem ge2_ty:ge2.ty=ty:=rfl

def zhc:QSpec:=fun vs K=>∃ c:List UInt64,vs=[.agg (.u64s c)]∧c.length=4∧K (.c (.ds (z14 c).length (.u8s (z14 c))))
theorem zfk:z3u Tryd.prog gl 88 zhc:=by
 refine z3p (Γ:=ge2) (N:=6) Tryd.func88 rfl rfl fun vs K h=>?_;obtain⟨c,rfl,hc,h⟩:=h;refine⟨_,h,trivial,by simp,fun w I=>?_⟩;refine srR znk fun _ K2=>?_
 iterate 2 refine sXUd_1 ?_
 refine s_n K2 ?_;refine srR znk fun _ K4=>?_;refine sXUd_1 ?_;refine zni ?_;refine⟨c,rfl,hc,?_⟩;refine DUd_0 ?_
 first|refine exI ?_|(intro cap1 hcap1;refine exI ?_)
 refine zni ?_;refine aI (fun x hx=>by rw[List.mem_singleton.1 hx];intro g l;intro e;cases e) ?_;refine⟨c,rfl,hc,?_⟩;refine DUd_0 ?_
 first|refine exI ?_|(intro cap2 hcap2;refine exI ?_)
 refine sXUd_1 ?_;refine s_n K4 ?_;refine z0b (z19 znk (fun _ _ h=>h) (by trivial) [] [.tmp 2] rfl ?_)
 all_goals exact uUd_0


end Go.Proofs.YtegdcifghaldoaaDoor

namespace Go.Proofs.YtegdcifghaldoaaDoor
set_option linter.all false
open Go.Ab Go.RowKit

open Go.Aut
attribute [local irreducible] z14
def hasW(c:List UInt64)(b:Nat):Bool:=(c.getD (b / 64) 0).toNat.testBit (b%64)
theorem zbl{l:List UInt64}{k b:Nat}(hb:b< 256):hasW (clsAt l k) b=hasC l k b:=zmr hb
theorem znl{a b:List UInt64}(ha:a.length=4)(hb:b.length=4)(h:∀ x,x< 256→hasW a x=hasW b x):a=b:=by
  refine ziq 0 (ha.trans hb.symm) fun i hi=>word_eq fun j hj=>?_
  have:=h (64*i+j) (by omega)
  rwa [hasW,hasW,show(64*i+j) / 64=i by omega,show(64*i+j)%64=j by omega]at this
theorem zdn(g:UInt64→UInt64→UInt64)(a b:List UInt64){i:Nat}(h:i< 4):(zipC g a b).getD i 0=g (a.getD i 0) (b.getD i 0):=by
  rw[zipC,zipK,z3y h,if_pos h]
theorem hasW_or(a b:List UInt64){x:Nat}(h:x< 256):hasW (orC a b) x=(hasW a x||hasW b x):=by
  rw[hasW,orC,zdn _ _ _ (by omega),hasW,hasW,UInt64.toNat_or,Nat.testBit_or]
theorem zj3(a b:List UInt64){x:Nat}(h:x< 256):hasW (andC a b) x=(hasW a x&&hasW b x):=by
  rw[hasW,andC,zdn _ _ _ (by omega),hasW,hasW,UInt64.toNat_and,Nat.testBit_and]
theorem zj4(a:List UInt64){x:Nat}(h:x< 256):hasW (notK a) x= !hasW a x:=by
  have e:∀ y:UInt64,∀ j,j< 64→(~~~y).toNat.testBit j= !y.toNat.testBit j:=fun y j hj=>by
    show(~~~y).toBitVec.getLsbD j= !y.toBitVec.getLsbD j
    rw[show(~~~y).toBitVec= ~~~y.toBitVec from rfl,BitVec.getLsbD_not]
    simp[hj]
  rw[hasW,notK,zdn _ _ _ (by omega),hasW,e _ _ (Nat.mod_lt _ (by decide))]
theorem z55(x:Nat):hasW Z4 x=false:=by
  rw[hasW,List.getD_eq_getElem?_getD,List.getElem?_replicate]
  split<;>simp
theorem z6z(l:List UInt64){x:Nat}(h:x< 256):∀ k,hasW (seenL l k) x=true↔∃ c,c< k∧hasC l c x=true
  | 0=>by
    rw[seenL,z55];exact⟨fun h=>(by cases h),fun⟨c,hc,_⟩=>absurd hc (Nat.not_lt_zero c)⟩
  | k +1=>by
    rw[seenL,hasW_or _ _ h,Bool.or_eq_true,z6z l h k,zbl h]
    constructor
    · rintro (⟨c,hc,e⟩|e)
      · exact⟨c,by omega,e⟩
      · exact⟨k,by omega,e⟩
    · rintro ⟨c,hc,e⟩
      by_cases hk:c=k
      · subst hk;exact .inr e
      · exact .inl ⟨c,by omega,e⟩
theorem zbm {l:List UInt64} {nc k:Nat} (hl:l.length=nc*4) (hk:k< nc):z23 l k=true↔(∃ x,x< 256∧hasC l k x=true)∧∀ x,x< 256→∀ c,c< k→hasC l c x=true→hasC l k x=false:=by
  have h4:=z4d hl hk
  rw[z23,Bool.and_eq_true,Bool.not_eq_true',decide_eq_false_iff_not,decide_eq_true_eq];refine and_congr ?_ ?_
  · constructor
    · intro h
      refine Classical.byContradiction fun hn=>h (znl h4 (by simp) fun x hx=>?_);rw[z55,zbl hx]
      cases e:hasC l k x with
      |false=>rfl
      |true=>exact absurd ⟨x,hx,e⟩ hn
    · rintro ⟨x,hx,e⟩ h
      rw[←zbl hx,h,z55]at e;cases e
  · constructor
    · intro h x hx c hc e
      have h1:=congrArg (fun a=>hasW a x) h
      simp only[zj3 _ _ hx,z55,(z6z l hx k).2 ⟨c,hc,e⟩,Bool.true_and]at h1
      rw[zbl hx]at h1;exact h1
    · intro h
      refine znl (by simp[andC,zipC,zipK]) (by simp) fun x hx=>?_;rw[zj3 _ _ hx,z55,zbl hx]
      cases e:hasW (seenL l k) x with
      |false=>rfl
      | true=>
        obtain⟨c,hc,e'⟩:=(z6z l hx k).1 e;rw[h x hx c hc e'];rfl
theorem clsP_iff {l:List UInt64} {nc:Nat} (hl:l.length=nc*4):clsP l nc=true↔(∀ b,b< 256→∃ c,c< nc∧∀ x,x< nc→(hasC l x b=true↔x=c))∧∀ c,c< nc→∃ b,b< 256∧hasC l c b=true:=by
  rw[clsP,Bool.and_eq_true,List.all_eq_true,decide_eq_true_eq]
  have hn:notK (seenL l nc)=Z4↔∀ x,x< 256→∃ c,c< nc∧hasC l c x=true:=by
    constructor
    · intro h x hx
      have h1:=congrArg (fun a=>hasW a x) h
      simp only[zj4 _ hx,z55,Bool.not_eq_false']at h1
      exact(z6z l hx nc).1 h1
    · intro h
      refine znl (by simp[notK,zipC,zipK]) (by simp) fun x hx=>?_;rw[zj4 _ hx,z55,(z6z l hx nc).2 (h x hx)];rfl
  rw[hn]
  constructor
  · rintro ⟨h1,h2⟩
    have h1:∀ k,k< nc→_:=fun k hk=>(zbm hl hk).1 (h1 k (List.mem_range.2 hk))
    refine⟨fun b hb=>?_,fun c hc=>(h1 c hc).1⟩;obtain⟨c,hc,e⟩:=h2 b hb;refine⟨c,hc,fun x hx=>⟨fun hx'=>?_,fun e'=>e'▸e⟩⟩
    rcases Nat.lt_trichotomy x c with h|h|h
    · have:=(h1 c hc).2 b hb x h hx';rw[e]at this;cases this
    · exact h
    · have:=(h1 x hx).2 b hb c h e;rw[hx']at this;cases this
  · rintro ⟨h1,h2⟩
    refine⟨fun k hk=>?_,fun x hx=>?_⟩
    · have hk:=List.mem_range.1 hk
      refine(zbm hl hk).2 ⟨h2 k hk,fun x hx c hc e=>?_⟩;obtain⟨c',hc',e'⟩:=h1 x hx
      cases e2:hasC l k x with
      |false=>rfl
      | true=>
        have a:=(e' c (by omega)).1 e
        have b:=(e' k hk).1 e2
        omega
    · obtain⟨c,hc,e⟩:=h1 x hx
      exact⟨c,hc,(e c hc).2 rfl⟩
def _root_.Go.Aut.Dfa.good(d:Dfa):Prop:=d.ok∧d.next.length≤64
theorem zfl{nc n:Nat}{r:List Int}:rowOK nc n r=true↔r.length=nc∧∀ t∈r,0≤t∧t< (n:Nat):=by
  rw[rowOK,Bool.and_eq_true,decide_eq_true_eq,List.all_eq_true]
  simp only[tgtOK,Bool.and_eq_true,decide_eq_true_eq]
theorem z9b{d:Dfa}(hw:d.wf):z3k d=true↔d.good:=by
  rw[z3k,Bool.and_eq_true,Bool.and_eq_true,decide_eq_true_eq,clsP_iff hw.1,List.all_eq_true]
  constructor
  · rintro ⟨⟨⟨h1,h2,h3,h4,h5⟩,h6,h7⟩,h8⟩
    exact⟨⟨hw.1,h1,h3,h4,h5,h6,h7,fun r hr=>zfl.1 (h8 r hr)⟩,h2⟩
  · rintro ⟨h,h2⟩
    exact⟨⟨⟨h.npos,h2,h.alen,h.cpos,h.cmax⟩,h.part,h.full⟩,fun r hr=>zfl.2 (h.rows r hr)⟩
theorem good_wf{d:Dfa}(h:d.good):d.wf:=by
  obtain⟨h,h2⟩:=h;refine⟨h.clen,by have:=h.cmax;omega,by omega,by rw[h.alen];omega,fun r hr=>by have:=(h.rows r hr).1;have:=h.cmax;omega⟩
theorem zl7{d:Dfa}(h:d.good):z3k d=true:=(z9b (good_wf h)).2 h
def z0z(cell:List Int)(nc:Nat)(x y:Cell):List Cell:=cell.map (Cell.int .i64)++[.int .i64 nc,x,y]
abbrev tabC(t:Tab):Cont:=.cells (z0z t.cell t.nc (.ds t.next.length (.cells (rowsC t.next))) (.ds t.acc.length (.bools t.acc)))
abbrev tabV(t:Tab):SV:=.agg (tabC t)
theorem z0t{cell:List Int}{nc:Nat}{x y:Cell}(h:cell.length=256):(z0z cell nc x y).length=259:=by simp[z0z,h]
theorem tab_cell{cell:List Int}{nc:Nat}{x y:Cell}(h:cell.length=256){b:Nat}(hb:b< 256):(Cont.cells (z0z cell nc x y)).get b= .int .i64 (cell.getD b 0):=by
  show(z0z cell nc x y).getD b .nils=_
  rw[z0z,List.getD_eq_getElem?_getD,List.getElem?_append_left (by simpa [h]using hb),List.getElem?_map,at_of (d:=0) (by omega)];rfl
theorem zj5{cell:List Int}{nc:Nat}{x y:Cell}(h:cell.length=256)(j:Nat):(Cont.cells (z0z cell nc x y)).get (256+j)=[Cell.int .i64 nc,x,y].getD j .nils:=by
  show(z0z cell nc x y).getD (256+j) .nils=_
  rw[z0z,List.getD_eq_getElem?_getD,List.getElem?_append_right (by simp[h]),List.getD_eq_getElem?_getD]
  congr 2;simp[h]
theorem tab_set{cell:List Int}{nc:Nat}{x y:Cell}(h:cell.length=256){b:Nat}(hb:b< 256)(v:Int):(z0z cell nc x y).set b (.int .i64 v)=z0z (cell.set b v) nc x y:=by
  rw[z0z,z0z,List.set_append_left _ _ (by simpa [h]using hb),List.map_set]
theorem zhd{cell:List Int}{nc n:Nat}{x y:Cell}(hx:x.low n)(hy:y.low n):(Cont.cells (z0z cell nc x y)).low n:=fun z hz=>by
  rcases List.mem_append.1 hz with hz|hz
  · obtain⟨v,_,rfl⟩:=List.mem_map.1 hz;trivial
  · rcases List.mem_cons.1 hz with rfl|hz
    · trivial
    · rcases List.mem_cons.1 hz with rfl|hz
      · exact hx
      · rw[List.mem_singleton.1 hz];exact hy
theorem allD_app{a b:List Cell}(ha:allD a)(hb:allD b):allD (a++b):=by
  induction a with
  |nil=>exact hb
  |cons x a ih=>exact⟨ha.1,ih ha.2⟩
theorem znm{k:IntKind}(l:List Int):allD (l.map (Cell.int k)):=by
  induction l with
  |nil=>trivial
  |cons x l ih=>exact⟨trivial,ih⟩
theorem allD_tab(t:Tab):allD (z0z t.cell t.nc (.ds t.next.length (.cells (rowsC t.next))) (.ds t.acc.length (.bools t.acc))):=allD_app (znm _) ⟨trivial,trivial,trivial,trivial⟩
theorem znn(t:Tab){n:Nat}:(tabC t).low n:=zhd trivial trivial
theorem zno{a b:List Cell}(ha:z5c a)(hb:z5c b):z5c (a++b):=by
  induction a with
  |nil=>exact hb
  |cons x a ih=>exact⟨ha.1,ih ha.2⟩
theorem zcn{k:IntKind}(l:List Int):z5c (l.map (Cell.int k)):=by
  induction l with
  |nil=>trivial
  |cons x l ih=>exact⟨trivial,ih⟩
theorem zbn{cell:List Int}{nc:Nat}{x y:Cell}(hx:x.solid)(hy:y.solid):z5c (z0z cell nc x y):=zno (zcn _) ⟨trivial,hx,hy,trivial⟩
theorem zl8{ty:Nat→Ty}{H:Heap}{is:List Nat}{ρ:Nat→Nat}{k:IntKind}(l:List Int):allTo (Cell.to ty H is ρ) (l.map (Cell.int k)) (l.map (Cell.int k)):=by
  induction l with
  |nil=>trivial
  |cons x l ih=>exact⟨⟨rfl,rfl⟩,ih⟩
theorem z9c{f:Cell→Cell→Prop}:∀ {a b c d:List Cell},allTo f a c→allTo f b d→allTo f (a++b) (c++d)
  |[],_,[],_,_,h=>h
  |_::_,_,_::_,_,h,k=>⟨h.1,z9c h.2 k⟩
  |[],_,_::_,_,h,_=>h.elim
  |_::_,_,[],_,h,_=>h.elim
theorem z8j{ty:Nat→Ty}{H:Heap}{is:List Nat}{ρ:Nat→Nat}{cell:List Int}{nc:Nat}{x y x' y':Cell}(hx:Cell.to ty H is ρ x x')(hy:Cell.to ty H is ρ y y'):allTo (Cell.to ty H is ρ) (z0z cell nc x y) (z0z cell nc x' y'):=
  z9c (zl8 _) ⟨⟨rfl,rfl⟩,hx,hy,trivial⟩
def zbo:List Int:=List.replicate 256 0
theorem z33:zbo.length=256:=List.length_replicate
theorem tab0_eq(nc:Nat)(x y:Cell):List.replicate 256 (Cell.int .i64 0)++[.int .i64 nc,x,y]=z0z zbo nc x y:=by rw[z0z,zbo,List.map_replicate]
theorem zl9(nc:Nat)(x y:Cell):((Cont.cells (List.replicate 257 (Cell.int .i64 0)++List.replicate 2 .nils)).sub 0 256).list++([.int .i64 nc]++([x]++([y]++[])))=z0z zbo nc x y:=by
  rw[←tab0_eq]
  show List.take 256 (List.drop 0 (List.replicate 257 _++List.replicate 2 _))++_=_
  rw[List.drop_zero,List.take_append_of_le_length (by rw[List.length_replicate];decide),List.take_replicate]
  rfl
def zl:List Cell:=List.replicate 257 (Cell.int .i64 0)++List.replicate 2 .nils
theorem z7l:zl.length=259:=by rw[zl,List.length_append,List.length_replicate,List.length_replicate]
theorem zbp{ty:Nat→Ty}{H:Heap}{is:List Nat}{ρ:Nat→Nat}{x:Cell}(h:Cell.to ty H is ρ x x):∀ n,allTo (Cell.to ty H is ρ) (List.replicate n x) (List.replicate n x)
  |0=>trivial
  |n+1=>⟨h,zbp h n⟩
theorem znp{ty:Nat→Ty}{H:Heap}{is:List Nat}{ρ:Nat→Nat}:allTo (Cell.to ty H is ρ) (List.replicate 257 (Cell.int .i64 0)++List.replicate 2 .nils) zl:=z9c (zbp (x:=.int .i64 0) ⟨rfl,rfl⟩ _) (zbp (x:=.nils) (by first|exact trivial|exact⟨rfl,rfl⟩|exact rfl) _)
theorem zl_to{ty:Nat→Ty}{H:Heap}{is:List Nat}{ρ:Nat→Nat}:allTo (Cell.to ty H is ρ) zl zl:=znp
theorem znq{n:Nat}:(Cont.cells zl).low n:=fun x hx=>by
  rcases List.mem_append.1 hx with h|h
  · rw[(List.mem_replicate.1 h).2];trivial
  · rw[(List.mem_replicate.1 h).2];trivial
theorem cells0_K(d:Dfa):zbo=z1g d 0:=(zbf d).symm
theorem tab_toE{ty:Nat→Ty}{H:Heap}{is:List Nat}{ρ:Nat→Nat}{cell cell':List Int}{nc:Nat}{x y x' y':Cell}{n:Nat}{v:Int}(hc:cell.length=256)(hn:n< 256)(e:cell.set n v=cell')(hx:Cell.to ty H is ρ x x')(hy:Cell.to ty H is ρ y y'):allTo (Cell.to ty H is ρ) ((z0z cell nc x y).set n (.int .i64 v)) (z0z cell' nc x' y'):=by
  rw[tab_set hc hn,e];exact z8j hx hy
theorem zj6(l:List Int)(bs:List UInt8)(k:Int):putB l (bs.take 0) k=l:=rfl

end Go.Proofs.YtegdcifghaldoaaDoor

namespace Go.Proofs.YtegdcifghaldoaaDoor
set_option linter.all false
open Go.Ab Go.RowKit

section
variable {a b:Prop}
theorem qUh0(h:a:=by first|exact vcA|(simp[hclen,z0t,z7l,-List.reduceReplicate]<;>omega)|exact zbn trivial trivial|(show _< (z0z _ _ _ _).length;rw[z0t (by simp)];omega)|(simp[z7l,-List.reduceReplicate];done)|(simp[z0t,z7l,-List.reduceReplicate];done)|(show(z0z _ _ _ _).length=259;exact z0t (by simp))|(show 259=(z0z _ _ _ _).length;exact(z0t (by simp)).symm)|exact vcB):a:=h
theorem qUh1(h:a:=by first|exact vcA|(simp[hclen,z0t,z7l,-List.reduceReplicate]<;>omega)|(simp[hclen];omega)|(simp[hcl];done)|exact vcB):a:=h
theorem qUh2(h:a:=by first|exact vcA|(simp[hclen,z0t,z7l,-List.reduceReplicate]<;>omega)|(simp[hcl];done)|exact vcB):a:=h
theorem uUh_0(h:a:=by
    repeat' (first|exact znq|exact zl_to|exact znp|exact zhd trivial trivial|exact z8j ⟨rfl,rfl⟩ ⟨rfl,rfl⟩|exact zdl _|exact z7l.symm|exact z7l|(show Cont.low _ (Cont.cells (List.replicate 257 _++_));exact znq)|exact trivial|refine aI ?_ ?_|exact cC0|refine low_cons' ?_ ?_|exact cC1|fail)
    all_goals first|omega|(show Cont.to _ _ _ _ _ _;rw[zj6];exact z8j ⟨rfl,rfl⟩ ⟨rfl,rfl⟩)|(show Cont.to _ _ _ _ _ _;exact tab_toE (by simp) hset.1 hset.2 ⟨rfl,rfl⟩ ⟨rfl,rfl⟩)|(simp[-List.reduceReplicate];done)|(simp[-List.reduceReplicate]<;>omega)|skip):a:=h
theorem DUh_0(kZ:b)(h:HidB b→a:=by intro kZ;(repeat first|refine aI qUh0 ?_|refine z0d qUh0 ?_|refine z09 qUh0 ?_|refine z0p qUh0 ?_|refine z0e ?_);exact kZ.out):a:=h ⟨kZ⟩
theorem z70(kZ:b)(h:HidB b→a:=by intro kZ;refine sX ?_;refine DUh_0 ?_;refine exI ?_;exact kZ.out):a:=h ⟨kZ⟩
theorem zhe(kZ:b)(h:HidB b→a:=by intro kZ;refine sX0 ?_;refine DUh_0 ?_;refine exI ?_;exact kZ.out):a:=h ⟨kZ⟩
theorem DUh_3(kZ:b)(h:HidB b→a:=by intro kZ;(repeat first|refine aI qUh1 ?_|refine z0d qUh1 ?_|refine z09 qUh1 ?_|refine z0p qUh1 ?_|refine z0e ?_);exact kZ.out):a:=h ⟨kZ⟩
theorem sXUh_4(kZ:b)(h:HidB b→a:=by intro kZ;refine sX ?_;refine DUh_3 ?_;refine exI ?_;exact kZ.out):a:=h ⟨kZ⟩
theorem sX0Uh_5(kZ:b)(h:HidB b→a:=by intro kZ;refine sX0 ?_;refine DUh_3 ?_;refine exI ?_;exact kZ.out):a:=h ⟨kZ⟩
theorem DUh_6(kZ:b)(h:HidB b→a:=by intro kZ;(repeat first|refine aI qUh2 ?_|refine z0d qUh2 ?_|refine z09 qUh2 ?_|refine z0p qUh2 ?_|refine z0e ?_);exact kZ.out):a:=h ⟨kZ⟩
theorem sXUh_7(kZ:b)(h:HidB b→a:=by intro kZ;refine sX ?_;refine DUh_6 ?_;refine exI ?_;exact kZ.out):a:=h ⟨kZ⟩
theorem sXEUh_8(kZ:b)(h:HidB b→a:=by intro kZ;refine sX ?_;refine DUh_0 ?_;exact kZ.out):a:=h ⟨kZ⟩
theorem sXEUh_9(kZ:b)(h:HidB b→a:=by intro kZ;refine sX ?_;refine DUh_3 ?_;exact kZ.out):a:=h ⟨kZ⟩
theorem sXEUh_10(kZ:b)(h:HidB b→a:=by intro kZ;refine sX ?_;refine DUh_6 ?_;exact kZ.out):a:=h ⟨kZ⟩
end
open Go.Aut
attribute [local irreducible] z14 zbo zl z0z z1g putB
noncomputable def gt1:Ctx:={ P:=Tryd.prog,ty:=ty,glob:=gl,fs:=[(88,.data zhc)] }
theorem z5s:gt1.OK:=⟨tyOK,⟨⟨z07 Tryd.func88 kQf rfl,zfk⟩,trivial⟩,mixed⟩
@[simp] theorem gt1_ty:gt1.ty=ty:=rfl

def zj7:QSpec:=fun vs K=>∃ d:Dfa,vs=[dfaV d]∧d.good∧K (tabV (tabD d))
theorem zla:z3u Tryd.prog gl 59 zj7:=by
 refine z3p (Γ:=gt1) (N:=38) Tryd.func59 rfl rfl fun vs K h=>?_;obtain⟨d,rfl,⟨hok,hn64⟩,h⟩:=h;refine⟨_,h,znn _,by simp,fun w I=>?_⟩
 have hclen:=hok.clen
 have hc256:=hok.cmax
 refine srR z5s fun _ K2=>?_
 iterate 2 refine z70 ?_
 refine s_n K2 ?_;refine seq_k fun _ K3=>?_;refine leW [] id [(1,.c (.ptr 0 0)),(2,.c (.ptr 1 0))] [(0,.own 65 (dfaC d) 3),(1,.own 123 (.cells zl) 259)] 2 [0,1] uUh_0 uUh_0 uUh_0 uUh_0 ?_;refine region_c z5s [9] fun _ K4=>?_
 simp only[wpC,List.take_succ_cons,List.take_zero,List.drop_succ_cons,List.drop_zero]
 iterate 7 refine z70 ?_
 refine sXEUh_8 ?_;refine exA (.agg (.cells (z0z (z1g d 0) d.nc (.ds d.next.length (.cells (rowsC d.next))) (.ds d.acc.length (.bools d.acc))))) (as_eq (congrArg (fun l=>SV.agg (Cont.cells l)) (by rw[←cells0_K];exact zl9 _ _ _))) ?_;refine z70 ?_;refine s_nil ?_;refine c_le (is:=[]) (ρ:=id) (E':=[(1,.c (.ptr 0 0)),(2,.c (.ptr 1 0)),(3,.c (.ptr 2 0)),(15,.agg (.cells (z0z (z1g d 0) d.nc (.ds d.next.length (.cells (rowsC d.next))) (.ds d.acc.length (.bools d.acc)))))]) (H':=[(0,.own 65 (dfaC d) 3),(1,.own 123 (.cells zl) 259),(2,.own 123 (.cells zl) 259)]) (n':=3) ⟨?_,?_,(by decide:List.Nodup ([0,1,2]:List Nat)),?_,?_,?_⟩ ?_
 ·exact uUh_0
 ·exact uUh_0
 ·exact uUh_0
 ·exact uUh_0
 ·exact⟨Nat.zero_le _,fun i hi=>absurd hi (Nat.not_lt_zero i)⟩
 refine zhe ?_;refine s_n K4 ?_;apply K3;refine seq_k fun _ K5=>?_;refine srR z5s fun _ K7=>?_
 iterate 4 refine z70 ?_
 refine s_n K7 ?_;refine z0a ?_;refine z13 (α:=Nat) (fun i=>[(2,.c (.ptr 1 0)),(3,.c (.ptr 2 0)),(17,.c (.ds d.nc (.u64s d.cls))),(18,.c (.int .i64 d.nc)),(19,.c (.int .i64 (i:Nat)))]) (fun i=>[(0,.own 65 (dfaC d) 3),(1,.own 123 (.cells zl) 259),(2,.own 123 (.cells (z0z (z1g d i) d.nc (.ds d.next.length (.cells (rowsC d.next))) (.ds d.acc.length (.bools d.acc)))) 259)]) 3 (fun i=>i≤d.nc) (fun i=>d.nc - i) ?_ ?_
 ·refine dnS [] id 0 (Nat.zero_le _) [0,1,2] uUh_0 uUh_0 uUh_0 uUh_0
 ·intro i hi
  refine srR z5s fun _ K9=>?_;refine z70 ?_;refine s_n K9 ?_;refine seq_k fun _ K10=>?_;refine z06 (b:=_) rfl (fun h_t20=>?_) (fun h_t20=>?_)
  ·try simp only[dQ,reduceIte]at h_t20
   refine z0g ?_;apply K10;refine seq_k fun _ K11=>?_;refine z0a ?_
   have hin:i< d.nc:=by omega
   have hcl:=z4d hclen hin
   have hsub:(Cont.u64s d.cls).sub ((i:Int).toNat*4) (4*1)= .u64s (clsAt d.cls i):=rfl
   refine srR z5s fun _ K13=>?_
   iterate 2 refine sXUh_4 ?_
   refine sXEUh_9 ?_;refine exA (.agg (.u64s (clsAt d.cls i))) (SV.as_refl _) ?_
   iterate 2 refine sXUh_4 ?_
   refine sX0Uh_5 ?_;refine s_n K13 ?_;refine srR z5s fun _ K15=>?_;refine sXUh_7 ?_;refine sXEUh_10 ?_;refine⟨clsAt d.cls i,rfl,hcl,?_⟩;refine DUh_6 ?_
   first|refine exI ?_|(intro cap1 hcap1;refine exI ?_)
   iterate 2 refine sXUh_7 ?_
   refine s_n K15 ?_;refine z0a ?_;refine z13 (α:=Nat) (fun j=>[(2,.c (.ptr 1 0)),(3,.c (.ptr 2 0)),(17,.c (.ds d.nc (.u64s d.cls))),(18,.c (.int .i64 d.nc)),(19,.c (.int .i64 (i:Nat))),(4,.c (.int .i64 (i:Nat))),(25,.c (.ds (z14 (clsAt d.cls i)).length (.u8s (z14 (clsAt d.cls i))))),(26,.c (.int .i64 (z14 (clsAt d.cls i)).length)),(27,.c (.int .i64 (j:Nat)))]) (fun j=>[(0,.own 65 (dfaC d) 3),(1,.own 123 (.cells zl) 259),(2,.own 123 (.cells (z0z (putB (z1g d i) ((z14 (clsAt d.cls i)).take j) (i:Nat)) d.nc (.ds d.next.length (.cells (rowsC d.next))) (.ds d.acc.length (.bools d.acc)))) 259)]) 3 (fun j=>j≤(z14 (clsAt d.cls i)).length) (fun j=>(z14 (clsAt d.cls i)).length - j) ?_ ?_
   ·refine dnS [] id 0 (Nat.zero_le _) [0,1,2] uUh_0 uUh_0 uUh_0 uUh_0
   ·intro j hj
    refine srR z5s fun _ K17=>?_;refine z70 ?_;refine s_n K17 ?_;refine seq_k fun _ K18=>?_;refine z06 (b:=_) rfl (fun h_t28=>?_) (fun h_t28=>?_)
    ·try simp only[dQ,reduceIte]at h_t28
     refine z0g ?_;apply K18;refine seq_k fun _ K19=>?_;refine z0a ?_
     have hjn:j< (z14 (clsAt d.cls i)).length:=by omega
     have hbl:=z7b (clsAt d.cls i)
     refine srR z5s fun _ K21=>?_
     iterate 3 refine z70 ?_
     refine s_n K21 ?_
     have hbt:((z14 (clsAt d.cls i)).getD ((j:Int).toNat*1) 0).toNat< 256:=UInt8.toNat_lt _
     refine z04 z5s fun _ K22=>?_
     iterate 4 refine z70 ?_
     refine zhe ?_;refine s_n K22 ?_;refine z08 ?_;apply K19;refine z04 z5s fun _ K23=>?_
     iterate 2 refine z70 ?_
     refine s_n K23 ?_
     have hset:(0+0+((((z14 (clsAt d.cls i)).getD ((j:Int).toNat*1) 0).toNat:Nat):Int).toNat*1)< 256∧(putB (z1g d i) ((z14 (clsAt d.cls i)).take j) (i:Nat)).set (0+0+((((z14 (clsAt d.cls i)).getD ((j:Int).toNat*1) 0).toNat:Nat):Int).toNat*1) (i:Nat)=putB (z1g d i) ((z14 (clsAt d.cls i)).take (j+1)) (i:Nat):=by
      have e:(0+0+((((z14 (clsAt d.cls i)).getD ((j:Int).toNat*1) 0).toNat:Nat):Int).toNat*1)=((z14 (clsAt d.cls i)).getD j 0).toNat:=by rw[Int.toNat_natCast,Int.toNat_natCast,Nat.mul_one,Nat.mul_one,Nat.zero_add]
      rw[e];exact⟨UInt8.toNat_lt _,zfb (z1g d i) (i:Nat) hjn⟩
     refine dnS [] id (j+1) ⟨by omega,by omega⟩ [0,1,2] uUh_0 uUh_0 uUh_0 uUh_0
    ·try simp only[dQ,reduceIte]at h_t28
     refine z0y ?_;refine z03 ?_;refine z03 ?_;refine z0s ?_;refine z08 ?_;apply K11;refine z04 z5s fun _ K24=>?_
     iterate 2 refine z70 ?_
     refine s_n K24 ?_
     obtain rfl:j=(z14 (clsAt d.cls i)).length:=by omega
     have hstep:putB (z1g d i) (z14 (clsAt d.cls i)) (i:Nat)=z1g d (i+1):=zbg hok hin
     rw[List.take_length,hstep];refine dnS [] id (i+1) ⟨by omega,by omega⟩ [0,1,2] uUh_0 uUh_0 uUh_0 uUh_0
  ·try simp only[dQ,reduceIte]at h_t20
   refine z0y ?_;refine z03 ?_;refine z03 ?_;refine z0s ?_;apply K5;refine srR z5s fun _ K26=>?_;refine z70 ?_;refine zhe ?_;refine s_n K26 ?_
   obtain rfl:i=d.nc:=by omega
   refine z0b (z19 z5s (fun _ _ h=>h) (znn _) [] [.cell 2 123] rfl ?_)
   repeat first|refine aI (by first|omega|(simp[z0t,z7l,-List.reduceReplicate];done)|exact zbn trivial trivial) ?_|refine z0d (z0t (zdi _ _)) ?_
   all_goals exact uUh_0


end Go.Proofs.YtegdcifghaldoaaDoor

namespace Go.Proofs.YtegdcifghaldoaaDoor
set_option linter.all false
open Go.Ab Go.RowKit

section
variable {a b:Prop}
theorem qUi0(h:a:=by first|exact vcA|(simp[-List.reduceReplicate]<;>omega)|exact vTh|exact vcB):a:=h
theorem uUi_0(h:a:=by
    repeat' (first|exact pT|exact trivial|refine aI ?_ ?_|exact cC0|refine low_cons' ?_ ?_|exact cC1|fail)
    all_goals first|omega|(show(_:Int)=_;rw[zbq t hkl];done)|(show(0:Nat)< (z0z _ _ _ _).length;rw[z0t hcl];decide)|(simp[-List.reduceReplicate];done)|(simp[-List.reduceReplicate]<;>omega)|skip):a:=h
theorem DUi_0(kZ:b)(h:HidB b→a:=by intro kZ;(repeat first|refine aI qUi0 ?_|refine z0d qUi0 ?_|refine z09 qUi0 ?_|refine z0p qUi0 ?_|refine z0e ?_);exact kZ.out):a:=h ⟨kZ⟩
theorem z5f(kZ:b)(h:HidB b→a:=by intro kZ;refine sX ?_;refine DUi_0 ?_;refine exI ?_;exact kZ.out):a:=h ⟨kZ⟩
theorem sX0Ui_2(kZ:b)(h:HidB b→a:=by intro kZ;refine sX0 ?_;refine DUi_0 ?_;refine exI ?_;exact kZ.out):a:=h ⟨kZ⟩
theorem zfm(kZ:b)(h:HidB b→a:=by intro kZ;refine qX ?_;refine DUi_0 ?_;refine exI ?_;exact kZ.out):a:=h ⟨kZ⟩
theorem zdo(kZ:b)(h:HidB b→a:=by intro kZ;refine sX ?_;refine DUi_0 ?_;exact kZ.out):a:=h ⟨kZ⟩
theorem zdp(kZ:b)(h:HidB b→a:=by intro kZ;refine qX ?_;refine DUi_0 ?_;exact kZ.out):a:=h ⟨kZ⟩
end
open Go.Aut
theorem tab_nx{t:Tab}(h:t.cell.length=256):(tabC t).get (0+257)= .ds t.next.length (.cells (rowsC t.next)):=by rw[Nat.zero_add,zj5 h 1];rfl
theorem tab_ac{t:Tab}(h:t.cell.length=256):(tabC t).get (0+258)= .ds t.acc.length (.bools t.acc):=by rw[Nat.zero_add,zj5 h 2];rfl
theorem tab_cl{t:Tab}(h:t.cell.length=256){b i:Nat}(hi:i=b)(hb:b< 256):(tabC t).get i= .int .i64 (t.cell.getD b 0):=by rw[hi];exact tab_cell h hb
theorem zl_len':(Cont.cells (List.replicate 257 (Cell.int .i64 0)++List.replicate 2 .nils)).len=259:=by
  simp only[z2v,List.length_append,List.length_replicate]
theorem tab_fits{cell:List Int}{nc:Nat}{x y:Cell}(h:cell.length=256):0+(Cont.cells (z0z cell nc x y)).len≤(Cont.cells (List.replicate 257 (Cell.int .i64 0)++List.replicate 2 .nils)).len:=by
  rw[zl_len']
  show 0+(z0z cell nc x y).length≤259
  rw[z0t h];decide
theorem znr{cell:List Int}{nc:Nat}{x y:Cell}(h:cell.length=256):(Cont.cells (List.replicate 257 (Cell.int .i64 0)++List.replicate 2 .nils)).len=(Cont.cells (z0z cell nc x y)).len:=by
  rw[zl_len'];exact(z0t h).symm
theorem row_at{l:List (List Int)}{i j:Nat}(h:i< l.length∧j=i):(Cont.cells (rowsC l)).get j= .ds (l.getD i []).length (.ints .i64 (l.getD i [])):=by rw[h.2];exact ziz h.1
theorem zlb{tf:Nat→Ty}{H:Heap}{is:List Nat}{ρ:Nat→Nat}(l:List (List Int)):allTo (Cell.to tf H is ρ) (rowsC l) (rowsC l):=by
  induction l with
  |nil=>trivial
  |cons r l ih=>exact⟨⟨rfl,rfl⟩,ih⟩
theorem cellN{t:Tab}(h:t.ok){b:Nat}(hb:b< 256):(tblT t).cell b< t.nc∧t.cell.getD b 0=((tblT t).cell b:Nat):=Tab.cell_lt h hb
theorem nextN{t:Tab}(h:t.ok){s c:Nat}(hs:s< t.next.length)(hc:c< t.nc):(tblT t).δ s c< t.next.length∧(t.next.getD s []).getD c 0=((tblT t).δ s c:Nat):=Tab.next_lt h hs hc
theorem rowLen{t:Tab}(h:t.ok){s:Nat}(hs:s< t.next.length):(t.next.getD s []).length=t.nc:=(h.rows _ (by rw[z6b hs];exact List.getElem_mem _)).1
theorem zns(w:List UInt8):Bytes (w.map UInt8.toNat):=fun x hx=>by
  obtain⟨b,_,rfl⟩:=List.mem_map.1 hx;exact b.toNat_lt
def wN(w:List UInt8):List Nat:=w.map UInt8.toNat
def z8k(d:Dfa)(w:List UInt8):Bool:=z3k d&&langD d (wN w)
def stAt(t:Tab)(w:List UInt8)(k:Nat):Nat:=(tblT t).run 0 ((wN w).take k)
theorem zbq(t:Tab){w:List UInt8}{k:Nat}(h:k< w.length):stAt t w (k+1)=(tblT t).δ (stAt t w k) ((tblT t).cell (w.getD k 0).toNat):=by
  have hk:k< (wN w).length:=by simpa [wN]using h
  rw[stAt,List.take_add_one,at_of (d:=0) hk,Option.toList_some,Tbl.run_append]
  have:(wN w).getD k 0=(w.getD k 0).toNat:=by rw[z6b hk,z6b h];simp[wN]
  rw[this];rfl
theorem zhf{t:Tab}(h:t.ok){w:List UInt8}:∀ k,k≤w.length→stAt t w k< t.next.length
  |0,_=>h.npos
  | k+1,hk=>by
    rw[zbq t (by omega)];exact(nextN h (zhf h k (by omega)) (cellN h (UInt8.toNat_lt _)).1).1
theorem stAt_all(t:Tab)(w:List UInt8):t.acc.getD (stAt t w w.length) false=(tblT t).lang 0 (wN w):=by
  have:(wN w).take w.length=wN w:=by rw[List.take_of_length_le];simp[wN]
  rw[stAt,this];rfl
theorem tab_lang{d:Dfa}(w:List UInt8):(tblT (tabD d)).lang 0 (wN w)=langD d (wN w):=zms d 0 (zns w)
attribute [local irreducible] z14 zbo zl z0z z1g putB
noncomputable def gu1:Ctx:={ P:=Tryd.prog,ty:=ty,glob:=gl,fs:=[(58,.flat zh9),(59,.data zj7)] }
theorem z5t:gu1.OK:=⟨tyOK,⟨⟨z07 Tryd.func58 kQf rfl,zfg⟩,⟨z07 Tryd.func59 kQf rfl,zla⟩,trivial⟩,mixed⟩
@[simp] theorem gu1_ty:gu1.ty=ty:=rfl

def zj8:QSpec:=fun vs K=>∃ (d:Dfa) (x:List UInt8),vs=[dfaV d,.c (.ds x.length (.u8s x))]∧(d.wf∧x.length≤9223372036854775807)∧K (.c (.bool (z8k d x)))
theorem zlc:z11 Tryd.prog gl 27 zj8:=by
 refine z0u (Γ:=gu1) (N:=37) Tryd.func27 rfl rfl fun vs K h=>?_;obtain⟨d,x,rfl,⟨hw,hwl⟩,h⟩:=h;refine⟨_,h,rfl,by simp,fun w I=>?_⟩;refine srR z5t fun _ K2=>?_
 iterate 2 refine z5f ?_
 refine s_n K2 ?_;refine seq_k fun _ K3=>?_;refine srR z5t fun _ K5=>?_;refine z5f ?_;refine zdo ?_;refine⟨d,rfl,hw,?_⟩;refine DUi_0 ?_
 first|refine exI ?_|(intro cap1 hcap1;refine exI ?_)
 refine z5f ?_;refine s_n K5 ?_;refine z06 (b:=_) rfl (fun h_t11=>?_) (fun h_t11=>?_)
 ·try simp only[dQ,reduceIte]at h_t11
  refine srR z5t fun _ K7=>?_;refine z5f ?_;refine s_n K7 ?_;refine z0b (z02 z5t (fun _ _ h=>h) (by first|rfl|assumption) [.tmp 4] rfl ?_);refine rtD ?_
  show SV.c (.bool false)=_
  rw[z8k,show z3k d=false by simpa using h_t11,Bool.false_and]
 ·try simp only[dQ,reduceIte]at h_t11
  refine z0g ?_;apply K3
  have hg:=(z9b hw).1 (by simpa using h_t11)
  obtain⟨t,htd⟩:∃ t,t=tabD d:=⟨_,rfl⟩
  have hok:t.ok:=htd▸z2i hg.1
  have hcl:=hok.clen
  refine srR z5t fun _ K9=>?_;refine z5f ?_;refine zdo ?_;refine⟨d,rfl,hg,?_⟩;rw[←htd];refine DUi_0 ?_
  first|refine exI ?_|(intro cap1 hcap1;refine exI ?_)
  refine z5f ?_;refine sX0Ui_2 ?_;refine s_n K9 ?_;refine leW [1] id [(1,.c (.ds x.length (.u8s x))),(5,.c (.dp (tabC t) 0))] [] 0 [] uUi_0 uUi_0 uUi_0 uUi_0 ?_;refine srR z5t fun _ K11=>?_;refine z5f ?_;refine s_n K11 ?_;refine seq_k fun _ K12=>?_;refine srR z5t fun _ K14=>?_
  iterate 3 refine z5f ?_
  refine s_n K14 ?_;refine z0a ?_;refine z13 (α:=Nat) (fun k=>[(5,.c (.dp (tabC t) 0)),(14,.c (.ds x.length (.u8s x))),(15,.c (.int .i64 x.length)),(16,.c (.int .i64 (k:Nat))),(6,.c (.int .i64 (stAt t x k:Nat)))]) (fun k=>[]) 0 (fun k=>k≤x.length) (fun k=>x.length - k) ?_ ?_
  ·refine dnS [] id 0 (Nat.zero_le _) [] uUi_0 uUi_0 uUi_0 uUi_0
  ·intro k hk
   refine srR z5t fun _ K16=>?_;refine z5f ?_;refine s_n K16 ?_;refine seq_k fun _ K17=>?_;refine z06 (b:=_) rfl (fun h_t17=>?_) (fun h_t17=>?_)
   ·try simp only[dQ,reduceIte]at h_t17
    refine z0g ?_;apply K17;refine seq_k fun _ K18=>?_;refine z0a ?_
    have hkl:k< x.length:=by omega
    refine srR z5t fun _ K20=>?_
    iterate 3 refine z5f ?_
    refine s_n K20 ?_
    have hs:=zhf hok k (by omega)
    have hb:=cellN hok (UInt8.toNat_lt (x.getD k 0))
    have hx:=nextN hok hs hb.1
    have hr:=rowLen hok hs
    have hbt:(x.getD ((k:Int).toNat*1) 0).toNat< 256:=UInt8.toNat_lt _
    refine zgz z5t kQf fun _ K21=>?_;refine zfm ?_;refine zdp ?_;refine exA (.c (.ds t.next.length (.cells (rowsC t.next)))) (as_c (tab_nx hcl)) ?_
    iterate 2 refine zfm ?_
    refine zdp ?_;refine exA (.c (.ds (t.next.getD (stAt t x k) []).length (.ints .i64 (t.next.getD (stAt t x k) [])))) (as_c (row_at ⟨hs,by omega⟩)) ?_
    iterate 3 refine zfm ?_
    refine zdp ?_;refine exA (.c (.int .i64 (((tblT t).cell (x.getD k 0).toNat:Nat):Int))) (as_c ((tab_cl hcl (by first|omega|(simp;done)) (UInt8.toNat_lt _)).trans (congrArg (Cell.int IntKind.i64) hb.2))) ?_;refine zfm ?_;refine zdp ?_;refine exA (.c (.int .i64 ((stAt t x (k+1):Nat):Int))) (as_i (by rw[zbq t hkl, ←hx.2];congr 1;omega)) ?_;refine zfm ?_;refine q_n K21 ?_;refine z08 ?_;apply K18;refine z04 z5t fun _ K22=>?_
    iterate 2 refine z5f ?_
    refine s_n K22 ?_;refine dnS [] id (k+1) ⟨by omega,by omega⟩ [] uUi_0 uUi_0 uUi_0 uUi_0
   ·try simp only[dQ,reduceIte]at h_t17
    refine z0y ?_;refine z03 ?_;refine z03 ?_;refine z0s ?_;apply K12
    obtain rfl:k=x.length:=by omega
    have hs:=zhf hok x.length (Nat.le_refl _)
    have hal:=hok.alen
    refine srR z5t fun _ K24=>?_;refine z5f ?_;refine zdo ?_;refine exA (.c (.ds t.acc.length (.bools t.acc))) (as_c (tab_ac hcl)) ?_
    iterate 2 refine z5f ?_
    refine zdo ?_;refine exA (.c (.bool (langD d (wN x)))) (as_b (by rw[←tab_lang, ←htd, ←stAt_all,Int.toNat_natCast,Nat.mul_one])) ?_;refine z5f ?_;refine s_n K24 ?_;refine z0b (z02 z5t (fun _ _ h=>h) (by first|rfl|assumption) [.tmp 4] rfl ?_);refine rtD ?_
    show SV.c (.bool _)=_
    rw[z8k,zl7 hg,Bool.true_and]


end Go.Proofs.YtegdcifghaldoaaDoor
