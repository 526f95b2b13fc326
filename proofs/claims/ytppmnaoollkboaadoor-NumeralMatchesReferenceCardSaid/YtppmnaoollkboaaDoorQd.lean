/- Contracts of functions and plain facts, part 4. -/
import Derived.Test.YtppmnaoollkboaaDoorQb
import Derived.Test.YtppmnaoollkboaaDoorQc
set_option maxHeartbeats 1000000
set_option maxRecDepth 4000
namespace Go.Proofs.YtppmnaoollkboaaDoor
set_option linter.all false
open Go.Ab Go.RowKit

section
variable {a b:Prop}
theorem qUa0(h:a:=by first|exact vcA|(simp<;>omega)|exact vcB):a:=h
theorem qUa1(h:a:=by first|exact vcA|(simp[ha,hb]<;>omega)|exact vcB):a:=h
theorem qUa2(h:a:=by first|exact vcA|(simp[ha,hb]<;>omega)|(simp[ha,hb]<;>omega)|exact vcB):a:=h
theorem qUa3(h:a:=by first|exact vcA|(simp[ha]<;>omega)|exact vcB):a:=h
theorem uUa0(h:a:=by
    repeat' (first|exact trivial|refine aI ?_ ?_|exact cC0|refine low_cons' ?_ ?_|exact cC1|fail)
    all_goals first|omega|(show(_:List UInt64)=_;first|exact hst|(rw[hi1];exact hst)|rfl)|(simp[ha,hb];done)|(simp<;>omega)|exact zbd z7h|skip):a:=h
end
def z3q:List UInt8:=[0,1,56,2,57,49,28,3,61,58,42,50,38,29,17,4,62,47,59,36,45,43,51,22,53,39,33,30,24,18,12,5,63,55,48,27,60,41,37,16,46,35,44,21,52,32,23,11,54,26,40,15,34,20,31,10,25,14,19,9,13,8,7,6]
def gl:Nat→Option Cont:=fun g=>if g=0 then some (.u8s z3q)else none
noncomputable def g0:Ctx:={ P:=Tryd.prog,ty:=ty,glob:=gl,fs:=[] }
theorem g0_ok:g0.OK:=⟨tyOK,trivial,mixed⟩
@[simp] theorem g0_ty:g0.ty=ty:=rfl
def eqS(q:QSpec):QSpec:=fun vs K=>∃ v,q vs (fun u=>u=v)∧K v
theorem zw1{f:FuncId}{q:QSpec}(h:z1s Tryd.prog gl f q):z1s Tryd.prog gl f (eqS q):=fun vs K ⟨v,hq,hK⟩=>by
  obtain⟨u,rfl,hf,hc⟩:=h vs _ hq;exact⟨_,hK,hf,hc⟩
def kAndS:QSpec:=fun vs K=>∃ x y:UInt64,vs=[.c (.u64 x),.c (.u64 y)]∧K (.c (.u64 (x &&& y)))
theorem kAnd_ok:z1s Tryd.prog gl 152 kAndS:=by
 refine z1r (Γ:=g0) (N:=8) Tryd.func152 rfl rfl fun vs K h=>?_;obtain⟨x,y,rfl,h⟩:=h;refine⟨_,h,rfl,by simp,fun w I=>?_⟩;refine seq_k fun _ K1=>?_;refine z01 g0_ok fun _ K2=>?_;refine sS1 ?_;refine s_n K2 ?_;apply K1;refine seq_k fun _ K3=>?_;refine z01 g0_ok fun _ K4=>?_
 iterate 2 refine sS1 ?_
 refine sS fun _ hS=>?_;(repeat refine aI qUa0 ?_);apply hS;clear hS;refine sS1 ?_;refine s_n K4 ?_;apply K3;refine z0e (z0d g0_ok (fun _ _ h=>h) (by first|rfl|assumption) [.tmp 4] rfl ?_)
 repeat refine aI (by first|omega|exact trivial|rfl|(simp<;>omega)) ?_
 try refine z0l (by first|omega|exact trivial|rfl|(simp<;>omega)) ?_
 show _=_
 rfl

def kOrS:QSpec:=fun vs K=>∃ x y:UInt64,vs=[.c (.u64 x),.c (.u64 y)]∧K (.c (.u64 (x ||| y)))
theorem kOr_ok:z1s Tryd.prog gl 153 kOrS:=by
 refine z1r (Γ:=g0) (N:=8) Tryd.func153 rfl rfl fun vs K h=>?_;obtain⟨x,y,rfl,h⟩:=h;refine⟨_,h,rfl,by simp,fun w I=>?_⟩;refine seq_k fun _ K1=>?_;refine z01 g0_ok fun _ K2=>?_;refine sS1 ?_;refine s_n K2 ?_;apply K1;refine seq_k fun _ K3=>?_;refine z01 g0_ok fun _ K4=>?_
 iterate 2 refine sS1 ?_
 refine sS fun _ hS=>?_;(repeat refine aI qUa0 ?_);apply hS;clear hS;refine sS1 ?_;refine s_n K4 ?_;apply K3;refine z0e (z0d g0_ok (fun _ _ h=>h) (by first|rfl|assumption) [.tmp 4] rfl ?_)
 repeat refine aI (by first|omega|exact trivial|rfl|(simp<;>omega)) ?_
 try refine z0l (by first|omega|exact trivial|rfl|(simp<;>omega)) ?_
 show _=_
 rfl

def kNotS:QSpec:=fun vs K=>∃ x y:UInt64,vs=[.c (.u64 x),.c (.u64 y)]∧K (.c (.u64 (~~~x)))
theorem kNot_ok:z1s Tryd.prog gl 154 kNotS:=by
 refine z1r (Γ:=g0) (N:=7) Tryd.func154 rfl rfl fun vs K h=>?_;obtain⟨x,y,rfl,h⟩:=h;refine⟨_,h,rfl,by simp,fun w I=>?_⟩;refine seq_k fun _ K1=>?_;refine z01 g0_ok fun _ K2=>?_;refine sS1 ?_;refine s_n K2 ?_;apply K1;refine seq_k fun _ K3=>?_;refine z01 g0_ok fun _ K4=>?_;refine sS1 ?_;refine sS fun _ hS=>?_;(repeat refine aI qUa0 ?_);apply hS;clear hS;refine sS1 ?_;refine s_n K4 ?_;apply K3;refine z0e (z0d g0_ok (fun _ _ h=>h) (by first|rfl|assumption) [.tmp 4] rfl ?_)
 repeat refine aI (by first|omega|exact trivial|rfl|(simp<;>omega)) ?_
 try refine z0l (by first|omega|exact trivial|rfl|(simp<;>omega)) ?_
 show _=_
 rfl

noncomputable def gK(f:FuncId)(q:QSpec):Ctx:={ P:=Tryd.prog,ty:=ty,glob:=gl,fs:=[(f,.flat (eqS q))] }
theorem gK_ok{f:FuncId}{q:QSpec}(he:z67 Tryd.prog f)(h:z1s Tryd.prog gl f q):(gK f q).OK:=⟨tyOK,⟨⟨he,zw1 h⟩,trivial⟩,mixed⟩
@[simp] theorem gK_ty{f:FuncId}{q:QSpec}:(gK f q).ty=ty:=rfl
theorem gK_look{f:FuncId}{q:QSpec}:z3n (gK f q).fs f=some (.flat (eqS q)):=zld (l:=[]) fun p hp=>by cases hp
def zipK(g:UInt64→UInt64→UInt64)(a b:List UInt64)(k:Nat):List UInt64:=(List.range 4).map fun i=>if i< k then g (a.getD i 0) (b.getD i 0)else 0
def zipC(g:UInt64→UInt64→UInt64)(a b:List UInt64):List UInt64:=zipK g a b 4
@[simp] theorem zom(g:UInt64→UInt64→UInt64)(a b:List UInt64)(k:Nat):(zipK g a b k).length=4:=by simp[zipK]
@[simp] theorem z33(g:UInt64→UInt64→UInt64)(a b:List UInt64):(zipC g a b).length=4:=zom ..
theorem zw2(g:UInt64→UInt64→UInt64)(a b:List UInt64){k:Nat}(h:k< 4):(zipK g a b k).set k (g (a.getD k 0) (b.getD k 0))=zipK g a b (k+1):=by
  refine List.ext_getElem (by simp) fun i h1 h2=>?_;rw[List.getElem_set]
  simp only[zipK,List.getElem_map,List.getElem_range]
  by_cases e:k=i
  · subst e;rw[if_pos rfl,if_pos (by omega)]
  · rw[if_neg e]
    by_cases e2:i< k
    · rw[if_pos e2,if_pos (by omega)]
    · rw[if_neg e2,if_neg (by omega)]
def zeh(f:FuncId)(q:QSpec):QSpec:=fun vs K=>∃ g:UInt64→UInt64→UInt64,∃ a b:List UInt64,vs=[.agg (.u64s a),.agg (.u64s b),.c (.clo f [])]∧(a.length=4∧b.length=4)∧(∀ x y,q [.c (.u64 x),.c (.u64 y)] (fun v=>v= .c (.u64 (g x y))))∧K (.agg (.u64s (zipC g a b)))
theorem zd6{cf:FuncId}{cq:QSpec}(hen:z67 Tryd.prog cf)(hok:z1s Tryd.prog gl cf cq):z1s Tryd.prog gl 151 (zeh cf cq):=by
 refine z1r (Γ:=gK cf cq) (N:=24) Tryd.func151 rfl rfl fun vs K h=>?_;obtain⟨g,a,b,rfl,⟨ha,hb⟩,hcall,h⟩:=h;refine⟨_,h,rfl,by simp,fun w I=>?_⟩
 have hlook:=gK_look (f:=cf) (q:=cq)
 refine seq_k fun _ K1=>?_;refine z01 (gK_ok hen hok) fun _ K2=>?_;refine sS fun _ hS=>?_;(repeat refine aI qUa1 ?_);apply hS;clear hS;refine sS fun _ hS=>?_;(repeat refine aI qUa1 ?_);apply hS;clear hS;refine sS fun _ hS=>?_;(repeat refine aI qUa1 ?_);apply hS;clear hS;refine s_n K2 ?_;apply K1;refine seq_k fun _ K3=>?_;refine z01 (gK_ok hen hok) fun _ K4=>?_;refine sS fun _ hS=>?_;(repeat refine aI qUa1 ?_);apply hS;clear hS;refine s_n K4 ?_;apply K3;refine seq_k fun _ K5=>?_;refine seq_k fun _ K6=>?_;refine z01 (gK_ok hen hok) fun _ K7=>?_;refine sS1 ?_;refine s_n K7 ?_;apply K6;refine z03 ?_;refine z0m (α:=Nat) (fun k=>[(2,.c (.clo cf [])),(3,.c (.ptr 0 0)),(4,.c (.ptr 1 0)),(6,.c (.ptr 2 0)),(7,.c (.ptr 3 0)),(9,.c (.int .i64 k))]) (fun k=>[(0,.own 50 (.u64s a) 4),(1,.own 50 (.u64s b) 4),(2,.own 50 (.u64s (List.replicate 4 0)) 4),(3,.own 50 (.u64s (zipK g a b k)) 4)]) 4 (fun k=>k≤4) (fun k=>4 - k) ?_ ?_
 ·refine dnS [] id 0 (Nat.zero_le _) [0,1,2,3] ?_ ?_ ?_ ?_
  ·exact uUa0
  ·exact uUa0
  ·exact uUa0
  ·exact uUa0
 ·intro k hk
  refine seq_k fun _ K8=>?_;refine z01 (gK_ok hen hok) fun _ K9=>?_;refine sS fun _ hS=>?_;(repeat refine aI qUa1 ?_);apply hS;clear hS;refine s_n K9 ?_;apply K8;refine seq_k fun _ K10=>?_;refine z04 (b:=_) rfl (fun h_t10=>?_) (fun h_t10=>?_)
  ·try simp only[dQ,reduceIte]at h_t10
   refine z09 ?_;apply K10;refine seq_k fun _ K11=>?_;refine z03 ?_;refine seq_k fun _ K12=>?_;refine z01 (gK_ok hen hok) fun _ K13=>?_
   iterate 2 refine sS1 ?_
   refine s_n K13 ?_;apply K12
   have hk4:k< 4:=by omega
   have hst:=zw2 g a b hk4
   have hi1:0+(k:Int).toNat*1=k:=by omega
   refine z69 (gK_ok hen hok) [(0,true),(1,true),(2,true),(3,true),(4,true),(5,true),(6,true),(7,true),(8,false),(9,true),(10,false)] rfl kR kR fun _ K14=>?_
   iterate 3 refine dD1 ?_
   refine dR fun _ hS=>?_;(repeat refine aI qUa2 ?_);apply hS;clear hS;refine dR fun _ hS=>?_;(repeat refine aI qUa2 ?_);(first|apply hS|(refine z0a qUa2 ?_;apply hS)|(refine z0c ?_;apply hS));clear hS;refine dD1 ?_;refine dR fun _ hS=>?_;(repeat refine aI qUa2 ?_);apply hS;clear hS;refine dR fun _ hS=>?_;(repeat refine aI qUa2 ?_);(first|apply hS|(refine z0a qUa2 ?_;apply hS)|(refine z0c ?_;apply hS));clear hS;refine dG fun _ hS=>?_;refine zuv (xs:=[.u64 (a.getD (0+(k:Int).toNat*1) 0),.u64 (b.getD (0+(k:Int).toNat*1) 0)]) hlook (z52 zlc (z52 zlc z7h)) z7h ?_;refine⟨_,hcall _ _,?_⟩;apply hS;clear hS;refine dR fun _ hS=>?_;(repeat refine aI qUa2 ?_);apply hS;clear hS;refine d_grow0 rfl rfl rfl fun _ hS=>?_
   repeat refine aI qUa2 ?_
   first|apply hS|(refine z07 qUa2 ?_;apply hS)
   clear hS;refine d_n K14 ?_;refine z05 ?_;apply K11;refine z01 (gK_ok hen hok) fun _ K15=>?_;refine sS fun _ hS=>?_;(repeat refine aI qUa1 ?_);apply hS;clear hS;refine sS1 ?_;refine s_n K15 ?_;refine dnS [] id (k+1) ⟨by omega,by omega⟩ [0,1,2,3] ?_ ?_ ?_ ?_
   ·exact uUa0
   ·exact uUa0
   ·exact uUa0
   ·exact uUa0
  ·try simp only[dQ,reduceIte]at h_t10
   refine z0i ?_;refine z00 ?_;refine z00 ?_;refine z0f ?_;apply K5;refine seq_k fun _ K16=>?_;refine z01 (gK_ok hen hok) fun _ K17=>?_;refine sS fun _ hS=>?_;(repeat refine aI qUa1 ?_);(first|apply hS|(refine z0a qUa1 ?_;apply hS)|(refine z0c ?_;apply hS));clear hS;refine sS0 fun _ hS=>?_;(repeat refine aI qUa1 ?_);(first|apply hS|(refine z07 qUa1 ?_;apply hS));clear hS;refine s_n K17 ?_;apply K16;refine z0e (z0d (gK_ok hen hok) (fun _ _ h=>h) (by first|rfl|assumption) [.cell 6 50] rfl ?_)
   repeat refine aI (by first|omega|exact trivial|rfl|(simp<;>omega)) ?_
   try refine z0l (by first|omega|exact trivial|rfl|(simp<;>omega)) ?_
   obtain rfl:k=4:=by omega
   rfl

noncomputable def zw3:Ctx:={ P:=Tryd.prog,ty:=ty,glob:=gl,fs:=[(151,.flat (zeh 152 kAndS))] }
theorem zg9:zw3.OK:=⟨tyOK,⟨⟨z0b Tryd.func151 kR rfl,zd6 (z0b Tryd.func152 kR rfl) kAnd_ok⟩,trivial⟩,mixed⟩
@[simp] theorem kinter_ty:zw3.ty=ty:=rfl

def interS:QSpec:=fun vs K=>∃ a b:List UInt64,vs=[.agg (.u64s a),.agg (.u64s b)]∧(a.length=4∧b.length=4)∧K (.agg (.u64s (zipC (fun x y=>x &&& y) a b)))
theorem inter_ok:z1s Tryd.prog gl 106 interS:=by
 refine z1r (Γ:=zw3) (N:=8) Tryd.func106 rfl rfl fun vs K h=>?_;obtain⟨a,b,rfl,⟨ha,hb⟩,h⟩:=h;refine⟨_,h,rfl,by simp,fun w I=>?_⟩;refine seq_k fun _ K1=>?_;refine z01 zg9 fun _ K2=>?_;refine sS fun _ hS=>?_;(repeat refine aI qUa1 ?_);apply hS;clear hS;refine sS fun _ hS=>?_;(repeat refine aI qUa1 ?_);apply hS;clear hS;refine sS fun _ hS=>?_;(repeat refine aI qUa1 ?_);apply hS;clear hS;refine s_n K2 ?_;apply K1;refine seq_k fun _ K3=>?_;refine z01 zg9 fun _ K4=>?_;refine sS fun _ hS=>?_;(repeat refine aI qUa1 ?_);(first|apply hS|(refine z0a qUa1 ?_;apply hS)|(refine z0c ?_;apply hS));clear hS;refine sS fun _ hS=>?_;(repeat refine aI qUa1 ?_);(first|apply hS|(refine z0a qUa1 ?_;apply hS)|(refine z0c ?_;apply hS));clear hS;refine sS fun _ hS=>?_;(repeat first|refine aI qUa1 ?_|refine z0a qUa1 ?_|refine z0c ?_);refine⟨fun x y=>x &&& y,a,b,rfl,⟨ha,hb⟩,fun x y=>⟨x,y,rfl,rfl⟩,?_⟩;(repeat refine aI qUa1 ?_);(first|apply hS|(intro cap2 hcap2;apply hS));clear hS;refine sS0 fun _ hS=>?_;(repeat refine aI qUa1 ?_);(first|apply hS|(refine z07 qUa1 ?_;apply hS));clear hS;refine s_n K4 ?_;apply K3;refine z0e (z0d zg9 (fun _ _ h=>h) (by first|rfl|assumption) [.cell 4 50] rfl ?_)
 repeat refine aI (by first|omega|exact trivial|rfl|(simp<;>omega)) ?_
 try refine z0l (by first|omega|exact trivial|rfl|(simp<;>omega)) ?_
 show _=_
 rfl



noncomputable def zw4:Ctx:={ P:=Tryd.prog,ty:=ty,glob:=gl,fs:=[(151,.flat (zeh 153 kOrS))] }
theorem zga:zw4.OK:=⟨tyOK,⟨⟨z0b Tryd.func151 kR rfl,zd6 (z0b Tryd.func153 kR rfl) kOr_ok⟩,trivial⟩,mixed⟩
@[simp] theorem kunion_ty:zw4.ty=ty:=rfl

def zqx:QSpec:=fun vs K=>∃ a b:List UInt64,vs=[.agg (.u64s a),.agg (.u64s b)]∧(a.length=4∧b.length=4)∧K (.agg (.u64s (zipC (fun x y=>x ||| y) a b)))
theorem zj9:z1s Tryd.prog gl 107 zqx:=by
 refine z1r (Γ:=zw4) (N:=8) Tryd.func107 rfl rfl fun vs K h=>?_;obtain⟨a,b,rfl,⟨ha,hb⟩,h⟩:=h;refine⟨_,h,rfl,by simp,fun w I=>?_⟩;refine seq_k fun _ K1=>?_;refine z01 zga fun _ K2=>?_;refine sS fun _ hS=>?_;(repeat refine aI qUa1 ?_);apply hS;clear hS;refine sS fun _ hS=>?_;(repeat refine aI qUa1 ?_);apply hS;clear hS;refine sS fun _ hS=>?_;(repeat refine aI qUa1 ?_);apply hS;clear hS;refine s_n K2 ?_;apply K1;refine seq_k fun _ K3=>?_;refine z01 zga fun _ K4=>?_;refine sS fun _ hS=>?_;(repeat refine aI qUa1 ?_);(first|apply hS|(refine z0a qUa1 ?_;apply hS)|(refine z0c ?_;apply hS));clear hS;refine sS fun _ hS=>?_;(repeat refine aI qUa1 ?_);(first|apply hS|(refine z0a qUa1 ?_;apply hS)|(refine z0c ?_;apply hS));clear hS;refine sS fun _ hS=>?_;(repeat first|refine aI qUa1 ?_|refine z0a qUa1 ?_|refine z0c ?_);refine⟨fun x y=>x ||| y,a,b,rfl,⟨ha,hb⟩,fun x y=>⟨x,y,rfl,rfl⟩,?_⟩;(repeat refine aI qUa1 ?_);(first|apply hS|(intro cap2 hcap2;apply hS));clear hS;refine sS0 fun _ hS=>?_;(repeat refine aI qUa1 ?_);(first|apply hS|(refine z07 qUa1 ?_;apply hS));clear hS;refine s_n K4 ?_;apply K3;refine z0e (z0d zga (fun _ _ h=>h) (by first|rfl|assumption) [.cell 4 50] rfl ?_)
 repeat refine aI (by first|omega|exact trivial|rfl|(simp<;>omega)) ?_
 try refine z0l (by first|omega|exact trivial|rfl|(simp<;>omega)) ?_
 show _=_
 rfl



noncomputable def knotC:Ctx:={ P:=Tryd.prog,ty:=ty,glob:=gl,fs:=[(151,.flat (zeh 154 kNotS))] }
theorem zja:knotC.OK:=⟨tyOK,⟨⟨z0b Tryd.func151 kR rfl,zd6 (z0b Tryd.func154 kR rfl) kNot_ok⟩,trivial⟩,mixed⟩
@[simp] theorem knotC_ty:knotC.ty=ty:=rfl

def notCS:QSpec:=fun vs K=>∃ a:List UInt64,vs=[.agg (.u64s a)]∧a.length=4∧K (.agg (.u64s (zipC (fun x _=> ~~~x) a a)))
theorem zw5:z1s Tryd.prog gl 108 notCS:=by
 refine z1r (Γ:=knotC) (N:=6) Tryd.func108 rfl rfl fun vs K h=>?_;obtain⟨a,rfl,ha,h⟩:=h;refine⟨_,h,rfl,by simp,fun w I=>?_⟩;refine seq_k fun _ K1=>?_;refine z01 zja fun _ K2=>?_;refine sS fun _ hS=>?_;(repeat refine aI qUa3 ?_);apply hS;clear hS;refine sS fun _ hS=>?_;(repeat refine aI qUa3 ?_);apply hS;clear hS;refine s_n K2 ?_;apply K1;refine seq_k fun _ K3=>?_;refine z01 zja fun _ K4=>?_;refine sS fun _ hS=>?_;(repeat refine aI qUa3 ?_);(first|apply hS|(refine z0a qUa3 ?_;apply hS)|(refine z0c ?_;apply hS));clear hS;refine sS fun _ hS=>?_;(repeat refine aI qUa3 ?_);(first|apply hS|(refine z0a qUa3 ?_;apply hS)|(refine z0c ?_;apply hS));clear hS;refine sS fun _ hS=>?_;(repeat first|refine aI qUa3 ?_|refine z0a qUa3 ?_|refine z0c ?_);refine⟨fun x _=> ~~~x,a,a,rfl,⟨ha,ha⟩,fun x y=>⟨x,y,rfl,rfl⟩,?_⟩;(repeat refine aI qUa3 ?_);(first|apply hS|(intro cap2 hcap2;apply hS));clear hS;refine sS0 fun _ hS=>?_;(repeat refine aI qUa3 ?_);(first|apply hS|(refine z07 qUa3 ?_;apply hS));clear hS;refine s_n K4 ?_;apply K3;refine z0e (z0d zja (fun _ _ h=>h) (by first|rfl|assumption) [.cell 2 50] rfl ?_)
 repeat refine aI (by first|omega|exact trivial|rfl|(simp<;>omega)) ?_
 try refine z0l (by first|omega|exact trivial|rfl|(simp<;>omega)) ?_
 show _=_
 rfl


end Go.Proofs.YtppmnaoollkboaaDoor

namespace Go.Proofs.YtppmnaoollkboaaDoor
set_option linter.all false
open Go.Ab Go.RowKit

section
variable {a b:Prop}
theorem qUb0(h:a:=by first|exact vcA|(simp[hw1]<;>omega)|exact vcB):a:=h
theorem qUb1(h:a:=by first|exact vcA|(simp[hw1,hcl,hw1]<;>omega)|(simp<;>omega)|exact vcB):a:=h
theorem qUb2(h:a:=by first|exact vcA|(simp[hw1,hcl]<;>omega)|(show(clsAt d.cls k).length=4;exact hcl)|exact hcl|exact vcB):a:=h
theorem qUb3(h:a:=by first|exact vcA|(simp[hw1]<;>omega)|(simp<;>omega)|exact vcB):a:=h
theorem uUb_0(h:a:=by
    repeat' (first|exact trivial|refine aI ?_ ?_|exact cC0|refine low_cons' ?_ ?_|exact cC1|fail)
    all_goals first|omega|exact z9s _|exact low_cons' trivial (low_cons' trivial (low_cons' trivial low_nil'))|(show(_:List UInt64)=_;rfl)|(simp[hcl];done)|(simp<;>omega)|skip):a:=h
theorem DUb_0(kZ:b)(h:HidB b→a:=by intro kZ;(repeat first|refine aI qUb0 ?_|refine z0a qUb0 ?_|refine z07 qUb0 ?_|refine z0l qUb0 ?_|refine z0c ?_);exact kZ.out):a:=h ⟨kZ⟩
theorem z1f(kZ:b)(h:HidB b→a:=by intro kZ;refine sX ?_;refine DUb_0 ?_;refine exI ?_;exact kZ.out):a:=h ⟨kZ⟩
theorem zgb(kZ:b)(h:HidB b→a:=by intro kZ;refine sXT ?_;refine DUb_0 ?_;refine exI ?_;exact kZ.out):a:=h ⟨kZ⟩
theorem DUb_3(kZ:b)(h:HidB b→a:=by intro kZ;(repeat first|refine aI qUb1 ?_|refine z0a qUb1 ?_|refine z07 qUb1 ?_|refine z0l qUb1 ?_|refine z0c ?_);exact kZ.out):a:=h ⟨kZ⟩
theorem sXUb_4(kZ:b)(h:HidB b→a:=by intro kZ;refine sX ?_;refine DUb_3 ?_;refine exI ?_;exact kZ.out):a:=h ⟨kZ⟩
theorem sX0Ub_5(kZ:b)(h:HidB b→a:=by intro kZ;refine sX0 ?_;refine DUb_3 ?_;refine exI ?_;exact kZ.out):a:=h ⟨kZ⟩
theorem DUb_6(kZ:b)(h:HidB b→a:=by intro kZ;(repeat first|refine aI qUb2 ?_|refine z0a qUb2 ?_|refine z07 qUb2 ?_|refine z0l qUb2 ?_|refine z0c ?_);exact kZ.out):a:=h ⟨kZ⟩
theorem zw6(kZ:b)(h:HidB b→a:=by intro kZ;refine sX ?_;refine DUb_6 ?_;refine exI ?_;exact kZ.out):a:=h ⟨kZ⟩
theorem zw7(kZ:b)(h:HidB b→a:=by intro kZ;refine sXT ?_;refine DUb_6 ?_;refine exI ?_;exact kZ.out):a:=h ⟨kZ⟩
theorem DUb_9(kZ:b)(h:HidB b→a:=by intro kZ;(repeat first|refine aI qUb3 ?_|refine z0a qUb3 ?_|refine z07 qUb3 ?_|refine z0l qUb3 ?_|refine z0c ?_);exact kZ.out):a:=h ⟨kZ⟩
theorem zon(kZ:b)(h:HidB b→a:=by intro kZ;refine sX ?_;refine DUb_9 ?_;refine exI ?_;exact kZ.out):a:=h ⟨kZ⟩
theorem sX0Ub_11(kZ:b)(h:HidB b→a:=by intro kZ;refine sX0 ?_;refine DUb_9 ?_;refine exI ?_;exact kZ.out):a:=h ⟨kZ⟩
theorem z45(kZ:b)(h:HidB b→a:=by intro kZ;refine sX ?_;refine DUb_0 ?_;exact kZ.out):a:=h ⟨kZ⟩
theorem sXEUb_13(kZ:b)(h:HidB b→a:=by intro kZ;refine sX ?_;refine DUb_6 ?_;exact kZ.out):a:=h ⟨kZ⟩
theorem zw8(kZ:b)(h:HidB b→a:=by intro kZ;refine sXT ?_;refine DUb_6 ?_;exact kZ.out):a:=h ⟨kZ⟩
theorem zqy(kZ:b)(h:HidB b→a:=by intro kZ;refine sX ?_;refine DUb_9 ?_;exact kZ.out):a:=h ⟨kZ⟩
end
open Go.Aut
def rowsC(l:List (List Int)):List Cell:=l.map fun r=>.ds r.length (.ints .i64 r)
abbrev dfaC(d:Dfa):Cont:=.cells [.ds d.nc (.u64s d.cls),.ds d.next.length (.cells (rowsC d.next)),.ds d.acc.length (.bools d.acc)]
abbrev dfaV(d:Dfa):SV:=.agg (dfaC d)
def _root_.Go.Aut.Dfa.wf(d:Dfa):Prop:=d.cls.length=d.nc*4∧d.nc≤9223372036854775807∧d.next.length≤9223372036854775807∧d.acc.length≤9223372036854775807∧∀ r∈d.next,r.length≤9223372036854775807
@[simp] theorem z0s(l:List (List Int)):(rowsC l).length=l.length:=by simp[rowsC]
theorem z6u{l:List (List Int)}{i:Nat}(h:i< l.length):(Cont.cells (rowsC l)).get i= .ds (l.getD i []).length (.ints .i64 (l.getD i [])):=by
  simp[Cont.get,rowsC,List.getD_eq_getElem?_getD,h]
theorem z9s{n:Nat}(l:List (List Int)):(Cont.cells (rowsC l)).low n:=fun x hx=>by
  obtain⟨r,_,rfl⟩:=List.mem_map.1 hx;exact trivial
theorem z8w(l:List (List Int)):allD (rowsC l):=by
  induction l with
  |nil=>trivial
  |cons r l ih=>exact⟨trivial,ih⟩
abbrev Z4:List UInt64:=List.replicate 4 0
def clsAt(l:List UInt64)(i:Nat):List UInt64:=(l.drop (i*4)).take 4
theorem z2s{l:List UInt64}{n i:Nat}(h:l.length=n*4)(hi:i< n):(clsAt l i).length=4:=by simp[clsAt];omega
def orC(a b:List UInt64):List UInt64:=zipC (fun x y=>x ||| y) a b
def andC(a b:List UInt64):List UInt64:=zipC (fun x y=>x &&& y) a b
def notK(a:List UInt64):List UInt64:=zipC (fun x _=> ~~~x) a a
def seenL(l:List UInt64):Nat→List UInt64
  |0=>Z4
  |k+1=>orC (seenL l k) (clsAt l k)
@[simp] theorem z6v(l:List UInt64):∀ k,(seenL l k).length=4
  |0=>rfl
  |k+1=>z33 ..
def z5r(l:List UInt64)(k:Nat):Bool:= !decide (clsAt l k=Z4)&&decide (andC (seenL l k) (clsAt l k)=Z4)
def clsP(l:List UInt64)(nc:Nat):Bool:=(List.range nc).all (z5r l)&&decide (notK (seenL l nc)=Z4)
def tgtOK(n:Nat)(t:Int):Bool:=decide (0≤t)&&decide (t< n)
def rowOK(nc n:Nat)(r:List Int):Bool:=decide (r.length=nc)&&r.all (tgtOK n)
def z4x(d:Dfa):Bool:=decide (1≤d.next.length∧d.next.length≤64∧d.acc.length=d.next.length∧1≤d.nc∧d.nc≤256)&&clsP d.cls d.nc&&d.next.all (rowOK d.nc d.next.length)
theorem z60{α:Type}{p:α→Bool}{l:List α}{k:Nat}{d:α}(h:k< l.length)(h1:(l.take k).all p=true)(h2:p (l.getD k d)=true):(l.take (k+1)).all p=true:=by
  rw[List.take_add_one,List.all_append,h1,List.getElem?_eq_getElem h];rw[List.getD_eq_getElem?_getD,List.getElem?_eq_getElem h]at h2
  simpa using h2
theorem za8{α:Type}{p:α→Bool}{l:List α}{k:Nat}{d:α}(h:k< l.length)(h2:p (l.getD k d)=false):l.all p=false:=by
  rw[List.getD_eq_getElem?_getD,List.getElem?_eq_getElem h]at h2;rw[List.all_eq_false];exact⟨l[k],List.getElem_mem h,by simpa using h2⟩
theorem z79{p:Nat→Bool}{k:Nat}(h1:(List.range k).all p=true)(h2:p k=true):(List.range (k+1)).all p=true:=by
  rw[List.range_succ,List.all_append,h1];simpa using h2
theorem z6w{p:Nat→Bool}{k n:Nat}(h:k< n)(h2:p k=false):(List.range n).all p=false:=by
  rw[List.all_eq_false];exact⟨k,List.mem_range.2 h,by simpa using h2⟩
noncomputable def m1:Ctx:={ P:=Tryd.prog,ty:=ty,glob:=gl,fs:=[(106,.flat interS),(107,.flat zqx),(108,.flat notCS)] }
theorem m1_ok:m1.OK:=⟨tyOK,⟨⟨z0b Tryd.func106 kR rfl,inter_ok⟩,⟨z0b Tryd.func107 kR rfl,zj9⟩,⟨z0b Tryd.func108 kR rfl,zw5⟩,trivial⟩,mixed⟩
@[simp] theorem m1_ty:m1.ty=ty:=rfl

def zoo:QSpec:=fun vs K=>∃ d:Dfa,vs=[dfaV d]∧d.wf∧K (.c (.bool (z4x d)))
theorem zm2 : z1s Tryd.prog gl 50 zoo:=by
 refine z1r (Γ:=m1) (N:=92) Tryd.func50 rfl rfl fun vs K h=>?_;obtain⟨d,rfl,⟨hw1,hw2,hw3,hw4,hw5⟩,h⟩:=h;refine⟨_,h,rfl,by simp,fun w I=>?_⟩;refine srR m1_ok fun _ K2=>?_
 iterate 2 refine z1f ?_
 refine s_n K2 ?_;refine srR m1_ok fun _ K4=>?_
 iterate 4 refine z1f ?_
 refine s_n K4 ?_;refine seq_k fun _ K5=>?_;refine srR m1_ok fun _ K7=>?_
 iterate 2 refine z1f ?_
 refine z45 ?_;refine exB (fun hb2=>?_) (fun hb2=>?_)
 ·try simp only[dQ,reduceIte]at hb2
  iterate 2 refine sN ?_
  refine z1f ?_;refine z45 ?_;refine exB (fun hb6=>?_) (fun hb6=>?_)
  rotate_left 1
  ·exfalso;simp at hb6
  iterate 5 refine sN ?_
  refine z1f ?_;refine z45 ?_;refine exB (fun hb13=>?_) (fun hb13=>?_)
  rotate_left 1
  ·exfalso;simp at hb13
  iterate 4 refine sN ?_
  refine z1f ?_;refine z45 ?_;refine exB (fun hb19=>?_) (fun hb19=>?_)
  rotate_left 1
  ·exfalso;simp at hb19
  iterate 4 refine sN ?_
  refine z1f ?_;refine s_n K7 ?_;refine z04 (b:=_) rfl (fun _=>?_) (fun h_t38=>?_)
  rotate_left 1
  ·exfalso;simp at h_t38
  refine srR m1_ok fun _ K9=>?_;refine z1f ?_;refine s_n K9 ?_;refine z0e (z0d m1_ok (fun _ _ h=>h) (by first|rfl|assumption) [.tmp 2] rfl ?_);refine rtD ?_
  show SV.c (.bool false)=_
  rw[z4x,decide_eq_false (fun hh=>by omega),Bool.false_and,Bool.false_and]
 ·try simp only [dQ,reduceIte]at hb2
  iterate 2 refine zgb ?_
  refine z1f ?_;refine z45 ?_;refine exB (fun hb6=>?_) (fun hb6=>?_)
  ·try simp only[dQ,reduceIte]at hb6
   iterate 5 refine sN ?_
   refine z1f ?_;refine z45 ?_;refine exB (fun hb13=>?_) (fun hb13=>?_)
   rotate_left 1
   ·exfalso;simp at hb13
   iterate 4 refine sN ?_
   refine z1f ?_;refine z45 ?_;refine exB (fun hb19=>?_) (fun hb19=>?_)
   rotate_left 1
   ·exfalso;simp at hb19
   iterate 4 refine sN ?_
   refine z1f ?_;refine s_n K7 ?_;refine z04 (b:=_) rfl (fun _=>?_) (fun h_t38=>?_)
   rotate_left 1
   ·exfalso;simp at h_t38
   refine srR m1_ok fun _ K11=>?_;refine z1f ?_;refine s_n K11 ?_;refine z0e (z0d m1_ok (fun _ _ h=>h) (by first|rfl|assumption) [.tmp 2] rfl ?_);refine rtD ?_
   show SV.c (.bool false)=_
   rw[z4x,decide_eq_false (fun hh=>by omega),Bool.false_and,Bool.false_and]
  ·try simp only [dQ,reduceIte]at hb6
   iterate 5 refine zgb ?_
   refine z1f ?_;refine z45 ?_;refine exB (fun hb13=>?_) (fun hb13=>?_)
   ·try simp only[dQ,reduceIte]at hb13
    iterate 4 refine sN ?_
    refine z1f ?_;refine z45 ?_;refine exB (fun hb19=>?_) (fun hb19=>?_)
    rotate_left 1
    ·exfalso;simp at hb19
    iterate 4 refine sN ?_
    refine z1f ?_;refine s_n K7 ?_;refine z04 (b:=_) rfl (fun _=>?_) (fun h_t38=>?_)
    rotate_left 1
    ·exfalso;simp at h_t38
    refine srR m1_ok fun _ K13=>?_;refine z1f ?_;refine s_n K13 ?_;refine z0e (z0d m1_ok (fun _ _ h=>h) (by first|rfl|assumption) [.tmp 2] rfl ?_);refine rtD ?_
    show SV.c (.bool false)=_
    rw[z4x,decide_eq_false (fun hh=>by omega),Bool.false_and,Bool.false_and]
   ·try simp only[dQ,reduceIte]at hb13
    iterate 4 refine zgb ?_
    refine z1f ?_;refine z45 ?_;refine exB (fun hb19=>?_) (fun hb19=>?_)
    ·try simp only[dQ,reduceIte]at hb19
     iterate 4 refine sN ?_
     refine z1f ?_;refine s_n K7 ?_;refine z04 (b:=_) rfl (fun _=>?_) (fun h_t38=>?_)
     rotate_left 1
     ·exfalso;simp at h_t38
     refine srR m1_ok fun _ K15=>?_;refine z1f ?_;refine s_n K15 ?_;refine z0e (z0d m1_ok (fun _ _ h=>h) (by first|rfl|assumption) [.tmp 2] rfl ?_);refine rtD ?_
     show SV.c (.bool false)=_
     rw[z4x,decide_eq_false (fun hh=>by omega),Bool.false_and,Bool.false_and]
    ·try simp only[dQ,reduceIte]at hb19
     iterate 4 refine zgb ?_
     refine z1f ?_;refine s_n K7 ?_;refine z04 (b:=_) rfl (fun h_t38=>?_) (fun h_t38=>?_)
     ·try simp only[dQ,reduceIte]at h_t38
      refine srR m1_ok fun _ K17=>?_;refine z1f ?_;refine s_n K17 ?_;refine z0e (z0d m1_ok (fun _ _ h=>h) (by first|rfl|assumption) [.tmp 2] rfl ?_);refine rtD ?_
      show SV.c (.bool false)=_
      rw[z4x,decide_eq_false (fun hh=>by omega),Bool.false_and,Bool.false_and]
     ·try simp only[dQ,reduceIte]at h_t38
      refine z09 ?_;apply K5;refine srR m1_ok fun _ K19=>?_;refine z1f ?_;refine s_n K19 ?_;refine seq_k fun _ K20=>?_
      have hbase:1≤d.next.length∧d.next.length≤64∧d.acc.length=d.next.length∧1≤d.nc∧d.nc≤256:=by omega
      refine srR m1_ok fun _ K22=>?_
      iterate 4 refine z1f ?_
      refine s_n K22 ?_;refine z03 ?_;refine z0m (α:=Nat) (fun k=>[(1,.c (.ptr 0 0)),(3,.c (.int .i64 d.next.length)),(4,.c (.ptr 1 0)),(40,.c (.ds d.nc (.u64s d.cls))),(41,.c (.int .i64 d.nc)),(42,.c (.int .i64 k))]) (fun k=>[(0,.own 30 (dfaC d) 3),(1,.own 50 (.u64s (seenL d.cls k)) 4)]) 2 (fun k=>k≤d.nc∧(List.range k).all (z5r d.cls)=true) (fun k=>d.nc - k) ?_ ?_
      ·refine dnS [] id 0 ⟨Nat.zero_le _,rfl⟩ [0,1] uUb_0 uUb_0 uUb_0 uUb_0
      ·intro k hk
       refine srR m1_ok fun _ K24=>?_;refine z1f ?_;refine s_n K24 ?_;refine seq_k fun _ K25=>?_;refine z04 (b:=_) rfl (fun h_t43=>?_) (fun h_t43=>?_)
       ·try simp only[dQ,reduceIte]at h_t43
        refine z09 ?_;apply K25;refine seq_k fun _ K26=>?_;refine z03 ?_
        have hkn:k< d.nc:=by omega
        have hcl:=z2s hw1 hkn
        have hsub:(Cont.u64s d.cls).sub ((k:Int).toNat*4) (4*1)= .u64s (clsAt d.cls k):=rfl
        refine srR m1_ok fun _ K28=>?_;refine sXUb_4 ?_;refine sX ?_;refine aI (by decide) ?_;refine aI (by simp only[z4n];omega) ?_;refine z0c ?_;rw[hsub];refine exI ?_;refine sXUb_4 ?_;refine sX0Ub_5 ?_;refine s_n K28 ?_;refine seq_k fun _ K29=>?_;refine srR m1_ok fun _ K31=>?_
        iterate 3 refine zw6 ?_
        refine sXEUb_13 ?_;refine exB (fun hb3=>?_) (fun hb3=>?_)
        ·try simp only[dQ,reduceIte]at hb3
         iterate 5 refine sN ?_
         refine zw6 ?_;refine s_n K31 ?_;refine z04 (b:=_) rfl (fun _=>?_) (fun h_t55=>?_)
         rotate_left 1
         ·exfalso;simp at h_t55
         have hng:z5r d.cls k=false:=by
          first|(rw[z5r,decide_eq_true (show clsAt d.cls k=Z4 from hb3)];rfl)|(rw[z5r,decide_eq_false (show ¬ andC (seenL d.cls k) (clsAt d.cls k)=Z4 from h_t55),Bool.and_false])
         refine srR m1_ok fun _ K33=>?_;refine z1f ?_;refine s_n K33 ?_;refine z0e (z0d m1_ok (fun _ _ h=>h) (by first|rfl|assumption) [.tmp 2] rfl ?_);refine rtD ?_
         show SV.c (.bool false)=_
         rw[z4x,clsP,z6w hkn hng,Bool.false_and,Bool.and_false,Bool.false_and]
        ·try simp only[dQ,reduceIte]at hb3
         iterate 2 refine zw7 ?_
         refine zw8 ?_;refine⟨seenL d.cls k,clsAt d.cls k,rfl,⟨z6v _ _,hcl⟩,?_⟩;refine DUb_6 ?_
         first|refine exI ?_|(intro cap6 hcap6;refine exI ?_)
         iterate 2 refine zw7 ?_
         refine zw6 ?_;refine s_n K31 ?_;refine z04 (b:=_) rfl (fun h_t55=>?_) (fun h_t55=>?_)
         ·try simp only[dQ,reduceIte]at h_t55
          have hng:z5r d.cls k=false:=by
           first|(rw[z5r,decide_eq_true (show clsAt d.cls k=Z4 from hb3)];rfl)|(rw[z5r,decide_eq_false (show ¬ andC (seenL d.cls k) (clsAt d.cls k)=Z4 from h_t55),Bool.and_false])
          refine srR m1_ok fun _ K35=>?_;refine z1f ?_;refine s_n K35 ?_;refine z0e (z0d m1_ok (fun _ _ h=>h) (by first|rfl|assumption) [.tmp 2] rfl ?_);refine rtD ?_
          show SV.c (.bool false)=_
          rw[z4x,clsP,z6w hkn hng,Bool.false_and,Bool.and_false,Bool.false_and]
         ·try simp only[dQ,reduceIte]at h_t55
          refine z09 ?_;apply K29
          have hgood:z5r d.cls k=true:=by simp only[z5r];simp[hb3];exact h_t55
          refine z01 m1_ok fun _ K36=>?_
          iterate 2 refine zon ?_
          refine zqy ?_;refine⟨seenL d.cls k,clsAt d.cls k,rfl,⟨z6v _ _,hcl⟩,?_⟩;refine DUb_9 ?_
          first|refine exI ?_|(intro cap2 hcap2;refine exI ?_)
          refine sX0Ub_11 ?_;refine s_n K36 ?_;refine z05 ?_;apply K26;refine z01 m1_ok fun _ K37=>?_
          iterate 2 refine z1f ?_
          refine s_n K37 ?_;refine dnS [] id (k+1) ⟨⟨by omega,z79 hk.2 hgood⟩,by omega⟩ [0,1] uUb_0 uUb_0 uUb_0 uUb_0
       ·try simp only[dQ,reduceIte]at h_t43
        refine z0i ?_;refine z00 ?_;refine z00 ?_;refine z0f ?_;apply K20;refine seq_k fun _ K38=>?_
        obtain rfl:k=d.nc:=by omega
        have hclsall:=hk.2
        refine srR m1_ok fun _ K40=>?_;refine z1f ?_;refine z45 ?_;refine⟨seenL d.cls d.nc,rfl,z6v _ _,?_⟩;refine DUb_0 ?_
        first|refine exI ?_|(intro cap1 hcap1;refine exI ?_)
        iterate 2 refine z1f ?_
        refine s_n K40 ?_;refine z04 (b:=_) rfl (fun h_t63=>?_) (fun h_t63=>?_)
        ·try simp only[dQ,reduceIte]at h_t63
         refine srR m1_ok fun _ K42=>?_;refine z1f ?_;refine s_n K42 ?_;refine z0e (z0d m1_ok (fun _ _ h=>h) (by first|rfl|assumption) [.tmp 2] rfl ?_);refine rtD ?_
         show SV.c (.bool false)=_
         have h63:¬ notK (seenL d.cls d.nc)=Z4:=h_t63
         rw[z4x,clsP,decide_eq_false h63,Bool.and_false,Bool.and_false,Bool.false_and]
        ·try simp only[dQ,reduceIte]at h_t63
         refine z09 ?_;apply K38;refine seq_k fun _ K43=>?_;refine srR m1_ok fun _ K45=>?_
         iterate 4 refine z1f ?_
         refine s_n K45 ?_;refine z03 ?_;refine z0m (α:=Nat) (fun k=>[(1,.c (.ptr 0 0)),(3,.c (.int .i64 d.next.length)),(4,.c (.ptr 1 0)),(65,.c (.ds d.next.length (.cells (rowsC d.next)))),(66,.c (.int .i64 d.next.length)),(67,.c (.int .i64 k))]) (fun k=>[(0,.own 30 (dfaC d) 3),(1,.own 50 (.u64s (seenL d.cls d.nc)) 4)]) 2 (fun k=>k≤d.next.length∧(d.next.take k).all (rowOK d.nc d.next.length)=true) (fun k=>d.next.length - k) ?_ ?_
         ·refine dnS [] id 0 ⟨Nat.zero_le _,rfl⟩ [0,1] uUb_0 uUb_0 uUb_0 uUb_0
         ·intro k hk
          refine srR m1_ok fun _ K47=>?_;refine z1f ?_;refine s_n K47 ?_;refine seq_k fun _ K48=>?_;refine z04 (b:=_) rfl (fun h_t68=>?_) (fun h_t68=>?_)
          ·try simp only[dQ,reduceIte]at h_t68
           refine z09 ?_;apply K48;refine seq_k fun _ K49=>?_;refine z03 ?_
           have hkn:k< d.next.length:=by omega
           have hrl:=hw5 _ (z30 (d:=[]) hkn)
           refine srR m1_ok fun _ K51=>?_;refine zon ?_;refine zqy ?_;rw[z6u]
           rotate_left 1
           ·first|omega|(simp<;>omega)
           refine exI ?_;refine zon ?_;refine s_n K51 ?_;refine seq_k fun _ K52=>?_;refine srR m1_ok fun _ K54=>?_
           iterate 6 refine z1f ?_
           refine s_n K54 ?_;refine z04 (b:=_) rfl (fun h_t76=>?_) (fun h_t76=>?_)
           ·try simp only[dQ,reduceIte]at h_t76
            simp only[Int.toNat_natCast,Nat.mul_one]at h_t76
            refine srR m1_ok fun _ K56=>?_;refine z1f ?_;refine s_n K56 ?_;refine z0e (z0d m1_ok (fun _ _ h=>h) (by first|rfl|assumption) [.tmp 2] rfl ?_);refine rtD ?_
            show SV.c (.bool false)=_
            rw[z4x,za8 (d:=[]) hkn (by rw[rowOK,decide_eq_false (fun e=>h_t76 (by simpa using e)),Bool.false_and]),Bool.and_false]
           ·try simp only[dQ,reduceIte]at h_t76
            simp only[Int.toNat_natCast,Nat.mul_one]at h_t76
            refine z09 ?_;apply K52;refine srR m1_ok fun _ K58=>?_
            iterate 3 refine z1f ?_
            refine s_n K58 ?_;refine z03 ?_;refine z0m (α:=Nat) (fun j=>[(1,.c (.ptr 0 0)),(3,.c (.int .i64 d.next.length)),(4,.c (.ptr 1 0)),(65,.c (.ds d.next.length (.cells (rowsC d.next)))),(66,.c (.int .i64 d.next.length)),(67,.c (.int .i64 k)),(8,.c (.ds (d.next.getD k []).length (.ints .i64 (d.next.getD k [])))),(77,.c (.ds (d.next.getD k []).length (.ints .i64 (d.next.getD k [])))),(78,.c (.int .i64 (d.next.getD k []).length)),(79,.c (.int .i64 j))]) (fun j=>[(0,.own 30 (dfaC d) 3),(1,.own 50 (.u64s (seenL d.cls d.nc)) 4)]) 2 (fun j=>j≤(d.next.getD k []).length∧((d.next.getD k []).take j).all (tgtOK d.next.length)=true) (fun j=>(d.next.getD k []).length - j) ?_ ?_
            ·refine dnS [] id 0 ⟨Nat.zero_le _,rfl⟩ [0,1] uUb_0 uUb_0 uUb_0 uUb_0
            ·intro j hj
             refine srR m1_ok fun _ K60=>?_;refine z1f ?_;refine s_n K60 ?_;refine seq_k fun _ K61=>?_;refine z04 (b:=_) rfl (fun h_t80=>?_) (fun h_t80=>?_)
             ·try simp only[dQ,reduceIte]at h_t80
              refine z09 ?_;apply K61;refine seq_k fun _ K62=>?_;refine z03 ?_
              have hjn:j< (d.next.getD k []).length:=by omega
              refine srR m1_ok fun _ K64=>?_
              iterate 3 refine z1f ?_
              refine s_n K64 ?_;refine srR m1_ok fun _ K66=>?_
              iterate 2 refine z1f ?_
              refine z45 ?_;refine exB (fun hb2=>?_) (fun hb2=>?_)
              ·try simp only[dQ,reduceIte]at hb2
               iterate 3 refine sN ?_
               refine z1f ?_;refine s_n K66 ?_;refine z04 (b:=_) rfl (fun _=>?_) (fun h_t89=>?_)
               rotate_left 1
               ·exfalso;simp at h_t89
               have htb:tgtOK d.next.length ((d.next.getD k []).getD j 0)=false:=by
                simp only[tgtOK,Bool.and_eq_false_iff,decide_eq_false_iff_not]
                first|(simp only[Int.toNat_natCast,Nat.mul_one]at hb2 h_t89;omega)|(simp only[Int.toNat_natCast,Nat.mul_one]at hb2;omega)
               refine srR m1_ok fun _ K68=>?_;refine z1f ?_;refine s_n K68 ?_;refine z0e (z0d m1_ok (fun _ _ h=>h) (by first|rfl|assumption) [.tmp 2] rfl ?_);refine rtD ?_
               show SV.c (.bool false)=_
               rw[z4x,za8 (d:=[]) hkn (by rw[rowOK,za8 (d:=0) hjn htb,Bool.and_false]),Bool.and_false]
              ·try simp only[dQ,reduceIte]at hb2
               iterate 3 refine zgb ?_
               refine z1f ?_;refine s_n K66 ?_;refine z04 (b:=_) rfl (fun h_t89=>?_) (fun h_t89=>?_)
               ·try simp only[dQ,reduceIte]at h_t89
                have htb:tgtOK d.next.length ((d.next.getD k []).getD j 0)=false:=by
                 simp only[tgtOK,Bool.and_eq_false_iff,decide_eq_false_iff_not]
                 first|(simp only[Int.toNat_natCast,Nat.mul_one]at hb2 h_t89;omega)|(simp only[Int.toNat_natCast,Nat.mul_one]at hb2;omega)
                refine srR m1_ok fun _ K70=>?_;refine z1f ?_;refine s_n K70 ?_;refine z0e (z0d m1_ok (fun _ _ h=>h) (by first|rfl|assumption) [.tmp 2] rfl ?_);refine rtD ?_
                show SV.c (.bool false)=_
                rw[z4x,za8 (d:=[]) hkn (by rw[rowOK,za8 (d:=0) hjn htb,Bool.and_false]),Bool.and_false]
               ·try simp only[dQ,reduceIte]at h_t89
                refine z09 ?_;refine z05 ?_;apply K62
                have htg:tgtOK d.next.length ((d.next.getD k []).getD j 0)=true:=by simp only[tgtOK,Bool.and_eq_true,decide_eq_true_eq];simp only[Int.toNat_natCast,Nat.mul_one]at hb2 h_t89;exact⟨by omega,by omega⟩
                refine z01 m1_ok fun _ K71=>?_
                iterate 2 refine z1f ?_
                refine s_n K71 ?_;refine dnS [] id (j+1) ⟨⟨by omega,z60 (d:=0) hjn hj.2 htg⟩,by omega⟩ [0,1] uUb_0 uUb_0 uUb_0 uUb_0
             ·try simp only[dQ,reduceIte]at h_t80
              refine z0i ?_;refine z00 ?_;refine z00 ?_;refine z0f ?_;refine z05 ?_;apply K49
              have hrow:rowOK d.nc d.next.length (d.next.getD k [])=true:=by
               have h1:=hj.2
               rw[List.take_of_length_le (by omega)]at h1;rw[rowOK,h1,decide_eq_true (by omega)];rfl
              refine z01 m1_ok fun _ K72=>?_
              iterate 2 refine z1f ?_
              refine s_n K72 ?_;refine dnS [] id (k+1) ⟨⟨by omega,z60 (d:=[]) hkn hk.2 hrow⟩,by omega⟩ [0,1] uUb_0 uUb_0 uUb_0 uUb_0
          ·try simp only[dQ,reduceIte]at h_t68
           refine z0i ?_;refine z00 ?_;refine z00 ?_;refine z0f ?_;apply K43;refine srR m1_ok fun _ K74=>?_;refine z1f ?_;refine s_n K74 ?_;refine z0e (z0d m1_ok (fun _ _ h=>h) (by first|rfl|assumption) [.tmp 2] rfl ?_);refine rtD ?_
           show SV.c (.bool true)=_
           have h63:notK (seenL d.cls d.nc)=Z4:=h_t63
           rw[z4x,decide_eq_true hbase,clsP,hclsall,decide_eq_true h63]
           obtain rfl:k=d.next.length:=by omega
           have:=hk.2
           rw[List.take_length]at this;rw[this]
           rfl


end Go.Proofs.YtppmnaoollkboaaDoor

namespace Go.Proofs.YtppmnaoollkboaaDoor
set_option linter.all false
open Go.Ab Go.RowKit

theorem qUc0{a:Prop}(h:a:=by first|exact vcA|(simp[ze0]<;>omega)|(rw[ze0];omega)|exact vcB):a:=h

def bit(x:UInt64)(s:Nat):Bool:=x.toBitVec.getLsbD s
theorem zw9{x:UInt64}{s:Nat}(h:64≤s):bit x s=false:=BitVec.getLsbD_of_ge _ _ h
theorem zwa{x y:UInt64}(h:∀ s,s< 64→bit x s=bit y s):x=y:=UInt64.toBitVec_inj.1 (BitVec.eq_of_getLsbD_eq fun i hi=>h i hi)
@[simp] theorem bit_or(x y:UInt64)(s:Nat):bit (x ||| y) s=(bit x s||bit y s):=by simp[bit]
@[simp] theorem zwb(x y:UInt64)(s:Nat):bit (x &&& y) s=(bit x s&&bit y s):=by simp[bit]
@[simp] theorem zei(s:Nat):bit 0 s=false:=by simp[bit]
theorem bit_one(s:Nat):bit 1 s=decide (s=0):=by
  show(1#64).getLsbD s=_
  rw[BitVec.getLsbD_one];simp
theorem zbw(k s:Nat):bit (shl64 1 k) s=(decide (s=k)&&decide (k< 64)):=by
  unfold shl64
  by_cases hk:k< 64
  · rw[if_pos hk]
    have e:(1 <<< k.toUInt64:UInt64).toBitVec=(1#64) <<< k:=by
      apply BitVec.eq_of_toNat_eq
      show(1 <<< k.toUInt64:UInt64).toNat=_
      rw[UInt64.toNat_shiftLeft]
      simp[show k%18446744073709551616=k by omega,Nat.mod_eq_of_lt hk]
    rw[bit,e,BitVec.getLsbD_shiftLeft,BitVec.getLsbD_one]
    by_cases hs:s=k
    · subst hs;simp[hk]
    · by_cases h1:s< k
      · simp[h1,hs]
      · simp[h1,hs,hk];omega
  · rw[if_neg hk];simp[hk]
theorem zwc(x:UInt64){s:Nat}(h:s< 64):bit (-x) s=((bit x s) ^^ decide (∃ j,j< s∧bit x j=true)):=by
  have e:(-x).toBitVec= -x.toBitVec:=by simp
  rw[bit,e,BitVec.getLsbD_neg]
  simp only[h,decide_true,Bool.true_and]
  rfl
theorem zqz{p:Nat→Bool}:∀ n,(∃ s,s< n∧p s=true)→∃ k,k< n∧p k=true∧∀ j,j< k→p j=false
  |0,⟨s,h,_⟩=>absurd h (Nat.not_lt_zero s)
  | n +1,⟨s,h,hp⟩=>by
    by_cases he:∃ s,s< n∧p s=true
    · obtain⟨k,h1,h2⟩:=zqz n he
      exact⟨k,by omega,h2⟩
    · refine⟨s,h,hp,fun j hj=>?_⟩
      cases hpj:p j with
      |false=>rfl
      |true=>exact absurd ⟨j,by omega,hpj⟩ he
theorem low_bit{x:UInt64}(h:x≠0):∃ k,k< 64∧bit x k=true∧∀ j,j< k→bit x j=false:=by
  refine zqz 64 ?_;refine Classical.byContradiction fun hn=>h (zwa fun s hs=>?_);rw[zei]
  cases hb:bit x s with
  |false=>rfl
  |true=>exact absurd ⟨s,hs,hb⟩ hn
theorem zop{x:UInt64}{k:Nat}(hk:k< 64)(h1:bit x k=true)(h2:∀ j,j< k→bit x j=false):x &&& -x=shl64 1 k:=by
  refine zwa fun s hs=>?_;rw[zwb,zwc x hs,zbw]
  by_cases e:s=k
  · subst e
    have:¬ ∃ j,j< s∧bit x j=true:=fun⟨j,hj,hb⟩=>by rw[h2 j hj]at hb;cases hb
    simp[h1,this,hk]
  · by_cases hlt:s< k
    · simp[h2 s hlt,e]
    · have:∃ j,j< s∧bit x j=true:=⟨k,by omega,h1⟩
      cases bit x s<;>simp[this,e]
theorem bit_pred{x:UInt64}{s:Nat}(hs:s< 64):bit (x - 1) s= !(bit (-x) s):=by
  have e:(x - 1).toBitVec= ~~~(-x).toBitVec:=by
    rw[show(-x).toBitVec= -x.toBitVec by simp,BitVec.not_neg];rfl
  rw[bit,e,BitVec.getLsbD_not]
  simp[hs,bit]
theorem zm3 {x:UInt64} {k:Nat} (hk:k< 64) (h1:bit x k=true) (h2:∀ j,j< k→bit x j=false) (s:Nat):bit (x &&& (x - 1)) s=(bit x s&& !decide (s=k)):=by
  by_cases hs:s< 64
  · rw[zwb,bit_pred hs,zwc x hs]
    by_cases e:s=k
    · subst e
      have:¬ ∃ j,j< s∧bit x j=true:=fun⟨j,hj,hb⟩=>by rw[h2 j hj]at hb;cases hb
      simp[h1,this]
    · by_cases hlt:s< k
      · simp[h2 s hlt]
      · have:∃ j,j< s∧bit x j=true:=⟨k,by omega,h1⟩
        cases bit x s<;>simp[this,e]
  · rw[zw9 (by omega),zw9 (x:=x) (by omega)];rfl
theorem shr58_lt(y:UInt64):(shr64 y 58).toNat< 64:=by
  have:=y.toNat_lt
  simp only[shr64]
  rw[if_pos (by decide),UInt64.toNat_shiftRight]
  show y.toNat >>> (58%64)< 64
  rw[Nat.shiftRight_eq_div_pow]
  show y.toNat / 288230376151711744< 64
  omega
def mulT(x:UInt64):UInt64:=(x &&& -x)*285870213051353865
def shT(x:UInt64):UInt64:=shr64 (mulT x) 58
theorem shT_lt(x:UInt64):(shT x).toNat< 64:=shr58_lt _
def tzN(x:UInt64):Nat:=if x=0 then 64 else(z3q.getD (shT x).toNat 0).toNat
theorem tz_table:∀ k:Fin 64,(z3q.getD (shr64 (shl64 1 k.val*285870213051353865) 58).toNat 0).toNat=k.val:=by decide+kernel
theorem tzN_eq{x:UInt64}{k:Nat}(hk:k< 64)(h1:bit x k=true)(h2:∀ j,j< k→bit x j=false):tzN x=k:=by
  have hx:x≠0:=fun e=>by rw[e,zei]at h1;cases h1
  rw[tzN,if_neg hx,shT,mulT,zop hk h1 h2];exact tz_table ⟨k,hk⟩
theorem ze0:(Cont.u8s z3q).len=64:=by decide
attribute [local irreducible] z3q
def tzS:QSpec:=fun vs K=>∃ x:UInt64,vs=[.c (.u64 x)]∧K (.c (.int .i64 (tzN x)))
theorem tz_ok:z1s Tryd.prog gl 126 tzS:=by
 refine z1r (Γ:=g0) (N:=14) Tryd.func126 rfl rfl fun vs K h=>?_;obtain⟨x,rfl,h⟩:=h;refine⟨_,h,rfl,by simp,fun w I=>?_⟩;refine seq_k fun _ K1=>?_;refine z01 g0_ok fun _ K2=>?_;refine sS1 ?_;refine s_n K2 ?_;apply K1;refine seq_k fun _ K3=>?_;refine seq_k fun _ K4=>?_;refine z01 g0_ok fun _ K5=>?_;refine sS1 ?_;refine sS fun _ hS=>?_;(repeat refine aI (by first|exact vcA|(simp<;>omega)|exact vcB) ?_);apply hS;clear hS;refine s_n K5 ?_;apply K4;refine z04 (b:=_) rfl (fun h_t4=>?_) (fun h_t4=>?_)
 ·try simp only[dQ,reduceIte]at h_t4
  refine seq_k fun _ K6=>?_;refine z01 g0_ok fun _ K7=>?_;refine sS1 ?_;refine s_n K7 ?_;apply K6;refine z0e (z0d g0_ok (fun _ _ h=>h) (by first|rfl|assumption) [.tmp 2] rfl ?_)
  repeat refine aI (by first|omega|exact trivial|rfl|(simp<;>omega)) ?_
  try refine z0l (by first|omega|exact trivial|rfl|(simp<;>omega)) ?_
  show SV.c (.int .i64 64)=_
  rw[tzN,if_pos (by simpa using h_t4)]
  rfl
 ·try simp only[dQ,reduceIte]at h_t4
  refine z09 ?_;apply K3;refine seq_k fun _ K8=>?_
  have hVe:(if false=true then shl64 (mulT x) (((UInt64.ofNat (Int.toNat 58)).toNat:Int)).toNat else shr64 (mulT x) (((UInt64.ofNat (Int.toNat 58)).toNat:Int)).toNat:UInt64)=shT x:=by rw[if_neg (by decide)];rfl
  have hsh:(if false=true then shl64 (mulT x) (((UInt64.ofNat (Int.toNat 58)).toNat:Int)).toNat else shr64 (mulT x) (((UInt64.ofNat (Int.toNat 58)).toNat:Int)).toNat:UInt64).toNat< 64:=by rw[hVe];exact shT_lt x
  refine z01 g0_ok fun _ K9=>?_
  iterate 2 refine sS1 ?_
  refine sS fun _ hS=>?_;(repeat refine aI qUc0 ?_);apply hS;clear hS;refine sS fun _ hS=>?_;(repeat refine aI qUc0 ?_);apply hS;clear hS;refine sS fun _ hS=>?_;refine hS (.c (.u64 (mulT x))) _ _ ?_;clear hS;refine sS fun _ hS=>?_;(repeat refine aI qUc0 ?_);apply hS;clear hS;refine sS fun _ hS=>?_;(repeat refine aI qUc0 ?_);apply hS;clear hS;refine sS fun _ hS=>?_;(repeat refine aI qUc0 ?_);(first|apply hS|(refine z0a qUc0 ?_;apply hS)|(refine z0c ?_;apply hS));clear hS;refine sS fun _ hS=>?_;(repeat first|refine aI qUc0 ?_|refine z0a qUc0 ?_|refine z0c ?_);apply hS;clear hS;refine sS1 ?_;refine s_n K9 ?_;apply K8;refine z0e (z0d g0_ok (fun _ _ h=>h) (by first|rfl|assumption) [.tmp 2] rfl ?_)
  repeat refine aI (by first|omega|exact trivial|rfl|(simp<;>omega)) ?_
  try refine z0l (by first|omega|exact trivial|rfl|(simp<;>omega)) ?_
  have h0:x≠0:=by simpa using h_t4
  rw[tzN,if_neg h0]
  show SV.c (.int .i64 (((z3q.getD (0+(((if false=true then shl64 (mulT x) (((UInt64.ofNat (Int.toNat 58)).toNat:Int)).toNat else shr64 (mulT x) (((UInt64.ofNat (Int.toNat 58)).toNat:Int)).toNat:UInt64).toNat:Int)).toNat*1) 0).toNat:Nat):Int))=_
  rw[hVe,Nat.zero_add,Nat.mul_one,Int.toNat_natCast]


end Go.Proofs.YtppmnaoollkboaaDoor

namespace Go.Proofs.YtppmnaoollkboaaDoor
set_option linter.all false
open Go.Ab Go.RowKit

section
variable {a b:Prop}
theorem qUd0(h:a:=by first|exact vcA|(simp[hc]<;>omega)|exact vcB):a:=h
theorem qUd1(h:a:=by first|exact vcA|(simp[hc4]<;>omega)|exact vcB):a:=h
theorem qUd2(h:a:=by first|exact vcA|(simp[hc4]<;>omega)|(simp[hc4];omega)|exact vcB):a:=h
theorem qUd3(h:a:=by first|omega|exact trivial|rfl|exact z76.mpr ⟨by omega,by omega⟩|decide|(simp;omega)):a:=h
theorem uUd_0(h:a:=by
    repeat' (first|exact trivial|refine aI ?_ ?_|exact cC0|refine low_cons' ?_ ?_|exact cC1|fail)):a:=h
theorem uUd_1(h:a:=by
    repeat' (first|exact trivial|refine aI ?_ ?_|exact cC0|refine low_cons' ?_ ?_|exact cC1|fail)
    all_goals first|(show(_:UInt64)=_;rfl)|skip):a:=h
theorem DUd_0(kZ:b)(h:HidB b→a:=by intro kZ;(repeat first|refine aI qUd0 ?_|refine z0a qUd0 ?_|refine z07 qUd0 ?_|refine z0l qUd0 ?_|refine z0c ?_);exact kZ.out):a:=h ⟨kZ⟩
theorem sXUd_1(kZ:b)(h:HidB b→a:=by intro kZ;refine sX ?_;refine DUd_0 ?_;refine exI ?_;exact kZ.out):a:=h ⟨kZ⟩
theorem DUd_2(kZ:b)(h:HidB b→a:=by intro kZ;(repeat first|refine aI qUd1 ?_|refine z0a qUd1 ?_|refine z07 qUd1 ?_|refine z0l qUd1 ?_|refine z0c ?_);exact kZ.out):a:=h ⟨kZ⟩
theorem zm4(kZ:b)(h:HidB b→a:=by intro kZ;refine sX ?_;refine DUd_2 ?_;refine exI ?_;exact kZ.out):a:=h ⟨kZ⟩
theorem DUd_4(kZ:b)(h:HidB b→a:=by intro kZ;(repeat first|refine aI qUd2 ?_|refine z0a qUd2 ?_|refine z07 qUd2 ?_|refine z0l qUd2 ?_|refine z0c ?_);exact kZ.out):a:=h ⟨kZ⟩
theorem sXUd_5(kZ:b)(h:HidB b→a:=by intro kZ;refine sX ?_;refine DUd_4 ?_;refine exI ?_;exact kZ.out):a:=h ⟨kZ⟩
end
open Go.Aut
def bitsL(x:UInt64):List Nat:=(List.range 64).filter (bit x)
theorem zwd{x:UInt64}{s:Nat}:s∈bitsL x↔s< 64∧bit x s=true:=by rw[bitsL,List.mem_filter,List.mem_range]
theorem zm5(x:UInt64):(bitsL x).Pairwise (· < ·):=List.Pairwise.filter _ (List.pairwise_lt_range (n:=64))
def Rem(x:UInt64)(j:Nat)(y:UInt64):Prop:=∀ s,bit y s=true↔s∈(bitsL x).drop j
theorem rem_zero(x:UInt64):Rem x 0 x:=fun s=>by
  rw[List.drop_zero,zwd]
  constructor
  · intro h
    refine⟨?_,h⟩
    rcases Nat.lt_or_ge s 64 with h1|h1
    · exact h1
    · rw[zw9 h1]at h;cases h
  · exact fun h=>h.2
theorem rem_eq{x y:UInt64}{j:Nat}(h:Rem x j y)(hy:y=0):(bitsL x).length≤j:=by
  rcases Nat.lt_or_ge j (bitsL x).length with h1|h1
  · have h2:=(h (bitsL x)[j]).2 (by rw[List.drop_eq_getElem_cons h1];exact List.mem_cons_self)
    rw[hy,zei]at h2;cases h2
  · exact h1
theorem rem_ne{x y:UInt64}{j:Nat}(h:Rem x j y)(hy:y≠0):j< (bitsL x).length∧tzN y=(bitsL x).getD j 0∧tzN y< 64∧Rem x (j+1) (y &&& (y - 1)):=by
  obtain⟨k,hk,h1,h2⟩:=low_bit hy
  have hm:=(h k).1 h1
  have hj:j< (bitsL x).length:=by
    rcases Nat.lt_or_ge j (bitsL x).length with h3|h3
    · exact h3
    · rw[List.drop_of_length_le h3]at hm;cases hm
  have hd:=List.drop_eq_getElem_cons hj
  have hs:((bitsL x).drop j).Pairwise (· < ·):=(zm5 x).sublist (List.drop_sublist _ _)
  rw[hd]at hs hm
  have hkj:k=(bitsL x)[j]:=by
    rcases List.mem_cons.1 hm with e|e
    · exact e
    · have h3:=(List.pairwise_cons.1 hs).1 k e
      have h4:=(h (bitsL x)[j]).2 (by rw[hd];exact List.mem_cons_self)
      rw[h2 _ h3]at h4;cases h4
  have hg:(bitsL x).getD j 0=k:=by rw[z49 hj];exact hkj.symm
  refine⟨hj,by rw[hg];exact tzN_eq hk h1 h2,by rw[tzN_eq hk h1 h2];exact hk,fun s=>?_⟩;rw[zm3 hk h1 h2,Bool.and_eq_true,h s,hd,List.mem_cons]
  constructor
  · rintro ⟨e|e,h3⟩
    · simp[e,hkj]at h3
    · exact e
  · intro e
    refine⟨.inr e,?_⟩
    have h3:=(List.pairwise_cons.1 hs).1 s e
    simp;omega
def wordB(i:Nat)(x:UInt64):List UInt8:=(bitsL x).map fun s=>UInt8.ofNat (64*i+s)
def yl(c:List UInt64)(i:Nat):List UInt8:=(List.range i).flatMap fun i=>wordB i (c.getD i 0)
theorem zoq(c:List UInt64)(i:Nat):yl c (i+1)=yl c i++wordB i (c.getD i 0):=by simp[yl,List.range_succ]
theorem range256:List.range 256=(List.range 4).flatMap fun i=>(List.range 64).map fun s=>64*i+s:=by decide+kernel
theorem zjb(x:UInt64)(s:Nat):bit x s=x.toNat.testBit s:=rfl
theorem zwe(c:List UInt64):yl c 4=z0o c:=by
  rw[z0o,range256,List.filter_flatMap,List.map_flatMap,yl,List.flatMap_eq_foldl,List.flatMap_eq_foldl]<;>skip
  congr 1
  funext l i
  congr 1
  rw[wordB,bitsL,List.filter_map,List.map_map]
  have e:(List.range 64).filter (bit (c.getD i 0))=(List.range 64).filter ((fun b=>(c.getD (b / 64) 0).toNat.testBit (b%64)) ∘ fun s=>64*i+s):=by
    refine List.filter_congr fun s hs=>?_
    have hs:=List.mem_range.1 hs
    show _=(c.getD ((64*i+s) / 64) 0).toNat.testBit ((64*i+s)%64)
    rw[show(64*i+s) / 64=i by omega,show(64*i+s)%64=s by omega];rfl
  rw[e];rfl
theorem zwf(c:List UInt64){i:Nat}(hi:i< 4):∃ r,z0o c=yl c i++wordB i (c.getD i 0)++r:=by
  have key:∀ d,∃ r,yl c (i+1+d)=yl c (i+1)++r:=by
    intro d
    induction d with
    |zero=>exact⟨[],by simp⟩
    | succ d ih=>
      obtain⟨r,hr⟩:=ih;exact⟨r++wordB (i+1+d) (c.getD (i+1+d) 0),by rw[←Nat.add_assoc,zoq,hr,List.append_assoc]⟩
  obtain⟨r,hr⟩:=key (3 - i);rw[show i+1+(3 - i)=4 by omega,zwe,zoq]at hr;exact⟨r,hr⟩
theorem yl_get(c:List UInt64){i j:Nat}(hi:i< 4)(hj:j< (bitsL (c.getD i 0)).length):(z0o c)[(yl c i).length+j]? =some (UInt8.ofNat (64*i+(bitsL (c.getD i 0)).getD j 0)):=by
  obtain⟨r,hr⟩:=zwf c hi
  have hl:(wordB i (c.getD i 0)).length=(bitsL (c.getD i 0)).length:=by simp[wordB]
  rw[hr,List.append_assoc,List.getElem?_append_right (by omega),List.getElem?_append_left (by omega),Nat.add_sub_cancel_left,wordB,List.getElem?_map,at_of (d:=0) hj];rfl
theorem z2y(n:Nat):UInt8.ofInt (n:Int)=UInt8.ofNat n:=by
  apply UInt8.toNat_inj.1
  simp[UInt8.ofInt]
  omega
def bXs(c:List UInt64):List (List SV):=(z0o c).map fun b=>[.c (.u8 b)]
theorem zd7(c:List UInt64):(bXs c).length=(z0o c).length:=by simp[bXs]
theorem bXs_get(c:List UInt64){i j:Nat}{y:UInt64}(hi:i< 4)(hr:Rem (c.getD i 0) j y)(hy:y≠0):(bXs c)[(yl c i).length+j]? =some [.c (.u8 (UInt8.ofInt (64*(i:Int)+(tzN y:Int))))]:=by
  obtain⟨h1,h2,h3,_⟩:=rem_ne hr hy;rw[bXs,List.getElem?_map,yl_get c hi h1, ←h2,show(64*(i:Int)+(tzN y:Int))=((64*i+tzN y:Nat):Int) by omega,z2y];rfl
def boxK(c:List UInt64):Cell:=.dp (.u64s c) 0
theorem zej(c:List UInt64):SV.low 0 (.c (.clo 171 [boxK c])):=fun x hx=>by
  rw[List.mem_singleton.1 hx];trivial
def zr0:QSpec:=fun vs K=>∃ c:List UInt64,vs=[.agg (.u64s c)]∧c.length=4∧K (.c (.clo 171 [boxK c]))
theorem ztg:z1x Tryd.prog gl 165 zr0:=by
 refine z1c (Γ:=g0) (N:=4) Tryd.func165 rfl rfl fun vs K h=>?_;obtain⟨c,rfl,hc,h⟩:=h;refine⟨_,h,zej c,by simp,fun w I=>?_⟩;refine srR g0_ok fun _ K2=>?_
 iterate 2 refine sXUd_1 ?_
 refine s_n K2 ?_;refine srR g0_ok fun _ K4=>?_
 iterate 2 refine sXUd_1 ?_
 refine s_n K4 ?_;refine z0e (z0g g0_ok (fun _ _ h=>h) (zej c) [0] [.tmp 2] rfl ?_)
 repeat' (first|exact trivial|refine aI ?_ ?_|exact cC0|refine low_cons' ?_ ?_|exact cC1|fail)
 all_goals first|exact Nat.one_pos|(simp[hc];done)|skip

noncomputable def gi:Ctx:={ P:=Tryd.prog,ty:=ty,glob:=gl,fs:=[(126,.flat tzS)] }
theorem gi_ok:gi.OK:=⟨tyOK,⟨⟨z0b Tryd.func126 kR rfl,tz_ok⟩,trivial⟩,mixed⟩
@[simp] theorem gi_ty:gi.ty=ty:=rfl


attribute [local irreducible] z0o tzN bitsL
theorem zwg (c:List UInt64) (hc4:c.length=4):SeqsOK Tryd.prog gl 171 [.c (boxK c)] (bXs c):=by
  intro I W cs l hG hlt hargs J Z hab habz hround hJ0;rw[show(#[.func (.yield l) #[] #[]]++cs.toArray:Array Value)=(.func (.yield l) #[] #[]::cs).toArray by simp];refine zah (Γ:=gi) (N:=26) (C:=pureC W I) (β:=noVal) (n:=0) (H:=[]) (vs:=[.c (.raw (.func (.yield l) #[] #[])),.c (boxK c)]) (xs:=.func (.yield l) #[] #[]::cs) Tryd.func171 rfl rfl (by simp) (HeapOK.init hlt) hG ⟨Nat.le_refl _,fun i hi=>absurd hi (Nat.not_lt_zero i)⟩ rfl ⟨by simpa using hargs.1,fun j v hv=>?_⟩ ?_
  · cases j with
    |zero=>cases hv;exact⟨_,rfl,(SV.rel_flat (x:=.c (.raw _)) rfl).2 rfl,SV.flat_low rfl⟩
    |succ j=>exact hargs.2 j v hv
  refine srR gi_ok fun _ K2=>?_
  iterate 2 refine zm4 ?_
  refine s_n K2 ?_;refine z03 ?_;refine leW [] id [(0,.c (.raw (.func (.yield l) #[] #[]))),(5,.agg (.u64s c)),(6,.c (.int .i64 ((0:Nat):Int)))] [] 0 [] ?_ ?_ ?_ ?_ ?_
  · exact uUd_0
  · exact uUd_0
  · exact uUd_0
  · exact uUd_0
  refine zun (J:=J (yl c 0).length) hJ0 (hab _) fun a1 w1 hA=>?_;refine zfk (fun i a w=>i≤4∧AtJ gi 26 (J (yl c i).length) [(0,.c (.raw (.func (.yield l) #[] #[]))),(5,.agg (.u64s c)),(6,.c (.int .i64 ((i:Nat):Int)))] a w) 4 (fun _ _ _ h=>h.1) ?_ 0 a1 w1 ⟨Nat.zero_le _,hA⟩;intro i a w ⟨hi,hA⟩;refine zo9 hA (List.forall_mem_cons.2 ⟨SV.flat_low rfl,List.forall_mem_cons.2 ⟨SV.flat_low rfl,List.forall_mem_cons.2 ⟨SV.flat_low rfl,fun _ h=>by cases h⟩⟩⟩) fun D w0 hJk=>?_;refine srR gi_ok fun _ K4=>?_;refine zm4 ?_;refine s_n K4 ?_;refine seq_k fun _ K5=>?_;refine z04 (b:=_) rfl (fun h_t7=>?_) (fun h_t7=>?_)
  · try simp only[dQ,reduceIte]at h_t7
    refine z09 ?_;apply K5;refine seq_kC fun _ K6=>?_;refine z03 ?_;refine srR gi_ok fun _ K8=>?_
    iterate 4 refine sXUd_5 ?_
    refine s_n K8 ?_
    have hi4:i< 4:=by omega
    refine z03 ?_;refine leW [] id [(0,.c (.raw (.func (.yield l) #[] #[]))),(5,.agg (.u64s c)),(6,.c (.int .i64 ((i:Nat):Int))),(3,.c (.int .i64 ((i:Nat):Int))),(4,.c (.u64 (c.getD i 0)))] [] 0 [] ?_ ?_ ?_ ?_ ?_
    · exact uUd_1
    · exact uUd_1
    · exact uUd_1
    · exact uUd_1
    refine zun (J:=J ((yl c i).length+0)) hJk (hab _) fun a2 w2 hA2=>?_;refine zfk (fun j a w=>∃ y,j≤(bitsL (c.getD i 0)).length∧Rem (c.getD i 0) j y∧AtJ gi 26 (J ((yl c i).length+j)) [(0,.c (.raw (.func (.yield l) #[] #[]))),(5,.agg (.u64s c)),(6,.c (.int .i64 ((i:Nat):Int))),(3,.c (.int .i64 ((i:Nat):Int))),(4,.c (.u64 y))] a w) (bitsL (c.getD i 0)).length (fun _ _ _ ⟨_,h,_⟩=>h) ?_ 0 a2 w2 ⟨_,Nat.zero_le _,rem_zero _,hA2⟩;intro j a w ⟨y,hj,hy,hA3⟩;refine zo9 hA3 (List.forall_mem_cons.2 ⟨SV.flat_low rfl,List.forall_mem_cons.2 ⟨SV.flat_low rfl,List.forall_mem_cons.2 ⟨SV.flat_low rfl,List.forall_mem_cons.2 ⟨SV.flat_low rfl,List.forall_mem_cons.2 ⟨SV.flat_low rfl,fun _ h=>by cases h⟩⟩⟩⟩⟩) fun D2 w3 hJj=>?_;refine seq_k fun _ K9=>?_;refine srR gi_ok fun _ K11=>?_
    iterate 2 refine zm4 ?_
    refine s_n K11 ?_;refine z04 (b:=_) rfl (fun h_t11=>?_) (fun h_t11=>?_)
    · try simp only[dQ,reduceIte]at h_t11
      refine z09 ?_;apply K9
      have hy0:y≠0:=by simpa using h_t11
      obtain⟨hr1,hr2,hr3,hr4⟩:=rem_ne hy hy0;refine z03 ?_;refine zun (J:=J ((yl c i).length+j)) hJj (hab _) fun a4 w4 hA4=>?_;refine wp_seq ?_;refine wp_seq ?_;refine zis (J:=J ((yl c i).length+j)) (J':=J ((yl c i).length+(j+1))) (Z:=Z) gi_ok (hab _) habz (hab _) 7 rfl rfl rfl rfl rfl (by decide) (ys:=[.c (.u8 (UInt8.ofInt (64*(i:Int)+(tzN y:Int))))]) (l:=l) (fun D w v m hj hv=>hround _ D w _ v m (bXs_get c hi4 hy hy0) hj hv) (args:=[.tmp 18]) rfl (E2:=fun r=>[(0,.c (.raw (.func (.yield l) #[] #[]))),(5,.agg (.u64s c)),(6,.c (.int .i64 ((i:Nat):Int))),(3,.c (.int .i64 ((i:Nat):Int))),(4,.c (.u64 y)),(20,.c (.bool (!r)))]) (fun n=>?_) hA4 (fun a5 w5 hA5=>?_) (fun a5 w5 hA5=>?_)
      · simp only[List.take_succ_cons,List.take_zero,List.drop_succ_cons,List.drop_zero]
        refine z7g rfl (by decide) rfl (by intro c h;cases h) fun _ hS=>?_
        repeat refine aI qUd3 ?_
        apply hS;clear hS;refine z7g rfl (by decide) rfl (by intro c h;cases h) fun _ hS=>?_
        repeat refine aI qUd3 ?_
        apply hS;clear hS;refine z7g rfl (by decide) rfl (by intro c h;cases h) fun _ hS=>?_
        repeat refine aI qUd3 ?_
        apply hS;clear hS;refine z7g rfl (by decide) rfl (by intro c h;cases h) fun _ hS=>?_
        repeat refine aI qUd3 ?_
        apply hS;clear hS;refine z7g rfl (by decide) rfl (by intro c h;cases h) fun _ hS=>?_;refine⟨y,rfl,?_⟩
        repeat refine aI qUd3 ?_
        apply hS;clear hS;refine z7g rfl (by decide) rfl (by intro c h;cases h) fun _ hS=>?_
        repeat refine aI qUd3 ?_
        apply hS;clear hS;refine z7g rfl (by decide) rfl (by intro c h;cases h) fun _ hS=>?_
        repeat refine aI qUd3 ?_
        apply hS;clear hS;refine y_nil ?_;refine⟨rfl,rfl,fun y hy=>?_,fun r=>?_⟩
        · rw[List.mem_singleton.1 hy];trivial
        refine z7g rfl (by decide) rfl (by intro c h;cases h) fun _ hS=>?_;apply hS;clear hS;refine y_nil ?_;exact Env.sub_of (List.forall_mem_cons.2 ⟨rfl,List.forall_mem_cons.2 ⟨rfl,List.forall_mem_cons.2 ⟨rfl,List.forall_mem_cons.2 ⟨rfl,List.forall_mem_cons.2 ⟨rfl,List.forall_mem_cons.2 ⟨rfl,fun _ h=>by cases h⟩⟩⟩⟩⟩⟩)
      · simp only[Exit.then]
        refine zo9 hA5 (List.forall_mem_cons.2 ⟨SV.flat_low rfl,List.forall_mem_cons.2 ⟨SV.flat_low rfl,List.forall_mem_cons.2 ⟨SV.flat_low rfl,List.forall_mem_cons.2 ⟨SV.flat_low rfl,List.forall_mem_cons.2 ⟨SV.flat_low rfl,List.forall_mem_cons.2 ⟨SV.flat_low rfl,fun _ h=>by cases h⟩⟩⟩⟩⟩⟩) fun D3 w6 hJ3=>?_;refine z04 (b:=false) rfl (fun h=>absurd h (by decide)) (fun _=>?_);refine z09 ?_;refine WP_then ?_;refine z01 gi_ok fun _ K12=>?_
        iterate 5 refine zm4 ?_
        refine s_n K12 ?_;refine z05 ?_;intro β I a w hS;exact⟨_,by omega,hr4,(hS.atJ hJ3 (hab _)).sub (Env.sub_of (List.forall_mem_cons.2 ⟨rfl,List.forall_mem_cons.2 ⟨rfl,List.forall_mem_cons.2 ⟨rfl,List.forall_mem_cons.2 ⟨rfl,List.forall_mem_cons.2 ⟨rfl,fun _ h=>by cases h⟩⟩⟩⟩⟩))⟩
      · simp only[Exit.then]
        refine hA5.wp fun D3 w3 n3 hJ3=>?_;refine z04 (b:=true) rfl (fun _=>?_) (fun h=>absurd h (by decide));exact z0e (zv5 (fn:=Tryd.f171) (R:=fun e w'=>(∃ v,e= .returned v)∧∃ D,J (bXs c).length D w'∨Z D w') gi_ok (fun _ _ h=>h) rfl rfl fun β I a w hS=>⟨⟨_,rfl⟩,I,.inr (habz _ _ _ _ _ _ _ hJ3 hS.heap)⟩)
      skip
    · try simp only[dQ,reduceIte]at h_t11
      refine z0i ?_;refine z00 ?_;refine z00 ?_;refine z0f ?_
      have hjl:=rem_eq hy (by simpa using h_t11)
      have hJn:J (yl c (i+1)).length D2 w3:=by
        rw[zoq,List.length_append,wordB,List.length_map,show(bitsL (c.getD i 0)).length=j by omega];exact hJj
      refine z05 ?_;refine K6 _ _ _ _ ?_;refine z01 gi_ok fun _ K13=>?_
      iterate 2 refine zm4 ?_
      refine s_n K13 ?_;intro β I a w hS;exact⟨by omega,(hS.atJ hJn (hab _)).sub (Env.sub_of (List.forall_mem_cons.2 ⟨rfl,List.forall_mem_cons.2 ⟨rfl,List.forall_mem_cons.2 ⟨rfl,fun _ h=>by cases h⟩⟩⟩))⟩
    skip
  · try simp only[dQ,reduceIte]at h_t7
    refine z0i ?_;refine z00 ?_;refine z00 ?_;refine z0f ?_
    obtain rfl:i=4:=by omega
    refine zdy gi_ok rfl rfl fun β I a w hS=>⟨⟨_,rfl⟩,I,.inl ?_⟩;rw[zd7, ←zwe];exact hab _ _ _ _ _ _ _ _ hJk hS.heap
  skip

end Go.Proofs.YtppmnaoollkboaaDoor

namespace Go.Proofs.YtppmnaoollkboaaDoor
set_option linter.all false
open Go.Ab Go.RowKit

theorem qUe1{a:Prop}(h:a:=by first|exact vcA|(simp<;>omega)|(refine⟨by omega,by omega,trivial⟩)|(simp<;>omega)|exact vcB):a:=h
theorem uUe0{a:Prop}(h:a:=by
    repeat' (first|exact trivial|refine aI ?_ ?_|exact cC0|refine low_cons' ?_ ?_|exact cC1|fail)
    all_goals first|omega|(show(_:List UInt8)=_;first|exact zbx hk|(rw[List.nil_append];exact zbx hk)|rfl|(simp;done))|exact SV.low_mono (Nat.zero_le _) (zej c)|(simp;done)|(simp<;>omega)|skip):a:=h

open Go.Aut
theorem zwh{c:List UInt64}{k:Nat}{x:List SV}(h:(bXs c)[k]? =some x):k< (z0o c).length∧x=[.c (.u8 ((z0o c).getD k 0))]:=by
  rw[bXs,List.getElem?_map]at h
  have hk:k< (z0o c).length:=by
    rcases Nat.lt_or_ge k (z0o c).length with h1|h1
    · exact h1
    · rw[List.getElem?_eq_none h1]at h;cases h
  rw[at_of (d:=0) hk]at h;exact⟨hk,(Option.some.inj h).symm⟩
theorem bXs_one{c:List UInt64}:∀ x∈bXs c,x.length=1:=fun x hx=>by
  obtain⟨k,_,rfl⟩:=List.mem_map.1 hx;rfl
theorem zbx{l:List UInt8}{k:Nat}(h:k< l.length):l.take k++[l.getD k 0]=l.take (k+1):=by rw[List.take_add_one,at_of (d:=0) h];rfl
attribute [local irreducible] z0o
def zwi:QSpec:=fun vs K=>∃ c:List UInt64,vs=[.c .nils,.c (.clo 171 [boxK c])]∧c.length=4∧K (.c (.ds (z0o c).length (.u8s (z0o c))))
theorem zwj:z1x Tryd.prog gl 170 zwi:=by
 refine data_ofM (Γ:=g0) (N:=13) Tryd.func170 rfl rfl fun vs K h=>?_;obtain⟨c,rfl,hc,h⟩:=h;refine⟨_,h,trivial,by simp,fun w I=>?_⟩;refine seq_k fun _ K1=>?_;refine z01 g0_ok fun _ K2=>?_;refine sS fun _ hS=>?_;(repeat refine aI qUa0 ?_);apply hS;clear hS;refine sS1 ?_;refine s_n K2 ?_;apply K1;refine seq_kC fun _ K3=>?_;refine seq_k fun _ K4=>?_;refine z01 g0_ok fun _ K5=>?_;refine sS1 ?_;refine s_n K5 ?_;apply K4;refine z5g 0 0 5 (.u8s []) rfl rfl rfl trivial ?_;refine leW [] id [(2,.c (.ptr 0 0)),(6,.c (.clo 171 [boxK c]))] [(0,.own 22 (.cells [.slice 1 0 0 0]) 1),(1,.own 5 (.u8s ((z0o c).take 0)) 0)] 2 [0,1] ?_ ?_ ?_ ?_ ?_
 ·exact uUe0
 ·exact uUe0
 ·exact uUe0
 ·exact uUe0
 refine z03 ?_;refine zt3 g0_ok (α:=Nat) (caps:=[boxK c]) (xs:=bXs c) (z0b Tryd.func171 kR rfl) (zwg c hc) rfl (fun v hv=>?_) ⟨by decide,by decide,bXs_one⟩ (.exit 0) rfl 1 (by omega) (Nat.zero_le _) ?_ (fun k y=>[(0,.own 22 (.cells [.slice 1 0 k y]) 1),(1,.own 5 (.u8s ((z0o c).take k)) y)]) (fun k y=>k≤(z0o c).length∧k≤y) 0 ?_ ⟨Nat.zero_le _,Nat.le_refl _⟩ (fun k y=>[(2,.c (.ptr 0 0)),(6,.c (.clo 171 [boxK c])),(5,.c (.u8 ((z0o c).getD k 0)))]) (fun k y=>[(0,.own 22 (.cells [.slice 1 0 k y]) 1),(1,.own 5 (.u8s ((z0o c).take k)) y)]) (fun k y=>False) ?_ ?_ ?_ ?_
 ·rw[List.mem_singleton.1 hv]
  trivial
 ·intro i v hv
  refine Env.low_get (n:=1) (E:=[(2,.c (.ptr 0 0)),(6,.c (.clo 171 [boxK c]))]) ?_ hv
  repeat' (first|exact trivial|refine aI ?_ ?_|exact cC0|refine low_cons' ?_ ?_|exact cC1|fail)
  all_goals first|omega|(show(_:List UInt8)=_;first|exact zbx hk|(rw[List.nil_append];exact zbx hk)|rfl|(simp;done))|exact SV.low_mono (Nat.zero_le _) (zej c)|(simp;done)|(simp<;>omega)|skip
 ·rfl
 ·intro k y x hx hP C' ro m Q hC hQ
  obtain⟨hk,rfl⟩:=zwh hx
  have hbl:=zd1 c
  refine WPi_n0 fun hn0=>?_;refine zhj g0_ok fun _ K106=>?_;refine z7g rfl (by decide) rfl (by intro c h;cases h) fun _ hS=>?_;apply hS;clear hS;refine y_nil ?_;apply K106
  refine zqd [] id hQ ⟨?_,?_,(by decide:List.Nodup ([0,1]:List Nat)),?_,?_,⟨by omega,fun i hi=>by
   have hi':i< 1:=by omega
   first|rfl|(obtain rfl:i=0:=(by omega);rfl)|(simp;omega)|(match i,hi' with
   |0,_=>rfl
   |1,_=>rfl)⟩⟩
  ·exact uUe0
  ·exact uUe0
  ·exact uUe0
  ·exact uUe0
 ·intro k y x hx hP C' ro m Q hC hQ hZ
  obtain⟨hk,rfl⟩:=zwh hx
  have hbl:=zd1 c
  refine WPi_n0 fun hn0=>?_;refine zum ?_;refine zhj g0_ok fun _ K207=>?_;refine z7g rfl (by decide) rfl (by intro c h;cases h) fun _ hS=>?_
  repeat refine aI qUe1 ?_
  first|apply hS|(refine z0a qUe1 ?_;apply hS)|(refine z0c ?_;apply hS)
  clear hS;refine z7g rfl (by decide) rfl (by intro c h;cases h) fun _ hS=>?_;apply hS;clear hS;refine z7g rfl (by decide) rfl (by intro c h;cases h) fun _ hS=>?_
  repeat refine aI qUe1 ?_
  apply hS;clear hS;refine z7g rfl (by decide) rfl (by intro c h;cases h) fun _ hS=>?_
  repeat first|refine aI qUe1 ?_|refine z0a qUe1 ?_|refine z0c ?_
  intro cap3 hcap3;apply hS;clear hS;refine y_step0 rfl rfl (by intro c h;cases h) fun _ hS=>?_
  repeat refine aI qUe1 ?_
  first|apply hS|(refine z07 qUe1 ?_;apply hS)
  clear hS;refine y_nil ?_;apply K207;refine z05 ?_
  refine zqd [] (fun i=>if i=0 then 0 else 3) (hQ cap3 ⟨by omega,by omega⟩) ⟨?_,?_,(by decide:List.Nodup ([0,3]:List Nat)),?_,?_,⟨by omega,fun i hi=>by
   have hi':i< 1:=by omega
   first|rfl|(obtain rfl:i=0:=(by omega);rfl)|(simp;omega)|(match i,hi' with
   |0,_=>rfl
   |1,_=>rfl)⟩⟩
  ·exact uUe0
  ·exact uUe0
  ·exact uUe0
  ·exact uUe0
 ·intro y β1 I1 w1 d1 hP hH1 hd0 hA
  rw[zd7]at hH1 hA ⊢
  try rw[zd7]at hP
  refine z05 ?_;refine K3 _ _ _ _ ?_;refine seq_k fun _ K308=>?_;refine z01 g0_ok fun _ K309=>?_;refine sS fun _ hS=>?_;(repeat refine aI qUa0 ?_);(first|apply hS|(refine z0a qUa0 ?_;apply hS)|(refine z0c ?_;apply hS));clear hS;refine sS1 ?_;refine s_n K309 ?_;apply K308;refine z0e (zt2 g0_ok hH1 hd0 hA (fun _ _ h=>h) (trivial) [1] [.tmp 4] rfl ?_)
  repeat' (first|exact trivial|refine aI ?_ ?_|exact cC0|refine low_cons' ?_ ?_|exact cC1|fail)
  all_goals first|omega|(show _=z0o c;rw[List.take_length])|(rw[List.take_length];done)|(simp;done)|skip
 ·intro k y β1 I1 w1 d1 hk hZ
  exact absurd hZ id



end Go.Proofs.YtppmnaoollkboaaDoor

namespace Go.Proofs.YtppmnaoollkboaaDoor
set_option linter.all false
open Go.Ab Go.RowKit

section
variable {a b:Prop}
theorem qUf2(h:a:=by first|exact vcA|(simp[hs]<;>omega)|decide|exact vcB):a:=h
theorem qUf3(h:a:=by first|exact vcA|(simp<;>omega)|(simp;done)|exact vcB):a:=h
theorem qUf4(h:a:=by first|exact vcA|(simp<;>omega)|(simp;done)|(simp<;>omega)|exact vcB):a:=h
theorem uUf_1(h:a:=by
    repeat' (first|exact trivial|refine aI ?_ ?_|exact cC0|refine low_cons' ?_ ?_|exact cC1|fail)
    all_goals first|omega|(show(_:List UInt64)=_;first|rfl|(rw[Int.toNat_natCast,Nat.mul_one];exact ofK_succ (by omega))|(simp;done))|(simp;done)|(simp<;>omega)|skip):a:=h
theorem DUf_0(kZ:b)(h:HidB b→a:=by intro kZ;(repeat first|refine aI qUa0 ?_|refine z0a qUa0 ?_|refine z07 qUa0 ?_|refine z0l qUa0 ?_|refine z0c ?_);exact kZ.out):a:=h ⟨kZ⟩
theorem zby(kZ:b)(h:HidB b→a:=by intro kZ;refine sX ?_;refine DUf_0 ?_;refine exI ?_;exact kZ.out):a:=h ⟨kZ⟩
theorem DUf_4(kZ:b)(h:HidB b→a:=by intro kZ;(repeat first|refine aI qUf2 ?_|refine z0a qUf2 ?_|refine z07 qUf2 ?_|refine z0l qUf2 ?_|refine z0c ?_);exact kZ.out):a:=h ⟨kZ⟩
theorem dXUf_5(kZ:b)(h:HidB b→a:=by intro kZ;refine dX ?_;refine DUf_4 ?_;refine exI ?_;exact kZ.out):a:=h ⟨kZ⟩
theorem gX0Uf_6(kZ:b)(h:HidB b→a:=by intro kZ;refine gX0 ?_;refine DUf_4 ?_;refine exI ?_;exact kZ.out):a:=h ⟨kZ⟩
theorem DUf_7(kZ:b)(h:HidB b→a:=by intro kZ;(repeat first|refine aI qUf3 ?_|refine z0a qUf3 ?_|refine z07 qUf3 ?_|refine z0l qUf3 ?_|refine z0c ?_);exact kZ.out):a:=h ⟨kZ⟩
theorem sXUf_8(kZ:b)(h:HidB b→a:=by intro kZ;refine sX ?_;refine DUf_7 ?_;refine exI ?_;exact kZ.out):a:=h ⟨kZ⟩
theorem DUf_9(kZ:b)(h:HidB b→a:=by intro kZ;(repeat first|refine aI qUf4 ?_|refine z0a qUf4 ?_|refine z07 qUf4 ?_|refine z0l qUf4 ?_|refine z0c ?_);exact kZ.out):a:=h ⟨kZ⟩
theorem sXUf_10(kZ:b)(h:HidB b→a:=by intro kZ;refine sX ?_;refine DUf_9 ?_;refine exI ?_;exact kZ.out):a:=h ⟨kZ⟩
theorem sX0Uf_11(kZ:b)(h:HidB b→a:=by intro kZ;refine sX0 ?_;refine DUf_9 ?_;refine exI ?_;exact kZ.out):a:=h ⟨kZ⟩
theorem sXEUf_12(kZ:b)(h:HidB b→a:=by intro kZ;refine sX ?_;refine DUf_0 ?_;exact kZ.out):a:=h ⟨kZ⟩
theorem zr1(kZ:b)(h:HidB b→a:=by intro kZ;refine sX ?_;refine DUd_0 ?_;exact kZ.out):a:=h ⟨kZ⟩
theorem sXEUf_14(kZ:b)(h:HidB b→a:=by intro kZ;refine sX ?_;refine DUf_7 ?_;exact kZ.out):a:=h ⟨kZ⟩
end
open Go.Aut
attribute [local irreducible] z0o
noncomputable def ge1:Ctx:={ P:=Tryd.prog,ty:=ty,glob:=gl,fs:=[(170,.data zwi)] }
theorem zwl:ge1.OK:=⟨tyOK,⟨⟨z0b Tryd.func170 kR rfl,zwj⟩,trivial⟩,mixed⟩
@[simp] theorem ge1_ty:ge1.ty=ty:=rfl

def zr2:QSpec:=fun vs K=>∃ c:List UInt64,vs=[.c (.clo 171 [boxK c])]∧c.length=4∧K (.c (.ds (z0o c).length (.u8s (z0o c))))
theorem zth:z1x Tryd.prog gl 164 zr2:=by
 refine z1c (Γ:=ge1) (N:=5) Tryd.func164 rfl rfl fun vs K h=>?_;obtain⟨c,rfl,hc,h⟩:=h;refine⟨_,h,trivial,by simp,fun w I=>?_⟩;refine srR zwl fun _ K2=>?_;refine zby ?_;refine s_n K2 ?_;refine srR zwl fun _ K4=>?_;refine zby ?_;refine sXEUf_12 ?_;refine aI (fun x hx=>by rw[List.mem_singleton.1 hx];intro g l;intro e;cases e) ?_;refine⟨c,rfl,hc,?_⟩;refine DUf_0 ?_
 first|refine exI ?_|(intro cap1 hcap1;refine exI ?_)
 refine zby ?_;refine s_n K4 ?_;refine z0e (z0g zwl (fun _ _ h=>h) (by trivial) [] [.tmp 2] rfl ?_)
 all_goals exact uUd_0

noncomputable def ge2:Ctx:={ P:=Tryd.prog,ty:=ty,glob:=gl,fs:=[(164,.data zr2),(165,.data zr0)] }
theorem zwm:ge2.OK:=⟨tyOK,⟨⟨z0b Tryd.func164 kR rfl,zth⟩,⟨z0b Tryd.func165 kR rfl,ztg⟩,trivial⟩,mixed⟩
@[simp] theorem ge2_ty:ge2.ty=ty:=rfl

def zwn:QSpec:=fun vs K=>∃ c:List UInt64,vs=[.agg (.u64s c)]∧c.length=4∧K (.c (.ds (z0o c).length (.u8s (z0o c))))
theorem zwo:z1x Tryd.prog gl 138 zwn:=by
 refine z1c (Γ:=ge2) (N:=6) Tryd.func138 rfl rfl fun vs K h=>?_;obtain⟨c,rfl,hc,h⟩:=h;refine⟨_,h,trivial,by simp,fun w I=>?_⟩;refine srR zwm fun _ K2=>?_
 iterate 2 refine sXUd_1 ?_
 refine s_n K2 ?_;refine srR zwm fun _ K4=>?_;refine sXUd_1 ?_;refine zr1 ?_;refine⟨c,rfl,hc,?_⟩;refine DUd_0 ?_
 first|refine exI ?_|(intro cap1 hcap1;refine exI ?_)
 refine zr1 ?_;refine aI (fun x hx=>by rw[List.mem_singleton.1 hx];intro g l;intro e;cases e) ?_;refine⟨c,rfl,hc,?_⟩;refine DUd_0 ?_
 first|refine exI ?_|(intro cap2 hcap2;refine exI ?_)
 refine sXUd_1 ?_;refine s_n K4 ?_;refine z0e (z0g zwm (fun _ _ h=>h) (by trivial) [] [.tmp 2] rfl ?_)
 all_goals exact uUd_0

def addW(s:List UInt64)(b:UInt8):List UInt64:=s.set (b / 64).toNat (s.getD (b / 64).toNat 0 ||| shl64 1 (b%64).toNat)
@[simp] theorem zgc(s:List UInt64)(b:UInt8):(addW s b).length=s.length:=by simp[addW]
theorem div64_lt(b:UInt8):(b / 64).toNat< 4:=by
  have:=b.toNat_lt
  rw[UInt8.toNat_div]
  show b.toNat / 64< 4
  omega
def ofW(l:List UInt8):List UInt64:=l.foldl addW (List.replicate 4 0)
def ofK(l:List UInt8)(k:Nat):List UInt64:=(l.take k).foldl addW (List.replicate 4 0)
theorem zan:∀ (l:List UInt8) (s:List UInt64),(l.foldl addW s).length=s.length
  |[],_=>rfl
  |b::l,s=>by rw[List.foldl_cons,zan l,zgc]
@[simp] theorem zti(l:List UInt8)(k:Nat):(ofK l k).length=4:=by rw[ofK,zan];rfl
@[simp] theorem zhx(l:List UInt8):(ofW l).length=4:=by rw[ofW,zan];rfl
theorem ofK_succ{l:List UInt8}{k:Nat}(h:k< l.length):addW (ofK l k) (l.getD k 0)=ofK l (k+1):=by
  rw[ofK,ofK,List.take_add_one,at_of (d:=0) h,Option.toList_some,List.foldl_append];rfl
theorem zwp(l:List UInt8):ofK l l.length=ofW l:=by rw[ofK,List.take_length];rfl
def addP:PSpec:=fun te c cap off vs K=>match c,vs with
  | .u64s s,[.c (.u8 b)]=>(off=0∧s.length=4)∧K (.u64s (addW s b)) z3c
  |_,_=>False
theorem add_ok:PtrOK Tryd.prog gl 167 addP:=by
 refine ptr_of (Γ:=g0) (N:=16) Tryd.func167 rfl rfl fun te c cap off vs K h=>?_;unfold addP at h
 split at h
 ·rename_i s b
  obtain⟨⟨hoff,hs⟩,h⟩:=h;subst hoff;refine⟨_,_,h,rfl,rfl,by simp,fun w I b'=>?_⟩
  have hb:(b / UInt8.ofNat (Int.toNat 64)).toNat< 4:=div64_lt b
  refine z69 g0_ok [(0,true),(1,true),(2,true),(3,true),(4,true),(5,true),(6,true),(7,true),(8,true),(9,true),(10,true),(11,true),(12,false)] rfl kR kR fun _ K1=>?_
  iterate 12 refine dXUf_5 ?_
  refine gX0Uf_6 ?_;refine d_n K1 ?_;refine zul g0_ok (fun _ _ h=>h) rfl ?_
  show Option.some (SObj.own te (.u64s _) cap)=_
  rw[addW,show 0+((b / UInt8.ofNat (Int.toNat 64)).toNat:Int).toNat*1=(b / 64).toNat by rw[Int.toNat_natCast,Nat.mul_one,Nat.zero_add];rfl]
  rfl
 ·exact h.elim

noncomputable def ge3:Ctx:={ P:=Tryd.prog,ty:=ty,glob:=gl,fs:=[(167,.gen (ptrS addP))] }
theorem zbz:ge3.OK:=⟨tyOK,⟨⟨z0b Tryd.func167 kR rfl,gen_ptr add_ok⟩,trivial⟩,mixed⟩
@[simp] theorem ge3_ty:ge3.ty=ty:=rfl

def ofBS:QSpec:=fun vs K=>∃ l:List UInt8,vs=[.c (.ds l.length (.u8s l))]∧l.length≤9223372036854775807∧K (.agg (.u64s (ofW l)))
theorem ofB_ok:z1s Tryd.prog gl 155 ofBS:=by
 refine z1r (Γ:=ge3) (N:=16) Tryd.func155 rfl rfl fun vs K h=>?_;obtain⟨l,rfl,hl,h⟩:=h;refine⟨_,h,rfl,by simp,fun w I=>?_⟩;refine srR zbz fun _ K2=>?_;refine zby ?_;refine s_n K2 ?_;refine srR zbz fun _ K4=>?_;refine zby ?_;refine s_n K4 ?_;refine seq_k fun _ K5=>?_;refine srR zbz fun _ K7=>?_
 iterate 3 refine zby ?_
 refine s_n K7 ?_;refine z03 ?_;refine z0m (α:=Nat) (fun k=>[(2,.c (.ptr 0 0)),(3,.c (.ptr 1 0)),(6,.c (.ds l.length (.u8s l))),(7,.c (.int .i64 l.length)),(8,.c (.int .i64 k))]) (fun k=>[(0,.own 50 (.u64s (List.replicate 4 0)) 4),(1,.own 50 (.u64s (ofK l k)) 4)]) 2 (fun k=>k≤l.length) (fun k=>l.length - k) ?_ ?_
 ·refine dnS [] id 0 (Nat.zero_le _) [0,1] uUf_1 uUf_1 uUf_1 uUf_1
 ·intro k hk
  refine srR zbz fun _ K9=>?_;refine zby ?_;refine s_n K9 ?_;refine seq_k fun _ K10=>?_;refine z04 (b:=_) rfl (fun h_t9=>?_) (fun h_t9=>?_)
  ·try simp only[dQ,reduceIte]at h_t9
   refine z09 ?_;apply K10;refine seq_k fun _ K11=>?_;refine z03 ?_
   have hkl:k< l.length:=by omega
   refine srR zbz fun _ K13=>?_
   iterate 3 refine zby ?_
   refine s_n K13 ?_;refine z01 zbz fun _ K14=>?_;refine sXUf_8 ?_;refine sXEUf_14 ?_;refine⟨⟨rfl,by simp,fun v hv=>by rw[List.mem_singleton.1 hv];trivial⟩,⟨rfl,zti _ _⟩,?_⟩;refine DUf_7 ?_
   first|refine exI ?_|(intro cap1 hcap1;refine exI ?_)
   refine s_n K14 ?_;refine z05 ?_;apply K11;refine z01 zbz fun _ K15=>?_
   iterate 2 refine zby ?_
   refine s_n K15 ?_;refine dnS [] id (k+1) ⟨by omega,by omega⟩ [0,1] uUf_1 uUf_1 uUf_1 uUf_1
  ·try simp only[dQ,reduceIte]at h_t9
   refine z0i ?_;refine z00 ?_;refine z00 ?_;refine z0f ?_;apply K5
   obtain rfl:k=l.length:=by omega
   refine srR zbz fun _ K17=>?_;refine sXUf_10 ?_;refine sX0Uf_11 ?_;refine s_n K17 ?_;refine z0e (z0d zbz (fun _ _ h=>h) (by first|rfl|assumption) [.cell 2 50] rfl ?_);refine rtD ?_
   try refine z0a (by simp) ?_
   show SV.agg (.u64s _)=SV.agg (.u64s _)
   congr 2
   first|rfl|exact zwp l|(simp[zwp];done)


end Go.Proofs.YtppmnaoollkboaaDoor

namespace Go.Proofs.YtppmnaoollkboaaDoor
set_option linter.all false
open Go.Ab Go.RowKit

open Go.Aut
attribute [local irreducible] z0o
def hasW(c:List UInt64)(b:Nat):Bool:=(c.getD (b / 64) 0).toNat.testBit (b%64)
theorem zd8{l:List UInt64}{k b:Nat}(hb:b< 256):hasW (clsAt l k) b=hasC l k b:=zj3 hb
theorem zwq{a b:List UInt64}(ha:a.length=4)(hb:b.length=4)(h:∀ x,x< 256→hasW a x=hasW b x):a=b:=by
  refine z1j 0 (ha.trans hb.symm) fun i hi=>zvd fun j hj=>?_
  have:=h (64*i+j) (by omega)
  rwa [hasW,hasW,show(64*i+j) / 64=i by omega,show(64*i+j)%64=j by omega]at this
theorem zek(g:UInt64→UInt64→UInt64)(a b:List UInt64){i:Nat}(h:i< 4):(zipC g a b).getD i 0=g (a.getD i 0) (b.getD i 0):=by
  rw[zipC,zipK,z0j h,if_pos h]
theorem hasW_or(a b:List UInt64){x:Nat}(h:x< 256):hasW (orC a b) x=(hasW a x||hasW b x):=by
  rw[hasW,orC,zek _ _ _ (by omega),hasW,hasW,UInt64.toNat_or,Nat.testBit_or]
theorem zr3(a b:List UInt64){x:Nat}(h:x< 256):hasW (andC a b) x=(hasW a x&&hasW b x):=by
  rw[hasW,andC,zek _ _ _ (by omega),hasW,hasW,UInt64.toNat_and,Nat.testBit_and]
theorem zjc(a:List UInt64){x:Nat}(h:x< 256):hasW (notK a) x= !hasW a x:=by
  have e:∀ y:UInt64,∀ j,j< 64→(~~~y).toNat.testBit j= !y.toNat.testBit j:=fun y j hj=>by
    show(~~~y).toBitVec.getLsbD j= !y.toBitVec.getLsbD j
    rw[show(~~~y).toBitVec= ~~~y.toBitVec from rfl,BitVec.getLsbD_not]
    simp[hj]
  rw[hasW,notK,zek _ _ _ (by omega),hasW,e _ _ (Nat.mod_lt _ (by decide))]
theorem z5k(x:Nat):hasW Z4 x=false:=by
  rw[hasW,List.getD_eq_getElem?_getD,List.getElem?_replicate]
  split<;>simp
theorem z7q(l:List UInt64){x:Nat}(h:x< 256):∀ k,hasW (seenL l k) x=true↔∃ c,c< k∧hasC l c x=true
  | 0=>by
    rw[seenL,z5k];exact⟨fun h=>(by cases h),fun⟨c,hc,_⟩=>absurd hc (Nat.not_lt_zero c)⟩
  | k +1=>by
    rw[seenL,hasW_or _ _ h,Bool.or_eq_true,z7q l h k,zd8 h]
    constructor
    · rintro (⟨c,hc,e⟩|e)
      · exact⟨c,by omega,e⟩
      · exact⟨k,by omega,e⟩
    · rintro ⟨c,hc,e⟩
      by_cases hk:c=k
      · subst hk;exact .inr e
      · exact .inl ⟨c,by omega,e⟩
theorem zgd {l:List UInt64} {nc k:Nat} (hl:l.length=nc*4) (hk:k< nc):z5r l k=true↔(∃ x,x< 256∧hasC l k x=true)∧∀ x,x< 256→∀ c,c< k→hasC l c x=true→hasC l k x=false:=by
  have h4:=z2s hl hk
  rw[z5r,Bool.and_eq_true,Bool.not_eq_true',decide_eq_false_iff_not,decide_eq_true_eq];refine and_congr ?_ ?_
  · constructor
    · intro h
      refine Classical.byContradiction fun hn=>h (zwq h4 (by simp) fun x hx=>?_);rw[z5k,zd8 hx]
      cases e:hasC l k x with
      |false=>rfl
      |true=>exact absurd ⟨x,hx,e⟩ hn
    · rintro ⟨x,hx,e⟩ h
      rw[←zd8 hx,h,z5k]at e;cases e
  · constructor
    · intro h x hx c hc e
      have h1:=congrArg (fun a=>hasW a x) h
      simp only[zr3 _ _ hx,z5k,(z7q l hx k).2 ⟨c,hc,e⟩,Bool.true_and]at h1
      rw[zd8 hx]at h1;exact h1
    · intro h
      refine zwq (by simp[andC,zipC,zipK]) (by simp) fun x hx=>?_;rw[zr3 _ _ hx,z5k,zd8 hx]
      cases e:hasW (seenL l k) x with
      |false=>rfl
      | true=>
        obtain⟨c,hc,e'⟩:=(z7q l hx k).1 e;rw[h x hx c hc e'];rfl
theorem clsP_iff {l:List UInt64} {nc:Nat} (hl:l.length=nc*4):clsP l nc=true↔(∀ b,b< 256→∃ c,c< nc∧∀ x,x< nc→(hasC l x b=true↔x=c))∧∀ c,c< nc→∃ b,b< 256∧hasC l c b=true:=by
  rw[clsP,Bool.and_eq_true,List.all_eq_true,decide_eq_true_eq]
  have hn:notK (seenL l nc)=Z4↔∀ x,x< 256→∃ c,c< nc∧hasC l c x=true:=by
    constructor
    · intro h x hx
      have h1:=congrArg (fun a=>hasW a x) h
      simp only[zjc _ hx,z5k,Bool.not_eq_false']at h1
      exact(z7q l hx nc).1 h1
    · intro h
      refine zwq (by simp[notK,zipC,zipK]) (by simp) fun x hx=>?_;rw[zjc _ hx,z5k,(z7q l hx nc).2 (h x hx)];rfl
  rw[hn]
  constructor
  · rintro ⟨h1,h2⟩
    have h1:∀ k,k< nc→_:=fun k hk=>(zgd hl hk).1 (h1 k (List.mem_range.2 hk))
    refine⟨fun b hb=>?_,fun c hc=>(h1 c hc).1⟩;obtain⟨c,hc,e⟩:=h2 b hb;refine⟨c,hc,fun x hx=>⟨fun hx'=>?_,fun e'=>e'▸e⟩⟩
    rcases Nat.lt_trichotomy x c with h|h|h
    · have:=(h1 c hc).2 b hb x h hx';rw[e]at this;cases this
    · exact h
    · have:=(h1 x hx).2 b hb c h e;rw[hx']at this;cases this
  · rintro ⟨h1,h2⟩
    refine⟨fun k hk=>?_,fun x hx=>?_⟩
    · have hk:=List.mem_range.1 hk
      refine(zgd hl hk).2 ⟨h2 k hk,fun x hx c hc e=>?_⟩;obtain⟨c',hc',e'⟩:=h1 x hx
      cases e2:hasC l k x with
      |false=>rfl
      | true=>
        have a:=(e' c (by omega)).1 e
        have b:=(e' k hk).1 e2
        omega
    · obtain⟨c,hc,e⟩:=h1 x hx
      exact⟨c,hc,(e c hc).2 rfl⟩
def _root_.Go.Aut.Dfa.good(d:Dfa):Prop:=d.ok∧d.next.length≤64
theorem zm6{nc n:Nat}{r:List Int}:rowOK nc n r=true↔r.length=nc∧∀ t∈r,0≤t∧t< (n:Nat):=by
  rw[rowOK,Bool.and_eq_true,decide_eq_true_eq,List.all_eq_true]
  simp only[tgtOK,Bool.and_eq_true,decide_eq_true_eq]
theorem zd9{d:Dfa}(hw:d.wf):z4x d=true↔d.good:=by
  rw[z4x,Bool.and_eq_true,Bool.and_eq_true,decide_eq_true_eq,clsP_iff hw.1,List.all_eq_true]
  constructor
  · rintro ⟨⟨⟨h1,h2,h3,h4,h5⟩,h6,h7⟩,h8⟩
    exact⟨⟨hw.1,h1,h3,h4,h5,h6,h7,fun r hr=>zm6.1 (h8 r hr)⟩,h2⟩
  · rintro ⟨h,h2⟩
    exact⟨⟨⟨h.npos,h2,h.alen,h.cpos,h.cmax⟩,h.part,h.full⟩,fun r hr=>zm6.2 (h.rows r hr)⟩
theorem zjd{d:Dfa}(h:d.good):d.wf:=by
  obtain⟨h,h2⟩:=h;refine⟨h.clen,by have:=h.cmax;omega,by omega,by rw[h.alen];omega,fun r hr=>by have:=(h.rows r hr).1;have:=h.cmax;omega⟩
theorem zda{d:Dfa}(h:d.good):z4x d=true:=(zd9 (zjd h)).2 h
def z08(cell:List Int)(nc:Nat)(x y:Cell):List Cell:=cell.map (Cell.int .i64)++[.int .i64 nc,x,y]
abbrev tabC(t:Tab):Cont:=.cells (z08 t.cell t.nc (.ds t.next.length (.cells (rowsC t.next))) (.ds t.acc.length (.bools t.acc)))
abbrev tabV(t:Tab):SV:=.agg (tabC t)
theorem z06{cell:List Int}{nc:Nat}{x y:Cell}(h:cell.length=256):(z08 cell nc x y).length=259:=by simp[z08,h]
theorem tab_cell{cell:List Int}{nc:Nat}{x y:Cell}(h:cell.length=256){b:Nat}(hb:b< 256):(Cont.cells (z08 cell nc x y)).get b= .int .i64 (cell.getD b 0):=by
  show(z08 cell nc x y).getD b .nils=_
  rw[z08,List.getD_eq_getElem?_getD,List.getElem?_append_left (by simpa [h]using hb),List.getElem?_map,at_of (d:=0) (by omega)];rfl
theorem zje{cell:List Int}{nc:Nat}{x y:Cell}(h:cell.length=256)(j:Nat):(Cont.cells (z08 cell nc x y)).get (256+j)=[Cell.int .i64 nc,x,y].getD j .nils:=by
  show(z08 cell nc x y).getD (256+j) .nils=_
  rw[z08,List.getD_eq_getElem?_getD,List.getElem?_append_right (by simp[h]),List.getD_eq_getElem?_getD]
  congr 2;simp[h]
theorem tab_set{cell:List Int}{nc:Nat}{x y:Cell}(h:cell.length=256){b:Nat}(hb:b< 256)(v:Int):(z08 cell nc x y).set b (.int .i64 v)=z08 (cell.set b v) nc x y:=by
  rw[z08,z08,List.set_append_left _ _ (by simpa [h]using hb),List.map_set]
theorem zor{cell:List Int}{nc n:Nat}{x y:Cell}(hx:x.low n)(hy:y.low n):(Cont.cells (z08 cell nc x y)).low n:=fun z hz=>by
  rcases List.mem_append.1 hz with hz|hz
  · obtain⟨v,_,rfl⟩:=List.mem_map.1 hz;trivial
  · rcases List.mem_cons.1 hz with rfl|hz
    · trivial
    · rcases List.mem_cons.1 hz with rfl|hz
      · exact hx
      · rw[List.mem_singleton.1 hz];exact hy
theorem zr4{a b:List Cell}(ha:allD a)(hb:allD b):allD (a++b):=by
  induction a with
  |nil=>exact hb
  |cons x a ih=>exact⟨ha.1,ih ha.2⟩
theorem zm7{k:IntKind}(l:List Int):allD (l.map (Cell.int k)):=by
  induction l with
  |nil=>trivial
  |cons x l ih=>exact⟨trivial,ih⟩
theorem allD_tab(t:Tab):allD (z08 t.cell t.nc (.ds t.next.length (.cells (rowsC t.next))) (.ds t.acc.length (.bools t.acc))):=zr4 (zm7 _) ⟨trivial,trivial,trivial,trivial⟩
theorem zwr(t:Tab){n:Nat}:(tabC t).low n:=zor trivial trivial
theorem zm8{a b:List Cell}(ha:z5e a)(hb:z5e b):z5e (a++b):=by
  induction a with
  |nil=>exact hb
  |cons x a ih=>exact⟨ha.1,ih ha.2⟩
theorem zct{k:IntKind}(l:List Int):z5e (l.map (Cell.int k)):=by
  induction l with
  |nil=>trivial
  |cons x l ih=>exact⟨trivial,ih⟩
theorem zge{cell:List Int}{nc:Nat}{x y:Cell}(hx:x.solid)(hy:y.solid):z5e (z08 cell nc x y):=zm8 (zct _) ⟨trivial,hx,hy,trivial⟩
theorem zhy{ty:Nat→Ty}{H:Heap}{is:List Nat}{ρ:Nat→Nat}{k:IntKind}(l:List Int):allTo (Cell.to ty H is ρ) (l.map (Cell.int k)) (l.map (Cell.int k)):=by
  induction l with
  |nil=>trivial
  |cons x l ih=>exact⟨⟨rfl,rfl⟩,ih⟩
theorem z65{f:Cell→Cell→Prop}:∀ {a b c d:List Cell},allTo f a c→allTo f b d→allTo f (a++b) (c++d)
  |[],_,[],_,_,h=>h
  |_::_,_,_::_,_,h,k=>⟨h.1,z65 h.2 k⟩
  |[],_,_::_,_,h,_=>h.elim
  |_::_,_,[],_,h,_=>h.elim
theorem z8x{ty:Nat→Ty}{H:Heap}{is:List Nat}{ρ:Nat→Nat}{cell:List Int}{nc:Nat}{x y x' y':Cell}(hx:Cell.to ty H is ρ x x')(hy:Cell.to ty H is ρ y y'):allTo (Cell.to ty H is ρ) (z08 cell nc x y) (z08 cell nc x' y'):=
  z65 (zhy _) ⟨⟨rfl,rfl⟩,hx,hy,trivial⟩
def z0y:List Int:=List.replicate 256 0
theorem z3r:z0y.length=256:=List.length_replicate
theorem tab0_eq(nc:Nat)(x y:Cell):List.replicate 256 (Cell.int .i64 0)++[.int .i64 nc,x,y]=z08 z0y nc x y:=by rw[z08,z0y,List.map_replicate]
theorem ztj(nc:Nat)(x y:Cell):((Cont.cells (List.replicate 257 (Cell.int .i64 0)++List.replicate 2 .nils)).sub 0 256).list++([.int .i64 nc]++([x]++([y]++[])))=z08 z0y nc x y:=by
  rw[←tab0_eq]
  show List.take 256 (List.drop 0 (List.replicate 257 _++List.replicate 2 _))++_=_
  rw[List.drop_zero,List.take_append_of_le_length (by rw[List.length_replicate];decide),List.take_replicate]
  rfl
def zl:List Cell:=List.replicate 257 (Cell.int .i64 0)++List.replicate 2 .nils
theorem za9:zl.length=259:=by rw[zl,List.length_append,List.length_replicate,List.length_replicate]
theorem z7r{ty:Nat→Ty}{H:Heap}{is:List Nat}{ρ:Nat→Nat}{x:Cell}(h:Cell.to ty H is ρ x x):∀ n,allTo (Cell.to ty H is ρ) (List.replicate n x) (List.replicate n x)
  |0=>trivial
  |n+1=>⟨h,z7r h n⟩
theorem zws{ty:Nat→Ty}{H:Heap}{is:List Nat}{ρ:Nat→Nat}:allTo (Cell.to ty H is ρ) (List.replicate 257 (Cell.int .i64 0)++List.replicate 2 .nils) zl:=z65 (z7r (x:=.int .i64 0) ⟨rfl,rfl⟩ _) (z7r (x:=.nils) (by first|exact trivial|exact⟨rfl,rfl⟩|exact rfl) _)
theorem zl_to{ty:Nat→Ty}{H:Heap}{is:List Nat}{ρ:Nat→Nat}:allTo (Cell.to ty H is ρ) zl zl:=zws
theorem zwt{n:Nat}:(Cont.cells zl).low n:=fun x hx=>by
  rcases List.mem_append.1 hx with h|h
  · rw[(List.mem_replicate.1 h).2];trivial
  · rw[(List.mem_replicate.1 h).2];trivial
theorem cells0_K(d:Dfa):z0y=z0v d 0:=(zoh d).symm
theorem tab_toE{ty:Nat→Ty}{H:Heap}{is:List Nat}{ρ:Nat→Nat}{cell cell':List Int}{nc:Nat}{x y x' y':Cell}{n:Nat}{v:Int}(hc:cell.length=256)(hn:n< 256)(e:cell.set n v=cell')(hx:Cell.to ty H is ρ x x')(hy:Cell.to ty H is ρ y y'):allTo (Cell.to ty H is ρ) ((z08 cell nc x y).set n (.int .i64 v)) (z08 cell' nc x' y'):=by
  rw[tab_set hc hn,e];exact z8x hx hy
theorem putB_nil(l:List Int)(bs:List UInt8)(k:Int):putB l (bs.take 0) k=l:=rfl

end Go.Proofs.YtppmnaoollkboaaDoor

namespace Go.Proofs.YtppmnaoollkboaaDoor
set_option linter.all false
open Go.Ab Go.RowKit

section
variable {a b:Prop}
theorem qUh0(h:a:=by first|exact vcA|(simp[hclen,z06,za9,-List.reduceReplicate]<;>omega)|exact zge trivial trivial|(show _< (z08 _ _ _ _).length;rw[z06 (by simp)];omega)|(simp[za9,-List.reduceReplicate];done)|(simp[z06,za9,-List.reduceReplicate];done)|(show(z08 _ _ _ _).length=259;exact z06 (by simp))|(show 259=(z08 _ _ _ _).length;exact(z06 (by simp)).symm)|exact vcB):a:=h
theorem qUh1(h:a:=by first|exact vcA|(simp[hclen,z06,za9,-List.reduceReplicate]<;>omega)|(simp[hclen];omega)|(simp[hcl];done)|exact vcB):a:=h
theorem qUh2(h:a:=by first|exact vcA|(simp[hclen,z06,za9,-List.reduceReplicate]<;>omega)|(simp[hcl];done)|exact vcB):a:=h
theorem uUh_0(h:a:=by
    repeat' (first|exact zwt|exact zl_to|exact zws|exact zor trivial trivial|exact z8x ⟨rfl,rfl⟩ ⟨rfl,rfl⟩|exact z9s _|exact za9.symm|exact za9|(show Cont.low _ (Cont.cells (List.replicate 257 _++_));exact zwt)|exact trivial|refine aI ?_ ?_|exact cC0|refine low_cons' ?_ ?_|exact cC1|fail)
    all_goals first|omega|(show Cont.to _ _ _ _ _ _;rw[putB_nil];exact z8x ⟨rfl,rfl⟩ ⟨rfl,rfl⟩)|(show Cont.to _ _ _ _ _ _;exact tab_toE (by simp) hset.1 hset.2 ⟨rfl,rfl⟩ ⟨rfl,rfl⟩)|(simp[-List.reduceReplicate];done)|(simp[-List.reduceReplicate]<;>omega)|skip):a:=h
theorem DUh_0(kZ:b)(h:HidB b→a:=by intro kZ;(repeat first|refine aI qUh0 ?_|refine z0a qUh0 ?_|refine z07 qUh0 ?_|refine z0l qUh0 ?_|refine z0c ?_);exact kZ.out):a:=h ⟨kZ⟩
theorem z8y(kZ:b)(h:HidB b→a:=by intro kZ;refine sX ?_;refine DUh_0 ?_;refine exI ?_;exact kZ.out):a:=h ⟨kZ⟩
theorem zos(kZ:b)(h:HidB b→a:=by intro kZ;refine sX0 ?_;refine DUh_0 ?_;refine exI ?_;exact kZ.out):a:=h ⟨kZ⟩
theorem DUh_3(kZ:b)(h:HidB b→a:=by intro kZ;(repeat first|refine aI qUh1 ?_|refine z0a qUh1 ?_|refine z07 qUh1 ?_|refine z0l qUh1 ?_|refine z0c ?_);exact kZ.out):a:=h ⟨kZ⟩
theorem sXUh_4(kZ:b)(h:HidB b→a:=by intro kZ;refine sX ?_;refine DUh_3 ?_;refine exI ?_;exact kZ.out):a:=h ⟨kZ⟩
theorem sX0Uh_5(kZ:b)(h:HidB b→a:=by intro kZ;refine sX0 ?_;refine DUh_3 ?_;refine exI ?_;exact kZ.out):a:=h ⟨kZ⟩
theorem DUh_6(kZ:b)(h:HidB b→a:=by intro kZ;(repeat first|refine aI qUh2 ?_|refine z0a qUh2 ?_|refine z07 qUh2 ?_|refine z0l qUh2 ?_|refine z0c ?_);exact kZ.out):a:=h ⟨kZ⟩
theorem sXUh_7(kZ:b)(h:HidB b→a:=by intro kZ;refine sX ?_;refine DUh_6 ?_;refine exI ?_;exact kZ.out):a:=h ⟨kZ⟩
theorem sXEUh_8(kZ:b)(h:HidB b→a:=by intro kZ;refine sX ?_;refine DUh_0 ?_;exact kZ.out):a:=h ⟨kZ⟩
theorem sXEUh_9(kZ:b)(h:HidB b→a:=by intro kZ;refine sX ?_;refine DUh_3 ?_;exact kZ.out):a:=h ⟨kZ⟩
theorem sXEUh_10(kZ:b)(h:HidB b→a:=by intro kZ;refine sX ?_;refine DUh_6 ?_;exact kZ.out):a:=h ⟨kZ⟩
end
open Go.Aut
attribute [local irreducible] z0o z0y zl z08 z0v putB
noncomputable def gt1:Ctx:={ P:=Tryd.prog,ty:=ty,glob:=gl,fs:=[(138,.data zwn)] }
theorem z7s:gt1.OK:=⟨tyOK,⟨⟨z0b Tryd.func138 kR rfl,zwo⟩,trivial⟩,mixed⟩
@[simp] theorem gt1_ty:gt1.ty=ty:=rfl

def zjf:QSpec:=fun vs K=>∃ d:Dfa,vs=[dfaV d]∧d.good∧K (tabV (tabD d))
theorem zhz:z1x Tryd.prog gl 74 zjf:=by
 refine z1c (Γ:=gt1) (N:=38) Tryd.func74 rfl rfl fun vs K h=>?_;obtain⟨d,rfl,⟨hok,hn64⟩,h⟩:=h;refine⟨_,h,zwr _,by simp,fun w I=>?_⟩
 have hclen:=hok.clen
 have hc256:=hok.cmax
 refine srR z7s fun _ K2=>?_
 iterate 2 refine z8y ?_
 refine s_n K2 ?_;refine seq_k fun _ K3=>?_;refine leW [] id [(1,.c (.ptr 0 0)),(2,.c (.ptr 1 0))] [(0,.own 30 (dfaC d) 3),(1,.own 87 (.cells zl) 259)] 2 [0,1] uUh_0 uUh_0 uUh_0 uUh_0 ?_;refine region_c z7s [9] fun _ K4=>?_
 simp only[wpC,List.take_succ_cons,List.take_zero,List.drop_succ_cons,List.drop_zero]
 iterate 7 refine z8y ?_
 refine sXEUh_8 ?_;refine exA (.agg (.cells (z08 (z0v d 0) d.nc (.ds d.next.length (.cells (rowsC d.next))) (.ds d.acc.length (.bools d.acc))))) (as_eq (congrArg (fun l=>SV.agg (Cont.cells l)) (by rw[←cells0_K];exact ztj _ _ _))) ?_;refine z8y ?_;refine s_nil ?_;refine c_le (is:=[]) (ρ:=id) (E':=[(1,.c (.ptr 0 0)),(2,.c (.ptr 1 0)),(3,.c (.ptr 2 0)),(15,.agg (.cells (z08 (z0v d 0) d.nc (.ds d.next.length (.cells (rowsC d.next))) (.ds d.acc.length (.bools d.acc)))))]) (H':=[(0,.own 30 (dfaC d) 3),(1,.own 87 (.cells zl) 259),(2,.own 87 (.cells zl) 259)]) (n':=3) ⟨?_,?_,(by decide:List.Nodup ([0,1,2]:List Nat)),?_,?_,?_⟩ ?_
 ·exact uUh_0
 ·exact uUh_0
 ·exact uUh_0
 ·exact uUh_0
 ·exact⟨Nat.zero_le _,fun i hi=>absurd hi (Nat.not_lt_zero i)⟩
 refine zos ?_;refine s_n K4 ?_;apply K3;refine seq_k fun _ K5=>?_;refine srR z7s fun _ K7=>?_
 iterate 4 refine z8y ?_
 refine s_n K7 ?_;refine z03 ?_;refine z0m (α:=Nat) (fun i=>[(2,.c (.ptr 1 0)),(3,.c (.ptr 2 0)),(17,.c (.ds d.nc (.u64s d.cls))),(18,.c (.int .i64 d.nc)),(19,.c (.int .i64 (i:Nat)))]) (fun i=>[(0,.own 30 (dfaC d) 3),(1,.own 87 (.cells zl) 259),(2,.own 87 (.cells (z08 (z0v d i) d.nc (.ds d.next.length (.cells (rowsC d.next))) (.ds d.acc.length (.bools d.acc)))) 259)]) 3 (fun i=>i≤d.nc) (fun i=>d.nc - i) ?_ ?_
 ·refine dnS [] id 0 (Nat.zero_le _) [0,1,2] uUh_0 uUh_0 uUh_0 uUh_0
 ·intro i hi
  refine srR z7s fun _ K9=>?_;refine z8y ?_;refine s_n K9 ?_;refine seq_k fun _ K10=>?_;refine z04 (b:=_) rfl (fun h_t20=>?_) (fun h_t20=>?_)
  ·try simp only[dQ,reduceIte]at h_t20
   refine z09 ?_;apply K10;refine seq_k fun _ K11=>?_;refine z03 ?_
   have hin:i< d.nc:=by omega
   have hcl:=z2s hclen hin
   have hsub:(Cont.u64s d.cls).sub ((i:Int).toNat*4) (4*1)= .u64s (clsAt d.cls i):=rfl
   refine srR z7s fun _ K13=>?_
   iterate 2 refine sXUh_4 ?_
   refine sXEUh_9 ?_;refine exA (.agg (.u64s (clsAt d.cls i))) (SV.as_refl _) ?_
   iterate 2 refine sXUh_4 ?_
   refine sX0Uh_5 ?_;refine s_n K13 ?_;refine srR z7s fun _ K15=>?_;refine sXUh_7 ?_;refine sXEUh_10 ?_;refine⟨clsAt d.cls i,rfl,hcl,?_⟩;refine DUh_6 ?_
   first|refine exI ?_|(intro cap1 hcap1;refine exI ?_)
   iterate 2 refine sXUh_7 ?_
   refine s_n K15 ?_;refine z03 ?_;refine z0m (α:=Nat) (fun j=>[(2,.c (.ptr 1 0)),(3,.c (.ptr 2 0)),(17,.c (.ds d.nc (.u64s d.cls))),(18,.c (.int .i64 d.nc)),(19,.c (.int .i64 (i:Nat))),(4,.c (.int .i64 (i:Nat))),(25,.c (.ds (z0o (clsAt d.cls i)).length (.u8s (z0o (clsAt d.cls i))))),(26,.c (.int .i64 (z0o (clsAt d.cls i)).length)),(27,.c (.int .i64 (j:Nat)))]) (fun j=>[(0,.own 30 (dfaC d) 3),(1,.own 87 (.cells zl) 259),(2,.own 87 (.cells (z08 (putB (z0v d i) ((z0o (clsAt d.cls i)).take j) (i:Nat)) d.nc (.ds d.next.length (.cells (rowsC d.next))) (.ds d.acc.length (.bools d.acc)))) 259)]) 3 (fun j=>j≤(z0o (clsAt d.cls i)).length) (fun j=>(z0o (clsAt d.cls i)).length - j) ?_ ?_
   ·refine dnS [] id 0 (Nat.zero_le _) [0,1,2] uUh_0 uUh_0 uUh_0 uUh_0
   ·intro j hj
    refine srR z7s fun _ K17=>?_;refine z8y ?_;refine s_n K17 ?_;refine seq_k fun _ K18=>?_;refine z04 (b:=_) rfl (fun h_t28=>?_) (fun h_t28=>?_)
    ·try simp only[dQ,reduceIte]at h_t28
     refine z09 ?_;apply K18;refine seq_k fun _ K19=>?_;refine z03 ?_
     have hjn:j< (z0o (clsAt d.cls i)).length:=by omega
     have hbl:=zd1 (clsAt d.cls i)
     refine srR z7s fun _ K21=>?_
     iterate 3 refine z8y ?_
     refine s_n K21 ?_
     have hbt:((z0o (clsAt d.cls i)).getD ((j:Int).toNat*1) 0).toNat< 256:=UInt8.toNat_lt _
     refine z01 z7s fun _ K22=>?_
     iterate 4 refine z8y ?_
     refine zos ?_;refine s_n K22 ?_;refine z05 ?_;apply K19;refine z01 z7s fun _ K23=>?_
     iterate 2 refine z8y ?_
     refine s_n K23 ?_
     have hset:(0+0+((((z0o (clsAt d.cls i)).getD ((j:Int).toNat*1) 0).toNat:Nat):Int).toNat*1)< 256∧(putB (z0v d i) ((z0o (clsAt d.cls i)).take j) (i:Nat)).set (0+0+((((z0o (clsAt d.cls i)).getD ((j:Int).toNat*1) 0).toNat:Nat):Int).toNat*1) (i:Nat)=putB (z0v d i) ((z0o (clsAt d.cls i)).take (j+1)) (i:Nat):=by
      have e:(0+0+((((z0o (clsAt d.cls i)).getD ((j:Int).toNat*1) 0).toNat:Nat):Int).toNat*1)=((z0o (clsAt d.cls i)).getD j 0).toNat:=by rw[Int.toNat_natCast,Int.toNat_natCast,Nat.mul_one,Nat.mul_one,Nat.zero_add]
      rw[e];exact⟨UInt8.toNat_lt _,zvi (z0v d i) (i:Nat) hjn⟩
     refine dnS [] id (j+1) ⟨by omega,by omega⟩ [0,1,2] uUh_0 uUh_0 uUh_0 uUh_0
    ·try simp only[dQ,reduceIte]at h_t28
     refine z0i ?_;refine z00 ?_;refine z00 ?_;refine z0f ?_;refine z05 ?_;apply K11;refine z01 z7s fun _ K24=>?_
     iterate 2 refine z8y ?_
     refine s_n K24 ?_
     obtain rfl:j=(z0o (clsAt d.cls i)).length:=by omega
     have hstep:putB (z0v d i) (z0o (clsAt d.cls i)) (i:Nat)=z0v d (i+1):=zoi hok hin
     rw[List.take_length,hstep];refine dnS [] id (i+1) ⟨by omega,by omega⟩ [0,1,2] uUh_0 uUh_0 uUh_0 uUh_0
  ·try simp only[dQ,reduceIte]at h_t20
   refine z0i ?_;refine z00 ?_;refine z00 ?_;refine z0f ?_;apply K5;refine srR z7s fun _ K26=>?_;refine z8y ?_;refine zos ?_;refine s_n K26 ?_
   obtain rfl:i=d.nc:=by omega
   refine z0e (z0g z7s (fun _ _ h=>h) (zwr _) [] [.cell 2 87] rfl ?_)
   repeat first|refine aI (by first|omega|(simp[z06,za9,-List.reduceReplicate];done)|exact zge trivial trivial) ?_|refine z0a (z06 (zj2 _ _)) ?_
   all_goals exact uUh_0


end Go.Proofs.YtppmnaoollkboaaDoor

namespace Go.Proofs.YtppmnaoollkboaaDoor
set_option linter.all false
open Go.Ab Go.RowKit

open Go.Aut
theorem zaa{t:Tab}(h:t.cell.length=256):(tabC t).get (0+257)= .ds t.next.length (.cells (rowsC t.next)):=by rw[Nat.zero_add,zje h 1];rfl
theorem zwu{t:Tab}(h:t.cell.length=256):(tabC t).get (0+258)= .ds t.acc.length (.bools t.acc):=by rw[Nat.zero_add,zje h 2];rfl
theorem tab_ncl{t:Tab}(h:t.cell.length=256):(tabC t).get (0+256)= .int .i64 (t.nc:Nat):=by rw[Nat.zero_add,zje h 0];rfl
theorem tab_cl{t:Tab}(h:t.cell.length=256){b i:Nat}(hi:i=b)(hb:b< 256):(tabC t).get i= .int .i64 (t.cell.getD b 0):=by rw[hi];exact tab_cell h hb
theorem zl_len':(Cont.cells (List.replicate 257 (Cell.int .i64 0)++List.replicate 2 .nils)).len=259:=by
  simp only[zfj,List.length_append,List.length_replicate]
theorem tab_fits{cell:List Int}{nc:Nat}{x y:Cell}(h:cell.length=256):0+(Cont.cells (z08 cell nc x y)).len≤(Cont.cells (List.replicate 257 (Cell.int .i64 0)++List.replicate 2 .nils)).len:=by
  rw[zl_len']
  show 0+(z08 cell nc x y).length≤259
  rw[z06 h];decide
theorem zwv{cell:List Int}{nc:Nat}{x y:Cell}(h:cell.length=256):(Cont.cells (List.replicate 257 (Cell.int .i64 0)++List.replicate 2 .nils)).len=(Cont.cells (z08 cell nc x y)).len:=by
  rw[zl_len'];exact(z06 h).symm
theorem z6e{l:List (List Int)}{i j:Nat}(h:i< l.length∧j=i):(Cont.cells (rowsC l)).get j= .ds (l.getD i []).length (.ints .i64 (l.getD i [])):=by rw[h.2];exact z6u h.1
theorem z26{tf:Nat→Ty}{H:Heap}{is:List Nat}{ρ:Nat→Nat}(l:List (List Int)):allTo (Cell.to tf H is ρ) (rowsC l) (rowsC l):=by
  induction l with
  |nil=>trivial
  |cons r l ih=>exact⟨⟨rfl,rfl⟩,ih⟩
theorem z4g(a:List (List Int))(b:List Int):rowsC a++[.ds b.length (.ints .i64 b)]=rowsC (a++[b]):=by simp[rowsC]
theorem cellN{t:Tab}(h:t.ok){b:Nat}(hb:b< 256):(tblT t).cell b< t.nc∧t.cell.getD b 0=((tblT t).cell b:Nat):=Tab.cell_lt h hb
theorem nextN{t:Tab}(h:t.ok){s c:Nat}(hs:s< t.next.length)(hc:c< t.nc):(tblT t).δ s c< t.next.length∧(t.next.getD s []).getD c 0=((tblT t).δ s c:Nat):=Tab.next_lt h hs hc
theorem z8z{t:Tab}(h:t.ok){s:Nat}(hs:s< t.next.length):(t.next.getD s []).length=t.nc:=(h.rows _ (by rw[z49 hs];exact List.getElem_mem _)).1
attribute [local irreducible] z0o z0y zl z08 z0v putB
end Go.Proofs.YtppmnaoollkboaaDoor

namespace Go.Proofs.YtppmnaoollkboaaDoor
set_option linter.all false
open Go.Ab Go.RowKit

section
variable {a b:Prop}
theorem qUj0(h:a:=by first|exact vcA|(simp[-List.reduceReplicate]<;>omega)|exact vTh|exact vcB):a:=h
theorem qUj1(h:a:=by first|exact vcA|(simp[-List.reduceReplicate]<;>omega)|exact vTh|(simp;omega)|exact vcB):a:=h
theorem uUj_0(h:a:=by
    repeat' (first|exact pT|exact trivial|refine aI ?_ ?_|exact cC0|refine low_cons' ?_ ?_|exact cC1|fail)
    all_goals first|omega|exact hL0|exact hL|(show(_:List Bool)=_;first|exact hS1|rfl)|(show(_:List Int)=_;first|exact hS2|rfl)|(show(0:Nat)< (z08 _ _ _ _).length;rw[z06 hcl];decide)|(simp[-List.reduceReplicate];done)|(simp[-List.reduceReplicate]<;>omega)|skip):a:=h
theorem DUj_0(kZ:b)(h:HidB b→a:=by intro kZ;(repeat first|refine aI qUj0 ?_|refine z0a qUj0 ?_|refine z07 qUj0 ?_|refine z0l qUj0 ?_|refine z0c ?_);exact kZ.out):a:=h ⟨kZ⟩
theorem z4y(kZ:b)(h:HidB b→a:=by intro kZ;refine sX ?_;refine DUj_0 ?_;refine exI ?_;exact kZ.out):a:=h ⟨kZ⟩
theorem DUj_2(kZ:b)(h:HidB b→a:=by intro kZ;(repeat first|refine aI qUj1 ?_|refine z0a qUj1 ?_|refine z07 qUj1 ?_|refine z0l qUj1 ?_|refine z0c ?_);exact kZ.out):a:=h ⟨kZ⟩
theorem sXUj_3(kZ:b)(h:HidB b→a:=by intro kZ;refine sX ?_;refine DUj_2 ?_;refine exI ?_;exact kZ.out):a:=h ⟨kZ⟩
theorem sX0Uj_4(kZ:b)(h:HidB b→a:=by intro kZ;refine sX0 ?_;refine DUj_2 ?_;refine exI ?_;exact kZ.out):a:=h ⟨kZ⟩
theorem zr5(kZ:b)(h:HidB b→a:=by intro kZ;refine qX ?_;refine DUj_0 ?_;refine exI ?_;exact kZ.out):a:=h ⟨kZ⟩
theorem sX0Uj_6(kZ:b)(h:HidB b→a:=by intro kZ;refine sX0 ?_;refine DUj_0 ?_;refine exI ?_;exact kZ.out):a:=h ⟨kZ⟩
theorem zjg(kZ:b)(h:HidB b→a:=by intro kZ;refine sX ?_;refine DUj_0 ?_;exact kZ.out):a:=h ⟨kZ⟩
theorem zot(kZ:b)(h:HidB b→a:=by intro kZ;refine qX ?_;refine DUj_0 ?_;exact kZ.out):a:=h ⟨kZ⟩
end
open Go.Aut
theorem zjh{f:Nat→Nat→Nat}{nc b0 n m:Nat}(h:z1t f nc b0 n)(k:z1t f nc b0 m):n=m:=by
  rcases Nat.lt_trichotomy n m with e|e|e
  · have:=k.ahead n e;rw[h.len]at this;omega
  · exact e
  · have:=h.ahead m e;rw[k.len]at this;omega
open Classical in
noncomputable def zi0(t:Tbl):Nat:=if h:∃ n,z1t t.δ t.nc 0 n then Classical.choose h else 0
theorem zgf{t:Tbl}{n:Nat}(h:z1t t.δ t.nc 0 n):zi0 t=n:=by
  have he:∃ n,z1t t.δ t.nc 0 n:=⟨n,h⟩
  rw[zi0,dif_pos he];exact zjh (Classical.choose_spec he) h
noncomputable def z36(t:Tbl):List Nat:=bfs t (zi0 t)
def _root_.Go.Aut.Tab.fit(t:Tab):Prop:=t.ok∧t.next.length≤65535∧t.nc≤256
theorem Tab.nc_pos{t:Tab}(h:t.ok):0< t.nc:=Nat.lt_of_le_of_lt (Nat.zero_le _) (cellN h (b:=0) (by decide)).1
theorem z6x{t:Tab}(h:t.ok):z1t (tblT t).δ t.nc 0 (zi0 (tblT t))∧zi0 (tblT t)≤t.next.length:=by
  obtain⟨n,hn,hl⟩:=zvg (f:=(tblT t).δ) (nc:=t.nc) (b0:=0) (K:=t.next.length) (Tab.nc_pos h) h.npos fun x j hx hj=>(nextN h hx hj).1
  have hn':z1t (tblT t).δ (tblT t).nc 0 n:=hn
  rw[zgf hn'];exact⟨hn,hl⟩
theorem zww{t:Tab}(h:t.ok):∀ s∈z36 (tblT t),s< t.next.length:=zg0 (Tab.nc_pos h) h.npos (fun x j hx hj=>(nextN h hx hj).1) _
theorem ztk{t:Tab}(h:t.ok):(z36 (tblT t)).length≤t.next.length∧0< (z36 (tblT t)).length:=by
  have h1:=(z6x h).1.len
  have h2:=(z6x h).2
  have h3:(z36 (tblT t)).length=zi0 (tblT t):=h1
  exact⟨by omega,List.length_pos_of_mem zed⟩
theorem zhp{t:Tab}(h:t.ok)(p:Nat):∀ x∈ordO (tblT t).δ t.nc 0 p,x< t.next.length:=zg0 (Tab.nc_pos h) h.npos (fun x j hx hj=>(nextN h hx hj).1) p
theorem zr6{t:Tab}(h:t.ok)(p:Nat):(ordO (tblT t).δ t.nc 0 p).length≤t.next.length:=z6t (z53 p) (zhp h p)
theorem getD_mem'{l:List Nat}{i:Nat}(h:i< l.length):l.getD i 0∈l:=by rw[z49 h];exact List.getElem_mem h
attribute [local irreducible] z0o z0y zl z08 z0v putB
def zr7:QSpec:=fun vs K=>∃ t:Tab,vs=[tabV t]∧t.fit∧K (.c (.ds (z36 (tblT t)).length (.ints .i64 (natsI (z36 (tblT t))))))
theorem ztl:z1x Tryd.prog gl 140 zr7:=by
 refine z1c (Γ:=g0) (N:=48) Tryd.func140 rfl rfl fun vs K h=>?_;obtain⟨t,rfl,ht,h⟩:=h;refine⟨_,h,trivial,by simp,fun w I=>?_⟩;obtain⟨hok,hlen,hnc⟩:=ht
 have hcl:=hok.clen
 refine srR g0_ok fun _ K2=>?_
 iterate 2 refine z4y ?_
 refine s_n K2 ?_;refine leW [0] id [(1,.c (.dp (tabC t) 0))] [] 0 [] uUj_0 uUj_0 uUj_0 uUj_0 ?_;refine srR g0_ok fun _ K4=>?_;refine z4y ?_;refine zjg ?_;refine exA (.c (.ds t.next.length (.cells (rowsC t.next)))) (as_c (zaa hcl)) ?_
 iterate 3 refine z4y ?_
 refine s_n K4 ?_
 have hnp:=hok.npos
 refine leW [] id [(1,.c (.dp (tabC t) 0)),(3,.c (.slice 0 0 t.next.length t.next.length))] [(0,.own 4 (.bools (List.replicate t.next.length false)) t.next.length)] 1 [0] uUj_0 uUj_0 uUj_0 uUj_0 ?_;refine srR g0_ok fun _ K6=>?_
 iterate 2 refine sXUj_3 ?_
 refine sX0Uj_4 ?_;refine s_n K6 ?_;refine srR g0_ok fun _ K8=>?_
 iterate 2 refine z4y ?_
 refine s_n K8 ?_;refine seq_k fun _ K9=>?_;refine srR g0_ok fun _ K11=>?_;refine z4y ?_;refine s_n K11 ?_;refine z03 ?_;refine z0m (α:=Nat×Nat) (fun s=>[(1,.c (.dp (tabC t) 0)),(3,.c (.slice 0 0 t.next.length t.next.length)),(4,.c (.slice 1 0 ((ordO (tblT t).δ t.nc 0 (s.1*t.nc))).length s.2)),(5,.c (.int .i64 ((s.1:Nat):Int)))]) (fun s=>[(0,.own 4 (.bools (seenB (ordO (tblT t).δ t.nc 0 (s.1*t.nc)) t.next.length)) t.next.length),(1,.own 3 (.ints .i64 (natsI (ordO (tblT t).δ t.nc 0 (s.1*t.nc)))) s.2)]) 2 (fun s=>s.1≤t.next.length∧(∀ j,j< s.1→j< (ordO (tblT t).δ t.nc 0 (j*t.nc)).length)∧s.1≤(ordO (tblT t).δ t.nc 0 (s.1*t.nc)).length∧(ordO (tblT t).δ t.nc 0 (s.1*t.nc)).length≤s.2) (fun s=>t.next.length - s.1) ?_ ?_
 ·have hz:(ordO (tblT t).δ t.nc 0 (0*t.nc))=[0]:=by rw[Nat.zero_mul];rfl
  have hS1:(List.replicate t.next.length false).set 0 true=seenB (ordO (tblT t).δ t.nc 0 (0*t.nc)) t.next.length:=by rw[hz];exact zhu _
  have hS2:([]++[0]:List Int)=natsI (ordO (tblT t).δ t.nc 0 (0*t.nc)):=by rw[hz];rfl
  have hL0:1=(ordO (tblT t).δ t.nc 0 (0*t.nc)).length:=by rw[hz];rfl
  refine dnS [] id (0,1) ⟨Nat.zero_le _,fun j hj=>absurd hj (Nat.not_lt_zero j),Nat.zero_le _,by rw[hz];exact Nat.le_refl _⟩ [0,1] ?_ ?_ ?_ ?_
  ·exact uUj_0
  ·exact uUj_0
  ·exact uUj_0
  ·exact uUj_0
 ·intro s hs
  have hs3:=hs.2.2.1
  have hs4:=hs.2.2.2
  have hs1:=hs.1
  refine seq_k fun _ K12=>?_;refine srR g0_ok fun _ K14=>?_
  iterate 4 refine z4y ?_
  refine s_n K14 ?_;refine z04 (b:=_) rfl (fun h_t18=>?_) (fun h_t18=>?_)
  ·try simp only[dQ,reduceIte]at h_t18
   refine z09 ?_;apply K12;refine seq_k fun _ K15=>?_;refine z03 ?_
   have hi:s.1< (ordO (tblT t).δ t.nc 0 (s.1*t.nc)).length:=by omega
   have hsi:=zhp hok _ _ (getD_mem' hi)
   have hrl:=z8z hok hsi
   have hole:=zr6 hok (s.1*t.nc)
   refine srQ g0_ok kR fun _ K17=>?_;refine zr5 ?_;refine zot ?_;refine exA (.c (.ds t.next.length (.cells (rowsC t.next)))) (as_c (zaa hcl)) ?_
   iterate 3 refine zr5 ?_
   refine zot ?_;refine exA (.c (.int .i64 (((((ordO (tblT t).δ t.nc 0 (s.1*t.nc)).getD s.1 0):Nat):Int)))) (as_i (by rw[←z0q];congr 1;omega)) ?_;refine zr5 ?_;refine zot ?_;refine exA (.c (.ds (t.next.getD ((ordO (tblT t).δ t.nc 0 (s.1*t.nc)).getD s.1 0) []).length (.ints .i64 (t.next.getD ((ordO (tblT t).δ t.nc 0 (s.1*t.nc)).getD s.1 0) [])))) (as_c (z6e ⟨hsi,by omega⟩)) ?_
   iterate 2 refine zr5 ?_
   refine q_n K17 ?_;refine z03 ?_;refine z0m (α:=Nat×Nat) (fun k=>[(1,.c (.dp (tabC t) 0)),(3,.c (.slice 0 0 t.next.length t.next.length)),(4,.c (.slice 1 0 ((ordO (tblT t).δ t.nc 0 (s.1*t.nc+k.1))).length k.2)),(5,.c (.int .i64 ((s.1:Nat):Int))),(28,.c (.ds (t.next.getD ((ordO (tblT t).δ t.nc 0 (s.1*t.nc)).getD s.1 0) []).length (.ints .i64 (t.next.getD ((ordO (tblT t).δ t.nc 0 (s.1*t.nc)).getD s.1 0) [])))),(29,.c (.int .i64 ((t.next.getD ((ordO (tblT t).δ t.nc 0 (s.1*t.nc)).getD s.1 0) []).length:Nat))),(30,.c (.int .i64 (k.1:Nat)))]) (fun k=>[(0,.own 4 (.bools (seenB (ordO (tblT t).δ t.nc 0 (s.1*t.nc+k.1)) t.next.length)) t.next.length),(1,.own 3 (.ints .i64 (natsI (ordO (tblT t).δ t.nc 0 (s.1*t.nc+k.1)))) k.2)]) 2 (fun k=>k.1≤t.nc∧(ordO (tblT t).δ t.nc 0 (s.1*t.nc+k.1)).length≤k.2) (fun k=>t.nc - k.1) ?_ ?_
   ·refine dnS [] id (0,s.2) ⟨Nat.zero_le _,hs4⟩ [0,1] uUj_0 uUj_0 uUj_0 uUj_0
   ·intro k hk
    have hk2:=hk.2
    have hk1:=hk.1
    refine srR g0_ok fun _ K19=>?_;refine z4y ?_;refine s_n K19 ?_;refine seq_k fun _ K20=>?_;refine z04 (b:=_) rfl (fun h_t31=>?_) (fun h_t31=>?_)
    ·try simp only[dQ,reduceIte]at h_t31
     refine z09 ?_;apply K20;refine seq_k fun _ K21=>?_;refine z03 ?_
     have hk:k.1< t.nc:=by omega
     have hx:=nextN hok hsi hk
     have hat:=zlx (f:=(tblT t).δ) (b0:=0) hi (Nat.le_add_right (s.1*t.nc) k.1)
     have hst:=zbn (f:=(tblT t).δ) (b0:=0) (i:=s.1) hk
     rw[hat]at hst
     have hol:=zr6 hok (s.1*t.nc+k.1)
     refine srR g0_ok fun _ K23=>?_;refine z4y ?_;refine zjg ?_;refine exA (.c (.int .i64 (((((tblT t).δ ((ordO (tblT t).δ t.nc 0 (s.1*t.nc)).getD s.1 0) k.1):Nat):Int)))) (as_i (by rw[←hx.2];congr 1;omega)) ?_;refine z4y ?_;refine s_n K23 ?_;refine srR g0_ok fun _ K25=>?_
     iterate 3 refine z4y ?_
     refine zjg ?_;refine exA (.c (.bool (decide (((tblT t).δ ((ordO (tblT t).δ t.nc 0 (s.1*t.nc)).getD s.1 0) k.1)∈(ordO (tblT t).δ t.nc 0 (s.1*t.nc+k.1)))))) (as_b (by rw[←zbm hx.1];congr 1;omega)) ?_;refine z4y ?_;refine s_n K25 ?_;refine z04 (b:=_) rfl (fun h_t38=>?_) (fun h_t38=>?_)
     ·try simp only[dQ,reduceIte]at h_t38
      refine srR g0_ok fun _ K27=>?_
      iterate 3 refine z4y ?_
      refine sX0Uj_6 ?_;refine s_n K27 ?_;refine z01 g0_ok fun _ K28=>?_
      iterate 3 refine z4y ?_
      refine zjg ?_;intro cap3 hcap3;refine exI ?_;refine z4y ?_;refine s_n K28 ?_;refine z05 ?_;apply K21;refine z01 g0_ok fun _ K29=>?_
      iterate 2 refine z4y ?_
      refine s_n K29 ?_
      have hno:((tblT t).δ ((ordO (tblT t).δ t.nc 0 (s.1*t.nc)).getD s.1 0) k.1)∉(ordO (tblT t).δ t.nc 0 (s.1*t.nc+k.1)):=by simpa using h_t38
      rw[addC,if_neg hno]at hst
      have hS1:(seenB (ordO (tblT t).δ t.nc 0 (s.1*t.nc+k.1)) t.next.length).set (0+((((tblT t).δ ((ordO (tblT t).δ t.nc 0 (s.1*t.nc)).getD s.1 0) k.1):Nat):Int).toNat*1) true=seenB (ordO (tblT t).δ t.nc 0 (s.1*t.nc+(k.1+1))) t.next.length:=by rw[←Nat.add_assoc,hst, ←zg2];congr 1;omega
      have hS2:natsI (ordO (tblT t).δ t.nc 0 (s.1*t.nc+k.1))++([]++[((((tblT t).δ ((ordO (tblT t).δ t.nc 0 (s.1*t.nc)).getD s.1 0) k.1):Nat):Int)])=natsI (ordO (tblT t).δ t.nc 0 (s.1*t.nc+(k.1+1))):=by rw[←Nat.add_assoc,hst,List.nil_append,z39]
      have hL:(ordO (tblT t).δ t.nc 0 (s.1*t.nc+(k.1+1))).length=(ordO (tblT t).δ t.nc 0 (s.1*t.nc+k.1)).length+1:=by rw[←Nat.add_assoc,hst,List.length_append];rfl
      refine dnS [] (fun i=>if i=0 then 0 else 3) (k.1+1,cap3) ⟨⟨by show k.1+1≤_;omega,by show _≤cap3;rw[hL];omega⟩,by show _ - (k.1+1)< _;omega⟩ [0,3] ?_ ?_ ?_ ?_
      ·exact uUj_0
      ·exact uUj_0
      ·exact uUj_0
      ·exact uUj_0
     ·try simp only[dQ,reduceIte]at h_t38
      refine z09 ?_;refine z05 ?_;apply K21;refine z01 g0_ok fun _ K30=>?_
      iterate 2 refine z4y ?_
      refine s_n K30 ?_
      have hin:((tblT t).δ ((ordO (tblT t).δ t.nc 0 (s.1*t.nc)).getD s.1 0) k.1)∈(ordO (tblT t).δ t.nc 0 (s.1*t.nc+k.1)):=by simpa using h_t38
      rw[addC,if_pos hin]at hst;rw[←hst];rw[←hst]at hk2;refine dnS [] id (k.1+1,k.2) ⟨⟨by show k.1+1≤_;omega,hk2⟩,by show _ - (k.1+1)< _;omega⟩ [0,1] ?_ ?_ ?_ ?_
      ·exact uUj_0
      ·exact uUj_0
      ·exact uUj_0
      ·exact uUj_0
    ·try simp only[dQ,reduceIte]at h_t31
     refine z0i ?_;refine z00 ?_;refine z00 ?_;refine z0f ?_;refine z05 ?_;apply K15;refine z01 g0_ok fun _ K31=>?_
     iterate 3 refine z4y ?_
     refine s_n K31 ?_
     have hke:k.1=t.nc:=by omega
     have hpe:s.1*t.nc+k.1=(s.1+1)*t.nc:=by rw[hke,Nat.succ_mul]
     rw[hpe];rw[hpe]at hk2
     have hlen2:=z2k (f:=(tblT t).δ) (nc:=t.nc) (b0:=0) (p:=s.1*t.nc) (q:=(s.1+1)*t.nc) (Nat.mul_le_mul_right _ (by omega))
     have hah:∀ j,j< s.1+1→j< (ordO (tblT t).δ t.nc 0 (j*t.nc)).length:=fun j hj=>by
      rcases Nat.lt_or_ge j s.1 with h1|h1
      ·exact hs.2.1 j h1
      ·obtain rfl:j=s.1:=by omega
       exact hi
     refine dnS [] id (s.1+1,k.2) ⟨⟨by show s.1+1≤_;omega,hah,(by show s.1+1≤(ordO (tblT t).δ t.nc 0 ((s.1+1)*t.nc)).length;omega),hk2⟩,by show _ - (s.1+1)< _;omega⟩ [0,1] ?_ ?_ ?_ ?_
     ·exact uUj_0
     ·exact uUj_0
     ·exact uUj_0
     ·exact uUj_0
  ·try simp only[dQ,reduceIte]at h_t18
   refine z0i ?_;refine z00 ?_;refine z00 ?_;refine z0f ?_;apply K9
   have hcl2:=zbo (Tab.nc_pos hok) hs.2.1 (by omega)
   have hre:z36 (tblT t)=(ordO (tblT t).δ t.nc 0 (s.1*t.nc)):=by rw[z36,zgf (show z1t (tblT t).δ (tblT t).nc 0 s.1 from hcl2)];rfl
   refine srR g0_ok fun _ K33=>?_
   iterate 2 refine z4y ?_
   refine s_n K33 ?_
   try rw[hre]
   refine z0e (z0g g0_ok (fun _ _ h=>h) (by trivial) [1] [.tmp 2] rfl ?_)
   all_goals exact uUj_0


end Go.Proofs.YtppmnaoollkboaaDoor

namespace Go.Proofs.YtppmnaoollkboaaDoor
set_option linter.all false
open Go.Ab Go.RowKit

open Go.Aut
def mapE{κ:Type}(e:κ→SV)(ks:List κ):List (SV×SV):=ks.mapIdx fun i k=>(e k,.c (.int .i64 (i:Nat)))
theorem zgg{κ:Type}(e:κ→SV)(ks:List κ)(k:κ):mapE e ks++[(e k,.c (.int .i64 ((ks.length:Nat):Int)))]=mapE e (ks++[k]):=by
  rw[mapE,mapE,List.mapIdx_concat]
theorem zel{κ:Type}{e:κ→SV}{ks:List κ}{j:Nat}{x v:SV}(h:(mapE e ks)[j]? =some (x,v)):∃ k,ks[j]? =some k∧e k=x∧v= .c (.int .i64 (j:Nat)):=by
  rw[mapE,List.getElem?_mapIdx]at h
  cases hk:ks[j]? with
  |none=>rw[hk]at h;cases h
  | some k=>
    rw[hk]at h
    injection h with h
    injection h with h1 h2
    exact⟨k,rfl,h1,h2.symm⟩
theorem zc0{κ:Type}{e:κ→SV}{ks:List κ}{p:SV×SV}(h:p∈mapE e ks):∃ k i,k∈ks∧p=(e k,.c (.int .i64 (i:Nat))):=by
  obtain⟨j,hj⟩:=List.getElem?_of_mem h;obtain⟨k,hk,h1,h2⟩:=zel (x:=p.1) (v:=p.2) hj;exact⟨k,j,List.mem_of_getElem? hk,by rw[h1, ←h2]⟩
theorem zou{κ:Type}{e:κ→SV}{ks:List κ}{k:κ}(h:∀ p∈mapE e ks,p.1≠e k):k∉ks:=fun hk=>by
  obtain⟨j,hj,rfl⟩:=List.mem_iff_getElem.1 hk;refine h (e ks[j],.c (.int .i64 (j:Nat))) (List.mem_of_getElem? (i:=j) ?_) rfl;rw[mapE,List.getElem?_mapIdx,List.getElem?_eq_getElem hj];rfl
theorem z3i{κ:Type}{e:κ→SV}(he:∀ k,(e k).flat=true)(ks:List κ):∀ x∈mapE e ks,x.1.flat=true∧x.2.flat=true:=fun x hx=>by
  obtain⟨k,i,_,rfl⟩:=zc0 hx;exact⟨he k,rfl⟩
theorem z9t{κ:Type}{e:κ→SV}(he:∀ k,(e k).flat=true)(ks:List κ)(n:Nat):∀ x∈mapE e ks,x.1.low n∧x.2.low n:=fun x hx=>by
  obtain⟨k,i,_,rfl⟩:=zc0 hx;exact⟨SV.flat_low (he k),trivial⟩
abbrev kB(t:Tab)(bl:List Nat):Nat→Nat×List Nat:=keyB (tblT t) (blkF bl)
def eK(p:Nat×List Nat):SV:=.c (.str (encN (p.1::p.2)))
theorem zdb(p:Nat×List Nat):(eK p).flat=true:=rfl
def kbN(t:Tab)(bl:List Nat)(s m:Nat):List Nat:=blkF bl s::(List.range m).map fun c=>blkF bl ((tblT t).δ s c)
theorem kbN_succ(t:Tab)(bl:List Nat)(s m:Nat):encN (kbN t bl s m)++two ((blkF bl ((tblT t).δ s m):Nat):Int)=encN (kbN t bl s (m+1)):=by
  rw[zg3,kbN,kbN,List.range_succ,List.map_append];rfl
theorem zji(t:Tab)(bl:List Nat)(s m:Nat):(encN (kbN t bl s m)).length=2+2*m:=by
  rw[z9p,kbN,List.length_cons,List.length_map,List.length_range];omega
theorem zjj(t:Tab)(bl:List Nat)(s:Nat): .c (.str (encN (kbN t bl s t.nc)))=eK (kB t bl s):=rfl
theorem zov{bl:List Nat}(h:∀ x∈bl,x< 65536)(s:Nat):blkF bl s< 65536:=by
  rw[blkF,List.getD_eq_getElem?_getD]
  cases e:bl[s]? with
  |none=>show 0< 65536;decide
  |some x=>exact h x (List.mem_of_getElem? e)
theorem eK_inj{t:Tab}{bl:List Nat}(h:∀ x∈bl,x< 65536){s q:Nat}(e:eK (kB t bl s)=eK (kB t bl q)):kB t bl s=kB t bl q:=by
  have few:∀ s,∀ x∈kbN t bl s t.nc,x< 65536:=fun s x hx=>by
    rcases List.mem_cons.1 hx with rfl|hx
    · exact zov h s
    · obtain⟨c,_,rfl⟩:=List.mem_map.1 hx
      exact zov h _
  rw[←zjj, ←zjj]at e
  injection e with e
  injection e with e
  have:=zef (by simp[kbN]) (few s) (few q) e
  simp only[kbN,List.cons.injEq]at this
  exact Prod.ext this.1 this.2
theorem zwx{t:Tab}{bl l:List Nat}(h:∀ x∈bl,x< 65536){s j:Nat}{v:SV}(hj:(mapE eK (keysO (kB t bl) l))[j]? =some (.c (.str (encN (kbN t bl s t.nc))),v)):v= .c (.int .i64 ((idxK (keysO (kB t bl) l) (kB t bl s):Nat):Int))∧kB t bl s∈keysO (kB t bl) l:=by
  obtain⟨k,hk,e,rfl⟩:=zel hj;rw[zjj]at e;obtain⟨q,hq,rfl⟩:=(z1z l k).1 (List.mem_of_getElem? hk)
  have e2:=eK_inj h e
  rw[e2]at hk;exact⟨by rw[zd2 (z31 l) hk],List.mem_of_getElem? hk⟩
theorem map_no{t:Tab}{bl l:List Nat}{s:Nat}(hn:∀ p∈mapE eK (keysO (kB t bl) l),p.1≠ .c (.str (encN (kbN t bl s t.nc)))):kB t bl s∉keysO (kB t bl) l:=zou hn
theorem zwy(ks:List (Nat×List Nat)):∀ p∈mapE eK ks,keyS ty 9 p.1:=fun p hp=>by
  obtain⟨k,i,_,rfl⟩:=zc0 hp;exact rfl
theorem zm9(t:Tab)(bl:List Nat){l:List Nat}{j:Nat}(h:j< l.length):keysO (kB t bl) (l.take (j+1))=addK (keysO (kB t bl) (l.take j)) (kB t bl (l.getD j 0)):=by rw[z6c h,z38]
theorem zi1(t:Tab)(bl:List Nat){l:List Nat}{j:Nat}(h:j< l.length):z0k (kB t bl) (l.take (j+1))=if kB t bl (l.getD j 0)∈keysO (kB t bl) (l.take j)then z0k (kB t bl) (l.take j)else z0k (kB t bl) (l.take j)++[l.getD j 0]:=by rw[z6c h,z32];congr
theorem zwz(t:Tab)(bl:List Nat){l:List Nat}{j:Nat}(h:j< l.length):nextB (tblT t) l (blkF bl) (l.getD j 0)=idxK (keysO (kB t bl) (l.take (j+1))) (kB t bl (l.getD j 0)):=(z9o (by rw[z6c h];simp)).symm
theorem zx0(t:Tab)(bl:List Nat){l:List Nat}{j:Nat}(h:j< l.length)(hk:kB t bl (l.getD j 0)∈keysO (kB t bl) (l.take j)):
    keysO (kB t bl) (l.take (j+1))=keysO (kB t bl) (l.take j)∧z0k (kB t bl) (l.take (j+1))=z0k (kB t bl) (l.take j)∧nextB (tblT t) l (blkF bl) (l.getD j 0)=idxK (keysO (kB t bl) (l.take j)) (kB t bl (l.getD j 0)):=by
  have e:keysO (kB t bl) (l.take (j+1))=keysO (kB t bl) (l.take j):=by rw[zm9 t bl h,addK,if_pos hk]
  exact⟨e,by rw[zi1 t bl h,if_pos hk],by rw[zwz t bl h,e]⟩
theorem ref_no(t:Tab)(bl:List Nat){l:List Nat}{j:Nat}(h:j< l.length)(hk:kB t bl (l.getD j 0)∉keysO (kB t bl) (l.take j)):
    keysO (kB t bl) (l.take (j+1))=keysO (kB t bl) (l.take j)++[kB t bl (l.getD j 0)]∧z0k (kB t bl) (l.take (j+1))=z0k (kB t bl) (l.take j)++[l.getD j 0]∧nextB (tblT t) l (blkF bl) (l.getD j 0)=(z0k (kB t bl) (l.take j)).length:=by
  have e:keysO (kB t bl) (l.take (j+1))=keysO (kB t bl) (l.take j)++[kB t bl (l.getD j 0)]:=by rw[zm9 t bl h,addK,if_neg hk]
  exact⟨e,by rw[zi1 t bl h,if_neg hk],by rw[zwz t bl h,e,z87 hk,z25]⟩
def b0L(t:Tab)(l:List Nat)(j:Nat):List Nat:=(List.range t.next.length).map fun s=>if s∈l.take j∧t.acc.getD s false=true then 1 else 0
@[simp] theorem ztm(t:Tab)(l:List Nat)(j:Nat):(b0L t l j).length=t.next.length:=by simp[b0L]
theorem b0L_zero(t:Tab)(l:List Nat):natsI (b0L t l 0)=List.replicate t.next.length 0:=by
  have:b0L t l 0=List.replicate t.next.length 0:=by simp[b0L,List.map_const']
  rw[this];simp[natsI]
theorem b0L_no{t:Tab}{l:List Nat}{j:Nat}(h:j< l.length)(ha:t.acc.getD (l.getD j 0) false=false):b0L t l j=b0L t l (j+1):=by
  refine List.map_congr_left fun s hs=>?_;rw[z6c h]
  by_cases e:s=l.getD j 0
  · subst e
    rw[if_neg (fun h=>by rw[ha]at h;cases h.2),if_neg (fun h=>by rw[ha]at h;cases h.2)]
  · have:s∈l.take j++[l.getD j 0]↔s∈l.take j:=by
      rw[List.mem_append,List.mem_singleton];exact⟨fun h=>h.elim id fun h=>absurd h e,.inl⟩
    simp only[this]
theorem b0L_yes{t:Tab}{l:List Nat}{j:Nat}(h:j< l.length)(ha:t.acc.getD (l.getD j 0) false=true):(b0L t l j).set (l.getD j 0) 1=b0L t l (j+1):=by
  refine z1j 0 (by simp) fun s hs=>?_
  have hs:s< t.next.length:=by simpa using hs
  rw[z19 (by simpa using hs),b0L,b0L,z0j hs,z0j hs,z6c h]
  by_cases e:l.getD j 0=s
  · subst e
    rw[if_pos rfl,if_pos ⟨List.mem_append_right _ (List.mem_singleton.2 rfl),ha⟩]
  · rw[if_neg e]
    have:s∈l.take j++[l.getD j 0]↔s∈l.take j:=by
      rw[List.mem_append,List.mem_singleton];exact⟨fun h=>h.elim id fun h=>absurd h.symm e,.inl⟩
    simp only[this]
theorem z7t(l:List Nat)(i x:Nat):(natsI l).set i (x:Int)=natsI (l.set i x):=by rw[natsI,natsI,List.map_set];rfl
structure RefIn(t:Tab)(l:List Nat):Prop where
  lt:∀ s∈l,s< t.next.length
  len:l.length≤65535
  pos:0< l.length
  cl:∀ s c,s∈l→c< t.nc→(tblT t).δ s c∈l
theorem zgh{t:Tab}(h:t.fit):RefIn t (z36 (tblT t)):=by
  have h1:=ztk h.1
  have h2:=h.2.1
  exact⟨zww h.1,by omega,h1.2,fun s c hs hc=>z7m (t:=tblT t) (z6x h.1).1 s c hs hc⟩
theorem b0_blk{t:Tab}{l:List Nat}(h:RefIn t l):Blk (tblT t) l (b0L t l l.length) t.next.length 0:=
  zvj (by simp) (fun s hs=>by rw[b0L,z0j hs,List.take_length];rfl) h.lt

end Go.Proofs.YtppmnaoollkboaaDoor

namespace Go.Proofs.YtppmnaoollkboaaDoor
set_option linter.all false
open Go.Ab Go.RowKit

open Go.Aut
theorem zma {K K':Type} [DecidableEq K] [DecidableEq K'] {key:Nat→K} {key':Nat→K'} (l:List Nat) (h:∀ s q,s∈l→q∈l→(key s=key q↔key' s=key' q)):
    (keysO key l).length=(keysO key' l).length∧(∀ s,s∈l→idxK (keysO key l) (key s)=idxK (keysO key' l) (key' s))∧z0k key l=z0k key' l:=by
  induction l using snocR with
  |h0=>exact⟨rfl,fun s hs=>(by cases hs),rfl⟩
  | h1 l x ih=>
    obtain⟨h1,h2,h3⟩:=ih fun s q hs hq=>h s q (List.mem_append_left _ hs) (List.mem_append_left _ hq)
    have hx:x∈l++[x]:=by simp
    have hin:key x∈keysO key l↔key' x∈keysO key' l:=by
      rw[z1z,z1z];exact⟨fun⟨s,hs,e⟩=>⟨s,hs,(h s x (List.mem_append_left _ hs) hx).1 e⟩,fun⟨s,hs,e⟩=>⟨s,hs,(h s x (List.mem_append_left _ hs) hx).2 e⟩⟩
    by_cases hk:key x∈keysO key l
    · have hk':=hin.1 hk
      have e1:keysO key (l++[x])=keysO key l:=by rw[z38,addK,if_pos hk]
      have e2:keysO key' (l++[x])=keysO key' l:=by rw[z38,addK,if_pos hk']
      refine⟨by rw[e1,e2,h1],fun s hs=>?_,by rw[z32,z32,if_pos hk,if_pos hk',h3]⟩;rw[e1,e2]
      rcases List.mem_append.1 hs with hs|hs
      · exact h2 s hs
      · obtain rfl:=List.mem_singleton.1 hs
        obtain⟨q,hq,e⟩:=(z1z l _).1 hk;rw[←e, ←(h q s (List.mem_append_left _ hq) hx).1 e];exact h2 q hq
    · have hk':key' x∉keysO key' l:=fun hh=>hk (hin.2 hh)
      have e1:keysO key (l++[x])=keysO key l++[key x]:=by rw[z38,addK,if_neg hk]
      have e2:keysO key' (l++[x])=keysO key' l++[key' x]:=by rw[z38,addK,if_neg hk']
      refine⟨by rw[e1,e2,List.length_append,List.length_append,h1];rfl,fun s hs=>?_,by rw[z32,z32,if_neg hk,if_neg hk',h3]⟩;rw[e1,e2]
      by_cases hsl:s∈l
      · rw[z9n ((z1z l _).2 ⟨s,hsl,rfl⟩),z9n ((z1z l _).2 ⟨s,hsl,rfl⟩)]
        exact h2 s hsl
      · rcases List.mem_append.1 hs with hs|hs
        · exact absurd hs hsl
        · obtain rfl:=List.mem_singleton.1 hs
          rw[z87 hk,z87 hk',h1]
open Classical in
noncomputable def finL(t:Tab)(l:List Nat):List Nat:=(List.range t.next.length).map fun s=>if s∈l then idK (keyL (tblT t)) l s else 0
open Classical in
noncomputable def finR(t:Tab)(l:List Nat):List Nat:=z0k (keyL (tblT t)) l
theorem z6f(t:Tab)(l:List Nat):(finL t l).length=t.next.length:=by simp[finL]
open Classical in
theorem z90{t:Tab}{l:List Nat}(h:RefIn t l){s:Nat}(hs:s∈l):blkF (finL t l) s=idK (keyL (tblT t)) l s:=by
  rw[blkF,finL,z0j (h.lt s hs),if_pos hs]
theorem zao{t:Tbl}{l:List Nat}{block:Nat→Nat}(hcell:∀ b,b< 256→t.cell b< t.nc)(hcl:∀ s c,s∈l→c< t.nc→t.δ s c∈l)(hst:∀ s q,s∈l→q∈l→block s=block q→t.acc s=t.acc q∧∀ c,c< t.nc→block (t.δ s c)=block (t.δ q c)):
    ∀ (w:List Nat) (s q:Nat),Bytes w→s∈l→q∈l→block s=block q→t.lang s w=t.lang q w
  |[],s,q,_,hs,hq,e=>(hst s q hs hq e).1
  | b::w,s,q,hw,hs,hq,e=>by
    have hb:=hcell b (hw b List.mem_cons_self)
    exact zao hcell hcl hst w _ _ (fun x hx=>hw x (List.mem_cons_of_mem _ hx)) (hcl s _ hs hb) (hcl q _ hq hb) ((hst s q hs hq e).2 _ hb)
open Classical in
theorem zx1{t:Tab}(ht:t.fit){l:List Nat}(h:RefIn t l):BlkOut (tblT t) l (finL t l) (finR t l) t.next.length:=by
  have hlen:=h.len
  have hk:(finR t l).length=(keysO (keyL (tblT t)) l).length:=z25 l
  have hcell:∀ b,b< 256→(tblT t).cell b< (tblT t).nc:=fun b hb=>(cellN ht.1 hb).1
  refine⟨z6f t l,fun x hx=>?_,fun s hs=>by rw[z90 h hs,hk];exact z7l hs,fun i hi=>?_,fun s q hs hq e=>?_,fun s q hs hq hne=>?_⟩
  · obtain⟨s,hs,rfl⟩:=List.mem_map.1 hx
    split
    · rename_i hsl
      have h1:=z7l (key:=keyL (tblT t)) hsl
      have h2:=z2x (key:=keyL (tblT t)) l
      omega
    · decide
  · rw[hk]at hi
    obtain⟨s,hs,rfl⟩:=z5y (key:=keyL (tblT t)) (l:=l) hi;obtain⟨r,h1,h2,h3⟩:=z9l (key:=keyL (tblT t)) hs;rw[finR,z78 h1];exact⟨h3,by rw[z90 h h3];exact(z6q h3 hs).2 h2⟩
  · rw[z90 h hs,z90 h hq]at e
    have e1:=z77.1 ((z6q hs hq).1 e)
    refine⟨e1 [] Bytes.nil,fun c hc=>?_⟩;rw[z90 h (h.cl s c hs hc),z90 h (h.cl q c hq hc)];refine(z6q (h.cl s c hs hc) (h.cl q c hq hc)).2 (z77.2 fun w hw=>?_);obtain⟨b,hb,rfl⟩:=ht.1.byte c hc;exact e1 (b::w) (Bytes.cons hb hw)
  · rw[z90 h hs,z90 h hq]at hne
    have h1:keyL (tblT t) s≠keyL (tblT t) q:=fun e=>hne ((z6q hs hq).2 e)
    rw[Ne,z77]at h1;obtain⟨w,hw⟩:=Classical.not_forall.1 h1;exact⟨w,Classical.not_imp.1 hw⟩
open Classical in
theorem ref_fin{t:Tab}(ht:t.fit){l bl:List Nat}{c:Nat}(h:RefIn t l)(hb:Blk (tblT t) l bl t.next.length c)(hc:z2g (tblT t) l (blkF bl)=c):
    nxtL (tblT t) l bl l.length=finL t l∧z0k (kB t bl) l=finR t l:=by
  have hout:=zqs hb hc h.pos h.lt h.len h.cl ht.1.byte
  have hcell:∀ b,b< 256→(tblT t).cell b< (tblT t).nc:=fun b hb=>(cellN ht.1 hb).1
  have e:∀ s,s∈l→blkF (nxtL (tblT t) l bl l.length) s=nextB (tblT t) l (blkF bl) s:=fun s hs=>zj4 hs (by rw[hb.len];exact h.lt s hs)
  have key:∀ s q,s∈l→q∈l→(kB t bl s=kB t bl q↔keyL (tblT t) s=keyL (tblT t) q):=fun s q hs hq=>by
    rw[←z6q (key:=kB t bl) hs hq]
    have e1:idK (kB t bl) l s=blkF (nxtL (tblT t) l bl l.length) s:=(e s hs).symm
    have e2:idK (kB t bl) l q=blkF (nxtL (tblT t) l bl l.length) q:=(e q hq).symm
    rw[e1,e2]
    constructor
    · intro he
      exact z77.2 fun w hw=>zao hcell h.cl hout.stable w s q hw hs hq he
    · intro he
      refine Classical.byContradiction fun hne=>?_;obtain⟨w,hw,hd⟩:=hout.snd s q hs hq hne;exact hd (z77.1 he w hw)
  obtain⟨_,h2,h3⟩:=zma l key;refine⟨z1j 0 (by rw[z2l,z6f,hb.len]) fun s hs=>?_,h3⟩
  have hs:s< t.next.length:=by rw[z2l,hb.len]at hs;exact hs
  rw[zbp (by rw[hb.len];exact hs),finL,z0j hs,List.take_length]
  by_cases hsl:s∈l
  · rw[if_pos hsl,if_pos hsl];exact h2 s hsl
  · rw[if_neg hsl,if_neg hsl]

end Go.Proofs.YtppmnaoollkboaaDoor

namespace Go.Proofs.YtppmnaoollkboaaDoor
set_option linter.all false
open Go.Ab Go.RowKit

open Go.Aut
theorem zgi{l m:List UInt64}{off:Nat}{K:Cont→Prop}(h:off+m.length≤l.length)(hK:K (.u64s (l.take off++m++l.drop (off+m.length)))):(Cont.u64s l).splice off (.u64s m) K:=by
  unfold Cont.splice
  split
  · rename_i e
    obtain⟨rfl,e⟩:=e
    have e:l.length=m.length:=e
    rw[List.take_zero,List.nil_append,Nat.zero_add, ←e,List.drop_length,List.append_nil]at hK;exact hK
  · exact hK
theorem zjk{α:Type}{n i:Nat}{x d:α}(h:i< n):(List.replicate n x).getD i d=x:=by rw[List.getD_eq_getElem?_getD,List.getElem?_replicate,if_pos h];rfl
theorem ofW_one{b x:Nat}(hb:b< 256)(hx:x< 256):hasW (ofW [UInt8.ofNat b]) x=decide (x=b):=by
  have hbn:(UInt8.ofNat b).toNat=b:=UInt8.toNat_ofNat_of_lt' hb
  have h1:(UInt8.ofNat b / 64).toNat=b / 64:=by rw[UInt8.toNat_div,hbn];rfl
  have h2:(UInt8.ofNat b%64).toNat=b%64:=by rw[UInt8.toNat_mod,hbn];rfl
  show hasW (addW (List.replicate 4 0) (UInt8.ofNat b)) x=_
  rw[addW,h1,h2,hasW,z19 (by simp;omega),zjk (by omega),zjk (by omega)]
  by_cases e:b / 64=x / 64
  · rw[if_pos e]
    have:=zbw (b%64) (x%64)
    rw[zjb]at this;rw[show(0 ||| shl64 1 (b%64):UInt64)=shl64 1 (b%64) from UInt64.zero_or,this];rw[Bool.eq_iff_iff];simp;omega
  · rw[if_neg e]
    have:¬ x=b:=fun h=>e (by rw[h])
    simp[this]
def putC(cw:List UInt64)(j b:Nat):List UInt64:=cw.take (j*4)++zipC (fun x y=>x ||| y) ((cw.drop (j*4)).take 4) (ofW [UInt8.ofNat b])++cw.drop (j*4+4)
theorem putC_len{cw:List UInt64}{n j b:Nat}(h:cw.length=n*4)(hj:j< n):(putC cw j b).length=cw.length:=by
  simp only[putC,List.length_append,List.length_take,List.length_drop,z33]
  omega
theorem putC_bit{cw:List UInt64}{n j b i x:Nat}(h:cw.length=n*4)(hj:j< n)(hb:b< 256)(hi:i< n)(hx:x< 256):hasC (putC cw j b) i x=(hasC cw i x||(decide (i=j)&&decide (x=b))):=by
  have hz:(zipC (fun x y=>x ||| y) ((cw.drop (j*4)).take 4) (ofW [UInt8.ofNat b])).length=4:=z33 ..
  have hs:=z4d (l:=cw) (m:=zipC (fun x y=>x ||| y) ((cw.drop (j*4)).take 4) (ofW [UInt8.ofNat b])) (off:=j*4) (j:=i*4+x / 64) (d:=0) (by rw[hz];omega)
  rw[hz]at hs;rw[hasC,putC,hs]
  by_cases e:i=j
  · subst e
    rw[if_neg (by omega),if_pos (by omega),show i*4+x / 64 - i*4=x / 64 by omega,zek _ _ _ (by omega),UInt64.toNat_or,Nat.testBit_or]
    have h1:=zj3 (l:=cw) (k:=i) hx
    have h2:=ofW_one hb hx
    rw[hasW]at h2;rw[h1,h2];simp
  · rw[decide_eq_false e,Bool.false_and,Bool.or_false,hasC]
    by_cases e2:i< j
    · rw[if_pos (by omega)]
    · rw[if_neg (by omega),if_neg (by omega)]
theorem cw_put{t:Tbl}{block reps:Nat→Nat}{k:Nat}{cw:List UInt64}{n b:Nat}(h:Cw t block reps k cw n b)(hb:b< 256)(hj:ofC t block reps k (t.cell b)< n):Cw t block reps k (putC cw (ofC t block reps k (t.cell b)) b) n (b+1):=
  h.put (putC_len h.len hj) rfl hb fun i x hi hx=>putC_bit h.len hj hb hi hx
def eL(x:List Nat):SV:=.c (.str (encN x))
theorem zgj(x:List Nat):(eL x).flat=true:=rfl
theorem zx2(ks:List (List Nat)):∀ p∈mapE eL ks,keyS ty 9 p.1:=fun p hp=>by
  obtain⟨k,i,_,rfl⟩:=zc0 hp;exact rfl
def rpF(reps:List Nat)(i:Nat):Nat:=reps.getD i 0
def kcN(t:Tab)(bl reps:List Nat)(c j:Nat):List Nat:=(List.range j).map fun i=>blkF bl ((tblT t).δ (rpF reps i) c)
theorem kcN_succ(t:Tab)(bl reps:List Nat)(c j:Nat):encN (kcN t bl reps c j)++two ((blkF bl ((tblT t).δ (rpF reps j) c):Nat):Int)=encN (kcN t bl reps c (j+1)):=by
  rw[zg3,kcN,kcN,List.range_succ,List.map_append];rfl
theorem zjl(t:Tab)(bl reps:List Nat)(c j:Nat):(encN (kcN t bl reps c j)).length=2*j:=by rw[z9p,kcN,List.length_map,List.length_range]
abbrev kC(t:Tab)(bl reps:List Nat)(c:Nat):List Nat:=keyC (tblT t) (blkF bl) (rpF reps) reps.length c
abbrev mK(t:Tab)(bl reps:List Nat)(b:Nat):List (List Nat):=mks (tblT t) (blkF bl) (rpF reps) reps.length b
abbrev mC(t:Tab)(bl reps:List Nat)(b:Nat):List Nat:=mcs (tblT t) (blkF bl) (rpF reps) reps.length b
noncomputable abbrev mO(t:Tab)(bl reps:List Nat)(b:Nat):List Int:=mof (tblT t) (blkF bl) (rpF reps) reps.length b
abbrev oC(t:Tab)(bl reps:List Nat)(c:Nat):Nat:=ofC (tblT t) (blkF bl) (rpF reps) reps.length c
theorem zx3(t:Tab)(bl reps:List Nat)(c:Nat):SV.c (.str (encN (kcN t bl reps c reps.length)))=eL (kC t bl reps c):=rfl
theorem kc_few{t:Tab}{bl reps:List Nat}(h:∀ x∈bl,x< 65536)(c j:Nat):∀ x∈kcN t bl reps c j,x< 65536:=fun x hx=>by
  obtain⟨i,_,rfl⟩:=List.mem_map.1 hx;exact zov h _
theorem zr8{t:Tab}{bl reps:List Nat}(h:∀ x∈bl,x< 65536){b c j:Nat}{v:SV}(hj:(mapE eL (mK t bl reps b))[j]? =some (.c (.str (encN (kcN t bl reps c reps.length))),v)):v= .c (.int .i64 ((idxK (mK t bl reps b) (kC t bl reps c):Nat):Int))∧kC t bl reps c∈mK t bl reps b:=by
  obtain⟨k,hk,e,rfl⟩:=zel hj;obtain⟨q,hq,rfl⟩:=(z1z _ k).1 (List.mem_of_getElem? hk)
  have e2:kC t bl reps ((tblT t).cell q)=kC t bl reps c:=by
    rw[zx3]at e;unfold eL at e
    injection e with e
    injection e with e
    exact zef (by simp[keyBy,keyC]) (kc_few h _ _) (kc_few h _ _) e
  have e3:keyBy (tblT t) (blkF bl) (rpF reps) reps.length q=kC t bl reps c:=e2
  rw[e3]at hk
  have e4:idxK (mK t bl reps b) (kC t bl reps c)=j:=zd2 (z31 _) hk
  exact⟨by rw[e4],List.mem_of_getElem? hk⟩
theorem mmap_no{t:Tab}{bl reps:List Nat}{b c:Nat}(hn:∀ p∈mapE eL (mK t bl reps b),p.1≠ .c (.str (encN (kcN t bl reps c reps.length)))):kC t bl reps c∉mK t bl reps b:=zou hn
theorem met_in{t:Tbl}{block reps:Nat→Nat}{k b:Nat}(h:∃ a,a< b∧t.cell a=t.cell b):keyC t block reps k (t.cell b)∈mks t block reps k b:=by
  obtain⟨a,ha,e⟩:=h;exact zj6.2 ⟨a,ha,by rw[e]⟩
theorem mO_zero(t:Tab)(bl reps:List Nat):List.replicate t.nc (-1:Int)=mO t bl reps 0:=(mof_zero (t:=tblT t)).symm
theorem zx4(t:Tab)(bl reps:List Nat):mC t bl reps 0=[]:=rfl
theorem mC_zl(t:Tab)(bl reps:List Nat):(mC t bl reps 0).length≤0:=Nat.le_refl 0
theorem mC_cw(t:Tab)(bl reps:List Nat):Cw (tblT t) (blkF bl) (rpF reps) reps.length [] (mC t bl reps 0).length 0:=Cw.zero
theorem mK_zero(t:Tab)(bl reps:List Nat):([]:List (SV×SV))=mapE eL (mK t bl reps 0):=rfl
theorem kcN_zero(t:Tab)(bl reps:List Nat)(c:Nat):([]:List UInt8)=encN (kcN t bl reps c 0):=rfl
theorem mC_le(t:Tab)(bl reps:List Nat)(b:Nat):(mC t bl reps b).length≤b:=by
  rw[z3p];exact Nat.le_trans (z2x _) (by rw[List.length_range];exact Nat.le_refl _)
theorem zx5{n t:Nat}:SObj.low n (.mp t []):=fun x hx=>by cases hx
theorem zr9:∀ x∈([]:List (SV×SV)),x.1.flat=true∧x.2.flat=true:=fun x hx=>by cases hx
theorem z9u{t:Tbl}{l bl reps:List Nat}{N:Nat}(h:BlkOut t l bl reps N)(hl:∀ s∈l,s< N):reps.length≤N:=by
  have hn:((List.range reps.length).map (rpF reps)).Nodup:=by
    refine List.pairwise_map.2 (List.Pairwise.imp_of_mem ?_ (List.pairwise_lt_range (n:=reps.length)));intro a b ha hb hab e
    have h1:=(h.rep a (List.mem_range.1 ha)).2
    have h2:=(h.rep b (List.mem_range.1 hb)).2
    rw[rpF,rpF]at e;rw[e,h2]at h1
    omega
  have:=z6t hn fun x hx=>by
    obtain⟨i,hi,rfl⟩:=List.mem_map.1 hx;exact hl _ (h.rep i (List.mem_range.1 hi)).1
  simpa using this
def fillN(n:Nat)(v:Int)(k:Nat):List Int:=(List.range n).map fun i=>if i< k then v else 0
@[simp] theorem z4h(n:Nat)(v:Int)(k:Nat):(fillN n v k).length=n:=by simp[fillN]
theorem z7u(n:Nat)(v:Int):fillN n v 0=List.replicate n 0:=by simp[fillN,List.map_const']
theorem z91(n:Nat)(v:Int):fillN n v n=List.replicate n v:=by
  refine z1j 0 (by simp) fun i hi=>?_
  have hi:i< n:=by simpa using hi
  rw[fillN,z0j hi,if_pos hi,List.getD_eq_getElem?_getD,List.getElem?_replicate,if_pos hi];rfl
theorem z92{n:Nat}(v:Int){k:Nat}(h:k< n):(fillN n v k).set k v=fillN n v (k+1):=by
  refine z1j 0 (by simp) fun i hi=>?_
  have hi:i< n:=by simpa using hi
  rw[z19 (by simpa using hi),fillN,fillN,z0j hi,z0j hi]
  by_cases e:k=i
  · subst e;rw[if_pos rfl,if_pos (by omega)]
  · rw[if_neg e]
    by_cases h2:i< k
    · rw[if_pos h2,if_pos (by omega)]
    · rw[if_neg h2,if_neg (by omega)]

end Go.Proofs.YtppmnaoollkboaaDoor

namespace Go.Proofs.YtppmnaoollkboaaDoor
set_option linter.all false
open Go.Ab Go.RowKit

open Go.Aut
abbrev Stt:=Nat×Nat×UInt64
def encS(a:Stt):List Cell:=[.int .i64 (a.1:Nat),.int .i64 (a.2.1:Nat),.u64 a.2.2]
abbrev stV(a:Stt):SV:=.agg (.cells (encS a))
def okS(a:Stt):Prop:=a.1≤9223372036854775807∧a.2.1≤9223372036854775807
def stepF(g:Stt→Nat→Stt)(bytes:List Nat)(s:Stt)(k:Nat):Stt:=g s (bytes.getD k 0)
open Classical in
noncomputable def exN{S:Type}[DecidableEq S][Inhabited S](f:S→Nat→S)(nc:Nat)(b0:S):Nat:=if h:∃ n,Full f nc b0 n then Classical.choose h else 0
def zeroT:Tab:=⟨z0y,0,[],[]⟩
open Classical in
noncomputable def exR(g:Stt→Nat→Stt)(acc:Stt→Bool)(cell:List Int)(bytes:List Nat)(s0:Stt)(most:Nat):Tab×Bool:=if Big (stepF g bytes) bytes.length s0 most then(zeroT,false) else(tabQ (stepF g bytes) acc cell bytes.length s0 (exN (stepF g bytes) bytes.length s0),true)
end Go.Proofs.YtppmnaoollkboaaDoor
