/- Contracts of functions and plain facts, part 4. -/
import Derived.Test.YtegdcifghaldoaaDoorPb
import Derived.Test.YtegdcifghaldoaaDoorPc
set_option maxHeartbeats 1000000
set_option maxRecDepth 4000
namespace Go.Proofs.YtegdcifghaldoaaDoor
set_option linter.all false
open Go.Ab Go.RowKit

section
variable {a b:Prop}
theorem qUa0(h:a:=by first|exact vcA|(simp<;>omega)|exact vcB):a:=h
theorem qUa1(h:a:=by first|exact vcA|(simp[ha,hb]<;>omega)|exact vcB):a:=h
theorem qUa2(h:a:=by first|exact vcA|(simp[ha,hb]<;>omega)|(simp[ha,hb]<;>omega)|exact vcB):a:=h
theorem qUa3(h:a:=by first|exact vcA|(simp[ha]<;>omega)|exact vcB):a:=h
theorem uUa0(h:a:=by
    repeat' (first|exact trivial|refine aI ?_ ?_|exact cC0|refine low_cons' ?_ ?_|exact cC1|fail)
    all_goals first|omega|(show(_:List UInt64)=_;first|exact hst|(rw[hi1];exact hst)|rfl)|(simp[ha,hb];done)|(simp<;>omega)|exact z0q z04|skip):a:=h
end
def z30:List UInt8:=[0,1,56,2,57,49,28,3,61,58,42,50,38,29,17,4,62,47,59,36,45,43,51,22,53,39,33,30,24,18,12,5,63,55,48,27,60,41,37,16,46,35,44,21,52,32,23,11,54,26,40,15,34,20,31,10,25,14,19,9,13,8,7,6]
def gl:Nat→Option Cont:=fun g=>if g=1 then some (.u8s z30)else none
noncomputable def g0:Ctx:={ P:=Tryd.prog,ty:=ty,glob:=gl,fs:=[] }
theorem g0_ok:g0.OK:=⟨tyOK,trivial,mixed⟩
@[simp] theorem g0_ty:g0.ty=ty:=rfl
def eqS(q:QSpec):QSpec:=fun vs K=>∃ v,q vs (fun u=>u=v)∧K v
theorem flat_eq{f:FuncId}{q:QSpec}(h:z11 Tryd.prog gl f q):z11 Tryd.prog gl f (eqS q):=fun vs K ⟨v,hq,hK⟩=>by
  obtain⟨u,rfl,hf,hc⟩:=h vs _ hq;exact⟨_,hK,hf,hc⟩
def kAndS:QSpec:=fun vs K=>∃ x y:UInt64,vs=[.c (.u64 x),.c (.u64 y)]∧K (.c (.u64 (x &&& y)))
theorem kAnd_ok:z11 Tryd.prog gl 101 kAndS:=by
 refine z0v (Γ:=g0) (N:=8) Tryd.func101 rfl rfl fun vs K h=>?_;obtain⟨x,y,rfl,h⟩:=h;refine⟨_,h,rfl,by simp,fun w I=>?_⟩;refine seq_k fun _ K1=>?_;refine z06 g0_ok fun _ K2=>?_;refine sS1 ?_;refine s_n K2 ?_;apply K1;refine seq_k fun _ K3=>?_;refine z06 g0_ok fun _ K4=>?_
 iterate 2 refine sS1 ?_
 refine sS fun _ hS=>?_;(repeat refine aI qUa0 ?_);apply hS;clear hS;refine sS1 ?_;refine s_n K4 ?_;apply K3;refine z09 (z02 g0_ok (fun _ _ h=>h) (by first|rfl|assumption) [.tmp 4] rfl ?_)
 repeat refine aI (by first|omega|exact trivial|rfl|(simp<;>omega)) ?_
 try refine z0p (by first|omega|exact trivial|rfl|(simp<;>omega)) ?_
 show _=_
 rfl

def kOrS:QSpec:=fun vs K=>∃ x y:UInt64,vs=[.c (.u64 x),.c (.u64 y)]∧K (.c (.u64 (x ||| y)))
theorem kOr_ok:z11 Tryd.prog gl 102 kOrS:=by
 refine z0v (Γ:=g0) (N:=8) Tryd.func102 rfl rfl fun vs K h=>?_;obtain⟨x,y,rfl,h⟩:=h;refine⟨_,h,rfl,by simp,fun w I=>?_⟩;refine seq_k fun _ K1=>?_;refine z06 g0_ok fun _ K2=>?_;refine sS1 ?_;refine s_n K2 ?_;apply K1;refine seq_k fun _ K3=>?_;refine z06 g0_ok fun _ K4=>?_
 iterate 2 refine sS1 ?_
 refine sS fun _ hS=>?_;(repeat refine aI qUa0 ?_);apply hS;clear hS;refine sS1 ?_;refine s_n K4 ?_;apply K3;refine z09 (z02 g0_ok (fun _ _ h=>h) (by first|rfl|assumption) [.tmp 4] rfl ?_)
 repeat refine aI (by first|omega|exact trivial|rfl|(simp<;>omega)) ?_
 try refine z0p (by first|omega|exact trivial|rfl|(simp<;>omega)) ?_
 show _=_
 rfl

def kNotS:QSpec:=fun vs K=>∃ x y:UInt64,vs=[.c (.u64 x),.c (.u64 y)]∧K (.c (.u64 (~~~x)))
theorem kNot_ok:z11 Tryd.prog gl 103 kNotS:=by
 refine z0v (Γ:=g0) (N:=7) Tryd.func103 rfl rfl fun vs K h=>?_;obtain⟨x,y,rfl,h⟩:=h;refine⟨_,h,rfl,by simp,fun w I=>?_⟩;refine seq_k fun _ K1=>?_;refine z06 g0_ok fun _ K2=>?_;refine sS1 ?_;refine s_n K2 ?_;apply K1;refine seq_k fun _ K3=>?_;refine z06 g0_ok fun _ K4=>?_;refine sS1 ?_;refine sS fun _ hS=>?_;(repeat refine aI qUa0 ?_);apply hS;clear hS;refine sS1 ?_;refine s_n K4 ?_;apply K3;refine z09 (z02 g0_ok (fun _ _ h=>h) (by first|rfl|assumption) [.tmp 4] rfl ?_)
 repeat refine aI (by first|omega|exact trivial|rfl|(simp<;>omega)) ?_
 try refine z0p (by first|omega|exact trivial|rfl|(simp<;>omega)) ?_
 show _=_
 rfl

noncomputable def gK(f:FuncId)(q:QSpec):Ctx:={ P:=Tryd.prog,ty:=ty,glob:=gl,fs:=[(f,.flat (eqS q))] }
theorem gK_ok{f:FuncId}{q:QSpec}(he:z6p Tryd.prog f)(h:z11 Tryd.prog gl f q):(gK f q).OK:=⟨tyOK,⟨⟨he,flat_eq h⟩,trivial⟩,mixed⟩
@[simp] theorem gK_ty{f:FuncId}{q:QSpec}:(gK f q).ty=ty:=rfl
theorem gK_look{f:FuncId}{q:QSpec}:z3j (gK f q).fs f=some (.flat (eqS q)):=zeo (l:=[]) fun p hp=>by cases hp
def zipK(g:UInt64→UInt64→UInt64)(a b:List UInt64)(k:Nat):List UInt64:=(List.range 4).map fun i=>if i< k then g (a.getD i 0) (b.getD i 0)else 0
def zipC(g:UInt64→UInt64→UInt64)(a b:List UInt64):List UInt64:=zipK g a b 4
@[simp] theorem zgs(g:UInt64→UInt64→UInt64)(a b:List UInt64)(k:Nat):(zipK g a b k).length=4:=by simp[zipK]
@[simp] theorem zb3(g:UInt64→UInt64→UInt64)(a b:List UInt64):(zipC g a b).length=4:=zgs ..
theorem zmd(g:UInt64→UInt64→UInt64)(a b:List UInt64){k:Nat}(h:k< 4):(zipK g a b k).set k (g (a.getD k 0) (b.getD k 0))=zipK g a b (k+1):=by
  refine List.ext_getElem (by simp) fun i h1 h2=>?_;rw[List.getElem_set]
  simp only[zipK,List.getElem_map,List.getElem_range]
  by_cases e:k=i
  · subst e;rw[if_pos rfl,if_pos (by omega)]
  · rw[if_neg e]
    by_cases e2:i< k
    · rw[if_pos e2,if_pos (by omega)]
    · rw[if_neg e2,if_neg (by omega)]
def za0(f:FuncId)(q:QSpec):QSpec:=fun vs K=>∃ g:UInt64→UInt64→UInt64,∃ a b:List UInt64,vs=[.agg (.u64s a),.agg (.u64s b),.c (.clo f [])]∧(a.length=4∧b.length=4)∧(∀ x y,q [.c (.u64 x),.c (.u64 y)] (fun v=>v= .c (.u64 (g x y))))∧K (.agg (.u64s (zipC g a b)))
theorem z91{cf:FuncId}{cq:QSpec}(hen:z6p Tryd.prog cf)(hok:z11 Tryd.prog gl cf cq)(hlt:cf< 1000000:=by decide):z11 Tryd.prog gl 100 (za0 cf cq):=by
 refine z0v (Γ:=gK cf cq) (N:=24) Tryd.func100 rfl rfl fun vs K h=>?_;obtain⟨g,a,b,rfl,⟨ha,hb⟩,hcall,h⟩:=h;refine⟨_,h,rfl,by simp,fun w I=>?_⟩
 have hlook:=gK_look (f:=cf) (q:=cq)
 refine seq_k fun _ K1=>?_;refine z06 (gK_ok hen hok) fun _ K2=>?_;refine sS fun _ hS=>?_;(repeat refine aI qUa1 ?_);apply hS;clear hS;refine sS fun _ hS=>?_;(repeat refine aI qUa1 ?_);apply hS;clear hS;refine sS fun _ hS=>?_;(repeat refine aI qUa1 ?_);apply hS;clear hS;refine s_n K2 ?_;apply K1;refine seq_k fun _ K3=>?_;refine z06 (gK_ok hen hok) fun _ K4=>?_;refine sS fun _ hS=>?_;(repeat refine aI qUa1 ?_);apply hS;clear hS;refine s_n K4 ?_;apply K3;refine seq_k fun _ K5=>?_;refine seq_k fun _ K6=>?_;refine z06 (gK_ok hen hok) fun _ K7=>?_;refine sS1 ?_;refine s_n K7 ?_;apply K6;refine z0c ?_;refine z13 (α:=Nat) (fun k=>[(2,.c (.clo cf [])),(3,.c (.ptr 0 0)),(4,.c (.ptr 1 0)),(6,.c (.ptr 2 0)),(7,.c (.ptr 3 0)),(9,.c (.int .i64 k))]) (fun k=>[(0,.own 148 (.u64s a) 4),(1,.own 148 (.u64s b) 4),(2,.own 148 (.u64s (List.replicate 4 0)) 4),(3,.own 148 (.u64s (zipK g a b k)) 4)]) 4 (fun k=>k≤4) (fun k=>4 - k) ?_ ?_
 ·refine dnS [] id 0 (Nat.zero_le _) [0,1,2,3] ?_ ?_ ?_ ?_
  ·exact uUa0
  ·exact uUa0
  ·exact uUa0
  ·exact uUa0
 ·intro k hk
  refine seq_k fun _ K8=>?_;refine z06 (gK_ok hen hok) fun _ K9=>?_;refine sS fun _ hS=>?_;(repeat refine aI qUa1 ?_);apply hS;clear hS;refine s_n K9 ?_;apply K8;refine seq_k fun _ K10=>?_;refine z08 (b:=_) rfl (fun h_t10=>?_) (fun h_t10=>?_)
  ·try simp only[dQ,reduceIte]at h_t10
   refine z0g ?_;apply K10;refine seq_k fun _ K11=>?_;refine z0c ?_;refine seq_k fun _ K12=>?_;refine z06 (gK_ok hen hok) fun _ K13=>?_
   iterate 2 refine sS1 ?_
   refine s_n K13 ?_;apply K12
   have hk4:k< 4:=by omega
   have hst:=zmd g a b hk4
   have hi1:0+(k:Int).toNat*1=k:=by omega
   refine zgk (gK_ok hen hok) [(0,true),(1,true),(2,true),(3,true),(4,true),(5,true),(6,true),(7,true),(8,false),(9,true),(10,false)] rfl kQf kQf fun _ K14=>?_
   iterate 3 refine dD1 ?_
   refine dR fun _ hS=>?_;(repeat refine aI qUa2 ?_);apply hS;clear hS;refine dR fun _ hS=>?_;(repeat refine aI qUa2 ?_);(first|apply hS|(refine z0d qUa2 ?_;apply hS)|(refine z0e ?_;apply hS));clear hS;refine dD1 ?_;refine dR fun _ hS=>?_;(repeat refine aI qUa2 ?_);apply hS;clear hS;refine dR fun _ hS=>?_;(repeat refine aI qUa2 ?_);(first|apply hS|(refine z0d qUa2 ?_;apply hS)|(refine z0e ?_;apply hS));clear hS;refine dG fun _ hS=>?_;refine zly (xs:=[.u64 (a.getD (0+(k:Int).toNat*1) 0),.u64 (b.getD (0+(k:Int).toNat*1) 0)]) hlook (z0j zen (z0j zen z04)) z04 ?_;refine⟨_,hcall _ _,?_⟩;apply hS;clear hS;refine dR fun _ hS=>?_;(repeat refine aI qUa2 ?_);apply hS;clear hS;refine d_grow0 rfl rfl rfl fun _ hS=>?_
   repeat refine aI qUa2 ?_
   first|apply hS|(refine z0a qUa2 ?_;apply hS)
   clear hS;refine d_n K14 ?_;refine z0b ?_;apply K11;refine z06 (gK_ok hen hok) fun _ K15=>?_;refine sS fun _ hS=>?_;(repeat refine aI qUa1 ?_);apply hS;clear hS;refine sS1 ?_;refine s_n K15 ?_;refine dnS [] id (k+1) ⟨by omega,by omega⟩ [0,1,2,3] ?_ ?_ ?_ ?_
   ·exact uUa0
   ·exact uUa0
   ·exact uUa0
   ·exact uUa0
  ·try simp only[dQ,reduceIte]at h_t10
   refine z0z ?_;refine z03 ?_;refine z03 ?_;refine z0s ?_;apply K5;refine seq_k fun _ K16=>?_;refine z06 (gK_ok hen hok) fun _ K17=>?_;refine sS fun _ hS=>?_;(repeat refine aI qUa1 ?_);(first|apply hS|(refine z0d qUa1 ?_;apply hS)|(refine z0e ?_;apply hS));clear hS;refine sS0 fun _ hS=>?_;(repeat refine aI qUa1 ?_);(first|apply hS|(refine z0a qUa1 ?_;apply hS));clear hS;refine s_n K17 ?_;apply K16;refine z09 (z02 (gK_ok hen hok) (fun _ _ h=>h) (by first|rfl|assumption) [.cell 6 148] rfl ?_)
   repeat refine aI (by first|omega|exact trivial|rfl|(simp<;>omega)) ?_
   try refine z0p (by first|omega|exact trivial|rfl|(simp<;>omega)) ?_
   obtain rfl:k=4:=by omega
   rfl

noncomputable def zme:Ctx:={ P:=Tryd.prog,ty:=ty,glob:=gl,fs:=[(100,.flat (za0 101 kAndS))] }
theorem zb4:zme.OK:=⟨tyOK,⟨⟨z07 Tryd.func100 kQf rfl,z91 (z07 Tryd.func101 kQf rfl) kAnd_ok⟩,trivial⟩,mixed⟩
@[simp] theorem kinter_ty:zme.ty=ty:=rfl

def zmf:QSpec:=fun vs K=>∃ a b:List UInt64,vs=[.agg (.u64s a),.agg (.u64s b)]∧(a.length=4∧b.length=4)∧K (.agg (.u64s (zipC (fun x y=>x &&& y) a b)))
theorem zid:z11 Tryd.prog gl 85 zmf:=by
 refine z0v (Γ:=zme) (N:=8) Tryd.func85 rfl rfl fun vs K h=>?_;obtain⟨a,b,rfl,⟨ha,hb⟩,h⟩:=h;refine⟨_,h,rfl,by simp,fun w I=>?_⟩;refine seq_k fun _ K1=>?_;refine z06 zb4 fun _ K2=>?_;refine sS fun _ hS=>?_;(repeat refine aI qUa1 ?_);apply hS;clear hS;refine sS fun _ hS=>?_;(repeat refine aI qUa1 ?_);apply hS;clear hS;refine sS fun _ hS=>?_;(repeat refine aI qUa1 ?_);apply hS;clear hS;refine s_n K2 ?_;apply K1;refine seq_k fun _ K3=>?_;refine z06 zb4 fun _ K4=>?_;refine sS fun _ hS=>?_;(repeat refine aI qUa1 ?_);(first|apply hS|(refine z0d qUa1 ?_;apply hS)|(refine z0e ?_;apply hS));clear hS;refine sS fun _ hS=>?_;(repeat refine aI qUa1 ?_);(first|apply hS|(refine z0d qUa1 ?_;apply hS)|(refine z0e ?_;apply hS));clear hS;refine sS fun _ hS=>?_;(repeat first|refine aI qUa1 ?_|refine z0d qUa1 ?_|refine z0e ?_);refine⟨fun x y=>x &&& y,a,b,rfl,⟨ha,hb⟩,fun x y=>⟨x,y,rfl,rfl⟩,?_⟩;(repeat refine aI qUa1 ?_);(first|apply hS|(intro cap2 hcap2;apply hS));clear hS;refine sS0 fun _ hS=>?_;(repeat refine aI qUa1 ?_);(first|apply hS|(refine z0a qUa1 ?_;apply hS));clear hS;refine s_n K4 ?_;apply K3;refine z09 (z02 zb4 (fun _ _ h=>h) (by first|rfl|assumption) [.cell 4 148] rfl ?_)
 repeat refine aI (by first|omega|exact trivial|rfl|(simp<;>omega)) ?_
 try refine z0p (by first|omega|exact trivial|rfl|(simp<;>omega)) ?_
 show _=_
 rfl



noncomputable def zmg:Ctx:={ P:=Tryd.prog,ty:=ty,glob:=gl,fs:=[(100,.flat (za0 102 kOrS))] }
theorem zb5:zmg.OK:=⟨tyOK,⟨⟨z07 Tryd.func100 kQf rfl,z91 (z07 Tryd.func102 kQf rfl) kOr_ok⟩,trivial⟩,mixed⟩
@[simp] theorem kunion_ty:zmg.ty=ty:=rfl

def zmh:QSpec:=fun vs K=>∃ a b:List UInt64,vs=[.agg (.u64s a),.agg (.u64s b)]∧(a.length=4∧b.length=4)∧K (.agg (.u64s (zipC (fun x y=>x ||| y) a b)))
theorem zie:z11 Tryd.prog gl 86 zmh:=by
 refine z0v (Γ:=zmg) (N:=8) Tryd.func86 rfl rfl fun vs K h=>?_;obtain⟨a,b,rfl,⟨ha,hb⟩,h⟩:=h;refine⟨_,h,rfl,by simp,fun w I=>?_⟩;refine seq_k fun _ K1=>?_;refine z06 zb5 fun _ K2=>?_;refine sS fun _ hS=>?_;(repeat refine aI qUa1 ?_);apply hS;clear hS;refine sS fun _ hS=>?_;(repeat refine aI qUa1 ?_);apply hS;clear hS;refine sS fun _ hS=>?_;(repeat refine aI qUa1 ?_);apply hS;clear hS;refine s_n K2 ?_;apply K1;refine seq_k fun _ K3=>?_;refine z06 zb5 fun _ K4=>?_;refine sS fun _ hS=>?_;(repeat refine aI qUa1 ?_);(first|apply hS|(refine z0d qUa1 ?_;apply hS)|(refine z0e ?_;apply hS));clear hS;refine sS fun _ hS=>?_;(repeat refine aI qUa1 ?_);(first|apply hS|(refine z0d qUa1 ?_;apply hS)|(refine z0e ?_;apply hS));clear hS;refine sS fun _ hS=>?_;(repeat first|refine aI qUa1 ?_|refine z0d qUa1 ?_|refine z0e ?_);refine⟨fun x y=>x ||| y,a,b,rfl,⟨ha,hb⟩,fun x y=>⟨x,y,rfl,rfl⟩,?_⟩;(repeat refine aI qUa1 ?_);(first|apply hS|(intro cap2 hcap2;apply hS));clear hS;refine sS0 fun _ hS=>?_;(repeat refine aI qUa1 ?_);(first|apply hS|(refine z0a qUa1 ?_;apply hS));clear hS;refine s_n K4 ?_;apply K3;refine z09 (z02 zb5 (fun _ _ h=>h) (by first|rfl|assumption) [.cell 4 148] rfl ?_)
 repeat refine aI (by first|omega|exact trivial|rfl|(simp<;>omega)) ?_
 try refine z0p (by first|omega|exact trivial|rfl|(simp<;>omega)) ?_
 show _=_
 rfl



noncomputable def knotC:Ctx:={ P:=Tryd.prog,ty:=ty,glob:=gl,fs:=[(100,.flat (za0 103 kNotS))] }
theorem zd5:knotC.OK:=⟨tyOK,⟨⟨z07 Tryd.func100 kQf rfl,z91 (z07 Tryd.func103 kQf rfl) kNot_ok⟩,trivial⟩,mixed⟩
@[simp] theorem knotC_ty:knotC.ty=ty:=rfl

def notCS:QSpec:=fun vs K=>∃ a:List UInt64,vs=[.agg (.u64s a)]∧a.length=4∧K (.agg (.u64s (zipC (fun x _=> ~~~x) a a)))
theorem notC_ok:z11 Tryd.prog gl 87 notCS:=by
 refine z0v (Γ:=knotC) (N:=6) Tryd.func87 rfl rfl fun vs K h=>?_;obtain⟨a,rfl,ha,h⟩:=h;refine⟨_,h,rfl,by simp,fun w I=>?_⟩;refine seq_k fun _ K1=>?_;refine z06 zd5 fun _ K2=>?_;refine sS fun _ hS=>?_;(repeat refine aI qUa3 ?_);apply hS;clear hS;refine sS fun _ hS=>?_;(repeat refine aI qUa3 ?_);apply hS;clear hS;refine s_n K2 ?_;apply K1;refine seq_k fun _ K3=>?_;refine z06 zd5 fun _ K4=>?_;refine sS fun _ hS=>?_;(repeat refine aI qUa3 ?_);(first|apply hS|(refine z0d qUa3 ?_;apply hS)|(refine z0e ?_;apply hS));clear hS;refine sS fun _ hS=>?_;(repeat refine aI qUa3 ?_);(first|apply hS|(refine z0d qUa3 ?_;apply hS)|(refine z0e ?_;apply hS));clear hS;refine sS fun _ hS=>?_;(repeat first|refine aI qUa3 ?_|refine z0d qUa3 ?_|refine z0e ?_);refine⟨fun x _=> ~~~x,a,a,rfl,⟨ha,ha⟩,fun x y=>⟨x,y,rfl,rfl⟩,?_⟩;(repeat refine aI qUa3 ?_);(first|apply hS|(intro cap2 hcap2;apply hS));clear hS;refine sS0 fun _ hS=>?_;(repeat refine aI qUa3 ?_);(first|apply hS|(refine z0a qUa3 ?_;apply hS));clear hS;refine s_n K4 ?_;apply K3;refine z09 (z02 zd5 (fun _ _ h=>h) (by first|rfl|assumption) [.cell 2 148] rfl ?_)
 repeat refine aI (by first|omega|exact trivial|rfl|(simp<;>omega)) ?_
 try refine z0p (by first|omega|exact trivial|rfl|(simp<;>omega)) ?_
 show _=_
 rfl


end Go.Proofs.YtegdcifghaldoaaDoor

namespace Go.Proofs.YtegdcifghaldoaaDoor
set_option linter.all false
open Go.Ab Go.RowKit

section
variable {a b:Prop}
theorem qUb0(h:a:=by first|exact vcA|(simp[hw1]<;>omega)|exact vcB):a:=h
theorem qUb1(h:a:=by first|exact vcA|(simp[hw1,hcl,hw1]<;>omega)|(simp<;>omega)|exact vcB):a:=h
theorem qUb2(h:a:=by first|exact vcA|(simp[hw1,hcl]<;>omega)|(show(clsAt d.cls k).length=4;exact hcl)|exact hcl|exact vcB):a:=h
theorem qUb3(h:a:=by first|exact vcA|(simp[hw1]<;>omega)|(simp<;>omega)|exact vcB):a:=h
theorem uUb_0(h:a:=by
    repeat' (first|exact trivial|refine aI ?_ ?_|exact cC0|refine low_cons' ?_ ?_|exact cC1|fail)
    all_goals first|omega|exact zd6 _|exact low_cons' trivial (low_cons' trivial (low_cons' trivial low_nil'))|(show(_:List UInt64)=_;rfl)|(simp[hcl];done)|(simp<;>omega)|skip):a:=h
theorem DUb_0(kZ:b)(h:HidB b→a:=by intro kZ;(repeat first|refine aI qUb0 ?_|refine z0d qUb0 ?_|refine z0a qUb0 ?_|refine z0p qUb0 ?_|refine z0e ?_);exact kZ.out):a:=h ⟨kZ⟩
theorem z1d(kZ:b)(h:HidB b→a:=by intro kZ;refine sX ?_;refine DUb_0 ?_;refine exI ?_;exact kZ.out):a:=h ⟨kZ⟩
theorem zb6(kZ:b)(h:HidB b→a:=by intro kZ;refine sXT ?_;refine DUb_0 ?_;refine exI ?_;exact kZ.out):a:=h ⟨kZ⟩
theorem DUb_3(kZ:b)(h:HidB b→a:=by intro kZ;(repeat first|refine aI qUb1 ?_|refine z0d qUb1 ?_|refine z0a qUb1 ?_|refine z0p qUb1 ?_|refine z0e ?_);exact kZ.out):a:=h ⟨kZ⟩
theorem sXUb_4(kZ:b)(h:HidB b→a:=by intro kZ;refine sX ?_;refine DUb_3 ?_;refine exI ?_;exact kZ.out):a:=h ⟨kZ⟩
theorem sX0Ub_5(kZ:b)(h:HidB b→a:=by intro kZ;refine sX0 ?_;refine DUb_3 ?_;refine exI ?_;exact kZ.out):a:=h ⟨kZ⟩
theorem DUb_6(kZ:b)(h:HidB b→a:=by intro kZ;(repeat first|refine aI qUb2 ?_|refine z0d qUb2 ?_|refine z0a qUb2 ?_|refine z0p qUb2 ?_|refine z0e ?_);exact kZ.out):a:=h ⟨kZ⟩
theorem zmi(kZ:b)(h:HidB b→a:=by intro kZ;refine sX ?_;refine DUb_6 ?_;refine exI ?_;exact kZ.out):a:=h ⟨kZ⟩
theorem zmj(kZ:b)(h:HidB b→a:=by intro kZ;refine sXT ?_;refine DUb_6 ?_;refine exI ?_;exact kZ.out):a:=h ⟨kZ⟩
theorem DUb_9(kZ:b)(h:HidB b→a:=by intro kZ;(repeat first|refine aI qUb3 ?_|refine z0d qUb3 ?_|refine z0a qUb3 ?_|refine z0p qUb3 ?_|refine z0e ?_);exact kZ.out):a:=h ⟨kZ⟩
theorem zgt(kZ:b)(h:HidB b→a:=by intro kZ;refine sX ?_;refine DUb_9 ?_;refine exI ?_;exact kZ.out):a:=h ⟨kZ⟩
theorem sX0Ub_11(kZ:b)(h:HidB b→a:=by intro kZ;refine sX0 ?_;refine DUb_9 ?_;refine exI ?_;exact kZ.out):a:=h ⟨kZ⟩
theorem z3a(kZ:b)(h:HidB b→a:=by intro kZ;refine sX ?_;refine DUb_0 ?_;exact kZ.out):a:=h ⟨kZ⟩
theorem sXEUb_13(kZ:b)(h:HidB b→a:=by intro kZ;refine sX ?_;refine DUb_6 ?_;exact kZ.out):a:=h ⟨kZ⟩
theorem zmk(kZ:b)(h:HidB b→a:=by intro kZ;refine sXT ?_;refine DUb_6 ?_;exact kZ.out):a:=h ⟨kZ⟩
theorem zif(kZ:b)(h:HidB b→a:=by intro kZ;refine sX ?_;refine DUb_9 ?_;exact kZ.out):a:=h ⟨kZ⟩
end
open Go.Aut
def rowsC(l:List (List Int)):List Cell:=l.map fun r=>.ds r.length (.ints .i64 r)
abbrev dfaC(d:Dfa):Cont:=.cells [.ds d.nc (.u64s d.cls),.ds d.next.length (.cells (rowsC d.next)),.ds d.acc.length (.bools d.acc)]
abbrev dfaV(d:Dfa):SV:=.agg (dfaC d)
def _root_.Go.Aut.Dfa.wf(d:Dfa):Prop:=d.cls.length=d.nc*4∧d.nc≤9223372036854775807∧d.next.length≤9223372036854775807∧d.acc.length≤9223372036854775807∧∀ r∈d.next,r.length≤9223372036854775807
@[simp] theorem z1e(l:List (List Int)):(rowsC l).length=l.length:=by simp[rowsC]
theorem zig{l:List (List Int)}{i:Nat}(h:i< l.length):(Cont.cells (rowsC l)).get i= .ds (l.getD i []).length (.ints .i64 (l.getD i [])):=by
  simp[Cont.get,rowsC,List.getD_eq_getElem?_getD,h]
theorem zd6{n:Nat}(l:List (List Int)):(Cont.cells (rowsC l)).low n:=fun x hx=>by
  obtain⟨r,_,rfl⟩:=List.mem_map.1 hx;exact trivial
theorem zml(l:List (List Int)):allD (rowsC l):=by
  induction l with
  |nil=>trivial
  |cons r l ih=>exact⟨trivial,ih⟩
abbrev Z4:List UInt64:=List.replicate 4 0
def clsAt(l:List UInt64)(i:Nat):List UInt64:=(l.drop (i*4)).take 4
theorem z49{l:List UInt64}{n i:Nat}(h:l.length=n*4)(hi:i< n):(clsAt l i).length=4:=by simp[clsAt];omega
def orC(a b:List UInt64):List UInt64:=zipC (fun x y=>x ||| y) a b
def andC(a b:List UInt64):List UInt64:=zipC (fun x y=>x &&& y) a b
def notK(a:List UInt64):List UInt64:=zipC (fun x _=> ~~~x) a a
def seenL(l:List UInt64):Nat→List UInt64
  |0=>Z4
  |k+1=>orC (seenL l k) (clsAt l k)
@[simp] theorem z3f(l:List UInt64):∀ k,(seenL l k).length=4
  |0=>rfl
  |k+1=>zb3 ..
def z24(l:List UInt64)(k:Nat):Bool:= !decide (clsAt l k=Z4)&&decide (andC (seenL l k) (clsAt l k)=Z4)
def clsP(l:List UInt64)(nc:Nat):Bool:=(List.range nc).all (z24 l)&&decide (notK (seenL l nc)=Z4)
def tgtOK(n:Nat)(t:Int):Bool:=decide (0≤t)&&decide (t< n)
def rowOK(nc n:Nat)(r:List Int):Bool:=decide (r.length=nc)&&r.all (tgtOK n)
def z3g(d:Dfa):Bool:=decide (1≤d.next.length∧d.next.length≤64∧d.acc.length=d.next.length∧1≤d.nc∧d.nc≤256)&&clsP d.cls d.nc&&d.next.all (rowOK d.nc d.next.length)
theorem z8a{α:Type}{p:α→Bool}{l:List α}{k:Nat}{d:α}(h:k< l.length)(h1:(l.take k).all p=true)(h2:p (l.getD k d)=true):(l.take (k+1)).all p=true:=by
  rw[List.take_add_one,List.all_append,h1,List.getElem?_eq_getElem h];rw[List.getD_eq_getElem?_getD,List.getElem?_eq_getElem h]at h2
  simpa using h2
theorem zf0{α:Type}{p:α→Bool}{l:List α}{k:Nat}{d:α}(h:k< l.length)(h2:p (l.getD k d)=false):l.all p=false:=by
  rw[List.getD_eq_getElem?_getD,List.getElem?_eq_getElem h]at h2;rw[List.all_eq_false];exact⟨l[k],List.getElem_mem h,by simpa using h2⟩
theorem z2m{p:Nat→Bool}{k:Nat}(h1:(List.range k).all p=true)(h2:p k=true):(List.range (k+1)).all p=true:=by
  rw[List.range_succ,List.all_append,h1];simpa using h2
theorem z2v{p:Nat→Bool}{k n:Nat}(h:k< n)(h2:p k=false):(List.range n).all p=false:=by
  rw[List.all_eq_false];exact⟨k,List.mem_range.2 h,by simpa using h2⟩
noncomputable def m1:Ctx:={ P:=Tryd.prog,ty:=ty,glob:=gl,fs:=[(85,.flat zmf),(86,.flat zmh),(87,.flat notCS)] }
theorem m1_ok:m1.OK:=⟨tyOK,⟨⟨z07 Tryd.func85 kQf rfl,zid⟩,⟨z07 Tryd.func86 kQf rfl,zie⟩,⟨z07 Tryd.func87 kQf rfl,notC_ok⟩,trivial⟩,mixed⟩
@[simp] theorem m1_ty:m1.ty=ty:=rfl

def zgu:QSpec:=fun vs K=>∃ d:Dfa,vs=[dfaV d]∧d.wf∧K (.c (.bool (z3g d)))
theorem zf1 : z11 Tryd.prog gl 58 zgu:=by
 refine z0v (Γ:=m1) (N:=92) Tryd.func58 rfl rfl fun vs K h=>?_;obtain⟨d,rfl,⟨hw1,hw2,hw3,hw4,hw5⟩,h⟩:=h;refine⟨_,h,rfl,by simp,fun w I=>?_⟩;refine srR m1_ok fun _ K2=>?_
 iterate 2 refine z1d ?_
 refine s_n K2 ?_;refine srR m1_ok fun _ K4=>?_
 iterate 4 refine z1d ?_
 refine s_n K4 ?_;refine seq_k fun _ K5=>?_;refine srR m1_ok fun _ K7=>?_
 iterate 2 refine z1d ?_
 refine z3a ?_;refine exB (fun hb2=>?_) (fun hb2=>?_)
 ·try simp only[dQ,reduceIte]at hb2
  iterate 2 refine sN ?_
  refine z1d ?_;refine z3a ?_;refine exB (fun hb6=>?_) (fun hb6=>?_)
  rotate_left 1
  ·exfalso;simp at hb6
  iterate 5 refine sN ?_
  refine z1d ?_;refine z3a ?_;refine exB (fun hb13=>?_) (fun hb13=>?_)
  rotate_left 1
  ·exfalso;simp at hb13
  iterate 4 refine sN ?_
  refine z1d ?_;refine z3a ?_;refine exB (fun hb19=>?_) (fun hb19=>?_)
  rotate_left 1
  ·exfalso;simp at hb19
  iterate 4 refine sN ?_
  refine z1d ?_;refine s_n K7 ?_;refine z08 (b:=_) rfl (fun _=>?_) (fun h_t38=>?_)
  rotate_left 1
  ·exfalso;simp at h_t38
  refine srR m1_ok fun _ K9=>?_;refine z1d ?_;refine s_n K9 ?_;refine z09 (z02 m1_ok (fun _ _ h=>h) (by first|rfl|assumption) [.tmp 2] rfl ?_);refine rtD ?_
  show SV.c (.bool false)=_
  rw[z3g,decide_eq_false (fun hh=>by omega),Bool.false_and,Bool.false_and]
 ·try simp only [dQ,reduceIte]at hb2
  iterate 2 refine zb6 ?_
  refine z1d ?_;refine z3a ?_;refine exB (fun hb6=>?_) (fun hb6=>?_)
  ·try simp only[dQ,reduceIte]at hb6
   iterate 5 refine sN ?_
   refine z1d ?_;refine z3a ?_;refine exB (fun hb13=>?_) (fun hb13=>?_)
   rotate_left 1
   ·exfalso;simp at hb13
   iterate 4 refine sN ?_
   refine z1d ?_;refine z3a ?_;refine exB (fun hb19=>?_) (fun hb19=>?_)
   rotate_left 1
   ·exfalso;simp at hb19
   iterate 4 refine sN ?_
   refine z1d ?_;refine s_n K7 ?_;refine z08 (b:=_) rfl (fun _=>?_) (fun h_t38=>?_)
   rotate_left 1
   ·exfalso;simp at h_t38
   refine srR m1_ok fun _ K11=>?_;refine z1d ?_;refine s_n K11 ?_;refine z09 (z02 m1_ok (fun _ _ h=>h) (by first|rfl|assumption) [.tmp 2] rfl ?_);refine rtD ?_
   show SV.c (.bool false)=_
   rw[z3g,decide_eq_false (fun hh=>by omega),Bool.false_and,Bool.false_and]
  ·try simp only [dQ,reduceIte]at hb6
   iterate 5 refine zb6 ?_
   refine z1d ?_;refine z3a ?_;refine exB (fun hb13=>?_) (fun hb13=>?_)
   ·try simp only[dQ,reduceIte]at hb13
    iterate 4 refine sN ?_
    refine z1d ?_;refine z3a ?_;refine exB (fun hb19=>?_) (fun hb19=>?_)
    rotate_left 1
    ·exfalso;simp at hb19
    iterate 4 refine sN ?_
    refine z1d ?_;refine s_n K7 ?_;refine z08 (b:=_) rfl (fun _=>?_) (fun h_t38=>?_)
    rotate_left 1
    ·exfalso;simp at h_t38
    refine srR m1_ok fun _ K13=>?_;refine z1d ?_;refine s_n K13 ?_;refine z09 (z02 m1_ok (fun _ _ h=>h) (by first|rfl|assumption) [.tmp 2] rfl ?_);refine rtD ?_
    show SV.c (.bool false)=_
    rw[z3g,decide_eq_false (fun hh=>by omega),Bool.false_and,Bool.false_and]
   ·try simp only[dQ,reduceIte]at hb13
    iterate 4 refine zb6 ?_
    refine z1d ?_;refine z3a ?_;refine exB (fun hb19=>?_) (fun hb19=>?_)
    ·try simp only[dQ,reduceIte]at hb19
     iterate 4 refine sN ?_
     refine z1d ?_;refine s_n K7 ?_;refine z08 (b:=_) rfl (fun _=>?_) (fun h_t38=>?_)
     rotate_left 1
     ·exfalso;simp at h_t38
     refine srR m1_ok fun _ K15=>?_;refine z1d ?_;refine s_n K15 ?_;refine z09 (z02 m1_ok (fun _ _ h=>h) (by first|rfl|assumption) [.tmp 2] rfl ?_);refine rtD ?_
     show SV.c (.bool false)=_
     rw[z3g,decide_eq_false (fun hh=>by omega),Bool.false_and,Bool.false_and]
    ·try simp only[dQ,reduceIte]at hb19
     iterate 4 refine zb6 ?_
     refine z1d ?_;refine s_n K7 ?_;refine z08 (b:=_) rfl (fun h_t38=>?_) (fun h_t38=>?_)
     ·try simp only[dQ,reduceIte]at h_t38
      refine srR m1_ok fun _ K17=>?_;refine z1d ?_;refine s_n K17 ?_;refine z09 (z02 m1_ok (fun _ _ h=>h) (by first|rfl|assumption) [.tmp 2] rfl ?_);refine rtD ?_
      show SV.c (.bool false)=_
      rw[z3g,decide_eq_false (fun hh=>by omega),Bool.false_and,Bool.false_and]
     ·try simp only[dQ,reduceIte]at h_t38
      refine z0g ?_;apply K5;refine srR m1_ok fun _ K19=>?_;refine z1d ?_;refine s_n K19 ?_;refine seq_k fun _ K20=>?_
      have hbase:1≤d.next.length∧d.next.length≤64∧d.acc.length=d.next.length∧1≤d.nc∧d.nc≤256:=by omega
      refine srR m1_ok fun _ K22=>?_
      iterate 4 refine z1d ?_
      refine s_n K22 ?_;refine z0c ?_;refine z13 (α:=Nat) (fun k=>[(1,.c (.ptr 0 0)),(3,.c (.int .i64 d.next.length)),(4,.c (.ptr 1 0)),(40,.c (.ds d.nc (.u64s d.cls))),(41,.c (.int .i64 d.nc)),(42,.c (.int .i64 k))]) (fun k=>[(0,.own 65 (dfaC d) 3),(1,.own 148 (.u64s (seenL d.cls k)) 4)]) 2 (fun k=>k≤d.nc∧(List.range k).all (z24 d.cls)=true) (fun k=>d.nc - k) ?_ ?_
      ·refine dnS [] id 0 ⟨Nat.zero_le _,rfl⟩ [0,1] uUb_0 uUb_0 uUb_0 uUb_0
      ·intro k hk
       refine srR m1_ok fun _ K24=>?_;refine z1d ?_;refine s_n K24 ?_;refine seq_k fun _ K25=>?_;refine z08 (b:=_) rfl (fun h_t43=>?_) (fun h_t43=>?_)
       ·try simp only[dQ,reduceIte]at h_t43
        refine z0g ?_;apply K25;refine seq_k fun _ K26=>?_;refine z0c ?_
        have hkn:k< d.nc:=by omega
        have hcl:=z49 hw1 hkn
        have hsub:(Cont.u64s d.cls).sub ((k:Int).toNat*4) (4*1)= .u64s (clsAt d.cls k):=rfl
        refine srR m1_ok fun _ K28=>?_;refine sXUb_4 ?_;refine sX ?_;refine aI (by decide) ?_;refine aI (by simp only[zi2];omega) ?_;refine z0e ?_;rw[hsub];refine exI ?_;refine sXUb_4 ?_;refine sX0Ub_5 ?_;refine s_n K28 ?_;refine seq_k fun _ K29=>?_;refine srR m1_ok fun _ K31=>?_
        iterate 3 refine zmi ?_
        refine sXEUb_13 ?_;refine exB (fun hb3=>?_) (fun hb3=>?_)
        ·try simp only[dQ,reduceIte]at hb3
         iterate 5 refine sN ?_
         refine zmi ?_;refine s_n K31 ?_;refine z08 (b:=_) rfl (fun _=>?_) (fun h_t55=>?_)
         rotate_left 1
         ·exfalso;simp at h_t55
         have hng:z24 d.cls k=false:=by
          first|(rw[z24,decide_eq_true (show clsAt d.cls k=Z4 from hb3)];rfl)|(rw[z24,decide_eq_false (show ¬ andC (seenL d.cls k) (clsAt d.cls k)=Z4 from h_t55),Bool.and_false])
         refine srR m1_ok fun _ K33=>?_;refine z1d ?_;refine s_n K33 ?_;refine z09 (z02 m1_ok (fun _ _ h=>h) (by first|rfl|assumption) [.tmp 2] rfl ?_);refine rtD ?_
         show SV.c (.bool false)=_
         rw[z3g,clsP,z2v hkn hng,Bool.false_and,Bool.and_false,Bool.false_and]
        ·try simp only[dQ,reduceIte]at hb3
         iterate 2 refine zmj ?_
         refine zmk ?_;refine⟨seenL d.cls k,clsAt d.cls k,rfl,⟨z3f _ _,hcl⟩,?_⟩;refine DUb_6 ?_
         first|refine exI ?_|(intro cap6 hcap6;refine exI ?_)
         iterate 2 refine zmj ?_
         refine zmi ?_;refine s_n K31 ?_;refine z08 (b:=_) rfl (fun h_t55=>?_) (fun h_t55=>?_)
         ·try simp only[dQ,reduceIte]at h_t55
          have hng:z24 d.cls k=false:=by
           first|(rw[z24,decide_eq_true (show clsAt d.cls k=Z4 from hb3)];rfl)|(rw[z24,decide_eq_false (show ¬ andC (seenL d.cls k) (clsAt d.cls k)=Z4 from h_t55),Bool.and_false])
          refine srR m1_ok fun _ K35=>?_;refine z1d ?_;refine s_n K35 ?_;refine z09 (z02 m1_ok (fun _ _ h=>h) (by first|rfl|assumption) [.tmp 2] rfl ?_);refine rtD ?_
          show SV.c (.bool false)=_
          rw[z3g,clsP,z2v hkn hng,Bool.false_and,Bool.and_false,Bool.false_and]
         ·try simp only[dQ,reduceIte]at h_t55
          refine z0g ?_;apply K29
          have hgood:z24 d.cls k=true:=by simp only[z24];simp[hb3];exact h_t55
          refine z06 m1_ok fun _ K36=>?_
          iterate 2 refine zgt ?_
          refine zif ?_;refine⟨seenL d.cls k,clsAt d.cls k,rfl,⟨z3f _ _,hcl⟩,?_⟩;refine DUb_9 ?_
          first|refine exI ?_|(intro cap2 hcap2;refine exI ?_)
          refine sX0Ub_11 ?_;refine s_n K36 ?_;refine z0b ?_;apply K26;refine z06 m1_ok fun _ K37=>?_
          iterate 2 refine z1d ?_
          refine s_n K37 ?_;refine dnS [] id (k+1) ⟨⟨by omega,z2m hk.2 hgood⟩,by omega⟩ [0,1] uUb_0 uUb_0 uUb_0 uUb_0
       ·try simp only[dQ,reduceIte]at h_t43
        refine z0z ?_;refine z03 ?_;refine z03 ?_;refine z0s ?_;apply K20;refine seq_k fun _ K38=>?_
        obtain rfl:k=d.nc:=by omega
        have hclsall:=hk.2
        refine srR m1_ok fun _ K40=>?_;refine z1d ?_;refine z3a ?_;refine⟨seenL d.cls d.nc,rfl,z3f _ _,?_⟩;refine DUb_0 ?_
        first|refine exI ?_|(intro cap1 hcap1;refine exI ?_)
        iterate 2 refine z1d ?_
        refine s_n K40 ?_;refine z08 (b:=_) rfl (fun h_t63=>?_) (fun h_t63=>?_)
        ·try simp only[dQ,reduceIte]at h_t63
         refine srR m1_ok fun _ K42=>?_;refine z1d ?_;refine s_n K42 ?_;refine z09 (z02 m1_ok (fun _ _ h=>h) (by first|rfl|assumption) [.tmp 2] rfl ?_);refine rtD ?_
         show SV.c (.bool false)=_
         have h63:¬ notK (seenL d.cls d.nc)=Z4:=h_t63
         rw[z3g,clsP,decide_eq_false h63,Bool.and_false,Bool.and_false,Bool.false_and]
        ·try simp only[dQ,reduceIte]at h_t63
         refine z0g ?_;apply K38;refine seq_k fun _ K43=>?_;refine srR m1_ok fun _ K45=>?_
         iterate 4 refine z1d ?_
         refine s_n K45 ?_;refine z0c ?_;refine z13 (α:=Nat) (fun k=>[(1,.c (.ptr 0 0)),(3,.c (.int .i64 d.next.length)),(4,.c (.ptr 1 0)),(65,.c (.ds d.next.length (.cells (rowsC d.next)))),(66,.c (.int .i64 d.next.length)),(67,.c (.int .i64 k))]) (fun k=>[(0,.own 65 (dfaC d) 3),(1,.own 148 (.u64s (seenL d.cls d.nc)) 4)]) 2 (fun k=>k≤d.next.length∧(d.next.take k).all (rowOK d.nc d.next.length)=true) (fun k=>d.next.length - k) ?_ ?_
         ·refine dnS [] id 0 ⟨Nat.zero_le _,rfl⟩ [0,1] uUb_0 uUb_0 uUb_0 uUb_0
         ·intro k hk
          refine srR m1_ok fun _ K47=>?_;refine z1d ?_;refine s_n K47 ?_;refine seq_k fun _ K48=>?_;refine z08 (b:=_) rfl (fun h_t68=>?_) (fun h_t68=>?_)
          ·try simp only[dQ,reduceIte]at h_t68
           refine z0g ?_;apply K48;refine seq_k fun _ K49=>?_;refine z0c ?_
           have hkn:k< d.next.length:=by omega
           have hrl:=hw5 _ (z2e (d:=[]) hkn)
           refine srR m1_ok fun _ K51=>?_;refine zgt ?_;refine zif ?_;rw[zig]
           rotate_left 1
           ·first|omega|(simp<;>omega)
           refine exI ?_;refine zgt ?_;refine s_n K51 ?_;refine seq_k fun _ K52=>?_;refine srR m1_ok fun _ K54=>?_
           iterate 6 refine z1d ?_
           refine s_n K54 ?_;refine z08 (b:=_) rfl (fun h_t76=>?_) (fun h_t76=>?_)
           ·try simp only[dQ,reduceIte]at h_t76
            simp only[Int.toNat_natCast,Nat.mul_one]at h_t76
            refine srR m1_ok fun _ K56=>?_;refine z1d ?_;refine s_n K56 ?_;refine z09 (z02 m1_ok (fun _ _ h=>h) (by first|rfl|assumption) [.tmp 2] rfl ?_);refine rtD ?_
            show SV.c (.bool false)=_
            rw[z3g,zf0 (d:=[]) hkn (by rw[rowOK,decide_eq_false (fun e=>h_t76 (by simpa using e)),Bool.false_and]),Bool.and_false]
           ·try simp only[dQ,reduceIte]at h_t76
            simp only[Int.toNat_natCast,Nat.mul_one]at h_t76
            refine z0g ?_;apply K52;refine srR m1_ok fun _ K58=>?_
            iterate 3 refine z1d ?_
            refine s_n K58 ?_;refine z0c ?_;refine z13 (α:=Nat) (fun j=>[(1,.c (.ptr 0 0)),(3,.c (.int .i64 d.next.length)),(4,.c (.ptr 1 0)),(65,.c (.ds d.next.length (.cells (rowsC d.next)))),(66,.c (.int .i64 d.next.length)),(67,.c (.int .i64 k)),(8,.c (.ds (d.next.getD k []).length (.ints .i64 (d.next.getD k [])))),(77,.c (.ds (d.next.getD k []).length (.ints .i64 (d.next.getD k [])))),(78,.c (.int .i64 (d.next.getD k []).length)),(79,.c (.int .i64 j))]) (fun j=>[(0,.own 65 (dfaC d) 3),(1,.own 148 (.u64s (seenL d.cls d.nc)) 4)]) 2 (fun j=>j≤(d.next.getD k []).length∧((d.next.getD k []).take j).all (tgtOK d.next.length)=true) (fun j=>(d.next.getD k []).length - j) ?_ ?_
            ·refine dnS [] id 0 ⟨Nat.zero_le _,rfl⟩ [0,1] uUb_0 uUb_0 uUb_0 uUb_0
            ·intro j hj
             refine srR m1_ok fun _ K60=>?_;refine z1d ?_;refine s_n K60 ?_;refine seq_k fun _ K61=>?_;refine z08 (b:=_) rfl (fun h_t80=>?_) (fun h_t80=>?_)
             ·try simp only[dQ,reduceIte]at h_t80
              refine z0g ?_;apply K61;refine seq_k fun _ K62=>?_;refine z0c ?_
              have hjn:j< (d.next.getD k []).length:=by omega
              refine srR m1_ok fun _ K64=>?_
              iterate 3 refine z1d ?_
              refine s_n K64 ?_;refine srR m1_ok fun _ K66=>?_
              iterate 2 refine z1d ?_
              refine z3a ?_;refine exB (fun hb2=>?_) (fun hb2=>?_)
              ·try simp only[dQ,reduceIte]at hb2
               iterate 3 refine sN ?_
               refine z1d ?_;refine s_n K66 ?_;refine z08 (b:=_) rfl (fun _=>?_) (fun h_t89=>?_)
               rotate_left 1
               ·exfalso;simp at h_t89
               have htb:tgtOK d.next.length ((d.next.getD k []).getD j 0)=false:=by
                simp only[tgtOK,Bool.and_eq_false_iff,decide_eq_false_iff_not]
                first|(simp only[Int.toNat_natCast,Nat.mul_one]at hb2 h_t89;omega)|(simp only[Int.toNat_natCast,Nat.mul_one]at hb2;omega)
               refine srR m1_ok fun _ K68=>?_;refine z1d ?_;refine s_n K68 ?_;refine z09 (z02 m1_ok (fun _ _ h=>h) (by first|rfl|assumption) [.tmp 2] rfl ?_);refine rtD ?_
               show SV.c (.bool false)=_
               rw[z3g,zf0 (d:=[]) hkn (by rw[rowOK,zf0 (d:=0) hjn htb,Bool.and_false]),Bool.and_false]
              ·try simp only[dQ,reduceIte]at hb2
               iterate 3 refine zb6 ?_
               refine z1d ?_;refine s_n K66 ?_;refine z08 (b:=_) rfl (fun h_t89=>?_) (fun h_t89=>?_)
               ·try simp only[dQ,reduceIte]at h_t89
                have htb:tgtOK d.next.length ((d.next.getD k []).getD j 0)=false:=by
                 simp only[tgtOK,Bool.and_eq_false_iff,decide_eq_false_iff_not]
                 first|(simp only[Int.toNat_natCast,Nat.mul_one]at hb2 h_t89;omega)|(simp only[Int.toNat_natCast,Nat.mul_one]at hb2;omega)
                refine srR m1_ok fun _ K70=>?_;refine z1d ?_;refine s_n K70 ?_;refine z09 (z02 m1_ok (fun _ _ h=>h) (by first|rfl|assumption) [.tmp 2] rfl ?_);refine rtD ?_
                show SV.c (.bool false)=_
                rw[z3g,zf0 (d:=[]) hkn (by rw[rowOK,zf0 (d:=0) hjn htb,Bool.and_false]),Bool.and_false]
               ·try simp only[dQ,reduceIte]at h_t89
                refine z0g ?_;refine z0b ?_;apply K62
                have htg:tgtOK d.next.length ((d.next.getD k []).getD j 0)=true:=by simp only[tgtOK,Bool.and_eq_true,decide_eq_true_eq];simp only[Int.toNat_natCast,Nat.mul_one]at hb2 h_t89;exact⟨by omega,by omega⟩
                refine z06 m1_ok fun _ K71=>?_
                iterate 2 refine z1d ?_
                refine s_n K71 ?_;refine dnS [] id (j+1) ⟨⟨by omega,z8a (d:=0) hjn hj.2 htg⟩,by omega⟩ [0,1] uUb_0 uUb_0 uUb_0 uUb_0
             ·try simp only[dQ,reduceIte]at h_t80
              refine z0z ?_;refine z03 ?_;refine z03 ?_;refine z0s ?_;refine z0b ?_;apply K49
              have hrow:rowOK d.nc d.next.length (d.next.getD k [])=true:=by
               have h1:=hj.2
               rw[List.take_of_length_le (by omega)]at h1;rw[rowOK,h1,decide_eq_true (by omega)];rfl
              refine z06 m1_ok fun _ K72=>?_
              iterate 2 refine z1d ?_
              refine s_n K72 ?_;refine dnS [] id (k+1) ⟨⟨by omega,z8a (d:=[]) hkn hk.2 hrow⟩,by omega⟩ [0,1] uUb_0 uUb_0 uUb_0 uUb_0
          ·try simp only[dQ,reduceIte]at h_t68
           refine z0z ?_;refine z03 ?_;refine z03 ?_;refine z0s ?_;apply K43;refine srR m1_ok fun _ K74=>?_;refine z1d ?_;refine s_n K74 ?_;refine z09 (z02 m1_ok (fun _ _ h=>h) (by first|rfl|assumption) [.tmp 2] rfl ?_);refine rtD ?_
           show SV.c (.bool true)=_
           have h63:notK (seenL d.cls d.nc)=Z4:=h_t63
           rw[z3g,decide_eq_true hbase,clsP,hclsall,decide_eq_true h63]
           obtain rfl:k=d.next.length:=by omega
           have:=hk.2
           rw[List.take_length]at this;rw[this]
           rfl


end Go.Proofs.YtegdcifghaldoaaDoor

namespace Go.Proofs.YtegdcifghaldoaaDoor
set_option linter.all false
open Go.Ab Go.RowKit

theorem qUc0{a:Prop}(h:a:=by first|exact vcA|(simp[z9o]<;>omega)|(rw[z9o];omega)|exact vcB):a:=h

def bit(x:UInt64)(s:Nat):Bool:=x.toBitVec.getLsbD s
theorem zmm{x:UInt64}{s:Nat}(h:64≤s):bit x s=false:=BitVec.getLsbD_of_ge _ _ h
theorem zmn{x y:UInt64}(h:∀ s,s< 64→bit x s=bit y s):x=y:=UInt64.toBitVec_inj.1 (BitVec.eq_of_getLsbD_eq fun i hi=>h i hi)
@[simp] theorem bit_or(x y:UInt64)(s:Nat):bit (x ||| y) s=(bit x s||bit y s):=by simp[bit]
@[simp] theorem zmo(x y:UInt64)(s:Nat):bit (x &&& y) s=(bit x s&&bit y s):=by simp[bit]
@[simp] theorem zd7(s:Nat):bit 0 s=false:=by simp[bit]
theorem bit_one(s:Nat):bit 1 s=decide (s=0):=by
  show(1#64).getLsbD s=_
  rw[BitVec.getLsbD_one];simp
theorem bit_shl1(k s:Nat):bit (shl64 1 k) s=(decide (s=k)&&decide (k< 64)):=by
  unfold shl64
  by_cases hk:k< 64
  · rw[if_pos hk]
    have e:(1 <<< k.toUInt64:UInt64).toBitVec=(1#64) <<< k:=by
      apply BitVec.eq_of_toNat_eq
      show(1 <<< k.toUInt64:UInt64).toNat=_
      rw[UInt64.toNat_shiftLeft]
      simp[show k%18446744073709551616=k by omega,Nat.mod_eq_of_lt hk]
    rw[bit,e,BitVec.getLsbD_shiftLeft,BitVec.getLsbD_one]
    by_cases hs:s=k
    · subst hs;simp[hk]
    · by_cases h1:s< k
      · simp[h1,hs]
      · simp[h1,hs,hk];omega
  · rw[if_neg hk];simp[hk]
theorem zmp(x:UInt64){s:Nat}(h:s< 64):bit (-x) s=((bit x s) ^^ decide (∃ j,j< s∧bit x j=true)):=by
  have e:(-x).toBitVec= -x.toBitVec:=by simp
  rw[bit,e,BitVec.getLsbD_neg]
  simp only[h,decide_true,Bool.true_and]
  rfl
theorem zih{p:Nat→Bool}:∀ n,(∃ s,s< n∧p s=true)→∃ k,k< n∧p k=true∧∀ j,j< k→p j=false
  |0,⟨s,h,_⟩=>absurd h (Nat.not_lt_zero s)
  | n +1,⟨s,h,hp⟩=>by
    by_cases he:∃ s,s< n∧p s=true
    · obtain⟨k,h1,h2⟩:=zih n he
      exact⟨k,by omega,h2⟩
    · refine⟨s,h,hp,fun j hj=>?_⟩
      cases hpj:p j with
      |false=>rfl
      |true=>exact absurd ⟨j,by omega,hpj⟩ he
theorem low_bit{x:UInt64}(h:x≠0):∃ k,k< 64∧bit x k=true∧∀ j,j< k→bit x j=false:=by
  refine zih 64 ?_;refine Classical.byContradiction fun hn=>h (zmn fun s hs=>?_);rw[zd7]
  cases hb:bit x s with
  |false=>rfl
  |true=>exact absurd ⟨s,hs,hb⟩ hn
theorem zgv{x:UInt64}{k:Nat}(hk:k< 64)(h1:bit x k=true)(h2:∀ j,j< k→bit x j=false):x &&& -x=shl64 1 k:=by
  refine zmn fun s hs=>?_;rw[zmo,zmp x hs,bit_shl1]
  by_cases e:s=k
  · subst e
    have:¬ ∃ j,j< s∧bit x j=true:=fun⟨j,hj,hb⟩=>by rw[h2 j hj]at hb;cases hb
    simp[h1,this,hk]
  · by_cases hlt:s< k
    · simp[h2 s hlt,e]
    · have:∃ j,j< s∧bit x j=true:=⟨k,by omega,h1⟩
      cases bit x s<;>simp[this,e]
theorem bit_pred{x:UInt64}{s:Nat}(hs:s< 64):bit (x - 1) s= !(bit (-x) s):=by
  have e:(x - 1).toBitVec= ~~~(-x).toBitVec:=by
    rw[show(-x).toBitVec= -x.toBitVec by simp,BitVec.not_neg];rfl
  rw[bit,e,BitVec.getLsbD_not]
  simp[hs,bit]
theorem zf2 {x:UInt64} {k:Nat} (hk:k< 64) (h1:bit x k=true) (h2:∀ j,j< k→bit x j=false) (s:Nat):bit (x &&& (x - 1)) s=(bit x s&& !decide (s=k)):=by
  by_cases hs:s< 64
  · rw[zmo,bit_pred hs,zmp x hs]
    by_cases e:s=k
    · subst e
      have:¬ ∃ j,j< s∧bit x j=true:=fun⟨j,hj,hb⟩=>by rw[h2 j hj]at hb;cases hb
      simp[h1,this]
    · by_cases hlt:s< k
      · simp[h2 s hlt]
      · have:∃ j,j< s∧bit x j=true:=⟨k,by omega,h1⟩
        cases bit x s<;>simp[this,e]
  · rw[zmm (by omega),zmm (x:=x) (by omega)];rfl
theorem shr58_lt(y:UInt64):(shr64 y 58).toNat< 64:=by
  have:=y.toNat_lt
  simp only[shr64]
  rw[if_pos (by decide),UInt64.toNat_shiftRight]
  show y.toNat >>> (58%64)< 64
  rw[Nat.shiftRight_eq_div_pow]
  show y.toNat / 288230376151711744< 64
  omega
def mulT(x:UInt64):UInt64:=(x &&& -x)*285870213051353865
def shT(x:UInt64):UInt64:=shr64 (mulT x) 58
theorem shT_lt(x:UInt64):(shT x).toNat< 64:=shr58_lt _
def tzN(x:UInt64):Nat:=if x=0 then 64 else(z30.getD (shT x).toNat 0).toNat
theorem tz_table:∀ k:Fin 64,(z30.getD (shr64 (shl64 1 k.val*285870213051353865) 58).toNat 0).toNat=k.val:=by decide+kernel
theorem tzN_eq{x:UInt64}{k:Nat}(hk:k< 64)(h1:bit x k=true)(h2:∀ j,j< k→bit x j=false):tzN x=k:=by
  have hx:x≠0:=fun e=>by rw[e,zd7]at h1;cases h1
  rw[tzN,if_neg hx,shT,mulT,zgv hk h1 h2];exact tz_table ⟨k,hk⟩
theorem z9o:(Cont.u8s z30).len=64:=by decide
attribute [local irreducible] z30
def tzS:QSpec:=fun vs K=>∃ x:UInt64,vs=[.c (.u64 x)]∧K (.c (.int .i64 (tzN x)))
theorem tz_ok:z11 Tryd.prog gl 111 tzS:=by
 refine z0v (Γ:=g0) (N:=14) Tryd.func111 rfl rfl fun vs K h=>?_;obtain⟨x,rfl,h⟩:=h;refine⟨_,h,rfl,by simp,fun w I=>?_⟩;refine seq_k fun _ K1=>?_;refine z06 g0_ok fun _ K2=>?_;refine sS1 ?_;refine s_n K2 ?_;apply K1;refine seq_k fun _ K3=>?_;refine seq_k fun _ K4=>?_;refine z06 g0_ok fun _ K5=>?_;refine sS1 ?_;refine sS fun _ hS=>?_;(repeat refine aI (by first|exact vcA|(simp<;>omega)|exact vcB) ?_);apply hS;clear hS;refine s_n K5 ?_;apply K4;refine z08 (b:=_) rfl (fun h_t4=>?_) (fun h_t4=>?_)
 ·try simp only[dQ,reduceIte]at h_t4
  refine seq_k fun _ K6=>?_;refine z06 g0_ok fun _ K7=>?_;refine sS1 ?_;refine s_n K7 ?_;apply K6;refine z09 (z02 g0_ok (fun _ _ h=>h) (by first|rfl|assumption) [.tmp 2] rfl ?_)
  repeat refine aI (by first|omega|exact trivial|rfl|(simp<;>omega)) ?_
  try refine z0p (by first|omega|exact trivial|rfl|(simp<;>omega)) ?_
  show SV.c (.int .i64 64)=_
  rw[tzN,if_pos (by simpa using h_t4)]
  rfl
 ·try simp only[dQ,reduceIte]at h_t4
  refine z0g ?_;apply K3;refine seq_k fun _ K8=>?_
  have hVe:(if false=true then shl64 (mulT x) (((UInt64.ofNat (Int.toNat 58)).toNat:Int)).toNat else shr64 (mulT x) (((UInt64.ofNat (Int.toNat 58)).toNat:Int)).toNat:UInt64)=shT x:=by rw[if_neg (by decide)];rfl
  have hsh:(if false=true then shl64 (mulT x) (((UInt64.ofNat (Int.toNat 58)).toNat:Int)).toNat else shr64 (mulT x) (((UInt64.ofNat (Int.toNat 58)).toNat:Int)).toNat:UInt64).toNat< 64:=by rw[hVe];exact shT_lt x
  refine z06 g0_ok fun _ K9=>?_
  iterate 2 refine sS1 ?_
  refine sS fun _ hS=>?_;(repeat refine aI qUc0 ?_);apply hS;clear hS;refine sS fun _ hS=>?_;(repeat refine aI qUc0 ?_);apply hS;clear hS;refine sS fun _ hS=>?_;refine hS (.c (.u64 (mulT x))) _ _ ?_;clear hS;refine sS fun _ hS=>?_;(repeat refine aI qUc0 ?_);apply hS;clear hS;refine sS fun _ hS=>?_;(repeat refine aI qUc0 ?_);apply hS;clear hS;refine sS fun _ hS=>?_;(repeat refine aI qUc0 ?_);(first|apply hS|(refine z0d qUc0 ?_;apply hS)|(refine z0e ?_;apply hS));clear hS;refine sS fun _ hS=>?_;(repeat first|refine aI qUc0 ?_|refine z0d qUc0 ?_|refine z0e ?_);apply hS;clear hS;refine sS1 ?_;refine s_n K9 ?_;apply K8;refine z09 (z02 g0_ok (fun _ _ h=>h) (by first|rfl|assumption) [.tmp 2] rfl ?_)
  repeat refine aI (by first|omega|exact trivial|rfl|(simp<;>omega)) ?_
  try refine z0p (by first|omega|exact trivial|rfl|(simp<;>omega)) ?_
  have h0:x≠0:=by simpa using h_t4
  rw[tzN,if_neg h0]
  show SV.c (.int .i64 (((z30.getD (0+(((if false=true then shl64 (mulT x) (((UInt64.ofNat (Int.toNat 58)).toNat:Int)).toNat else shr64 (mulT x) (((UInt64.ofNat (Int.toNat 58)).toNat:Int)).toNat:UInt64).toNat:Int)).toNat*1) 0).toNat:Nat):Int))=_
  rw[hVe,Nat.zero_add,Nat.mul_one,Int.toNat_natCast]


end Go.Proofs.YtegdcifghaldoaaDoor

namespace Go.Proofs.YtegdcifghaldoaaDoor
set_option linter.all false
open Go.Ab Go.RowKit

section
variable {a b:Prop}
theorem qUd0(h:a:=by first|exact vcA|(simp[hc]<;>omega)|exact vcB):a:=h
theorem qUd1(h:a:=by first|exact vcA|(simp[hc4]<;>omega)|exact vcB):a:=h
theorem qUd2(h:a:=by first|exact vcA|(simp[hc4]<;>omega)|(simp[hc4];omega)|exact vcB):a:=h
theorem qUd3(h:a:=by first|omega|exact trivial|rfl|exact z5c.mpr ⟨by omega,by omega⟩|decide|(simp;omega)):a:=h
theorem uUd_0(h:a:=by
    repeat' (first|exact trivial|refine aI ?_ ?_|exact cC0|refine low_cons' ?_ ?_|exact cC1|fail)):a:=h
theorem uUd_1(h:a:=by
    repeat' (first|exact trivial|refine aI ?_ ?_|exact cC0|refine low_cons' ?_ ?_|exact cC1|fail)
    all_goals first|(show(_:UInt64)=_;rfl)|skip):a:=h
theorem DUd_0(kZ:b)(h:HidB b→a:=by intro kZ;(repeat first|refine aI qUd0 ?_|refine z0d qUd0 ?_|refine z0a qUd0 ?_|refine z0p qUd0 ?_|refine z0e ?_);exact kZ.out):a:=h ⟨kZ⟩
theorem sXUd_1(kZ:b)(h:HidB b→a:=by intro kZ;refine sX ?_;refine DUd_0 ?_;refine exI ?_;exact kZ.out):a:=h ⟨kZ⟩
theorem DUd_2(kZ:b)(h:HidB b→a:=by intro kZ;(repeat first|refine aI qUd1 ?_|refine z0d qUd1 ?_|refine z0a qUd1 ?_|refine z0p qUd1 ?_|refine z0e ?_);exact kZ.out):a:=h ⟨kZ⟩
theorem zf3(kZ:b)(h:HidB b→a:=by intro kZ;refine sX ?_;refine DUd_2 ?_;refine exI ?_;exact kZ.out):a:=h ⟨kZ⟩
theorem DUd_4(kZ:b)(h:HidB b→a:=by intro kZ;(repeat first|refine aI qUd2 ?_|refine z0d qUd2 ?_|refine z0a qUd2 ?_|refine z0p qUd2 ?_|refine z0e ?_);exact kZ.out):a:=h ⟨kZ⟩
theorem sXUd_5(kZ:b)(h:HidB b→a:=by intro kZ;refine sX ?_;refine DUd_4 ?_;refine exI ?_;exact kZ.out):a:=h ⟨kZ⟩
end
open Go.Aut
def bitsL(x:UInt64):List Nat:=(List.range 64).filter (bit x)
theorem zmq{x:UInt64}{s:Nat}:s∈bitsL x↔s< 64∧bit x s=true:=by rw[bitsL,List.mem_filter,List.mem_range]
theorem zf4(x:UInt64):(bitsL x).Pairwise (· < ·):=List.Pairwise.filter _ (List.pairwise_lt_range (n:=64))
def Rem(x:UInt64)(j:Nat)(y:UInt64):Prop:=∀ s,bit y s=true↔s∈(bitsL x).drop j
theorem rem_zero(x:UInt64):Rem x 0 x:=fun s=>by
  rw[List.drop_zero,zmq]
  constructor
  · intro h
    refine⟨?_,h⟩
    rcases Nat.lt_or_ge s 64 with h1|h1
    · exact h1
    · rw[zmm h1]at h;cases h
  · exact fun h=>h.2
theorem rem_eq{x y:UInt64}{j:Nat}(h:Rem x j y)(hy:y=0):(bitsL x).length≤j:=by
  rcases Nat.lt_or_ge j (bitsL x).length with h1|h1
  · have h2:=(h (bitsL x)[j]).2 (by rw[List.drop_eq_getElem_cons h1];exact List.mem_cons_self)
    rw[hy,zd7]at h2;cases h2
  · exact h1
theorem rem_ne{x y:UInt64}{j:Nat}(h:Rem x j y)(hy:y≠0):j< (bitsL x).length∧tzN y=(bitsL x).getD j 0∧tzN y< 64∧Rem x (j+1) (y &&& (y - 1)):=by
  obtain⟨k,hk,h1,h2⟩:=low_bit hy
  have hm:=(h k).1 h1
  have hj:j< (bitsL x).length:=by
    rcases Nat.lt_or_ge j (bitsL x).length with h3|h3
    · exact h3
    · rw[List.drop_of_length_le h3]at hm;cases hm
  have hd:=List.drop_eq_getElem_cons hj
  have hs:((bitsL x).drop j).Pairwise (· < ·):=(zf4 x).sublist (List.drop_sublist _ _)
  rw[hd]at hs hm
  have hkj:k=(bitsL x)[j]:=by
    rcases List.mem_cons.1 hm with e|e
    · exact e
    · have h3:=(List.pairwise_cons.1 hs).1 k e
      have h4:=(h (bitsL x)[j]).2 (by rw[hd];exact List.mem_cons_self)
      rw[h2 _ h3]at h4;cases h4
  have hg:(bitsL x).getD j 0=k:=by rw[z65 hj];exact hkj.symm
  refine⟨hj,by rw[hg];exact tzN_eq hk h1 h2,by rw[tzN_eq hk h1 h2];exact hk,fun s=>?_⟩;rw[zf2 hk h1 h2,Bool.and_eq_true,h s,hd,List.mem_cons]
  constructor
  · rintro ⟨e|e,h3⟩
    · simp[e,hkj]at h3
    · exact e
  · intro e
    refine⟨.inr e,?_⟩
    have h3:=(List.pairwise_cons.1 hs).1 s e
    simp;omega
def wordB(i:Nat)(x:UInt64):List UInt8:=(bitsL x).map fun s=>UInt8.ofNat (64*i+s)
def yl(c:List UInt64)(i:Nat):List UInt8:=(List.range i).flatMap fun i=>wordB i (c.getD i 0)
theorem zgw(c:List UInt64)(i:Nat):yl c (i+1)=yl c i++wordB i (c.getD i 0):=by simp[yl,List.range_succ]
theorem range256:List.range 256=(List.range 4).flatMap fun i=>(List.range 64).map fun s=>64*i+s:=by decide+kernel
theorem zmr(c:List UInt64):yl c 4=z12 c:=by
  rw[z12,range256,List.filter_flatMap,List.map_flatMap,yl,List.flatMap_eq_foldl,List.flatMap_eq_foldl]<;>skip
  congr 1
  funext l i
  congr 1
  rw[wordB,bitsL,List.filter_map,List.map_map]
  have e:(List.range 64).filter (bit (c.getD i 0))=(List.range 64).filter ((fun b=>(c.getD (b / 64) 0).toNat.testBit (b%64)) ∘ fun s=>64*i+s):=by
    refine List.filter_congr fun s hs=>?_
    have hs:=List.mem_range.1 hs
    show _=(c.getD ((64*i+s) / 64) 0).toNat.testBit ((64*i+s)%64)
    rw[show(64*i+s) / 64=i by omega,show(64*i+s)%64=s by omega];rfl
  rw[e];rfl
theorem zms(c:List UInt64){i:Nat}(hi:i< 4):∃ r,z12 c=yl c i++wordB i (c.getD i 0)++r:=by
  have key:∀ d,∃ r,yl c (i+1+d)=yl c (i+1)++r:=by
    intro d
    induction d with
    |zero=>exact⟨[],by simp⟩
    | succ d ih=>
      obtain⟨r,hr⟩:=ih;exact⟨r++wordB (i+1+d) (c.getD (i+1+d) 0),by rw[←Nat.add_assoc,zgw,hr,List.append_assoc]⟩
  obtain⟨r,hr⟩:=key (3 - i);rw[show i+1+(3 - i)=4 by omega,zmr,zgw]at hr;exact⟨r,hr⟩
theorem yl_get(c:List UInt64){i j:Nat}(hi:i< 4)(hj:j< (bitsL (c.getD i 0)).length):(z12 c)[(yl c i).length+j]? =some (UInt8.ofNat (64*i+(bitsL (c.getD i 0)).getD j 0)):=by
  obtain⟨r,hr⟩:=zms c hi
  have hl:(wordB i (c.getD i 0)).length=(bitsL (c.getD i 0)).length:=by simp[wordB]
  rw[hr,List.append_assoc,List.getElem?_append_right (by omega),List.getElem?_append_left (by omega),Nat.add_sub_cancel_left,wordB,List.getElem?_map,at_of (d:=0) hj];rfl
theorem zmt(n:Nat):UInt8.ofInt (n:Int)=UInt8.ofNat n:=by
  apply UInt8.toNat_inj.1
  simp[UInt8.ofInt]
  omega
def bXs(c:List UInt64):List (List SV):=(z12 c).map fun b=>[.c (.u8 b)]
theorem z92(c:List UInt64):(bXs c).length=(z12 c).length:=by simp[bXs]
theorem bXs_get(c:List UInt64){i j:Nat}{y:UInt64}(hi:i< 4)(hr:Rem (c.getD i 0) j y)(hy:y≠0):(bXs c)[(yl c i).length+j]? =some [.c (.u8 (UInt8.ofInt (64*(i:Int)+(tzN y:Int))))]:=by
  obtain⟨h1,h2,h3,_⟩:=rem_ne hr hy;rw[bXs,List.getElem?_map,yl_get c hi h1, ←h2,show(64*(i:Int)+(tzN y:Int))=((64*i+tzN y:Nat):Int) by omega,zmt];rfl
def boxK(c:List UInt64):Cell:=.dp (.u64s c) 0
theorem za1(c:List UInt64):SV.low 0 (.c (.clo 110 [boxK c])):=fun x hx=>by
  rw[List.mem_singleton.1 hx];trivial
def zii:QSpec:=fun vs K=>∃ c:List UInt64,vs=[.agg (.u64s c)]∧c.length=4∧K (.c (.clo 110 [boxK c]))
theorem zko:z47 Tryd.prog gl 105 zii:=by
 refine z3s (Γ:=g0) (N:=4) Tryd.func105 rfl rfl fun vs K h=>?_;obtain⟨c,rfl,hc,h⟩:=h;refine⟨_,h,za1 c,by simp,fun w I=>?_⟩;refine srR g0_ok fun _ K2=>?_
 iterate 2 refine sXUd_1 ?_
 refine s_n K2 ?_;refine srR g0_ok fun _ K4=>?_
 iterate 2 refine sXUd_1 ?_
 refine s_n K4 ?_;refine z09 (z1a g0_ok (fun _ _ h=>h) (za1 c) [0] [.tmp 2] rfl ?_)
 repeat' (first|exact trivial|refine aI ?_ ?_|exact cC0|refine low_cons' ?_ ?_|exact cC1|fail)
 all_goals first|exact Nat.one_pos|(simp[hc];done)|skip

noncomputable def gi:Ctx:={ P:=Tryd.prog,ty:=ty,glob:=gl,fs:=[(111,.flat tzS)] }
theorem gi_ok:gi.OK:=⟨tyOK,⟨⟨z07 Tryd.func111 kQf rfl,tz_ok⟩,trivial⟩,mixed⟩
@[simp] theorem gi_ty:gi.ty=ty:=rfl


attribute [local irreducible] z12 tzN bitsL
theorem zmu (c:List UInt64) (hc4:c.length=4):SeqsOK Tryd.prog gl 110 [.c (boxK c)] (bXs c):=by
  intro I W cs l hG hlt hargs J Z hab habz hround hJ0;rw[show(#[.func (.yield l) #[] #[]]++cs.toArray:Array Value)=(.func (.yield l) #[] #[]::cs).toArray by simp];refine z7o (Γ:=gi) (N:=26) (C:=pureC W I) (β:=noVal) (n:=0) (H:=[]) (vs:=[.c (.raw (.func (.yield l) #[] #[])),.c (boxK c)]) (xs:=.func (.yield l) #[] #[]::cs) Tryd.func110 rfl rfl (by simp) (HeapOK.init hlt) hG ⟨Nat.le_refl _,fun i hi=>absurd hi (Nat.not_lt_zero i)⟩ rfl ⟨by simpa using hargs.1,fun j v hv=>?_⟩ ?_
  · cases j with
    |zero=>cases hv;exact⟨_,rfl,(SV.rel_flat (x:=.c (.raw _)) rfl).2 rfl,SV.flat_low rfl⟩
    |succ j=>exact hargs.2 j v hv
  refine srR gi_ok fun _ K2=>?_
  iterate 2 refine zf3 ?_
  refine s_n K2 ?_;refine z0c ?_;refine leW [] id [(0,.c (.raw (.func (.yield l) #[] #[]))),(5,.agg (.u64s c)),(6,.c (.int .i64 ((0:Nat):Int)))] [] 0 [] ?_ ?_ ?_ ?_ ?_
  · exact uUd_0
  · exact uUd_0
  · exact uUd_0
  · exact uUd_0
  refine zlt (J:=J (yl c 0).length) hJ0 (hab _) fun a1 w1 hA=>?_;refine zaw (fun i a w=>i≤4∧AtJ gi 26 (J (yl c i).length) [(0,.c (.raw (.func (.yield l) #[] #[]))),(5,.agg (.u64s c)),(6,.c (.int .i64 ((i:Nat):Int)))] a w) 4 (fun _ _ _ h=>h.1) ?_ 0 a1 w1 ⟨Nat.zero_le _,hA⟩;intro i a w ⟨hi,hA⟩;refine zgo hA (List.forall_mem_cons.2 ⟨SV.flat_low rfl,List.forall_mem_cons.2 ⟨SV.flat_low rfl,List.forall_mem_cons.2 ⟨SV.flat_low rfl,fun _ h=>by cases h⟩⟩⟩) fun D w0 hJk=>?_;refine srR gi_ok fun _ K4=>?_;refine zf3 ?_;refine s_n K4 ?_;refine seq_k fun _ K5=>?_;refine z08 (b:=_) rfl (fun h_t7=>?_) (fun h_t7=>?_)
  · try simp only[dQ,reduceIte]at h_t7
    refine z0g ?_;apply K5;refine seq_kC fun _ K6=>?_;refine z0c ?_;refine srR gi_ok fun _ K8=>?_
    iterate 4 refine sXUd_5 ?_
    refine s_n K8 ?_
    have hi4:i< 4:=by omega
    refine z0c ?_;refine leW [] id [(0,.c (.raw (.func (.yield l) #[] #[]))),(5,.agg (.u64s c)),(6,.c (.int .i64 ((i:Nat):Int))),(3,.c (.int .i64 ((i:Nat):Int))),(4,.c (.u64 (c.getD i 0)))] [] 0 [] ?_ ?_ ?_ ?_ ?_
    · exact uUd_1
    · exact uUd_1
    · exact uUd_1
    · exact uUd_1
    refine zlt (J:=J ((yl c i).length+0)) hJk (hab _) fun a2 w2 hA2=>?_;refine zaw (fun j a w=>∃ y,j≤(bitsL (c.getD i 0)).length∧Rem (c.getD i 0) j y∧AtJ gi 26 (J ((yl c i).length+j)) [(0,.c (.raw (.func (.yield l) #[] #[]))),(5,.agg (.u64s c)),(6,.c (.int .i64 ((i:Nat):Int))),(3,.c (.int .i64 ((i:Nat):Int))),(4,.c (.u64 y))] a w) (bitsL (c.getD i 0)).length (fun _ _ _ ⟨_,h,_⟩=>h) ?_ 0 a2 w2 ⟨_,Nat.zero_le _,rem_zero _,hA2⟩;intro j a w ⟨y,hj,hy,hA3⟩;refine zgo hA3 (List.forall_mem_cons.2 ⟨SV.flat_low rfl,List.forall_mem_cons.2 ⟨SV.flat_low rfl,List.forall_mem_cons.2 ⟨SV.flat_low rfl,List.forall_mem_cons.2 ⟨SV.flat_low rfl,List.forall_mem_cons.2 ⟨SV.flat_low rfl,fun _ h=>by cases h⟩⟩⟩⟩⟩) fun D2 w3 hJj=>?_;refine seq_k fun _ K9=>?_;refine srR gi_ok fun _ K11=>?_
    iterate 2 refine zf3 ?_
    refine s_n K11 ?_;refine z08 (b:=_) rfl (fun h_t11=>?_) (fun h_t11=>?_)
    · try simp only[dQ,reduceIte]at h_t11
      refine z0g ?_;apply K9
      have hy0:y≠0:=by simpa using h_t11
      obtain⟨hr1,hr2,hr3,hr4⟩:=rem_ne hy hy0;refine z0c ?_;refine zlt (J:=J ((yl c i).length+j)) hJj (hab _) fun a4 w4 hA4=>?_;refine wp_seq ?_;refine wp_seq ?_;refine zd0 (J:=J ((yl c i).length+j)) (J':=J ((yl c i).length+(j+1))) (Z:=Z) gi_ok (hab _) habz (hab _) 7 rfl rfl rfl rfl rfl (by decide) (ys:=[.c (.u8 (UInt8.ofInt (64*(i:Int)+(tzN y:Int))))]) (l:=l) (fun D w v m hj hv=>hround _ D w _ v m (bXs_get c hi4 hy hy0) hj hv) (args:=[.tmp 18]) rfl (E2:=fun r=>[(0,.c (.raw (.func (.yield l) #[] #[]))),(5,.agg (.u64s c)),(6,.c (.int .i64 ((i:Nat):Int))),(3,.c (.int .i64 ((i:Nat):Int))),(4,.c (.u64 y)),(20,.c (.bool (!r)))]) (fun n=>?_) hA4 (fun a5 w5 hA5=>?_) (fun a5 w5 hA5=>?_)
      · simp only[List.take_succ_cons,List.take_zero,List.drop_succ_cons,List.drop_zero]
        refine z5m rfl (by decide) rfl (by intro c h;cases h) fun _ hS=>?_
        repeat refine aI qUd3 ?_
        apply hS;clear hS;refine z5m rfl (by decide) rfl (by intro c h;cases h) fun _ hS=>?_
        repeat refine aI qUd3 ?_
        apply hS;clear hS;refine z5m rfl (by decide) rfl (by intro c h;cases h) fun _ hS=>?_
        repeat refine aI qUd3 ?_
        apply hS;clear hS;refine z5m rfl (by decide) rfl (by intro c h;cases h) fun _ hS=>?_
        repeat refine aI qUd3 ?_
        apply hS;clear hS;refine z5m rfl (by decide) rfl (by intro c h;cases h) fun _ hS=>?_;refine⟨y,rfl,?_⟩
        repeat refine aI qUd3 ?_
        apply hS;clear hS;refine z5m rfl (by decide) rfl (by intro c h;cases h) fun _ hS=>?_
        repeat refine aI qUd3 ?_
        apply hS;clear hS;refine z5m rfl (by decide) rfl (by intro c h;cases h) fun _ hS=>?_
        repeat refine aI qUd3 ?_
        apply hS;clear hS;refine y_nil ?_;refine⟨rfl,rfl,fun y hy=>?_,fun r=>?_⟩
        · rw[List.mem_singleton.1 hy];trivial
        refine z5m rfl (by decide) rfl (by intro c h;cases h) fun _ hS=>?_;apply hS;clear hS;refine y_nil ?_;exact Env.sub_of (List.forall_mem_cons.2 ⟨rfl,List.forall_mem_cons.2 ⟨rfl,List.forall_mem_cons.2 ⟨rfl,List.forall_mem_cons.2 ⟨rfl,List.forall_mem_cons.2 ⟨rfl,List.forall_mem_cons.2 ⟨rfl,fun _ h=>by cases h⟩⟩⟩⟩⟩⟩)
      · simp only[Exit.then]
        refine zgo hA5 (List.forall_mem_cons.2 ⟨SV.flat_low rfl,List.forall_mem_cons.2 ⟨SV.flat_low rfl,List.forall_mem_cons.2 ⟨SV.flat_low rfl,List.forall_mem_cons.2 ⟨SV.flat_low rfl,List.forall_mem_cons.2 ⟨SV.flat_low rfl,List.forall_mem_cons.2 ⟨SV.flat_low rfl,fun _ h=>by cases h⟩⟩⟩⟩⟩⟩) fun D3 w6 hJ3=>?_;refine z08 (b:=false) rfl (fun h=>absurd h (by decide)) (fun _=>?_);refine z0g ?_;refine WP_then ?_;refine z06 gi_ok fun _ K12=>?_
        iterate 5 refine zf3 ?_
        refine s_n K12 ?_;refine z0b ?_;intro β I a w hS;exact⟨_,by omega,hr4,(hS.atJ hJ3 (hab _)).sub (Env.sub_of (List.forall_mem_cons.2 ⟨rfl,List.forall_mem_cons.2 ⟨rfl,List.forall_mem_cons.2 ⟨rfl,List.forall_mem_cons.2 ⟨rfl,List.forall_mem_cons.2 ⟨rfl,fun _ h=>by cases h⟩⟩⟩⟩⟩))⟩
      · simp only[Exit.then]
        refine hA5.wp fun D3 w3 n3 hJ3=>?_;refine z08 (b:=true) rfl (fun _=>?_) (fun h=>absurd h (by decide));exact z09 (zm5 (fn:=Tryd.f110) (R:=fun e w'=>(∃ v,e= .returned v)∧∃ D,J (bXs c).length D w'∨Z D w') gi_ok (fun _ _ h=>h) rfl rfl fun β I a w hS=>⟨⟨_,rfl⟩,I,.inr (habz _ _ _ _ _ _ _ hJ3 hS.heap)⟩)
      skip
    · try simp only[dQ,reduceIte]at h_t11
      refine z0z ?_;refine z03 ?_;refine z03 ?_;refine z0s ?_
      have hjl:=rem_eq hy (by simpa using h_t11)
      have hJn:J (yl c (i+1)).length D2 w3:=by
        rw[zgw,List.length_append,wordB,List.length_map,show(bitsL (c.getD i 0)).length=j by omega];exact hJj
      refine z0b ?_;refine K6 _ _ _ _ ?_;refine z06 gi_ok fun _ K13=>?_
      iterate 2 refine zf3 ?_
      refine s_n K13 ?_;intro β I a w hS;exact⟨by omega,(hS.atJ hJn (hab _)).sub (Env.sub_of (List.forall_mem_cons.2 ⟨rfl,List.forall_mem_cons.2 ⟨rfl,List.forall_mem_cons.2 ⟨rfl,fun _ h=>by cases h⟩⟩⟩))⟩
    skip
  · try simp only[dQ,reduceIte]at h_t7
    refine z0z ?_;refine z03 ?_;refine z03 ?_;refine z0s ?_
    obtain rfl:i=4:=by omega
    refine z9m gi_ok rfl rfl fun β I a w hS=>⟨⟨_,rfl⟩,I,.inl ?_⟩;rw[z92, ←zmr];exact hab _ _ _ _ _ _ _ _ hJk hS.heap
  skip

end Go.Proofs.YtegdcifghaldoaaDoor

namespace Go.Proofs.YtegdcifghaldoaaDoor
set_option linter.all false
open Go.Ab Go.RowKit

theorem qUe1{a:Prop}(h:a:=by first|exact vcA|(simp<;>omega)|(refine⟨by omega,by omega,trivial⟩)|(simp<;>omega)|exact vcB):a:=h
theorem uUe0{a:Prop}(h:a:=by
    repeat' (first|exact trivial|refine aI ?_ ?_|exact cC0|refine low_cons' ?_ ?_|exact cC1|fail)
    all_goals first|omega|(show(_:List UInt8)=_;first|exact z8b hk|(rw[List.nil_append];exact z8b hk)|rfl|(simp;done))|exact SV.low_mono (Nat.zero_le _) (za1 c)|(simp;done)|(simp<;>omega)|skip):a:=h

open Go.Aut
theorem zmv{c:List UInt64}{k:Nat}{x:List SV}(h:(bXs c)[k]? =some x):k< (z12 c).length∧x=[.c (.u8 ((z12 c).getD k 0))]:=by
  rw[bXs,List.getElem?_map]at h
  have hk:k< (z12 c).length:=by
    rcases Nat.lt_or_ge k (z12 c).length with h1|h1
    · exact h1
    · rw[List.getElem?_eq_none h1]at h;cases h
  rw[at_of (d:=0) hk]at h;exact⟨hk,(Option.some.inj h).symm⟩
theorem bXs_one{c:List UInt64}:∀ x∈bXs c,x.length=1:=fun x hx=>by
  obtain⟨k,_,rfl⟩:=List.mem_map.1 hx;rfl
theorem z8b{l:List UInt8}{k:Nat}(h:k< l.length):l.take k++[l.getD k 0]=l.take (k+1):=by rw[List.take_add_one,at_of (d:=0) h];rfl
attribute [local irreducible] z12
def zmw:QSpec:=fun vs K=>∃ c:List UInt64,vs=[.c .nils,.c (.clo 110 [boxK c])]∧c.length=4∧K (.c (.ds (z12 c).length (.u8s (z12 c))))
theorem zmx:z47 Tryd.prog gl 109 zmw:=by
 refine data_ofM (Γ:=g0) (N:=13) Tryd.func109 rfl rfl fun vs K h=>?_;obtain⟨c,rfl,hc,h⟩:=h;refine⟨_,h,trivial,by simp,fun w I=>?_⟩;refine seq_k fun _ K1=>?_;refine z06 g0_ok fun _ K2=>?_;refine sS fun _ hS=>?_;(repeat refine aI qUa0 ?_);apply hS;clear hS;refine sS1 ?_;refine s_n K2 ?_;apply K1;refine seq_kC fun _ K3=>?_;refine seq_k fun _ K4=>?_;refine z06 g0_ok fun _ K5=>?_;refine sS1 ?_;refine s_n K5 ?_;apply K4;refine WP_nilat 0 0 5 (.u8s []) rfl rfl rfl trivial ?_;refine leW [] id [(2,.c (.ptr 0 0)),(6,.c (.clo 110 [boxK c]))] [(0,.own 28 (.cells [.slice 1 0 0 0]) 1),(1,.own 5 (.u8s ((z12 c).take 0)) 0)] 2 [0,1] ?_ ?_ ?_ ?_ ?_
 ·exact uUe0
 ·exact uUe0
 ·exact uUe0
 ·exact uUe0
 refine z0c ?_;refine zkl g0_ok (α:=Nat) (caps:=[boxK c]) (xs:=bXs c) (z07 Tryd.func110 kQf rfl) (zmu c hc) rfl (fun v hv=>?_) ⟨by decide,by decide,bXs_one⟩ (.exit 0) rfl 1 (by omega) (Nat.zero_le _) ?_ (fun k y=>[(0,.own 28 (.cells [.slice 1 0 k y]) 1),(1,.own 5 (.u8s ((z12 c).take k)) y)]) (fun k y=>k≤(z12 c).length∧k≤y) 0 ?_ ⟨Nat.zero_le _,Nat.le_refl _⟩ (fun k y=>[(2,.c (.ptr 0 0)),(6,.c (.clo 110 [boxK c])),(5,.c (.u8 ((z12 c).getD k 0)))]) (fun k y=>[(0,.own 28 (.cells [.slice 1 0 k y]) 1),(1,.own 5 (.u8s ((z12 c).take k)) y)]) (fun k y=>False) ?_ ?_ ?_ ?_
 ·rw[List.mem_singleton.1 hv]
  trivial
 ·intro i v hv
  refine Env.low_get (n:=1) (E:=[(2,.c (.ptr 0 0)),(6,.c (.clo 110 [boxK c]))]) ?_ hv
  repeat' (first|exact trivial|refine aI ?_ ?_|exact cC0|refine low_cons' ?_ ?_|exact cC1|fail)
  all_goals first|omega|(show(_:List UInt8)=_;first|exact z8b hk|(rw[List.nil_append];exact z8b hk)|rfl|(simp;done))|exact SV.low_mono (Nat.zero_le _) (za1 c)|(simp;done)|(simp<;>omega)|skip
 ·rfl
 ·intro k y x hx hP C' ro m Q hC hQ
  obtain⟨hk,rfl⟩:=zmv hx
  have hbl:=z73 c
  refine WPi_n0 fun hn0=>?_;refine zcb g0_ok fun _ K106=>?_;refine z5m rfl (by decide) rfl (by intro c h;cases h) fun _ hS=>?_;apply hS;clear hS;refine y_nil ?_;apply K106
  refine zi3 [] id hQ ⟨?_,?_,(by decide:List.Nodup ([0,1]:List Nat)),?_,?_,⟨by omega,fun i hi=>by
   have hi':i< 1:=by omega
   first|rfl|(obtain rfl:i=0:=(by omega);rfl)|(simp;omega)|(match i,hi' with
   |0,_=>rfl
   |1,_=>rfl)⟩⟩
  ·exact uUe0
  ·exact uUe0
  ·exact uUe0
  ·exact uUe0
 ·intro k y x hx hP C' ro m Q hC hQ hZ
  obtain⟨hk,rfl⟩:=zmv hx
  have hbl:=z73 c
  refine WPi_n0 fun hn0=>?_;refine zls ?_;refine zcb g0_ok fun _ K207=>?_;refine z5m rfl (by decide) rfl (by intro c h;cases h) fun _ hS=>?_
  repeat refine aI qUe1 ?_
  first|apply hS|(refine z0d qUe1 ?_;apply hS)|(refine z0e ?_;apply hS)
  clear hS;refine z5m rfl (by decide) rfl (by intro c h;cases h) fun _ hS=>?_;apply hS;clear hS;refine z5m rfl (by decide) rfl (by intro c h;cases h) fun _ hS=>?_
  repeat refine aI qUe1 ?_
  apply hS;clear hS;refine z5m rfl (by decide) rfl (by intro c h;cases h) fun _ hS=>?_
  repeat first|refine aI qUe1 ?_|refine z0d qUe1 ?_|refine z0e ?_
  intro cap3 hcap3;apply hS;clear hS;refine y_step0 rfl rfl (by intro c h;cases h) fun _ hS=>?_
  repeat refine aI qUe1 ?_
  first|apply hS|(refine z0a qUe1 ?_;apply hS)
  clear hS;refine y_nil ?_;apply K207;refine z0b ?_
  refine zi3 [] (fun i=>if i=0 then 0 else 3) (hQ cap3 ⟨by omega,by omega⟩) ⟨?_,?_,(by decide:List.Nodup ([0,3]:List Nat)),?_,?_,⟨by omega,fun i hi=>by
   have hi':i< 1:=by omega
   first|rfl|(obtain rfl:i=0:=(by omega);rfl)|(simp;omega)|(match i,hi' with
   |0,_=>rfl
   |1,_=>rfl)⟩⟩
  ·exact uUe0
  ·exact uUe0
  ·exact uUe0
  ·exact uUe0
 ·intro y β1 I1 w1 d1 hP hH1 hd0 hA
  rw[z92]at hH1 hA ⊢
  try rw[z92]at hP
  refine z0b ?_;refine K3 _ _ _ _ ?_;refine seq_k fun _ K308=>?_;refine z06 g0_ok fun _ K309=>?_;refine sS fun _ hS=>?_;(repeat refine aI qUa0 ?_);(first|apply hS|(refine z0d qUa0 ?_;apply hS)|(refine z0e ?_;apply hS));clear hS;refine sS1 ?_;refine s_n K309 ?_;apply K308;refine z09 (zkk g0_ok hH1 hd0 hA (fun _ _ h=>h) (trivial) [1] [.tmp 4] rfl ?_)
  repeat' (first|exact trivial|refine aI ?_ ?_|exact cC0|refine low_cons' ?_ ?_|exact cC1|fail)
  all_goals first|omega|(show _=z12 c;rw[List.take_length])|(rw[List.take_length];done)|(simp;done)|skip
 ·intro k y β1 I1 w1 d1 hk hZ
  exact absurd hZ id



end Go.Proofs.YtegdcifghaldoaaDoor

namespace Go.Proofs.YtegdcifghaldoaaDoor
set_option linter.all false
open Go.Ab Go.RowKit

section
variable {a b:Prop}
theorem DUf_0(kZ:b)(h:HidB b→a:=by intro kZ;(repeat first|refine aI qUa0 ?_|refine z0d qUa0 ?_|refine z0a qUa0 ?_|refine z0p qUa0 ?_|refine z0e ?_);exact kZ.out):a:=h ⟨kZ⟩
theorem zmy(kZ:b)(h:HidB b→a:=by intro kZ;refine sX ?_;refine DUf_0 ?_;refine exI ?_;exact kZ.out):a:=h ⟨kZ⟩
theorem sXEUf_4(kZ:b)(h:HidB b→a:=by intro kZ;refine sX ?_;refine DUf_0 ?_;exact kZ.out):a:=h ⟨kZ⟩
theorem zn0(kZ:b)(h:HidB b→a:=by intro kZ;refine sX ?_;refine DUd_0 ?_;exact kZ.out):a:=h ⟨kZ⟩
end
open Go.Aut
attribute [local irreducible] z12
noncomputable def ge1:Ctx:={ P:=Tryd.prog,ty:=ty,glob:=gl,fs:=[(109,.data zmw)] }
theorem zn1:ge1.OK:=⟨tyOK,⟨⟨z07 Tryd.func109 kQf rfl,zmx⟩,trivial⟩,mixed⟩
@[simp] theorem ge1_ty:ge1.ty=ty:=rfl

def zij:QSpec:=fun vs K=>∃ c:List UInt64,vs=[.c (.clo 110 [boxK c])]∧c.length=4∧K (.c (.ds (z12 c).length (.u8s (z12 c))))
theorem zkp:z47 Tryd.prog gl 104 zij:=by
 refine z3s (Γ:=ge1) (N:=5) Tryd.func104 rfl rfl fun vs K h=>?_;obtain⟨c,rfl,hc,h⟩:=h;refine⟨_,h,trivial,by simp,fun w I=>?_⟩;refine srR zn1 fun _ K2=>?_;refine zmy ?_;refine s_n K2 ?_;refine srR zn1 fun _ K4=>?_;refine zmy ?_;refine sXEUf_4 ?_;refine aI (fun x hx=>by rw[List.mem_singleton.1 hx];intro g l;intro e;cases e) ?_;refine⟨c,rfl,hc,?_⟩;refine DUf_0 ?_
 first|refine exI ?_|(intro cap1 hcap1;refine exI ?_)
 refine zmy ?_;refine s_n K4 ?_;refine z09 (z1a zn1 (fun _ _ h=>h) (by trivial) [] [.tmp 2] rfl ?_)
 all_goals exact uUd_0

noncomputable def ge2:Ctx:={ P:=Tryd.prog,ty:=ty,glob:=gl,fs:=[(104,.data zij),(105,.data zii)] }
theorem zn2:ge2.OK:=⟨tyOK,⟨⟨z07 Tryd.func104 kQf rfl,zkp⟩,⟨z07 Tryd.func105 kQf rfl,zko⟩,trivial⟩,mixed⟩
@[simp] theorem ge2_ty:ge2.ty=ty:=rfl

def zgx:QSpec:=fun vs K=>∃ c:List UInt64,vs=[.agg (.u64s c)]∧c.length=4∧K (.c (.ds (z12 c).length (.u8s (z12 c))))
theorem zf5:z47 Tryd.prog gl 88 zgx:=by
 refine z3s (Γ:=ge2) (N:=6) Tryd.func88 rfl rfl fun vs K h=>?_;obtain⟨c,rfl,hc,h⟩:=h;refine⟨_,h,trivial,by simp,fun w I=>?_⟩;refine srR zn2 fun _ K2=>?_
 iterate 2 refine sXUd_1 ?_
 refine s_n K2 ?_;refine srR zn2 fun _ K4=>?_;refine sXUd_1 ?_;refine zn0 ?_;refine⟨c,rfl,hc,?_⟩;refine DUd_0 ?_
 first|refine exI ?_|(intro cap1 hcap1;refine exI ?_)
 refine zn0 ?_;refine aI (fun x hx=>by rw[List.mem_singleton.1 hx];intro g l;intro e;cases e) ?_;refine⟨c,rfl,hc,?_⟩;refine DUd_0 ?_
 first|refine exI ?_|(intro cap2 hcap2;refine exI ?_)
 refine sXUd_1 ?_;refine s_n K4 ?_;refine z09 (z1a zn2 (fun _ _ h=>h) (by trivial) [] [.tmp 2] rfl ?_)
 all_goals exact uUd_0


end Go.Proofs.YtegdcifghaldoaaDoor

namespace Go.Proofs.YtegdcifghaldoaaDoor
set_option linter.all false
open Go.Ab Go.RowKit

open Go.Aut
attribute [local irreducible] z12
def hasW(c:List UInt64)(b:Nat):Bool:=(c.getD (b / 64) 0).toNat.testBit (b%64)
theorem zb7{l:List UInt64}{k b:Nat}(hb:b< 256):hasW (clsAt l k) b=hasC l k b:=zm9 hb
theorem zn3{a b:List UInt64}(ha:a.length=4)(hb:b.length=4)(h:∀ x,x< 256→hasW a x=hasW b x):a=b:=by
  refine zi7 0 (ha.trans hb.symm) fun i hi=>word_eq fun j hj=>?_
  have:=h (64*i+j) (by omega)
  rwa [hasW,hasW,show(64*i+j) / 64=i by omega,show(64*i+j)%64=j by omega]at this
theorem zd8(g:UInt64→UInt64→UInt64)(a b:List UInt64){i:Nat}(h:i< 4):(zipC g a b).getD i 0=g (a.getD i 0) (b.getD i 0):=by
  rw[zipC,zipK,z3t h,if_pos h]
theorem hasW_or(a b:List UInt64){x:Nat}(h:x< 256):hasW (orC a b) x=(hasW a x||hasW b x):=by
  rw[hasW,orC,zd8 _ _ _ (by omega),hasW,hasW,UInt64.toNat_or,Nat.testBit_or]
theorem zik(a b:List UInt64){x:Nat}(h:x< 256):hasW (andC a b) x=(hasW a x&&hasW b x):=by
  rw[hasW,andC,zd8 _ _ _ (by omega),hasW,hasW,UInt64.toNat_and,Nat.testBit_and]
theorem zil(a:List UInt64){x:Nat}(h:x< 256):hasW (notK a) x= !hasW a x:=by
  have e:∀ y:UInt64,∀ j,j< 64→(~~~y).toNat.testBit j= !y.toNat.testBit j:=fun y j hj=>by
    show(~~~y).toBitVec.getLsbD j= !y.toBitVec.getLsbD j
    rw[show(~~~y).toBitVec= ~~~y.toBitVec from rfl,BitVec.getLsbD_not]
    simp[hj]
  rw[hasW,notK,zd8 _ _ _ (by omega),hasW,e _ _ (Nat.mod_lt _ (by decide))]
theorem z51(x:Nat):hasW Z4 x=false:=by
  rw[hasW,List.getD_eq_getElem?_getD,List.getElem?_replicate]
  split<;>simp
theorem z6t(l:List UInt64){x:Nat}(h:x< 256):∀ k,hasW (seenL l k) x=true↔∃ c,c< k∧hasC l c x=true
  | 0=>by
    rw[seenL,z51];exact⟨fun h=>(by cases h),fun⟨c,hc,_⟩=>absurd hc (Nat.not_lt_zero c)⟩
  | k +1=>by
    rw[seenL,hasW_or _ _ h,Bool.or_eq_true,z6t l h k,zb7 h]
    constructor
    · rintro (⟨c,hc,e⟩|e)
      · exact⟨c,by omega,e⟩
      · exact⟨k,by omega,e⟩
    · rintro ⟨c,hc,e⟩
      by_cases hk:c=k
      · subst hk;exact .inr e
      · exact .inl ⟨c,by omega,e⟩
theorem zb8 {l:List UInt64} {nc k:Nat} (hl:l.length=nc*4) (hk:k< nc):z24 l k=true↔(∃ x,x< 256∧hasC l k x=true)∧∀ x,x< 256→∀ c,c< k→hasC l c x=true→hasC l k x=false:=by
  have h4:=z49 hl hk
  rw[z24,Bool.and_eq_true,Bool.not_eq_true',decide_eq_false_iff_not,decide_eq_true_eq];refine and_congr ?_ ?_
  · constructor
    · intro h
      refine Classical.byContradiction fun hn=>h (zn3 h4 (by simp) fun x hx=>?_);rw[z51,zb7 hx]
      cases e:hasC l k x with
      |false=>rfl
      |true=>exact absurd ⟨x,hx,e⟩ hn
    · rintro ⟨x,hx,e⟩ h
      rw[←zb7 hx,h,z51]at e;cases e
  · constructor
    · intro h x hx c hc e
      have h1:=congrArg (fun a=>hasW a x) h
      simp only[zik _ _ hx,z51,(z6t l hx k).2 ⟨c,hc,e⟩,Bool.true_and]at h1
      rw[zb7 hx]at h1;exact h1
    · intro h
      refine zn3 (by simp[andC,zipC,zipK]) (by simp) fun x hx=>?_;rw[zik _ _ hx,z51,zb7 hx]
      cases e:hasW (seenL l k) x with
      |false=>rfl
      | true=>
        obtain⟨c,hc,e'⟩:=(z6t l hx k).1 e;rw[h x hx c hc e'];rfl
theorem clsP_iff {l:List UInt64} {nc:Nat} (hl:l.length=nc*4):clsP l nc=true↔(∀ b,b< 256→∃ c,c< nc∧∀ x,x< nc→(hasC l x b=true↔x=c))∧∀ c,c< nc→∃ b,b< 256∧hasC l c b=true:=by
  rw[clsP,Bool.and_eq_true,List.all_eq_true,decide_eq_true_eq]
  have hn:notK (seenL l nc)=Z4↔∀ x,x< 256→∃ c,c< nc∧hasC l c x=true:=by
    constructor
    · intro h x hx
      have h1:=congrArg (fun a=>hasW a x) h
      simp only[zil _ hx,z51,Bool.not_eq_false']at h1
      exact(z6t l hx nc).1 h1
    · intro h
      refine zn3 (by simp[notK,zipC,zipK]) (by simp) fun x hx=>?_;rw[zil _ hx,z51,(z6t l hx nc).2 (h x hx)];rfl
  rw[hn]
  constructor
  · rintro ⟨h1,h2⟩
    have h1:∀ k,k< nc→_:=fun k hk=>(zb8 hl hk).1 (h1 k (List.mem_range.2 hk))
    refine⟨fun b hb=>?_,fun c hc=>(h1 c hc).1⟩;obtain⟨c,hc,e⟩:=h2 b hb;refine⟨c,hc,fun x hx=>⟨fun hx'=>?_,fun e'=>e'▸e⟩⟩
    rcases Nat.lt_trichotomy x c with h|h|h
    · have:=(h1 c hc).2 b hb x h hx';rw[e]at this;cases this
    · exact h
    · have:=(h1 x hx).2 b hb c h e;rw[hx']at this;cases this
  · rintro ⟨h1,h2⟩
    refine⟨fun k hk=>?_,fun x hx=>?_⟩
    · have hk:=List.mem_range.1 hk
      refine(zb8 hl hk).2 ⟨h2 k hk,fun x hx c hc e=>?_⟩;obtain⟨c',hc',e'⟩:=h1 x hx
      cases e2:hasC l k x with
      |false=>rfl
      | true=>
        have a:=(e' c (by omega)).1 e
        have b:=(e' k hk).1 e2
        omega
    · obtain⟨c,hc,e⟩:=h1 x hx
      exact⟨c,hc,(e c hc).2 rfl⟩
def _root_.Go.Aut.Dfa.good(d:Dfa):Prop:=d.ok∧d.next.length≤64
theorem zf6{nc n:Nat}{r:List Int}:rowOK nc n r=true↔r.length=nc∧∀ t∈r,0≤t∧t< (n:Nat):=by
  rw[rowOK,Bool.and_eq_true,decide_eq_true_eq,List.all_eq_true]
  simp only[tgtOK,Bool.and_eq_true,decide_eq_true_eq]
theorem z93{d:Dfa}(hw:d.wf):z3g d=true↔d.good:=by
  rw[z3g,Bool.and_eq_true,Bool.and_eq_true,decide_eq_true_eq,clsP_iff hw.1,List.all_eq_true]
  constructor
  · rintro ⟨⟨⟨h1,h2,h3,h4,h5⟩,h6,h7⟩,h8⟩
    exact⟨⟨hw.1,h1,h3,h4,h5,h6,h7,fun r hr=>zf6.1 (h8 r hr)⟩,h2⟩
  · rintro ⟨h,h2⟩
    exact⟨⟨⟨h.npos,h2,h.alen,h.cpos,h.cmax⟩,h.part,h.full⟩,fun r hr=>zf6.2 (h.rows r hr)⟩
theorem good_wf{d:Dfa}(h:d.good):d.wf:=by
  obtain⟨h,h2⟩:=h;refine⟨h.clen,by have:=h.cmax;omega,by omega,by rw[h.alen];omega,fun r hr=>by have:=(h.rows r hr).1;have:=h.cmax;omega⟩
theorem zkq{d:Dfa}(h:d.good):z3g d=true:=(z93 (good_wf h)).2 h
def z10(cell:List Int)(nc:Nat)(x y:Cell):List Cell:=cell.map (Cell.int .i64)++[.int .i64 nc,x,y]
abbrev tabC(t:Tab):Cont:=.cells (z10 t.cell t.nc (.ds t.next.length (.cells (rowsC t.next))) (.ds t.acc.length (.bools t.acc)))
abbrev tabV(t:Tab):SV:=.agg (tabC t)
theorem z0t{cell:List Int}{nc:Nat}{x y:Cell}(h:cell.length=256):(z10 cell nc x y).length=259:=by simp[z10,h]
theorem tab_cell{cell:List Int}{nc:Nat}{x y:Cell}(h:cell.length=256){b:Nat}(hb:b< 256):(Cont.cells (z10 cell nc x y)).get b= .int .i64 (cell.getD b 0):=by
  show(z10 cell nc x y).getD b .nils=_
  rw[z10,List.getD_eq_getElem?_getD,List.getElem?_append_left (by simpa [h]using hb),List.getElem?_map,at_of (d:=0) (by omega)];rfl
theorem zim{cell:List Int}{nc:Nat}{x y:Cell}(h:cell.length=256)(j:Nat):(Cont.cells (z10 cell nc x y)).get (256+j)=[Cell.int .i64 nc,x,y].getD j .nils:=by
  show(z10 cell nc x y).getD (256+j) .nils=_
  rw[z10,List.getD_eq_getElem?_getD,List.getElem?_append_right (by simp[h]),List.getD_eq_getElem?_getD]
  congr 2;simp[h]
theorem tab_set{cell:List Int}{nc:Nat}{x y:Cell}(h:cell.length=256){b:Nat}(hb:b< 256)(v:Int):(z10 cell nc x y).set b (.int .i64 v)=z10 (cell.set b v) nc x y:=by
  rw[z10,z10,List.set_append_left _ _ (by simpa [h]using hb),List.map_set]
theorem zgy{cell:List Int}{nc n:Nat}{x y:Cell}(hx:x.low n)(hy:y.low n):(Cont.cells (z10 cell nc x y)).low n:=fun z hz=>by
  rcases List.mem_append.1 hz with hz|hz
  · obtain⟨v,_,rfl⟩:=List.mem_map.1 hz;trivial
  · rcases List.mem_cons.1 hz with rfl|hz
    · trivial
    · rcases List.mem_cons.1 hz with rfl|hz
      · exact hx
      · rw[List.mem_singleton.1 hz];exact hy
theorem allD_app{a b:List Cell}(ha:allD a)(hb:allD b):allD (a++b):=by
  induction a with
  |nil=>exact hb
  |cons x a ih=>exact⟨ha.1,ih ha.2⟩
theorem zn4{k:IntKind}(l:List Int):allD (l.map (Cell.int k)):=by
  induction l with
  |nil=>trivial
  |cons x l ih=>exact⟨trivial,ih⟩
theorem allD_tab(t:Tab):allD (z10 t.cell t.nc (.ds t.next.length (.cells (rowsC t.next))) (.ds t.acc.length (.bools t.acc))):=allD_app (zn4 _) ⟨trivial,trivial,trivial,trivial⟩
theorem zn5(t:Tab){n:Nat}:(tabC t).low n:=zgy trivial trivial
theorem zn6{a b:List Cell}(ha:z57 a)(hb:z57 b):z57 (a++b):=by
  induction a with
  |nil=>exact hb
  |cons x a ih=>exact⟨ha.1,ih ha.2⟩
theorem zca{k:IntKind}(l:List Int):z57 (l.map (Cell.int k)):=by
  induction l with
  |nil=>trivial
  |cons x l ih=>exact⟨trivial,ih⟩
theorem zb9{cell:List Int}{nc:Nat}{x y:Cell}(hx:x.solid)(hy:y.solid):z57 (z10 cell nc x y):=zn6 (zca _) ⟨trivial,hx,hy,trivial⟩
theorem zkr{ty:Nat→Ty}{H:Heap}{is:List Nat}{ρ:Nat→Nat}{k:IntKind}(l:List Int):allTo (Cell.to ty H is ρ) (l.map (Cell.int k)) (l.map (Cell.int k)):=by
  induction l with
  |nil=>trivial
  |cons x l ih=>exact⟨⟨rfl,rfl⟩,ih⟩
theorem z94{f:Cell→Cell→Prop}:∀ {a b c d:List Cell},allTo f a c→allTo f b d→allTo f (a++b) (c++d)
  |[],_,[],_,_,h=>h
  |_::_,_,_::_,_,h,k=>⟨h.1,z94 h.2 k⟩
  |[],_,_::_,_,h,_=>h.elim
  |_::_,_,[],_,h,_=>h.elim
theorem z8c{ty:Nat→Ty}{H:Heap}{is:List Nat}{ρ:Nat→Nat}{cell:List Int}{nc:Nat}{x y x' y':Cell}(hx:Cell.to ty H is ρ x x')(hy:Cell.to ty H is ρ y y'):allTo (Cell.to ty H is ρ) (z10 cell nc x y) (z10 cell nc x' y'):=
  z94 (zkr _) ⟨⟨rfl,rfl⟩,hx,hy,trivial⟩
def zba:List Int:=List.replicate 256 0
theorem z31:zba.length=256:=List.length_replicate
theorem tab0_eq(nc:Nat)(x y:Cell):List.replicate 256 (Cell.int .i64 0)++[.int .i64 nc,x,y]=z10 zba nc x y:=by rw[z10,zba,List.map_replicate]
theorem zks(nc:Nat)(x y:Cell):((Cont.cells (List.replicate 257 (Cell.int .i64 0)++List.replicate 2 .nils)).sub 0 256).list++([.int .i64 nc]++([x]++([y]++[])))=z10 zba nc x y:=by
  rw[←tab0_eq]
  show List.take 256 (List.drop 0 (List.replicate 257 _++List.replicate 2 _))++_=_
  rw[List.drop_zero,List.take_append_of_le_length (by rw[List.length_replicate];decide),List.take_replicate]
  rfl
def zl:List Cell:=List.replicate 257 (Cell.int .i64 0)++List.replicate 2 .nils
theorem z7e:zl.length=259:=by rw[zl,List.length_append,List.length_replicate,List.length_replicate]
theorem zbb{ty:Nat→Ty}{H:Heap}{is:List Nat}{ρ:Nat→Nat}{x:Cell}(h:Cell.to ty H is ρ x x):∀ n,allTo (Cell.to ty H is ρ) (List.replicate n x) (List.replicate n x)
  |0=>trivial
  |n+1=>⟨h,zbb h n⟩
theorem zn7{ty:Nat→Ty}{H:Heap}{is:List Nat}{ρ:Nat→Nat}:allTo (Cell.to ty H is ρ) (List.replicate 257 (Cell.int .i64 0)++List.replicate 2 .nils) zl:=z94 (zbb (x:=.int .i64 0) ⟨rfl,rfl⟩ _) (zbb (x:=.nils) (by first|exact trivial|exact⟨rfl,rfl⟩|exact rfl) _)
theorem zl_to{ty:Nat→Ty}{H:Heap}{is:List Nat}{ρ:Nat→Nat}:allTo (Cell.to ty H is ρ) zl zl:=zn7
theorem zn8{n:Nat}:(Cont.cells zl).low n:=fun x hx=>by
  rcases List.mem_append.1 hx with h|h
  · rw[(List.mem_replicate.1 h).2];trivial
  · rw[(List.mem_replicate.1 h).2];trivial
theorem cells0_K(d:Dfa):zba=z1h d 0:=(zb1 d).symm
theorem tab_toE{ty:Nat→Ty}{H:Heap}{is:List Nat}{ρ:Nat→Nat}{cell cell':List Int}{nc:Nat}{x y x' y':Cell}{n:Nat}{v:Int}(hc:cell.length=256)(hn:n< 256)(e:cell.set n v=cell')(hx:Cell.to ty H is ρ x x')(hy:Cell.to ty H is ρ y y'):allTo (Cell.to ty H is ρ) ((z10 cell nc x y).set n (.int .i64 v)) (z10 cell' nc x' y'):=by
  rw[tab_set hc hn,e];exact z8c hx hy
theorem zin(l:List Int)(bs:List UInt8)(k:Int):putB l (bs.take 0) k=l:=rfl

end Go.Proofs.YtegdcifghaldoaaDoor

namespace Go.Proofs.YtegdcifghaldoaaDoor
set_option linter.all false
open Go.Ab Go.RowKit

section
variable {a b:Prop}
theorem qUh0(h:a:=by first|exact vcA|(simp[hclen,z0t,z7e,-List.reduceReplicate]<;>omega)|exact zb9 trivial trivial|(show _< (z10 _ _ _ _).length;rw[z0t (by simp)];omega)|(simp[z7e,-List.reduceReplicate];done)|(simp[z0t,z7e,-List.reduceReplicate];done)|(show(z10 _ _ _ _).length=259;exact z0t (by simp))|(show 259=(z10 _ _ _ _).length;exact(z0t (by simp)).symm)|exact vcB):a:=h
theorem qUh1(h:a:=by first|exact vcA|(simp[hclen,z0t,z7e,-List.reduceReplicate]<;>omega)|(simp[hclen];omega)|(simp[hcl];done)|exact vcB):a:=h
theorem qUh2(h:a:=by first|exact vcA|(simp[hclen,z0t,z7e,-List.reduceReplicate]<;>omega)|(simp[hcl];done)|exact vcB):a:=h
theorem uUh_0(h:a:=by
    repeat' (first|exact zn8|exact zl_to|exact zn7|exact zgy trivial trivial|exact z8c ⟨rfl,rfl⟩ ⟨rfl,rfl⟩|exact zd6 _|exact z7e.symm|exact z7e|(show Cont.low _ (Cont.cells (List.replicate 257 _++_));exact zn8)|exact trivial|refine aI ?_ ?_|exact cC0|refine low_cons' ?_ ?_|exact cC1|fail)
    all_goals first|omega|(show Cont.to _ _ _ _ _ _;rw[zin];exact z8c ⟨rfl,rfl⟩ ⟨rfl,rfl⟩)|(show Cont.to _ _ _ _ _ _;exact tab_toE (by simp) hset.1 hset.2 ⟨rfl,rfl⟩ ⟨rfl,rfl⟩)|(simp[-List.reduceReplicate];done)|(simp[-List.reduceReplicate]<;>omega)|skip):a:=h
theorem DUh_0(kZ:b)(h:HidB b→a:=by intro kZ;(repeat first|refine aI qUh0 ?_|refine z0d qUh0 ?_|refine z0a qUh0 ?_|refine z0p qUh0 ?_|refine z0e ?_);exact kZ.out):a:=h ⟨kZ⟩
theorem z6u(kZ:b)(h:HidB b→a:=by intro kZ;refine sX ?_;refine DUh_0 ?_;refine exI ?_;exact kZ.out):a:=h ⟨kZ⟩
theorem zgz(kZ:b)(h:HidB b→a:=by intro kZ;refine sX0 ?_;refine DUh_0 ?_;refine exI ?_;exact kZ.out):a:=h ⟨kZ⟩
theorem DUh_3(kZ:b)(h:HidB b→a:=by intro kZ;(repeat first|refine aI qUh1 ?_|refine z0d qUh1 ?_|refine z0a qUh1 ?_|refine z0p qUh1 ?_|refine z0e ?_);exact kZ.out):a:=h ⟨kZ⟩
theorem sXUh_4(kZ:b)(h:HidB b→a:=by intro kZ;refine sX ?_;refine DUh_3 ?_;refine exI ?_;exact kZ.out):a:=h ⟨kZ⟩
theorem sX0Uh_5(kZ:b)(h:HidB b→a:=by intro kZ;refine sX0 ?_;refine DUh_3 ?_;refine exI ?_;exact kZ.out):a:=h ⟨kZ⟩
theorem DUh_6(kZ:b)(h:HidB b→a:=by intro kZ;(repeat first|refine aI qUh2 ?_|refine z0d qUh2 ?_|refine z0a qUh2 ?_|refine z0p qUh2 ?_|refine z0e ?_);exact kZ.out):a:=h ⟨kZ⟩
theorem sXUh_7(kZ:b)(h:HidB b→a:=by intro kZ;refine sX ?_;refine DUh_6 ?_;refine exI ?_;exact kZ.out):a:=h ⟨kZ⟩
theorem sXEUh_8(kZ:b)(h:HidB b→a:=by intro kZ;refine sX ?_;refine DUh_0 ?_;exact kZ.out):a:=h ⟨kZ⟩
theorem sXEUh_9(kZ:b)(h:HidB b→a:=by intro kZ;refine sX ?_;refine DUh_3 ?_;exact kZ.out):a:=h ⟨kZ⟩
theorem sXEUh_10(kZ:b)(h:HidB b→a:=by intro kZ;refine sX ?_;refine DUh_6 ?_;exact kZ.out):a:=h ⟨kZ⟩
end
open Go.Aut
attribute [local irreducible] z12 zba zl z10 z1h putB
noncomputable def gt1:Ctx:={ P:=Tryd.prog,ty:=ty,glob:=gl,fs:=[(88,.data zgx)] }
theorem z5n:gt1.OK:=⟨tyOK,⟨⟨z07 Tryd.func88 kQf rfl,zf5⟩,trivial⟩,mixed⟩
@[simp] theorem gt1_ty:gt1.ty=ty:=rfl

def zio:QSpec:=fun vs K=>∃ d:Dfa,vs=[dfaV d]∧d.good∧K (tabV (tabD d))
theorem zkt:z47 Tryd.prog gl 59 zio:=by
 refine z3s (Γ:=gt1) (N:=38) Tryd.func59 rfl rfl fun vs K h=>?_;obtain⟨d,rfl,⟨hok,hn64⟩,h⟩:=h;refine⟨_,h,zn5 _,by simp,fun w I=>?_⟩
 have hclen:=hok.clen
 have hc256:=hok.cmax
 refine srR z5n fun _ K2=>?_
 iterate 2 refine z6u ?_
 refine s_n K2 ?_;refine seq_k fun _ K3=>?_;refine leW [] id [(1,.c (.ptr 0 0)),(2,.c (.ptr 1 0))] [(0,.own 65 (dfaC d) 3),(1,.own 123 (.cells zl) 259)] 2 [0,1] uUh_0 uUh_0 uUh_0 uUh_0 ?_;refine region_c z5n [9] fun _ K4=>?_
 simp only[wpC,List.take_succ_cons,List.take_zero,List.drop_succ_cons,List.drop_zero]
 iterate 7 refine z6u ?_
 refine sXEUh_8 ?_;refine exA (.agg (.cells (z10 (z1h d 0) d.nc (.ds d.next.length (.cells (rowsC d.next))) (.ds d.acc.length (.bools d.acc))))) (as_eq (congrArg (fun l=>SV.agg (Cont.cells l)) (by rw[←cells0_K];exact zks _ _ _))) ?_;refine z6u ?_;refine s_nil ?_;refine c_le (is:=[]) (ρ:=id) (E':=[(1,.c (.ptr 0 0)),(2,.c (.ptr 1 0)),(3,.c (.ptr 2 0)),(15,.agg (.cells (z10 (z1h d 0) d.nc (.ds d.next.length (.cells (rowsC d.next))) (.ds d.acc.length (.bools d.acc)))))]) (H':=[(0,.own 65 (dfaC d) 3),(1,.own 123 (.cells zl) 259),(2,.own 123 (.cells zl) 259)]) (n':=3) ⟨?_,?_,(by decide:List.Nodup ([0,1,2]:List Nat)),?_,?_,?_⟩ ?_
 ·exact uUh_0
 ·exact uUh_0
 ·exact uUh_0
 ·exact uUh_0
 ·exact⟨Nat.zero_le _,fun i hi=>absurd hi (Nat.not_lt_zero i)⟩
 refine zgz ?_;refine s_n K4 ?_;apply K3;refine seq_k fun _ K5=>?_;refine srR z5n fun _ K7=>?_
 iterate 4 refine z6u ?_
 refine s_n K7 ?_;refine z0c ?_;refine z13 (α:=Nat) (fun i=>[(2,.c (.ptr 1 0)),(3,.c (.ptr 2 0)),(17,.c (.ds d.nc (.u64s d.cls))),(18,.c (.int .i64 d.nc)),(19,.c (.int .i64 (i:Nat)))]) (fun i=>[(0,.own 65 (dfaC d) 3),(1,.own 123 (.cells zl) 259),(2,.own 123 (.cells (z10 (z1h d i) d.nc (.ds d.next.length (.cells (rowsC d.next))) (.ds d.acc.length (.bools d.acc)))) 259)]) 3 (fun i=>i≤d.nc) (fun i=>d.nc - i) ?_ ?_
 ·refine dnS [] id 0 (Nat.zero_le _) [0,1,2] uUh_0 uUh_0 uUh_0 uUh_0
 ·intro i hi
  refine srR z5n fun _ K9=>?_;refine z6u ?_;refine s_n K9 ?_;refine seq_k fun _ K10=>?_;refine z08 (b:=_) rfl (fun h_t20=>?_) (fun h_t20=>?_)
  ·try simp only[dQ,reduceIte]at h_t20
   refine z0g ?_;apply K10;refine seq_k fun _ K11=>?_;refine z0c ?_
   have hin:i< d.nc:=by omega
   have hcl:=z49 hclen hin
   have hsub:(Cont.u64s d.cls).sub ((i:Int).toNat*4) (4*1)= .u64s (clsAt d.cls i):=rfl
   refine srR z5n fun _ K13=>?_
   iterate 2 refine sXUh_4 ?_
   refine sXEUh_9 ?_;refine exA (.agg (.u64s (clsAt d.cls i))) (SV.as_refl _) ?_
   iterate 2 refine sXUh_4 ?_
   refine sX0Uh_5 ?_;refine s_n K13 ?_;refine srR z5n fun _ K15=>?_;refine sXUh_7 ?_;refine sXEUh_10 ?_;refine⟨clsAt d.cls i,rfl,hcl,?_⟩;refine DUh_6 ?_
   first|refine exI ?_|(intro cap1 hcap1;refine exI ?_)
   iterate 2 refine sXUh_7 ?_
   refine s_n K15 ?_;refine z0c ?_;refine z13 (α:=Nat) (fun j=>[(2,.c (.ptr 1 0)),(3,.c (.ptr 2 0)),(17,.c (.ds d.nc (.u64s d.cls))),(18,.c (.int .i64 d.nc)),(19,.c (.int .i64 (i:Nat))),(4,.c (.int .i64 (i:Nat))),(25,.c (.ds (z12 (clsAt d.cls i)).length (.u8s (z12 (clsAt d.cls i))))),(26,.c (.int .i64 (z12 (clsAt d.cls i)).length)),(27,.c (.int .i64 (j:Nat)))]) (fun j=>[(0,.own 65 (dfaC d) 3),(1,.own 123 (.cells zl) 259),(2,.own 123 (.cells (z10 (putB (z1h d i) ((z12 (clsAt d.cls i)).take j) (i:Nat)) d.nc (.ds d.next.length (.cells (rowsC d.next))) (.ds d.acc.length (.bools d.acc)))) 259)]) 3 (fun j=>j≤(z12 (clsAt d.cls i)).length) (fun j=>(z12 (clsAt d.cls i)).length - j) ?_ ?_
   ·refine dnS [] id 0 (Nat.zero_le _) [0,1,2] uUh_0 uUh_0 uUh_0 uUh_0
   ·intro j hj
    refine srR z5n fun _ K17=>?_;refine z6u ?_;refine s_n K17 ?_;refine seq_k fun _ K18=>?_;refine z08 (b:=_) rfl (fun h_t28=>?_) (fun h_t28=>?_)
    ·try simp only[dQ,reduceIte]at h_t28
     refine z0g ?_;apply K18;refine seq_k fun _ K19=>?_;refine z0c ?_
     have hjn:j< (z12 (clsAt d.cls i)).length:=by omega
     have hbl:=z73 (clsAt d.cls i)
     refine srR z5n fun _ K21=>?_
     iterate 3 refine z6u ?_
     refine s_n K21 ?_
     have hbt:((z12 (clsAt d.cls i)).getD ((j:Int).toNat*1) 0).toNat< 256:=UInt8.toNat_lt _
     refine z06 z5n fun _ K22=>?_
     iterate 4 refine z6u ?_
     refine zgz ?_;refine s_n K22 ?_;refine z0b ?_;apply K19;refine z06 z5n fun _ K23=>?_
     iterate 2 refine z6u ?_
     refine s_n K23 ?_
     have hset:(0+0+((((z12 (clsAt d.cls i)).getD ((j:Int).toNat*1) 0).toNat:Nat):Int).toNat*1)< 256∧(putB (z1h d i) ((z12 (clsAt d.cls i)).take j) (i:Nat)).set (0+0+((((z12 (clsAt d.cls i)).getD ((j:Int).toNat*1) 0).toNat:Nat):Int).toNat*1) (i:Nat)=putB (z1h d i) ((z12 (clsAt d.cls i)).take (j+1)) (i:Nat):=by
      have e:(0+0+((((z12 (clsAt d.cls i)).getD ((j:Int).toNat*1) 0).toNat:Nat):Int).toNat*1)=((z12 (clsAt d.cls i)).getD j 0).toNat:=by rw[Int.toNat_natCast,Int.toNat_natCast,Nat.mul_one,Nat.mul_one,Nat.zero_add]
      rw[e];exact⟨UInt8.toNat_lt _,zew (z1h d i) (i:Nat) hjn⟩
     refine dnS [] id (j+1) ⟨by omega,by omega⟩ [0,1,2] uUh_0 uUh_0 uUh_0 uUh_0
    ·try simp only[dQ,reduceIte]at h_t28
     refine z0z ?_;refine z03 ?_;refine z03 ?_;refine z0s ?_;refine z0b ?_;apply K11;refine z06 z5n fun _ K24=>?_
     iterate 2 refine z6u ?_
     refine s_n K24 ?_
     obtain rfl:j=(z12 (clsAt d.cls i)).length:=by omega
     have hstep:putB (z1h d i) (z12 (clsAt d.cls i)) (i:Nat)=z1h d (i+1):=zb2 hok hin
     rw[List.take_length,hstep];refine dnS [] id (i+1) ⟨by omega,by omega⟩ [0,1,2] uUh_0 uUh_0 uUh_0 uUh_0
  ·try simp only[dQ,reduceIte]at h_t20
   refine z0z ?_;refine z03 ?_;refine z03 ?_;refine z0s ?_;apply K5;refine srR z5n fun _ K26=>?_;refine z6u ?_;refine zgz ?_;refine s_n K26 ?_
   obtain rfl:i=d.nc:=by omega
   refine z09 (z1a z5n (fun _ _ h=>h) (zn5 _) [] [.cell 2 123] rfl ?_)
   repeat first|refine aI (by first|omega|(simp[z0t,z7e,-List.reduceReplicate];done)|exact zb9 trivial trivial) ?_|refine z0d (z0t (zd3 _ _)) ?_
   all_goals exact uUh_0


end Go.Proofs.YtegdcifghaldoaaDoor

namespace Go.Proofs.YtegdcifghaldoaaDoor
set_option linter.all false
open Go.Ab Go.RowKit

section
variable {a b:Prop}
theorem qUi0(h:a:=by first|exact vcA|(simp[-List.reduceReplicate]<;>omega)|exact vTh|exact vcB):a:=h
theorem uUi_0(h:a:=by
    repeat' (first|exact pT|exact trivial|refine aI ?_ ?_|exact cC0|refine low_cons' ?_ ?_|exact cC1|fail)
    all_goals first|omega|(show(_:Int)=_;rw[zbc t hkl];done)|(show(0:Nat)< (z10 _ _ _ _).length;rw[z0t hcl];decide)|(simp[-List.reduceReplicate];done)|(simp[-List.reduceReplicate]<;>omega)|skip):a:=h
theorem DUi_0(kZ:b)(h:HidB b→a:=by intro kZ;(repeat first|refine aI qUi0 ?_|refine z0d qUi0 ?_|refine z0a qUi0 ?_|refine z0p qUi0 ?_|refine z0e ?_);exact kZ.out):a:=h ⟨kZ⟩
theorem z5a(kZ:b)(h:HidB b→a:=by intro kZ;refine sX ?_;refine DUi_0 ?_;refine exI ?_;exact kZ.out):a:=h ⟨kZ⟩
theorem sX0Ui_2(kZ:b)(h:HidB b→a:=by intro kZ;refine sX0 ?_;refine DUi_0 ?_;refine exI ?_;exact kZ.out):a:=h ⟨kZ⟩
theorem zf7(kZ:b)(h:HidB b→a:=by intro kZ;refine qX ?_;refine DUi_0 ?_;refine exI ?_;exact kZ.out):a:=h ⟨kZ⟩
theorem zd9(kZ:b)(h:HidB b→a:=by intro kZ;refine sX ?_;refine DUi_0 ?_;exact kZ.out):a:=h ⟨kZ⟩
theorem zda(kZ:b)(h:HidB b→a:=by intro kZ;refine qX ?_;refine DUi_0 ?_;exact kZ.out):a:=h ⟨kZ⟩
end
open Go.Aut
theorem tab_nx{t:Tab}(h:t.cell.length=256):(tabC t).get (0+257)= .ds t.next.length (.cells (rowsC t.next)):=by rw[Nat.zero_add,zim h 1];rfl
theorem tab_ac{t:Tab}(h:t.cell.length=256):(tabC t).get (0+258)= .ds t.acc.length (.bools t.acc):=by rw[Nat.zero_add,zim h 2];rfl
theorem tab_cl{t:Tab}(h:t.cell.length=256){b i:Nat}(hi:i=b)(hb:b< 256):(tabC t).get i= .int .i64 (t.cell.getD b 0):=by rw[hi];exact tab_cell h hb
theorem zl_len':(Cont.cells (List.replicate 257 (Cell.int .i64 0)++List.replicate 2 .nils)).len=259:=by
  simp only[z6s,List.length_append,List.length_replicate]
theorem tab_fits{cell:List Int}{nc:Nat}{x y:Cell}(h:cell.length=256):0+(Cont.cells (z10 cell nc x y)).len≤(Cont.cells (List.replicate 257 (Cell.int .i64 0)++List.replicate 2 .nils)).len:=by
  rw[zl_len']
  show 0+(z10 cell nc x y).length≤259
  rw[z0t h];decide
theorem zn9{cell:List Int}{nc:Nat}{x y:Cell}(h:cell.length=256):(Cont.cells (List.replicate 257 (Cell.int .i64 0)++List.replicate 2 .nils)).len=(Cont.cells (z10 cell nc x y)).len:=by
  rw[zl_len'];exact(z0t h).symm
theorem row_at{l:List (List Int)}{i j:Nat}(h:i< l.length∧j=i):(Cont.cells (rowsC l)).get j= .ds (l.getD i []).length (.ints .i64 (l.getD i [])):=by rw[h.2];exact zig h.1
theorem zku{tf:Nat→Ty}{H:Heap}{is:List Nat}{ρ:Nat→Nat}(l:List (List Int)):allTo (Cell.to tf H is ρ) (rowsC l) (rowsC l):=by
  induction l with
  |nil=>trivial
  |cons r l ih=>exact⟨⟨rfl,rfl⟩,ih⟩
theorem cellN{t:Tab}(h:t.ok){b:Nat}(hb:b< 256):(tblT t).cell b< t.nc∧t.cell.getD b 0=((tblT t).cell b:Nat):=Tab.cell_lt h hb
theorem nextN{t:Tab}(h:t.ok){s c:Nat}(hs:s< t.next.length)(hc:c< t.nc):(tblT t).δ s c< t.next.length∧(t.next.getD s []).getD c 0=((tblT t).δ s c:Nat):=Tab.next_lt h hs hc
theorem rowLen{t:Tab}(h:t.ok){s:Nat}(hs:s< t.next.length):(t.next.getD s []).length=t.nc:=(h.rows _ (by rw[z65 hs];exact List.getElem_mem _)).1
theorem zna(w:List UInt8):Bytes (w.map UInt8.toNat):=fun x hx=>by
  obtain⟨b,_,rfl⟩:=List.mem_map.1 hx;exact b.toNat_lt
def wN(w:List UInt8):List Nat:=w.map UInt8.toNat
def z8d(d:Dfa)(w:List UInt8):Bool:=z3g d&&langD d (wN w)
def stAt(t:Tab)(w:List UInt8)(k:Nat):Nat:=(tblT t).run 0 ((wN w).take k)
theorem zbc(t:Tab){w:List UInt8}{k:Nat}(h:k< w.length):stAt t w (k+1)=(tblT t).δ (stAt t w k) ((tblT t).cell (w.getD k 0).toNat):=by
  have hk:k< (wN w).length:=by simpa [wN]using h
  rw[stAt,List.take_add_one,at_of (d:=0) hk,Option.toList_some,Tbl.run_append]
  have:(wN w).getD k 0=(w.getD k 0).toNat:=by rw[z65 hk,z65 h];simp[wN]
  rw[this];rfl
theorem zh0{t:Tab}(h:t.ok){w:List UInt8}:∀ k,k≤w.length→stAt t w k< t.next.length
  |0,_=>h.npos
  | k+1,hk=>by
    rw[zbc t (by omega)];exact(nextN h (zh0 h k (by omega)) (cellN h (UInt8.toNat_lt _)).1).1
theorem stAt_all(t:Tab)(w:List UInt8):t.acc.getD (stAt t w w.length) false=(tblT t).lang 0 (wN w):=by
  have:(wN w).take w.length=wN w:=by rw[List.take_of_length_le];simp[wN]
  rw[stAt,this];rfl
theorem tab_lang{d:Dfa}(w:List UInt8):(tblT (tabD d)).lang 0 (wN w)=langD d (wN w):=zma d 0 (zna w)
attribute [local irreducible] z12 zba zl z10 z1h putB
noncomputable def gu1:Ctx:={ P:=Tryd.prog,ty:=ty,glob:=gl,fs:=[(58,.flat zgu),(59,.data zio)] }
theorem z5o:gu1.OK:=⟨tyOK,⟨⟨z07 Tryd.func58 kQf rfl,zf1⟩,⟨z07 Tryd.func59 kQf rfl,zkt⟩,trivial⟩,mixed⟩
@[simp] theorem gu1_ty:gu1.ty=ty:=rfl

def ziq:QSpec:=fun vs K=>∃ (d:Dfa) (x:List UInt8),vs=[dfaV d,.c (.ds x.length (.u8s x))]∧(d.wf∧x.length≤9223372036854775807)∧K (.c (.bool (z8d d x)))
theorem zkv:z11 Tryd.prog gl 27 ziq:=by
 refine z0v (Γ:=gu1) (N:=37) Tryd.func27 rfl rfl fun vs K h=>?_;obtain⟨d,x,rfl,⟨hw,hwl⟩,h⟩:=h;refine⟨_,h,rfl,by simp,fun w I=>?_⟩;refine srR z5o fun _ K2=>?_
 iterate 2 refine z5a ?_
 refine s_n K2 ?_;refine seq_k fun _ K3=>?_;refine srR z5o fun _ K5=>?_;refine z5a ?_;refine zd9 ?_;refine⟨d,rfl,hw,?_⟩;refine DUi_0 ?_
 first|refine exI ?_|(intro cap1 hcap1;refine exI ?_)
 refine z5a ?_;refine s_n K5 ?_;refine z08 (b:=_) rfl (fun h_t11=>?_) (fun h_t11=>?_)
 ·try simp only[dQ,reduceIte]at h_t11
  refine srR z5o fun _ K7=>?_;refine z5a ?_;refine s_n K7 ?_;refine z09 (z02 z5o (fun _ _ h=>h) (by first|rfl|assumption) [.tmp 4] rfl ?_);refine rtD ?_
  show SV.c (.bool false)=_
  rw[z8d,show z3g d=false by simpa using h_t11,Bool.false_and]
 ·try simp only[dQ,reduceIte]at h_t11
  refine z0g ?_;apply K3
  have hg:=(z93 hw).1 (by simpa using h_t11)
  obtain⟨t,htd⟩:∃ t,t=tabD d:=⟨_,rfl⟩
  have hok:t.ok:=htd▸z2g hg.1
  have hcl:=hok.clen
  refine srR z5o fun _ K9=>?_;refine z5a ?_;refine zd9 ?_;refine⟨d,rfl,hg,?_⟩;rw[←htd];refine DUi_0 ?_
  first|refine exI ?_|(intro cap1 hcap1;refine exI ?_)
  refine z5a ?_;refine sX0Ui_2 ?_;refine s_n K9 ?_;refine leW [1] id [(1,.c (.ds x.length (.u8s x))),(5,.c (.dp (tabC t) 0))] [] 0 [] uUi_0 uUi_0 uUi_0 uUi_0 ?_;refine srR z5o fun _ K11=>?_;refine z5a ?_;refine s_n K11 ?_;refine seq_k fun _ K12=>?_;refine srR z5o fun _ K14=>?_
  iterate 3 refine z5a ?_
  refine s_n K14 ?_;refine z0c ?_;refine z13 (α:=Nat) (fun k=>[(5,.c (.dp (tabC t) 0)),(14,.c (.ds x.length (.u8s x))),(15,.c (.int .i64 x.length)),(16,.c (.int .i64 (k:Nat))),(6,.c (.int .i64 (stAt t x k:Nat)))]) (fun k=>[]) 0 (fun k=>k≤x.length) (fun k=>x.length - k) ?_ ?_
  ·refine dnS [] id 0 (Nat.zero_le _) [] uUi_0 uUi_0 uUi_0 uUi_0
  ·intro k hk
   refine srR z5o fun _ K16=>?_;refine z5a ?_;refine s_n K16 ?_;refine seq_k fun _ K17=>?_;refine z08 (b:=_) rfl (fun h_t17=>?_) (fun h_t17=>?_)
   ·try simp only[dQ,reduceIte]at h_t17
    refine z0g ?_;apply K17;refine seq_k fun _ K18=>?_;refine z0c ?_
    have hkl:k< x.length:=by omega
    refine srR z5o fun _ K20=>?_
    iterate 3 refine z5a ?_
    refine s_n K20 ?_
    have hs:=zh0 hok k (by omega)
    have hb:=cellN hok (UInt8.toNat_lt (x.getD k 0))
    have hx:=nextN hok hs hb.1
    have hr:=rowLen hok hs
    have hbt:(x.getD ((k:Int).toNat*1) 0).toNat< 256:=UInt8.toNat_lt _
    refine zgj z5o kQf fun _ K21=>?_;refine zf7 ?_;refine zda ?_;refine exA (.c (.ds t.next.length (.cells (rowsC t.next)))) (as_c (tab_nx hcl)) ?_
    iterate 2 refine zf7 ?_
    refine zda ?_;refine exA (.c (.ds (t.next.getD (stAt t x k) []).length (.ints .i64 (t.next.getD (stAt t x k) [])))) (as_c (row_at ⟨hs,by omega⟩)) ?_
    iterate 3 refine zf7 ?_
    refine zda ?_;refine exA (.c (.int .i64 (((tblT t).cell (x.getD k 0).toNat:Nat):Int))) (as_c ((tab_cl hcl (by first|omega|(simp;done)) (UInt8.toNat_lt _)).trans (congrArg (Cell.int IntKind.i64) hb.2))) ?_;refine zf7 ?_;refine zda ?_;refine exA (.c (.int .i64 ((stAt t x (k+1):Nat):Int))) (as_i (by rw[zbc t hkl, ←hx.2];congr 1;omega)) ?_;refine zf7 ?_;refine q_n K21 ?_;refine z0b ?_;apply K18;refine z06 z5o fun _ K22=>?_
    iterate 2 refine z5a ?_
    refine s_n K22 ?_;refine dnS [] id (k+1) ⟨by omega,by omega⟩ [] uUi_0 uUi_0 uUi_0 uUi_0
   ·try simp only[dQ,reduceIte]at h_t17
    refine z0z ?_;refine z03 ?_;refine z03 ?_;refine z0s ?_;apply K12
    obtain rfl:k=x.length:=by omega
    have hs:=zh0 hok x.length (Nat.le_refl _)
    have hal:=hok.alen
    refine srR z5o fun _ K24=>?_;refine z5a ?_;refine zd9 ?_;refine exA (.c (.ds t.acc.length (.bools t.acc))) (as_c (tab_ac hcl)) ?_
    iterate 2 refine z5a ?_
    refine zd9 ?_;refine exA (.c (.bool (langD d (wN x)))) (as_b (by rw[←tab_lang, ←htd, ←stAt_all,Int.toNat_natCast,Nat.mul_one])) ?_;refine z5a ?_;refine s_n K24 ?_;refine z09 (z02 z5o (fun _ _ h=>h) (by first|rfl|assumption) [.tmp 4] rfl ?_);refine rtD ?_
    show SV.c (.bool _)=_
    rw[z8d,zkq hg,Bool.true_and]


end Go.Proofs.YtegdcifghaldoaaDoor
