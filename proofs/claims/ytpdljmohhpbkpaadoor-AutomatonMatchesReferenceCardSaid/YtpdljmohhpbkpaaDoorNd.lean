/- Contracts of functions and plain facts, part 4. -/
import Derived.Test.YtpdljmohhpbkpaaDoorNb
import Derived.Test.YtpdljmohhpbkpaaDoorNc
set_option linter.all false
set_option maxHeartbeats 1000000
set_option maxRecDepth 4000
namespace Go.Proofs.YtpdljmohhpbkpaaDoor
open Go.Ab Go.RowKit

section
variable {a b:Prop}
theorem pN(h:a:=by first|exact gG|(simp<;>omega)|exact gH):a:=h
theorem gp(h:a:=by first|exact gG|(simp[ha,hb]<;>omega)|exact gH):a:=h
theorem qT(h:a:=by first|exact gG|(simp[ha,hb]<;>omega)|(simp[ha,hb]<;>omega)|exact gH):a:=h
theorem oZ(h:a:=by first|exact gG|(simp[ha]<;>omega)|exact gH):a:=h
theorem rT(h:a:=by
    repeat' (first|exact trivial|refine aI ?_ ?_|exact iM|refine low_cons' ?_ ?_|exact iN|fail)
    all_goals first|omega|(show(_:List UInt64)=_;first|exact hst|(rw[hi1];exact hst)|rfl)|(simp[ha,hb];done)|(simp<;>omega)|exact uy si|skip):a:=h
end
def uz:List UInt8:=[0,1,56,2,57,49,28,3,61,58,42,50,38,29,17,4,62,47,59,36,45,43,51,22,53,39,33,30,24,18,12,5,63,55,48,27,60,41,37,16,46,35,44,21,52,32,23,11,54,26,40,15,34,20,31,10,25,14,19,9,13,8,7,6]
def gl:Nat->Option aB:=fun g=>if g=0 then some (.u8s uz)else none
noncomputable def g0:Ctx:={ P:=Tryd.prog,ty:=ty,glob:=gl,fs:=[] }
theorem aF:g0.OK:=⟨dS,trivial,mixed⟩
@[simp] theorem z0B:g0.ty=ty:=rfl
def KH(q:aW):aW:=fun vs K=>∃ v,q vs (fun u=>u=v)/\K v
theorem ZD{f:FuncId}{q:aW}(h:jJ Tryd.prog gl f q):jJ Tryd.prog gl f (KH q):=fun vs K ⟨v,hq,hK⟩=>by
  obtain⟨u,rfl,hf,hc⟩:=h vs _ hq;exact⟨_,hK,hf,hc⟩
def IP:aW:=fun vs K=>∃ x y:UInt64,vs=[.c (.u64 x),.c (.u64 y)]/\K (.c (.u64 (x &&& y)))
theorem EE:jJ Tryd.prog gl 76 IP:=by
 refine kU (Γ:=g0) (N:=8) Tryd.func76 rfl rfl fun vs K h=>?_;obtain⟨x,y,rfl,h⟩:=h;refine⟨_,h,rfl,by simp,fun w I=>?_⟩;refine aH fun _ K1=>bB aF fun _ K2=>qA ?_;refine aJ K2 (K1 _ _ _ (aH fun _ K3=>bB aF fun _ K4=>?_))
 iterate 2 refine qA ?_
 refine sS fun _ hS=>?_;(repeat refine aI pN ?_);apply hS;clear hS;refine qA ?_;refine aJ K4 (K3 _ _ _ (bQ (eU aF (fun _ _ h=>h) (by first|rfl|assumption) [.tmp 4] rfl ?_)))
 repeat refine aI (by first|omega|exact trivial|rfl|(simp<;>omega)) ?_
 try refine fT (by first|omega|exact trivial|rfl|(simp<;>omega)) ?_
 show _=_
 rfl

def O3:aW:=fun vs K=>∃ x y:UInt64,vs=[.c (.u64 x),.c (.u64 y)]/\K (.c (.u64 (x ||| y)))
theorem KV:jJ Tryd.prog gl 77 O3:=by
 refine kU (Γ:=g0) (N:=8) Tryd.func77 rfl rfl fun vs K h=>?_;obtain⟨x,y,rfl,h⟩:=h;refine⟨_,h,rfl,by simp,fun w I=>?_⟩;refine aH fun _ K1=>bB aF fun _ K2=>qA ?_;refine aJ K2 (K1 _ _ _ (aH fun _ K3=>bB aF fun _ K4=>?_))
 iterate 2 refine qA ?_
 refine sS fun _ hS=>?_;(repeat refine aI pN ?_);apply hS;clear hS;refine qA ?_;refine aJ K4 (K3 _ _ _ (bQ (eU aF (fun _ _ h=>h) (by first|rfl|assumption) [.tmp 4] rfl ?_)))
 repeat refine aI (by first|omega|exact trivial|rfl|(simp<;>omega)) ?_
 try refine fT (by first|omega|exact trivial|rfl|(simp<;>omega)) ?_
 show _=_
 rfl

def IQ:aW:=fun vs K=>∃ x y:UInt64,vs=[.c (.u64 x),.c (.u64 y)]/\K (.c (.u64 (~~~x)))
theorem EF:jJ Tryd.prog gl 78 IQ:=by
 refine kU (Γ:=g0) (N:=7) Tryd.func78 rfl rfl fun vs K h=>?_;obtain⟨x,y,rfl,h⟩:=h;refine⟨_,h,rfl,by simp,fun w I=>?_⟩;refine aH fun _ K1=>bB aF fun _ K2=>qA ?_;refine aJ K2 (K1 _ _ _ (aH fun _ K3=>bB aF fun _ K4=>qA ?_));refine sS fun _ hS=>?_;(repeat refine aI pN ?_);apply hS;clear hS;refine qA ?_;refine aJ K4 (K3 _ _ _ (bQ (eU aF (fun _ _ h=>h) (by first|rfl|assumption) [.tmp 4] rfl ?_)))
 repeat refine aI (by first|omega|exact trivial|rfl|(simp<;>omega)) ?_
 try refine fT (by first|omega|exact trivial|rfl|(simp<;>omega)) ?_
 show _=_
 rfl

noncomputable def gK(f:FuncId)(q:aW):Ctx:={ P:=Tryd.prog,ty:=ty,glob:=gl,fs:=[(f,.flat (KH q))] }
theorem kw{f:FuncId}{q:aW}(he:qJ Tryd.prog f)(h:jJ Tryd.prog gl f q):(gK f q).OK:=⟨dS,⟨⟨he,ZD h⟩,trivial⟩,mixed⟩
@[simp] theorem z0C{f:FuncId}{q:aW}:(gK f q).ty=ty:=rfl
theorem y0i{f:FuncId}{q:aW}:rV (gK f q).fs f=some (.flat (KH q)):=zpp (l:=[]) fun p hp=>by cases hp
def pZ(g:UInt64->UInt64->UInt64)(a b:List UInt64)(k:Nat):List UInt64:=(List.range 4).map fun i=>if i< k then g (a.getD i 0) (b.getD i 0)else 0
def l8(g:UInt64->UInt64->UInt64)(a b:List UInt64):List UInt64:=pZ g a b 4
@[simp] theorem zss(g:UInt64->UInt64->UInt64)(a b:List UInt64)(k:Nat):(pZ g a b k).length=4:=by simp[pZ]
@[simp] theorem Ld(g:UInt64->UInt64->UInt64)(a b:List UInt64):(l8 g a b).length=4:=zss ..
theorem y0j(g:UInt64->UInt64->UInt64)(a b:List UInt64){k:Nat}(h:k< 4):(pZ g a b k).set k (g (a.getD k 0) (b.getD k 0))=pZ g a b (k+1):=by
  refine List.ext_getElem (by simp) fun i h1 h2=>?_;rw[List.getElem_set]
  simp only[pZ,List.getElem_map,List.getElem_range]
  by_cases e:k=i
  · subst e;rw[if_pos rfl,if_pos (by omega)]
  · rw[if_neg e]
    by_cases e2:i< k
    · rw[if_pos e2,if_pos (by omega)]
    · rw[if_neg e2,if_neg (by omega)]
def TE(f:FuncId)(q:aW):aW:=fun vs K=>∃ g:UInt64->UInt64->UInt64,∃ a b:List UInt64,vs=[.agg (.u64s a),.agg (.u64s b),.c (.clo f [])]/\(a.length=4/\b.length=4)/\(∀ x y,q [.c (.u64 x),.c (.u64 y)] (fun v=>v= .c (.u64 (g x y))))/\K (.agg (.u64s (l8 g a b)))
theorem XN{cf:FuncId}{cq:aW}(hen:qJ Tryd.prog cf)(hok:jJ Tryd.prog gl cf cq):jJ Tryd.prog gl 75 (TE cf cq):=by
 refine kU (Γ:=gK cf cq) (N:=24) Tryd.func75 rfl rfl fun vs K h=>?_;obtain⟨g,a,b,rfl,⟨ha,hb⟩,hcall,h⟩:=h;refine⟨_,h,rfl,by simp,fun w I=>?_⟩
 have hlook:=y0i (f:=cf) (q:=cq)
 refine aH fun _ K1=>bB (kw hen hok) fun _ K2=>sS fun _ hS=>?_;(repeat refine aI gp ?_);apply hS;clear hS;refine sS fun _ hS=>?_;(repeat refine aI gp ?_);apply hS;clear hS;refine sS fun _ hS=>?_;(repeat refine aI gp ?_);apply hS;clear hS;refine aJ K2 (K1 _ _ _ (aH fun _ K3=>bB (kw hen hok) fun _ K4=>sS fun _ hS=>?_));(repeat refine aI gp ?_);apply hS;clear hS;refine aJ K4 (K3 _ _ _ (aH fun _ K5=>aH fun _ K6=>bB (kw hen hok) fun _ K7=>qA ?_));refine aJ K7 (K6 _ _ _ (bO (fM (α:=Nat) (fun k=>[(2,.c (.clo cf [])),(3,.c (.ptr 0 0)),(4,.c (.ptr 1 0)),(6,.c (.ptr 2 0)),(7,.c (.ptr 3 0)),(9,.c (.int .i64 k))]) (fun k=>[(0,.own 53 (.u64s a) 4),(1,.own 53 (.u64s b) 4),(2,.own 53 (.u64s (List.replicate 4 0)) 4),(3,.own 53 (.u64s (pZ g a b k)) 4)]) 4 (fun k=>k<=4) (fun k=>4 - k) ?_ ?_)))
 ·refine ai [] id 0 (Nat.zero_le _) [0,1,2,3] ?_ ?_ ?_ ?_
  ·exact rT
  ·exact rT
  ·exact rT
  ·exact rT
 ·intro k hk;refine aH fun _ K8=>bB (kw hen hok) fun _ K9=>sS fun _ hS=>?_;(repeat refine aI gp ?_);apply hS;clear hS;refine aJ K9 (K8 _ _ _ (aH fun _ K10=>bC (b:=_) rfl (fun h_t10=>?_) (fun h_t10=>?_)))
  ·try simp only[dQ,reduceIte]at h_t10
   refine bK (K10 _ _ _ (aH fun _ K11=>bO (aH fun _ K12=>bB (kw hen hok) fun _ K13=>?_)))
   iterate 2 refine qA ?_
   refine aJ K13 (K12 _ _ _ ?_)
   have hk4:k< 4:=by omega
   have hst:=y0j g a b hk4
   have hi1:0+(k:Int).toNat*1=k:=by omega
   refine ry (kw hen hok) [(0,true),(1,true),(2,true),(3,true),(4,true),(5,true),(6,true),(7,true),(8,false),(9,true),(10,false)] rfl aN aN fun _ K14=>?_
   iterate 3 refine Zy ?_
   refine dR fun _ hS=>?_;(repeat refine aI qT ?_);apply hS;clear hS;refine dR fun _ hS=>?_;(repeat refine aI qT ?_);(first|apply hS|(refine bW qT ?_;apply hS)|(refine fA ?_;apply hS));clear hS;refine Zy ?_;refine dR fun _ hS=>?_;(repeat refine aI qT ?_);apply hS;clear hS;refine dR fun _ hS=>?_;(repeat refine aI qT ?_);(first|apply hS|(refine bW qT ?_;apply hS)|(refine fA ?_;apply hS));clear hS;refine dG fun _ hS=>?_;refine zzi (xs:=[.u64 (a.getD (0+(k:Int).toNat*1) 0),.u64 (b.getD (0+(k:Int).toNat*1) 0)]) hlook (o8 zpo (o8 zpo si)) si ⟨_,hcall _ _,?_⟩;apply hS;clear hS;refine dR fun _ hS=>?_;(repeat refine aI qT ?_);apply hS;clear hS;refine D7 rfl rfl rfl fun _ hS=>?_
   repeat refine aI qT ?_
   first|apply hS|(refine dC qT ?_;apply hS)
   clear hS;refine iF K14 (dD (K11 _ _ _ (bB (kw hen hok) fun _ K15=>sS fun _ hS=>?_)));(repeat refine aI gp ?_);apply hS;clear hS;refine qA ?_;refine aJ K15 (ai [] id (k+1) ⟨by omega,by omega⟩ [0,1,2,3] ?_ ?_ ?_ ?_)
   ·exact rT
   ·exact rT
   ·exact rT
   ·exact rT
  ·try simp only[dQ,reduceIte]at h_t10
   refine eY (bJ (bJ (eX (K5 _ _ _ (aH fun _ K16=>bB (kw hen hok) fun _ K17=>sS fun _ hS=>?_)))));(repeat refine aI gp ?_);(first|apply hS|(refine bW gp ?_;apply hS)|(refine fA ?_;apply hS));clear hS;refine Qj fun _ hS=>?_;(repeat refine aI gp ?_);(first|apply hS|(refine dC gp ?_;apply hS));clear hS;refine aJ K17 (K16 _ _ _ (bQ (eU (kw hen hok) (fun _ _ h=>h) (by first|rfl|assumption) [.cell 6 53] rfl ?_)))
   repeat refine aI (by first|omega|exact trivial|rfl|(simp<;>omega)) ?_
   try refine fT (by first|omega|exact trivial|rfl|(simp<;>omega)) ?_
   obtain rfl:k=4:=by omega
   rfl

noncomputable def Vr:Ctx:={ P:=Tryd.prog,ty:=ty,glob:=gl,fs:=[(75,.flat (TE 76 IP))] }
theorem Xg:Vr.OK:=⟨dS,⟨⟨bX Tryd.func75 aN rfl,XN (bX Tryd.func76 aN rfl) EE⟩,trivial⟩,mixed⟩
@[simp] theorem M7:Vr.ty=ty:=rfl

def yU:aW:=fun vs K=>∃ a b:List UInt64,vs=[.agg (.u64s a),.agg (.u64s b)]/\(a.length=4/\b.length=4)/\K (.agg (.u64s (l8 (fun x y=>x &&& y) a b)))
theorem yV:jJ Tryd.prog gl 58 yU:=by
 refine kU (Γ:=Vr) (N:=8) Tryd.func58 rfl rfl fun vs K h=>?_;obtain⟨a,b,rfl,⟨ha,hb⟩,h⟩:=h;refine⟨_,h,rfl,by simp,fun w I=>?_⟩;refine aH fun _ K1=>bB Xg fun _ K2=>sS fun _ hS=>?_;(repeat refine aI gp ?_);apply hS;clear hS;refine sS fun _ hS=>?_;(repeat refine aI gp ?_);apply hS;clear hS;refine sS fun _ hS=>?_;(repeat refine aI gp ?_);apply hS;clear hS;refine aJ K2 (K1 _ _ _ (aH fun _ K3=>bB Xg fun _ K4=>sS fun _ hS=>?_));(repeat refine aI gp ?_);(first|apply hS|(refine bW gp ?_;apply hS)|(refine fA ?_;apply hS));clear hS;refine sS fun _ hS=>?_;(repeat refine aI gp ?_);(first|apply hS|(refine bW gp ?_;apply hS)|(refine fA ?_;apply hS));clear hS;refine sS fun _ hS=>?_;(repeat first|refine aI gp ?_|refine bW gp ?_|refine fA ?_);refine⟨fun x y=>x &&& y,a,b,rfl,⟨ha,hb⟩,fun x y=>⟨x,y,rfl,rfl⟩,?_⟩;(repeat refine aI gp ?_);(first|apply hS|(intro cap2 hcap2;apply hS));clear hS;refine Qj fun _ hS=>?_;(repeat refine aI gp ?_);(first|apply hS|(refine dC gp ?_;apply hS));clear hS;refine aJ K4 (K3 _ _ _ (bQ (eU Xg (fun _ _ h=>h) (by first|rfl|assumption) [.cell 4 53] rfl ?_)))
 repeat refine aI (by first|omega|exact trivial|rfl|(simp<;>omega)) ?_
 try refine fT (by first|omega|exact trivial|rfl|(simp<;>omega)) ?_
 show _=_
 rfl



noncomputable def Vs:Ctx:={ P:=Tryd.prog,ty:=ty,glob:=gl,fs:=[(75,.flat (TE 77 O3))] }
theorem Xh:Vs.OK:=⟨dS,⟨⟨bX Tryd.func75 aN rfl,XN (bX Tryd.func77 aN rfl) KV⟩,trivial⟩,mixed⟩
@[simp] theorem M8:Vs.ty=ty:=rfl

def Vt:aW:=fun vs K=>∃ a b:List UInt64,vs=[.agg (.u64s a),.agg (.u64s b)]/\(a.length=4/\b.length=4)/\K (.agg (.u64s (l8 (fun x y=>x ||| y) a b)))
theorem zv8:jJ Tryd.prog gl 59 Vt:=by
 refine kU (Γ:=Vs) (N:=8) Tryd.func59 rfl rfl fun vs K h=>?_;obtain⟨a,b,rfl,⟨ha,hb⟩,h⟩:=h;refine⟨_,h,rfl,by simp,fun w I=>?_⟩;refine aH fun _ K1=>bB Xh fun _ K2=>sS fun _ hS=>?_;(repeat refine aI gp ?_);apply hS;clear hS;refine sS fun _ hS=>?_;(repeat refine aI gp ?_);apply hS;clear hS;refine sS fun _ hS=>?_;(repeat refine aI gp ?_);apply hS;clear hS;refine aJ K2 (K1 _ _ _ (aH fun _ K3=>bB Xh fun _ K4=>sS fun _ hS=>?_));(repeat refine aI gp ?_);(first|apply hS|(refine bW gp ?_;apply hS)|(refine fA ?_;apply hS));clear hS;refine sS fun _ hS=>?_;(repeat refine aI gp ?_);(first|apply hS|(refine bW gp ?_;apply hS)|(refine fA ?_;apply hS));clear hS;refine sS fun _ hS=>?_;(repeat first|refine aI gp ?_|refine bW gp ?_|refine fA ?_);refine⟨fun x y=>x ||| y,a,b,rfl,⟨ha,hb⟩,fun x y=>⟨x,y,rfl,rfl⟩,?_⟩;(repeat refine aI gp ?_);(first|apply hS|(intro cap2 hcap2;apply hS));clear hS;refine Qj fun _ hS=>?_;(repeat refine aI gp ?_);(first|apply hS|(refine dC gp ?_;apply hS));clear hS;refine aJ K4 (K3 _ _ _ (bQ (eU Xh (fun _ _ h=>h) (by first|rfl|assumption) [.cell 4 53] rfl ?_)))
 repeat refine aI (by first|omega|exact trivial|rfl|(simp<;>omega)) ?_
 try refine fT (by first|omega|exact trivial|rfl|(simp<;>omega)) ?_
 show _=_
 rfl



noncomputable def yg:Ctx:={ P:=Tryd.prog,ty:=ty,glob:=gl,fs:=[(75,.flat (TE 78 IQ))] }
theorem Y5:yg.OK:=⟨dS,⟨⟨bX Tryd.func75 aN rfl,XN (bX Tryd.func78 aN rfl) EF⟩,trivial⟩,mixed⟩
@[simp] theorem O4:yg.ty=ty:=rfl

def IY:aW:=fun vs K=>∃ a:List UInt64,vs=[.agg (.u64s a)]/\a.length=4/\K (.agg (.u64s (l8 (fun x _=> ~~~x) a a)))
theorem EU:jJ Tryd.prog gl 60 IY:=by
 refine kU (Γ:=yg) (N:=6) Tryd.func60 rfl rfl fun vs K h=>?_;obtain⟨a,rfl,ha,h⟩:=h;refine⟨_,h,rfl,by simp,fun w I=>?_⟩;refine aH fun _ K1=>bB Y5 fun _ K2=>sS fun _ hS=>?_;(repeat refine aI oZ ?_);apply hS;clear hS;refine sS fun _ hS=>?_;(repeat refine aI oZ ?_);apply hS;clear hS;refine aJ K2 (K1 _ _ _ (aH fun _ K3=>bB Y5 fun _ K4=>sS fun _ hS=>?_));(repeat refine aI oZ ?_);(first|apply hS|(refine bW oZ ?_;apply hS)|(refine fA ?_;apply hS));clear hS;refine sS fun _ hS=>?_;(repeat refine aI oZ ?_);(first|apply hS|(refine bW oZ ?_;apply hS)|(refine fA ?_;apply hS));clear hS;refine sS fun _ hS=>?_;(repeat first|refine aI oZ ?_|refine bW oZ ?_|refine fA ?_);refine⟨fun x _=> ~~~x,a,a,rfl,⟨ha,ha⟩,fun x y=>⟨x,y,rfl,rfl⟩,?_⟩;(repeat refine aI oZ ?_);(first|apply hS|(intro cap2 hcap2;apply hS));clear hS;refine Qj fun _ hS=>?_;(repeat refine aI oZ ?_);(first|apply hS|(refine dC oZ ?_;apply hS));clear hS;refine aJ K4 (K3 _ _ _ (bQ (eU Y5 (fun _ _ h=>h) (by first|rfl|assumption) [.cell 2 53] rfl ?_)))
 repeat refine aI (by first|omega|exact trivial|rfl|(simp<;>omega)) ?_
 try refine fT (by first|omega|exact trivial|rfl|(simp<;>omega)) ?_
 show _=_
 rfl


end Go.Proofs.YtpdljmohhpbkpaaDoor

namespace Go.Proofs.YtpdljmohhpbkpaaDoor
open Go.Ab Go.RowKit

section
variable {a b:Prop}
theorem Er(h:a:=by first|exact gG|(simp[hw1]<;>omega)|exact gH):a:=h
theorem Es(h:a:=by first|exact gG|(simp[hw1,hcl,hw1]<;>omega)|(simp<;>omega)|exact gH):a:=h
theorem Et(h:a:=by first|exact gG|(simp[hw1,hcl]<;>omega)|(show(bE d.cls k).length=4;exact hcl)|exact hcl|exact gH):a:=h
theorem Eu(h:a:=by first|exact gG|(simp[hw1]<;>omega)|(simp<;>omega)|exact gH):a:=h
theorem gP(h:a:=by
    repeat' (first|exact trivial|refine aI ?_ ?_|exact iM|refine low_cons' ?_ ?_|exact iN|fail)
    all_goals first|omega|exact NE _|exact low_cons' trivial (low_cons' trivial (low_cons' trivial low_nil'))|(show(_:List UInt64)=_;rfl)|(simp[hcl];done)|(simp<;>omega)|skip):a:=h
theorem nM(kZ:b)(h:aK b->a:=by intro kZ;(repeat first|refine aI Er ?_|refine bW Er ?_|refine dC Er ?_|refine fT Er ?_|refine fA ?_);exact kZ.out):a:=h ⟨kZ⟩
theorem gW(kZ:b)(h:aK b->a:=by intro kZ;refine sX ?_;refine nM ?_;refine aL ?_;exact kZ.out):a:=h ⟨kZ⟩
theorem Cg(kZ:b)(h:aK b->a:=by intro kZ;refine mX ?_;refine nM ?_;refine aL ?_;exact kZ.out):a:=h ⟨kZ⟩
theorem Hg(kZ:b)(h:aK b->a:=by intro kZ;(repeat first|refine aI Es ?_|refine bW Es ?_|refine dC Es ?_|refine fT Es ?_|refine fA ?_);exact kZ.out):a:=h ⟨kZ⟩
theorem Ah(kZ:b)(h:aK b->a:=by intro kZ;refine sX ?_;refine Hg ?_;refine aL ?_;exact kZ.out):a:=h ⟨kZ⟩
theorem Fx(kZ:b)(h:aK b->a:=by intro kZ;refine jl ?_;refine Hg ?_;refine aL ?_;exact kZ.out):a:=h ⟨kZ⟩
theorem qm(kZ:b)(h:aK b->a:=by intro kZ;(repeat first|refine aI Et ?_|refine bW Et ?_|refine dC Et ?_|refine fT Et ?_|refine fA ?_);exact kZ.out):a:=h ⟨kZ⟩
theorem Vu(kZ:b)(h:aK b->a:=by intro kZ;refine sX ?_;refine qm ?_;refine aL ?_;exact kZ.out):a:=h ⟨kZ⟩
theorem y0o(kZ:b)(h:aK b->a:=by intro kZ;refine mX ?_;refine qm ?_;refine aL ?_;exact kZ.out):a:=h ⟨kZ⟩
theorem tO(kZ:b)(h:aK b->a:=by intro kZ;(repeat first|refine aI Eu ?_|refine bW Eu ?_|refine dC Eu ?_|refine fT Eu ?_|refine fA ?_);exact kZ.out):a:=h ⟨kZ⟩
theorem ZE(kZ:b)(h:aK b->a:=by intro kZ;refine sX ?_;refine tO ?_;refine aL ?_;exact kZ.out):a:=h ⟨kZ⟩
theorem AZ(kZ:b)(h:aK b->a:=by intro kZ;refine jl ?_;refine tO ?_;refine aL ?_;exact kZ.out):a:=h ⟨kZ⟩
theorem qd(kZ:b)(h:aK b->a:=by intro kZ;refine sX ?_;refine nM ?_;exact kZ.out):a:=h ⟨kZ⟩
theorem Aa(kZ:b)(h:aK b->a:=by intro kZ;refine sX ?_;refine qm ?_;exact kZ.out):a:=h ⟨kZ⟩
theorem y0p(kZ:b)(h:aK b->a:=by intro kZ;refine mX ?_;refine qm ?_;exact kZ.out):a:=h ⟨kZ⟩
theorem zv9(kZ:b)(h:aK b->a:=by intro kZ;refine sX ?_;refine tO ?_;exact kZ.out):a:=h ⟨kZ⟩
end
open Go.Aut
def aS(l:List (List Int)):List Cell:=l.map fun r=>.ds r.length (.ints .i64 r)
abbrev eB(d:Dfa):aB:=.cells [.ds d.nc (.u64s d.cls),.ds d.next.length (.cells (aS d.next)),.ds d.acc.length (.bools d.acc)]
abbrev df(d:Dfa):SV:=.agg (eB d)
def _root_.Go.Aut.Dfa.wf(d:Dfa):Prop:=d.cls.length=d.nc*4/\d.nc<=9223372036854775807/\d.next.length<=9223372036854775807/\d.acc.length<=9223372036854775807/\∀ r∈d.next,r.length<=9223372036854775807
@[simp] theorem nH(l:List (List Int)):(aS l).length=l.length:=by simp[aS]
theorem Iw{l:List (List Int)}{i:Nat}(h:i< l.length):(aB.cells (aS l)).get i= .ds (l.getD i []).length (.ints .i64 (l.getD i [])):=by
  simp[aB.get,aS,List.getD_eq_getElem?_getD,h]
theorem NE{n:Nat}(l:List (List Int)):(aB.cells (aS l)).low n:=fun x hx=>by
  obtain⟨r,_,rfl⟩:=List.mem_map.1 hx;exact trivial
theorem z31(l:List (List Int)):pI (aS l):=by
  induction l with
  |nil=>trivial
  |cons r l ih=>exact⟨trivial,ih⟩
abbrev Z4:List UInt64:=List.replicate 4 0
def bE(l:List UInt64)(i:Nat):List UInt64:=(l.drop (i*4)).take 4
theorem z26{l:List UInt64}{n i:Nat}(h:l.length=n*4)(hi:i< n):(bE l i).length=4:=by simp[bE];omega
def Qi(a b:List UInt64):List UInt64:=l8 (fun x y=>x ||| y) a b
def ug(a b:List UInt64):List UInt64:=l8 (fun x y=>x &&& y) a b
def sM(a:List UInt64):List UInt64:=l8 (fun x _=> ~~~x) a a
def iU(l:List UInt64):Nat->List UInt64
  |0=>Z4
  |k+1=>Qi (iU l k) (bE l k)
@[simp] theorem WZ(l:List UInt64):∀ k,(iU l k).length=4
  |0=>rfl
  |k+1=>Ld ..
def z78(l:List UInt64)(k:Nat):Bool:= !decide (bE l k=Z4)&&decide (ug (iU l k) (bE l k)=Z4)
def sI(l:List UInt64)(nc:Nat):Bool:=(List.range nc).all (z78 l)&&decide (sM (iU l nc)=Z4)
def j4(n:Nat)(t:Int):Bool:=decide (0<=t)&&decide (t< n)
def jZ(nc n:Nat)(r:List Int):Bool:=decide (r.length=nc)&&r.all (j4 n)
def eQ(d:Dfa):Bool:=decide (1<=d.next.length/\d.next.length<=64/\d.acc.length=d.next.length/\1<=d.nc/\d.nc<=256)&&sI d.cls d.nc&&d.next.all (jZ d.nc d.next.length)
theorem R8{α:Type}{p:α->Bool}{l:List α}{k:Nat}{d:α}(h:k< l.length)(h1:(l.take k).all p=true)(h2:p (l.getD k d)=true):(l.take (k+1)).all p=true:=by
  rw[List.take_add_one,List.all_append,h1,List.getElem?_eq_getElem h];rw[List.getD_eq_getElem?_getD,List.getElem?_eq_getElem h]at h2
  simpa using h2
theorem Cc{α:Type}{p:α->Bool}{l:List α}{k:Nat}{d:α}(h:k< l.length)(h2:p (l.getD k d)=false):l.all p=false:=by
  rw[List.getD_eq_getElem?_getD,List.getElem?_eq_getElem h]at h2;rw[List.all_eq_false];exact⟨l[k],List.getElem_mem h,by simpa using h2⟩
theorem WT{p:Nat->Bool}{k:Nat}(h1:(List.range k).all p=true)(h2:p k=true):(List.range (k+1)).all p=true:=by
  rw[List.range_succ,List.all_append,h1];simpa using h2
theorem Rb{p:Nat->Bool}{k n:Nat}(h:k< n)(h2:p k=false):(List.range n).all p=false:=by
  rw[List.all_eq_false];exact⟨k,List.mem_range.2 h,by simpa using h2⟩
noncomputable def m1:Ctx:={ P:=Tryd.prog,ty:=ty,glob:=gl,fs:=[(58,.flat yU),(59,.flat Vt),(60,.flat IY)] }
theorem bg:m1.OK:=⟨dS,⟨⟨bX Tryd.func58 aN rfl,yV⟩,⟨bX Tryd.func59 aN rfl,zv8⟩,⟨bX Tryd.func60 aN rfl,EU⟩,trivial⟩,mixed⟩
@[simp] theorem z0E:m1.ty=ty:=rfl

def Gn:aW:=fun vs K=>∃ d:Dfa,vs=[df d]/\d.wf/\K (.c (.bool (eQ d)))
theorem z70 : jJ Tryd.prog gl 25 Gn:=by
 refine kU (Γ:=m1) (N:=92) Tryd.func25 rfl rfl fun vs K h=>?_;obtain⟨d,rfl,⟨hw1,hw2,hw3,hw4,hw5⟩,h⟩:=h;refine⟨_,h,rfl,by simp,fun w I=>?_⟩;refine aO bg fun _ K2=>?_
 iterate 2 refine gW ?_
 refine aJ K2 (aO bg fun _ K4=>?_)
 iterate 4 refine gW ?_
 refine aJ K4 (aH fun _ K5=>aO bg fun _ K7=>?_)
 iterate 2 refine gW ?_
 refine qd ?_;refine fO (fun hb2=>?_) (fun hb2=>?_)
 ·try simp only[dQ,reduceIte]at hb2
  iterate 2 refine sN ?_
  refine gW ?_;refine qd ?_;refine fO (fun hb6=>?_) (fun hb6=>?_)
  rotate_left 1
  ·exfalso;simp at hb6
  iterate 5 refine sN ?_
  refine gW ?_;refine qd ?_;refine fO (fun hb13=>?_) (fun hb13=>?_)
  rotate_left 1
  ·exfalso;simp at hb13
  iterate 4 refine sN ?_
  refine gW ?_;refine qd ?_;refine fO (fun hb19=>?_) (fun hb19=>?_)
  rotate_left 1
  ·exfalso;simp at hb19
  iterate 4 refine sN ?_
  refine gW ?_;refine aJ K7 (bC (b:=_) rfl (fun _=>?_) (fun h_t38=>?_))
  rotate_left 1
  ·exfalso;simp at h_t38
  refine aO bg fun _ K9=>gW ?_;refine aJ K9 (bQ (eU bg (fun _ _ h=>h) (by first|rfl|assumption) [.tmp 2] rfl ?_));refine gV ?_
  show SV.c (.bool false)=_
  rw[eQ,decide_eq_false (fun hh=>by omega),Bool.false_and,Bool.false_and]
 ·try simp only [dQ,reduceIte]at hb2
  iterate 2 refine Cg ?_
  refine gW ?_;refine qd ?_;refine fO (fun hb6=>?_) (fun hb6=>?_)
  ·try simp only[dQ,reduceIte]at hb6
   iterate 5 refine sN ?_
   refine gW ?_;refine qd ?_;refine fO (fun hb13=>?_) (fun hb13=>?_)
   rotate_left 1
   ·exfalso;simp at hb13
   iterate 4 refine sN ?_
   refine gW ?_;refine qd ?_;refine fO (fun hb19=>?_) (fun hb19=>?_)
   rotate_left 1
   ·exfalso;simp at hb19
   iterate 4 refine sN ?_
   refine gW ?_;refine aJ K7 (bC (b:=_) rfl (fun _=>?_) (fun h_t38=>?_))
   rotate_left 1
   ·exfalso;simp at h_t38
   refine aO bg fun _ K11=>gW ?_;refine aJ K11 (bQ (eU bg (fun _ _ h=>h) (by first|rfl|assumption) [.tmp 2] rfl ?_));refine gV ?_
   show SV.c (.bool false)=_
   rw[eQ,decide_eq_false (fun hh=>by omega),Bool.false_and,Bool.false_and]
  ·try simp only [dQ,reduceIte]at hb6
   iterate 5 refine Cg ?_
   refine gW ?_;refine qd ?_;refine fO (fun hb13=>?_) (fun hb13=>?_)
   ·try simp only[dQ,reduceIte]at hb13
    iterate 4 refine sN ?_
    refine gW ?_;refine qd ?_;refine fO (fun hb19=>?_) (fun hb19=>?_)
    rotate_left 1
    ·exfalso;simp at hb19
    iterate 4 refine sN ?_
    refine gW ?_;refine aJ K7 (bC (b:=_) rfl (fun _=>?_) (fun h_t38=>?_))
    rotate_left 1
    ·exfalso;simp at h_t38
    refine aO bg fun _ K13=>gW ?_;refine aJ K13 (bQ (eU bg (fun _ _ h=>h) (by first|rfl|assumption) [.tmp 2] rfl ?_));refine gV ?_
    show SV.c (.bool false)=_
    rw[eQ,decide_eq_false (fun hh=>by omega),Bool.false_and,Bool.false_and]
   ·try simp only[dQ,reduceIte]at hb13
    iterate 4 refine Cg ?_
    refine gW ?_;refine qd ?_;refine fO (fun hb19=>?_) (fun hb19=>?_)
    ·try simp only[dQ,reduceIte]at hb19
     iterate 4 refine sN ?_
     refine gW ?_;refine aJ K7 (bC (b:=_) rfl (fun _=>?_) (fun h_t38=>?_))
     rotate_left 1
     ·exfalso;simp at h_t38
     refine aO bg fun _ K15=>gW ?_;refine aJ K15 (bQ (eU bg (fun _ _ h=>h) (by first|rfl|assumption) [.tmp 2] rfl ?_));refine gV ?_
     show SV.c (.bool false)=_
     rw[eQ,decide_eq_false (fun hh=>by omega),Bool.false_and,Bool.false_and]
    ·try simp only[dQ,reduceIte]at hb19
     iterate 4 refine Cg ?_
     refine gW ?_;refine aJ K7 (bC (b:=_) rfl (fun h_t38=>?_) (fun h_t38=>?_))
     ·try simp only[dQ,reduceIte]at h_t38
      refine aO bg fun _ K17=>gW ?_;refine aJ K17 (bQ (eU bg (fun _ _ h=>h) (by first|rfl|assumption) [.tmp 2] rfl ?_));refine gV ?_
      show SV.c (.bool false)=_
      rw[eQ,decide_eq_false (fun hh=>by omega),Bool.false_and,Bool.false_and]
     ·try simp only[dQ,reduceIte]at h_t38
      refine bK (K5 _ _ _ (aO bg fun _ K19=>gW ?_));refine aJ K19 (aH fun _ K20=>?_)
      have hbase:1<=d.next.length/\d.next.length<=64/\d.acc.length=d.next.length/\1<=d.nc/\d.nc<=256:=by omega
      refine aO bg fun _ K22=>?_
      iterate 4 refine gW ?_
      refine aJ K22 (bO (fM (α:=Nat) (fun k=>[(1,.c (.ptr 0 0)),(3,.c (.int .i64 d.next.length)),(4,.c (.ptr 1 0)),(40,.c (.ds d.nc (.u64s d.cls))),(41,.c (.int .i64 d.nc)),(42,.c (.int .i64 k))]) (fun k=>[(0,.own 30 (eB d) 3),(1,.own 53 (.u64s (iU d.cls k)) 4)]) 2 (fun k=>k<=d.nc/\(List.range k).all (z78 d.cls)=true) (fun k=>d.nc - k) ?_ ?_))
      ·refine ai [] id 0 ⟨Nat.zero_le _,rfl⟩ [0,1] gP gP gP gP
      ·intro k hk;refine aO bg fun _ K24=>gW ?_;refine aJ K24 (aH fun _ K25=>bC (b:=_) rfl (fun h_t43=>?_) (fun h_t43=>?_))
       ·try simp only[dQ,reduceIte]at h_t43
        refine bK (K25 _ _ _ (aH fun _ K26=>bO ?_))
        have hkn:k< d.nc:=by omega
        have hcl:=z26 hw1 hkn
        have hsub:(aB.u64s d.cls).sub ((k:Int).toNat*4) (4*1)= .u64s (bE d.cls k):=rfl
        refine aO bg fun _ K28=>Ah ?_;refine sX ?_;refine aI (by decide) (aI (by simp only[z66];omega) (fA ?_));rw[hsub];refine aL (Ah ?_);refine Fx ?_;refine aJ K28 (aH fun _ K29=>aO bg fun _ K31=>?_)
        iterate 3 refine Vu ?_
        refine Aa ?_;refine fO (fun hb3=>?_) (fun hb3=>?_)
        ·try simp only[dQ,reduceIte]at hb3
         iterate 5 refine sN ?_
         refine Vu ?_;refine aJ K31 (bC (b:=_) rfl (fun _=>?_) (fun h_t55=>?_))
         rotate_left 1
         ·exfalso;simp at h_t55
         have hng:z78 d.cls k=false:=by
          first|(rw[z78,decide_eq_true (show bE d.cls k=Z4 from hb3)];rfl)|(rw[z78,decide_eq_false (show ¬ ug (iU d.cls k) (bE d.cls k)=Z4 from h_t55),Bool.and_false])
         refine aO bg fun _ K33=>gW ?_;refine aJ K33 (bQ (eU bg (fun _ _ h=>h) (by first|rfl|assumption) [.tmp 2] rfl ?_));refine gV ?_
         show SV.c (.bool false)=_
         rw[eQ,sI,Rb hkn hng,Bool.false_and,Bool.and_false,Bool.false_and]
        ·try simp only[dQ,reduceIte]at hb3
         iterate 2 refine y0o ?_
         refine y0p ?_;refine⟨iU d.cls k,bE d.cls k,rfl,⟨WZ _ _,hcl⟩,qm ?_⟩
         first|refine aL ?_|(intro cap6 hcap6;refine aL ?_)
         iterate 2 refine y0o ?_
         refine Vu ?_;refine aJ K31 (bC (b:=_) rfl (fun h_t55=>?_) (fun h_t55=>?_))
         ·try simp only[dQ,reduceIte]at h_t55
          have hng:z78 d.cls k=false:=by
           first|(rw[z78,decide_eq_true (show bE d.cls k=Z4 from hb3)];rfl)|(rw[z78,decide_eq_false (show ¬ ug (iU d.cls k) (bE d.cls k)=Z4 from h_t55),Bool.and_false])
          refine aO bg fun _ K35=>gW ?_;refine aJ K35 (bQ (eU bg (fun _ _ h=>h) (by first|rfl|assumption) [.tmp 2] rfl ?_));refine gV ?_
          show SV.c (.bool false)=_
          rw[eQ,sI,Rb hkn hng,Bool.false_and,Bool.and_false,Bool.false_and]
         ·try simp only[dQ,reduceIte]at h_t55
          refine bK (K29 _ _ _ ?_)
          have hgood:z78 d.cls k=true:=by simp only[z78];simp[hb3];exact h_t55
          refine bB bg fun _ K36=>?_
          iterate 2 refine ZE ?_
          refine zv9 ?_;refine⟨iU d.cls k,bE d.cls k,rfl,⟨WZ _ _,hcl⟩,tO ?_⟩
          first|refine aL ?_|(intro cap2 hcap2;refine aL ?_)
          refine AZ ?_;refine aJ K36 (dD (K26 _ _ _ (bB bg fun _ K37=>?_)))
          iterate 2 refine gW ?_
          refine aJ K37 (ai [] id (k+1) ⟨⟨by omega,WT hk.2 hgood⟩,by omega⟩ [0,1] gP gP gP gP)
       ·try simp only[dQ,reduceIte]at h_t43
        refine eY (bJ (bJ (eX (K20 _ _ _ (aH fun _ K38=>?_)))))
        obtain rfl:k=d.nc:=by omega
        have hclsall:=hk.2
        refine aO bg fun _ K40=>gW ?_;refine qd ?_;refine⟨iU d.cls d.nc,rfl,WZ _ _,nM ?_⟩
        first|refine aL ?_|(intro cap1 hcap1;refine aL ?_)
        iterate 2 refine gW ?_
        refine aJ K40 (bC (b:=_) rfl (fun h_t63=>?_) (fun h_t63=>?_))
        ·try simp only[dQ,reduceIte]at h_t63
         refine aO bg fun _ K42=>gW ?_;refine aJ K42 (bQ (eU bg (fun _ _ h=>h) (by first|rfl|assumption) [.tmp 2] rfl ?_));refine gV ?_
         show SV.c (.bool false)=_
         have h63:¬ sM (iU d.cls d.nc)=Z4:=h_t63
         rw[eQ,sI,decide_eq_false h63,Bool.and_false,Bool.and_false,Bool.false_and]
        ·try simp only[dQ,reduceIte]at h_t63
         refine bK (K38 _ _ _ (aH fun _ K43=>aO bg fun _ K45=>?_))
         iterate 4 refine gW ?_
         refine aJ K45 (bO (fM (α:=Nat) (fun k=>[(1,.c (.ptr 0 0)),(3,.c (.int .i64 d.next.length)),(4,.c (.ptr 1 0)),(65,.c (.ds d.next.length (.cells (aS d.next)))),(66,.c (.int .i64 d.next.length)),(67,.c (.int .i64 k))]) (fun k=>[(0,.own 30 (eB d) 3),(1,.own 53 (.u64s (iU d.cls d.nc)) 4)]) 2 (fun k=>k<=d.next.length/\(d.next.take k).all (jZ d.nc d.next.length)=true) (fun k=>d.next.length - k) ?_ ?_))
         ·refine ai [] id 0 ⟨Nat.zero_le _,rfl⟩ [0,1] gP gP gP gP
         ·intro k hk;refine aO bg fun _ K47=>gW ?_;refine aJ K47 (aH fun _ K48=>bC (b:=_) rfl (fun h_t68=>?_) (fun h_t68=>?_))
          ·try simp only[dQ,reduceIte]at h_t68
           refine bK (K48 _ _ _ (aH fun _ K49=>bO ?_))
           have hkn:k< d.next.length:=by omega
           have hrl:=hw5 _ (sw (d:=[]) hkn)
           refine aO bg fun _ K51=>ZE ?_;refine zv9 ?_;rw[Iw]
           rotate_left 1
           ·first|omega|(simp<;>omega)
           refine aL (ZE ?_);refine aJ K51 (aH fun _ K52=>aO bg fun _ K54=>?_)
           iterate 6 refine gW ?_
           refine aJ K54 (bC (b:=_) rfl (fun h_t76=>?_) (fun h_t76=>?_))
           ·try simp only[dQ,reduceIte]at h_t76
            simp only[Int.toNat_natCast,Nat.mul_one]at h_t76
            refine aO bg fun _ K56=>gW ?_;refine aJ K56 (bQ (eU bg (fun _ _ h=>h) (by first|rfl|assumption) [.tmp 2] rfl ?_));refine gV ?_
            show SV.c (.bool false)=_
            rw[eQ,Cc (d:=[]) hkn (by rw[jZ,decide_eq_false (fun e=>h_t76 (by simpa using e)),Bool.false_and]),Bool.and_false]
           ·try simp only[dQ,reduceIte]at h_t76
            simp only[Int.toNat_natCast,Nat.mul_one]at h_t76
            refine bK (K52 _ _ _ (aO bg fun _ K58=>?_))
            iterate 3 refine gW ?_
            refine aJ K58 (bO (fM (α:=Nat) (fun j=>[(1,.c (.ptr 0 0)),(3,.c (.int .i64 d.next.length)),(4,.c (.ptr 1 0)),(65,.c (.ds d.next.length (.cells (aS d.next)))),(66,.c (.int .i64 d.next.length)),(67,.c (.int .i64 k)),(8,.c (.ds (d.next.getD k []).length (.ints .i64 (d.next.getD k [])))),(77,.c (.ds (d.next.getD k []).length (.ints .i64 (d.next.getD k [])))),(78,.c (.int .i64 (d.next.getD k []).length)),(79,.c (.int .i64 j))]) (fun j=>[(0,.own 30 (eB d) 3),(1,.own 53 (.u64s (iU d.cls d.nc)) 4)]) 2 (fun j=>j<=(d.next.getD k []).length/\((d.next.getD k []).take j).all (j4 d.next.length)=true) (fun j=>(d.next.getD k []).length - j) ?_ ?_))
            ·refine ai [] id 0 ⟨Nat.zero_le _,rfl⟩ [0,1] gP gP gP gP
            ·intro j hj;refine aO bg fun _ K60=>gW ?_;refine aJ K60 (aH fun _ K61=>bC (b:=_) rfl (fun h_t80=>?_) (fun h_t80=>?_))
             ·try simp only[dQ,reduceIte]at h_t80
              refine bK (K61 _ _ _ (aH fun _ K62=>bO ?_))
              have hjn:j< (d.next.getD k []).length:=by omega
              refine aO bg fun _ K64=>?_
              iterate 3 refine gW ?_
              refine aJ K64 (aO bg fun _ K66=>?_)
              iterate 2 refine gW ?_
              refine qd ?_;refine fO (fun hb2=>?_) (fun hb2=>?_)
              ·try simp only[dQ,reduceIte]at hb2
               iterate 3 refine sN ?_
               refine gW ?_;refine aJ K66 (bC (b:=_) rfl (fun _=>?_) (fun h_t89=>?_))
               rotate_left 1
               ·exfalso;simp at h_t89
               have htb:j4 d.next.length ((d.next.getD k []).getD j 0)=false:=by
                simp only[j4,Bool.and_eq_false_iff,decide_eq_false_iff_not]
                first|(simp only[Int.toNat_natCast,Nat.mul_one]at hb2 h_t89;omega)|(simp only[Int.toNat_natCast,Nat.mul_one]at hb2;omega)
               refine aO bg fun _ K68=>gW ?_;refine aJ K68 (bQ (eU bg (fun _ _ h=>h) (by first|rfl|assumption) [.tmp 2] rfl ?_));refine gV ?_
               show SV.c (.bool false)=_
               rw[eQ,Cc (d:=[]) hkn (by rw[jZ,Cc (d:=0) hjn htb,Bool.and_false]),Bool.and_false]
              ·try simp only[dQ,reduceIte]at hb2
               iterate 3 refine Cg ?_
               refine gW ?_;refine aJ K66 (bC (b:=_) rfl (fun h_t89=>?_) (fun h_t89=>?_))
               ·try simp only[dQ,reduceIte]at h_t89
                have htb:j4 d.next.length ((d.next.getD k []).getD j 0)=false:=by
                 simp only[j4,Bool.and_eq_false_iff,decide_eq_false_iff_not]
                 first|(simp only[Int.toNat_natCast,Nat.mul_one]at hb2 h_t89;omega)|(simp only[Int.toNat_natCast,Nat.mul_one]at hb2;omega)
                refine aO bg fun _ K70=>gW ?_;refine aJ K70 (bQ (eU bg (fun _ _ h=>h) (by first|rfl|assumption) [.tmp 2] rfl ?_));refine gV ?_
                show SV.c (.bool false)=_
                rw[eQ,Cc (d:=[]) hkn (by rw[jZ,Cc (d:=0) hjn htb,Bool.and_false]),Bool.and_false]
               ·try simp only[dQ,reduceIte]at h_t89
                refine bK (dD (K62 _ _ _ ?_))
                have htg:j4 d.next.length ((d.next.getD k []).getD j 0)=true:=by simp only[j4,Bool.and_eq_true,decide_eq_true_eq];simp only[Int.toNat_natCast,Nat.mul_one]at hb2 h_t89;exact⟨by omega,by omega⟩
                refine bB bg fun _ K71=>?_
                iterate 2 refine gW ?_
                refine aJ K71 (ai [] id (j+1) ⟨⟨by omega,R8 (d:=0) hjn hj.2 htg⟩,by omega⟩ [0,1] gP gP gP gP)
             ·try simp only[dQ,reduceIte]at h_t80
              refine eY (bJ (bJ (eX (dD (K49 _ _ _ ?_)))))
              have hrow:jZ d.nc d.next.length (d.next.getD k [])=true:=by
               have h1:=hj.2
               rw[List.take_of_length_le (by omega)]at h1;rw[jZ,h1,decide_eq_true (by omega)];rfl
              refine bB bg fun _ K72=>?_
              iterate 2 refine gW ?_
              refine aJ K72 (ai [] id (k+1) ⟨⟨by omega,R8 (d:=[]) hkn hk.2 hrow⟩,by omega⟩ [0,1] gP gP gP gP)
          ·try simp only[dQ,reduceIte]at h_t68
           refine eY (bJ (bJ (eX (K43 _ _ _ (aO bg fun _ K74=>gW ?_)))));refine aJ K74 (bQ (eU bg (fun _ _ h=>h) (by first|rfl|assumption) [.tmp 2] rfl ?_));refine gV ?_
           show SV.c (.bool true)=_
           have h63:sM (iU d.cls d.nc)=Z4:=h_t63
           rw[eQ,decide_eq_true hbase,sI,hclsall,decide_eq_true h63]
           obtain rfl:k=d.next.length:=by omega
           have:=hk.2
           rw[List.take_length]at this;rw[this]
           rfl


end Go.Proofs.YtpdljmohhpbkpaaDoor

namespace Go.Proofs.YtpdljmohhpbkpaaDoor
open Go.Ab Go.RowKit

theorem rQ{a:Prop}(h:a:=by first|exact gG|(simp[zgo]<;>omega)|(rw[zgo];omega)|exact gH):a:=h

def bit(x:UInt64)(s:Nat):Bool:=x.toBitVec.getLsbD s
theorem UF{x:UInt64}{s:Nat}(h:64<=s):bit x s=false:=BitVec.getLsbD_of_ge _ _ h
theorem ZF{x y:UInt64}(h:∀ s,s< 64->bit x s=bit y s):x=y:=UInt64.toBitVec_inj.1 (BitVec.eq_of_getLsbD_eq fun i hi=>h i hi)
@[simp] theorem xG(x y:UInt64)(s:Nat):bit (x ||| y) s=(bit x s||bit y s):=by simp[bit]
@[simp] theorem T3(x y:UInt64)(s:Nat):bit (x &&& y) s=(bit x s&&bit y s):=by simp[bit]
@[simp] theorem NF(s:Nat):bit 0 s=false:=by simp[bit]
theorem ZG(s:Nat):bit 1 s=decide (s=0):=by
  show(1#64).getLsbD s=_
  rw[BitVec.getLsbD_one];simp
theorem Pj(k s:Nat):bit (iK 1 k) s=(decide (s=k)&&decide (k< 64)):=by
  unfold iK
  by_cases hk:k< 64
  · rw[if_pos hk]
    have e:(1 <<< k.toUInt64:UInt64).toBitVec=(1#64) <<< k:=by
      apply BitVec.eq_of_toNat_eq
      show(1 <<< k.toUInt64:UInt64).toNat=_
      rw[UInt64.toNat_shiftLeft]
      simp[show k%18446744073709551616=k by omega,Nat.mod_eq_of_lt hk]
    rw[bit,e,BitVec.getLsbD_shiftLeft,BitVec.getLsbD_one]
    by_cases hs:s=k
    · subst hs;simp[hk]
    · by_cases h1:s< k
      · simp[h1,hs]
      · simp[h1,hs,hk];omega
  · rw[if_neg hk];simp[hk]
theorem y0q(x:UInt64){s:Nat}(h:s< 64):bit (-x) s=((bit x s) ^^ decide (∃ j,j< s/\bit x j=true)):=by
  have e:(-x).toBitVec= -x.toBitVec:=by simp
  rw[bit,e,BitVec.getLsbD_neg]
  simp only[h,decide_true,Bool.true_and]
  rfl
theorem zvb{p:Nat->Bool}:∀ n,(∃ s,s< n/\p s=true)->∃ k,k< n/\p k=true/\∀ j,j< k->p j=false
  |0,⟨s,h,_⟩=>absurd h (Nat.not_lt_zero s)
  | n +1,⟨s,h,hp⟩=>by
    by_cases he:∃ s,s< n/\p s=true
    · obtain⟨k,h1,h2⟩:=zvb n he
      exact⟨k,by omega,h2⟩
    · refine⟨s,h,hp,fun j hj=>?_⟩
      cases hpj:p j with
      |false=>rfl
      |true=>exact absurd ⟨j,by omega,hpj⟩ he
theorem EJ{x:UInt64}(h:x≠0):∃ k,k< 64/\bit x k=true/\∀ j,j< k->bit x j=false:=by
  refine zvb 64 (Classical.byContradiction fun hn=>h (ZF fun s hs=>?_));rw[NF]
  cases hb:bit x s with
  |false=>rfl
  |true=>exact absurd ⟨s,hs,hb⟩ hn
theorem zsw{x:UInt64}{k:Nat}(hk:k< 64)(h1:bit x k=true)(h2:∀ j,j< k->bit x j=false):x &&& -x=iK 1 k:=by
  refine ZF fun s hs=>?_;rw[T3,y0q x hs,Pj]
  by_cases e:s=k
  · subst e
    have:¬ ∃ j,j< s/\bit x j=true:=fun⟨j,hj,hb⟩=>by rw[h2 j hj]at hb;cases hb
    simp[h1,this,hk]
  · by_cases hlt:s< k
    · simp[h2 s hlt,e]
    · have:∃ j,j< s/\bit x j=true:=⟨k,by omega,h1⟩
      cases bit x s<;>simp[this,e]
theorem xH{x:UInt64}{s:Nat}(hs:s< 64):bit (x - 1) s= !(bit (-x) s):=by
  have e:(x - 1).toBitVec= ~~~(-x).toBitVec:=by
    rw[show(-x).toBitVec= -x.toBitVec by simp,BitVec.not_neg];rfl
  rw[bit,e,BitVec.getLsbD_not]
  simp[hs,bit]
theorem zqc {x:UInt64} {k:Nat} (hk:k< 64) (h1:bit x k=true) (h2:∀ j,j< k->bit x j=false) (s:Nat):bit (x &&& (x - 1)) s=(bit x s&& !decide (s=k)):=by
  by_cases hs:s< 64
  · rw[T3,xH hs,y0q x hs]
    by_cases e:s=k
    · subst e
      have:¬ ∃ j,j< s/\bit x j=true:=fun⟨j,hj,hb⟩=>by rw[h2 j hj]at hb;cases hb
      simp[h1,this]
    · by_cases hlt:s< k
      · simp[h2 s hlt]
      · have:∃ j,j< s/\bit x j=true:=⟨k,by omega,h1⟩
        cases bit x s<;>simp[this,e]
  · rw[UF (by omega),UF (x:=x) (by omega)];rfl
theorem Ay(y:UInt64):(iD y 58).toNat< 64:=by
  have:=y.toNat_lt
  simp only[iD]
  rw[if_pos (by decide),UInt64.toNat_shiftRight]
  show y.toNat >>> (58%64)< 64
  rw[Nat.shiftRight_eq_div_pow]
  show y.toNat / 288230376151711744< 64
  omega
def qP(x:UInt64):UInt64:=(x &&& -x)*285870213051353865
def Qk(x:UInt64):UInt64:=iD (qP x) 58
theorem LH(x:UInt64):(Qk x).toNat< 64:=Ay _
def vT(x:UInt64):Nat:=if x=0 then 64 else(uz.getD (Qk x).toNat 0).toNat
theorem BX:∀ k:Fin 64,(uz.getD (iD (iK 1 k.val*285870213051353865) 58).toNat 0).toNat=k.val:=by decide+kernel
theorem BV{x:UInt64}{k:Nat}(hk:k< 64)(h1:bit x k=true)(h2:∀ j,j< k->bit x j=false):vT x=k:=by
  have hx:x≠0:=fun e=>by rw[e,NF]at h1;cases h1
  rw[vT,if_neg hx,Qk,qP,zsw hk h1 h2];exact BX ⟨k,hk⟩
theorem zgo:(aB.u8s uz).len=64:=by decide
attribute [local irreducible] uz
def tzS:aW:=fun vs K=>∃ x:UInt64,vs=[.c (.u64 x)]/\K (.c (.int .i64 (vT x)))
theorem PE:jJ Tryd.prog gl 87 tzS:=by
 refine kU (Γ:=g0) (N:=14) Tryd.func87 rfl rfl fun vs K h=>?_;obtain⟨x,rfl,h⟩:=h;refine⟨_,h,rfl,by simp,fun w I=>?_⟩;refine aH fun _ K1=>bB aF fun _ K2=>qA ?_;refine aJ K2 (K1 _ _ _ (aH fun _ K3=>aH fun _ K4=>bB aF fun _ K5=>qA ?_));refine sS fun _ hS=>?_;(repeat refine aI (by first|exact gG|(simp<;>omega)|exact gH) ?_);apply hS;clear hS;refine aJ K5 (K4 _ _ _ (bC (b:=_) rfl (fun h_t4=>?_) (fun h_t4=>?_)))
 ·try simp only[dQ,reduceIte]at h_t4
  refine aH fun _ K6=>bB aF fun _ K7=>qA ?_;refine aJ K7 (K6 _ _ _ (bQ (eU aF (fun _ _ h=>h) (by first|rfl|assumption) [.tmp 2] rfl ?_)))
  repeat refine aI (by first|omega|exact trivial|rfl|(simp<;>omega)) ?_
  try refine fT (by first|omega|exact trivial|rfl|(simp<;>omega)) ?_
  show SV.c (.int .i64 64)=_
  rw[vT,if_pos (by simpa using h_t4)]
  rfl
 ·try simp only[dQ,reduceIte]at h_t4
  refine bK (K3 _ _ _ (aH fun _ K8=>?_))
  have hVe:(if false=true then iK (qP x) (((UInt64.ofNat (Int.toNat 58)).toNat:Int)).toNat else iD (qP x) (((UInt64.ofNat (Int.toNat 58)).toNat:Int)).toNat:UInt64)=Qk x:=by rw[if_neg (by decide)];rfl
  have hsh:(if false=true then iK (qP x) (((UInt64.ofNat (Int.toNat 58)).toNat:Int)).toNat else iD (qP x) (((UInt64.ofNat (Int.toNat 58)).toNat:Int)).toNat:UInt64).toNat< 64:=by rw[hVe];exact LH x
  refine bB aF fun _ K9=>?_
  iterate 2 refine qA ?_
  refine sS fun _ hS=>?_;(repeat refine aI rQ ?_);apply hS;clear hS;refine sS fun _ hS=>?_;(repeat refine aI rQ ?_);apply hS;clear hS;refine sS fun _ hS=>?_;refine hS (.c (.u64 (qP x))) _ _ ?_;clear hS;refine sS fun _ hS=>?_;(repeat refine aI rQ ?_);apply hS;clear hS;refine sS fun _ hS=>?_;(repeat refine aI rQ ?_);apply hS;clear hS;refine sS fun _ hS=>?_;(repeat refine aI rQ ?_);(first|apply hS|(refine bW rQ ?_;apply hS)|(refine fA ?_;apply hS));clear hS;refine sS fun _ hS=>?_;(repeat first|refine aI rQ ?_|refine bW rQ ?_|refine fA ?_);apply hS;clear hS;refine qA ?_;refine aJ K9 (K8 _ _ _ (bQ (eU aF (fun _ _ h=>h) (by first|rfl|assumption) [.tmp 2] rfl ?_)))
  repeat refine aI (by first|omega|exact trivial|rfl|(simp<;>omega)) ?_
  try refine fT (by first|omega|exact trivial|rfl|(simp<;>omega)) ?_
  have h0:x≠0:=by simpa using h_t4
  rw[vT,if_neg h0]
  show SV.c (.int .i64 (((uz.getD (0+(((if false=true then iK (qP x) (((UInt64.ofNat (Int.toNat 58)).toNat:Int)).toNat else iD (qP x) (((UInt64.ofNat (Int.toNat 58)).toNat:Int)).toNat:UInt64).toNat:Int)).toNat*1) 0).toNat:Nat):Int))=_
  rw[hVe,Nat.zero_add,Nat.mul_one,Int.toNat_natCast]


end Go.Proofs.YtpdljmohhpbkpaaDoor

namespace Go.Proofs.YtpdljmohhpbkpaaDoor
open Go.Ab Go.RowKit

section
variable {a b:Prop}
theorem Ev(h:a:=by first|exact gG|(simp[hc]<;>omega)|exact gH):a:=h
theorem Ew(h:a:=by first|exact gG|(simp[hc4]<;>omega)|exact gH):a:=h
theorem Ex(h:a:=by first|exact gG|(simp[hc4]<;>omega)|(simp[hc4];omega)|exact gH):a:=h
theorem sO(h:a:=by first|omega|exact trivial|rfl|exact JA.mpr ⟨by omega,by omega⟩|decide|(simp;omega)):a:=h
theorem cu(h:a:=by
    repeat' (first|exact trivial|refine aI ?_ ?_|exact iM|refine low_cons' ?_ ?_|exact iN|fail)):a:=h
theorem uP(h:a:=by
    repeat' (first|exact trivial|refine aI ?_ ?_|exact iM|refine low_cons' ?_ ?_|exact iN|fail)
    all_goals first|(show(_:UInt64)=_;rfl)|skip):a:=h
theorem tQ(kZ:b)(h:aK b->a:=by intro kZ;(repeat first|refine aI Ev ?_|refine bW Ev ?_|refine dC Ev ?_|refine fT Ev ?_|refine fA ?_);exact kZ.out):a:=h ⟨kZ⟩
theorem mE(kZ:b)(h:aK b->a:=by intro kZ;refine sX ?_;refine tQ ?_;refine aL ?_;exact kZ.out):a:=h ⟨kZ⟩
theorem OA(kZ:b)(h:aK b->a:=by intro kZ;(repeat first|refine aI Ew ?_|refine bW Ew ?_|refine dC Ew ?_|refine fT Ew ?_|refine fA ?_);exact kZ.out):a:=h ⟨kZ⟩
theorem QZ(kZ:b)(h:aK b->a:=by intro kZ;refine sX ?_;refine OA ?_;refine aL ?_;exact kZ.out):a:=h ⟨kZ⟩
theorem OB(kZ:b)(h:aK b->a:=by intro kZ;(repeat first|refine aI Ex ?_|refine bW Ex ?_|refine dC Ex ?_|refine fT Ex ?_|refine fA ?_);exact kZ.out):a:=h ⟨kZ⟩
theorem Kz(kZ:b)(h:aK b->a:=by intro kZ;refine sX ?_;refine OB ?_;refine aL ?_;exact kZ.out):a:=h ⟨kZ⟩
end
open Go.Aut
def gL(x:UInt64):List Nat:=(List.range 64).filter (bit x)
theorem y0r{x:UInt64}{s:Nat}:s∈gL x↔s< 64/\bit x s=true:=by rw[gL,List.mem_filter,List.mem_range]
theorem zqe(x:UInt64):(gL x).Pairwise (· < ·):=List.Pairwise.filter _ (List.pairwise_lt_range (n:=64))
def M6(x:UInt64)(j:Nat)(y:UInt64):Prop:=∀ s,bit y s=true↔s∈(gL x).drop j
theorem AL(x:UInt64):M6 x 0 x:=fun s=>by
  rw[List.drop_zero,y0r]
  constructor
  · intro h
    refine⟨?_,h⟩
    rcases Nat.lt_or_ge s 64 with h1|h1
    · exact h1
    · rw[UF h1]at h;cases h
  · exact fun h=>h.2
theorem Kt{x y:UInt64}{j:Nat}(h:M6 x j y)(hy:y=0):(gL x).length<=j:=by
  rcases Nat.lt_or_ge j (gL x).length with h1|h1
  · have h2:=(h (gL x)[j]).2 (by rw[List.drop_eq_getElem_cons h1];exact List.mem_cons_self)
    rw[hy,NF]at h2;cases h2
  · exact h1
theorem AJ{x y:UInt64}{j:Nat}(h:M6 x j y)(hy:y≠0):j< (gL x).length/\vT y=(gL x).getD j 0/\vT y< 64/\M6 x (j+1) (y &&& (y - 1)):=by
  obtain⟨k,hk,h1,h2⟩:=EJ hy
  have hm:=(h k).1 h1
  have hj:j< (gL x).length:=by
    rcases Nat.lt_or_ge j (gL x).length with h3|h3
    · exact h3
    · rw[List.drop_of_length_le h3]at hm;cases hm
  have hd:=List.drop_eq_getElem_cons hj
  have hs:((gL x).drop j).Pairwise (· < ·):=(zqe x).sublist (List.drop_sublist _ _)
  rw[hd]at hs hm
  have hkj:k=(gL x)[j]:=by
    rcases List.mem_cons.1 hm with e|e
    · exact e
    · have h3:=(List.pairwise_cons.1 hs).1 k e
      have h4:=(h (gL x)[j]).2 (by rw[hd];exact List.mem_cons_self)
      rw[h2 _ h3]at h4;cases h4
  have hg:(gL x).getD j 0=k:=by rw[qb hj];exact hkj.symm
  refine⟨hj,by rw[hg];exact BV hk h1 h2,by rw[BV hk h1 h2];exact hk,fun s=>?_⟩;rw[zqc hk h1 h2,Bool.and_eq_true,h s,hd,List.mem_cons]
  constructor
  · rintro ⟨e|e,h3⟩
    · simp[e,hkj]at h3
    · exact e
  · intro e
    refine⟨.inr e,?_⟩
    have h3:=(List.pairwise_cons.1 hs).1 s e
    simp;omega
def mZ(i:Nat)(x:UInt64):List UInt8:=(gL x).map fun s=>UInt8.ofNat (64*i+s)
def yl(c:List UInt64)(i:Nat):List UInt8:=(List.range i).flatMap fun i=>mZ i (c.getD i 0)
theorem ZH(c:List UInt64)(i:Nat):yl c (i+1)=yl c i++mZ i (c.getD i 0):=by simp[yl,List.range_succ]
theorem AA:List.range 256=(List.range 4).flatMap fun i=>(List.range 64).map fun s=>64*i+s:=by decide+kernel
theorem NG(x:UInt64)(s:Nat):bit x s=x.toNat.testBit s:=rfl
theorem y0s(c:List UInt64):yl c 4=eG c:=by
  rw[eG,AA,List.filter_flatMap,List.map_flatMap,yl,List.flatMap_eq_foldl,List.flatMap_eq_foldl]<;>skip
  congr 1
  funext l i
  congr 1
  rw[mZ,gL,List.filter_map,List.map_map]
  have e:(List.range 64).filter (bit (c.getD i 0))=(List.range 64).filter ((fun b=>(c.getD (b / 64) 0).toNat.testBit (b%64)) ∘ fun s=>64*i+s):=by
    refine List.filter_congr fun s hs=>?_
    have hs:=List.mem_range.1 hs
    show _=(c.getD ((64*i+s) / 64) 0).toNat.testBit ((64*i+s)%64)
    rw[show(64*i+s) / 64=i by omega,show(64*i+s)%64=s by omega];rfl
  rw[e];rfl
theorem y0t(c:List UInt64){i:Nat}(hi:i< 4):∃ r,eG c=yl c i++mZ i (c.getD i 0)++r:=by
  have key:∀ d,∃ r,yl c (i+1+d)=yl c (i+1)++r:=by
    intro d
    induction d with
    |zero=>exact⟨[],by simp⟩
    | succ d ih=>
      obtain⟨r,hr⟩:=ih;exact⟨r++mZ (i+1+d) (c.getD (i+1+d) 0),by rw[<-Nat.add_assoc,ZH,hr,List.append_assoc]⟩
  obtain⟨r,hr⟩:=key (3 - i);rw[show i+1+(3 - i)=4 by omega,y0s,ZH]at hr;exact⟨r,hr⟩
theorem L8(c:List UInt64){i j:Nat}(hi:i< 4)(hj:j< (gL (c.getD i 0)).length):(eG c)[(yl c i).length+j]? =some (UInt8.ofNat (64*i+(gL (c.getD i 0)).getD j 0)):=by
  obtain⟨r,hr⟩:=y0t c hi
  have hl:(mZ i (c.getD i 0)).length=(gL (c.getD i 0)).length:=by simp[mZ]
  rw[hr,List.append_assoc,List.getElem?_append_right (by omega),List.getElem?_append_left (by omega),Nat.add_sub_cancel_left,mZ,List.getElem?_map,jB (d:=0) hj];rfl
theorem Sb(n:Nat):UInt8.ofInt (n:Int)=UInt8.ofNat n:=by
  apply UInt8.toNat_inj.1
  simp[UInt8.ofInt]
  omega
def CF(c:List UInt64):List (List SV):=(eG c).map fun b=>[.c (.u8 b)]
theorem XO(c:List UInt64):(CF c).length=(eG c).length:=by simp[CF]
theorem Cv(c:List UInt64){i j:Nat}{y:UInt64}(hi:i< 4)(hr:M6 (c.getD i 0) j y)(hy:y≠0):(CF c)[(yl c i).length+j]? =some [.c (.u8 (UInt8.ofInt (64*(i:Int)+(vT y:Int))))]:=by
  obtain⟨h1,h2,h3,_⟩:=AJ hr hy;rw[CF,List.getElem?_map,L8 c hi h1, <-h2,show(64*(i:Int)+(vT y:Int))=((64*i+vT y:Nat):Int) by omega,Sb];rfl
def pK(c:List UInt64):Cell:=.dp (.u64s c) 0
theorem TF(c:List UInt64):SV.low 0 (.c (.clo 86 [pK c])):=fun x hx=>by
  rw[List.mem_singleton.1 hx];trivial
def zvc:aW:=fun vs K=>∃ c:List UInt64,vs=[.agg (.u64s c)]/\c.length=4/\K (.c (.clo 86 [pK c]))
theorem zy2:jr Tryd.prog gl 80 zvc:=by
 refine kJ (Γ:=g0) (N:=4) Tryd.func80 rfl rfl fun vs K h=>?_;obtain⟨c,rfl,hc,h⟩:=h;refine⟨_,h,TF c,by simp,fun w I=>?_⟩;refine aO aF fun _ K2=>?_
 iterate 2 refine mE ?_
 refine aJ K2 (aO aF fun _ K4=>?_)
 iterate 2 refine mE ?_
 refine aJ K4 (bQ (gT aF (fun _ _ h=>h) (TF c) [0] [.tmp 2] rfl ?_))
 repeat' (first|exact trivial|refine aI ?_ ?_|exact iM|refine low_cons' ?_ ?_|exact iN|fail)
 all_goals first|exact Nat.one_pos|(simp[hc];done)|skip

noncomputable def gi:Ctx:={ P:=Tryd.prog,ty:=ty,glob:=gl,fs:=[(87,.flat tzS)] }
theorem mU:gi.OK:=⟨dS,⟨⟨bX Tryd.func87 aN rfl,PE⟩,trivial⟩,mixed⟩
@[simp] theorem z0D:gi.ty=ty:=rfl


attribute [local irreducible] eG vT gL
theorem y0u (c:List UInt64) (hc4:c.length=4):wZ Tryd.prog gl 86 [.c (pK c)] (CF c):=by
  intro I W cs l hG hlt hargs J Z hab habz hround hJ0;rw[show(#[.func (.yield l) #[] #[]]++cs.toArray:Array Value)=(.func (.yield l) #[] #[]::cs).toArray by simp];refine Wk (Γ:=gi) (N:=26) (C:=di W I) (β:=ll) (n:=0) (H:=[]) (vs:=[.c (.raw (.func (.yield l) #[] #[])),.c (pK c)]) (xs:=.func (.yield l) #[] #[]::cs) Tryd.func86 rfl rfl (by simp) (aQ.init hlt) hG ⟨Nat.le_refl _,fun i hi=>absurd hi (Nat.not_lt_zero i)⟩ rfl ⟨by simpa using hargs.1,fun j v hv=>?_⟩ ?_
  · cases j with
    |zero=>cases hv;exact⟨_,rfl,(SV.rel_flat (x:=.c (.raw _)) rfl).2 rfl,SV.flat_low rfl⟩
    |succ j=>exact hargs.2 j v hv
  refine aO mU fun _ K2=>?_
  iterate 2 refine QZ ?_
  refine aJ K2 (bO (fQ [] id [(0,.c (.raw (.func (.yield l) #[] #[]))),(5,.agg (.u64s c)),(6,.c (.int .i64 ((0:Nat):Int)))] [] 0 [] ?_ ?_ ?_ ?_ ?_))
  · exact cu
  · exact cu
  · exact cu
  · exact cu
  refine Zr (J:=J (yl c 0).length) hJ0 (hab _) fun a1 w1 hA=>ziq (fun i a w=>i<=4/\uf gi 26 (J (yl c i).length) [(0,.c (.raw (.func (.yield l) #[] #[]))),(5,.agg (.u64s c)),(6,.c (.int .i64 ((i:Nat):Int)))] a w) 4 (fun _ _ _ h=>h.1) ?_ 0 a1 w1 ⟨Nat.zero_le _,hA⟩;intro i a w ⟨hi,hA⟩;refine Yy hA (List.forall_mem_cons.2 ⟨SV.flat_low rfl,List.forall_mem_cons.2 ⟨SV.flat_low rfl,List.forall_mem_cons.2 ⟨SV.flat_low rfl,fun _ h=>by cases h⟩⟩⟩) fun D w0 hJk=>aO mU fun _ K4=>QZ ?_;refine aJ K4 (aH fun _ K5=>bC (b:=_) rfl (fun h_t7=>?_) (fun h_t7=>?_))
  · try simp only[dQ,reduceIte]at h_t7
    refine bK (K5 _ _ _ (Aq fun _ K6=>bO (aO mU fun _ K8=>?_)))
    iterate 4 refine Kz ?_
    refine aJ K8 ?_
    have hi4:i< 4:=by omega
    refine bO (fQ [] id [(0,.c (.raw (.func (.yield l) #[] #[]))),(5,.agg (.u64s c)),(6,.c (.int .i64 ((i:Nat):Int))),(3,.c (.int .i64 ((i:Nat):Int))),(4,.c (.u64 (c.getD i 0)))] [] 0 [] ?_ ?_ ?_ ?_ ?_)
    · exact uP
    · exact uP
    · exact uP
    · exact uP
    refine Zr (J:=J ((yl c i).length+0)) hJk (hab _) fun a2 w2 hA2=>ziq (fun j a w=>∃ y,j<=(gL (c.getD i 0)).length/\M6 (c.getD i 0) j y/\uf gi 26 (J ((yl c i).length+j)) [(0,.c (.raw (.func (.yield l) #[] #[]))),(5,.agg (.u64s c)),(6,.c (.int .i64 ((i:Nat):Int))),(3,.c (.int .i64 ((i:Nat):Int))),(4,.c (.u64 y))] a w) (gL (c.getD i 0)).length (fun _ _ _ ⟨_,h,_⟩=>h) ?_ 0 a2 w2 ⟨_,Nat.zero_le _,AL _,hA2⟩;intro j a w ⟨y,hj,hy,hA3⟩;refine Yy hA3 (List.forall_mem_cons.2 ⟨SV.flat_low rfl,List.forall_mem_cons.2 ⟨SV.flat_low rfl,List.forall_mem_cons.2 ⟨SV.flat_low rfl,List.forall_mem_cons.2 ⟨SV.flat_low rfl,List.forall_mem_cons.2 ⟨SV.flat_low rfl,fun _ h=>by cases h⟩⟩⟩⟩⟩) fun D2 w3 hJj=>aH fun _ K9=>aO mU fun _ K11=>?_
    iterate 2 refine QZ ?_
    refine aJ K11 (bC (b:=_) rfl (fun h_t11=>?_) (fun h_t11=>?_))
    · try simp only[dQ,reduceIte]at h_t11
      refine bK (K9 _ _ _ ?_)
      have hy0:y≠0:=by simpa using h_t11
      obtain⟨hr1,hr2,hr3,hr4⟩:=AJ hy hy0;refine bO (Zr (J:=J ((yl c i).length+j)) hJj (hab _) fun a4 w4 hA4=>wp_seq (wp_seq (zmp (J:=J ((yl c i).length+j)) (J':=J ((yl c i).length+(j+1))) (Z:=Z) mU (hab _) habz (hab _) 7 rfl rfl rfl rfl rfl (by decide) (ys:=[.c (.u8 (UInt8.ofInt (64*(i:Int)+(vT y:Int))))]) (l:=l) (fun D w v m hj hv=>hround _ D w _ v m (Cv c hi4 hy hy0) hj hv) (args:=[.tmp 18]) rfl (E2:=fun r=>[(0,.c (.raw (.func (.yield l) #[] #[]))),(5,.agg (.u64s c)),(6,.c (.int .i64 ((i:Nat):Int))),(3,.c (.int .i64 ((i:Nat):Int))),(4,.c (.u64 y)),(20,.c (.bool (!r)))]) (fun n=>?_) hA4 (fun a5 w5 hA5=>?_) (fun a5 w5 hA5=>?_))))
      · simp only[List.take_succ_cons,List.take_zero,List.drop_succ_cons,List.drop_zero]
        refine z91 rfl (by decide) rfl (by intro c h;cases h) fun _ hS=>?_
        repeat refine aI sO ?_
        apply hS;clear hS;refine z91 rfl (by decide) rfl (by intro c h;cases h) fun _ hS=>?_
        repeat refine aI sO ?_
        apply hS;clear hS;refine z91 rfl (by decide) rfl (by intro c h;cases h) fun _ hS=>?_
        repeat refine aI sO ?_
        apply hS;clear hS;refine z91 rfl (by decide) rfl (by intro c h;cases h) fun _ hS=>?_
        repeat refine aI sO ?_
        apply hS;clear hS;refine z91 rfl (by decide) rfl (by intro c h;cases h) fun _ hS=>⟨y,rfl,?_⟩
        repeat refine aI sO ?_
        apply hS;clear hS;refine z91 rfl (by decide) rfl (by intro c h;cases h) fun _ hS=>?_
        repeat refine aI sO ?_
        apply hS;clear hS;refine z91 rfl (by decide) rfl (by intro c h;cases h) fun _ hS=>?_
        repeat refine aI sO ?_
        apply hS;clear hS;refine uR ⟨rfl,rfl,fun y hy=>?_,fun r=>?_⟩
        · rw[List.mem_singleton.1 hy];trivial
        refine z91 rfl (by decide) rfl (by intro c h;cases h) fun _ hS=>?_;apply hS;clear hS;exact uR (Env.sub_of (List.forall_mem_cons.2 ⟨rfl,List.forall_mem_cons.2 ⟨rfl,List.forall_mem_cons.2 ⟨rfl,List.forall_mem_cons.2 ⟨rfl,List.forall_mem_cons.2 ⟨rfl,List.forall_mem_cons.2 ⟨rfl,fun _ h=>by cases h⟩⟩⟩⟩⟩⟩))
      · simp only[Exit.then]
        refine Yy hA5 (List.forall_mem_cons.2 ⟨SV.flat_low rfl,List.forall_mem_cons.2 ⟨SV.flat_low rfl,List.forall_mem_cons.2 ⟨SV.flat_low rfl,List.forall_mem_cons.2 ⟨SV.flat_low rfl,List.forall_mem_cons.2 ⟨SV.flat_low rfl,List.forall_mem_cons.2 ⟨SV.flat_low rfl,fun _ h=>by cases h⟩⟩⟩⟩⟩⟩) fun D3 w6 hJ3=>bC (b:=false) rfl (fun h=>absurd h (by decide)) (fun _=>?_);refine bK (Cm (bB mU fun _ K12=>?_))
        iterate 5 refine QZ ?_
        exact aJ K12 (dD fun β I a w hS=>⟨_,by omega,hr4,(hS.atJ hJ3 (hab _)).sub (Env.sub_of (List.forall_mem_cons.2 ⟨rfl,List.forall_mem_cons.2 ⟨rfl,List.forall_mem_cons.2 ⟨rfl,List.forall_mem_cons.2 ⟨rfl,List.forall_mem_cons.2 ⟨rfl,fun _ h=>by cases h⟩⟩⟩⟩⟩))⟩)
      · simp only[Exit.then]
        refine hA5.wp fun D3 w3 n3 hJ3=>bC (b:=true) rfl (fun _=>?_) (fun h=>absurd h (by decide));exact bQ (zzt (fn:=Tryd.f86) (R:=fun e w'=>(∃ v,e= .returned v)/\∃ D,J (CF c).length D w'\/Z D w') mU (fun _ _ h=>h) rfl rfl fun β I a w hS=>⟨⟨_,rfl⟩,I,.inr (habz _ _ _ _ _ _ _ hJ3 hS.heap)⟩)
      skip
    · try simp only[dQ,reduceIte]at h_t11
      refine eY (bJ (bJ (eX ?_)))
      have hjl:=Kt hy (by simpa using h_t11)
      have hJn:J (yl c (i+1)).length D2 w3:=by
        rw[ZH,List.length_append,mZ,List.length_map,show(gL (c.getD i 0)).length=j by omega];exact hJj
      refine dD (K6 _ _ _ _ (bB mU fun _ K13=>?_))
      iterate 2 refine QZ ?_
      exact aJ K13 fun β I a w hS=>⟨by omega,(hS.atJ hJn (hab _)).sub (Env.sub_of (List.forall_mem_cons.2 ⟨rfl,List.forall_mem_cons.2 ⟨rfl,List.forall_mem_cons.2 ⟨rfl,fun _ h=>by cases h⟩⟩⟩))⟩
    skip
  · try simp only[dQ,reduceIte]at h_t7
    refine eY (bJ (bJ (eX ?_)))
    obtain rfl:i=4:=by omega
    refine zgl mU rfl rfl fun β I a w hS=>⟨⟨_,rfl⟩,I,.inl ?_⟩;rw[XO, <-y0s];exact hab _ _ _ _ _ _ _ _ hJk hS.heap
  skip

end Go.Proofs.YtpdljmohhpbkpaaDoor

namespace Go.Proofs.YtpdljmohhpbkpaaDoor
open Go.Ab Go.RowKit

theorem sP{a:Prop}(h:a:=by first|exact gG|(simp<;>omega)|(refine⟨by omega,by omega,trivial⟩)|(simp<;>omega)|exact gH):a:=h
theorem nu{a:Prop}(h:a:=by
    repeat' (first|exact trivial|refine aI ?_ ?_|exact iM|refine low_cons' ?_ ?_|exact iN|fail)
    all_goals first|omega|(show(_:List UInt8)=_;first|exact Sc hk|(rw[List.nil_append];exact Sc hk)|rfl|(simp;done))|exact SV.low_mono (Nat.zero_le _) (TF c)|(simp;done)|(simp<;>omega)|skip):a:=h

open Go.Aut
theorem y0v{c:List UInt64}{k:Nat}{x:List SV}(h:(CF c)[k]? =some x):k< (eG c).length/\x=[.c (.u8 ((eG c).getD k 0))]:=by
  rw[CF,List.getElem?_map]at h
  have hk:k< (eG c).length:=by
    rcases Nat.lt_or_ge k (eG c).length with h1|h1
    · exact h1
    · rw[List.getElem?_eq_none h1]at h;cases h
  rw[jB (d:=0) hk]at h;exact⟨hk,(Option.some.inj h).symm⟩
theorem Cx{c:List UInt64}:∀ x∈CF c,x.length=1:=fun x hx=>by
  obtain⟨k,_,rfl⟩:=List.mem_map.1 hx;rfl
theorem Sc{l:List UInt8}{k:Nat}(h:k< l.length):l.take k++[l.getD k 0]=l.take (k+1):=by rw[List.take_add_one,jB (d:=0) h];rfl
attribute [local irreducible] eG
def y0w:aW:=fun vs K=>∃ c:List UInt64,vs=[.c .nils,.c (.clo 86 [pK c])]/\c.length=4/\K (.c (.ds (eG c).length (.u8s (eG c))))
theorem y0x:jr Tryd.prog gl 85 y0w:=by
 refine xw (Γ:=g0) (N:=13) Tryd.func85 rfl rfl fun vs K h=>?_;obtain⟨c,rfl,hc,h⟩:=h;refine⟨_,h,trivial,by simp,fun w I=>?_⟩;refine aH fun _ K1=>bB aF fun _ K2=>sS fun _ hS=>?_;(repeat refine aI pN ?_);apply hS;clear hS;refine qA ?_;refine aJ K2 (K1 _ _ _ (Aq fun _ K3=>aH fun _ K4=>bB aF fun _ K5=>qA ?_));refine aJ K5 (K4 _ _ _ (z30 0 0 5 (.u8s []) rfl rfl rfl trivial (fQ [] id [(2,.c (.ptr 0 0)),(6,.c (.clo 86 [pK c]))] [(0,.own 22 (.cells [.slice 1 0 0 0]) 1),(1,.own 5 (.u8s ((eG c).take 0)) 0)] 2 [0,1] ?_ ?_ ?_ ?_ ?_)))
 ·exact nu
 ·exact nu
 ·exact nu
 ·exact nu
 refine bO (zxq aF (α:=Nat) (caps:=[pK c]) (xs:=CF c) (bX Tryd.func86 aN rfl) (y0u c hc) rfl (fun v hv=>?_) ⟨by decide,by decide,Cx⟩ (.exit 0) rfl 1 (by omega) (Nat.zero_le _) ?_ (fun k y=>[(0,.own 22 (.cells [.slice 1 0 k y]) 1),(1,.own 5 (.u8s ((eG c).take k)) y)]) (fun k y=>k<=(eG c).length/\k<=y) 0 ?_ ⟨Nat.zero_le _,Nat.le_refl _⟩ (fun k y=>[(2,.c (.ptr 0 0)),(6,.c (.clo 86 [pK c])),(5,.c (.u8 ((eG c).getD k 0)))]) (fun k y=>[(0,.own 22 (.cells [.slice 1 0 k y]) 1),(1,.own 5 (.u8s ((eG c).take k)) y)]) (fun k y=>False) ?_ ?_ ?_ ?_)
 ·rw[List.mem_singleton.1 hv]
  trivial
 ·intro i v hv;refine Env.low_get (n:=1) (E:=[(2,.c (.ptr 0 0)),(6,.c (.clo 86 [pK c]))]) ?_ hv
  repeat' (first|exact trivial|refine aI ?_ ?_|exact iM|refine low_cons' ?_ ?_|exact iN|fail)
  all_goals first|omega|(show(_:List UInt8)=_;first|exact Sc hk|(rw[List.nil_append];exact Sc hk)|rfl|(simp;done))|exact SV.low_mono (Nat.zero_le _) (TF c)|(simp;done)|(simp<;>omega)|skip
 ·rfl
 ·intro k y x hx hP C' ro m Q hC hQ
  obtain⟨hk,rfl⟩:=y0v hx
  have hbl:=XI c
  refine w9 fun hn0=>zl7 aF fun _ K106=>z91 rfl (by decide) rfl (by intro c h;cases h) fun _ hS=>?_;apply hS;clear hS;refine uR ?_;apply K106
  refine zur [] id hQ ⟨?_,?_,(by decide:List.Nodup ([0,1]:List Nat)),?_,?_,⟨by omega,fun i hi=>by
   have hi':i< 1:=by omega
   first|rfl|(obtain rfl:i=0:=(by omega);rfl)|(simp;omega)|(match i,hi' with
   |0,_=>rfl
   |1,_=>rfl)⟩⟩
  ·exact nu
  ·exact nu
  ·exact nu
  ·exact nu
 ·intro k y x hx hP C' ro m Q hC hQ hZ
  obtain⟨hk,rfl⟩:=y0v hx
  have hbl:=XI c
  refine w9 fun hn0=>zzb (zl7 aF fun _ K207=>z91 rfl (by decide) rfl (by intro c h;cases h) fun _ hS=>?_)
  repeat refine aI sP ?_
  first|apply hS|(refine bW sP ?_;apply hS)|(refine fA ?_;apply hS)
  clear hS;refine z91 rfl (by decide) rfl (by intro c h;cases h) fun _ hS=>?_;apply hS;clear hS;refine z91 rfl (by decide) rfl (by intro c h;cases h) fun _ hS=>?_
  repeat refine aI sP ?_
  apply hS;clear hS;refine z91 rfl (by decide) rfl (by intro c h;cases h) fun _ hS=>?_
  repeat first|refine aI sP ?_|refine bW sP ?_|refine fA ?_
  intro cap3 hcap3;apply hS;clear hS;refine Gf rfl rfl (by intro c h;cases h) fun _ hS=>?_
  repeat refine aI sP ?_
  first|apply hS|(refine dC sP ?_;apply hS)
  clear hS;refine uR ?_;apply K207;refine dD ?_
  refine zur [] (fun i=>if i=0 then 0 else 3) (hQ cap3 ⟨by omega,by omega⟩) ⟨?_,?_,(by decide:List.Nodup ([0,3]:List Nat)),?_,?_,⟨by omega,fun i hi=>by
   have hi':i< 1:=by omega
   first|rfl|(obtain rfl:i=0:=(by omega);rfl)|(simp;omega)|(match i,hi' with
   |0,_=>rfl
   |1,_=>rfl)⟩⟩
  ·exact nu
  ·exact nu
  ·exact nu
  ·exact nu
 ·intro y β1 I1 w1 d1 hP hH1 hd0 hA
  rw[XO]at hH1 hA ⊢
  try rw[XO]at hP
  refine dD (K3 _ _ _ _ (aH fun _ K308=>bB aF fun _ K309=>sS fun _ hS=>?_));(repeat refine aI pN ?_);(first|apply hS|(refine bW pN ?_;apply hS)|(refine fA ?_;apply hS));clear hS;refine qA ?_;refine aJ K309 (K308 _ _ _ (bQ (zxp aF hH1 hd0 hA (fun _ _ h=>h) (trivial) [1] [.tmp 4] rfl ?_)))
  repeat' (first|exact trivial|refine aI ?_ ?_|exact iM|refine low_cons' ?_ ?_|exact iN|fail)
  all_goals first|omega|(show _=eG c;rw[List.take_length])|(rw[List.take_length];done)|(simp;done)|skip
 ·intro k y β1 I1 w1 d1 hk hZ;exact absurd hZ id



end Go.Proofs.YtpdljmohhpbkpaaDoor

namespace Go.Proofs.YtpdljmohhpbkpaaDoor
open Go.Ab Go.RowKit

section
variable {a b:Prop}
theorem Ey(h:a:=by first|exact gG|(simp[hs]<;>omega)|decide|exact gH):a:=h
theorem Ez(h:a:=by first|exact gG|(simp<;>omega)|(simp;done)|exact gH):a:=h
theorem FC(h:a:=by first|exact gG|(simp<;>omega)|(simp;done)|(simp<;>omega)|exact gH):a:=h
theorem nY(h:a:=by
    repeat' (first|exact trivial|refine aI ?_ ?_|exact iM|refine low_cons' ?_ ?_|exact iN|fail)
    all_goals first|omega|(show(_:List UInt64)=_;first|rfl|(rw[Int.toNat_natCast,Nat.mul_one];exact zf (by omega))|(simp;done))|(simp;done)|(simp<;>omega)|skip):a:=h
theorem oJ(kZ:b)(h:aK b->a:=by intro kZ;(repeat first|refine aI pN ?_|refine bW pN ?_|refine dC pN ?_|refine fT pN ?_|refine fA ?_);exact kZ.out):a:=h ⟨kZ⟩
theorem fU(kZ:b)(h:aK b->a:=by intro kZ;refine sX ?_;refine oJ ?_;refine aL ?_;exact kZ.out):a:=h ⟨kZ⟩
theorem Hl(kZ:b)(h:aK b->a:=by intro kZ;(repeat first|refine aI Ey ?_|refine bW Ey ?_|refine dC Ey ?_|refine fT Ey ?_|refine fA ?_);exact kZ.out):a:=h ⟨kZ⟩
theorem Jz(kZ:b)(h:aK b->a:=by intro kZ;refine dX ?_;refine Hl ?_;refine aL ?_;exact kZ.out):a:=h ⟨kZ⟩
theorem De(kZ:b)(h:aK b->a:=by intro kZ;refine pu ?_;refine Hl ?_;refine aL ?_;exact kZ.out):a:=h ⟨kZ⟩
theorem wJ(kZ:b)(h:aK b->a:=by intro kZ;(repeat first|refine aI Ez ?_|refine bW Ez ?_|refine dC Ez ?_|refine fT Ez ?_|refine fA ?_);exact kZ.out):a:=h ⟨kZ⟩
theorem LA(kZ:b)(h:aK b->a:=by intro kZ;refine sX ?_;refine wJ ?_;refine aL ?_;exact kZ.out):a:=h ⟨kZ⟩
theorem Hm(kZ:b)(h:aK b->a:=by intro kZ;(repeat first|refine aI FC ?_|refine bW FC ?_|refine dC FC ?_|refine fT FC ?_|refine fA ?_);exact kZ.out):a:=h ⟨kZ⟩
theorem GL(kZ:b)(h:aK b->a:=by intro kZ;refine sX ?_;refine Hm ?_;refine aL ?_;exact kZ.out):a:=h ⟨kZ⟩
theorem A7(kZ:b)(h:aK b->a:=by intro kZ;refine jl ?_;refine Hm ?_;refine aL ?_;exact kZ.out):a:=h ⟨kZ⟩
theorem gm(kZ:b)(h:aK b->a:=by intro kZ;refine sX ?_;refine oJ ?_;exact kZ.out):a:=h ⟨kZ⟩
theorem zvd(kZ:b)(h:aK b->a:=by intro kZ;refine sX ?_;refine tQ ?_;exact kZ.out):a:=h ⟨kZ⟩
theorem Ac(kZ:b)(h:aK b->a:=by intro kZ;refine sX ?_;refine wJ ?_;exact kZ.out):a:=h ⟨kZ⟩
end
open Go.Aut
attribute [local irreducible] eG
noncomputable def U4:Ctx:={ P:=Tryd.prog,ty:=ty,glob:=gl,fs:=[(85,.data y0w)] }
theorem Vv:U4.OK:=⟨dS,⟨⟨bX Tryd.func85 aN rfl,y0x⟩,trivial⟩,mixed⟩
@[simp] theorem U5:U4.ty=ty:=rfl

def zve:aW:=fun vs K=>∃ c:List UInt64,vs=[.c (.clo 86 [pK c])]/\c.length=4/\K (.c (.ds (eG c).length (.u8s (eG c))))
theorem zy3:jr Tryd.prog gl 79 zve:=by
 refine kJ (Γ:=U4) (N:=5) Tryd.func79 rfl rfl fun vs K h=>?_;obtain⟨c,rfl,hc,h⟩:=h;refine⟨_,h,trivial,by simp,fun w I=>?_⟩;refine aO Vv fun _ K2=>fU ?_;refine aJ K2 (aO Vv fun _ K4=>fU ?_);refine gm ?_;refine aI (fun x hx=>by rw[List.mem_singleton.1 hx];intro g l;intro e;cases e) ⟨c,rfl,hc,oJ ?_⟩
 first|refine aL ?_|(intro cap1 hcap1;refine aL ?_)
 refine fU ?_;refine aJ K4 (bQ (gT Vv (fun _ _ h=>h) (by trivial) [] [.tmp 2] rfl ?_))
 all_goals exact cu

noncomputable def U6:Ctx:={ P:=Tryd.prog,ty:=ty,glob:=gl,fs:=[(79,.data zve),(80,.data zvc)] }
theorem Vw:U6.OK:=⟨dS,⟨⟨bX Tryd.func79 aN rfl,zy3⟩,⟨bX Tryd.func80 aN rfl,zy2⟩,trivial⟩,mixed⟩
@[simp] theorem U7:U6.ty=ty:=rfl

def y11:aW:=fun vs K=>∃ c:List UInt64,vs=[.agg (.u64s c)]/\c.length=4/\K (.c (.ds (eG c).length (.u8s (eG c))))
theorem y12:jr Tryd.prog gl 62 y11:=by
 refine kJ (Γ:=U6) (N:=6) Tryd.func62 rfl rfl fun vs K h=>?_;obtain⟨c,rfl,hc,h⟩:=h;refine⟨_,h,trivial,by simp,fun w I=>?_⟩;refine aO Vw fun _ K2=>?_
 iterate 2 refine mE ?_
 refine aJ K2 (aO Vw fun _ K4=>mE ?_);refine zvd ?_;refine⟨c,rfl,hc,tQ ?_⟩
 first|refine aL ?_|(intro cap1 hcap1;refine aL ?_)
 refine zvd ?_;refine aI (fun x hx=>by rw[List.mem_singleton.1 hx];intro g l;intro e;cases e) ⟨c,rfl,hc,tQ ?_⟩
 first|refine aL ?_|(intro cap2 hcap2;refine aL ?_)
 refine mE ?_;refine aJ K4 (bQ (gT Vw (fun _ _ h=>h) (by trivial) [] [.tmp 2] rfl ?_))
 all_goals exact cu

def pG(s:List UInt64)(b:UInt8):List UInt64:=s.set (b / 64).toNat (s.getD (b / 64).toNat 0 ||| iK 1 (b%64).toNat)
@[simp] theorem zsy(s:List UInt64)(b:UInt8):(pG s b).length=s.length:=by simp[pG]
theorem xy(b:UInt8):(b / 64).toNat< 4:=by
  have:=b.toNat_lt
  rw[UInt8.toNat_div]
  show b.toNat / 64< 4
  omega
def vP(l:List UInt8):List UInt64:=l.foldl pG (List.replicate 4 0)
def EX(l:List UInt8)(k:Nat):List UInt64:=(l.take k).foldl pG (List.replicate 4 0)
theorem Wm:∀ (l:List UInt8) (s:List UInt64),(l.foldl pG s).length=s.length
  |[],_=>rfl
  |b::l,s=>by rw[List.foldl_cons,Wm l,zsy]
@[simp] theorem zy4(l:List UInt8)(k:Nat):(EX l k).length=4:=by rw[EX,Wm];rfl
@[simp] theorem Kj(l:List UInt8):(vP l).length=4:=by rw[vP,Wm];rfl
theorem zf{l:List UInt8}{k:Nat}(h:k< l.length):pG (EX l k) (l.getD k 0)=EX l (k+1):=by
  rw[EX,EX,List.take_add_one,jB (d:=0) h,Option.toList_some,List.foldl_append];rfl
theorem y13(l:List UInt8):EX l l.length=vP l:=by rw[EX,List.take_length];rfl
def Jm:qw:=fun te c cap off vs K=>match c,vs with
  | .u64s s,[.c (.u8 b)]=>(off=0/\s.length=4)/\K (.u64s (pG s b)) og
  |_,_=>False
theorem Jn:wY Tryd.prog gl 88 Jm:=by
 refine Kq (Γ:=g0) (N:=16) Tryd.func88 rfl rfl fun te c cap off vs K h=>?_;unfold Jm at h
 split at h
 ·rename_i s b
  obtain⟨⟨hoff,hs⟩,h⟩:=h;subst hoff;refine⟨_,_,h,rfl,rfl,by simp,fun w I b'=>?_⟩
  have hb:(b / UInt8.ofNat (Int.toNat 64)).toNat< 4:=xy b
  refine ry aF [(0,true),(1,true),(2,true),(3,true),(4,true),(5,true),(6,true),(7,true),(8,true),(9,true),(10,true),(11,true),(12,false)] rfl aN aN fun _ K1=>?_
  iterate 12 refine Jz ?_
  refine De ?_;refine iF K1 (zza aF (fun _ _ h=>h) rfl ?_)
  show Option.some (dw.own te (.u64s _) cap)=_
  rw[pG,show 0+((b / UInt8.ofNat (Int.toNat 64)).toNat:Int).toNat*1=(b / 64).toNat by rw[Int.toNat_natCast,Nat.mul_one,Nat.zero_add];rfl]
  rfl
 ·exact h.elim

noncomputable def U8:Ctx:={ P:=Tryd.prog,ty:=ty,glob:=gl,fs:=[(88,.gen (Ko Jm))] }
theorem HV:U8.OK:=⟨dS,⟨⟨bX Tryd.func88 aN rfl,Dr Jn⟩,trivial⟩,mixed⟩
@[simp] theorem U9:U8.ty=ty:=rfl

def Oa:aW:=fun vs K=>∃ l:List UInt8,vs=[.c (.ds l.length (.u8s l))]/\l.length<=9223372036854775807/\K (.agg (.u64s (vP l)))
theorem Kh:jJ Tryd.prog gl 81 Oa:=by
 refine kU (Γ:=U8) (N:=16) Tryd.func81 rfl rfl fun vs K h=>?_;obtain⟨l,rfl,hl,h⟩:=h;refine⟨_,h,rfl,by simp,fun w I=>?_⟩;refine aO HV fun _ K2=>fU ?_;refine aJ K2 (aO HV fun _ K4=>fU ?_);refine aJ K4 (aH fun _ K5=>aO HV fun _ K7=>?_)
 iterate 3 refine fU ?_
 refine aJ K7 (bO (fM (α:=Nat) (fun k=>[(2,.c (.ptr 0 0)),(3,.c (.ptr 1 0)),(6,.c (.ds l.length (.u8s l))),(7,.c (.int .i64 l.length)),(8,.c (.int .i64 k))]) (fun k=>[(0,.own 53 (.u64s (List.replicate 4 0)) 4),(1,.own 53 (.u64s (EX l k)) 4)]) 2 (fun k=>k<=l.length) (fun k=>l.length - k) ?_ ?_))
 ·refine ai [] id 0 (Nat.zero_le _) [0,1] nY nY nY nY
 ·intro k hk;refine aO HV fun _ K9=>fU ?_;refine aJ K9 (aH fun _ K10=>bC (b:=_) rfl (fun h_t9=>?_) (fun h_t9=>?_))
  ·try simp only[dQ,reduceIte]at h_t9
   refine bK (K10 _ _ _ (aH fun _ K11=>bO ?_))
   have hkl:k< l.length:=by omega
   refine aO HV fun _ K13=>?_
   iterate 3 refine fU ?_
   refine aJ K13 (bB HV fun _ K14=>LA ?_);refine Ac ?_;refine⟨⟨rfl,by simp,fun v hv=>by rw[List.mem_singleton.1 hv];trivial⟩,⟨rfl,zy4 _ _⟩,wJ ?_⟩
   first|refine aL ?_|(intro cap1 hcap1;refine aL ?_)
   refine aJ K14 (dD (K11 _ _ _ (bB HV fun _ K15=>?_)))
   iterate 2 refine fU ?_
   refine aJ K15 (ai [] id (k+1) ⟨by omega,by omega⟩ [0,1] nY nY nY nY)
  ·try simp only[dQ,reduceIte]at h_t9
   refine eY (bJ (bJ (eX (K5 _ _ _ ?_))))
   obtain rfl:k=l.length:=by omega
   refine aO HV fun _ K17=>GL ?_;refine A7 ?_;refine aJ K17 (bQ (eU HV (fun _ _ h=>h) (by first|rfl|assumption) [.cell 2 53] rfl ?_));refine gV ?_
   try refine bW (by simp) ?_
   show SV.agg (.u64s _)=SV.agg (.u64s _)
   congr 2
   first|rfl|exact y13 l|(simp[y13];done)


end Go.Proofs.YtpdljmohhpbkpaaDoor

namespace Go.Proofs.YtpdljmohhpbkpaaDoor
open Go.Ab Go.RowKit

open Go.Aut
attribute [local irreducible] eG
def ed(c:List UInt64)(b:Nat):Bool:=(c.getD (b / 64) 0).toNat.testBit (b%64)
theorem JE{l:List UInt64}{k b:Nat}(hb:b< 256):ed (bE l k) b=bv l k b:=TW hb
theorem Q0{a b:List UInt64}(ha:a.length=4)(hb:b.length=4)(h:∀ x,x< 256->ed a x=ed b x):a=b:=by
  refine o9 0 (ha.trans hb.symm) fun i hi=>y03 fun j hj=>?_
  have:=h (64*i+j) (by omega)
  rwa [ed,ed,show(64*i+j) / 64=i by omega,show(64*i+j)%64=j by omega]at this
theorem TG(g:UInt64->UInt64->UInt64)(a b:List UInt64){i:Nat}(h:i< 4):(l8 g a b).getD i 0=g (a.getD i 0) (b.getD i 0):=by
  rw[l8,pZ,iy h,if_pos h]
theorem y14(a b:List UInt64){x:Nat}(h:x< 256):ed (Qi a b) x=(ed a x||ed b x):=by
  rw[ed,Qi,TG _ _ _ (by omega),ed,ed,UInt64.toNat_or,Nat.testBit_or]
theorem zvf(a b:List UInt64){x:Nat}(h:x< 256):ed (ug a b) x=(ed a x&&ed b x):=by
  rw[ed,ug,TG _ _ _ (by omega),ed,ed,UInt64.toNat_and,Nat.testBit_and]
theorem zvg(a:List UInt64){x:Nat}(h:x< 256):ed (sM a) x= !ed a x:=by
  have e:∀ y:UInt64,∀ j,j< 64->(~~~y).toNat.testBit j= !y.toNat.testBit j:=fun y j hj=>by
    show(~~~y).toBitVec.getLsbD j= !y.toBitVec.getLsbD j
    rw[show(~~~y).toBitVec= ~~~y.toBitVec from rfl,BitVec.getLsbD_not]
    simp[hj]
  rw[ed,sM,TG _ _ _ (by omega),ed,e _ _ (Nat.mod_lt _ (by decide))]
theorem z68(x:Nat):ed Z4 x=false:=by
  rw[ed,List.getD_eq_getElem?_getD,List.getElem?_replicate]
  split<;>simp
theorem P9(l:List UInt64){x:Nat}(h:x< 256):∀ k,ed (iU l k) x=true↔∃ c,c< k/\bv l c x=true
  | 0=>by
    rw[iU,z68];exact⟨fun h=>(by cases h),fun⟨c,hc,_⟩=>absurd hc (Nat.not_lt_zero c)⟩
  | k +1=>by
    rw[iU,y14 _ _ h,Bool.or_eq_true,P9 l h k,JE h]
    constructor
    · rintro (⟨c,hc,e⟩|e)
      · exact⟨c,by omega,e⟩
      · exact⟨k,by omega,e⟩
    · rintro ⟨c,hc,e⟩
      by_cases hk:c=k
      · subst hk;exact .inr e
      · exact .inl ⟨c,by omega,e⟩
theorem zje {l:List UInt64} {nc k:Nat} (hl:l.length=nc*4) (hk:k< nc):z78 l k=true↔(∃ x,x< 256/\bv l k x=true)/\∀ x,x< 256->∀ c,c< k->bv l c x=true->bv l k x=false:=by
  have h4:=z26 hl hk
  rw[z78,Bool.and_eq_true,Bool.not_eq_true',decide_eq_false_iff_not,decide_eq_true_eq];refine and_congr ?_ ?_
  · constructor
    · intro h
      refine Classical.byContradiction fun hn=>h (Q0 h4 (by simp) fun x hx=>?_);rw[z68,JE hx]
      cases e:bv l k x with
      |false=>rfl
      |true=>exact absurd ⟨x,hx,e⟩ hn
    · rintro ⟨x,hx,e⟩ h
      rw[<-JE hx,h,z68]at e;cases e
  · constructor
    · intro h x hx c hc e
      have h1:=congrArg (fun a=>ed a x) h
      simp only[zvf _ _ hx,z68,(P9 l hx k).2 ⟨c,hc,e⟩,Bool.true_and]at h1
      rw[JE hx]at h1;exact h1
    · intro h
      refine Q0 (by simp[ug,l8,pZ]) (by simp) fun x hx=>?_;rw[zvf _ _ hx,z68,JE hx]
      cases e:ed (iU l k) x with
      |false=>rfl
      | true=>
        obtain⟨c,hc,e'⟩:=(P9 l hx k).1 e;rw[h x hx c hc e'];rfl
theorem x8 {l:List UInt64} {nc:Nat} (hl:l.length=nc*4):sI l nc=true↔(∀ b,b< 256->∃ c,c< nc/\∀ x,x< nc->(bv l x b=true↔x=c))/\∀ c,c< nc->∃ b,b< 256/\bv l c b=true:=by
  rw[sI,Bool.and_eq_true,List.all_eq_true,decide_eq_true_eq]
  have hn:sM (iU l nc)=Z4↔∀ x,x< 256->∃ c,c< nc/\bv l c x=true:=by
    constructor
    · intro h x hx
      have h1:=congrArg (fun a=>ed a x) h
      simp only[zvg _ hx,z68,Bool.not_eq_false']at h1
      exact(P9 l hx nc).1 h1
    · intro h
      refine Q0 (by simp[sM,l8,pZ]) (by simp) fun x hx=>?_;rw[zvg _ hx,z68,(P9 l hx nc).2 (h x hx)];rfl
  rw[hn]
  constructor
  · rintro ⟨h1,h2⟩
    have h1:∀ k,k< nc->_:=fun k hk=>(zje hl hk).1 (h1 k (List.mem_range.2 hk))
    refine⟨fun b hb=>?_,fun c hc=>(h1 c hc).1⟩;obtain⟨c,hc,e⟩:=h2 b hb;refine⟨c,hc,fun x hx=>⟨fun hx'=>?_,fun e'=>e'▸e⟩⟩
    rcases Nat.lt_trichotomy x c with h|h|h
    · have:=(h1 c hc).2 b hb x h hx';rw[e]at this;cases this
    · exact h
    · have:=(h1 x hx).2 b hb c h e;rw[hx']at this;cases this
  · rintro ⟨h1,h2⟩
    refine⟨fun k hk=>?_,fun x hx=>?_⟩
    · have hk:=List.mem_range.1 hk
      refine(zje hl hk).2 ⟨h2 k hk,fun x hx c hc e=>?_⟩;obtain⟨c',hc',e'⟩:=h1 x hx
      cases e2:bv l k x with
      |false=>rfl
      | true=>
        have a:=(e' c (by omega)).1 e
        have b:=(e' k hk).1 e2
        omega
    · obtain⟨c,hc,e⟩:=h1 x hx
      exact⟨c,hc,(e c hc).2 rfl⟩
def _root_.Go.Aut.Dfa.good(d:Dfa):Prop:=d.ok/\d.next.length<=64
theorem Xi{nc n:Nat}{r:List Int}:jZ nc n r=true↔r.length=nc/\∀ t∈r,0<=t/\t< (n:Nat):=by
  rw[jZ,Bool.and_eq_true,decide_eq_true_eq,List.all_eq_true]
  simp only[j4,Bool.and_eq_true,decide_eq_true_eq]
theorem z22{d:Dfa}(hw:d.wf):eQ d=true↔d.good:=by
  rw[eQ,Bool.and_eq_true,Bool.and_eq_true,decide_eq_true_eq,x8 hw.1,List.all_eq_true]
  constructor
  · rintro ⟨⟨⟨h1,h2,h3,h4,h5⟩,h6,h7⟩,h8⟩
    exact⟨⟨hw.1,h1,h3,h4,h5,h6,h7,fun r hr=>Xi.1 (h8 r hr)⟩,h2⟩
  · rintro ⟨h,h2⟩
    exact⟨⟨⟨h.npos,h2,h.alen,h.cpos,h.cmax⟩,h.part,h.full⟩,fun r hr=>Xi.2 (h.rows r hr)⟩
theorem C4{d:Dfa}(h:d.good):d.wf:=by
  obtain⟨h,h2⟩:=h;refine⟨h.clen,by have:=h.cmax;omega,by omega,by rw[h.alen];omega,fun r hr=>by have:=(h.rows r hr).1;have:=h.cmax;omega⟩
theorem pU{d:Dfa}(h:d.good):eQ d=true:=(z22 (C4 h)).2 h
def au(cell:List Int)(nc:Nat)(x y:Cell):List Cell:=cell.map (Cell.int .i64)++[.int .i64 nc,x,y]
abbrev dP(t:Tab):aB:=.cells (au t.cell t.nc (.ds t.next.length (.cells (aS t.next))) (.ds t.acc.length (.bools t.acc)))
abbrev bu(t:Tab):SV:=.agg (dP t)
theorem dJ{cell:List Int}{nc:Nat}{x y:Cell}(h:cell.length=256):(au cell nc x y).length=259:=by simp[au,h]
theorem BP{cell:List Int}{nc:Nat}{x y:Cell}(h:cell.length=256){b:Nat}(hb:b< 256):(aB.cells (au cell nc x y)).get b= .int .i64 (cell.getD b 0):=by
  show(au cell nc x y).getD b .nils=_
  rw[au,List.getD_eq_getElem?_getD,List.getElem?_append_left (by simpa [h]using hb),List.getElem?_map,jB (d:=0) (by omega)];rfl
theorem Pm{cell:List Int}{nc:Nat}{x y:Cell}(h:cell.length=256)(j:Nat):(aB.cells (au cell nc x y)).get (256+j)=[Cell.int .i64 nc,x,y].getD j .nils:=by
  show(au cell nc x y).getD (256+j) .nils=_
  rw[au,List.getD_eq_getElem?_getD,List.getElem?_append_right (by simp[h]),List.getD_eq_getElem?_getD]
  congr 2;simp[h]
theorem G5{cell:List Int}{nc:Nat}{x y:Cell}(h:cell.length=256){b:Nat}(hb:b< 256)(v:Int):(au cell nc x y).set b (.int .i64 v)=au (cell.set b v) nc x y:=by
  rw[au,au,List.set_append_left _ _ (by simpa [h]using hb),List.map_set]
theorem Bp{cell:List Int}{nc n:Nat}{x y:Cell}(hx:x.low n)(hy:y.low n):(aB.cells (au cell nc x y)).low n:=fun z hz=>by
  rcases List.mem_append.1 hz with hz|hz
  · obtain⟨v,_,rfl⟩:=List.mem_map.1 hz;trivial
  · rcases List.mem_cons.1 hz with rfl|hz
    · trivial
    · rcases List.mem_cons.1 hz with rfl|hz
      · exact hx
      · rw[List.mem_singleton.1 hz];exact hy
theorem zvh{a b:List Cell}(ha:pI a)(hb:pI b):pI (a++b):=by
  induction a with
  |nil=>exact hb
  |cons x a ih=>exact⟨ha.1,ih ha.2⟩
theorem zqg{k:IntKind}(l:List Int):pI (l.map (Cell.int k)):=by
  induction l with
  |nil=>trivial
  |cons x l ih=>exact⟨trivial,ih⟩
theorem wo(t:Tab):pI (au t.cell t.nc (.ds t.next.length (.cells (aS t.next))) (.ds t.acc.length (.bools t.acc))):=zvh (zqg _) ⟨trivial,trivial,trivial,trivial⟩
theorem z42(t:Tab){n:Nat}:(dP t).low n:=Bp trivial trivial
theorem Xj{a b:List Cell}(ha:CQ a)(hb:CQ b):CQ (a++b):=by
  induction a with
  |nil=>exact hb
  |cons x a ih=>exact⟨ha.1,ih ha.2⟩
theorem Rt{k:IntKind}(l:List Int):CQ (l.map (Cell.int k)):=by
  induction l with
  |nil=>trivial
  |cons x l ih=>exact⟨trivial,ih⟩
theorem Bj{cell:List Int}{nc:Nat}{x y:Cell}(hx:x.solid)(hy:y.solid):CQ (au cell nc x y):=Xj (Rt _) ⟨trivial,hx,hy,trivial⟩
theorem zln{ty:Nat->Ty}{H:Heap}{is:List Nat}{ρ:Nat->Nat}{k:IntKind}(l:List Int):bR (Cell.to ty H is ρ) (l.map (Cell.int k)) (l.map (Cell.int k)):=by
  induction l with
  |nil=>trivial
  |cons x l ih=>exact⟨⟨rfl,rfl⟩,ih⟩
theorem PX{f:Cell->Cell->Prop}:∀ {a b c d:List Cell},bR f a c->bR f b d->bR f (a++b) (c++d)
  |[],_,[],_,_,h=>h
  |_::_,_,_::_,_,h,k=>⟨h.1,PX h.2 k⟩
  |[],_,_::_,_,h,_=>h.elim
  |_::_,_,[],_,h,_=>h.elim
theorem sj{ty:Nat->Ty}{H:Heap}{is:List Nat}{ρ:Nat->Nat}{cell:List Int}{nc:Nat}{x y x' y':Cell}(hx:Cell.to ty H is ρ x x')(hy:Cell.to ty H is ρ y y'):bR (Cell.to ty H is ρ) (au cell nc x y) (au cell nc x' y'):=
  PX (zln _) ⟨⟨rfl,rfl⟩,hx,hy,trivial⟩
def z12:List Int:=List.replicate 256 0
theorem CL:z12.length=256:=List.length_replicate
theorem y15(nc:Nat)(x y:Cell):List.replicate 256 (Cell.int .i64 0)++[.int .i64 nc,x,y]=au z12 nc x y:=by rw[au,z12,List.map_replicate]
theorem zlo(nc:Nat)(x y:Cell):((aB.cells (List.replicate 257 (Cell.int .i64 0)++List.replicate 2 .nils)).sub 0 256).list++([.int .i64 nc]++([x]++([y]++[])))=au z12 nc x y:=by
  rw[<-y15]
  show List.take 256 (List.drop 0 (List.replicate 257 _++List.replicate 2 _))++_=_
  rw[List.drop_zero,List.take_append_of_le_length (by rw[List.length_replicate];decide),List.take_replicate]
  rfl
def zl:List Cell:=List.replicate 257 (Cell.int .i64 0)++List.replicate 2 .nils
theorem zap:zl.length=259:=by rw[zl,List.length_append,List.length_replicate,List.length_replicate]
theorem Pb{ty:Nat->Ty}{H:Heap}{is:List Nat}{ρ:Nat->Nat}{x:Cell}(h:Cell.to ty H is ρ x x):∀ n,bR (Cell.to ty H is ρ) (List.replicate n x) (List.replicate n x)
  |0=>trivial
  |n+1=>⟨h,Pb h n⟩
theorem Nj{ty:Nat->Ty}{H:Heap}{is:List Nat}{ρ:Nat->Nat}:bR (Cell.to ty H is ρ) (List.replicate 257 (Cell.int .i64 0)++List.replicate 2 .nils) zl:=PX (Pb (x:=.int .i64 0) ⟨rfl,rfl⟩ _) (Pb (x:=.nils) (by first|exact trivial|exact⟨rfl,rfl⟩|exact rfl) _)
theorem mo{ty:Nat->Ty}{H:Heap}{is:List Nat}{ρ:Nat->Nat}:bR (Cell.to ty H is ρ) zl zl:=Nj
theorem MR{n:Nat}:(aB.cells zl).low n:=fun x hx=>by
  rcases List.mem_append.1 hx with h|h
  · rw[(List.mem_replicate.1 h).2];trivial
  · rw[(List.mem_replicate.1 h).2];trivial
theorem xY(d:Dfa):z12=gz d 0:=(zsk d).symm
theorem ZI{ty:Nat->Ty}{H:Heap}{is:List Nat}{ρ:Nat->Nat}{cell cell':List Int}{nc:Nat}{x y x' y':Cell}{n:Nat}{v:Int}(hc:cell.length=256)(hn:n< 256)(e:cell.set n v=cell')(hx:Cell.to ty H is ρ x x')(hy:Cell.to ty H is ρ y y'):bR (Cell.to ty H is ρ) ((au cell nc x y).set n (.int .i64 v)) (au cell' nc x' y'):=by
  rw[G5 hc hn,e];exact sj hx hy
theorem zt(l:List Int)(bs:List UInt8)(k:Int):cr l (bs.take 0) k=l:=rfl

end Go.Proofs.YtpdljmohhpbkpaaDoor

namespace Go.Proofs.YtpdljmohhpbkpaaDoor
open Go.Ab Go.RowKit

section
variable {a b:Prop}
theorem FD(h:a:=by first|exact gG|(simp[hclen,dJ,zap,-List.reduceReplicate]<;>omega)|exact Bj trivial trivial|(show _< (au _ _ _ _).length;rw[dJ (by simp)];omega)|(simp[zap,-List.reduceReplicate];done)|(simp[dJ,zap,-List.reduceReplicate];done)|(show(au _ _ _ _).length=259;exact dJ (by simp))|(show 259=(au _ _ _ _).length;exact(dJ (by simp)).symm)|exact gH):a:=h
theorem FE(h:a:=by first|exact gG|(simp[hclen,dJ,zap,-List.reduceReplicate]<;>omega)|(simp[hclen];omega)|(simp[hcl];done)|exact gH):a:=h
theorem FF(h:a:=by first|exact gG|(simp[hclen,dJ,zap,-List.reduceReplicate]<;>omega)|(simp[hcl];done)|exact gH):a:=h
theorem gB(h:a:=by
    repeat' (first|exact MR|exact mo|exact Nj|exact Bp trivial trivial|exact sj ⟨rfl,rfl⟩ ⟨rfl,rfl⟩|exact NE _|exact zap.symm|exact zap|(show aB.low _ (aB.cells (List.replicate 257 _++_));exact MR)|exact trivial|refine aI ?_ ?_|exact iM|refine low_cons' ?_ ?_|exact iN|fail)
    all_goals first|omega|(show aB.to _ _ _ _ _ _;rw[zt];exact sj ⟨rfl,rfl⟩ ⟨rfl,rfl⟩)|(show aB.to _ _ _ _ _ _;exact ZI (by simp) hset.1 hset.2 ⟨rfl,rfl⟩ ⟨rfl,rfl⟩)|(simp[-List.reduceReplicate];done)|(simp[-List.reduceReplicate]<;>omega)|skip):a:=h
theorem wK(kZ:b)(h:aK b->a:=by intro kZ;(repeat first|refine aI FD ?_|refine bW FD ?_|refine dC FD ?_|refine fT FD ?_|refine fA ?_);exact kZ.out):a:=h ⟨kZ⟩
theorem Bt(kZ:b)(h:aK b->a:=by intro kZ;refine sX ?_;refine wK ?_;refine aL ?_;exact kZ.out):a:=h ⟨kZ⟩
theorem ZJ(kZ:b)(h:aK b->a:=by intro kZ;refine jl ?_;refine wK ?_;refine aL ?_;exact kZ.out):a:=h ⟨kZ⟩
theorem wL(kZ:b)(h:aK b->a:=by intro kZ;(repeat first|refine aI FE ?_|refine bW FE ?_|refine dC FE ?_|refine fT FE ?_|refine fA ?_);exact kZ.out):a:=h ⟨kZ⟩
theorem Ai(kZ:b)(h:aK b->a:=by intro kZ;refine sX ?_;refine wL ?_;refine aL ?_;exact kZ.out):a:=h ⟨kZ⟩
theorem Fy(kZ:b)(h:aK b->a:=by intro kZ;refine jl ?_;refine wL ?_;refine aL ?_;exact kZ.out):a:=h ⟨kZ⟩
theorem wM(kZ:b)(h:aK b->a:=by intro kZ;(repeat first|refine aI FF ?_|refine bW FF ?_|refine dC FF ?_|refine fT FF ?_|refine fA ?_);exact kZ.out):a:=h ⟨kZ⟩
theorem Aj(kZ:b)(h:aK b->a:=by intro kZ;refine sX ?_;refine wM ?_;refine aL ?_;exact kZ.out):a:=h ⟨kZ⟩
theorem GD(kZ:b)(h:aK b->a:=by intro kZ;refine sX ?_;refine wK ?_;exact kZ.out):a:=h ⟨kZ⟩
theorem GG(kZ:b)(h:aK b->a:=by intro kZ;refine sX ?_;refine wL ?_;exact kZ.out):a:=h ⟨kZ⟩
theorem Ad(kZ:b)(h:aK b->a:=by intro kZ;refine sX ?_;refine wM ?_;exact kZ.out):a:=h ⟨kZ⟩
end
open Go.Aut
attribute [local irreducible] eG z12 zl au gz cr
noncomputable def VV:Ctx:={ P:=Tryd.prog,ty:=ty,glob:=gl,fs:=[(62,.data y11)] }
theorem vI:VV.OK:=⟨dS,⟨⟨bX Tryd.func62 aN rfl,y12⟩,trivial⟩,mixed⟩
@[simp] theorem VW:VV.ty=ty:=rfl

def Lt:aW:=fun vs K=>∃ d:Dfa,vs=[df d]/\d.good/\K (bu (ag d))
theorem Mj:jr Tryd.prog gl 32 Lt:=by
 refine kJ (Γ:=VV) (N:=38) Tryd.func32 rfl rfl fun vs K h=>?_;obtain⟨d,rfl,⟨hok,hn64⟩,h⟩:=h;refine⟨_,h,z42 _,by simp,fun w I=>?_⟩
 have hclen:=hok.clen
 have hc256:=hok.cmax
 refine aO vI fun _ K2=>?_
 iterate 2 refine Bt ?_
 refine aJ K2 (aH fun _ K3=>fQ [] id [(1,.c (.ptr 0 0)),(2,.c (.ptr 1 0))] [(0,.own 30 (eB d) 3),(1,.own 56 (.cells zl) 259)] 2 [0,1] gB gB gB gB (AF vI [9] fun _ K4=>?_))
 simp only[wpC,List.take_succ_cons,List.take_zero,List.drop_succ_cons,List.drop_zero]
 iterate 7 refine Bt ?_
 refine GD ?_;refine aU (.agg (.cells (au (gz d 0) d.nc (.ds d.next.length (.cells (aS d.next))) (.ds d.acc.length (.bools d.acc))))) (bq (congrArg (fun l=>SV.agg (aB.cells l)) (by rw[<-xY];exact zlo _ _ _))) (Bt ?_);refine Oe (UV (is:=[]) (ρ:=id) (E':=[(1,.c (.ptr 0 0)),(2,.c (.ptr 1 0)),(3,.c (.ptr 2 0)),(15,.agg (.cells (au (gz d 0) d.nc (.ds d.next.length (.cells (aS d.next))) (.ds d.acc.length (.bools d.acc)))))]) (H':=[(0,.own 30 (eB d) 3),(1,.own 56 (.cells zl) 259),(2,.own 56 (.cells zl) 259)]) (n':=3) ⟨?_,?_,(by decide:List.Nodup ([0,1,2]:List Nat)),?_,?_,?_⟩ ?_)
 ·exact gB
 ·exact gB
 ·exact gB
 ·exact gB
 ·exact⟨Nat.zero_le _,fun i hi=>absurd hi (Nat.not_lt_zero i)⟩
 refine ZJ ?_;refine aJ K4 (K3 _ _ _ (aH fun _ K5=>aO vI fun _ K7=>?_))
 iterate 4 refine Bt ?_
 refine aJ K7 (bO (fM (α:=Nat) (fun i=>[(2,.c (.ptr 1 0)),(3,.c (.ptr 2 0)),(17,.c (.ds d.nc (.u64s d.cls))),(18,.c (.int .i64 d.nc)),(19,.c (.int .i64 (i:Nat)))]) (fun i=>[(0,.own 30 (eB d) 3),(1,.own 56 (.cells zl) 259),(2,.own 56 (.cells (au (gz d i) d.nc (.ds d.next.length (.cells (aS d.next))) (.ds d.acc.length (.bools d.acc)))) 259)]) 3 (fun i=>i<=d.nc) (fun i=>d.nc - i) ?_ ?_))
 ·refine ai [] id 0 (Nat.zero_le _) [0,1,2] gB gB gB gB
 ·intro i hi;refine aO vI fun _ K9=>Bt ?_;refine aJ K9 (aH fun _ K10=>bC (b:=_) rfl (fun h_t20=>?_) (fun h_t20=>?_))
  ·try simp only[dQ,reduceIte]at h_t20
   refine bK (K10 _ _ _ (aH fun _ K11=>bO ?_))
   have hin:i< d.nc:=by omega
   have hcl:=z26 hclen hin
   have hsub:(aB.u64s d.cls).sub ((i:Int).toNat*4) (4*1)= .u64s (bE d.cls i):=rfl
   refine aO vI fun _ K13=>?_
   iterate 2 refine Ai ?_
   refine GG ?_;refine aU (.agg (.u64s (bE d.cls i))) (SV.as_refl _) ?_
   iterate 2 refine Ai ?_
   refine Fy ?_;refine aJ K13 (aO vI fun _ K15=>Aj ?_);refine Ad ?_;refine⟨bE d.cls i,rfl,hcl,wM ?_⟩
   first|refine aL ?_|(intro cap1 hcap1;refine aL ?_)
   iterate 2 refine Aj ?_
   refine aJ K15 (bO (fM (α:=Nat) (fun j=>[(2,.c (.ptr 1 0)),(3,.c (.ptr 2 0)),(17,.c (.ds d.nc (.u64s d.cls))),(18,.c (.int .i64 d.nc)),(19,.c (.int .i64 (i:Nat))),(4,.c (.int .i64 (i:Nat))),(25,.c (.ds (eG (bE d.cls i)).length (.u8s (eG (bE d.cls i))))),(26,.c (.int .i64 (eG (bE d.cls i)).length)),(27,.c (.int .i64 (j:Nat)))]) (fun j=>[(0,.own 30 (eB d) 3),(1,.own 56 (.cells zl) 259),(2,.own 56 (.cells (au (cr (gz d i) ((eG (bE d.cls i)).take j) (i:Nat)) d.nc (.ds d.next.length (.cells (aS d.next))) (.ds d.acc.length (.bools d.acc)))) 259)]) 3 (fun j=>j<=(eG (bE d.cls i)).length) (fun j=>(eG (bE d.cls i)).length - j) ?_ ?_))
   ·refine ai [] id 0 (Nat.zero_le _) [0,1,2] gB gB gB gB
   ·intro j hj;refine aO vI fun _ K17=>Bt ?_;refine aJ K17 (aH fun _ K18=>bC (b:=_) rfl (fun h_t28=>?_) (fun h_t28=>?_))
    ·try simp only[dQ,reduceIte]at h_t28
     refine bK (K18 _ _ _ (aH fun _ K19=>bO ?_))
     have hjn:j< (eG (bE d.cls i)).length:=by omega
     have hbl:=XI (bE d.cls i)
     refine aO vI fun _ K21=>?_
     iterate 3 refine Bt ?_
     refine aJ K21 ?_
     have hbt:((eG (bE d.cls i)).getD ((j:Int).toNat*1) 0).toNat< 256:=UInt8.toNat_lt _
     refine bB vI fun _ K22=>?_
     iterate 4 refine Bt ?_
     refine ZJ ?_;refine aJ K22 (dD (K19 _ _ _ (bB vI fun _ K23=>?_)))
     iterate 2 refine Bt ?_
     refine aJ K23 ?_
     have hset:(0+0+((((eG (bE d.cls i)).getD ((j:Int).toNat*1) 0).toNat:Nat):Int).toNat*1)< 256/\(cr (gz d i) ((eG (bE d.cls i)).take j) (i:Nat)).set (0+0+((((eG (bE d.cls i)).getD ((j:Int).toNat*1) 0).toNat:Nat):Int).toNat*1) (i:Nat)=cr (gz d i) ((eG (bE d.cls i)).take (j+1)) (i:Nat):=by
      have e:(0+0+((((eG (bE d.cls i)).getD ((j:Int).toNat*1) 0).toNat:Nat):Int).toNat*1)=((eG (bE d.cls i)).getD j 0).toNat:=by rw[Int.toNat_natCast,Int.toNat_natCast,Nat.mul_one,Nat.mul_one,Nat.zero_add]
      rw[e];exact⟨UInt8.toNat_lt _,y06 (gz d i) (i:Nat) hjn⟩
     refine ai [] id (j+1) ⟨by omega,by omega⟩ [0,1,2] gB gB gB gB
    ·try simp only[dQ,reduceIte]at h_t28
     refine eY (bJ (bJ (eX (dD (K11 _ _ _ (bB vI fun _ K24=>?_))))))
     iterate 2 refine Bt ?_
     refine aJ K24 ?_
     obtain rfl:j=(eG (bE d.cls i)).length:=by omega
     have hstep:cr (gz d i) (eG (bE d.cls i)) (i:Nat)=gz d (i+1):=zsl hok hin
     rw[List.take_length,hstep];refine ai [] id (i+1) ⟨by omega,by omega⟩ [0,1,2] gB gB gB gB
  ·try simp only[dQ,reduceIte]at h_t20
   refine eY (bJ (bJ (eX (K5 _ _ _ (aO vI fun _ K26=>Bt ?_)))));refine ZJ ?_;refine aJ K26 ?_
   obtain rfl:i=d.nc:=by omega
   refine bQ (gT vI (fun _ _ h=>h) (z42 _) [] [.cell 2 56] rfl ?_)
   repeat first|refine aI (by first|omega|(simp[dJ,zap,-List.reduceReplicate];done)|exact Bj trivial trivial) ?_|refine bW (dJ (zn3 _ _)) ?_
   all_goals exact gB


end Go.Proofs.YtpdljmohhpbkpaaDoor

namespace Go.Proofs.YtpdljmohhpbkpaaDoor
open Go.Ab Go.RowKit

section
variable {a b:Prop}
theorem FH(h:a:=by first|exact gG|(simp[-List.reduceReplicate]<;>omega)|exact vV|exact gH):a:=h
theorem lD(h:a:=by
    repeat' (first|exact pT|exact trivial|refine aI ?_ ?_|exact iM|refine low_cons' ?_ ?_|exact iN|fail)
    all_goals first|omega|(show(_:Int)=_;rw[Xk t hkl];done)|(show(0:Nat)< (au _ _ _ _).length;rw[dJ hcl];decide)|(simp[-List.reduceReplicate];done)|(simp[-List.reduceReplicate]<;>omega)|skip):a:=h
theorem gJ(kZ:b)(h:aK b->a:=by intro kZ;(repeat first|refine aI FH ?_|refine bW FH ?_|refine dC FH ?_|refine fT FH ?_|refine fA ?_);exact kZ.out):a:=h ⟨kZ⟩
theorem fV(kZ:b)(h:aK b->a:=by intro kZ;refine sX ?_;refine gJ ?_;refine aL ?_;exact kZ.out):a:=h ⟨kZ⟩
theorem iT(kZ:b)(h:aK b->a:=by intro kZ;refine jl ?_;refine gJ ?_;refine aL ?_;exact kZ.out):a:=h ⟨kZ⟩
theorem He(kZ:b)(h:aK b->a:=by intro kZ;refine qX ?_;refine gJ ?_;refine aL ?_;exact kZ.out):a:=h ⟨kZ⟩
theorem oI(kZ:b)(h:aK b->a:=by intro kZ;refine sX ?_;refine gJ ?_;exact kZ.out):a:=h ⟨kZ⟩
theorem M5(kZ:b)(h:aK b->a:=by intro kZ;refine qX ?_;refine gJ ?_;exact kZ.out):a:=h ⟨kZ⟩
end
open Go.Aut
theorem sD{t:Tab}(h:t.cell.length=256):(dP t).get (0+257)= .ds t.next.length (.cells (aS t.next)):=by rw[Nat.zero_add,Pm h 1];rfl
theorem JX{t:Tab}(h:t.cell.length=256):(dP t).get (0+258)= .ds t.acc.length (.bools t.acc):=by rw[Nat.zero_add,Pm h 2];rfl
theorem G4{t:Tab}(h:t.cell.length=256):(dP t).get (0+256)= .int .i64 (t.nc:Nat):=by rw[Nat.zero_add,Pm h 0];rfl
theorem HY{t:Tab}(h:t.cell.length=256){b i:Nat}(hi:i=b)(hb:b< 256):(dP t).get i= .int .i64 (t.cell.getD b 0):=by rw[hi];exact BP h hb
theorem zl_len':(aB.cells (List.replicate 257 (Cell.int .i64 0)++List.replicate 2 .nils)).len=259:=by
  simp only[zpj,List.length_append,List.length_replicate]
theorem Lu{cell:List Int}{nc:Nat}{x y:Cell}(h:cell.length=256):0+(aB.cells (au cell nc x y)).len<=(aB.cells (List.replicate 257 (Cell.int .i64 0)++List.replicate 2 .nils)).len:=by
  rw[zl_len']
  show 0+(au cell nc x y).length<=259
  rw[dJ h];decide
theorem Ll{cell:List Int}{nc:Nat}{x y:Cell}(h:cell.length=256):(aB.cells (List.replicate 257 (Cell.int .i64 0)++List.replicate 2 .nils)).len=(aB.cells (au cell nc x y)).len:=by
  rw[zl_len'];exact(dJ h).symm
theorem oh{l:List (List Int)}{i j:Nat}(h:i< l.length/\j=i):(aB.cells (aS l)).get j= .ds (l.getD i []).length (.ints .i64 (l.getD i [])):=by rw[h.2];exact Iw h.1
theorem nI{tf:Nat->Ty}{H:Heap}{is:List Nat}{ρ:Nat->Nat}(l:List (List Int)):bR (Cell.to tf H is ρ) (aS l) (aS l):=by
  induction l with
  |nil=>trivial
  |cons r l ih=>exact⟨⟨rfl,rfl⟩,ih⟩
theorem Gg(a:List (List Int))(b:List Int):aS a++[.ds b.length (.ints .i64 b)]=aS (a++[b]):=by simp[aS]
theorem av{t:Tab}(h:t.ok){b:Nat}(hb:b< 256):(aD t).cell b< t.nc/\t.cell.getD b 0=((aD t).cell b:Nat):=Tab.cell_lt h hb
theorem bz{t:Tab}(h:t.ok){s c:Nat}(hs:s< t.next.length)(hc:c< t.nc):(aD t).δ s c< t.next.length/\(t.next.getD s []).getD c 0=((aD t).δ s c:Nat):=Tab.next_lt h hs hc
theorem oz{t:Tab}(h:t.ok){s:Nat}(hs:s< t.next.length):(t.next.getD s []).length=t.nc:=(h.rows _ (by rw[qb hs];exact List.getElem_mem _)).1
theorem y16(w:List UInt8):Bytes (w.map UInt8.toNat):=fun x hx=>by
  obtain⟨b,_,rfl⟩:=List.mem_map.1 hx;exact b.toNat_lt
def wN(w:List UInt8):List Nat:=w.map UInt8.toNat
def Lv(d:Dfa)(w:List UInt8):Bool:=eQ d&&aT d (wN w)
def pP(t:Tab)(w:List UInt8)(k:Nat):Nat:=(aD t).run 0 ((wN w).take k)
theorem Xk(t:Tab){w:List UInt8}{k:Nat}(h:k< w.length):pP t w (k+1)=(aD t).δ (pP t w k) ((aD t).cell (w.getD k 0).toNat):=by
  have hk:k< (wN w).length:=by simpa [wN]using h
  rw[pP,List.take_add_one,jB (d:=0) hk,Option.toList_some,iG.run_append]
  have:(wN w).getD k 0=(w.getD k 0).toNat:=by rw[qb hk,qb h];simp[wN]
  rw[this];rfl
theorem ZK{t:Tab}(h:t.ok){w:List UInt8}:∀ k,k<=w.length->pP t w k< t.next.length
  |0,_=>h.npos
  | k+1,hk=>by
    rw[Xk t (by omega)];exact(bz h (ZK h k (by omega)) (av h (UInt8.toNat_lt _)).1).1
theorem BG(t:Tab)(w:List UInt8):t.acc.getD (pP t w w.length) false=(aD t).lang 0 (wN w):=by
  have:(wN w).take w.length=wN w:=by rw[List.take_of_length_le];simp[wN]
  rw[pP,this];rfl
theorem BQ{d:Dfa}(w:List UInt8):(aD (ag d)).lang 0 (wN w)=aT d (wN w):=uT d 0 (y16 w)
attribute [local irreducible] eG z12 zl au gz cr
noncomputable def VX:Ctx:={ P:=Tryd.prog,ty:=ty,glob:=gl,fs:=[(25,.flat Gn),(32,.data Lt)] }
theorem vJ:VX.OK:=⟨dS,⟨⟨bX Tryd.func25 aN rfl,z70⟩,⟨bX Tryd.func32 aN rfl,Mj⟩,trivial⟩,mixed⟩
@[simp] theorem VY:VX.ty=ty:=rfl

def zvi:aW:=fun vs K=>∃ (d:Dfa) (x:List UInt8),vs=[df d,.c (.ds x.length (.u8s x))]/\(d.wf/\x.length<=9223372036854775807)/\K (.c (.bool (Lv d x)))
theorem zy5:jJ Tryd.prog gl 24 zvi:=by
 refine kU (Γ:=VX) (N:=37) Tryd.func24 rfl rfl fun vs K h=>?_;obtain⟨d,x,rfl,⟨hw,hwl⟩,h⟩:=h;refine⟨_,h,rfl,by simp,fun w I=>?_⟩;refine aO vJ fun _ K2=>?_
 iterate 2 refine fV ?_
 refine aJ K2 (aH fun _ K3=>aO vJ fun _ K5=>fV ?_);refine oI ?_;refine⟨d,rfl,hw,gJ ?_⟩
 first|refine aL ?_|(intro cap1 hcap1;refine aL ?_)
 refine fV ?_;refine aJ K5 (bC (b:=_) rfl (fun h_t11=>?_) (fun h_t11=>?_))
 ·try simp only[dQ,reduceIte]at h_t11
  refine aO vJ fun _ K7=>fV ?_;refine aJ K7 (bQ (eU vJ (fun _ _ h=>h) (by first|rfl|assumption) [.tmp 4] rfl ?_));refine gV ?_
  show SV.c (.bool false)=_
  rw[Lv,show eQ d=false by simpa using h_t11,Bool.false_and]
 ·try simp only[dQ,reduceIte]at h_t11
  refine bK (K3 _ _ _ ?_)
  have hg:=(z22 hw).1 (by simpa using h_t11)
  obtain⟨t,htd⟩:∃ t,t=ag d:=⟨_,rfl⟩
  have hok:t.ok:=htd▸nJ hg.1
  have hcl:=hok.clen
  refine aO vJ fun _ K9=>fV ?_;refine oI ?_;refine⟨d,rfl,hg,?_⟩;rw[<-htd];refine gJ ?_
  first|refine aL ?_|(intro cap1 hcap1;refine aL ?_)
  refine fV ?_;refine iT ?_;refine aJ K9 (fQ [1] id [(1,.c (.ds x.length (.u8s x))),(5,.c (.dp (dP t) 0))] [] 0 [] lD lD lD lD (aO vJ fun _ K11=>fV ?_));refine aJ K11 (aH fun _ K12=>aO vJ fun _ K14=>?_)
  iterate 3 refine fV ?_
  refine aJ K14 (bO (fM (α:=Nat) (fun k=>[(5,.c (.dp (dP t) 0)),(14,.c (.ds x.length (.u8s x))),(15,.c (.int .i64 x.length)),(16,.c (.int .i64 (k:Nat))),(6,.c (.int .i64 (pP t x k:Nat)))]) (fun k=>[]) 0 (fun k=>k<=x.length) (fun k=>x.length - k) ?_ ?_))
  ·refine ai [] id 0 (Nat.zero_le _) [] lD lD lD lD
  ·intro k hk;refine aO vJ fun _ K16=>fV ?_;refine aJ K16 (aH fun _ K17=>bC (b:=_) rfl (fun h_t17=>?_) (fun h_t17=>?_))
   ·try simp only[dQ,reduceIte]at h_t17
    refine bK (K17 _ _ _ (aH fun _ K18=>bO ?_))
    have hkl:k< x.length:=by omega
    refine aO vJ fun _ K20=>?_
    iterate 3 refine fV ?_
    refine aJ K20 ?_
    have hs:=ZK hok k (by omega)
    have hb:=av hok (UInt8.toNat_lt (x.getD k 0))
    have hx:=bz hok hs hb.1
    have hr:=oz hok hs
    have hbt:(x.getD ((k:Int).toNat*1) 0).toNat< 256:=UInt8.toNat_lt _
    refine TS vJ aN fun _ K21=>He ?_;refine M5 ?_;refine aU (.c (.ds t.next.length (.cells (aS t.next)))) (ak (sD hcl)) ?_
    iterate 2 refine He ?_
    refine M5 ?_;refine aU (.c (.ds (t.next.getD (pP t x k) []).length (.ints .i64 (t.next.getD (pP t x k) [])))) (ak (oh ⟨hs,by omega⟩)) ?_
    iterate 3 refine He ?_
    refine M5 ?_;refine aU (.c (.int .i64 (((aD t).cell (x.getD k 0).toNat:Nat):Int))) (ak ((HY hcl (by first|omega|(simp;done)) (UInt8.toNat_lt _)).trans (congrArg (Cell.int IntKind.i64) hb.2))) (He ?_);refine M5 ?_;refine aU (.c (.int .i64 ((pP t x (k+1):Nat):Int))) (az (by rw[Xk t hkl, <-hx.2];congr 1;omega)) (He ?_);refine nG K21 (dD (K18 _ _ _ (bB vJ fun _ K22=>?_)))
    iterate 2 refine fV ?_
    refine aJ K22 (ai [] id (k+1) ⟨by omega,by omega⟩ [] lD lD lD lD)
   ·try simp only[dQ,reduceIte]at h_t17
    refine eY (bJ (bJ (eX (K12 _ _ _ ?_))))
    obtain rfl:k=x.length:=by omega
    have hs:=ZK hok x.length (Nat.le_refl _)
    have hal:=hok.alen
    refine aO vJ fun _ K24=>fV ?_;refine oI ?_;refine aU (.c (.ds t.acc.length (.bools t.acc))) (ak (JX hcl)) ?_
    iterate 2 refine fV ?_
    refine oI ?_;refine aU (.c (.bool (aT d (wN x)))) (dN (by rw[<-BQ, <-htd, <-BG,Int.toNat_natCast,Nat.mul_one])) (fV ?_);refine aJ K24 (bQ (eU vJ (fun _ _ h=>h) (by first|rfl|assumption) [.tmp 4] rfl ?_));refine gV ?_
    show SV.c (.bool _)=_
    rw[Lv,pU hg,Bool.true_and]


end Go.Proofs.YtpdljmohhpbkpaaDoor

namespace Go.Proofs.YtpdljmohhpbkpaaDoor
open Go.Ab Go.RowKit

section
variable {a b:Prop}
theorem FI(h:a:=by first|exact gG|(simp[-List.reduceReplicate]<;>omega)|exact vV|(simp;omega)|exact gH):a:=h
theorem eu(h:a:=by
    repeat' (first|exact pT|exact trivial|refine aI ?_ ?_|exact iM|refine low_cons' ?_ ?_|exact iN|fail)
    all_goals first|omega|exact hL0|exact hL|(show(_:List Bool)=_;first|exact hS1|rfl)|(show(_:List Int)=_;first|exact hS2|rfl)|(show(0:Nat)< (au _ _ _ _).length;rw[dJ hcl];decide)|(simp[-List.reduceReplicate];done)|(simp[-List.reduceReplicate]<;>omega)|skip):a:=h
theorem Ho(kZ:b)(h:aK b->a:=by intro kZ;(repeat first|refine aI FI ?_|refine bW FI ?_|refine dC FI ?_|refine fT FI ?_|refine fA ?_);exact kZ.out):a:=h ⟨kZ⟩
theorem LB(kZ:b)(h:aK b->a:=by intro kZ;refine sX ?_;refine Ho ?_;refine aL ?_;exact kZ.out):a:=h ⟨kZ⟩
theorem Fz(kZ:b)(h:aK b->a:=by intro kZ;refine jl ?_;refine Ho ?_;refine aL ?_;exact kZ.out):a:=h ⟨kZ⟩
end
open Go.Aut
theorem znj{f:Nat->Nat->Nat}{nc b0 n m:Nat}(h:kW f nc b0 n)(k:kW f nc b0 m):n=m:=by
  rcases Nat.lt_trichotomy n m with e|e|e
  · have:=k.ahead n e;rw[h.len]at this;omega
  · exact e
  · have:=h.ahead m e;rw[k.len]at this;omega
open Classical in
noncomputable def Nk(t:iG):Nat:=if h:∃ n,kW t.δ t.nc 0 n then Classical.choose h else 0
theorem Xl{t:iG}{n:Nat}(h:kW t.δ t.nc 0 n):Nk t=n:=by
  have he:∃ n,kW t.δ t.nc 0 n:=⟨n,h⟩
  rw[Nk,dif_pos he];exact znj (Classical.choose_spec he) h
noncomputable def ny(t:iG):List Nat:=mQ t (Nk t)
def _root_.Go.Aut.Tab.fit(t:Tab):Prop:=t.ok/\t.next.length<=65535/\t.nc<=256
theorem Tab.nc_pos{t:Tab}(h:t.ok):0< t.nc:=Nat.lt_of_le_of_lt (Nat.zero_le _) (av h (b:=0) (by decide)).1
theorem Rc{t:Tab}(h:t.ok):kW (aD t).δ t.nc 0 (Nk (aD t))/\Nk (aD t)<=t.next.length:=by
  obtain⟨n,hn,hl⟩:=Vq (f:=(aD t).δ) (nc:=t.nc) (b0:=0) (K:=t.next.length) (Tab.nc_pos h) h.npos fun x j hx hj=>(bz h hx hj).1
  have hn':kW (aD t).δ (aD t).nc 0 n:=hn
  rw[Xl hn'];exact⟨hn,hl⟩
theorem y17{t:Tab}(h:t.ok):∀ s∈ny (aD t),s< t.next.length:=QA (Tab.nc_pos h) h.npos (fun x j hx hj=>(bz h hx hj).1) _
theorem zy6{t:Tab}(h:t.ok):(ny (aD t)).length<=t.next.length/\0< (ny (aD t)).length:=by
  have h1:=(Rc h).1.len
  have h2:=(Rc h).2
  have h3:(ny (aD t)).length=Nk (aD t):=h1
  exact⟨by omega,List.length_pos_of_mem Sq⟩
theorem Ni{t:Tab}(h:t.ok)(p:Nat):∀ x∈aP (aD t).δ t.nc 0 p,x< t.next.length:=QA (Tab.nc_pos h) h.npos (fun x j hx hj=>(bz h hx hj).1) p
theorem UG{t:Tab}(h:t.ok)(p:Nat):(aP (aD t).δ t.nc 0 p).length<=t.next.length:=ND (Lg p) (Ni h p)
theorem getD_mem'{l:List Nat}{i:Nat}(h:i< l.length):l.getD i 0∈l:=by rw[qb h];exact List.getElem_mem h
attribute [local irreducible] eG z12 zl au gz cr
def zvl:aW:=fun vs K=>∃ t:Tab,vs=[bu t]/\t.fit/\K (.c (.ds (ny (aD t)).length (.ints .i64 (aG (ny (aD t))))))
theorem zy7:jr Tryd.prog gl 64 zvl:=by
 refine kJ (Γ:=g0) (N:=48) Tryd.func64 rfl rfl fun vs K h=>?_;obtain⟨t,rfl,ht,h⟩:=h;refine⟨_,h,trivial,by simp,fun w I=>?_⟩
 have ht0:=ht
 obtain⟨hok,hlen,hnc⟩:=ht0
 have hcl:=hok.clen
 refine aO aF fun _ K2=>?_
 iterate 2 refine fV ?_
 refine aJ K2 (fQ [0] id [(1,.c (.dp (dP t) 0))] [] 0 [] eu eu eu eu (aO aF fun _ K4=>fV ?_));refine oI ?_;refine aU (.c (.ds t.next.length (.cells (aS t.next)))) (ak (sD hcl)) ?_
 iterate 3 refine fV ?_
 refine aJ K4 ?_
 have hnp:=hok.npos
 refine fQ [] id [(1,.c (.dp (dP t) 0)),(3,.c (.slice 0 0 t.next.length t.next.length))] [(0,.own 4 (.bools (List.replicate t.next.length false)) t.next.length)] 1 [0] eu eu eu eu (aO aF fun _ K6=>?_)
 iterate 2 refine LB ?_
 refine Fz ?_;refine aJ K6 (aO aF fun _ K8=>?_)
 iterate 2 refine fV ?_
 refine aJ K8 (aH fun _ K9=>aO aF fun _ K11=>fV ?_);refine aJ K11 (bO (fM (α:=Nat×Nat) (fun s=>[(1,.c (.dp (dP t) 0)),(3,.c (.slice 0 0 t.next.length t.next.length)),(4,.c (.slice 1 0 ((aP (aD t).δ t.nc 0 (s.1*t.nc))).length s.2)),(5,.c (.int .i64 ((s.1:Nat):Int)))]) (fun s=>[(0,.own 4 (.bools (fw (aP (aD t).δ t.nc 0 (s.1*t.nc)) t.next.length)) t.next.length),(1,.own 3 (.ints .i64 (aG (aP (aD t).δ t.nc 0 (s.1*t.nc)))) s.2)]) 2 (fun s=>s.1<=t.next.length/\(∀ j,j< s.1->j< (aP (aD t).δ t.nc 0 (j*t.nc)).length)/\s.1<=(aP (aD t).δ t.nc 0 (s.1*t.nc)).length/\(aP (aD t).δ t.nc 0 (s.1*t.nc)).length<=s.2) (fun s=>t.next.length - s.1) ?_ ?_))
 ·have hz:(aP (aD t).δ t.nc 0 (0*t.nc))=[0]:=by rw[Nat.zero_mul];rfl
  have hS1:(List.replicate t.next.length false).set 0 true=fw (aP (aD t).δ t.nc 0 (0*t.nc)) t.next.length:=by rw[hz];exact XJ _
  have hS2:([]++[0]:List Int)=aG (aP (aD t).δ t.nc 0 (0*t.nc)):=by rw[hz];rfl
  have hL0:1=(aP (aD t).δ t.nc 0 (0*t.nc)).length:=by rw[hz];rfl
  refine ai [] id (0,1) ⟨Nat.zero_le _,fun j hj=>absurd hj (Nat.not_lt_zero j),Nat.zero_le _,by rw[hz];exact Nat.le_refl _⟩ [0,1] ?_ ?_ ?_ ?_
  ·exact eu
  ·exact eu
  ·exact eu
  ·exact eu
 ·intro s hs
  have hs3:=hs.2.2.1
  have hs4:=hs.2.2.2
  have hs1:=hs.1
  refine aH fun _ K12=>aO aF fun _ K14=>?_
  iterate 4 refine fV ?_
  refine aJ K14 (bC (b:=_) rfl (fun h_t18=>?_) (fun h_t18=>?_))
  ·try simp only[dQ,reduceIte]at h_t18
   refine bK (K12 _ _ _ (aH fun _ K15=>bO ?_))
   have hi:s.1< (aP (aD t).δ t.nc 0 (s.1*t.nc)).length:=by omega
   have hsi:=Ni hok _ _ (getD_mem' hi)
   have hrl:=oz hok hsi
   have hole:=UG hok (s.1*t.nc)
   refine qB aF aN fun _ K17=>He ?_;refine M5 ?_;refine aU (.c (.ds t.next.length (.cells (aS t.next)))) (ak (sD hcl)) ?_
   iterate 3 refine He ?_
   refine M5 ?_;refine aU (.c (.int .i64 (((((aP (aD t).δ t.nc 0 (s.1*t.nc)).getD s.1 0):Nat):Int)))) (az (by rw[<-jd];congr 1;omega)) (He ?_);refine M5 ?_;refine aU (.c (.ds (t.next.getD ((aP (aD t).δ t.nc 0 (s.1*t.nc)).getD s.1 0) []).length (.ints .i64 (t.next.getD ((aP (aD t).δ t.nc 0 (s.1*t.nc)).getD s.1 0) [])))) (ak (oh ⟨hsi,by omega⟩)) ?_
   iterate 2 refine He ?_
   refine nG K17 (bO (fM (α:=Nat×Nat) (fun k=>[(1,.c (.dp (dP t) 0)),(3,.c (.slice 0 0 t.next.length t.next.length)),(4,.c (.slice 1 0 ((aP (aD t).δ t.nc 0 (s.1*t.nc+k.1))).length k.2)),(5,.c (.int .i64 ((s.1:Nat):Int))),(28,.c (.ds (t.next.getD ((aP (aD t).δ t.nc 0 (s.1*t.nc)).getD s.1 0) []).length (.ints .i64 (t.next.getD ((aP (aD t).δ t.nc 0 (s.1*t.nc)).getD s.1 0) [])))),(29,.c (.int .i64 ((t.next.getD ((aP (aD t).δ t.nc 0 (s.1*t.nc)).getD s.1 0) []).length:Nat))),(30,.c (.int .i64 (k.1:Nat)))]) (fun k=>[(0,.own 4 (.bools (fw (aP (aD t).δ t.nc 0 (s.1*t.nc+k.1)) t.next.length)) t.next.length),(1,.own 3 (.ints .i64 (aG (aP (aD t).δ t.nc 0 (s.1*t.nc+k.1)))) k.2)]) 2 (fun k=>k.1<=t.nc/\(aP (aD t).δ t.nc 0 (s.1*t.nc+k.1)).length<=k.2) (fun k=>t.nc - k.1) ?_ ?_))
   ·refine ai [] id (0,s.2) ⟨Nat.zero_le _,hs4⟩ [0,1] eu eu eu eu
   ·intro k hk
    have hk2:=hk.2
    have hk1:=hk.1
    refine aO aF fun _ K19=>fV ?_;refine aJ K19 (aH fun _ K20=>bC (b:=_) rfl (fun h_t31=>?_) (fun h_t31=>?_))
    ·try simp only[dQ,reduceIte]at h_t31
     refine bK (K20 _ _ _ (aH fun _ K21=>bO ?_))
     have hk:k.1< t.nc:=by omega
     have hx:=bz hok hsi hk
     have hat:=QY (f:=(aD t).δ) (b0:=0) hi (Nat.le_add_right (s.1*t.nc) k.1)
     have hst:=SX (f:=(aD t).δ) (b0:=0) (i:=s.1) hk
     rw[hat]at hst
     have hol:=UG hok (s.1*t.nc+k.1)
     refine aO aF fun _ K23=>fV ?_;refine oI ?_;refine aU (.c (.int .i64 (((((aD t).δ ((aP (aD t).δ t.nc 0 (s.1*t.nc)).getD s.1 0) k.1):Nat):Int)))) (az (by rw[<-hx.2];congr 1;omega)) (fV ?_);refine aJ K23 (aO aF fun _ K25=>?_)
     iterate 3 refine fV ?_
     refine oI ?_;refine aU (.c (.bool (decide (((aD t).δ ((aP (aD t).δ t.nc 0 (s.1*t.nc)).getD s.1 0) k.1)∈(aP (aD t).δ t.nc 0 (s.1*t.nc+k.1)))))) (dN (by rw[<-P8 hx.1];congr 1;omega)) (fV ?_);refine aJ K25 (bC (b:=_) rfl (fun h_t38=>?_) (fun h_t38=>?_))
     ·try simp only[dQ,reduceIte]at h_t38
      refine aO aF fun _ K27=>?_
      iterate 3 refine fV ?_
      refine iT ?_;refine aJ K27 (bB aF fun _ K28=>?_)
      iterate 3 refine fV ?_
      refine oI ?_;intro cap3 hcap3;refine aL (fV ?_);refine aJ K28 (dD (K21 _ _ _ (bB aF fun _ K29=>?_)))
      iterate 2 refine fV ?_
      refine aJ K29 ?_
      have hno:((aD t).δ ((aP (aD t).δ t.nc 0 (s.1*t.nc)).getD s.1 0) k.1)∉(aP (aD t).δ t.nc 0 (s.1*t.nc+k.1)):=by simpa using h_t38
      rw[je,if_neg hno]at hst
      have hS1:(fw (aP (aD t).δ t.nc 0 (s.1*t.nc+k.1)) t.next.length).set (0+((((aD t).δ ((aP (aD t).δ t.nc 0 (s.1*t.nc)).getD s.1 0) k.1):Nat):Int).toNat*1) true=fw (aP (aD t).δ t.nc 0 (s.1*t.nc+(k.1+1))) t.next.length:=by rw[<-Nat.add_assoc,hst, <-SS];congr 1;omega
      have hS2:aG (aP (aD t).δ t.nc 0 (s.1*t.nc+k.1))++([]++[((((aD t).δ ((aP (aD t).δ t.nc 0 (s.1*t.nc)).getD s.1 0) k.1):Nat):Int)])=aG (aP (aD t).δ t.nc 0 (s.1*t.nc+(k.1+1))):=by rw[<-Nat.add_assoc,hst,List.nil_append,z39]
      have hL:(aP (aD t).δ t.nc 0 (s.1*t.nc+(k.1+1))).length=(aP (aD t).δ t.nc 0 (s.1*t.nc+k.1)).length+1:=by rw[<-Nat.add_assoc,hst,List.length_append];rfl
      refine ai [] (fun i=>if i=0 then 0 else 3) (k.1+1,cap3) ⟨⟨by show k.1+1<=_;omega,by show _<=cap3;rw[hL];omega⟩,by show _ - (k.1+1)< _;omega⟩ [0,3] ?_ ?_ ?_ ?_
      ·exact eu
      ·exact eu
      ·exact eu
      ·exact eu
     ·try simp only[dQ,reduceIte]at h_t38
      refine bK (dD (K21 _ _ _ (bB aF fun _ K30=>?_)))
      iterate 2 refine fV ?_
      refine aJ K30 ?_
      have hin:((aD t).δ ((aP (aD t).δ t.nc 0 (s.1*t.nc)).getD s.1 0) k.1)∈(aP (aD t).δ t.nc 0 (s.1*t.nc+k.1)):=by simpa using h_t38
      rw[je,if_pos hin]at hst;rw[<-hst];rw[<-hst]at hk2;refine ai [] id (k.1+1,k.2) ⟨⟨by show k.1+1<=_;omega,hk2⟩,by show _ - (k.1+1)< _;omega⟩ [0,1] ?_ ?_ ?_ ?_
      ·exact eu
      ·exact eu
      ·exact eu
      ·exact eu
    ·try simp only[dQ,reduceIte]at h_t31
     refine eY (bJ (bJ (eX (dD (K15 _ _ _ (bB aF fun _ K31=>?_))))))
     iterate 3 refine fV ?_
     refine aJ K31 ?_
     have hke:k.1=t.nc:=by omega
     have hpe:s.1*t.nc+k.1=(s.1+1)*t.nc:=by rw[hke,Nat.succ_mul]
     rw[hpe];rw[hpe]at hk2
     have hlen2:=Bf (f:=(aD t).δ) (nc:=t.nc) (b0:=0) (p:=s.1*t.nc) (q:=(s.1+1)*t.nc) (Nat.mul_le_mul_right _ (by omega))
     have hah:∀ j,j< s.1+1->j< (aP (aD t).δ t.nc 0 (j*t.nc)).length:=fun j hj=>by
      rcases Nat.lt_or_ge j s.1 with h1|h1
      ·exact hs.2.1 j h1
      ·obtain rfl:j=s.1:=by omega
       exact hi
     refine ai [] id (s.1+1,k.2) ⟨⟨by show s.1+1<=_;omega,hah,(by show s.1+1<=(aP (aD t).δ t.nc 0 ((s.1+1)*t.nc)).length;omega),hk2⟩,by show _ - (s.1+1)< _;omega⟩ [0,1] ?_ ?_ ?_ ?_
     ·exact eu
     ·exact eu
     ·exact eu
     ·exact eu
  ·try simp only[dQ,reduceIte]at h_t18
   refine eY (bJ (bJ (eX (K9 _ _ _ ?_))))
   have hcl2:=SY (Tab.nc_pos hok) hs.2.1 (by omega)
   have hre:ny (aD t)=(aP (aD t).δ t.nc 0 (s.1*t.nc)):=by rw[ny,Xl (show kW (aD t).δ (aD t).nc 0 s.1 from hcl2)];rfl
   refine aO aF fun _ K33=>?_
   iterate 2 refine fV ?_
   refine aJ K33 ?_
   try rw[hre]
   refine bQ (gT aF (fun _ _ h=>h) (by trivial) [1] [.tmp 2] rfl ?_)
   all_goals exact eu


end Go.Proofs.YtpdljmohhpbkpaaDoor

namespace Go.Proofs.YtpdljmohhpbkpaaDoor
open Go.Ab Go.RowKit

open Go.Aut
def dh{κ:Type}(e:κ->SV)(ks:List κ):List (SV×SV):=ks.mapIdx fun i k=>(e k,.c (.int .i64 (i:Nat)))
theorem Sd{κ:Type}(e:κ->SV)(ks:List κ)(k:κ):dh e ks++[(e k,.c (.int .i64 ((ks.length:Nat):Int)))]=dh e (ks++[k]):=by
  rw[dh,dh,List.mapIdx_concat]
theorem Pn{κ:Type}{e:κ->SV}{ks:List κ}{j:Nat}{x v:SV}(h:(dh e ks)[j]? =some (x,v)):∃ k,ks[j]? =some k/\e k=x/\v= .c (.int .i64 (j:Nat)):=by
  rw[dh,List.getElem?_mapIdx]at h
  cases hk:ks[j]? with
  |none=>rw[hk]at h;cases h
  | some k=>
    rw[hk]at h
    injection h with h
    injection h with h1 h2
    exact⟨k,rfl,h1,h2.symm⟩
theorem NH{κ:Type}{e:κ->SV}{ks:List κ}{p:SV×SV}(h:p∈dh e ks):∃ k i,k∈ks/\p=(e k,.c (.int .i64 (i:Nat))):=by
  obtain⟨j,hj⟩:=List.getElem?_of_mem h;obtain⟨k,hk,h1,h2⟩:=Pn (x:=p.1) (v:=p.2) hj;exact⟨k,j,List.mem_of_getElem? hk,by rw[h1, <-h2]⟩
theorem T4{κ:Type}{e:κ->SV}{ks:List κ}{k:κ}(h:∀ p∈dh e ks,p.1≠e k):k∉ks:=fun hk=>by
  obtain⟨j,hj,rfl⟩:=List.mem_iff_getElem.1 hk;refine h (e ks[j],.c (.int .i64 (j:Nat))) (List.mem_of_getElem? (i:=j) ?_) rfl;rw[dh,List.getElem?_mapIdx,List.getElem?_eq_getElem hj];rfl
theorem qY{κ:Type}{e:κ->SV}(he:∀ k,(e k).flat=true)(ks:List κ):∀ x∈dh e ks,x.1.flat=true/\x.2.flat=true:=fun x hx=>by
  obtain⟨k,i,_,rfl⟩:=NH hx;exact⟨he k,rfl⟩
theorem ve{κ:Type}{e:κ->SV}(he:∀ k,(e k).flat=true)(ks:List κ)(n:Nat):∀ x∈dh e ks,x.1.low n/\x.2.low n:=fun x hx=>by
  obtain⟨k,i,_,rfl⟩:=NH hx;exact⟨SV.flat_low (he k),trivial⟩
abbrev kB(t:Tab)(bl:List Nat):Nat->Nat×List Nat:=kD (aD t) (aM bl)
def eK(p:Nat×List Nat):SV:=.c (.str (gU (p.1::p.2)))
theorem NS(p:Nat×List Nat):(eK p).flat=true:=rfl
def qM(t:Tab)(bl:List Nat)(s m:Nat):List Nat:=aM bl s::(List.range m).map fun c=>aM bl ((aD t).δ s c)
theorem y7(t:Tab)(bl:List Nat)(s m:Nat):gU (qM t bl s m)++two ((aM bl ((aD t).δ s m):Nat):Int)=gU (qM t bl s (m+1)):=by
  rw[zq5,qM,qM,List.range_succ,List.map_append];rfl
theorem T6(t:Tab)(bl:List Nat)(s m:Nat):(gU (qM t bl s m)).length=2+2*m:=by
  rw[zv4,qM,List.length_cons,List.length_map,List.length_range];omega
theorem T7(t:Tab)(bl:List Nat)(s:Nat): .c (.str (gU (qM t bl s t.nc)))=eK (kB t bl s):=rfl
theorem ZL{bl:List Nat}(h:∀ x∈bl,x< 65536)(s:Nat):aM bl s< 65536:=by
  rw[aM,List.getD_eq_getElem?_getD]
  cases e:bl[s]? with
  |none=>show 0< 65536;decide
  |some x=>exact h x (List.mem_of_getElem? e)
theorem KE{t:Tab}{bl:List Nat}(h:∀ x∈bl,x< 65536){s q:Nat}(e:eK (kB t bl s)=eK (kB t bl q)):kB t bl s=kB t bl q:=by
  have few:∀ s,∀ x∈qM t bl s t.nc,x< 65536:=fun s x hx=>by
    rcases List.mem_cons.1 hx with rfl|hx
    · exact ZL h s
    · obtain⟨c,_,rfl⟩:=List.mem_map.1 hx
      exact ZL h _
  rw[<-T7, <-T7]at e
  injection e with e
  injection e with e
  have:=Y0 (by simp[qM]) (few s) (few q) e
  simp only[qM,List.cons.injEq]at this
  exact Prod.ext this.1 this.2
theorem y18{t:Tab}{bl l:List Nat}(h:∀ x∈bl,x< 65536){s j:Nat}{v:SV}(hj:(dh eK (aY (kB t bl) l))[j]? =some (.c (.str (gU (qM t bl s t.nc))),v)):v= .c (.int .i64 ((fF (aY (kB t bl) l) (kB t bl s):Nat):Int))/\kB t bl s∈aY (kB t bl) l:=by
  obtain⟨k,hk,e,rfl⟩:=Pn hj;rw[T7]at e;obtain⟨q,hq,rfl⟩:=(qW l k).1 (List.mem_of_getElem? hk)
  have e2:=KE h e
  rw[e2]at hk;exact⟨by rw[MF (Gh l) hk],List.mem_of_getElem? hk⟩
theorem KY{t:Tab}{bl l:List Nat}{s:Nat}(hn:∀ p∈dh eK (aY (kB t bl) l),p.1≠ .c (.str (gU (qM t bl s t.nc)))):kB t bl s∉aY (kB t bl) l:=T4 hn
theorem y19(ks:List (Nat×List Nat)):∀ p∈dh eK ks,kE ty 9 p.1:=fun p hp=>by
  obtain⟨k,i,_,rfl⟩:=NH hp;exact rfl
theorem zqi(t:Tab)(bl:List Nat){l:List Nat}{j:Nat}(h:j< l.length):aY (kB t bl) (l.take (j+1))=fZ (aY (kB t bl) (l.take j)) (kB t bl (l.getD j 0)):=by rw[Mr h,z41]
theorem zlr(t:Tab)(bl:List Nat){l:List Nat}{j:Nat}(h:j< l.length):dK (kB t bl) (l.take (j+1))=if kB t bl (l.getD j 0)∈aY (kB t bl) (l.take j)then dK (kB t bl) (l.take j)else dK (kB t bl) (l.take j)++[l.getD j 0]:=by rw[Mr h,Bg];congr
theorem y1a(t:Tab)(bl:List Nat){l:List Nat}{j:Nat}(h:j< l.length):fu (aD t) l (aM bl) (l.getD j 0)=fF (aY (kB t bl) (l.take (j+1))) (kB t bl (l.getD j 0)):=(YZ (by rw[Mr h];simp)).symm
theorem y1b(t:Tab)(bl:List Nat){l:List Nat}{j:Nat}(h:j< l.length)(hk:kB t bl (l.getD j 0)∈aY (kB t bl) (l.take j)):
    aY (kB t bl) (l.take (j+1))=aY (kB t bl) (l.take j)/\dK (kB t bl) (l.take (j+1))=dK (kB t bl) (l.take j)/\fu (aD t) l (aM bl) (l.getD j 0)=fF (aY (kB t bl) (l.take j)) (kB t bl (l.getD j 0)):=by
  have e:aY (kB t bl) (l.take (j+1))=aY (kB t bl) (l.take j):=by rw[zqi t bl h,fZ,if_pos hk]
  exact⟨e,by rw[zlr t bl h,if_pos hk],by rw[y1a t bl h,e]⟩
theorem AC(t:Tab)(bl:List Nat){l:List Nat}{j:Nat}(h:j< l.length)(hk:kB t bl (l.getD j 0)∉aY (kB t bl) (l.take j)):
    aY (kB t bl) (l.take (j+1))=aY (kB t bl) (l.take j)++[kB t bl (l.getD j 0)]/\dK (kB t bl) (l.take (j+1))=dK (kB t bl) (l.take j)++[l.getD j 0]/\fu (aD t) l (aM bl) (l.getD j 0)=(dK (kB t bl) (l.take j)).length:=by
  have e:aY (kB t bl) (l.take (j+1))=aY (kB t bl) (l.take j)++[kB t bl (l.getD j 0)]:=by rw[zqi t bl h,fZ,if_neg hk]
  exact⟨e,by rw[zlr t bl h,if_neg hk],by rw[y1a t bl h,e,Ls hk,qU]⟩
def om(t:Tab)(l:List Nat)(j:Nat):List Nat:=(List.range t.next.length).map fun s=>if s∈l.take j/\t.acc.getD s false=true then 1 else 0
@[simp] theorem zy8(t:Tab)(l:List Nat)(j:Nat):(om t l j).length=t.next.length:=by simp[om]
theorem xB(t:Tab)(l:List Nat):aG (om t l 0)=List.replicate t.next.length 0:=by
  have:om t l 0=List.replicate t.next.length 0:=by simp[om,List.map_const']
  rw[this];simp[aG]
theorem Jp{t:Tab}{l:List Nat}{j:Nat}(h:j< l.length)(ha:t.acc.getD (l.getD j 0) false=false):om t l j=om t l (j+1):=by
  refine List.map_congr_left fun s hs=>?_;rw[Mr h]
  by_cases e:s=l.getD j 0
  · subst e
    rw[if_neg (fun h=>by rw[ha]at h;cases h.2),if_neg (fun h=>by rw[ha]at h;cases h.2)]
  · have:s∈l.take j++[l.getD j 0]↔s∈l.take j:=by
      rw[List.mem_append,List.mem_singleton];exact⟨fun h=>h.elim id fun h=>absurd h e,.inl⟩
    simp only[this]
theorem Ct{t:Tab}{l:List Nat}{j:Nat}(h:j< l.length)(ha:t.acc.getD (l.getD j 0) false=true):(om t l j).set (l.getD j 0) 1=om t l (j+1):=by
  refine o9 0 (by simp) fun s hs=>?_
  have hs:s< t.next.length:=by simpa using hs
  rw[my (by simpa using hs),om,om,iy hs,iy hs,Mr h]
  by_cases e:l.getD j 0=s
  · subst e
    rw[if_pos rfl,if_pos ⟨List.mem_append_right _ (List.mem_singleton.2 rfl),ha⟩]
  · rw[if_neg e]
    have:s∈l.take j++[l.getD j 0]↔s∈l.take j:=by
      rw[List.mem_append,List.mem_singleton];exact⟨fun h=>h.elim id fun h=>absurd h.symm e,.inl⟩
    simp only[this]
theorem Mt(l:List Nat)(i x:Nat):(aG l).set i (x:Int)=aG (l.set i x):=by rw[aG,aG,List.map_set];rfl
structure nP(t:Tab)(l:List Nat):Prop where
  lt:∀ s∈l,s< t.next.length
  len:l.length<=65535
  pos:0< l.length
  cl:∀ s c,s∈l->c< t.nc->(aD t).δ s c∈l
theorem zjk{t:Tab}(h:t.fit):nP t (ny (aD t)):=by
  have h1:=zy6 h.1
  have h2:=h.2.1
  exact⟨y17 h.1,by omega,h1.2,fun s c hs hc=>PV (t:=aD t) (Rc h.1).1 s c hs hc⟩
theorem Jq{t:Tab}{l:List Nat}(h:nP t l):vN (aD t) l (om t l l.length) t.next.length 0:=
  y07 (by simp) (fun s hs=>by rw[om,iy hs,List.take_length];rfl) h.lt

end Go.Proofs.YtpdljmohhpbkpaaDoor

namespace Go.Proofs.YtpdljmohhpbkpaaDoor
open Go.Ab Go.RowKit

open Go.Aut
theorem zqj {K K':Type} [DecidableEq K] [DecidableEq K'] {key:Nat->K} {key':Nat->K'} (l:List Nat) (h:∀ s q,s∈l->q∈l->(key s=key q↔key' s=key' q)):
    (aY key l).length=(aY key' l).length/\(∀ s,s∈l->fF (aY key l) (key s)=fF (aY key' l) (key' s))/\dK key l=dK key' l:=by
  induction l using rR with
  |h0=>exact⟨rfl,fun s hs=>(by cases hs),rfl⟩
  | h1 l x ih=>
    obtain⟨h1,h2,h3⟩:=ih fun s q hs hq=>h s q (List.mem_append_left _ hs) (List.mem_append_left _ hq)
    have hx:x∈l++[x]:=by simp
    have hin:key x∈aY key l↔key' x∈aY key' l:=by
      rw[qW,qW];exact⟨fun⟨s,hs,e⟩=>⟨s,hs,(h s x (List.mem_append_left _ hs) hx).1 e⟩,fun⟨s,hs,e⟩=>⟨s,hs,(h s x (List.mem_append_left _ hs) hx).2 e⟩⟩
    by_cases hk:key x∈aY key l
    · have hk':=hin.1 hk
      have e1:aY key (l++[x])=aY key l:=by rw[z41,fZ,if_pos hk]
      have e2:aY key' (l++[x])=aY key' l:=by rw[z41,fZ,if_pos hk']
      refine⟨by rw[e1,e2,h1],fun s hs=>?_,by rw[Bg,Bg,if_pos hk,if_pos hk',h3]⟩;rw[e1,e2]
      rcases List.mem_append.1 hs with hs|hs
      · exact h2 s hs
      · obtain rfl:=List.mem_singleton.1 hs
        obtain⟨q,hq,e⟩:=(qW l _).1 hk;rw[<-e, <-(h q s (List.mem_append_left _ hq) hx).1 e];exact h2 q hq
    · have hk':key' x∉aY key' l:=fun hh=>hk (hin.2 hh)
      have e1:aY key (l++[x])=aY key l++[key x]:=by rw[z41,fZ,if_neg hk]
      have e2:aY key' (l++[x])=aY key' l++[key' x]:=by rw[z41,fZ,if_neg hk']
      refine⟨by rw[e1,e2,List.length_append,List.length_append,h1];rfl,fun s hs=>?_,by rw[Bg,Bg,if_neg hk,if_neg hk',h3]⟩;rw[e1,e2]
      by_cases hsl:s∈l
      · rw[Lr ((qW l _).2 ⟨s,hsl,rfl⟩),Lr ((qW l _).2 ⟨s,hsl,rfl⟩)]
        exact h2 s hsl
      · rcases List.mem_append.1 hs with hs|hs
        · exact absurd hs hsl
        · obtain rfl:=List.mem_singleton.1 hs
          rw[Ls hk,Ls hk',h1]
open Classical in
noncomputable def mD(t:Tab)(l:List Nat):List Nat:=(List.range t.next.length).map fun s=>if s∈l then lH (jg (aD t)) l s else 0
open Classical in
noncomputable def oQ(t:Tab)(l:List Nat):List Nat:=dK (jg (aD t)) l
theorem PP(t:Tab)(l:List Nat):(mD t l).length=t.next.length:=by simp[mD]
open Classical in
theorem JF{t:Tab}{l:List Nat}(h:nP t l){s:Nat}(hs:s∈l):aM (mD t l) s=lH (jg (aD t)) l s:=by
  rw[aM,mD,iy (h.lt s hs),if_pos hs]
theorem Wn{t:iG}{l:List Nat}{block:Nat->Nat}(hcell:∀ b,b< 256->t.cell b< t.nc)(hcl:∀ s c,s∈l->c< t.nc->t.δ s c∈l)(hst:∀ s q,s∈l->q∈l->block s=block q->t.acc s=t.acc q/\∀ c,c< t.nc->block (t.δ s c)=block (t.δ q c)):
    ∀ (w:List Nat) (s q:Nat),Bytes w->s∈l->q∈l->block s=block q->t.lang s w=t.lang q w
  |[],s,q,_,hs,hq,e=>(hst s q hs hq e).1
  | b::w,s,q,hw,hs,hq,e=>by
    have hb:=hcell b (hw b List.mem_cons_self)
    exact Wn hcell hcl hst w _ _ (fun x hx=>hw x (List.mem_cons_of_mem _ hx)) (hcl s _ hs hb) (hcl q _ hq hb) ((hst s q hs hq e).2 _ hb)
open Classical in
theorem y1c{t:Tab}(ht:t.fit){l:List Nat}(h:nP t l):kg (aD t) l (mD t l) (oQ t l) t.next.length:=by
  have hlen:=h.len
  have hk:(oQ t l).length=(aY (jg (aD t)) l).length:=qU l
  have hcell:∀ b,b< 256->(aD t).cell b< (aD t).nc:=fun b hb=>(av ht.1 hb).1
  refine⟨PP t l,fun x hx=>?_,fun s hs=>by rw[JF h hs,hk];exact vG hs,fun i hi=>?_,fun s q hs hq e=>?_,fun s q hs hq hne=>?_⟩
  · obtain⟨s,hs,rfl⟩:=List.mem_map.1 hx
    split
    · rename_i hsl
      have h1:=vG (key:=jg (aD t)) hsl
      have h2:=vZ (key:=jg (aD t)) l
      omega
    · decide
  · rw[hk]at hi
    obtain⟨s,hs,rfl⟩:=Iv (key:=jg (aD t)) (l:=l) hi;obtain⟨r,h1,h2,h3⟩:=Rv (key:=jg (aD t)) hs;rw[oQ,JC h1];exact⟨h3,by rw[JF h h3];exact(vH h3 hs).2 h2⟩
  · rw[JF h hs,JF h hq]at e
    have e1:=CZ.1 ((vH hs hq).1 e)
    refine⟨e1 [] Bytes.nil,fun c hc=>?_⟩;rw[JF h (h.cl s c hs hc),JF h (h.cl q c hq hc)];refine(vH (h.cl s c hs hc) (h.cl q c hq hc)).2 (CZ.2 fun w hw=>?_);obtain⟨b,hb,rfl⟩:=ht.1.byte c hc;exact e1 (b::w) (Bytes.cons hb hw)
  · rw[JF h hs,JF h hq]at hne
    have h1:jg (aD t) s≠jg (aD t) q:=fun e=>hne ((vH hs hq).2 e)
    rw[Ne,CZ]at h1;obtain⟨w,hw⟩:=Classical.not_forall.1 h1;exact⟨w,Classical.not_imp.1 hw⟩
open Classical in
theorem Fb{t:Tab}(ht:t.fit){l bl:List Nat}{c:Nat}(h:nP t l)(hb:vN (aD t) l bl t.next.length c)(hc:z36 (aD t) l (aM bl)=c):
    cz (aD t) l bl l.length=mD t l/\dK (kB t bl) l=oQ t l:=by
  have hout:=zv3 hb hc h.pos h.lt h.len h.cl ht.1.byte
  have hcell:∀ b,b< 256->(aD t).cell b< (aD t).nc:=fun b hb=>(av ht.1 hb).1
  have e:∀ s,s∈l->aM (cz (aD t) l bl l.length) s=fu (aD t) l (aM bl) s:=fun s hs=>TX hs (by rw[hb.len];exact h.lt s hs)
  have key:∀ s q,s∈l->q∈l->(kB t bl s=kB t bl q↔jg (aD t) s=jg (aD t) q):=fun s q hs hq=>by
    rw[<-vH (key:=kB t bl) hs hq]
    have e1:lH (kB t bl) l s=aM (cz (aD t) l bl l.length) s:=(e s hs).symm
    have e2:lH (kB t bl) l q=aM (cz (aD t) l bl l.length) q:=(e q hq).symm
    rw[e1,e2]
    constructor
    · intro he
      exact CZ.2 fun w hw=>Wn hcell h.cl hout.stable w s q hw hs hq he
    · intro he
      refine Classical.byContradiction fun hne=>?_;obtain⟨w,hw,hd⟩:=hout.snd s q hs hq hne;exact hd (CZ.1 he w hw)
  obtain⟨_,h2,h3⟩:=zqj l key;refine⟨o9 0 (by rw[Bh,PP,hb.len]) fun s hs=>?_,h3⟩
  have hs:s< t.next.length:=by rw[Bh,hb.len]at hs;exact hs
  rw[Pi (by rw[hb.len];exact hs),mD,iy hs,List.take_length]
  by_cases hsl:s∈l
  · rw[if_pos hsl,if_pos hsl];exact h2 s hsl
  · rw[if_neg hsl,if_neg hsl]

end Go.Proofs.YtpdljmohhpbkpaaDoor

namespace Go.Proofs.YtpdljmohhpbkpaaDoor
open Go.Ab Go.RowKit

open Go.Aut
theorem PQ{l m:List UInt64}{off:Nat}{K:aB->Prop}(h:off+m.length<=l.length)(hK:K (.u64s (l.take off++m++l.drop (off+m.length)))):(aB.u64s l).splice off (.u64s m) K:=by
  unfold aB.splice
  split
  · rename_i e
    obtain⟨rfl,e⟩:=e
    have e:l.length=m.length:=e
    rw[List.take_zero,List.nil_append,Nat.zero_add, <-e,List.drop_length,List.append_nil]at hK;exact hK
  · exact hK
theorem Y6{α:Type}{n i:Nat}{x d:α}(h:i< n):(List.replicate n x).getD i d=x:=by rw[List.getD_eq_getElem?_getD,List.getElem?_replicate,if_pos h];rfl
theorem y1d{b x:Nat}(hb:b< 256)(hx:x< 256):ed (vP [UInt8.ofNat b]) x=decide (x=b):=by
  have hbn:(UInt8.ofNat b).toNat=b:=UInt8.toNat_ofNat_of_lt' hb
  have h1:(UInt8.ofNat b / 64).toNat=b / 64:=by rw[UInt8.toNat_div,hbn];rfl
  have h2:(UInt8.ofNat b%64).toNat=b%64:=by rw[UInt8.toNat_mod,hbn];rfl
  show ed (pG (List.replicate 4 0) (UInt8.ofNat b)) x=_
  rw[pG,h1,h2,ed,my (by simp;omega),Y6 (by omega),Y6 (by omega)]
  by_cases e:b / 64=x / 64
  · rw[if_pos e]
    have:=Pj (b%64) (x%64)
    rw[NG]at this;rw[show(0 ||| iK 1 (b%64):UInt64)=iK 1 (b%64) from UInt64.zero_or,this];rw[Bool.eq_iff_iff];simp;omega
  · rw[if_neg e]
    have:¬ x=b:=fun h=>e (by rw[h])
    simp[this]
def pM(cw:List UInt64)(j b:Nat):List UInt64:=cw.take (j*4)++l8 (fun x y=>x ||| y) ((cw.drop (j*4)).take 4) (vP [UInt8.ofNat b])++cw.drop (j*4+4)
theorem zu{cw:List UInt64}{n j b:Nat}(h:cw.length=n*4)(hj:j< n):(pM cw j b).length=cw.length:=by
  simp only[pM,List.length_append,List.length_take,List.length_drop,Ld]
  omega
theorem zvm{cw:List UInt64}{n j b i x:Nat}(h:cw.length=n*4)(hj:j< n)(hb:b< 256)(hi:i< n)(hx:x< 256):bv (pM cw j b) i x=(bv cw i x||(decide (i=j)&&decide (x=b))):=by
  have hz:(l8 (fun x y=>x ||| y) ((cw.drop (j*4)).take 4) (vP [UInt8.ofNat b])).length=4:=Ld ..
  have hs:=Ip (l:=cw) (m:=l8 (fun x y=>x ||| y) ((cw.drop (j*4)).take 4) (vP [UInt8.ofNat b])) (off:=j*4) (j:=i*4+x / 64) (d:=0) (by rw[hz];omega)
  rw[hz]at hs;rw[bv,pM,hs]
  by_cases e:i=j
  · subst e
    rw[if_neg (by omega),if_pos (by omega),show i*4+x / 64 - i*4=x / 64 by omega,TG _ _ _ (by omega),UInt64.toNat_or,Nat.testBit_or]
    have h1:=TW (l:=cw) (k:=i) hx
    have h2:=y1d hb hx
    rw[ed]at h2;rw[h1,h2];simp
  · rw[decide_eq_false e,Bool.false_and,Bool.or_false,bv]
    by_cases e2:i< j
    · rw[if_pos (by omega)]
    · rw[if_neg (by omega),if_neg (by omega)]
theorem Jv{t:iG}{block reps:Nat->Nat}{k:Nat}{cw:List UInt64}{n b:Nat}(h:Cw t block reps k cw n b)(hb:b< 256)(hj:mG t block reps k (t.cell b)< n):Cw t block reps k (pM cw (mG t block reps k (t.cell b)) b) n (b+1):=
  h.put (zu h.len hj) rfl hb fun i x hi hx=>zvm h.len hj hb hi hx
def eL(x:List Nat):SV:=.c (.str (gU x))
theorem QC(x:List Nat):(eL x).flat=true:=rfl
theorem y1e(ks:List (List Nat)):∀ p∈dh eL ks,kE ty 9 p.1:=fun p hp=>by
  obtain⟨k,i,_,rfl⟩:=NH hp;exact rfl
def eD(reps:List Nat)(i:Nat):Nat:=reps.getD i 0
def r9(t:Tab)(bl reps:List Nat)(c j:Nat):List Nat:=(List.range j).map fun i=>aM bl ((aD t).δ (eD reps i) c)
theorem y8(t:Tab)(bl reps:List Nat)(c j:Nat):gU (r9 t bl reps c j)++two ((aM bl ((aD t).δ (eD reps j) c):Nat):Int)=gU (r9 t bl reps c (j+1)):=by
  rw[zq5,r9,r9,List.range_succ,List.map_append];rfl
theorem T8(t:Tab)(bl reps:List Nat)(c j:Nat):(gU (r9 t bl reps c j)).length=2*j:=by rw[zv4,r9,List.length_map,List.length_range]
abbrev kC(t:Tab)(bl reps:List Nat)(c:Nat):List Nat:=jX (aD t) (aM bl) (eD reps) reps.length c
abbrev mK(t:Tab)(bl reps:List Nat)(b:Nat):List (List Nat):=mq (aD t) (aM bl) (eD reps) reps.length b
abbrev mC(t:Tab)(bl reps:List Nat)(b:Nat):List Nat:=rf (aD t) (aM bl) (eD reps) reps.length b
noncomputable abbrev mO(t:Tab)(bl reps:List Nat)(b:Nat):List Int:=tq (aD t) (aM bl) (eD reps) reps.length b
abbrev oC(t:Tab)(bl reps:List Nat)(c:Nat):Nat:=mG (aD t) (aM bl) (eD reps) reps.length c
theorem y1f(t:Tab)(bl reps:List Nat)(c:Nat):SV.c (.str (gU (r9 t bl reps c reps.length)))=eL (kC t bl reps c):=rfl
theorem yc{t:Tab}{bl reps:List Nat}(h:∀ x∈bl,x< 65536)(c j:Nat):∀ x∈r9 t bl reps c j,x< 65536:=fun x hx=>by
  obtain⟨i,_,rfl⟩:=List.mem_map.1 hx;exact ZL h _
theorem zvn{t:Tab}{bl reps:List Nat}(h:∀ x∈bl,x< 65536){b c j:Nat}{v:SV}(hj:(dh eL (mK t bl reps b))[j]? =some (.c (.str (gU (r9 t bl reps c reps.length))),v)):v= .c (.int .i64 ((fF (mK t bl reps b) (kC t bl reps c):Nat):Int))/\kC t bl reps c∈mK t bl reps b:=by
  obtain⟨k,hk,e,rfl⟩:=Pn hj;obtain⟨q,hq,rfl⟩:=(qW _ k).1 (List.mem_of_getElem? hk)
  have e2:kC t bl reps ((aD t).cell q)=kC t bl reps c:=by
    rw[y1f]at e;unfold eL at e
    injection e with e
    injection e with e
    exact Y0 (by simp[keyBy,jX]) (yc h _ _) (yc h _ _) e
  have e3:keyBy (aD t) (aM bl) (eD reps) reps.length q=kC t bl reps c:=e2
  rw[e3]at hk
  have e4:fF (mK t bl reps b) (kC t bl reps c)=j:=MF (Gh _) hk
  exact⟨by rw[e4],List.mem_of_getElem? hk⟩
theorem ES{t:Tab}{bl reps:List Nat}{b c:Nat}(hn:∀ p∈dh eL (mK t bl reps b),p.1≠ .c (.str (gU (r9 t bl reps c reps.length)))):kC t bl reps c∉mK t bl reps b:=T4 hn
theorem KZ{t:iG}{block reps:Nat->Nat}{k b:Nat}(h:∃ a,a< b/\t.cell a=t.cell b):jX t block reps k (t.cell b)∈mq t block reps k b:=by
  obtain⟨a,ha,e⟩:=h;exact TY.2 ⟨a,ha,by rw[e]⟩
theorem EN(t:Tab)(bl reps:List Nat):List.replicate t.nc (-1:Int)=mO t bl reps 0:=(zV (t:=aD t)).symm
theorem y1g(t:Tab)(bl reps:List Nat):mC t bl reps 0=[]:=rfl
theorem IV(t:Tab)(bl reps:List Nat):(mC t bl reps 0).length<=0:=Nat.le_refl 0
theorem O7(t:Tab)(bl reps:List Nat):Cw (aD t) (aM bl) (eD reps) reps.length [] (mC t bl reps 0).length 0:=Cw.zero
theorem EM(t:Tab)(bl reps:List Nat):([]:List (SV×SV))=dh eL (mK t bl reps 0):=rfl
theorem y9(t:Tab)(bl reps:List Nat)(c:Nat):([]:List UInt8)=gU (r9 t bl reps c 0):=rfl
theorem zL(t:Tab)(bl reps:List Nat)(b:Nat):(mC t bl reps b).length<=b:=by
  rw[z59];exact Nat.le_trans (vZ _) (by rw[List.length_range];exact Nat.le_refl _)
theorem JG{n t:Nat}:dw.low n (.mp t []):=fun x hx=>by cases hx
theorem Iy:∀ x∈([]:List (SV×SV)),x.1.flat=true/\x.2.flat=true:=fun x hx=>by cases hx
theorem Ry{t:iG}{l bl reps:List Nat}{N:Nat}(h:kg t l bl reps N)(hl:∀ s∈l,s< N):reps.length<=N:=by
  have hn:((List.range reps.length).map (eD reps)).Nodup:=by
    refine List.pairwise_map.2 (List.Pairwise.imp_of_mem ?_ (List.pairwise_lt_range (n:=reps.length)));intro a b ha hb hab e
    have h1:=(h.rep a (List.mem_range.1 ha)).2
    have h2:=(h.rep b (List.mem_range.1 hb)).2
    rw[eD,eD]at e;rw[e,h2]at h1
    omega
  have:=ND hn fun x hx=>by
    obtain⟨i,hi,rfl⟩:=List.mem_map.1 hx;exact hl _ (h.rep i (List.mem_range.1 hi)).1
  simpa using this
def bM(n:Nat)(v:Int)(k:Nat):List Int:=(List.range n).map fun i=>if i< k then v else 0
@[simp] theorem z37(n:Nat)(v:Int)(k:Nat):(bM n v k).length=n:=by simp[bM]
theorem Mk(n:Nat)(v:Int):bM n v 0=List.replicate n 0:=by simp[bM,List.map_const']
theorem Se(n:Nat)(v:Int):bM n v n=List.replicate n v:=by
  refine o9 0 (by simp) fun i hi=>?_
  have hi:i< n:=by simpa using hi
  rw[bM,iy hi,if_pos hi,List.getD_eq_getElem?_getD,List.getElem?_replicate,if_pos hi];rfl
theorem Mv{n:Nat}(v:Int){k:Nat}(h:k< n):(bM n v k).set k v=bM n v (k+1):=by
  refine o9 0 (by simp) fun i hi=>?_
  have hi:i< n:=by simpa using hi
  rw[my (by simpa using hi),bM,bM,iy hi,iy hi]
  by_cases e:k=i
  · subst e;rw[if_pos rfl,if_pos (by omega)]
  · rw[if_neg e]
    by_cases h2:i< k
    · rw[if_pos h2,if_pos (by omega)]
    · rw[if_neg h2,if_neg (by omega)]

end Go.Proofs.YtpdljmohhpbkpaaDoor

namespace Go.Proofs.YtpdljmohhpbkpaaDoor
open Go.Ab Go.RowKit

open Go.Aut
abbrev ah:=Nat×Nat×UInt64
def encS(a:ah):List Cell:=[.int .i64 (a.1:Nat),.int .i64 (a.2.1:Nat),.u64 a.2.2]
abbrev jW(a:ah):SV:=.agg (.cells (encS a))
theorem o5:Rec encS 3 (fun _=>True):=⟨fun _=>rfl,fun a=>z93 rfl (z93 rfl (z93 rfl zpr))⟩
theorem xz{a b:ah}(h:encS a=encS b):a=b:=by
  simp only[encS,List.cons.injEq,Cell.int.injEq,Cell.u64.injEq,true_and,and_true,Int.natCast_inj]at h
  exact Prod.ext h.1 (Prod.ext h.2.1 h.2.2)
def Mc(a:ah):Prop:=a.1<=9223372036854775807/\a.2.1<=9223372036854775807
theorem T9{a:ah}(h:Mc a):kE ty 64 (jW a):=by
  exact⟨rfl,⟨⟨rfl,JA.mpr ⟨by have:=h.1;omega,by have:=h.1;omega⟩⟩,⟨rfl,JA.mpr ⟨by have:=h.2;omega,by have:=h.2;omega⟩⟩,trivial,trivial⟩⟩
theorem C5(a:ah):(jW a).flat=true:=rfl
theorem y1h{ks:List ah}(h:∀ k∈ks,Mc k):∀ p∈dh jW ks,kE ty 64 p.1:=fun p hp=>by
  obtain⟨k,i,hk,rfl⟩:=NH hp;exact T9 (h k hk)
theorem BH{ks:List ah}(hn:ks.Nodup){a:ah}{j:Nat}{v:SV}(hj:(dh jW ks)[j]? =some (jW a,v)):v= .c (.int .i64 ((jq ks a:Nat):Int))/\a∈ks:=by
  obtain⟨k,hk,e,rfl⟩:=Pn hj
  have e2:k=a:=xz (by injection e with e;injection e)
  subst e2;exact⟨by rw[y00 hn hk],List.mem_of_getElem? hk⟩
theorem Oy{ks:List ah}{a:ah}(hn:∀ p∈dh jW ks,p.1≠jW a):a∉ks:=T4 hn
def aC(g:ah->Nat->ah)(bytes:List Nat)(s:ah)(k:Nat):ah:=g s (bytes.getD k 0)
theorem QD {g:ah->Nat->ah} {bytes:List Nat} {s0:ah} {Inv:ah->Prop} (h0:Inv s0) (hg:∀ s b,Inv s->b< 256->Inv (g s b)) (hb:∀ b∈bytes,b< 256) (hp:0< bytes.length) {p:Nat} (hz:∀ q,q< p->q / bytes.length< (aR (aC g bytes) bytes.length s0 q).length):∀ s∈aR (aC g bytes) bytes.length s0 p,Inv s:=by
  induction p with
  |zero=>intro s hs;rw[aR]at hs;rw[List.mem_singleton.1 hs];exact h0
  | succ p ih=>
    intro s hs
    have ih:=ih fun q hq=>hz q (by omega)
    rw[aR,iq]at hs
    split at hs
    · exact ih s hs
    · rcases List.mem_append.1 hs with hs|hs
      · exact ih s hs
      · rw[List.mem_singleton.1 hs]
        have h1:=hz p (by omega)
        refine hg _ _ ?_ ?_
        · rw[qb h1];exact ih _ (List.getElem_mem h1)
        · have h2:p%bytes.length< bytes.length:=Nat.mod_lt _ hp
          rw[qb h2];exact hb _ (List.getElem_mem h2)
theorem UH{S:Type}[DecidableEq S][Inhabited S]{f:S->Nat->S}{nc:Nat}{b0:S}(hnc:0< nc){i k:Nat}(ha:∀ j,j<=i->j< (aR f nc b0 (j*nc)).length)(hk:k<=nc):∀ q,q< i*nc+k->q / nc< (aR f nc b0 q).length:=fun q hq=>by
  have h1:q / nc<=i:=by
    rcases Nat.lt_or_ge i (q / nc)with h|h
    · have h2:(i+1)*nc<=q / nc*nc:=Nat.mul_le_mul_right _ h
      have h3:=Nat.div_mul_le_self q nc
      rw[Nat.add_mul]at h2;omega
    · exact h
  exact Nat.lt_of_lt_of_le (ha _ h1) (pR (Nat.div_mul_le_self q nc))
open Classical in
noncomputable def UW{S:Type}[DecidableEq S][Inhabited S](f:S->Nat->S)(nc:Nat)(b0:S):Nat:=if h:∃ n,Full f nc b0 n then Classical.choose h else 0
theorem Nl{S:Type}[DecidableEq S][Inhabited S]{f:S->Nat->S}{nc:Nat}{b0:S}{n:Nat}(h:Full f nc b0 n):UW f nc b0=n:=by
  have he:∃ n,Full f nc b0 n:=⟨n,h⟩
  rw[UW,dif_pos he];exact zsp (Classical.choose_spec he) h
def JQ:Tab:=⟨z12,0,[],[]⟩
open Classical in
noncomputable def jf(g:ah->Nat->ah)(acc:ah->Bool)(cell:List Int)(bytes:List Nat)(s0:ah)(most:Nat):Tab×Bool:=if Big (aC g bytes) bytes.length s0 most then(JQ,false) else(iw (aC g bytes) acc cell bytes.length s0 (UW (aC g bytes) bytes.length s0),true)
abbrev UX(r:Tab×Bool):SV:=.tup [.agg (dP r.1),.c (.bool r.2)]
theorem Vx(r:Tab×Bool):SV.low 0 (UX r):=List.forall_mem_cons.2 ⟨z42 _,List.forall_mem_cons.2 ⟨trivial,fun _ h=>by cases h⟩⟩
theorem M4:zl=au z12 0 .nils .nils:=by
  rw[<-y15,zl,show 257=256+1 from rfl, <-List.replicate_append_replicate,List.append_assoc];rfl
theorem Vy{ty:Nat->Ty}{H:Heap}{is:List Nat}{ρ:Nat->Nat}:bR (Cell.to ty H is ρ) zl (au z12 0 (.ds 0 (.cells [])) (.ds 0 (.bools []))):=by
  rw[M4];exact sj ⟨rfl,rfl⟩ ⟨rfl,rfl⟩
theorem TH{cell:List Int}{nc:Nat}{x y z:Cell}(h:cell.length=256):(au cell nc x y).set 257 z=au cell nc z y:=by
  rw[au,au,List.set_append_right _ _ (by simp[h])]
  simp[h]
theorem zvp{cell:List Int}{nc:Nat}{x y z:Cell}(h:cell.length=256):(au cell nc x y).set 258 z=au cell nc x z:=by
  rw[au,au,List.set_append_right _ _ (by simp[h])]
  simp[h]
theorem y1k{cell:List Int}{nc:Nat}{x y:Cell}(h:cell.length=256):(au cell nc x y)[257]? =some x:=by
  rw[au,List.getElem?_append_right (by simp[h])]
  simp[h]
theorem y1l{cell:List Int}{nc:Nat}{x y:Cell}(h:cell.length=256):(au cell nc x y)[258]? =some y:=by
  rw[au,List.getElem?_append_right (by simp[h])]
  simp[h]
theorem Ih{cell:List Int}{nc:Nat}{x y:Cell}(h:cell.length=256):(aB.cells (au cell nc x y)).get (0+257)=x:=by rw[Nat.zero_add,Pm h 1];rfl
theorem BR{cell:List Int}{nc:Nat}{x y:Cell}(h:cell.length=256):(aB.cells (au cell nc x y)).get (0+258)=y:=by rw[Nat.zero_add,Pm h 2];rfl
theorem zt4(cell:List Int)(nc:Nat):(aB.ints .i64 cell).list++([.int .i64 nc]++(((aB.cells (List.replicate 257 (Cell.int .i64 0)++List.replicate 2 Cell.nils)).sub 257 1).list++(((aB.cells (List.replicate 257 (Cell.int .i64 0)++List.replicate 2 Cell.nils)).sub 258 1).list++[])))=au cell nc .nils .nils:=by
  have e:∀ i,i< 2->((List.replicate 257 (Cell.int .i64 0)++List.replicate 2 Cell.nils).drop (257+i)).take 1=[Cell.nils]:=fun i hi=>by
    rw[List.drop_append,List.length_replicate,Nat.add_sub_cancel_left,List.drop_of_length_le (by rw[List.length_replicate];omega)]
    match i,hi with
    |0,_=>rfl
    |1,_=>rfl
  show cell.map (Cell.int .i64)++([.int .i64 nc]++(((List.replicate 257 (Cell.int .i64 0)++List.replicate 2 Cell.nils).drop (257+0)).take 1++(((List.replicate 257 (Cell.int .i64 0)++List.replicate 2 Cell.nils).drop (257+1)).take 1++[])))=_
  rw[e 0 (by decide),e 1 (by decide)];rfl

end Go.Proofs.YtpdljmohhpbkpaaDoor
