/- Contracts of functions and plain facts, part 24. -/
import Derived.Test.YtpdljmohhpbkpaaDoorNu
import Derived.Test.YtpdljmohhpbkpaaDoorNf
import Derived.Test.YtpdljmohhpbkpaaDoorNl
import Derived.Test.YtpdljmohhpbkpaaDoorNw
import Derived.Test.YtpdljmohhpbkpaaDoorNv
import Derived.Test.YtpdljmohhpbkpaaDoorNq
set_option linter.all false
set_option maxHeartbeats 4000000
set_option maxRecDepth 4000
namespace Go.Proofs.YtpdljmohhpbkpaaDoor
open Go.Ab Go.RowKit

section
variable {a b:Prop}
theorem En(h:a:=by first|exact gG|(simp<;>omega)|exact⟨by omega,by omega⟩|exact Ru jh _|exact jh.solid _|(show _< (iA fE _).length;rw[su];omega)|(show _<=(iA fE _).length;rw[su];omega)|exact BZ hso|exact BZ hxo|(rw[su];done)|exact gH):a:=h
theorem lC(h:a:=by
    repeat' (first|exact pT|exact trivial|refine aI ?_ ?_|exact iM|refine low_cons' ?_ ?_|exact iN|fail)
    all_goals first|omega|(simp;done)|(show(0:Nat)< (au _ _ _ _).length;rw[dJ hcl];decide)|(simp[-List.reduceReplicate];done)|(simp[-List.reduceReplicate]<;>omega)|skip):a:=h
theorem tN(kZ:b)(h:aK b->a:=by intro kZ;(repeat first|refine aI En ?_|refine bW En ?_|refine dC En ?_|refine fT En ?_|refine fA ?_);exact kZ.out):a:=h ⟨kZ⟩
theorem Nw(kZ:b)(h:aK b->a:=by intro kZ;refine sX ?_;refine tN ?_;refine aL ?_;exact kZ.out):a:=h ⟨kZ⟩
theorem zz(kZ:b)(h:aK b->a:=by intro kZ;refine qX ?_;refine tN ?_;refine aL ?_;exact kZ.out):a:=h ⟨kZ⟩
theorem y5b(kZ:b)(h:aK b->a:=by intro kZ;refine qX ?_;refine tN ?_;exact kZ.out):a:=h ⟨kZ⟩
end
open Go.Aut
def fE(a:ah):List Cell:=[.int .i64 (a.1:Nat),.u64 a.2.2]
abbrev uq(a:ah):SV:=.agg (.cells (fE a))
theorem jh:Rec fE 2 (fun _=>True):=⟨fun _=>rfl,fun a=>z93 rfl (z93 rfl zpr)⟩
def I5(a:ah):Prop:=a.1<=65535/\a.2.1=0
theorem yA{a b:ah}(ha:I5 a)(hb:I5 b)(h:fE a=fE b):a=b:=by
  simp only[fE,List.cons.injEq,Cell.int.injEq,Cell.u64.injEq,true_and,and_true,Int.natCast_inj]at h
  exact Prod.ext h.1 (Prod.ext (ha.2.trans hb.2.symm) h.2)
theorem BZ{a:ah}(h:I5 a):iE (ty 80) (.cells (fE a)):=by
  have h1:=h.1
  exact⟨rfl,⟨⟨rfl,JA.mpr ⟨by omega,by omega⟩⟩,trivial,trivial⟩⟩
theorem su(l:List ah):(iA fE l).length=l.length*2:=YQ jh fun _ _=>trivial
theorem y5c{S:Type}[DecidableEq S]{s:S}:∀ {l:List S} {i:Nat},l[i]? =some s->l.idxOf s<=i
  |[],_,h=>by cases h
  |a::l,0,h=>by cases h;rw[List.idxOf_cons_self];exact Nat.le_refl _
  | a::l,i+1,h=>by
    have:=y5c (l:=l) (i:=i) (by simpa using h)
    rw[List.idxOf_cons]
    cases a==s
    · show l.idxOf s+1<=i+1;omega
    · exact Nat.zero_le _
theorem EV{S:Type}[DecidableEq S]{s:S}{l:List S}{i:Nat}(h:l[i]? =some s):jq l s<=i:=y5c h
theorem Yq{S:Type}[DecidableEq S]{s:S}{l:List S}(h:¬ s∈l):jq l s=l.length:=List.idxOf_eq_length h
def sK(l:List ah)(s:ah)(i:Nat):Prop:=∀ j,j< i->l[j]? ≠some s
theorem y5d{l:List ah}{s:ah}{i:Nat}(h:sK l s i)(hi:l[i]? =some s):jq l s=i:=by
  have h1:=zuu (List.mem_of_getElem? hi)
  rcases Nat.lt_or_eq_of_le (EV hi)with e|e
  · exact absurd h1 (h _ e)
  · exact e
theorem y5e{l:List ah}{s:ah}(h:sK l s l.length):jq l s=l.length:=Yq fun hm=>by
  obtain⟨j,hj,e⟩:=List.mem_iff_getElem.1 hm;exact h j hj (by rw[List.getElem?_eq_getElem hj,e])
theorem y5f(l:List ah)(s:ah):sK l s 0:=fun _ h=>absurd h (Nat.not_lt_zero _)
theorem y5g{l:List ah}{s:ah}{i:Nat}(h:sK l s i)(hi:l[i]? ≠some s):sK l s (i+1):=fun j hj=>by
  rcases Nat.lt_succ_iff_lt_or_eq.1 hj with h1|h1
  · exact h j h1
  · rw[h1];exact hi
attribute [local irreducible] eG z12 zl au gz cr sK jq
def Zj:aW:=fun vs K=>∃ (l:List ah) (s:ah),vs=[.c (.ds l.length (.cells (iA fE l))),uq s]/\(l.length<=9223372036854775807/\(∀ x∈l,I5 x)/\I5 s)/\K (.c (.int .i64 (jq l s:Nat)))
theorem zrh:jJ Tryd.prog gl 48 Zj:=by
 refine kU (Γ:=g0) (N:=21) Tryd.func48 rfl rfl fun vs K h=>?_;obtain⟨l,s,rfl,⟨hl,hlo,hso⟩,h⟩:=h;refine⟨_,h,rfl,by simp,fun w I=>?_⟩;refine aO aF fun _ K2=>?_
 iterate 2 refine Nw ?_
 refine aJ K2 (aH fun _ K3=>aO aF fun _ K5=>Nw ?_);refine aJ K5 (bO (fQ [0] id [(0,.c (.ds l.length (.cells (iA fE l)))),(3,.c (.dp (.cells (fE s)) 0)),(5,.c (.int .i64 0))] [] 0 [] lC lC lC lC (fM (α:=Nat) (fun i=>[(0,.c (.ds l.length (.cells (iA fE l)))),(3,.c (.dp (.cells (fE s)) 0)),(5,.c (.int .i64 (i:Nat)))]) (fun i=>[]) 0 (fun i=>i<=l.length/\sK l s i) (fun i=>l.length - i) ?_ ?_)))
 ·refine ai [] id 0 ⟨Nat.zero_le _,y5f _ _⟩ [] lC lC lC lC
 ·intro i hi0
  obtain⟨hi1,hi2⟩:=hi0;refine aH fun _ K6=>aO aF fun _ K8=>?_
  iterate 4 refine Nw ?_
  refine aJ K8 (bC (b:=_) rfl (fun h_t9=>?_) (fun h_t9=>?_))
  ·try simp only[dQ,reduceIte]at h_t9
   refine bK (K6 _ _ _ (aH fun _ K9=>bO ?_))
   have hil:i< l.length:=by omega
   obtain⟨x,hx⟩:∃ x,l[i]? =some x:=⟨_,List.getElem?_eq_getElem hil⟩
   have hxo:=hlo x (List.mem_of_getElem? hx)
   refine qB aF aN fun _ K11=>?_
   iterate 3 refine zz ?_
   refine y5b ?_;refine aU (uq x) (YR jh (fun _ _=>trivial) (by omega) rfl hx) (zz ?_);refine y5b ?_;intro b9 hb9
   obtain rfl:b9=decide (x=s):=by
    rw[Bool.eq_iff_iff,hb9,decide_eq_true_eq];exact⟨fun e=>yA hxo hso (by injection e),fun e=>by rw[e]⟩
   refine tN ?_;refine aL (nG K11 (bC (b:=_) rfl (fun h_t17=>?_) (fun h_t17=>?_)))
   ·try simp only[dQ,reduceIte]at h_t17
    refine aO aF fun _ K13=>?_
    iterate 2 refine Nw ?_
    refine aJ K13 (bQ (eU aF (fun _ _ h=>h) (by first|rfl|assumption) [.tmp 4] rfl ?_));refine gV ?_
    show SV.c (.int .i64 _)=_
    rw[y5d hi2 (by rw[hx];first|rw[h_t17]|(congr 1;simp_all))]
   ·try simp only[dQ,reduceIte]at h_t17
    refine bK (dD (K9 _ _ _ (bB aF fun _ K14=>?_)))
    iterate 3 refine Nw ?_
    refine aJ K14 (ai [] id (i+1) ⟨⟨by omega,y5g hi2 (by rw[hx];exact fun e=>by cases e;simp_all)⟩,by omega⟩ [] ?_ ?_ ?_ ?_)
    ·exact lC
    ·exact lC
    ·exact lC
    ·exact lC
  ·try simp only[dQ,reduceIte]at h_t9
   refine eY (bJ (bJ (eX (K3 _ _ _ (aO aF fun _ K16=>?_)))))
   iterate 3 refine Nw ?_
   refine aJ K16 (bQ (eU aF (fun _ _ h=>h) (by first|rfl|assumption) [.tmp 4] rfl ?_));refine gV ?_
   show SV.c (.int .i64 _)=_
   rw[y5e (by rwa [show i=l.length by omega]at hi2)]


end Go.Proofs.YtpdljmohhpbkpaaDoor

namespace Go.Proofs.YtpdljmohhpbkpaaDoor
open Go.Ab Go.RowKit

section
variable {a b:Prop}
theorem Eo(h:a:=by first|exact gG|(simp[-List.reduceReplicate]<;>omega)|exact PG|exact rX trivial trivial|(show _< (rt _ _ _).length;rw[bG hxc];omega)|(show _<=(rt _ _ _).length;rw[bG hxc];omega)|(show(rt _ _ _).length=258;exact bG hxc)|(show 258=(rt _ _ _).length;exact(bG hxc).symm)|(show 0+(rt _ _ _).length<=(List.replicate 256 _++List.replicate 2 _).length;rw[bG hxc];simp)|(show(List.replicate 256 _++List.replicate 2 _).length=(rt _ _ _).length;rw[bG hxc];simp)|(show dz.length=(rt _ _ _).length;rw[jA,bG hxc])|(show 0+(rt _ _ _).length<=dz.length;rw[jA,bG hxc];decide)|(show(rt _ _ _).length=dz.length;rw[jA,bG hxc])|(show _< (aS _).length;rw[nH];omega)|(simp only[jI];omega)|(simp only[z17];omega)|exact rX trivial trivial|(show _< (rt _ _ _).length;rw[bG hyc];omega)|(show _<=(rt _ _ _).length;rw[bG hyc];omega)|(show(rt _ _ _).length=258;exact bG hyc)|(show 258=(rt _ _ _).length;exact(bG hyc).symm)|(show 0+(rt _ _ _).length<=(List.replicate 256 _++List.replicate 2 _).length;rw[bG hyc];simp)|(show(List.replicate 256 _++List.replicate 2 _).length=(rt _ _ _).length;rw[bG hyc];simp)|(show dz.length=(rt _ _ _).length;rw[jA,bG hyc])|(show 0+(rt _ _ _).length<=dz.length;rw[jA,bG hyc];decide)|(show(rt _ _ _).length=dz.length;rw[jA,bG hyc])|(show _< (aS _).length;rw[nH];omega)|(simp only[jI];omega)|(simp only[z17];omega)|(simp only[jH];omega)|(simp only[jI,jH];omega)|exact And.intro hjl trivial|(show(List.replicate 256 (0:Int)).length=(jL _ _ _).length;rw[fI,List.length_replicate])|(show 256=(jL _ _ _).length;rw[fI])|(show 0< (jL _ _ _).length;rw[fI];decide)|(show 0+(jL _ _ _).length<=_;rw[fI];simp)|exact⟨by omega,by omega,trivial⟩|exact⟨by omega,by omega,trivial,trivial⟩|exact Ru jh _|exact jh.solid _|exact(Iq jh _).isD|(show _< (iA fE _).length;rw[su];omega)|(show _<=(iA fE _).length;rw[su];omega)|(show 0+_*2<=(iA fE _).length;rw[su];omega)|exact⟨by omega,by omega,jh.solid _⟩|exact⟨rfl,su _⟩|exact su _|(rw[su];done)|exact gH):a:=h
theorem bN(h:a:=by
    repeat' (first|exact pJ|exact pT|exact trivial|refine aI ?_ ?_|exact iM|refine low_cons' ?_ ?_|exact iN|fail)
    all_goals first|omega|(show(0:Nat)< (rt _ _ _).length;rw[bG hjl];decide)|(show aB.low _ (aB.cells (List.replicate 256 _++_));exact ou)|(show 0< (rt _ _ _).length;rw[bG hxc];decide)|(show 0< (rt _ _ _).length;rw[bG hyc];decide)|exact hL0|exact(vY _).symm|exact(Im _ _).symm|exact vY _|exact Im _ _|exact Bv trivial (by show(_:Nat)< _;omega)|exact Bv (by show(_:Nat)< _;omega) (by show(_:Nat)< _;omega)|exact lw _|exact ib _|exact Sn (Iq jh _) (by first|rfl|assumption|exact hXS)|exact Sm jh|(show(_:List Int)=_;first|assumption|rfl)|(show(_:List Bool)=_;first|assumption|rfl)|(show aB.to _ _ _ _ _ _;exact rY trivial trivial)|(show bR _ _ _;first|(rw[hXR];exact nI _)|(rw[hXR];trivial)|exact nI _)|(show bR _ _ _;(try rw[Ca hjl rfl]);(try rw[Gv hjl rfl]);refine rY ?_ ?_<;>(repeat' (first|exact trivial|refine aI ?_ ?_|rfl|omega|decide|exact z31 _|exact hL0|(simp;done)|rw[if_pos ⟨rfl,by simp⟩])))|(simp[-List.reduceReplicate];done)|(show(0:Nat)< (au _ _ _ _).length;rw[dJ hcl];decide)|(simp[-List.reduceReplicate];done)|(simp[-List.reduceReplicate]<;>omega)|skip):a:=h
theorem dM(kZ:b)(h:aK b->a:=by intro kZ;(repeat first|refine aI Eo ?_|refine bW Eo ?_|refine dC Eo ?_|refine fT Eo ?_|refine fA ?_);exact kZ.out):a:=h ⟨kZ⟩
theorem z29(kZ:b)(h:aK b->a:=by intro kZ;refine sX ?_;refine dM ?_;refine aL ?_;exact kZ.out):a:=h ⟨kZ⟩
theorem Gx(kZ:b)(h:aK b->a:=by intro kZ;refine jl ?_;refine dM ?_;refine aL ?_;exact kZ.out):a:=h ⟨kZ⟩
theorem y5h(kZ:b)(h:aK b->a:=by intro kZ;refine mX ?_;refine dM ?_;refine aL ?_;exact kZ.out):a:=h ⟨kZ⟩
theorem M3(kZ:b)(h:aK b->a:=by intro kZ;refine qX ?_;refine dM ?_;refine aL ?_;exact kZ.out):a:=h ⟨kZ⟩
theorem Cf(kZ:b)(h:aK b->a:=by intro kZ;refine dX ?_;refine dM ?_;refine aL ?_;exact kZ.out):a:=h ⟨kZ⟩
theorem yP(kZ:b)(h:aK b->a:=by intro kZ;refine gX ?_;refine dM ?_;refine aL ?_;exact kZ.out):a:=h ⟨kZ⟩
theorem Tw(kZ:b)(h:aK b->a:=by intro kZ;refine pu ?_;refine dM ?_;refine aL ?_;exact kZ.out):a:=h ⟨kZ⟩
theorem z35(kZ:b)(h:aK b->a:=by intro kZ;refine sX ?_;refine dM ?_;exact kZ.out):a:=h ⟨kZ⟩
theorem Ag(kZ:b)(h:aK b->a:=by intro kZ;refine mX ?_;refine dM ?_;exact kZ.out):a:=h ⟨kZ⟩
theorem NN(kZ:b)(h:aK b->a:=by intro kZ;refine qX ?_;refine dM ?_;exact kZ.out):a:=h ⟨kZ⟩
theorem CV(kZ:b)(h:aK b->a:=by intro kZ;refine dX ?_;refine dM ?_;exact kZ.out):a:=h ⟨kZ⟩
theorem Pq(kZ:b)(h:aK b->a:=by intro kZ;refine gX ?_;refine dM ?_;exact kZ.out):a:=h ⟨kZ⟩
end
open Go.Aut
theorem y5i{S:Type}[DecidableEq S][Inhabited S]{f:S->Nat->S}{nc:Nat}{b0:S}{s k:Nat}(h:k< nc):(dL f nc b0 s nc).take k++([]++[((kN f nc b0 s k:Nat):Int)])=(dL f nc b0 s nc).take (k+1):=by
  rw[List.take_add_one,List.nil_append]
  congr 1
  rw[dL,List.getElem?_map,List.getElem?_range h]
  simp[h]
theorem zym{S:Type}[DecidableEq S][Inhabited S]{f:S->Nat->S}{nc:Nat}{b0:S}{s:Nat}:([]:List Int)=(dL f nc b0 s nc).take 0:=rfl
theorem zyn{S:Type}[DecidableEq S][Inhabited S]{f:S->Nat->S}{nc:Nat}{b0:S}{s k:Nat}(h:k<=nc):((dL f nc b0 s nc).take k).length=k:=by rw[List.length_take,Lc];omega
theorem zyo{S:Type}[DecidableEq S][Inhabited S]{f:S->Nat->S}{nc:Nat}{b0:S}{s:Nat}:(dL f nc b0 s nc).take nc=dL f nc b0 s nc:=List.take_of_length_le (by rw[Lc];exact Nat.le_refl _)
theorem UU(x:Tab)(s:ah):(s.1,s.2.1,s.2.2 ||| sW x s.1)=lS x s:=by
  unfold sW lS
  split
  · rfl
  · show(s.1,s.2.1,s.2.2 ||| 0)=s
    rw[UInt64.or_zero]
theorem DF(x:Tab):((0,0,sW x 0):ah)=aX x:=by
  have:=UU x (0,0,0)
  rw[aX, <-this]
  show _=((0,0,0 ||| sW x 0):ah)
  rw[UInt64.zero_or]
theorem xE{S:Type}[DecidableEq S][Inhabited S]{f:S->Nat->S}{nc:Nat}{b0:S}{i m:Nat}(ha:∀ j,j<=i->j< (aR f nc b0 (j*nc)).length)(h:m< (aR f nc b0 ((i+1)*nc)).length):Big f nc b0 m:=⟨i,nc,ha,Nat.le_refl _,by rw[<-Nat.succ_mul];exact h⟩
theorem Yr{x:Tab}(hx:x.fit){s:ah}(hs:nE x s):I5 s:=⟨by have:=hs.1;have:=hx.2.1;omega,hs.2⟩
open Classical in
theorem DX{d e:Dfa}(h:eQ d=true/\eQ e=true):z44 d e=(if Big (aC (aV (ag (af (aT d))) (ag (af (aT e)))) (aA (cN (ag (af (aT d)))) (cN (ag (af (aT e)))))) (aA (cN (ag (af (aT d)))) (cN (ag (af (aT e))))).length (aX (ag (af (aT d)))) 4096 then(uA,2)else lU (af (kL (aT d) (aT e)))):=by rw[z44,if_pos h]
theorem IK(a b:Tab):0< (aA (cN a) (cN b)).length:=by
  obtain⟨_,r,h1,_⟩:=(gF a b).at' 0 (by decide)
  rcases Nat.eq_zero_or_pos (aA (cN a) (cN b)).length with e|e
  · have:=((gF a b).at' 0 (by decide)).1;omega
  · exact e
theorem Wd{S:Type}[DecidableEq S][Inhabited S]{f:S->Nat->S}{nc:Nat}{b0:S}{p:Nat}:∀ {q:Nat},(aR f nc b0 (p+q)).length<=(aR f nc b0 p).length+q
  |0=>Nat.le_refl _
  | q+1=>by
    have:=Wd (f:=f) (nc:=nc) (b0:=b0) (p:=p) (q:=q)
    rw[show p+(q+1)=p+q+1 from rfl,aR,iq]
    split
    · omega
    · rw[List.length_append];show _+1<=_;omega
theorem Ig(f:ah->Nat->ah)(acc:ah->Bool)(cell:List Int)(nc:Nat)(b0:ah)(n:Nat):SV.agg (aB.cells (rt cell (.ds n (.cells (aS (bP f nc b0 n)))) (.ds n (.bools (dZ f nc b0 acc n)))))=jw (iw f acc cell nc b0 n):=by
  show _=SV.agg (aB.cells (rt cell (.ds (bP f nc b0 n).length (.cells (aS (bP f nc b0 n)))) (.ds (dZ f nc b0 acc n).length (.bools (dZ f nc b0 acc n)))))
  rw[vY,Im]
attribute [local irreducible] eG z12 zl rt dz au gz cr af jL aA iR dL bP dZ aV aX d9
noncomputable def VF:Ctx:={ P:=Tryd.prog,ty:=ty,glob:=gl,fs:=[(42,.flat NK),(43,.data um),(44,.data Pg),(45,.data Tn),(46,.flat y4c),(47,.flat YA),(49,.flat WO),(48,.flat Zj),(50,.data Tu)] }
theorem kr:VF.OK:=⟨dS,⟨⟨bX Tryd.func42 aN rfl,PZ⟩,⟨bX Tryd.func43 aN rfl,Q6⟩,⟨bX Tryd.func44 aN rfl,Rp⟩,⟨bX Tryd.func45 aN rfl,YB⟩,⟨bX Tryd.func46 aN rfl,y4d⟩,⟨bX Tryd.func47 aN rfl,zkg⟩,⟨bX Tryd.func49 aN rfl,zwo⟩,⟨bX Tryd.func48 aN rfl,zrh⟩,⟨bX Tryd.func50 aN rfl,YD⟩,trivial⟩,mixed⟩
@[simp] theorem VG:VF.ty=ty:=rfl

def zri:aW:=fun vs K=>∃ d e:Dfa,vs=[df d,df e]/\(d.wf/\e.wf)/\K (lX (z44 d e))
theorem zu9:jr Tryd.prog gl 15 zri:=by
 refine kJ (Γ:=VF) (N:=136) Tryd.func15 rfl rfl fun vs K h=>?_;obtain⟨d,e,rfl,⟨hd,he⟩,h⟩:=h;refine⟨_,h,ib _,by simp,fun w I=>?_⟩;refine aO kr fun _ K2=>?_
 iterate 4 refine z29 ?_
 refine aJ K2 (aH fun _ K3=>fQ [0,1] (fun _=>2) [(2,.c (.dp (eB d) 0)),(3,.c (.dp (eB e) 0)),(4,.c (.ptr 0 0))] [(0,.own 30 (.cells [.nils,.nils,.nils]) 3)] 1 [2] j5 j5 j5 j5 (aO kr fun _ K5=>z29 ?_));refine z35 ?_;refine⟨d,rfl,hd,dM ?_⟩
 first|refine aL ?_|(intro cap1 hcap1;refine aL ?_)
 refine z29 ?_;refine z35 ?_;refine fO (fun hb3=>?_) (fun hb3=>?_)
 ·try simp only[dQ,reduceIte]at hb3
  iterate 3 refine sN ?_
  refine z29 ?_;refine aJ K5 (bC (b:=_) rfl (fun _=>?_) (fun h_t25=>?_))
  rotate_left 1
  ·exfalso;simp at h_t25
  refine aO kr fun _ K7=>z29 ?_;refine Gx ?_;refine z29 ?_;refine aJ K7 ?_
  have hno:¬ (eQ d=true/\eQ e=true):=by
   rw[<-qI hd, <-qI he];intro hh;simp_all
  rw[z44,if_neg hno];refine bQ (gT kr (fun _ _ h=>h) (ib _) [] [.cell 4 30,.tmp 5] rfl ?_)
  repeat first|refine aI (by first|exact trivial|rfl|exact⟨rfl,rfl⟩|decide) ?_|refine bW (by first|rfl|decide) ?_|refine dC (by first|rfl|decide) ?_
  all_goals exact bN
 ·try simp only[dQ,reduceIte]at hb3
  refine y5h ?_;refine Ag ?_;refine⟨e,rfl,he,dM ?_⟩
  first|refine aL ?_|(intro cap5 hcap5;refine aL ?_)
  refine y5h ?_;refine z29 ?_;refine aJ K5 (bC (b:=_) rfl (fun h_t25=>?_) (fun h_t25=>?_))
  ·try simp only[dQ,reduceIte]at h_t25
   refine aO kr fun _ K9=>z29 ?_;refine Gx ?_;refine z29 ?_;refine aJ K9 ?_
   have hno:¬ (eQ d=true/\eQ e=true):=by
    rw[<-qI hd, <-qI he];intro hh;simp_all
   rw[z44,if_neg hno];refine bQ (gT kr (fun _ _ h=>h) (ib _) [] [.cell 4 30,.tmp 5] rfl ?_)
   repeat first|refine aI (by first|exact trivial|rfl|exact⟨rfl,rfl⟩|decide) ?_|refine bW (by first|rfl|decide) ?_|refine dC (by first|rfl|decide) ?_
   all_goals exact bN
  ·try simp only[dQ,reduceIte]at h_t25
   refine bK (K3 _ _ _ ?_)
   have hvd:eQ d=true:=(qI hd).symm.trans (by simp_all)
   have hve:eQ e=true:=(qI he).symm.trans (by simp_all)
   have hgd:=(z22 hd).1 hvd
   have hge:=(z22 he).1 hve
   have hcd:=(Bn hgd).1
   have hce:=(Bn hge).1
   have hyes:eQ d=true/\eQ e=true:=⟨hvd,hve⟩
   obtain⟨x,hxE⟩:∃ x,ag (af (aT d))=x:=⟨_,rfl⟩;obtain⟨y,hyE⟩:∃ y,ag (af (aT e))=y:=⟨_,rfl⟩
   have hx:x.fit:=hxE▸kS hcd
   have hy:y.fit:=hyE▸kS hce
   have hx64:x.next.length<=64:=by rw[<-hxE];exact hcd.2
   have hy64:y.next.length<=64:=by rw[<-hyE];exact hce.2
   have hcon:=DX hyes
   rw[hxE,hyE]at hcon
   have hjl:(jL x y 256).length=256:=fI x y 256
   have hjm:=(gF x y).max
   have hnp:=IK x y
   have hxc:=hx.1.clen
   have hyc:=hy.1.clen
   have hxa:=hx.1.alen
   have hya:=hy.1.alen
   refine aO kr fun _ K11=>z29 ?_;refine z35 ?_;refine⟨d,rfl,hgd.1,dM ?_⟩
   first|refine aL ?_|(intro cap1 hcap1;refine aL ?_)
   refine z35 ?_;refine aI (lI (ag d)) (lJ (ag d) ⟨ag d,rfl,kS hgd,?_⟩);rw[vg]
   simp only[q8]
   refine dM ?_
   first|refine aL ?_|(intro cap2 hcap2;refine aL ?_)
   refine z35 ?_;refine⟨af (aT d),rfl,hcd.1,?_⟩;rw[hxE];refine dM ?_
   first|refine aL ?_|(intro cap3 hcap3;refine aL ?_)
   refine z29 ?_;refine Gx ?_;refine aJ K11 (aO kr fun _ K13=>z29 ?_);refine z35 ?_;refine⟨e,rfl,hge.1,dM ?_⟩
   first|refine aL ?_|(intro cap1 hcap1;refine aL ?_)
   refine z35 ?_;refine aI (lI (ag e)) (lJ (ag e) ⟨ag e,rfl,kS hge,?_⟩);rw[vg]
   simp only[q8]
   refine dM ?_
   first|refine aL ?_|(intro cap2 hcap2;refine aL ?_)
   refine z35 ?_;refine⟨af (aT e),rfl,hce.1,?_⟩;rw[hyE];refine dM ?_
   first|refine aL ?_|(intro cap3 hcap3;refine aL ?_)
   refine z29 ?_;refine Gx ?_;refine aJ K13 (aO kr fun _ K15=>z35 ?_);refine aU (jw x) (SV.as_refl _) (z35 ?_);refine aU (jw y) (SV.as_refl _) (z35 ?_);refine aI (lI x) (lJ x (aI (lI y) (lJ y ⟨x,y,rfl,⟨hx,hy⟩,?_⟩)));rw[Q4]
   simp only[q8]
   refine dM ?_
   first|refine aL ?_|(intro cap2 hcap2;refine aL ?_)
   iterate 4 refine z29 ?_
   refine Gx ?_;refine z29 ?_;refine aJ K15 (aO kr fun _ K17=>z29 ?_);refine z35 ?_;refine aU (.agg (.cells (rt (jL x y 256) .nils .nils))) (bq (congrArg (fun l=>SV.agg (aB.cells l)) (XZ hjl))) (z29 ?_);refine Gx ?_;refine aJ K17 (fQ [1,2,3] (fun i=>if i=0 then 0 else 4) [(4,.c (.ptr 0 0)),(6,.c (.dp (eT x) 0)),(7,.c (.dp (eT y) 0)),(9,.c (.ds (aA (cN x) (cN y)).length (.ints .i64 (aG (aA (cN x) (cN y)))))),(10,.c (.ptr 1 0))] [(0,.own 30 (.cells [.nils,.nils,.nils]) 3),(1,.own 74 (.cells (rt (jL x y 256) .nils .nils)) 258)] 2 [0,4] bN bN bN bN (aO kr fun _ K19=>z35 ?_));refine aU (jw x) (SV.as_refl _) (z35 ?_);refine aI (lI x) (lJ x ⟨x,0,rfl,⟨hx.1,hx.1.npos⟩,dM ?_⟩)
   first|refine aL ?_|(intro cap1 hcap1;refine aL ?_)
   refine z35 ?_;refine aU (uq (aX x)) (bq (by rw[<-DF];rfl)) ?_
   iterate 2 refine z29 ?_
   refine aJ K19 (aH fun _ K20=>aO kr fun _ K22=>z29 ?_);refine aJ K22 (bO (z30 1 256 44 (.cells []) rfl (Q9 hjl) rfl low_nil' ?_));rw[Ca hjl rfl];refine z30 1 257 4 (.bools []) rfl (UT hjl) rfl trivial ?_;rw[Gv hjl rfl];refine fM (α:=Nat×Nat×Nat×Nat) (fun s=>[(4,.c (.ptr 0 0)),(6,.c (.dp (eT x) 0)),(7,.c (.dp (eT y) 0)),(9,.c (.ds (aA (cN x) (cN y)).length (.ints .i64 (aG (aA (cN x) (cN y)))))),(10,.c (.ptr 1 0)),(11,.c (.slice 2 0 (aR (aC (aV x y) (aA (cN x) (cN y))) (aA (cN x) (cN y)).length (aX x) (s.1*(aA (cN x) (cN y)).length)).length s.2.1)),(12,.c (.int .i64 (s.1:Nat)))]) (fun s=>[(0,.own 30 (.cells [.nils,.nils,.nils]) 3),(1,.own 74 (.cells (rt (jL x y 256) (.slice 3 0 s.1 s.2.2.1) (.slice 4 0 s.1 s.2.2.2))) 258),(2,.own 80 (.cells (iA fE (aR (aC (aV x y) (aA (cN x) (cN y))) (aA (cN x) (cN y)).length (aX x) (s.1*(aA (cN x) (cN y)).length)))) (s.2.1*2)),(3,.own 44 (.cells (aS (bP (aC (aV x y) (aA (cN x) (cN y))) (aA (cN x) (cN y)).length (aX x) s.1))) s.2.2.1),(4,.own 4 (.bools (dZ (aC (aV x y) (aA (cN x) (cN y))) (aA (cN x) (cN y)).length (aX x) (d9 y) s.1)) s.2.2.2)]) 5 (fun s=>s.1<=4096/\(∀ j,j< s.1->j< (aR (aC (aV x y) (aA (cN x) (cN y))) (aA (cN x) (cN y)).length (aX x) (j*(aA (cN x) (cN y)).length)).length)/\s.1<=(aR (aC (aV x y) (aA (cN x) (cN y))) (aA (cN x) (cN y)).length (aX x) (s.1*(aA (cN x) (cN y)).length)).length/\(aR (aC (aV x y) (aA (cN x) (cN y))) (aA (cN x) (cN y)).length (aX x) (s.1*(aA (cN x) (cN y)).length)).length<=s.2.1/\(aR (aC (aV x y) (aA (cN x) (cN y))) (aA (cN x) (cN y)).length (aX x) (s.1*(aA (cN x) (cN y)).length)).length<=4096/\s.1<=s.2.2.1/\s.1<=s.2.2.2) (fun s=>4096 - s.1) ?_ ?_
   ·have hz:(aR (aC (aV x y) (aA (cN x) (cN y))) (aA (cN x) (cN y)).length (aX x) (0*(aA (cN x) (cN y)).length))=[aX x]:=by rw[Nat.zero_mul];rfl
    have hL0:1=(aR (aC (aV x y) (aA (cN x) (cN y))) (aA (cN x) (cN y)).length (aX x) (0*(aA (cN x) (cN y)).length)).length:=by rw[hz];rfl
    have hX3:([]:List Bool)=(dZ (aC (aV x y) (aA (cN x) (cN y))) (aA (cN x) (cN y)).length (aX x) (d9 y) 0):=by unfold dZ;rfl
    have hXR:aS (bP (aC (aV x y) (aA (cN x) (cN y))) (aA (cN x) (cN y)).length (aX x) 0)=[]:=by unfold bP;rfl
    have hXS:[]++fE (aX x)=iA fE (aR (aC (aV x y) (aA (cN x) (cN y))) (aA (cN x) (cN y)).length (aX x) (0*(aA (cN x) (cN y)).length)):=by rw[hz];rfl
    refine ai [] id (0,1,0,0) ⟨Nat.zero_le _,fun j hj=>absurd hj (Nat.not_lt_zero j),Nat.zero_le _,by rw[hz];exact Nat.le_refl _,by rw[hz];show 1<=4096;decide,Nat.le_refl _,Nat.le_refl _⟩ [0,1,2,3,4] ?_ ?_ ?_ ?_
    ·exact bN
    ·exact bN
    ·exact bN
    ·exact bN
   ·intro s hs
    obtain⟨hs1,ha,hs3,hs4,hs5,hs6,hs7⟩:=hs;refine aH fun _ K23=>aO kr fun _ K25=>?_
    iterate 4 refine z29 ?_
    refine aJ K25 (bC (b:=_) rfl (fun h_t50=>?_) (fun h_t50=>?_))
    ·try simp only[dQ,reduceIte]at h_t50
     refine bK (K23 _ _ _ (aH fun _ K26=>bO ?_))
     have hi:s.1< (aR (aC (aV x y) (aA (cN x) (cN y))) (aA (cN x) (cN y)).length (aX x) (s.1*(aA (cN x) (cN y)).length)).length:=by omega
     have hge9:=uY (f:=(aC (aV x y) (aA (cN x) (cN y)))) (b0:=(aX x)) (p:=s.1*(aA (cN x) (cN y)).length) hi (Nat.le_refl _)
     have ha2:∀ j,j<=s.1->j< (aR (aC (aV x y) (aA (cN x) (cN y))) (aA (cN x) (cN y)).length (aX x) (j*(aA (cN x) (cN y)).length)).length:=fun j hj=>by
      rcases Nat.lt_or_ge j s.1 with h1|h1
      ·exact ha j h1
      ·obtain rfl:j=s.1:=by omega
       exact hi
     have hII:∀ k,k<=(aA (cN x) (cN y)).length->∀ a∈(aR (aC (aV x y) (aA (cN x) (cN y))) (aA (cN x) (cN y)).length (aX x) (s.1*(aA (cN x) (cN y)).length+k)),nE x a:=fun k hk=>QD (xR hx.1) (fun s b hs hb=>UN hx hs hb) (fun b hb=>(gF x y).byte b hb) hnp (UH hnp ha2 hk)
     have hIs:nE x (dn (aC (aV x y) (aA (cN x) (cN y))) (aA (cN x) (cN y)).length (aX x) s.1):=hII 0 (Nat.zero_le _) _ (List.mem_of_getElem? hge9)
     refine aO kr fun _ K28=>?_
     iterate 2 refine z29 ?_
     refine aJ K28 (aH fun _ K29=>aO kr fun _ K31=>z29 ?_);refine aJ K31 (bO (fM (α:=Nat×Nat×Nat) (fun k=>[(4,.c (.ptr 0 0)),(6,.c (.dp (eT x) 0)),(7,.c (.dp (eT y) 0)),(9,.c (.ds (aA (cN x) (cN y)).length (.ints .i64 (aG (aA (cN x) (cN y)))))),(10,.c (.ptr 1 0)),(11,.c (.slice 2 0 (aR (aC (aV x y) (aA (cN x) (cN y))) (aA (cN x) (cN y)).length (aX x) (s.1*(aA (cN x) (cN y)).length+k.1)).length k.2.1)),(12,.c (.int .i64 (s.1:Nat))),(13,.c (.slice 5 0 k.1 k.2.2)),(14,.c (.int .i64 (k.1:Nat)))]) (fun k=>[(0,.own 30 (.cells [.nils,.nils,.nils]) 3),(1,.own 74 (.cells (rt (jL x y 256) (.slice 3 0 s.1 s.2.2.1) (.slice 4 0 s.1 s.2.2.2))) 258),(2,.own 80 (.cells (iA fE (aR (aC (aV x y) (aA (cN x) (cN y))) (aA (cN x) (cN y)).length (aX x) (s.1*(aA (cN x) (cN y)).length+k.1)))) (k.2.1*2)),(3,.own 44 (.cells (aS (bP (aC (aV x y) (aA (cN x) (cN y))) (aA (cN x) (cN y)).length (aX x) s.1))) s.2.2.1),(4,.own 4 (.bools (dZ (aC (aV x y) (aA (cN x) (cN y))) (aA (cN x) (cN y)).length (aX x) (d9 y) s.1)) s.2.2.2),(5,.own 3 (.ints .i64 ((dL (aC (aV x y) (aA (cN x) (cN y))) (aA (cN x) (cN y)).length (aX x) s.1 (aA (cN x) (cN y)).length).take k.1)) k.2.2)]) 6 (fun k=>k.1<=(aA (cN x) (cN y)).length/\(aR (aC (aV x y) (aA (cN x) (cN y))) (aA (cN x) (cN y)).length (aX x) (s.1*(aA (cN x) (cN y)).length+k.1)).length<=k.2.1/\k.1<=k.2.2) (fun k=>(aA (cN x) (cN y)).length - k.1) ?_ ?_))
     ·have hX1:([]:List Int)=((dL (aC (aV x y) (aA (cN x) (cN y))) (aA (cN x) (cN y)).length (aX x) s.1 (aA (cN x) (cN y)).length).take 0):=zym
      refine ai [] id (0,s.2.1,0) ⟨Nat.zero_le _,hs4,Nat.le_refl _⟩ [0,1,2,3,4,5] bN bN bN bN
     ·intro k hk0
      obtain⟨hk1,hk2,hk3⟩:=hk0
      have hrtl:=zyn (f:=(aC (aV x y) (aA (cN x) (cN y)))) (b0:=(aX x)) (s:=s.1) hk1
      have hol:(aR (aC (aV x y) (aA (cN x) (cN y))) (aA (cN x) (cN y)).length (aX x) (s.1*(aA (cN x) (cN y)).length+k.1)).length<=4096+(aA (cN x) (cN y)).length:=by
       have:=Wd (f:=(aC (aV x y) (aA (cN x) (cN y)))) (nc:=(aA (cN x) (cN y)).length) (b0:=(aX x)) (p:=s.1*(aA (cN x) (cN y)).length) (q:=k.1)
       omega
      refine aH fun _ K32=>aO kr fun _ K34=>?_
      iterate 4 refine z29 ?_
      refine aJ K34 (bC (b:=_) rfl (fun h_t57=>?_) (fun h_t57=>?_))
      ·try simp only[dQ,reduceIte]at h_t57
       refine bK (K32 _ _ _ (aH fun _ K35=>bO ?_))
       have hkl:k.1< (aA (cN x) (cN y)).length:=by omega
       have hil:s.1< (aR (aC (aV x y) (aA (cN x) (cN y))) (aA (cN x) (cN y)).length (aX x) (s.1*(aA (cN x) (cN y)).length+k.1)).length:=Nat.lt_of_lt_of_le hi (pR (Nat.le_add_right _ _))
       have hgk:=uY (f:=(aC (aV x y) (aA (cN x) (cN y)))) (b0:=(aX x)) (p:=s.1*(aA (cN x) (cN y)).length+k.1) hi (Nat.le_add_right _ _)
       have hbk:((aA (cN x) (cN y)).getD k.1 0)< 256:=(gF x y).byte _ (getD_mem' hkl)
       have hca:=(av hx.1 hbk).1
       have hca:cN x ((aA (cN x) (cN y)).getD k.1 0)< x.nc:=hca
       have hnx:=bz hx.1 hIs.1 hca
       have hnx2:(x.next.getD (dn (aC (aV x y) (aA (cN x) (cN y))) (aA (cN x) (cN y)).length (aX x) s.1).1 []).getD (cN x ((aA (cN x) (cN y)).getD k.1 0)) 0=((((aD x).δ (dn (aC (aV x y) (aA (cN x) (cN y))) (aA (cN x) (cN y)).length (aX x) s.1).1 (cN x ((aA (cN x) (cN y)).getD k.1 0))):Nat):Int):=hnx.2
       have hrl:=oz hx.1 hIs.1
       have hI1:(dn (aC (aV x y) (aA (cN x) (cN y))) (aA (cN x) (cN y)).length (aX x) s.1).1< x.next.length:=hIs.1
       have hD1:((aD x).δ (dn (aC (aV x y) (aA (cN x) (cN y))) (aA (cN x) (cN y)).length (aX x) s.1).1 (cN x ((aA (cN x) (cN y)).getD k.1 0)))< x.next.length:=hnx.1
       have hXT:((aC (aV x y) (aA (cN x) (cN y))) (dn (aC (aV x y) (aA (cN x) (cN y))) (aA (cN x) (cN y)).length (aX x) s.1) k.1)=lS x (((aD x).δ (dn (aC (aV x y) (aA (cN x) (cN y))) (aA (cN x) (cN y)).length (aX x) s.1).1 (cN x ((aA (cN x) (cN y)).getD k.1 0))),0,iO y (dn (aC (aV x y) (aA (cN x) (cN y))) (aA (cN x) (cN y)).length (aX x) s.1).2.2 ((aA (cN x) (cN y)).getD k.1 0)):=by unfold aV;rfl
       have hIy:nE x ((aC (aV x y) (aA (cN x) (cN y))) (dn (aC (aV x y) (aA (cN x) (cN y))) (aA (cN x) (cN y)).length (aX x) s.1) k.1):=UN hx hIs hbk
       have hoy:=Yr hx hIy
       refine qB kr aN fun _ K37=>M3 ?_;refine NN ?_;refine aU (.c (.ds x.next.length (.cells (aS x.next)))) (ak (iC hxc)) ?_
       iterate 4 refine M3 ?_
       refine NN ?_;refine aU (.c (.int .i64 (((dn (aC (aV x y) (aA (cN x) (cN y))) (aA (cN x) (cN y)).length (aX x) s.1).1:Nat):Int))) (NB jh (fun _ _=>trivial) (j:=0) (by omega) (by decide) hgk rfl) (M3 ?_);refine NN ?_;refine aU (.c (.ds (x.next.getD (dn (aC (aV x y) (aA (cN x) (cN y))) (aA (cN x) (cN y)).length (aX x) s.1).1 []).length (.ints .i64 (x.next.getD (dn (aC (aV x y) (aA (cN x) (cN y))) (aA (cN x) (cN y)).length (aX x) s.1).1 [])))) (ak (oh ⟨hIs.1,by omega⟩)) ?_
       iterate 3 refine M3 ?_
       refine NN ?_;refine aU (.c (.int .i64 (((((aA (cN x) (cN y)).getD k.1 0):Nat):Int)))) (az ((congrArg (fun i=>(aG (aA (cN x) (cN y))).getD i 0) (by omega)).trans jd)) ?_
       iterate 2 refine M3 ?_
       refine NN ?_;refine aU (.c (.int .i64 ((cN x ((aA (cN x) (cN y)).getD k.1 0):Nat):Int))) (ak ((z52 hx.1.clen (by first|omega|(simp;done)) hbk).trans (congrArg (Cell.int IntKind.i64) (av hx.1 hbk).2))) (M3 ?_);refine NN ?_;refine aU (.c (.int .i64 (((((aD x).δ (dn (aC (aV x y) (aA (cN x) (cN y))) (aA (cN x) (cN y)).length (aX x) s.1).1 (cN x ((aA (cN x) (cN y)).getD k.1 0))):Nat):Int)))) (az ((congrArg (fun i=>(x.next.getD (dn (aC (aV x y) (aA (cN x) (cN y))) (aA (cN x) (cN y)).length (aX x) s.1).1 []).getD i 0) (by omega)).trans hnx2)) (M3 ?_);refine nG K37 (qf (α:=Unit) (fun u=>[(4,.c (.ptr 0 0)),(6,.c (.dp (eT x) 0)),(7,.c (.dp (eT y) 0)),(9,.c (.ds (aA (cN x) (cN y)).length (.ints .i64 (aG (aA (cN x) (cN y)))))),(10,.c (.ptr 1 0)),(11,.c (.slice 2 0 (aR (aC (aV x y) (aA (cN x) (cN y))) (aA (cN x) (cN y)).length (aX x) (s.1*(aA (cN x) (cN y)).length+k.1)).length k.2.1)),(12,.c (.int .i64 (s.1:Nat))),(13,.c (.slice 5 0 k.1 k.2.2)),(14,.c (.int .i64 (k.1:Nat))),(16,.c (.ptr 6 0))]) (fun u=>[(0,.own 30 (.cells [.nils,.nils,.nils]) 3),(1,.own 74 (.cells (rt (jL x y 256) (.slice 3 0 s.1 s.2.2.1) (.slice 4 0 s.1 s.2.2.2))) 258),(2,.own 80 (.cells (iA fE (aR (aC (aV x y) (aA (cN x) (cN y))) (aA (cN x) (cN y)).length (aX x) (s.1*(aA (cN x) (cN y)).length+k.1)))) (k.2.1*2)),(3,.own 44 (.cells (aS (bP (aC (aV x y) (aA (cN x) (cN y))) (aA (cN x) (cN y)).length (aX x) s.1))) s.2.2.1),(4,.own 4 (.bools (dZ (aC (aV x y) (aA (cN x) (cN y))) (aA (cN x) (cN y)).length (aX x) (d9 y) s.1)) s.2.2.2),(5,.own 3 (.ints .i64 ((dL (aC (aV x y) (aA (cN x) (cN y))) (aA (cN x) (cN y)).length (aX x) s.1 (aA (cN x) (cN y)).length).take k.1)) k.2.2),(6,.own 80 (.cells (fE ((aC (aV x y) (aA (cN x) (cN y))) (dn (aC (aV x y) (aA (cN x) (cN y))) (aA (cN x) (cN y)).length (aX x) s.1) k.1))) 2)]) 7 (fun u=>True) ?_ ?_)
       ·refine QT kr (lK kr (g:=6) aN [(0,true),(1,true),(2,true),(3,true),(4,true),(5,true),(6,true),(7,true),(8,true),(9,true),(10,true),(12,true),(13,true)] aN fun _ K39=>Cf ?_);refine CV ?_;refine aU (jw y) (SV.as_refl _) ?_
        iterate 4 refine Cf ?_
        refine CV ?_;refine aU (.c (.u64 (dn (aC (aV x y) (aA (cN x) (cN y))) (aA (cN x) (cN y)).length (aX x) s.1).2.2)) (NB jh (fun _ _=>trivial) (j:=1) (by omega) (by decide) hgk rfl) ?_
        iterate 3 refine Cf ?_
        refine CV ?_;refine aU (.c (.int .i64 (((((aA (cN x) (cN y)).getD k.1 0):Nat):Int)))) (az ((congrArg (fun i=>(aG (aA (cN x) (cN y))).getD i 0) (by omega)).trans jd)) (CV ?_);refine aU (jw x) (SV.as_refl _) (Cf ?_);refine iF K39 (ji [11,17] aN (by decide) (List.forall_mem_cons.2 ⟨?_,List.forall_mem_cons.2 ⟨?_,fun _ h=>by cases h⟩⟩))
        ·refine dY kr ?_
         refine dM ?_;refine aI (lI y) (lJ y ⟨y,(dn (aC (aV x y) (aA (cN x) (cN y))) (aA (cN x) (cN y)).length (aX x) s.1).2.2,((aA (cN x) (cN y)).getD k.1 0),rfl,⟨hy.1,hy64,hbk⟩,dM ?_⟩)
         first|refine aL ?_|(intro cap11 hcap11;refine aL ?_)
         refine ji [14,17] aN (by decide) (List.forall_mem_cons.2 ⟨?_,List.forall_mem_cons.2 ⟨?_,fun _ h=>by cases h⟩⟩)
         ·refine dY kr ?_
          refine dM ?_;refine aI (lI x) (lJ x ⟨x,((aD x).δ (dn (aC (aV x y) (aA (cN x) (cN y))) (aA (cN x) (cN y)).length (aX x) s.1).1 (cN x ((aA (cN x) (cN y)).getD k.1 0))),rfl,⟨hx.1,hnx.1⟩,dM ?_⟩)
          first|refine aL ?_|(intro cap14 hcap14;refine aL ?_)
          refine lK kr (g:=0) aN [(15,true),(16,true),(17,false),(18,false)] aN fun _ K40=>Cf ?_;refine CV ?_;refine aU (uq ((aC (aV x y) (aA (cN x) (cN y))) (dn (aC (aV x y) (aA (cN x) (cN y))) (aA (cN x) (cN y)).length (aX x) s.1) k.1)) (bq (by rw[hXT, <-UU];rfl)) (yP ?_);refine Tw ?_;refine iF K40 (z24 aN (ai [] id () trivial [0,1,2,3,4,5,6] bN bN bN bN))
         ·refine dY kr ?_
          refine dM ?_;refine aL (lK kr (g:=0) aN [(14,false),(15,true),(16,true),(18,false)] aN fun _ K41=>Pq ?_);refine aI (lI x) (lJ x ⟨x,((aD x).δ (dn (aC (aV x y) (aA (cN x) (cN y))) (aA (cN x) (cN y)).length (aX x) s.1).1 (cN x ((aA (cN x) (cN y)).getD k.1 0))),rfl,⟨hx.1,hnx.1⟩,dM ?_⟩)
          first|refine aL ?_|(intro cap14 hcap14;refine aL ?_)
          refine Cf ?_;refine CV ?_;refine aU (uq ((aC (aV x y) (aA (cN x) (cN y))) (dn (aC (aV x y) (aA (cN x) (cN y))) (aA (cN x) (cN y)).length (aX x) s.1) k.1)) (bq (by rw[hXT, <-UU];rfl)) (Tw ?_);refine iF K41 (z24 aN (ai [] id () trivial [0,1,2,3,4,5,6] bN bN bN bN))
        ·refine dY kr ?_
         refine dM ?_;refine aL (lK kr (g:=0) aN [(11,false),(14,false),(15,true),(16,true),(18,false)] aN fun _ K42=>Pq ?_);refine aI (lI y) (lJ y ⟨y,(dn (aC (aV x y) (aA (cN x) (cN y))) (aA (cN x) (cN y)).length (aX x) s.1).2.2,((aA (cN x) (cN y)).getD k.1 0),rfl,⟨hy.1,hy64,hbk⟩,dM ?_⟩)
         first|refine aL ?_|(intro cap11 hcap11;refine aL ?_)
         refine Pq ?_;refine aI (lI x) (lJ x ⟨x,((aD x).δ (dn (aC (aV x y) (aA (cN x) (cN y))) (aA (cN x) (cN y)).length (aX x) s.1).1 (cN x ((aA (cN x) (cN y)).getD k.1 0))),rfl,⟨hx.1,hnx.1⟩,dM ?_⟩)
         first|refine aL ?_|(intro cap14 hcap14;refine aL ?_)
         refine Cf ?_;refine CV ?_;refine aU (uq ((aC (aV x y) (aA (cN x) (cN y))) (dn (aC (aV x y) (aA (cN x) (cN y))) (aA (cN x) (cN y)).length (aX x) s.1) k.1)) (bq (by rw[hXT, <-UU];rfl)) (Tw ?_);refine iF K42 (z24 aN (ai [] id () trivial [0,1,2,3,4,5,6] bN bN bN bN))
       ·intro u hu
        clear hu
        have hkl:k.1< (aA (cN x) (cN y)).length:=by omega
        have hil:s.1< (aR (aC (aV x y) (aA (cN x) (cN y))) (aA (cN x) (cN y)).length (aX x) (s.1*(aA (cN x) (cN y)).length+k.1)).length:=Nat.lt_of_lt_of_le hi (pR (Nat.le_add_right _ _))
        have hgk:=uY (f:=(aC (aV x y) (aA (cN x) (cN y)))) (b0:=(aX x)) (p:=s.1*(aA (cN x) (cN y)).length+k.1) hi (Nat.le_add_right _ _)
        have hbk:((aA (cN x) (cN y)).getD k.1 0)< 256:=(gF x y).byte _ (getD_mem' hkl)
        have hca:=(av hx.1 hbk).1
        have hca:cN x ((aA (cN x) (cN y)).getD k.1 0)< x.nc:=hca
        have hnx:=bz hx.1 hIs.1 hca
        have hnx2:(x.next.getD (dn (aC (aV x y) (aA (cN x) (cN y))) (aA (cN x) (cN y)).length (aX x) s.1).1 []).getD (cN x ((aA (cN x) (cN y)).getD k.1 0)) 0=((((aD x).δ (dn (aC (aV x y) (aA (cN x) (cN y))) (aA (cN x) (cN y)).length (aX x) s.1).1 (cN x ((aA (cN x) (cN y)).getD k.1 0))):Nat):Int):=hnx.2
        have hrl:=oz hx.1 hIs.1
        have hI1:(dn (aC (aV x y) (aA (cN x) (cN y))) (aA (cN x) (cN y)).length (aX x) s.1).1< x.next.length:=hIs.1
        have hD1:((aD x).δ (dn (aC (aV x y) (aA (cN x) (cN y))) (aA (cN x) (cN y)).length (aX x) s.1).1 (cN x ((aA (cN x) (cN y)).getD k.1 0)))< x.next.length:=hnx.1
        have hXT:((aC (aV x y) (aA (cN x) (cN y))) (dn (aC (aV x y) (aA (cN x) (cN y))) (aA (cN x) (cN y)).length (aX x) s.1) k.1)=lS x (((aD x).δ (dn (aC (aV x y) (aA (cN x) (cN y))) (aA (cN x) (cN y)).length (aX x) s.1).1 (cN x ((aA (cN x) (cN y)).getD k.1 0))),0,iO y (dn (aC (aV x y) (aA (cN x) (cN y))) (aA (cN x) (cN y)).length (aX x) s.1).2.2 ((aA (cN x) (cN y)).getD k.1 0)):=by unfold aV;rfl
        have hIy:nE x ((aC (aV x y) (aA (cN x) (cN y))) (dn (aC (aV x y) (aA (cN x) (cN y))) (aA (cN x) (cN y)).length (aX x) s.1) k.1):=UN hx hIs hbk
        have hoy:=Yr hx hIy
        refine aO kr fun _ K44=>z29 ?_;refine z35 ?_;refine aU (uq ((aC (aV x y) (aA (cN x) (cN y))) (dn (aC (aV x y) (aA (cN x) (cN y))) (aA (cN x) (cN y)).length (aX x) s.1) k.1)) (SV.as_refl _) (z35 ?_);refine zlb (jh.dat _) ⟨(aR (aC (aV x y) (aA (cN x) (cN y))) (aA (cN x) (cN y)).length (aX x) (s.1*(aA (cN x) (cN y)).length+k.1)),((aC (aV x y) (aA (cN x) (cN y))) (dn (aC (aV x y) (aA (cN x) (cN y))) (aA (cN x) (cN y)).length (aX x) s.1) k.1),rfl,⟨by omega,fun z hz=>Yr hx (hII k.1 (by omega) z hz),hoy⟩,dM ?_⟩
        first|refine aL ?_|(intro cap2 hcap2;refine aL ?_)
        refine z29 ?_;refine aJ K44 (qf (α:=Nat) (fun z=>[(4,.c (.ptr 0 0)),(6,.c (.dp (eT x) 0)),(7,.c (.dp (eT y) 0)),(9,.c (.ds (aA (cN x) (cN y)).length (.ints .i64 (aG (aA (cN x) (cN y)))))),(10,.c (.ptr 1 0)),(11,.c (.slice 2 0 (aR (aC (aV x y) (aA (cN x) (cN y))) (aA (cN x) (cN y)).length (aX x) (s.1*(aA (cN x) (cN y)).length+(k.1+1))).length z)),(12,.c (.int .i64 (s.1:Nat))),(13,.c (.slice 5 0 k.1 k.2.2)),(14,.c (.int .i64 (k.1:Nat))),(17,.c (.int .i64 ((kN (aC (aV x y) (aA (cN x) (cN y))) (aA (cN x) (cN y)).length (aX x) s.1 k.1):Nat)))]) (fun z=>[(0,.own 30 (.cells [.nils,.nils,.nils]) 3),(1,.own 74 (.cells (rt (jL x y 256) (.slice 3 0 s.1 s.2.2.1) (.slice 4 0 s.1 s.2.2.2))) 258),(2,.own 80 (.cells (iA fE (aR (aC (aV x y) (aA (cN x) (cN y))) (aA (cN x) (cN y)).length (aX x) (s.1*(aA (cN x) (cN y)).length+(k.1+1))))) (z*2)),(3,.own 44 (.cells (aS (bP (aC (aV x y) (aA (cN x) (cN y))) (aA (cN x) (cN y)).length (aX x) s.1))) s.2.2.1),(4,.own 4 (.bools (dZ (aC (aV x y) (aA (cN x) (cN y))) (aA (cN x) (cN y)).length (aX x) (d9 y) s.1)) s.2.2.2),(5,.own 3 (.ints .i64 ((dL (aC (aV x y) (aA (cN x) (cN y))) (aA (cN x) (cN y)).length (aX x) s.1 (aA (cN x) (cN y)).length).take k.1)) k.2.2)]) 6 (fun z=>(aR (aC (aV x y) (aA (cN x) (cN y))) (aA (cN x) (cN y)).length (aX x) (s.1*(aA (cN x) (cN y)).length+(k.1+1))).length<=z) ?_ ?_)
        ·refine aO kr fun _ K46=>?_
         iterate 4 refine z29 ?_
         refine aJ K46 (bC (b:=_) rfl (fun h_t101=>?_) (fun h_t101=>?_))
         ·try simp only[dQ,reduceIte]at h_t101
          refine bB kr fun _ K47=>z29 ?_;refine z35 ?_;refine aU (uq ((aC (aV x y) (aA (cN x) (cN y))) (dn (aC (aV x y) (aA (cN x) (cN y))) (aA (cN x) (cN y)).length (aX x) s.1) k.1)) (SV.as_refl _) (z29 ?_);refine z35 ?_;intro cap3 hcap3;refine aL (z29 ?_);refine aJ K47 ?_
          have hnin:¬ ((aC (aV x y) (aA (cN x) (cN y))) (dn (aC (aV x y) (aA (cN x) (cN y))) (aA (cN x) (cN y)).length (aX x) s.1) k.1)∈(aR (aC (aV x y) (aA (cN x) (cN y))) (aA (cN x) (cN y)).length (aX x) (s.1*(aA (cN x) (cN y)).length+k.1)):=fun hm=>by have:=Pz hm;omega
          obtain⟨hst,hnq⟩:=TA hi hkl hnin
          have hst:(aR (aC (aV x y) (aA (cN x) (cN y))) (aA (cN x) (cN y)).length (aX x) (s.1*(aA (cN x) (cN y)).length+(k.1+1)))=(aR (aC (aV x y) (aA (cN x) (cN y))) (aA (cN x) (cN y)).length (aX x) (s.1*(aA (cN x) (cN y)).length+k.1))++[((aC (aV x y) (aA (cN x) (cN y))) (dn (aC (aV x y) (aA (cN x) (cN y))) (aA (cN x) (cN y)).length (aX x) s.1) k.1)]:=hst
          have hL0:(aR (aC (aV x y) (aA (cN x) (cN y))) (aA (cN x) (cN y)).length (aX x) (s.1*(aA (cN x) (cN y)).length+k.1)).length+1=(aR (aC (aV x y) (aA (cN x) (cN y))) (aA (cN x) (cN y)).length (aX x) (s.1*(aA (cN x) (cN y)).length+(k.1+1))).length:=by rw[hst,List.length_append];rfl
          have hnq2:jq (aR (aC (aV x y) (aA (cN x) (cN y))) (aA (cN x) (cN y)).length (aX x) (s.1*(aA (cN x) (cN y)).length+k.1)) ((aC (aV x y) (aA (cN x) (cN y))) (dn (aC (aV x y) (aA (cN x) (cN y))) (aA (cN x) (cN y)).length (aX x) s.1) k.1)=(kN (aC (aV x y) (aA (cN x) (cN y))) (aA (cN x) (cN y)).length (aX x) s.1 k.1):=by rw[hnq];omega
          rw[hnq2]
          have hXS:iA fE (aR (aC (aV x y) (aA (cN x) (cN y))) (aA (cN x) (cN y)).length (aX x) (s.1*(aA (cN x) (cN y)).length+k.1))++fE ((aC (aV x y) (aA (cN x) (cN y))) (dn (aC (aV x y) (aA (cN x) (cN y))) (aA (cN x) (cN y)).length (aX x) s.1) k.1)=iA fE (aR (aC (aV x y) (aA (cN x) (cN y))) (aA (cN x) (cN y)).length (aX x) (s.1*(aA (cN x) (cN y)).length+(k.1+1))):=by rw[hst,X9]
          refine ai [] (fun i=>if i=2 then 8 else i) cap3 (by omega) [0,1,8,3,4,5] bN bN bN bN
         ·try simp only[dQ,reduceIte]at h_t101
          refine bK ?_
          have hin1:((aC (aV x y) (aA (cN x) (cN y))) (dn (aC (aV x y) (aA (cN x) (cN y))) (aA (cN x) (cN y)).length (aX x) s.1) k.1)∈(aR (aC (aV x y) (aA (cN x) (cN y))) (aA (cN x) (cN y)).length (aX x) (s.1*(aA (cN x) (cN y)).length+k.1)):=by
           rcases Decidable.em (((aC (aV x y) (aA (cN x) (cN y))) (dn (aC (aV x y) (aA (cN x) (cN y))) (aA (cN x) (cN y)).length (aX x) s.1) k.1)∈(aR (aC (aV x y) (aA (cN x) (cN y))) (aA (cN x) (cN y)).length (aX x) (s.1*(aA (cN x) (cN y)).length+k.1)))with hm|hm
           ·exact hm
           ·exact absurd (Yq hm) (by omega)
          obtain⟨hst,hnq⟩:=ZC hi hkl hin1;rw[<-hnq]
          have hst:(aR (aC (aV x y) (aA (cN x) (cN y))) (aA (cN x) (cN y)).length (aX x) (s.1*(aA (cN x) (cN y)).length+(k.1+1)))=(aR (aC (aV x y) (aA (cN x) (cN y))) (aA (cN x) (cN y)).length (aX x) (s.1*(aA (cN x) (cN y)).length+k.1)):=hst
          rw[<-hst];refine ai [] id k.2.1 (by rw[hst];exact hk2) [0,1,2,3,4,5] ?_ ?_ ?_ ?_
          ·exact bN
          ·exact bN
          ·exact bN
          ·exact bN
        ·intro z hz1;refine bB kr fun _ K48=>?_
         iterate 3 refine z29 ?_
         refine z35 ?_;intro cap3 hcap3;refine aL (z29 ?_);refine aJ K48 (dD (K35 _ _ _ (bB kr fun _ K49=>?_)))
         iterate 3 refine z29 ?_
         refine aJ K49 ?_
         have hX1:((dL (aC (aV x y) (aA (cN x) (cN y))) (aA (cN x) (cN y)).length (aX x) s.1 (aA (cN x) (cN y)).length).take k.1)++([]++[(((kN (aC (aV x y) (aA (cN x) (cN y))) (aA (cN x) (cN y)).length (aX x) s.1 k.1):Nat):Int)])=((dL (aC (aV x y) (aA (cN x) (cN y))) (aA (cN x) (cN y)).length (aX x) s.1 (aA (cN x) (cN y)).length).take (k.1+1)):=y5i hkl
         refine ai [] (fun i=>if i=5 then 7 else i) (k.1+1,z,cap3) ⟨⟨by show k.1+1<=_;omega,hz1,(by show k.1+1<=cap3;omega)⟩,by show _ - (k.1+1)< _;omega⟩ [0,1,2,3,4,7] ?_ ?_ ?_ ?_
         ·exact bN
         ·exact bN
         ·exact bN
         ·exact bN
      ·try simp only[dQ,reduceIte]at h_t57
       refine eY (bJ (bJ (eX (K29 _ _ _ (aH fun _ K50=>?_)))))
       have hke:k.1=(aA (cN x) (cN y)).length:=by omega
       have hpe:s.1*(aA (cN x) (cN y)).length+k.1=(s.1+1)*(aA (cN x) (cN y)).length:=by rw[hke,Nat.succ_mul]
       rw[hpe];rw[hpe]at hk2;rw[hke,zyo];refine fQ [5] id [(4,.c (.ptr 0 0)),(6,.c (.dp (eT x) 0)),(7,.c (.dp (eT y) 0)),(9,.c (.ds (aA (cN x) (cN y)).length (.ints .i64 (aG (aA (cN x) (cN y)))))),(10,.c (.ptr 1 0)),(11,.c (.slice 2 0 (aR (aC (aV x y) (aA (cN x) (cN y))) (aA (cN x) (cN y)).length (aX x) ((s.1+1)*(aA (cN x) (cN y)).length)).length k.2.1)),(12,.c (.int .i64 (s.1:Nat))),(13,.c (.ds (aA (cN x) (cN y)).length (.ints .i64 (dL (aC (aV x y) (aA (cN x) (cN y))) (aA (cN x) (cN y)).length (aX x) s.1 (aA (cN x) (cN y)).length))))] [(0,.own 30 (.cells [.nils,.nils,.nils]) 3),(1,.own 74 (.cells (rt (jL x y 256) (.slice 3 0 s.1 s.2.2.1) (.slice 4 0 s.1 s.2.2.2))) 258),(2,.own 80 (.cells (iA fE (aR (aC (aV x y) (aA (cN x) (cN y))) (aA (cN x) (cN y)).length (aX x) ((s.1+1)*(aA (cN x) (cN y)).length)))) (k.2.1*2)),(3,.own 44 (.cells (aS (bP (aC (aV x y) (aA (cN x) (cN y))) (aA (cN x) (cN y)).length (aX x) s.1))) s.2.2.1),(4,.own 4 (.bools (dZ (aC (aV x y) (aA (cN x) (cN y))) (aA (cN x) (cN y)).length (aX x) (d9 y) s.1)) s.2.2.2)] 5 [0,1,2,3,4] bN bN bN bN (aO kr fun _ K52=>?_)
       iterate 3 refine z29 ?_
       refine aJ K52 (bC (b:=_) rfl (fun h_t112=>?_) (fun h_t112=>?_))
       ·try simp only[dQ,reduceIte]at h_t112
        refine aO kr fun _ K54=>z29 ?_;refine Gx ?_;refine z29 ?_;refine aJ K54 ?_;rw[hcon,if_pos (xE ha2 (by omega))];refine bQ (gT kr (fun _ _ h=>h) (ib _) [] [.cell 4 30,.tmp 5] rfl ?_)
        repeat first|refine aI (by first|exact trivial|rfl|exact⟨rfl,rfl⟩|decide) ?_|refine bW (by first|rfl|decide) ?_|refine dC (by first|rfl|decide) ?_
        all_goals exact bN
       ·try simp only[dQ,reduceIte]at h_t112
        refine bK (K50 _ _ _ (aO kr fun _ K56=>z29 ?_));refine z35 ?_;refine aU (.c (.slice 3 0 s.1 s.2.2.1)) (ak (AX hjl)) ?_
        iterate 2 refine z29 ?_
        refine z35 ?_;intro cap4 hcap4;refine aL (z29 ?_);refine Gx ?_;refine aJ K56 ?_
        have hXR:aS (bP (aC (aV x y) (aA (cN x) (cN y))) (aA (cN x) (cN y)).length (aX x) s.1)++([]++[.ds (aA (cN x) (cN y)).length (.ints .i64 (dL (aC (aV x y) (aA (cN x) (cN y))) (aA (cN x) (cN y)).length (aX x) s.1 (aA (cN x) (cN y)).length))])=aS (bP (aC (aV x y) (aA (cN x) (cN y))) (aA (cN x) (cN y)).length (aX x) (s.1+1)):=by
         have:=Gg (bP (aC (aV x y) (aA (cN x) (cN y))) (aA (cN x) (cN y)).length (aX x) s.1) (dL (aC (aV x y) (aA (cN x) (cN y))) (aA (cN x) (cN y)).length (aX x) s.1 (aA (cN x) (cN y)).length)
         rw[Lc,XL]at this;exact this
        refine fQ [] (fun i=>if i=3 then 6 else i) [(4,.c (.ptr 0 0)),(6,.c (.dp (eT x) 0)),(7,.c (.dp (eT y) 0)),(9,.c (.ds (aA (cN x) (cN y)).length (.ints .i64 (aG (aA (cN x) (cN y)))))),(10,.c (.ptr 1 0)),(11,.c (.slice 2 0 (aR (aC (aV x y) (aA (cN x) (cN y))) (aA (cN x) (cN y)).length (aX x) ((s.1+1)*(aA (cN x) (cN y)).length)).length k.2.1)),(12,.c (.int .i64 (s.1:Nat)))] [(0,.own 30 (.cells [.nils,.nils,.nils]) 3),(1,.own 74 (.cells (rt (jL x y 256) (.slice 3 0 (s.1+1) cap4) (.slice 4 0 s.1 s.2.2.2))) 258),(2,.own 80 (.cells (iA fE (aR (aC (aV x y) (aA (cN x) (cN y))) (aA (cN x) (cN y)).length (aX x) ((s.1+1)*(aA (cN x) (cN y)).length)))) (k.2.1*2)),(3,.own 44 (.cells (aS (bP (aC (aV x y) (aA (cN x) (cN y))) (aA (cN x) (cN y)).length (aX x) (s.1+1)))) cap4),(4,.own 4 (.bools (dZ (aC (aV x y) (aA (cN x) (cN y))) (aA (cN x) (cN y)).length (aX x) (d9 y) s.1)) s.2.2.2)] 5 [0,1,2,6,4] bN bN bN bN ?_
        have hge2:=uY (f:=(aC (aV x y) (aA (cN x) (cN y)))) (b0:=(aX x)) (p:=(s.1+1)*(aA (cN x) (cN y)).length) hi (Nat.mul_le_mul_right _ (Nat.le_succ _))
        have hil2:s.1< (aR (aC (aV x y) (aA (cN x) (cN y))) (aA (cN x) (cN y)).length (aX x) ((s.1+1)*(aA (cN x) (cN y)).length)).length:=Nat.lt_of_lt_of_le hi (pR (Nat.mul_le_mul_right _ (Nat.le_succ _)))
        refine ry kr [(0,true),(1,true),(2,true),(3,true),(4,true),(5,true),(6,true),(7,true),(8,false),(9,false),(10,false),(11,true),(12,false)] rfl aN aN fun _ K57=>Cf ?_;refine CV ?_;refine aU (.c (.slice 4 0 s.1 s.2.2.2)) (ak (Fq hjl)) (CV ?_);refine aU (jw y) (SV.as_refl _) ?_
        iterate 4 refine Cf ?_
        refine CV ?_;refine aU (.c (.u64 (dn (aC (aV x y) (aA (cN x) (cN y))) (aA (cN x) (cN y)).length (aX x) s.1).2.2)) (NB jh (fun _ _=>trivial) (j:=1) (by omega) (by decide) hge2 rfl) (Pq ?_);refine aI (lI y) (lJ y ⟨y,(dn (aC (aV x y) (aA (cN x) (cN y))) (aA (cN x) (cN y)).length (aX x) s.1).2.2,rfl,⟨hy.1,hy64⟩,dM ?_⟩)
        first|refine aU (.c (.bool (d9 y (dn (aC (aV x y) (aA (cN x) (cN y))) (aA (cN x) (cN y)).length (aX x) s.1)))) (dN (by unfold d9;rfl)) ?_|(intro cap8 hcap8;refine aU (.c (.bool (d9 y (dn (aC (aV x y) (aA (cN x) (cN y))) (aA (cN x) (cN y)).length (aX x) s.1)))) (dN (by unfold d9;rfl)) ?_)
        refine yP ?_;refine Pq ?_;intro cap10 hcap10;refine aL (Cf ?_);refine Tw ?_;refine iF K57 (dD (K26 _ _ _ (bB kr fun _ K58=>?_)))
        iterate 3 refine z29 ?_
        refine aJ K58 ?_
        have hah:∀ j,j< s.1+1->j< (aR (aC (aV x y) (aA (cN x) (cN y))) (aA (cN x) (cN y)).length (aX x) (j*(aA (cN x) (cN y)).length)).length:=fun j hj=>ha2 j (by omega)
        have hX3:(dZ (aC (aV x y) (aA (cN x) (cN y))) (aA (cN x) (cN y)).length (aX x) (d9 y) s.1)++([]++[d9 y (dn (aC (aV x y) (aA (cN x) (cN y))) (aA (cN x) (cN y)).length (aX x) s.1)])=(dZ (aC (aV x y) (aA (cN x) (cN y))) (aA (cN x) (cN y)).length (aX x) (d9 y) (s.1+1)):=S9 (d9 y) s.1
        refine ai [] (fun i=>if i=4 then 6 else i) (s.1+1,k.2.1,cap4,cap10) ⟨⟨by show s.1+1<=_;omega,hah,(by show s.1+1<=(aR (aC (aV x y) (aA (cN x) (cN y))) (aA (cN x) (cN y)).length (aX x) ((s.1+1)*(aA (cN x) (cN y)).length)).length;omega),hk2,(by show(aR (aC (aV x y) (aA (cN x) (cN y))) (aA (cN x) (cN y)).length (aX x) ((s.1+1)*(aA (cN x) (cN y)).length)).length<=4096;omega),(by show s.1+1<=cap4;omega),(by show s.1+1<=cap10;omega)⟩,by show _ - (s.1+1)< _;omega⟩ [0,1,2,3,6] ?_ ?_ ?_ ?_
        ·exact bN
        ·exact bN
        ·exact bN
        ·exact bN
    ·try simp only[dQ,reduceIte]at h_t50
     refine eY (bJ (bJ (eX (K20 _ _ _ ?_))))
     have hfu:=TZ (f:=(aC (aV x y) (aA (cN x) (cN y)))) (b0:=(aX x)) ha (by omega)
     have hnb:=Y3 hfu hs1
     rw[if_neg hnb]at hcon;obtain⟨hf1,_,hf3⟩:=Iz (L:=kL (aT d) (aT e)) (acc:=d9 (ag (af (aT e)))) (m:=4096) (by decide) (fun s x hx9=>Pd s hx9) (fun w hw=>ZZ hgd hge hw) (by rw[hxE,hyE];exact hnb);rw[hxE,hyE]at hf1 hf3;rw[jf,if_neg hnb,Nl hfu]at hf1 hf3;refine fQ [3,4] id [(4,.c (.ptr 0 0)),(10,.c (.ptr 1 0))] [(0,.own 30 (.cells [.nils,.nils,.nils]) 3),(1,.own 74 (.cells (rt (jL x y 256) (.ds s.1 (.cells (aS (bP (aC (aV x y) (aA (cN x) (cN y))) (aA (cN x) (cN y)).length (aX x) s.1)))) (.ds s.1 (.bools (dZ (aC (aV x y) (aA (cN x) (cN y))) (aA (cN x) (cN y)).length (aX x) (d9 y) s.1))))) 258)] 2 [0,1] bN bN bN bN (aO kr fun _ K60=>z35 ?_);refine aU (jw (iw (aC (aV x y) (aA (cN x) (cN y))) (d9 y) (jL x y 256) (aA (cN x) (cN y)).length (aX x) s.1)) (bq (Ig _ _ _ _ _ _)) (z35 ?_);refine aI (lI (iw (aC (aV x y) (aA (cN x) (cN y))) (d9 y) (jL x y 256) (aA (cN x) (cN y)).length (aX x) s.1)) (lJ (iw (aC (aV x y) (aA (cN x) (cN y))) (d9 y) (jL x y 256) (aA (cN x) (cN y)).length (aX x) s.1) ⟨(iw (aC (aV x y) (aA (cN x) (cN y))) (d9 y) (jL x y 256) (aA (cN x) (cN y)).length (aX x) s.1),rfl,hf1,?_⟩);rw[hf3]
     simp only[q8]
     refine dM ?_
     first|refine aL ?_|(intro cap1 hcap1;refine aL ?_)
     iterate 2 refine z29 ?_
     refine Gx ?_;refine z29 ?_;refine aJ K60 ?_;rw[hcon];refine bQ (gT kr (fun _ _ h=>h) (ib _) [] [.cell 4 30,.tmp 5] rfl ?_)
     repeat first|refine aI (by first|exact trivial|rfl|exact⟨rfl,rfl⟩|decide) ?_|refine bW (by first|rfl|decide) ?_|refine dC (by first|rfl|decide) ?_
     all_goals exact bN


end Go.Proofs.YtpdljmohhpbkpaaDoor
