/- Contracts of functions and plain facts, part 20. -/
import Derived.Test.YtpdljmohhpbkpaaDoorNs
import Derived.Test.YtpdljmohhpbkpaaDoorNh
import Derived.Test.YtpdljmohhpbkpaaDoorNn
import Derived.Test.YtpdljmohhpbkpaaDoorNq
import Derived.Test.YtpdljmohhpbkpaaDoorNk
set_option linter.all false
set_option maxHeartbeats 4000000
set_option maxRecDepth 4000
namespace Go.Proofs.YtpdljmohhpbkpaaDoor
open Go.Ab Go.RowKit

section
variable {a b:Prop}
theorem Ef(h:a:=by first|exact gG|(simp[-List.reduceReplicate]<;>omega)|exact vU|exact vRt|exact Vm|(simp only[jH];omega)|(simp only[jI,jH];omega)|(rw[jH];omega)|exact⟨by omega,by omega,trivial⟩|exact⟨by omega,by omega,trivial,trivial⟩|(show _< (lL _ _).length;rw[ze6];omega)|(show _< (bM _ _ _).length;rw[z37];omega)|(simp only[jI,Ro];omega)|(show _< (cY _ _ _ _).length;rw[rU];omega)|(simp only[z66,z28];omega)|(simp only[z66];omega)|(rw[Tt];done)|(show dz.length=(rt _ _ _).length;rw[jA,bG hcl])|exact gH):a:=h
theorem uO(h:a:=by
    repeat' (first|exact pJ|exact pT|exact trivial|refine aI ?_ ?_|exact iM|refine low_cons' ?_ ?_|exact iN|fail)
    all_goals first|omega|(show(0:Nat)< (rt _ _ _).length;rw[bG ht.1.clen];decide)|(show aB.low _ (aB.cells (List.replicate 256 _++_));exact ou)|(show 0+_*4<=(_:List UInt64).length;omega)|(show aB.u64s cw=_;exact(if_pos ⟨rfl,hcwl⟩).symm)|exact hL0|exact hL1|exact lw _|(show(_:List Int)=_;first|assumption|exact hZ0|rfl)|(show(_:List Bool)=_;first|assumption|rfl)|(show(_:List UInt64)=_;first|assumption|rfl)|(show bR _ _ _;first|(rw[hXR];exact nI _)|(rw[hXR];trivial)|exact nI _)|(rw[Tt];done)|(show(aG _).length=_;rw[jH])|(simp[-List.reduceReplicate];done)|(show(0:Nat)< (au _ _ _ _).length;rw[dJ ht.1.clen];decide)|(simp[-List.reduceReplicate];done)|(simp[-List.reduceReplicate]<;>omega)|skip):a:=h
theorem bI(h:a:=by
    repeat' (first|exact pJ|exact pT|exact trivial|refine aI ?_ ?_|exact iM|refine low_cons' ?_ ?_|exact iN|fail)
    all_goals first|omega|(show(0:Nat)< (rt _ _ _).length;rw[bG hcl];decide)|(show aB.low _ (aB.cells (List.replicate 256 _++_));exact ou)|(show 0+_*4<=(_:List UInt64).length;omega)|(show aB.u64s cw=_;exact(if_pos ⟨rfl,hcwl⟩).symm)|exact hL0|exact hL1|exact lw _|(show(_:List Int)=_;first|assumption|exact hZ0|rfl)|(show(_:List Bool)=_;first|assumption|rfl)|(show(_:List UInt64)=_;first|assumption|rfl)|(show bR _ _ _;first|(rw[hXR];exact nI _)|(rw[hXR];trivial)|exact nI _)|(rw[Tt];done)|(show(aG _).length=_;rw[jH])|(simp[-List.reduceReplicate];done)|(show(0:Nat)< (au _ _ _ _).length;rw[dJ hcl];decide)|(simp[-List.reduceReplicate];done)|(simp[-List.reduceReplicate]<;>omega)|skip):a:=h
theorem jY(kZ:b)(h:aK b->a:=by intro kZ;(repeat first|refine aI Ef ?_|refine bW Ef ?_|refine dC Ef ?_|refine fT Ef ?_|refine fA ?_);exact kZ.out):a:=h ⟨kZ⟩
theorem lF(kZ:b)(h:aK b->a:=by intro kZ;refine sX ?_;refine jY ?_;refine aL ?_;exact kZ.out):a:=h ⟨kZ⟩
theorem JK(kZ:b)(h:aK b->a:=by intro kZ;refine jl ?_;refine jY ?_;refine aL ?_;exact kZ.out):a:=h ⟨kZ⟩
theorem H7(kZ:b)(h:aK b->a:=by intro kZ;refine dX ?_;refine jY ?_;refine aL ?_;exact kZ.out):a:=h ⟨kZ⟩
theorem MY(kZ:b)(h:aK b->a:=by intro kZ;refine qX ?_;refine jY ?_;refine aL ?_;exact kZ.out):a:=h ⟨kZ⟩
theorem KN(kZ:b)(h:aK b->a:=by intro kZ;refine gX ?_;refine jY ?_;refine aL ?_;exact kZ.out):a:=h ⟨kZ⟩
theorem Da(kZ:b)(h:aK b->a:=by intro kZ;refine pu ?_;refine jY ?_;refine aL ?_;exact kZ.out):a:=h ⟨kZ⟩
theorem vF(kZ:b)(h:aK b->a:=by intro kZ;refine sX ?_;refine jY ?_;exact kZ.out):a:=h ⟨kZ⟩
theorem MN(kZ:b)(h:aK b->a:=by intro kZ;refine dX ?_;refine jY ?_;exact kZ.out):a:=h ⟨kZ⟩
theorem Tq(kZ:b)(h:aK b->a:=by intro kZ;refine gX ?_;refine jY ?_;exact kZ.out):a:=h ⟨kZ⟩
theorem y4s(kZ:b)(h:aK b->a:=by intro kZ;refine pu ?_;refine jY ?_;exact kZ.out):a:=h ⟨kZ⟩
theorem NM(kZ:b)(h:aK b->a:=by intro kZ;refine qX ?_;refine jY ?_;exact kZ.out):a:=h ⟨kZ⟩
end
open Go.Aut
theorem xL{t:Tab}{bl reps:List Nat}{b:Nat}(h:b< 256):(cY t bl reps 256).getD b 0=((oC t bl reps ((aD t).cell b):Nat):Int):=by rw[cY,iy h,if_pos h]
theorem yj(t:Tab)(bl reps:List Nat):(mC t bl reps 256)=(lY t bl reps 256).map (aD t).cell:=by unfold lY kY;rfl
theorem Tt(t:Tab)(bl reps:List Nat):(lY t bl reps 256).length=(mC t bl reps 256).length:=by rw[yj,List.length_map]
theorem EG{t:Tab}{bl reps:List Nat}{c:Nat}(h:c< (mC t bl reps 256).length):(aD t).cell ((lY t bl reps 256).getD c 0)=eD (mC t bl reps 256) c:=by
  rw[yj,List.length_map]at h;rw[eD,yj,List.getD_eq_getElem?_getD,List.getD_eq_getElem?_getD,List.getElem?_map,List.getElem?_eq_getElem h];rfl
theorem Ki{t:iG}{block reps:Nat->Nat}{k b:Nat}(hb:b< 256):mG t block reps k (t.cell b)< l9 t block reps k:=by rw[QV];exact vG (z57.2 hb)
theorem H9{n:Nat}:∀ x∈(List.replicate n (List.replicate 4 (0:UInt64))).flatten,x=0:=fun x hx=>by
  obtain⟨l,hl,hx⟩:=List.mem_flatten.1 hx;rw[(List.mem_replicate.1 hl).2]at hx;exact(List.mem_replicate.1 hx).2
theorem H8(n:Nat):((List.replicate n (List.replicate 4 (0:UInt64))).flatten).length=n*4:=by
  induction n with
  |zero=>rfl
  |succ n ih=>rw[List.replicate_succ,List.flatten_cons,List.length_append,ih,List.length_replicate];omega
theorem MP{t:iG}{block reps:Nat->Nat}{k n:Nat}:Cw t block reps k (List.replicate n (List.replicate 4 (0:UInt64))).flatten n 0:=by
  refine⟨H8 n,fun j x _ _=>?_⟩
  have e:bv (List.replicate n (List.replicate 4 (0:UInt64))).flatten j x=false:=by
    rw[bv,List.getD_eq_getElem?_getD]
    cases h:(List.replicate n (List.replicate 4 (0:UInt64))).flatten[j*4+x / 64]? with
    |none=>simp
    |some y=>rw[H9 y (List.mem_of_getElem? h)];simp
  rw[e];exact⟨fun h=>(by cases h),fun h=>absurd h.1 (Nat.not_lt_zero x)⟩
def qR(cw:List UInt64)(j b:Nat):List UInt64:=cw.take (j*4)++jT ((cw.drop (j*4)).take 4) b++cw.drop (j*4+4)
theorem zy{cw:List UInt64}{n j b:Nat}(h:cw.length=n*4)(hj:j< n):(qR cw j b).length=cw.length:=by
  simp only[qR,List.length_append,List.length_take,List.length_drop,z28]
  omega
theorem y4t{c:List UInt64}{b x:Nat}(hc:c.length=4)(hb:b< 256)(hx:x< 256):ed (jT c b) x=(ed c x||decide (x=b)):=by
  rw[jT,ed,my (by omega),ed]
  by_cases e:b / 64=x / 64
  · rw[if_pos e,e,UInt64.toNat_or,Nat.testBit_or]
    have:=Pj (b%64) (x%64)
    rw[NG]at this;rw[this]
    congr 1
    rw[Bool.eq_iff_iff];simp;omega
  · rw[if_neg e]
    have:¬ x=b:=fun h=>e (by rw[h])
    simp[this]
theorem zw{cw:List UInt64}{n j b i x:Nat}(h:cw.length=n*4)(hj:j< n)(hb:b< 256)(hi:i< n)(hx:x< 256):bv (qR cw j b) i x=(bv cw i x||(decide (i=j)&&decide (x=b))):=by
  have hc4:((cw.drop (j*4)).take 4).length=4:=by rw[List.length_take,List.length_drop];omega
  have hz:(jT ((cw.drop (j*4)).take 4) b).length=4:=by rw[z28];exact hc4
  have hs:=Ip (l:=cw) (m:=jT ((cw.drop (j*4)).take 4) b) (off:=j*4) (j:=i*4+x / 64) (d:=0) (by rw[hz];omega)
  rw[hz]at hs;rw[bv,qR,hs]
  by_cases e:i=j
  · subst e
    rw[if_neg (by omega),if_pos (by omega),show i*4+x / 64 - i*4=x / 64 by omega]
    have h1:=TW (l:=cw) (k:=i) hx
    have h2:=y4t hc4 hb hx
    rw[ed,ed]at h2;rw[h2,h1];simp
  · rw[decide_eq_false e,Bool.false_and,Bool.or_false,bv]
    by_cases e2:i< j
    · rw[if_pos (by omega)]
    · rw[if_neg (by omega),if_neg (by omega)]
theorem DY{t:iG}{block reps:Nat->Nat}{k n b:Nat}{cw:List UInt64}(h:Cw t block reps k cw n b)(hb:b< 256)(hj:mG t block reps k (t.cell b)< n):Cw t block reps k (qR cw (mG t block reps k (t.cell b)) b) n (b+1):=
  h.put (zy h.len hj) rfl hb fun i x hi hx=>zw h.len hj hb hi hx
attribute [local irreducible] eG z12 zl au gz cr rt dz lc bM rf mG lL dO rowP ik ny lY cY af ni ko qR
noncomputable def Us:Ctx:={ P:=Tryd.prog,ty:=ty,glob:=gl,fs:=[(68,.data yn),(70,.data zra),(69,.data zwp),(71,.data y4l),(61,.flat WL)] }
theorem z32:Us.OK:=⟨dS,⟨⟨bX Tryd.func68 aN rfl,yo⟩,⟨bX Tryd.func70 aN rfl,zty⟩,⟨bX Tryd.func69 aN rfl,zye⟩,⟨bX Tryd.func71 aN rfl,y4m⟩,⟨bX Tryd.func61 aN rfl,zwi⟩,trivial⟩,mixed⟩
@[simp] theorem Ut:Us.ty=ty:=rfl

def Pg:aW:=fun vs K=>∃ t:Tab,vs=[jw t]/\t.fit/\K (df (af ((aD t).lang 0)))
theorem Rp :jr Tryd.prog gl 44 Pg:=by
 refine kJ (Γ:=Us) (N:=153) Tryd.func44 rfl rfl fun vs K h=>?_;obtain⟨t,rfl,ht,h⟩:=h;refine⟨_,h,NV _,by simp,fun w I=>?_⟩;refine aO z32 fun _ K2=>?_
 iterate 2 refine lF ?_
 refine aJ K2 (fQ [0] (fun _=>1) [(1,.c (.dp (eT t) 0)),(2,.c (.ptr 0 0))] [(0,.own 30 (.cells [.nils,.nils,.nils]) 3)] 1 [1] uO uO uO uO (aO z32 fun _ K4=>vF ?_));refine aU (jw t) (SV.as_refl _) (vF ?_);refine aI (lI t) (lJ t ⟨t,rfl,ht,?_⟩)
 simp only[q8]
 obtain⟨u,hu⟩:∃ u,u=kM t:=⟨_,rfl⟩;rw[<-hu]
 have hfu:u.fit:=hu▸yu ht
 have hlang:af ((aD t).lang 0)=af ((aD u).lang 0):=by rw[hu];exact(CK fun w hw=>y4q ht.1 hw).symm
 obtain⟨hok,hlen,hnc⟩:=hfu
 have hfu:u.fit:=⟨hok,hlen,hnc⟩
 have hcl:=hok.clen
 have hlr:=zjk hfu
 refine jY ?_
 first|refine aL ?_|(intro cap1 hcap1;refine aL ?_)
 refine lF ?_;refine JK ?_;refine aJ K4 (fQ [1] id [(2,.c (.ptr 0 0)),(3,.c (.dp (eT u) 0))] [(0,.own 30 (.cells [.nils,.nils,.nils]) 3)] 1 [0] bI bI bI bI (vR z32 [(0,true),(1,true),(2,false),(3,false),(4,true),(5,true),(6,true),(7,true),(8,true)] rfl aN aN fun _ K6=>MN ?_));refine aU (jw u) (SV.as_refl _) (MN ?_);refine aU (jw u) (SV.as_refl _) (Tq ?_);refine aI (lI u) (lJ u ⟨u,rfl,hfu,?_⟩)
 simp only[q8]
 refine jY ?_
 first|refine aL ?_|(intro cap2 hcap2;refine aL ?_)
 refine Tq ?_;refine aI (lI u) (lJ u ⟨u,ny (aD u),rfl,hfu,hlr,?_⟩)
 simp only[q8]
 refine jY ?_
 first|refine aL ?_|(intro cap3 hcap3;refine aL ?_)
 iterate 5 refine H7 ?_
 refine iF K6 ?_
 have hout:=y1c hfu hlr
 obtain⟨bl,hbl⟩:∃ bl,bl=mD u (ny (aD u)):=⟨_,rfl⟩;obtain⟨reps,hreps⟩:∃ reps,reps=oQ u (ny (aD u)):=⟨_,rfl⟩;rw[<-hbl, <-hreps]at hout;rw[<-hbl, <-hreps];refine aO z32 fun _ K8=>vF ?_;refine aU (jw u) (SV.as_refl _) ?_
 iterate 2 refine lF ?_
 refine vF ?_;refine aI (lI u) (lJ u ⟨u,bl,reps,ny (aD u),rfl,⟨hfu,hout,hlr.lt⟩,?_⟩)
 simp only[q8]
 refine jY ?_
 first|refine aL ?_|(intro cap3 hcap3;refine aL ?_)
 iterate 5 refine lF ?_
 refine JK ?_;refine aJ K8 ?_
 have hrn:=hout.rep
 have hbll:=hout.len
 have hnp:=hok.npos
 have hb0:=hout.blk 0 CO
 have hrl:reps.length<=65535:=Nat.le_trans (Ry hout hlr.lt) hlen
 have hmp:=WA u bl reps
 have hml:=zL u bl reps 256
 have hll:=Tt u bl reps
 refine fQ [1] id [(2,.c (.ptr 0 0)),(3,.c (.dp (eT u) 0)),(4,.c (.ds bl.length (.ints .i64 (aG bl)))),(5,.c (.ds reps.length (.ints .i64 (aG reps)))),(6,.c (.ds (mC u bl reps 256).length (.ints .i64 (aG (lY u bl reps 256))))),(7,.c (.dp (.ints .i64 (cY u bl reps 256)) 0))] [(0,.own 30 (.cells [.nils,.nils,.nils]) 3)] 1 [0] bI bI bI bI (aO z32 fun _ K10=>?_)
 iterate 4 refine lF ?_
 refine aJ K10 (aH fun _ K11=>aO z32 fun _ K13=>lF ?_);refine aJ K13 (bO (fM (α:=Nat) (fun k=>[(2,.c (.ptr 0 0)),(3,.c (.dp (eT u) 0)),(4,.c (.ds bl.length (.ints .i64 (aG bl)))),(5,.c (.ds reps.length (.ints .i64 (aG reps)))),(6,.c (.ds (mC u bl reps 256).length (.ints .i64 (aG (lY u bl reps 256))))),(7,.c (.dp (.ints .i64 (cY u bl reps 256)) 0)),(8,.c (.slice 1 0 reps.length reps.length)),(9,.c (.int .i64 (k:Nat)))]) (fun k=>[(0,.own 30 (.cells [.nils,.nils,.nils]) 3),(1,.own 3 (.ints .i64 (bM reps.length (-1) k)) reps.length)]) 2 (fun k=>k<=reps.length) (fun k=>reps.length - k) ?_ ?_))
 ·have hZ0:List.replicate reps.length (0:Int)=bM reps.length (-1) 0:=(Mk _ _).symm
  refine ai [] id 0 (Nat.zero_le _) [0,1] bI bI bI bI
 ·intro k hk;refine aH fun _ K14=>aO z32 fun _ K16=>?_
  iterate 4 refine lF ?_
  refine aJ K16 (bC (b:=_) rfl (fun h_t40=>?_) (fun h_t40=>?_))
  ·try simp only[dQ,reduceIte]at h_t40
   refine bK (K14 _ _ _ (aH fun _ K17=>bO ?_))
   have hkl:k< reps.length:=by omega
   refine bB z32 fun _ K18=>?_
   iterate 3 refine lF ?_
   refine JK ?_;refine aJ K18 (dD (K17 _ _ _ (bB z32 fun _ K19=>?_)))
   iterate 3 refine lF ?_
   refine aJ K19 ?_
   have hX1:(bM reps.length (-1) k).set (0+((k:Nat):Int).toNat*1) (-1)=bM reps.length (-1) (k+1):=by rw[show 0+((k:Nat):Int).toNat*1=k by omega];exact Mv _ hkl
   refine ai [] id (k+1) ⟨by omega,by omega⟩ [0,1] bI bI bI bI
  ·try simp only[dQ,reduceIte]at h_t40
   refine eY (bJ (bJ (eX (K11 _ _ _ ?_))))
   obtain rfl:k=reps.length:=by omega
   refine aO z32 fun _ K21=>?_
   iterate 3 refine lF ?_
   refine vF ?_;refine aU (.c (.int .i64 ((((aM bl 0):Nat):Int)))) (az ((congrArg (fun i=>(aG bl).getD i 0) (by omega)).trans jd)) (lF ?_);refine JK ?_;refine aJ K21 (aO z32 fun _ K23=>?_)
   iterate 2 refine lF ?_
   refine vF ?_;refine aU (.c (.int .i64 ((((aM bl 0):Nat):Int)))) (az ((congrArg (fun i=>(aG bl).getD i 0) (by omega)).trans jd)) ?_
   iterate 2 refine lF ?_
   refine aJ K23 (aO z32 fun _ K25=>?_)
   iterate 5 refine lF ?_
   refine JK ?_;refine aJ K25 (aH fun _ K26=>aO z32 fun _ K28=>lF ?_);refine aJ K28 (bO (fM (α:=List UInt64×Nat) (fun g=>[(2,.c (.ptr 0 0)),(3,.c (.dp (eT u) 0)),(4,.c (.ds bl.length (.ints .i64 (aG bl)))),(5,.c (.ds reps.length (.ints .i64 (aG reps)))),(6,.c (.ds (mC u bl reps 256).length (.ints .i64 (aG (lY u bl reps 256))))),(7,.c (.dp (.ints .i64 (cY u bl reps 256)) 0)),(8,.c (.slice 1 0 reps.length reps.length)),(10,.c (.slice 2 0 1 1)),(11,.c (.ptr 4 0)),(12,.c (.int .i64 (g.2:Nat)))]) (fun g=>[(0,.own 30 (.cells [.nils,.nils,.nils]) 3),(1,.own 3 (.ints .i64 (lL (aP (bF u bl reps) (mC u bl reps 256).length (aM bl 0) (0*(mC u bl reps 256).length)) reps.length)) reps.length),(2,.own 3 (.ints .i64 (aG [(aM bl 0)])) 1),(3,.own 53 (.u64s g.1) ((mC u bl reps 256).length*4)),(4,.own 30 (.cells [.slice 3 0 (mC u bl reps 256).length (mC u bl reps 256).length,.nils,.nils]) 3)]) 5 (fun g=>g.2<=256/\Cw (aD u) (aM bl) (eD reps) reps.length g.1 (mC u bl reps 256).length g.2) (fun g=>256 - g.2) ?_ ?_))
   ·have hz:(aP (bF u bl reps) (mC u bl reps 256).length (aM bl 0) (0*(mC u bl reps 256).length))=[(aM bl 0)]:=by rw[Nat.zero_mul];rfl
    have hX1:(bM reps.length (-1) reps.length).set (0+(((aM bl 0):Nat):Int).toNat*1) 0=lL (aP (bF u bl reps) (mC u bl reps 256).length (aM bl 0) (0*(mC u bl reps 256).length)) reps.length:=by
     rw[hz,Se, <-zll,show 0+(((aM bl 0):Nat):Int).toNat*1=(aM bl 0) by omega];exact Rx (o:=[]) (by simp)
    refine ai [] id ((List.replicate (mC u bl reps 256).length (List.replicate 4 (0:UInt64))).flatten,0) ⟨Nat.zero_le _,MP⟩ [0,1,2,3,4] bI bI bI bI
   ·intro g hg9
    obtain⟨hg1,hcw⟩:=hg9;refine aH fun _ K29=>aO z32 fun _ K31=>?_
    iterate 2 refine lF ?_
    refine aJ K31 (bC (b:=_) rfl (fun h_t60=>?_) (fun h_t60=>?_))
    ·try simp only[dQ,reduceIte]at h_t60
     refine bK (K29 _ _ _ (aH fun _ K32=>bO ?_))
     have hb256:g.2< 256:=by omega
     have hcb:=av hok hb256
     have hcwl:=hcw.len
     have hol:(oC u bl reps ((aD u).cell g.2))< (mC u bl reps 256).length:=by
      rw[z59, <-QX]
      have h9:=Ki (t:=aD u) (block:=aM bl) (reps:=eD reps) (k:=reps.length) hb256
      exact h9
     have hcw4:((g.1.drop ((oC u bl reps ((aD u).cell g.2))*4)).take 4).length=4:=by rw[List.length_take,List.length_drop];omega
     refine ry z32 [(0,true),(1,true),(2,true),(3,true),(4,true),(5,true),(6,true),(7,true),(8,true),(9,true),(10,true),(11,true),(12,true),(13,false),(14,true),(15,false)] rfl aN aN fun _ K33=>?_
     iterate 4 refine H7 ?_
     refine MN ?_;refine aU (.c (.int .i64 ((((oC u bl reps ((aD u).cell g.2)):Nat):Int)))) (az ((congrArg (fun i=>(cY u bl reps 256).getD i 0) (by omega)).trans (xL hb256))) ?_
     iterate 4 refine H7 ?_
     refine MN ?_;refine aU (.c (.int .i64 ((((oC u bl reps ((aD u).cell g.2)):Nat):Int)))) (az ((congrArg (fun i=>(cY u bl reps 256).getD i 0) (by omega)).trans (xL hb256))) (H7 ?_);refine MN ?_;refine aU (.agg (.u64s ((g.1.drop ((oC u bl reps ((aD u).cell g.2))*4)).take 4))) (bq (congrArg (fun i=>SV.agg ((aB.u64s g.1).sub i 4)) (by omega))) (H7 ?_);refine Tq ?_;refine⟨(g.1.drop ((oC u bl reps ((aD u).cell g.2))*4)).take 4,g.2,rfl,⟨hcw4,hb256⟩,jY ?_⟩
     first|refine aL ?_|(intro cap13 hcap13;refine aL ?_)
     refine H7 ?_;refine y4s ?_;refine PQ (by simp only[z28];omega) (aL (iF K33 (dD (K32 _ _ _ (bB z32 fun _ K34=>?_)))))
     iterate 3 refine lF ?_
     refine aJ K34 ?_
     have hP:g.1.take (0+(((oC u bl reps ((aD u).cell g.2)):Nat):Int).toNat*4)++jT ((g.1.drop ((oC u bl reps ((aD u).cell g.2))*4)).take 4) g.2++g.1.drop (0+(((oC u bl reps ((aD u).cell g.2)):Nat):Int).toNat*4+(jT ((g.1.drop ((oC u bl reps ((aD u).cell g.2))*4)).take 4) g.2).length)=qR g.1 (oC u bl reps ((aD u).cell g.2)) g.2:=by
      rw[z28,hcw4,show 0+(((oC u bl reps ((aD u).cell g.2)):Nat):Int).toNat*4=(oC u bl reps ((aD u).cell g.2))*4 by omega];unfold qR;rfl
     have hcp:=DY hcw hb256 hol
     refine ai [] id (qR g.1 (oC u bl reps ((aD u).cell g.2)) g.2,g.2+1) ⟨⟨by show g.2+1<=256;omega,hcp⟩,by show 256 - (g.2+1)< _;omega⟩ [0,1,2,3,4] ?_ ?_ ?_ ?_
     ·exact bI
     ·exact bI
     ·exact bI
     ·exact bI
    ·try simp only[dQ,reduceIte]at h_t60
     refine eY (bJ (bJ (eX (K26 _ _ _ (aH fun _ K35=>?_)))))
     have hg256:g.2=256:=by omega
     rw[hg256]at hcw;obtain⟨cw,hcwe⟩:∃ cw,cw=g.1:=⟨_,rfl⟩;rw[<-hcwe]at hcw;rw[<-hcwe]
     have hcwl:=hcw.len
     rw[z59, <-QX]at hcw;refine fQ [3] (fun i=>if i=1 then 4 else if i=2 then 1 else if i=3 then 2 else i) [(2,.c (.ptr 0 0)),(3,.c (.dp (eT u) 0)),(4,.c (.ds bl.length (.ints .i64 (aG bl)))),(5,.c (.ds reps.length (.ints .i64 (aG reps)))),(6,.c (.ds (mC u bl reps 256).length (.ints .i64 (aG (lY u bl reps 256))))),(7,.c (.dp (.ints .i64 (cY u bl reps 256)) 0)),(8,.c (.slice 2 0 reps.length reps.length)),(10,.c (.slice 3 0 1 1)),(11,.c (.ptr 1 0))] [(0,.own 30 (.cells [.nils,.nils,.nils]) 3),(1,.own 30 (.cells [.ds (mC u bl reps 256).length (.u64s cw),.nils,.nils]) 3),(2,.own 3 (.ints .i64 (lL (aP (bF u bl reps) (mC u bl reps 256).length (aM bl 0) (0*(mC u bl reps 256).length)) reps.length)) reps.length),(3,.own 3 (.ints .i64 (aG [(aM bl 0)])) 1)] 4 [0,4,1,2] bI bI bI bI (aO z32 fun _ K37=>lF ?_);refine aJ K37 (bO (z30 1 1 44 (.cells []) rfl rfl rfl low_nil' (z30 1 2 4 (.bools []) rfl rfl rfl trivial (fM (α:=Nat×Nat×Nat×Nat) (fun g=>[(2,.c (.ptr 0 0)),(3,.c (.dp (eT u) 0)),(4,.c (.ds bl.length (.ints .i64 (aG bl)))),(5,.c (.ds reps.length (.ints .i64 (aG reps)))),(6,.c (.ds (mC u bl reps 256).length (.ints .i64 (aG (lY u bl reps 256))))),(7,.c (.dp (.ints .i64 (cY u bl reps 256)) 0)),(8,.c (.slice 2 0 reps.length reps.length)),(10,.c (.slice 3 0 (aP (bF u bl reps) (mC u bl reps 256).length (aM bl 0) (g.1*(mC u bl reps 256).length)).length g.2.1)),(11,.c (.ptr 1 0)),(13,.c (.int .i64 (g.1:Nat)))]) (fun g=>[(0,.own 30 (.cells [.nils,.nils,.nils]) 3),(1,.own 30 (.cells [.ds (mC u bl reps 256).length (.u64s cw),.slice 4 0 g.1 g.2.2.1,.slice 5 0 g.1 g.2.2.2]) 3),(2,.own 3 (.ints .i64 (lL (aP (bF u bl reps) (mC u bl reps 256).length (aM bl 0) (g.1*(mC u bl reps 256).length)) reps.length)) reps.length),(3,.own 3 (.ints .i64 (aG (aP (bF u bl reps) (mC u bl reps 256).length (aM bl 0) (g.1*(mC u bl reps 256).length)))) g.2.1),(4,.own 44 (.cells (aS (dO (bF u bl reps) (mC u bl reps 256).length (aM bl 0) g.1))) g.2.2.1),(5,.own 4 (.bools (ik u bl reps g.1)) g.2.2.2)]) 6 (fun g=>g.1<=reps.length/\(∀ j,j< g.1->j< (aP (bF u bl reps) (mC u bl reps 256).length (aM bl 0) (j*(mC u bl reps 256).length)).length)/\g.1<=(aP (bF u bl reps) (mC u bl reps 256).length (aM bl 0) (g.1*(mC u bl reps 256).length)).length/\(aP (bF u bl reps) (mC u bl reps 256).length (aM bl 0) (g.1*(mC u bl reps 256).length)).length<=g.2.1/\g.1<=g.2.2.1/\g.1<=g.2.2.2) (fun g=>reps.length - g.1) ?_ ?_))))
     ·have hz:(aP (bF u bl reps) (mC u bl reps 256).length (aM bl 0) (0*(mC u bl reps 256).length))=[(aM bl 0)]:=by rw[Nat.zero_mul];rfl
      have hX2:aG [(aM bl 0)]=aG (aP (bF u bl reps) (mC u bl reps 256).length (aM bl 0) (0*(mC u bl reps 256).length)):=by rw[hz]
      have hL0:1=(aP (bF u bl reps) (mC u bl reps 256).length (aM bl 0) (0*(mC u bl reps 256).length)).length:=by rw[hz];rfl
      have hX3:([]:List Bool)=ik u bl reps 0:=by unfold ik;rfl
      have hXR:aS (dO (bF u bl reps) (mC u bl reps 256).length (aM bl 0) 0)=[]:=by unfold dO;rfl
      refine ai [] id (0,1,0,0) ⟨Nat.zero_le _,fun j hj=>absurd hj (Nat.not_lt_zero j),Nat.zero_le _,by rw[hz];exact Nat.le_refl _,Nat.le_refl _,Nat.le_refl _⟩ [0,1,2,3,4,5] ?_ ?_ ?_ ?_
      ·exact bI
      ·exact bI
      ·exact bI
      ·exact bI
     ·intro g hg
      obtain⟨hg1,hga,hg3,hg4,hg5,hg6⟩:=hg
      have hg:=And.intro hg1 (And.intro hga hg3)
      refine aH fun _ K38=>aO z32 fun _ K40=>?_
      iterate 4 refine lF ?_
      refine aJ K40 (bC (b:=_) rfl (fun h_t81=>?_) (fun h_t81=>?_))
      ·try simp only[dQ,reduceIte]at h_t81
       refine bK (K38 _ _ _ (aH fun _ K41=>bO ?_))
       have hi:g.1< (aP (bF u bl reps) (mC u bl reps 256).length (aM bl 0) (g.1*(mC u bl reps 256).length)).length:=by omega
       have hxl:=ZP hok hout hlr.cl CO _ _ (getD_mem' hi)
       have hole:=NU hok hout hlr.cl CO (g.1*(mC u bl reps 256).length)
       have hsl:=hlr.lt _ (hout.rep _ hxl).1
       have hsl:(eD reps ((aP (bF u bl reps) (mC u bl reps 256).length (aM bl 0) (g.1*(mC u bl reps 256).length)).getD g.1 0))< u.next.length:=hsl
       have hrw:=oz hok hsl
       refine aO z32 fun _ K43=>?_
       iterate 4 refine lF ?_
       refine vF ?_;refine aU (.c (.int .i64 (((((aP (bF u bl reps) (mC u bl reps 256).length (aM bl 0) (g.1*(mC u bl reps 256).length)).getD g.1 0):Nat):Int)))) (az ((congrArg (fun i=>(aG (aP (bF u bl reps) (mC u bl reps 256).length (aM bl 0) (g.1*(mC u bl reps 256).length))).getD i 0) (by omega)).trans jd)) (lF ?_);refine vF ?_;refine aU (.c (.int .i64 (((eD reps ((aP (bF u bl reps) (mC u bl reps 256).length (aM bl 0) (g.1*(mC u bl reps 256).length)).getD g.1 0):Nat):Int)))) (az ((congrArg (fun i=>(aG reps).getD i 0) (by omega)).trans jd)) (lF ?_);refine aJ K43 (aO z32 fun _ K45=>?_)
       iterate 2 refine lF ?_
       refine aJ K45 (aH fun _ K46=>aO z32 fun _ K48=>lF ?_);refine aJ K48 (bO (fM (α:=Nat×Nat×Nat) (fun c=>[(2,.c (.ptr 0 0)),(3,.c (.dp (eT u) 0)),(4,.c (.ds bl.length (.ints .i64 (aG bl)))),(5,.c (.ds reps.length (.ints .i64 (aG reps)))),(6,.c (.ds (mC u bl reps 256).length (.ints .i64 (aG (lY u bl reps 256))))),(7,.c (.dp (.ints .i64 (cY u bl reps 256)) 0)),(8,.c (.slice 2 0 reps.length reps.length)),(10,.c (.slice 3 0 (aP (bF u bl reps) (mC u bl reps 256).length (aM bl 0) (g.1*(mC u bl reps 256).length+c.1)).length c.2.1)),(11,.c (.ptr 1 0)),(13,.c (.int .i64 (g.1:Nat))),(14,.c (.int .i64 ((eD reps ((aP (bF u bl reps) (mC u bl reps 256).length (aM bl 0) (g.1*(mC u bl reps 256).length)).getD g.1 0)):Nat))),(15,.c (.slice 6 0 c.1 c.2.2)),(16,.c (.int .i64 (c.1:Nat)))]) (fun c=>[(0,.own 30 (.cells [.nils,.nils,.nils]) 3),(1,.own 30 (.cells [.ds (mC u bl reps 256).length (.u64s cw),.slice 4 0 g.1 g.2.2.1,.slice 5 0 g.1 g.2.2.2]) 3),(2,.own 3 (.ints .i64 (lL (aP (bF u bl reps) (mC u bl reps 256).length (aM bl 0) (g.1*(mC u bl reps 256).length+c.1)) reps.length)) reps.length),(3,.own 3 (.ints .i64 (aG (aP (bF u bl reps) (mC u bl reps 256).length (aM bl 0) (g.1*(mC u bl reps 256).length+c.1)))) c.2.1),(4,.own 44 (.cells (aS (dO (bF u bl reps) (mC u bl reps 256).length (aM bl 0) g.1))) g.2.2.1),(5,.own 4 (.bools (ik u bl reps g.1)) g.2.2.2),(6,.own 3 (.ints .i64 (rowP (bF u bl reps) (mC u bl reps 256).length (aM bl 0) g.1 c.1)) c.2.2)]) 7 (fun c=>c.1<=(mC u bl reps 256).length/\(aP (bF u bl reps) (mC u bl reps 256).length (aM bl 0) (g.1*(mC u bl reps 256).length+c.1)).length<=c.2.1/\c.1<=c.2.2) (fun c=>(mC u bl reps 256).length - c.1) ?_ ?_))
       ·have hX1:([]:List Int)=rowP (bF u bl reps) (mC u bl reps 256).length (aM bl 0) g.1 0:=by unfold rowP;rfl
        refine ai [] id (0,g.2.1,0) ⟨Nat.zero_le _,hg4,Nat.le_refl _⟩ [0,1,2,3,4,5,6] bI bI bI bI
       ·intro c hc0
        obtain⟨hc1,hc2,hc3⟩:=hc0
        have hrpl:=Ro (f:=(bF u bl reps)) (nc:=(mC u bl reps 256).length) (b0:=(aM bl 0)) g.1 c.1
        refine aH fun _ K49=>aO z32 fun _ K51=>?_
        iterate 4 refine lF ?_
        refine aJ K51 (bC (b:=_) rfl (fun h_t95=>?_) (fun h_t95=>?_))
        ·try simp only[dQ,reduceIte]at h_t95
         refine bK (K49 _ _ _ (aH fun _ K52=>bO ?_))
         have hc:c.1< (mC u bl reps 256).length:=by omega
         have hrc:=WC hok bl reps hc
         have hx:=bz hok hsl hrc
         have htl:((bF u bl reps) ((aP (bF u bl reps) (mC u bl reps 256).length (aM bl 0) (g.1*(mC u bl reps 256).length)).getD g.1 0) c.1)< reps.length:=xD hok hout hlr.cl hxl hc
         have hat:=QY (f:=(bF u bl reps)) (b0:=(aM bl 0)) hi (Nat.le_add_right (g.1*(mC u bl reps 256).length) c.1)
         have hst:(aP (bF u bl reps) (mC u bl reps 256).length (aM bl 0) (g.1*(mC u bl reps 256).length+(c.1+1)))=je (aP (bF u bl reps) (mC u bl reps 256).length (aM bl 0) (g.1*(mC u bl reps 256).length+c.1)) ((bF u bl reps) ((aP (bF u bl reps) (mC u bl reps 256).length (aM bl 0) (g.1*(mC u bl reps 256).length+c.1)).getD g.1 0) c.1):=SX (f:=(bF u bl reps)) (b0:=(aM bl 0)) (i:=g.1) hc
         rw[hat]at hst
         have hst2:=hst
         have hol:=NU hok hout hlr.cl CO (g.1*(mC u bl reps 256).length+c.1)
         have hly9:=EG (bl:=bl) (reps:=reps) (t:=u) hc
         have hlb:(lY u bl reps 256).getD c.1 0< 256:=IR (by rw[hll];exact hc)
         refine qB z32 aN fun _ K54=>?_
         iterate 2 refine MY ?_
         refine NM ?_;refine aU (.c (.ds u.next.length (.cells (aS u.next)))) (ak (iC hcl)) ?_
         iterate 2 refine MY ?_
         refine NM ?_;refine aU (.c (.ds (u.next.getD (eD reps ((aP (bF u bl reps) (mC u bl reps 256).length (aM bl 0) (g.1*(mC u bl reps 256).length)).getD g.1 0)) []).length (.ints .i64 (u.next.getD (eD reps ((aP (bF u bl reps) (mC u bl reps 256).length (aM bl 0) (g.1*(mC u bl reps 256).length)).getD g.1 0)) [])))) (ak (oh ⟨hsl,by omega⟩)) ?_
         iterate 3 refine MY ?_
         refine NM ?_;refine aU (.c (.int .i64 ((((lY u bl reps 256).getD c.1 0:Nat):Int)))) (az ((congrArg (fun i=>(aG (lY u bl reps 256)).getD i 0) (by omega)).trans jd)) ?_
         iterate 2 refine MY ?_
         refine NM ?_;refine aU (.c (.int .i64 (((eD (mC u bl reps 256) c.1):Nat):Int))) (ak ((z52 hcl (by first|omega|(simp;done)) hlb).trans (congrArg (Cell.int IntKind.i64) ((av hok hlb).2.trans (congrArg Nat.cast hly9))))) (MY ?_);refine NM ?_;refine aU (.c (.int .i64 ((((aD u).δ (eD reps ((aP (bF u bl reps) (mC u bl reps 256).length (aM bl 0) (g.1*(mC u bl reps 256).length)).getD g.1 0)) (eD (mC u bl reps 256) c.1):Nat):Int)))) (az ((congrArg (fun i=>(u.next.getD (eD reps ((aP (bF u bl reps) (mC u bl reps 256).length (aM bl 0) (g.1*(mC u bl reps 256).length)).getD g.1 0)) []).getD i 0) (by omega)).trans hx.2)) (MY ?_);refine NM ?_;refine aU (.c (.int .i64 (((((bF u bl reps) ((aP (bF u bl reps) (mC u bl reps 256).length (aM bl 0) (g.1*(mC u bl reps 256).length)).getD g.1 0) c.1):Nat):Int)))) (az ((congrArg (fun i=>(aG bl).getD i 0) (by omega)).trans jd)) (MY ?_);refine nG K54 (qf (α:=Nat) (fun y=>[(2,.c (.ptr 0 0)),(3,.c (.dp (eT u) 0)),(4,.c (.ds bl.length (.ints .i64 (aG bl)))),(5,.c (.ds reps.length (.ints .i64 (aG reps)))),(6,.c (.ds (mC u bl reps 256).length (.ints .i64 (aG (lY u bl reps 256))))),(7,.c (.dp (.ints .i64 (cY u bl reps 256)) 0)),(8,.c (.slice 2 0 reps.length reps.length)),(10,.c (.slice 3 0 (aP (bF u bl reps) (mC u bl reps 256).length (aM bl 0) (g.1*(mC u bl reps 256).length+(c.1+1))).length y)),(11,.c (.ptr 1 0)),(13,.c (.int .i64 (g.1:Nat))),(14,.c (.int .i64 ((eD reps ((aP (bF u bl reps) (mC u bl reps 256).length (aM bl 0) (g.1*(mC u bl reps 256).length)).getD g.1 0)):Nat))),(15,.c (.slice 6 0 c.1 c.2.2)),(16,.c (.int .i64 (c.1:Nat))),(17,.c (.int .i64 (((bF u bl reps) ((aP (bF u bl reps) (mC u bl reps 256).length (aM bl 0) (g.1*(mC u bl reps 256).length)).getD g.1 0) c.1):Nat)))]) (fun y=>[(0,.own 30 (.cells [.nils,.nils,.nils]) 3),(1,.own 30 (.cells [.ds (mC u bl reps 256).length (.u64s cw),.slice 4 0 g.1 g.2.2.1,.slice 5 0 g.1 g.2.2.2]) 3),(2,.own 3 (.ints .i64 (lL (aP (bF u bl reps) (mC u bl reps 256).length (aM bl 0) (g.1*(mC u bl reps 256).length+(c.1+1))) reps.length)) reps.length),(3,.own 3 (.ints .i64 (aG (aP (bF u bl reps) (mC u bl reps 256).length (aM bl 0) (g.1*(mC u bl reps 256).length+(c.1+1))))) y),(4,.own 44 (.cells (aS (dO (bF u bl reps) (mC u bl reps 256).length (aM bl 0) g.1))) g.2.2.1),(5,.own 4 (.bools (ik u bl reps g.1)) g.2.2.2),(6,.own 3 (.ints .i64 (rowP (bF u bl reps) (mC u bl reps 256).length (aM bl 0) g.1 c.1)) c.2.2)]) 7 (fun y=>(aP (bF u bl reps) (mC u bl reps 256).length (aM bl 0) (g.1*(mC u bl reps 256).length+(c.1+1))).length<=y) ?_ ?_)
         ·refine aO z32 fun _ K56=>?_
          iterate 3 refine lF ?_
          refine vF ?_;refine aU (.c (.int .i64 ((lL (aP (bF u bl reps) (mC u bl reps 256).length (aM bl 0) (g.1*(mC u bl reps 256).length+c.1)) reps.length).getD ((bF u bl reps) ((aP (bF u bl reps) (mC u bl reps 256).length (aM bl 0) (g.1*(mC u bl reps 256).length)).getD g.1 0) c.1) 0))) (az (congrArg (fun i=>(lL (aP (bF u bl reps) (mC u bl reps 256).length (aM bl 0) (g.1*(mC u bl reps 256).length+c.1)) reps.length).getD i 0) (by omega))) (lF ?_);refine aJ K56 (bC (b:=_) rfl (fun h_t119=>?_) (fun h_t119=>?_))
          ·have hno:((bF u bl reps) ((aP (bF u bl reps) (mC u bl reps 256).length (aM bl 0) (g.1*(mC u bl reps 256).length)).getD g.1 0) c.1)∉(aP (bF u bl reps) (mC u bl reps 256).length (aM bl 0) (g.1*(mC u bl reps 256).length+c.1)):=fun hx=>by
            rw[Lj htl hx]at h_t119
            simp at h_t119;omega
           refine aO z32 fun _ K58=>?_
           iterate 5 refine lF ?_
           refine JK ?_;refine aJ K58 (bB z32 fun _ K59=>?_)
           iterate 3 refine lF ?_
           refine vF ?_;intro cap3 hcap3;refine aL (lF ?_);refine aJ K59 ?_;rw[je,if_neg hno]at hst
           have hX1:(lL (aP (bF u bl reps) (mC u bl reps 256).length (aM bl 0) (g.1*(mC u bl reps 256).length+c.1)) reps.length).set (0+((((bF u bl reps) ((aP (bF u bl reps) (mC u bl reps 256).length (aM bl 0) (g.1*(mC u bl reps 256).length)).getD g.1 0) c.1):Nat):Int).toNat*1) (((aP (bF u bl reps) (mC u bl reps 256).length (aM bl 0) (g.1*(mC u bl reps 256).length+c.1)).length:Nat):Int)=lL (aP (bF u bl reps) (mC u bl reps 256).length (aM bl 0) (g.1*(mC u bl reps 256).length+(c.1+1))) reps.length:=by rw[show 0+((((bF u bl reps) ((aP (bF u bl reps) (mC u bl reps 256).length (aM bl 0) (g.1*(mC u bl reps 256).length)).getD g.1 0) c.1):Nat):Int).toNat*1=((bF u bl reps) ((aP (bF u bl reps) (mC u bl reps 256).length (aM bl 0) (g.1*(mC u bl reps 256).length)).getD g.1 0) c.1) by omega,Rx hno,hst]
           have hX2:aG (aP (bF u bl reps) (mC u bl reps 256).length (aM bl 0) (g.1*(mC u bl reps 256).length+c.1))++([]++[((((bF u bl reps) ((aP (bF u bl reps) (mC u bl reps 256).length (aM bl 0) (g.1*(mC u bl reps 256).length)).getD g.1 0) c.1):Nat):Int)])=aG (aP (bF u bl reps) (mC u bl reps 256).length (aM bl 0) (g.1*(mC u bl reps 256).length+(c.1+1))):=by rw[hst,List.nil_append,z39]
           have hL0:(aP (bF u bl reps) (mC u bl reps 256).length (aM bl 0) (g.1*(mC u bl reps 256).length+c.1)).length+1=(aP (bF u bl reps) (mC u bl reps 256).length (aM bl 0) (g.1*(mC u bl reps 256).length+(c.1+1))).length:=by rw[hst,List.length_append];rfl
           refine ai [] (fun i=>if i=3 then 8 else i) cap3 (by omega) [0,1,2,8,4,5,6] bI bI bI bI
          ·have hin:((bF u bl reps) ((aP (bF u bl reps) (mC u bl reps 256).length (aM bl 0) (g.1*(mC u bl reps 256).length)).getD g.1 0) c.1)∈(aP (bF u bl reps) (mC u bl reps 256).length (aM bl 0) (g.1*(mC u bl reps 256).length+c.1)):=Classical.byContradiction fun hx=>by
            rw[Rw htl hx]at h_t119;exact absurd h_t119 (by decide)
           refine bK ?_;rw[je,if_pos hin]at hst;rw[hst];refine ai [] id c.2.1 hc2 [0,1,2,3,4,5,6] bI bI bI bI
         ·intro y hy
          have hmem:((bF u bl reps) ((aP (bF u bl reps) (mC u bl reps 256).length (aM bl 0) (g.1*(mC u bl reps 256).length)).getD g.1 0) c.1)∈(aP (bF u bl reps) (mC u bl reps 256).length (aM bl 0) (g.1*(mC u bl reps 256).length+(c.1+1))):=by rw[hst2];exact YU _ _
          have hpl:=Lj (k:=reps.length) htl hmem
          have hol3:=NU hok hout hlr.cl CO (g.1*(mC u bl reps 256).length+(c.1+1))
          refine bB z32 fun _ K60=>?_
          iterate 4 refine lF ?_
          refine vF ?_;refine aU (.c (.int .i64 (((nk (bF u bl reps) (mC u bl reps 256).length (aM bl 0) g.1 c.1:Nat):Int)))) (az ((congrArg (fun i=>(lL (aP (bF u bl reps) (mC u bl reps 256).length (aM bl 0) (g.1*(mC u bl reps 256).length+(c.1+1))) reps.length).getD i 0) (by omega)).trans (hpl.trans (congrArg Nat.cast (y1x hi hc).symm)))) (lF ?_);refine vF ?_;intro cap6 hcap6;refine aL (lF ?_);refine aJ K60 (dD (K52 _ _ _ (bB z32 fun _ K61=>?_)))
          iterate 3 refine lF ?_
          refine aJ K61 ?_
          have hX1:rowP (bF u bl reps) (mC u bl reps 256).length (aM bl 0) g.1 c.1++([]++[((nk (bF u bl reps) (mC u bl reps 256).length (aM bl 0) g.1 c.1:Nat):Int)])=rowP (bF u bl reps) (mC u bl reps 256).length (aM bl 0) g.1 (c.1+1):=y0b _ _
          refine ai [] (fun i=>if i=6 then 8 else i) (c.1+1,y,cap6) ⟨⟨by show c.1+1<=_;omega,hy,(by show c.1+1<=cap6;omega)⟩,by show _ - (c.1+1)< _;omega⟩ [0,1,2,3,4,5,8] ?_ ?_ ?_ ?_
          ·exact bI
          ·exact bI
          ·exact bI
          ·exact bI
        ·try simp only[dQ,reduceIte]at h_t95
         refine eY (bJ (bJ (eX (K46 _ _ _ ?_))))
         have hce:c.1=(mC u bl reps 256).length:=by omega
         have hpe:g.1*(mC u bl reps 256).length+c.1=(g.1+1)*(mC u bl reps 256).length:=by rw[hce,Nat.succ_mul]
         rw[hpe];rw[hpe]at hc2;rw[hce];refine fQ [6] id [(2,.c (.ptr 0 0)),(3,.c (.dp (eT u) 0)),(4,.c (.ds bl.length (.ints .i64 (aG bl)))),(5,.c (.ds reps.length (.ints .i64 (aG reps)))),(6,.c (.ds (mC u bl reps 256).length (.ints .i64 (aG (lY u bl reps 256))))),(7,.c (.dp (.ints .i64 (cY u bl reps 256)) 0)),(8,.c (.slice 2 0 reps.length reps.length)),(10,.c (.slice 3 0 (aP (bF u bl reps) (mC u bl reps 256).length (aM bl 0) ((g.1+1)*(mC u bl reps 256).length)).length c.2.1)),(11,.c (.ptr 1 0)),(13,.c (.int .i64 (g.1:Nat))),(14,.c (.int .i64 ((eD reps ((aP (bF u bl reps) (mC u bl reps 256).length (aM bl 0) (g.1*(mC u bl reps 256).length)).getD g.1 0)):Nat))),(15,.c (.ds (mC u bl reps 256).length (.ints .i64 (rowP (bF u bl reps) (mC u bl reps 256).length (aM bl 0) g.1 (mC u bl reps 256).length))))] [(0,.own 30 (.cells [.nils,.nils,.nils]) 3),(1,.own 30 (.cells [.ds (mC u bl reps 256).length (.u64s cw),.slice 4 0 g.1 g.2.2.1,.slice 5 0 g.1 g.2.2.2]) 3),(2,.own 3 (.ints .i64 (lL (aP (bF u bl reps) (mC u bl reps 256).length (aM bl 0) ((g.1+1)*(mC u bl reps 256).length)) reps.length)) reps.length),(3,.own 3 (.ints .i64 (aG (aP (bF u bl reps) (mC u bl reps 256).length (aM bl 0) ((g.1+1)*(mC u bl reps 256).length)))) c.2.1),(4,.own 44 (.cells (aS (dO (bF u bl reps) (mC u bl reps 256).length (aM bl 0) g.1))) g.2.2.1),(5,.own 4 (.bools (ik u bl reps g.1)) g.2.2.2)] 6 [0,1,2,3,4,5] bI bI bI bI (aO z32 fun _ K63=>?_)
         iterate 4 refine lF ?_
         refine vF ?_;intro cap4 hcap4;refine aL (lF ?_);refine JK ?_;refine aJ K63 ?_
         revert cap4 hcap4
         intro capA hcapA
         have hal:=hok.alen
         refine ry z32 [(0,true),(1,true),(2,true),(3,true),(4,true),(5,true),(6,true),(7,false),(8,false),(9,true),(10,false)] rfl aN aN fun _ K64=>?_
         iterate 3 refine H7 ?_
         refine MN ?_;refine aU (.c (.ds u.acc.length (.bools u.acc))) (ak (nW hcl)) ?_
         iterate 2 refine H7 ?_
         refine MN ?_;refine aU (.c (.bool (u.acc.getD (eD reps ((aP (bF u bl reps) (mC u bl reps 256).length (aM bl 0) (g.1*(mC u bl reps 256).length)).getD g.1 0)) false))) (dN (congrArg (fun i=>u.acc.getD i false) (by omega))) (KN ?_);refine Tq ?_;intro cap8 hcap8;refine aL (H7 ?_);refine Da ?_;refine iF K64 (dD (K41 _ _ _ (bB z32 fun _ K65=>?_)))
         iterate 3 refine lF ?_
         refine aJ K65 ?_
         have hlen2:=Bf (f:=(bF u bl reps)) (nc:=(mC u bl reps 256).length) (b0:=(aM bl 0)) (p:=g.1*(mC u bl reps 256).length) (q:=(g.1+1)*(mC u bl reps 256).length) (Nat.mul_le_mul_right _ (by omega))
         have hah:∀ j,j< g.1+1->j< (aP (bF u bl reps) (mC u bl reps 256).length (aM bl 0) (j*(mC u bl reps 256).length)).length:=fun j hj=>by
          rcases Nat.lt_or_ge j g.1 with h1|h1
          ·exact hga j h1
          ·obtain rfl:j=g.1:=by omega
           exact hi
         have hX3:ik u bl reps g.1++([]++[u.acc.getD (eD reps ((aP (bF u bl reps) (mC u bl reps 256).length (aM bl 0) (g.1*(mC u bl reps 256).length)).getD g.1 0)) false])=ik u bl reps (g.1+1):=zqm u bl reps g.1
         have hXR:aS (dO (bF u bl reps) (mC u bl reps 256).length (aM bl 0) g.1)++([]++[.ds (mC u bl reps 256).length (.ints .i64 (rowP (bF u bl reps) (mC u bl reps 256).length (aM bl 0) g.1 (mC u bl reps 256).length))])=aS (dO (bF u bl reps) (mC u bl reps 256).length (aM bl 0) (g.1+1)):=by
          have:=Gg (dO (bF u bl reps) (mC u bl reps 256).length (aM bl 0) g.1) (rowP (bF u bl reps) (mC u bl reps 256).length (aM bl 0) g.1 (mC u bl reps 256).length)
          rw[Ro,zlm]at this;exact this
         refine ai [] (fun i=>if i=4 then 7 else if i=5 then 9 else i) (g.1+1,c.2.1,capA,cap8) ⟨⟨by show g.1+1<=_;omega,hah,(by show g.1+1<=(aP (bF u bl reps) (mC u bl reps 256).length (aM bl 0) ((g.1+1)*(mC u bl reps 256).length)).length;omega),hc2,(by show g.1+1<=capA;omega),(by show g.1+1<=cap8;omega)⟩,by show _ - (g.1+1)< _;omega⟩ [0,1,2,3,7,9] ?_ ?_ ?_ ?_
         ·exact bI
         ·exact bI
         ·exact bI
         ·exact bI
      ·try simp only[dQ,reduceIte]at h_t81
       refine eY (bJ (bJ (eX (K35 _ _ _ ?_))))
       have hclo:=SY hmp hg.2.1 (by omega)
       have hcan:=y1w hfu hout hcw hclo
       refine fQ [4,5] id [(2,.c (.ptr 0 0)),(11,.c (.ptr 1 0))] [(0,.own 30 (.cells [.nils,.nils,.nils]) 3),(1,.own 30 (.cells [.ds (mC u bl reps 256).length (.u64s cw),.ds g.1 (.cells (aS (dO (bF u bl reps) (mC u bl reps 256).length (aM bl 0) g.1))),.ds g.1 (.bools (ik u bl reps g.1))]) 3)] 2 [0,1] bI bI bI bI (aO z32 fun _ K67=>lF ?_);refine JK ?_;refine aJ K67 ?_;rw[hlang,hcan];refine bQ (gT z32 (fun _ _ h=>h) (NV _) [] [.cell 2 30] rfl ?_)
       repeat first|refine aI (by first|exact trivial|rfl|exact⟨rfl,rfl⟩|decide) ?_|refine bW (by first|exact⟨rfl,rfl⟩|rfl|decide) ?_|refine dC (by first|rfl|decide) ?_
       all_goals exact bI


end Go.Proofs.YtpdljmohhpbkpaaDoor

namespace Go.Proofs.YtpdljmohhpbkpaaDoor
open Go.Ab Go.RowKit

section
variable {a b:Prop}
theorem Eg(h:a:=by first|exact gG|(simp[-List.reduceReplicate]<;>omega)|exact vU|exact vRt|exact gH):a:=h
theorem qD(h:a:=by
    repeat' (first|exact pJ|exact pT|exact trivial|refine aI ?_ ?_|exact iM|refine low_cons' ?_ ?_|exact iN|fail)
    all_goals first|omega|(show(0:Nat)< (rt _ _ _).length;rw[bG hcl];decide)|(show aB.low _ (aB.cells (List.replicate 256 _++_));exact ou)|exact lw _|(show(_:List Bool)=_;first|assumption|rfl)|exact(zws (Nat.le_refl _))|exact(zws (Nat.le_refl _)).symm|(show bR _ _ _;rw[Gv hcl rfl];refine rY ⟨rfl,rfl⟩ ?_;(repeat' (first|exact trivial|refine aI ?_ ?_|rfl|omega|decide|(simp;done)|rw[if_pos ⟨rfl,by simp⟩])))|(show(_:Nat)=0/\_;exact⟨rfl,rfl⟩)|(show(0:Nat)< (au _ _ _ _).length;rw[dJ hcl];decide)|(simp[-List.reduceReplicate];done)|(simp[-List.reduceReplicate]<;>omega)|skip):a:=h
theorem tK(kZ:b)(h:aK b->a:=by intro kZ;(repeat first|refine aI Eg ?_|refine bW Eg ?_|refine dC Eg ?_|refine fT Eg ?_|refine fA ?_);exact kZ.out):a:=h ⟨kZ⟩
theorem MZ(kZ:b)(h:aK b->a:=by intro kZ;refine sX ?_;refine tK ?_;refine aL ?_;exact kZ.out):a:=h ⟨kZ⟩
theorem zu2(kZ:b)(h:aK b->a:=by intro kZ;refine jl ?_;refine tK ?_;refine aL ?_;exact kZ.out):a:=h ⟨kZ⟩
theorem y4u(kZ:b)(h:aK b->a:=by intro kZ;refine sX ?_;refine tK ?_;exact kZ.out):a:=h ⟨kZ⟩
end
open Go.Aut
theorem qI{d:Dfa}(hw:d.wf):JI d=eQ d:=by
  rw[Bool.eq_iff_iff];exact⟨fun h=>pU (zr6 hw h),fun h=>ztt ((z22 hw).1 h)⟩
theorem Gv{cell:List Int}{x y z:Cell}(h:cell.length=256){i:Nat}(hi:i=257):(rt cell x y).set i z=rt cell x z:=by
  subst hi;rw[rt,rt,List.set_append_right _ _ (by simp[h])]
  simp[h]
def notP(t:Tab)(k:Nat):List Bool:=(t.acc.take k).map not
theorem zws{t:Tab}{k:Nat}(h:k<=t.acc.length):(notP t k).length=k:=by rw[notP,List.length_map,List.length_take];omega
attribute [local irreducible] eG z12 zl au gz cr rt dz lc af notP
noncomputable def Uu:Ctx:={ P:=Tryd.prog,ty:=ty,glob:=gl,fs:=[(44,.data Pg),(42,.flat NK),(43,.data um)] }
theorem M0:Uu.OK:=⟨dS,⟨⟨bX Tryd.func44 aN rfl,Rp⟩,⟨bX Tryd.func42 aN rfl,PZ⟩,⟨bX Tryd.func43 aN rfl,Q6⟩,trivial⟩,mixed⟩
@[simp] theorem Uv:Uu.ty=ty:=rfl

def Tu:aW:=fun vs K=>∃ t:Tab,vs=[jw t]/\t.fit/\K (lX (lU (af ((aD t).lang 0))))
theorem YD:jr Tryd.prog gl 50 Tu:=by
 refine kJ (Γ:=Uu) (N:=13) Tryd.func50 rfl rfl fun vs K h=>?_;obtain⟨t,rfl,ht,h⟩:=h;refine⟨_,h,ib _,by simp,fun w I=>?_⟩
 have ht0:=ht
 obtain⟨hok,hlen,hnc⟩:=ht0
 have hcl:=hok.clen
 refine aO M0 fun _ K2=>?_
 iterate 3 refine MZ ?_
 refine aJ K2 (fQ [0] (fun _=>1) [(1,.c (.dp (eT t) 0)),(2,.c (.ptr 0 0))] [(0,.own 30 (.cells [.nils,.nils,.nils]) 3)] 1 [1] qD qD qD qD (aO M0 fun _ K4=>y4u ?_));refine aU (jw t) (SV.as_refl _) (y4u ?_);refine aI (lI t) (lJ t ⟨t,rfl,ht,?_⟩);obtain⟨d,hd⟩:∃ d,d=af ((aD t).lang 0):=⟨_,rfl⟩;rw[<-hd]
 simp only[q8]
 refine tK ?_
 first|refine aL ?_|(intro cap1 hcap1;refine aL ?_)
 refine MZ ?_;refine zu2 ?_;refine aJ K4 (aH fun _ K5=>aO M0 fun _ K7=>?_)
 iterate 4 refine MZ ?_
 refine aJ K7 (bC (b:=_) rfl (fun h_t10=>?_) (fun h_t10=>?_))
 ·try simp only[dQ,reduceIte]at h_t10
  refine aO M0 fun _ K9=>MZ ?_;refine zu2 ?_;refine MZ ?_;refine aJ K9 ?_;rw[<-hd,lU,if_pos (by omega)];refine bQ (gT M0 (fun _ _ h=>h) (ib _) [] [.cell 2 30,.tmp 3] rfl ?_)
  repeat first|refine aI (by first|exact trivial|rfl|exact⟨rfl,rfl⟩|decide) ?_|refine bW (by first|rfl|decide) ?_|refine dC (by first|rfl|decide) ?_
  all_goals exact qD
 ·try simp only[dQ,reduceIte]at h_t10
  refine bK (K5 _ _ _ (aO M0 fun _ K11=>MZ ?_));refine zu2 ?_;refine MZ ?_;refine aJ K11 ?_;rw[<-hd,lU,if_neg (by omega)];refine bQ (gT M0 (fun _ _ h=>h) (ib _) [] [.cell 2 30,.tmp 3] rfl ?_)
  repeat first|refine aI (by first|exact trivial|rfl|exact⟨rfl,rfl⟩|decide) ?_|refine bW (by first|rfl|decide) ?_|refine dC (by first|rfl|decide) ?_
  all_goals exact qD


end Go.Proofs.YtpdljmohhpbkpaaDoor

namespace Go.Proofs.YtpdljmohhpbkpaaDoor
open Go.Ab Go.RowKit

open Go.Aut
attribute [local irreducible] aA jL
def Oc(a b:Tab)(p x:Nat):Nat:=(aD a).δ (p / b.next.length) (cN a x)*b.next.length+(aD b).δ (p%b.next.length) (cN b x)
def jD(a b:Tab)(p m:Nat):List Int:=((aA (cN a) (cN b)).take m).map fun x=>((Oc a b p x:Nat):Int)
def pY(a b:Tab)(p:Nat):List (List Int):=(List.range p).map fun q=>jD a b q (aA (cN a) (cN b)).length
def jQ(op:Bool->Bool->Bool)(a b:Tab)(p:Nat):List Bool:=(List.range p).map fun q=>op (a.acc.getD (q / b.next.length) false) (b.acc.getD (q%b.next.length) false)
def oW(op:Bool->Bool->Bool)(a b:Tab):Tab:={ cell:=jL a b 256,nc:=(aA (cN a) (cN b)).length,next:=pY a b (a.next.length*b.next.length),acc:=jQ op a b (a.next.length*b.next.length) }
@[simp] theorem WV(a b:Tab)(p:Nat):(pY a b p).length=p:=by simp[pY]
@[simp] theorem zh6(op:Bool->Bool->Bool)(a b:Tab)(p:Nat):(jQ op a b p).length=p:=by simp[jQ]
theorem My{a b:Tab}{p m:Nat}(h:m<=(aA (cN a) (cN b)).length):(jD a b p m).length=m:=by rw[jD,List.length_map,List.length_take];omega
theorem zu3(a b:Tab)(p:Nat):pY a b p++[jD a b p (aA (cN a) (cN b)).length]=pY a b (p+1):=by simp[pY,List.range_succ]
theorem UR{i j n:Nat}(h:j< n):(i*n+j) / n=i:=by rw[Nat.mul_comm,Nat.mul_add_div (by omega),Nat.div_eq_of_lt h,Nat.add_zero]
theorem US{i j n:Nat}(h:j< n):(i*n+j)%n=j:=by rw[Nat.mul_comm,Nat.mul_add_mod,Nat.mod_eq_of_lt h]
theorem zyf{op:Bool->Bool->Bool}{a b:Tab}{i j:Nat}(h:j< b.next.length):jQ op a b (i*b.next.length+j)++([]++[op (a.acc.getD i false) (b.acc.getD j false)])=jQ op a b (i*b.next.length+(j+1)):=by
  rw[<-Nat.add_assoc]
  simp only[jQ,List.range_succ,List.map_append,List.map_cons,List.map_nil,List.nil_append,UR h,US h]
theorem zyg{a b:Tab}{i j k:Nat}(h:j< b.next.length)(hk:k< (aA (cN a) (cN b)).length):jD a b (i*b.next.length+j) k++([]++[(((aD a).δ i (cN a ((aA (cN a) (cN b)).getD k 0))*b.next.length+(aD b).δ j (cN b ((aA (cN a) (cN b)).getD k 0)):Nat):Int)])=jD a b (i*b.next.length+j) (k+1):=by
  rw[jD,jD,List.take_add_one,jB (d:=0) hk,List.map_append]
  simp only[Option.toList,List.map_cons,List.map_nil,List.nil_append,Oc,UR h,US h]
theorem rP{i j m n:Nat}(hi:i< m)(hj:j< n):i*n+j< m*n:=by
  have:(i+1)*n<=m*n:=Nat.mul_le_mul_right _ hi
  rw[Nat.succ_mul]at this
  omega
theorem zm{m n:Nat}(hm:m<=64)(hn:n<=64):m*n<=4096:=Nat.mul_le_mul hm hn
theorem Kl{a b:Tab}(ha:a.ok)(hb:b.ok){p x:Nat}(hp:p< a.next.length*b.next.length)(hx:x< 256):Oc a b p x< a.next.length*b.next.length:=by
  have h1:p / b.next.length< a.next.length:=Nat.div_lt_of_lt_mul (by rw[Nat.mul_comm];exact hp)
  have h2:p%b.next.length< b.next.length:=Nat.mod_lt _ hb.npos
  exact rP (bz ha h1 (av ha hx).1).1 (bz hb h2 (av hb hx).1).1
theorem Kn{op:Bool->Bool->Bool}{a b:Tab}(ha:a.ok)(hb:b.ok):(oW op a b).ok:=by
  have hl:(oW op a b).next.length=a.next.length*b.next.length:=WV _ _ _
  refine⟨fI a b 256,fun x hx=>?_,by rw[hl];exact Nat.mul_pos ha.npos hb.npos,by rw[hl];exact zh6 _ _ _ _,fun r hr=>?_,fun c hc=>?_⟩
  · have:=(gF a b).cl x hx
    exact this
  · obtain⟨p,hp,rfl⟩:=List.mem_map.1 hr
    have hp:=List.mem_range.1 hp
    refine⟨My (Nat.le_refl _),fun x hx=>?_⟩;obtain⟨y,hy,rfl⟩:=List.mem_map.1 hx;rw[List.take_length]at hy
    have hy2:y< 256:=(gF a b).byte y hy
    have:=Kl ha hb hp hy2
    rw[hl];omega
  · have:=(gF a b).on c hc
    exact this
theorem Km(op:Bool->Bool->Bool)(a b:Tab):(oW op a b).nc<=256:=by
  show(aA (cN a) (cN b)).length<=256
  exact y2c a b
theorem y4v{op:Bool->Bool->Bool}{a b:Tab}(ha:a.fit)(hb:b.fit)(h64:a.next.length<=64/\b.next.length<=64):(oW op a b).fit:=
  ⟨Kn ha.1 hb.1,by show(pY a b _).length<=_;rw[WV];have:=zm h64.1 h64.2;omega,Km op a b⟩
theorem zk{op:Bool->Bool->Bool}{a b:Tab}{s q x:Nat}(hs:s< a.next.length)(hq:q< b.next.length)(hx:x< 256):(aD (oW op a b)).δ (s*b.next.length+q) ((aD (oW op a b)).cell x)=(aD a).δ s ((aD a).cell x)*b.next.length+(aD b).δ q ((aD b).cell x):=by
  obtain⟨h0,r,h1,h2,h3,_⟩:=(gF a b).at' x hx
  show(((pY a b (a.next.length*b.next.length)).getD (s*b.next.length+q) []).getD ((jL a b 256).getD x 0).toNat 0).toNat=_
  rw[pY,iy (rP hs hq),jD,List.take_length,List.getD_eq_getElem?_getD,List.getElem?_map,jB (d:=0) h0,h1]
  show((Oc a b (s*b.next.length+q) r:Nat):Int).toNat=_
  rw[Int.toNat_natCast,Oc,UR hq,US hq,h2,h3];rfl
theorem y4w{op:Bool->Bool->Bool}{a b:Tab}(ha:a.ok)(hb:b.ok):∀ (w:List Nat) (s q:Nat),Bytes w->s< a.next.length->q< b.next.length->(aD (oW op a b)).run (s*b.next.length+q) w=(aD a).run s w*b.next.length+(aD b).run q w
  |[],_,_,_,_,_=>rfl
  | x::w,s,q,hw,hs,hq=>by
    have hx:=hw x List.mem_cons_self
    show(aD (oW op a b)).run ((aD (oW op a b)).δ (s*b.next.length+q) ((aD (oW op a b)).cell x)) w=_
    rw[zk hs hq hx,y4w ha hb w _ _ (fun y hy=>hw y (List.mem_cons_of_mem _ hy)) (bz ha hs (av ha hx).1).1 (bz hb hq (av hb hx).1).1];rfl
theorem zwv{op:Bool->Bool->Bool}{a b:Tab}(ha:a.ok)(hb:b.ok){w:List Nat}(hw:Bytes w):(aD (oW op a b)).lang 0 w=op ((aD a).lang 0 w) ((aD b).lang 0 w):=by
  have h1:=Br ha w 0 hw ha.npos
  have h2:=Br hb w 0 hw hb.npos
  have h3:=y4w (op:=op) ha hb w 0 0 hw ha.npos hb.npos
  rw[Nat.zero_mul]at h3
  show(jQ op a b _).getD ((aD (oW op a b)).run 0 w) false=op (a.acc.getD _ false) (b.acc.getD _ false)
  rw[h3,jQ,iy (rP h1 h2),UR h2,US h2]

end Go.Proofs.YtpdljmohhpbkpaaDoor
