/- Contracts of functions and plain facts, part 12. -/
import Derived.Test.YtpdljmohhpbkpaaDoorNk
import Derived.Test.YtpdljmohhpbkpaaDoorNb
import Derived.Test.YtpdljmohhpbkpaaDoorNj
set_option linter.all false
set_option maxHeartbeats 1000000
set_option maxRecDepth 4000
namespace Go.Proofs.YtpdljmohhpbkpaaDoor
open Go.Ab Go.RowKit

open Go.Aut
def qC(t:Tab)(x:UInt64)(b k:Nat):UInt64:=(List.range k).foldl (fun a q=>if bit x q=true then a ||| iK 1 ((aD t).δ q (cN t b))else a) 0
def iO(t:Tab)(x:UInt64)(b:Nat):UInt64:=qC t x b t.next.length
theorem NI(t:Tab)(x:UInt64)(b k:Nat):qC t x b (k+1)=if bit x k=true then qC t x b k ||| iK 1 ((aD t).δ k (cN t b))else qC t x b k:=by
  rw[qC,List.range_succ,List.foldl_append];rfl
def uu(t:Tab)(x:UInt64)(k:Nat):Bool:=(List.range k).any fun q=>t.acc.getD q false&&bit x q
def iV(t:Tab)(x:UInt64):Bool:=uu t x t.acc.length
theorem Po(t:Tab)(x:UInt64)(k:Nat):uu t x (k+1)=(uu t x k||(t.acc.getD k false&&bit x k)):=by simp[uu,List.range_succ]
theorem y2o (x:UInt64) (q:Nat):decide (iD x q &&& 1=1)=bit x q:=by
  have h1:bit (iD x q) 0=bit x q:=by
    unfold iD
    by_cases hq:q< 64
    · rw[if_pos hq,NG,NG,UInt64.toNat_shiftRight,Nat.testBit_shiftRight]
      congr 1
      have:(q.toUInt64).toNat=q:=by
        show q%18446744073709551616=q
        omega
      rw[this];omega
    · rw[if_neg hq,NF,UF (by omega)]
  rw[<-h1,Bool.eq_iff_iff,decide_eq_true_eq]
  constructor
  · intro h
    have:=congrArg (fun y=>bit y 0) h
    simp only[T3,ZG]at this
    simpa using this
  · intro h
    refine ZF fun s hs=>?_;rw[T3,ZG]
    by_cases e:s=0
    · subst e;rw[h];rfl
    · simp[e]
theorem G6 {t:Tab} (ht:t.ok) (h64:t.next.length<=64) {x:UInt64} {b:Nat} {k q:Nat} (hk:k<=t.next.length):bit (qC t x b k) q=true↔∃ r,r< k/\bit x r=true/\(aD t).δ r (cN t b)=q:=by
  have hc:cN t b< t.nc:=by
    rcases Nat.lt_or_ge b 256 with h|h
    · exact(av ht h).1
    · have:cN t b=0:=by
        show(t.cell.getD b 0).toNat=0
        rw[List.getD_eq_getElem?_getD,List.getElem?_eq_none (by rw[ht.clen];exact h)];rfl
      rw[this];exact Tab.nc_pos ht
  induction k with
  |zero=>exact⟨fun h=>(by rw[show qC t x b 0=0 from rfl,NF]at h;cases h),fun⟨r,hr,_⟩=>absurd hr (Nat.not_lt_zero r)⟩
  | succ k ih=>
    have ih:bit (qC t x b k) q=true↔∃ r,r< k/\bit x r=true/\(aD t).δ r (cN t b)=q:=ih (by omega)
    have hd:=(bz ht (show k< t.next.length by omega) hc).1
    rw[NI]
    by_cases hb:bit x k=true
    · rw[if_pos hb,xG,Bool.or_eq_true,ih,Pj,Bool.and_eq_true,decide_eq_true_eq,decide_eq_true_eq]
      constructor
      · rintro (⟨r,h1,h2⟩|⟨e,_⟩)
        · exact⟨r,by omega,h2⟩
        · exact⟨k,by omega,hb,e.symm⟩
      · rintro ⟨r,h1,h2,h3⟩
        by_cases e:r=k
        · subst e;exact .inr ⟨h3.symm,by omega⟩
        · exact .inl ⟨r,by omega,h2,h3⟩
    · rw[if_neg hb,ih]
      constructor
      · rintro ⟨r,h1,h2⟩;exact⟨r,by omega,h2⟩
      · rintro ⟨r,h1,h2,h3⟩
        have:r≠k:=fun e=>hb (e▸h2)
        exact⟨r,by omega,h2,h3⟩
def memT(t:Tab)(x:UInt64)(q:Nat):Prop:=q< t.next.length/\bit x q=true
theorem CY {t:Tab} (ht:t.ok) (h64:t.next.length<=64) {x:UInt64} {b q:Nat}:memT t (iO t x b) q↔∃ r,memT t x r/\(aD t).δ r (cN t b)=q:=by
  have hc:cN t b< t.nc:=by
    rcases Nat.lt_or_ge b 256 with h|h
    · exact(av ht h).1
    · have:cN t b=0:=by
        show(t.cell.getD b 0).toNat=0
        rw[List.getD_eq_getElem?_getD,List.getElem?_eq_none (by rw[ht.clen];exact h)];rfl
      rw[this];exact Tab.nc_pos ht
  rw[memT,iO,G6 ht h64 (Nat.le_refl _)]
  constructor
  · rintro ⟨_,r,h1,h2,h3⟩;exact⟨r,⟨h1,h2⟩,h3⟩
  · rintro ⟨r,⟨h1,h2⟩,rfl⟩;exact⟨(bz ht h1 hc).1,r,h1,h2,rfl⟩
theorem Ye{t:Tab}(ht:t.ok){x:UInt64}:iV t x=true↔∃ q,memT t x q/\t.acc.getD q false=true:=by
  rw[iV,uu,List.any_eq_true]
  constructor
  · rintro ⟨q,hq,h⟩
    rw[Bool.and_eq_true]at h;exact⟨q,⟨by rw[<-ht.alen];exact List.mem_range.1 hq,h.2⟩,h.1⟩
  · rintro ⟨q,⟨h1,h2⟩,h3⟩
    exact⟨q,List.mem_range.2 (by rw[ht.alen];exact h1),by rw[h2,h3];rfl⟩
theorem ZX{t:Tab}(ht:t.ok){x:UInt64}{q:Nat}:memT t (x ||| 1) q↔memT t x q\/q=0:=by
  rw[memT,memT,xG,ZG,Bool.or_eq_true,decide_eq_true_eq]
  constructor
  · rintro ⟨h1,h2|h2⟩
    · exact .inl ⟨h1,h2⟩
    · exact .inr h2
  · rintro (⟨h1,h2⟩|h2)
    · exact⟨h1,.inl h2⟩
    · exact⟨by rw[h2];exact ht.npos,.inr h2⟩
theorem zw4{t:Tab}{q:Nat}:¬ memT t 0 q:=fun h=>by have:=h.2;rw[NF]at this;cases this
def lS(x:Tab)(s:ah):ah:=if x.acc.getD s.1 false=true then(s.1,s.2.1,s.2.2 ||| 1)else s
def aV(x y:Tab)(s:ah)(c:Nat):ah:=lS x ((aD x).δ s.1 (cN x c),0,iO y s.2.2 c)
def d9(y:Tab)(s:ah):Bool:=iV y s.2.2
def aX(x:Tab):ah:=lS x (0,0,0)
theorem J2(x:Tab)(s:ah):(lS x s).1=s.1/\(lS x s).2.1=s.2.1:=by unfold lS;split<;>exact⟨rfl,rfl⟩
theorem zw5{x y:Tab}(hy:y.ok)(s:ah)(q:Nat):memT y (lS x s).2.2 q↔memT y s.2.2 q\/(x.acc.getD (lS x s).1 false=true/\q=0):=by
  rw[(J2 x s).1];unfold lS
  by_cases h:x.acc.getD s.1 false=true
  · rw[if_pos h,ZX hy]
    exact⟨fun h2=>h2.elim .inl fun e=>.inr ⟨h,e⟩,fun h2=>h2.elim .inl fun e=>.inr e.2⟩
  · rw[if_neg h]
    exact⟨.inl,fun h2=>h2.elim id fun e=>absurd e.1 h⟩
def nE(x:Tab)(s:ah):Prop:=s.1< x.next.length/\s.2.1=0
theorem xR{x:Tab}(hx:x.ok):nE x (aX x):=⟨by rw[aX,(J2 _ _).1];exact hx.npos,by rw[aX,(J2 _ _).2]⟩
theorem UN{x y:Tab}(hx:x.fit){s:ah}{c:Nat}(hs:nE x s)(hc:c< 256):nE x (aV x y s c):=
  ⟨by rw[aV,(J2 _ _).1];exact(bz hx.1 hs.1 (av hx.1 hc).1).1,by rw[aV,(J2 _ _).2]⟩
theorem DK{x:Tab}(hx:x.fit){s:ah}(hs:nE x s):Mc s:=⟨by have:=hs.1;have:=hx.2.1;omega,by have:=hs.2;omega⟩
theorem zqt{y:Tab}{s:UInt64}{c r:Nat}(h:cN y r=cN y c):iO y s r=iO y s c:=by
  unfold iO qC;rw[h]
theorem Pd{x y:Tab}(s:ah){c:Nat}(hc:c< 256):aC (aV x y) (aA (cN x) (cN y)) s ((jL x y 256).getD c 0).toNat=aV x y s c:=by
  obtain⟨_,r,h1,h2,h3,_⟩:=(gF x y).at' c hc;rw[aC,h1,aV,aV,h2,zqt h3]
theorem xU{x y:Tab}(hx:x.fit)(hy:y.fit)(h64:y.next.length<=64){w:List Nat}(hw:Bytes w):d9 y (bZ (aV x y) (aX x) w)=kL ((aD x).lang 0) ((aD y).lang 0) w:=by
  have hm:=DN (g:=aV x y) (s0:=aX x) (mem:=fun s q=>memT y s.2.2 q) (dx:=fun p c=>(aD x).δ p (cN x c)) (dy:=fun p c=>(aD y).δ p (cN y c)) (ax:=fun q=>x.acc.getD q false) (p:=fun s=>s.1)
    (by rw[aX,(J2 _ _).1]) (fun s b=>by rw[aV,(J2 _ _).1]) (fun q=>by
      rw[aX,zw5 hy.1,(J2 _ _).1]
      exact⟨fun h=>h.elim (fun h=>absurd h zw4) id,.inr⟩) (fun s b q=>by
      rw[aV,zw5 hy.1]
      exact or_congr (CY hy.1 h64) Iff.rfl) w
  rw[Bool.eq_iff_iff,d9,Ye hy.1,Y4]
  have h2:=DL (g:=aV x y) (s0:=aX x) (mem:=fun s q=>memT y s.2.2 q) (dx:=fun p c=>(aD x).δ p (cN x c)) (dy:=fun p c=>(aD y).δ p (cN y c)) (ax:=fun q=>x.acc.getD q false) (ay:=fun q=>y.acc.getD q false) (w:=w) hm.2
  rw[h2]
  have e1:(fun u=>x.acc.getD (bZ (fun p c=>(aD x).δ p (cN x c)) 0 u) false)=(aD x).lang 0:=funext fun u=>(Ms (aD x) u).symm
  have e2:(fun u=>y.acc.getD (bZ (fun p c=>(aD y).δ p (cN y c)) 0 u) false)=(aD y).lang 0:=funext fun u=>(Ms (aD y) u).symm
  rw[e1,e2]
def ae(x:Tab)(s:ah)(c:Nat):ah:=(0,0,if iV x (iO x s.2.2 c)=true then iO x s.2.2 c ||| 1 else iO x s.2.2 c)
def fG(x:Tab)(s:ah):Bool:=decide (s.1=1)||iV x s.2.2
def sV(s:ah):Prop:=s.1<=1/\s.2.1=0
theorem WG(x:Tab)(s:ah)(c:Nat):sV (ae x s c):=⟨Nat.zero_le _,rfl⟩
theorem GY{s:ah}(hs:sV s):Mc s:=⟨by have:=hs.1;omega,by have:=hs.2;omega⟩
theorem Xu{x:Tab}(s:ah){c:Nat}(hc:c< 256):aC (ae x) (aA (cN x) (cN x)) s ((jL x x 256).getD c 0).toNat=ae x s c:=by
  obtain⟨_,r,h1,h2,_,_⟩:=(gF x x).at' c hc;rw[aC,h1,ae,ae,zqt h2]
theorem zw7(x:Tab):∀ (w:List Nat) (s:ah),w≠[]->(bZ (ae x) s w).1=0
  |[],_,h=>absurd rfl h
  |[c],s,_=>rfl
  |c::d::w,s,_=>zw7 x (d::w) (ae x s c) (by simp)
theorem BM {x:Tab} (hx:x.fit) (h64:x.next.length<=64) {w:List Nat} (hw:Bytes w):fG x (bZ (ae x) (1,0,1) w)=iL ((aD x).lang 0) w:=by
  have e1:(fun u=>x.acc.getD (bZ (fun p c=>(aD x).δ p (cN x c)) 0 u) false)=(aD x).lang 0:=funext fun u=>(Ms (aD x) u).symm
  rw[Bool.eq_iff_iff,Sa]
  cases w with
  |nil=>exact⟨fun _=>iQ.nil _,fun _=>rfl⟩
  | cons c w=>
    have hm :=BO (g:=ae x) (s0:=((1,0,1):ah)) (mem:=fun s q=>memT x s.2.2 q) (d:=fun p c=>(aD x).δ p (cN x c)) (a:=fun q=>x.acc.getD q false)
      (fun q=>by
        have:=ZX hx.1 (x:=0) (q:=q)
        rw[show(0 ||| 1:UInt64)=1 from rfl]at this;rw[this]
        exact⟨fun h=>h.elim (fun h=>absurd h zw4) id,.inr⟩)
      (fun s b q=>by
        show memT x (if iV x (iO x s.2.2 b)=true then iO x s.2.2 b ||| 1 else iO x s.2.2 b) q↔_
        have hs:=Ye hx.1 (x:=iO x s.2.2 b)
        have hiff:iV x (iO x s.2.2 b)=true↔∃ r,memT x s.2.2 r/\x.acc.getD ((aD x).δ r (cN x b)) false=true:=by
          rw[hs]
          constructor
          · rintro ⟨q,hq,ha⟩
            obtain⟨r,hr,rfl⟩:=(CY hx.1 h64).1 hq;exact⟨r,hr,ha⟩
          · rintro ⟨r,hr,ha⟩
            exact⟨_,(CY hx.1 h64).2 ⟨r,hr,rfl⟩,ha⟩
        by_cases h:iV x (iO x s.2.2 b)=true
        · rw[if_pos h,ZX hx.1,CY hx.1 h64]
          exact or_congr Iff.rfl ⟨fun e=>⟨e,hiff.1 h⟩,fun e=>e.1⟩
        · rw[if_neg h,CY hx.1 h64]
          exact⟨.inl,fun h2=>h2.elim id fun e=>absurd (hiff.2 e.2) h⟩) (c::w)
    have h2:=BN (g:=ae x) (s0:=((1,0,1):ah)) (mem:=fun s q=>memT x s.2.2 q) (d:=fun p c=>(aD x).δ p (cN x c)) (a:=fun q=>x.acc.getD q false) (show c::w≠[] by simp) hm
    rw[e1]at h2;rw[<-h2,fG,zw7 x (c::w) _ (by simp)]
    simp only[decide_eq_false (show ¬ (0:Nat)=1 by decide),Bool.false_or]
    exact Ye hx.1
theorem Bn{d:Dfa}(h:d.good):(af (aT d)).good/\∀ w,Bytes w->aT (af (aT d)) w=aT d w:=by
  obtain⟨h1,h2,h3⟩:=zuz h.1;exact⟨⟨h1,Nat.le_trans h3 h.2⟩,fun w hw=>zq0 h2 hw⟩
attribute [local irreducible] dm
theorem Iz{g:ah->Nat->ah}{acc:ah->Bool}{a b:Tab}{s0:ah}{L:List Nat->Bool}{m:Nat}(hm:m<=65535)(hc:∀ s x,x< 256->aC g (aA (cN a) (cN b)) s ((jL a b 256).getD x 0).toNat=g s x)(hL:∀ w,Bytes w->acc (bZ g s0 w)=L w)
    (h:¬ Big (aC g (aA (cN a) (cN b))) (aA (cN a) (cN b)).length s0 m):(jf g acc (jL a b 256) (aA (cN a) (cN b)) s0 m).1.fit/\(jf g acc (jL a b 256) (aA (cN a) (cN b)) s0 m).2=true/\af ((aD (jf g acc (jL a b 256) (aA (cN a) (cN b)) s0 m).1).lang 0)=af L:=by
  obtain⟨n,hn,hle⟩:=ZT h
  have hn0:0< n:=by
    rcases Nat.eq_zero_or_pos n with e|e
    · subst e
      have:=hn.len
      have h2:=Sr (f:=aC g (aA (cN a) (cN b))) (nc:=(aA (cN a) (cN b)).length) (b0:=s0) (0*(aA (cN a) (cN b)).length)
      omega
    · exact e
  have hj:=gF a b
  rw[jf,if_neg h,Nl hn];refine⟨⟨y0g hn hn0 (fI a b 256) hj.cl hj.on,?_,hj.max⟩,rfl,CK fun w hw=>?_⟩
  · show(bP _ _ _ n).length<=65535
    rw[vY];omega
  · rw[zqa (g:=g) hn hn0 (fun x hx=>(hj.at' x hx).1) (fun s x hx=>hc s x hx) hw]
    exact hL w hw
theorem D8{g:ah->Nat->ah}{acc:ah->Bool}{cell:List Int}{bytes:List Nat}{s0:ah}{m:Nat}(h:Big (aC g bytes) bytes.length s0 m):jf g acc cell bytes s0 m=(JQ,false):=by rw[jf,if_pos h]
open Classical in
noncomputable def z44(d e:Dfa):Dfa×Nat:=if eQ d=true/\eQ e=true then
  (if Big (aC (aV (ag (af (aT d))) (ag (af (aT e)))) (aA (cN (ag (af (aT d)))) (cN (ag (af (aT e)))))) (aA (cN (ag (af (aT d)))) (cN (ag (af (aT e))))).length (aX (ag (af (aT d)))) 4096 then(uA,2)else lU (af (kL (aT d) (aT e)))) else(uA,1)
open Classical in
noncomputable def kI(d:Dfa):Dfa×Nat:=if eQ d=true then
  (if Big (aC (ae (ag (af (aT d)))) (aA (cN (ag (af (aT d)))) (cN (ag (af (aT d)))))) (aA (cN (ag (af (aT d)))) (cN (ag (af (aT d))))).length (1,0,1) 4096 then(uA,2)else lU (af (iL (aT d)))) else(uA,1)

end Go.Proofs.YtpdljmohhpbkpaaDoor

namespace Go.Proofs.YtpdljmohhpbkpaaDoor
open Go.Ab Go.RowKit

section
variable {a b:Prop}
theorem uH(h:a:=by first|exact gG|(simp[-List.reduceReplicate]<;>omega)|(show(_:Nat)< 3;decide)|(show(_:Nat)< 1;decide)|(show(_:Nat)<=3;decide)|exact vV|exact gH):a:=h
theorem uI(h:a:=by first|exact gG|(simp[-List.reduceReplicate]<;>omega)|(show(_:Nat)< 3;decide)|(show(_:Nat)< 1;decide)|(show(_:Nat)<=3;decide)|exact RZ|exact gH):a:=h
theorem nV(h:a:=by first|exact trivial|rfl|(show(_:Nat)<=3;decide)|(show(_:Nat)< 3;decide)|decide):a:=h
theorem uJ(h:a:=by first|exact gG|(simp[-List.reduceReplicate]<;>omega)|(show(_:Nat)< 3;decide)|(show(_:Nat)< 1;decide)|(show(_:Nat)<=3;decide)|exact RZ|exact Vp|exact gH):a:=h
theorem uK(h:a:=by first|exact gG|(simp[-List.reduceReplicate]<;>omega)|(show(_:Nat)< 3;decide)|(show(_:Nat)< 1;decide)|(show(_:Nat)<=3;decide)|exact Vp|exact gH):a:=h
theorem z38(h:a:=by
    repeat' (first|exact z42 _|exact pT|exact trivial|refine aI ?_ ?_|exact iM|refine low_cons' ?_ ?_|exact iN|fail)
    all_goals first|omega|(show(_:List UInt64)=_;first|assumption|rfl)|(show(0:Nat)< (au _ _ _ _).length;rw[dJ hcl];decide)|(simp[-List.reduceReplicate];done)|(simp[-List.reduceReplicate]<;>omega)|skip):a:=h
theorem J3(kZ:b)(h:aK b->a:=by intro kZ;(repeat first|refine aI uH ?_|refine bW uH ?_|refine dC uH ?_|refine fT uH ?_|refine fA ?_);exact kZ.out):a:=h ⟨kZ⟩
theorem z34(kZ:b)(h:aK b->a:=by intro kZ;refine sX ?_;refine J3 ?_;refine aL ?_;exact kZ.out):a:=h ⟨kZ⟩
theorem QG(kZ:b)(h:aK b->a:=by intro kZ;refine dX ?_;refine J3 ?_;refine aL ?_;exact kZ.out):a:=h ⟨kZ⟩
theorem yM(kZ:b)(h:aK b->a:=by intro kZ;refine pu ?_;refine J3 ?_;refine aL ?_;exact kZ.out):a:=h ⟨kZ⟩
theorem A9(kZ:b)(h:aK b->a:=by intro kZ;refine jl ?_;refine J3 ?_;refine aL ?_;exact kZ.out):a:=h ⟨kZ⟩
theorem zw8(kZ:b)(h:aK b->a:=by intro kZ;refine mX ?_;refine J3 ?_;refine aL ?_;exact kZ.out):a:=h ⟨kZ⟩
theorem J4(kZ:b)(h:aK b->a:=by intro kZ;(repeat first|refine aI uI ?_|refine bW uI ?_|refine dC uI ?_|refine fT uI ?_|refine fA ?_);exact kZ.out):a:=h ⟨kZ⟩
theorem qc(kZ:b)(h:aK b->a:=by intro kZ;refine sX ?_;refine J4 ?_;refine aL ?_;exact kZ.out):a:=h ⟨kZ⟩
theorem Lx(kZ:b)(h:aK b->a:=by intro kZ;refine jl ?_;refine J4 ?_;refine aL ?_;exact kZ.out):a:=h ⟨kZ⟩
theorem MV(kZ:b)(h:aK b->a:=by intro kZ;(repeat first|refine aI uJ ?_|refine bW uJ ?_|refine dC uJ ?_|refine fT uJ ?_|refine fA ?_);exact kZ.out):a:=h ⟨kZ⟩
theorem Al(kZ:b)(h:aK b->a:=by intro kZ;refine sX ?_;refine MV ?_;refine aL ?_;exact kZ.out):a:=h ⟨kZ⟩
theorem MB(kZ:b)(h:aK b->a:=by intro kZ;refine dX ?_;refine MV ?_;refine aL ?_;exact kZ.out):a:=h ⟨kZ⟩
theorem y2q(kZ:b)(h:aK b->a:=by intro kZ;refine pu ?_;refine MV ?_;refine aL ?_;exact kZ.out):a:=h ⟨kZ⟩
theorem ZY(kZ:b)(h:aK b->a:=by intro kZ;(repeat first|refine aI uK ?_|refine bW uK ?_|refine dC uK ?_|refine fT uK ?_|refine fA ?_);exact kZ.out):a:=h ⟨kZ⟩
theorem Yf(kZ:b)(h:aK b->a:=by intro kZ;refine sX ?_;refine ZY ?_;refine aL ?_;exact kZ.out):a:=h ⟨kZ⟩
theorem y2r(kZ:b)(h:aK b->a:=by intro kZ;refine mX ?_;refine J4 ?_;refine aL ?_;exact kZ.out):a:=h ⟨kZ⟩
theorem Mx(kZ:b)(h:aK b->a:=by intro kZ;refine sX ?_;refine J3 ?_;exact kZ.out):a:=h ⟨kZ⟩
theorem Pe(kZ:b)(h:aK b->a:=by intro kZ;refine dX ?_;refine J3 ?_;exact kZ.out):a:=h ⟨kZ⟩
theorem zly(kZ:b)(h:aK b->a:=by intro kZ;refine mX ?_;refine J3 ?_;exact kZ.out):a:=h ⟨kZ⟩
theorem CP(kZ:b)(h:aK b->a:=by intro kZ;refine sX ?_;refine J4 ?_;exact kZ.out):a:=h ⟨kZ⟩
theorem z73(kZ:b)(h:aK b->a:=by intro kZ;refine dX ?_;refine MV ?_;exact kZ.out):a:=h ⟨kZ⟩
theorem zqu(kZ:b)(h:aK b->a:=by intro kZ;refine gX ?_;refine MV ?_;exact kZ.out):a:=h ⟨kZ⟩
theorem Xv(kZ:b)(h:aK b->a:=by intro kZ;refine sX ?_;refine ZY ?_;exact kZ.out):a:=h ⟨kZ⟩
theorem XX(kZ:b)(h:aK b->a:=by intro kZ;refine mX ?_;refine J4 ?_;exact kZ.out):a:=h ⟨kZ⟩
end
open Go.Aut
attribute [local irreducible] eG z12 zl au gz cr qC
theorem UO(x:UInt64):SV.as (.agg (.cells [.u64 x])) (.agg (.u64s [x])):=SV.as_agg (yD [x])
def Yg:aW:=fun vs K=>∃ (t:Tab) (x:UInt64) (b:Nat),vs=[bu t,.agg (.u64s [x]),.c (.int .i64 (b:Int))]/\(t.fit/\b< 256)/\K (.agg (.u64s [iO t x b]))
theorem zlz:jJ Tryd.prog gl 37 Yg:=by
 refine kU (Γ:=g0) (N:=39) Tryd.func37 rfl rfl fun vs K h=>?_;obtain⟨t,x,b,rfl,⟨ht,hb⟩,h⟩:=h;refine⟨_,h,rfl,by simp,fun w I=>?_⟩
 have ht0:=ht
 obtain⟨hok,hlen,hnc⟩:=ht0
 have hcl:=hok.clen
 refine aO aF fun _ K2=>?_
 iterate 3 refine z34 ?_
 refine aJ K2 (aO aF fun _ K4=>z34 ?_);refine aJ K4 (aH fun _ K5=>fQ [0] (fun i=>i+1) [(2,.c (.int .i64 (b:Nat))),(3,.c (.dp (dP t) 0)),(4,.c (.ptr 0 0)),(6,.c (.ptr 1 0)),(7,.c (.ptr 2 0))] [(0,.own 62 (.u64s [x]) 1),(1,.own 62 (.u64s (List.replicate 1 0)) 1),(2,.own 62 (.u64s [0]) 1)] 3 [1,2,3] z38 z38 z38 z38 (aO aF fun _ K7=>z34 ?_));refine Mx ?_;refine aU (.c (.ds t.next.length (.cells (aS t.next)))) (ak (sD hcl)) ?_
 iterate 2 refine z34 ?_
 refine aJ K7 (bO (fM (α:=Nat) (fun k=>[(2,.c (.int .i64 (b:Nat))),(3,.c (.dp (dP t) 0)),(4,.c (.ptr 0 0)),(6,.c (.ptr 1 0)),(7,.c (.ptr 2 0)),(11,.c (.int .i64 (t.next.length:Nat))),(12,.c (.int .i64 (k:Nat)))]) (fun k=>[(0,.own 62 (.u64s [x]) 1),(1,.own 62 (.u64s (List.replicate 1 0)) 1),(2,.own 62 (.u64s [qC t x b k]) 1)]) 3 (fun k=>k<=t.next.length) (fun k=>t.next.length - k) ?_ ?_))
 ·have hX1:[(0:UInt64)]=[qC t x b 0]:=by unfold qC;rfl
  refine ai [] id 0 (Nat.zero_le _) [0,1,2] z38 z38 z38 z38
 ·intro k hk;refine aO aF fun _ K9=>z34 ?_;refine aJ K9 (aH fun _ K10=>bC (b:=_) rfl (fun h_t13=>?_) (fun h_t13=>?_))
  ·try simp only[dQ,reduceIte]at h_t13
   refine bK (K10 _ _ _ (aH fun _ K11=>bO (aO aF fun _ K13=>?_)))
   iterate 2 refine z34 ?_
   refine aJ K13 ?_
   have hkl:k< t.next.length:=by omega
   refine aO aF fun _ K15=>?_
   iterate 3 refine z34 ?_
   refine Mx ?_;refine aU (.c (.u64 (iD x k))) (bq (by rw[Int.toNat_natCast];rfl)) (z34 ?_);refine Mx ?_;refine aU (.c (.bool (bit x k))) (dN (by rw[<-y2o];rfl)) (aJ K15 (bC (b:=_) rfl (fun h_t20=>?_) (fun h_t20=>?_)))
   ·have hx:=bz hok hkl (av hok hb).1
    have hrl:=oz hok hkl
    have hcb:cN t b< t.nc:=(av hok hb).1
    have hx:(aD t).δ k (cN t b)< t.next.length/\(t.next.getD k []).getD (cN t b) 0=(((aD t).δ k (cN t b):Nat):Int):=hx
    refine ry aF [(0,true),(1,true),(2,true),(3,true),(4,true),(5,true),(6,true),(7,true),(8,true),(9,true),(10,true),(11,true),(12,true),(13,true),(14,true),(15,true),(16,false)] rfl aN aN fun _ K16=>?_
    iterate 3 refine QG ?_
    refine Pe ?_;refine aU (.c (.ds t.next.length (.cells (aS t.next)))) (ak (sD hcl)) ?_
    iterate 2 refine QG ?_
    refine Pe ?_;refine aU (.c (.ds (t.next.getD k []).length (.ints .i64 (t.next.getD k [])))) (ak (oh ⟨hkl,by omega⟩)) ?_
    iterate 3 refine QG ?_
    refine Pe ?_;refine aU (.c (.int .i64 ((cN t b:Nat):Int))) (ak ((HY hcl (by first|omega|(simp;done)) hb).trans (congrArg (Cell.int IntKind.i64) (av hok hb).2))) (QG ?_);refine Pe ?_;refine aU (.c (.int .i64 ((((aD t).δ k (cN t b):Nat):Int)))) (az ((congrArg (fun i=>(t.next.getD k []).getD i 0) (by omega)).trans hx.2)) (Pe ?_);refine aU (.c (.u64 (iK 1 ((aD t).δ k (cN t b))))) (bq (by rw[Int.toNat_natCast];rfl)) ?_
    iterate 2 refine QG ?_
    refine yM ?_;refine iF K16 (dD (K11 _ _ _ (bB aF fun _ K17=>?_)))
    iterate 2 refine z34 ?_
    refine aJ K17 ?_
    have hX1:[qC t x b k ||| iK 1 ((aD t).δ k (cN t b))]=[qC t x b (k+1)]:=by rw[NI,if_pos h_t20]
    refine ai [] id (k+1) ⟨by omega,by omega⟩ [0,1,2] z38 z38 z38 z38
   ·refine bK (dD (K11 _ _ _ (bB aF fun _ K18=>?_)))
    iterate 2 refine z34 ?_
    refine aJ K18 ?_
    have hX1:[qC t x b k]=[qC t x b (k+1)]:=by rw[NI,if_neg (by rw[h_t20];decide)]
    refine ai [] id (k+1) ⟨by omega,by omega⟩ [0,1,2] z38 z38 z38 z38
  ·try simp only[dQ,reduceIte]at h_t13
   refine eY (bJ (bJ (eX (K5 _ _ _ ?_))))
   obtain rfl:k=t.next.length:=by omega
   refine aO aF fun _ K20=>z34 ?_;refine A9 ?_;refine aJ K20 (bQ (eU aF (fun _ _ h=>h) (by first|rfl|assumption) [.cell 6 62] rfl ?_));refine gV ?_
   try refine bW rfl ?_
   rfl

def WH:aW:=fun vs K=>∃ (t:Tab) (x:UInt64),vs=[bu t,.agg (.u64s [x])]/\t.fit/\K (.c (.bool (iV t x)))
theorem zwa:jJ Tryd.prog gl 40 WH:=by
 refine kU (Γ:=g0) (N:=25) Tryd.func40 rfl rfl fun vs K h=>?_;obtain⟨t,x,rfl,ht,h⟩:=h;refine⟨_,h,rfl,by simp,fun w I=>?_⟩
 have ht0:=ht
 obtain⟨hok,hlen,hnc⟩:=ht0
 have hcl:=hok.clen
 refine aO aF fun _ K2=>?_
 iterate 3 refine z34 ?_
 refine aJ K2 (aH fun _ K3=>?_)
 have hal:=hok.alen
 refine fQ [0] (fun i=>i+1) [(2,.c (.dp (dP t) 0)),(3,.c (.ptr 0 0))] [(0,.own 62 (.u64s [x]) 1)] 1 [1] z38 z38 z38 z38 (aO aF fun _ K5=>z34 ?_);refine Mx ?_;refine aU (.c (.ds t.acc.length (.bools t.acc))) (ak (JX hcl)) ?_
 iterate 2 refine z34 ?_
 refine aJ K5 (bO (fM (α:=Nat) (fun k=>[(2,.c (.dp (dP t) 0)),(3,.c (.ptr 0 0)),(8,.c (.ds t.acc.length (.bools t.acc))),(9,.c (.int .i64 (t.acc.length:Nat))),(10,.c (.int .i64 (k:Nat)))]) (fun k=>[(0,.own 62 (.u64s [x]) 1)]) 1 (fun k=>k<=t.acc.length/\uu t x k=false) (fun k=>t.acc.length - k) ?_ ?_))
 ·refine ai [] id 0 ⟨Nat.zero_le _,rfl⟩ [0] z38 z38 z38 z38
 ·intro k hk;refine aO aF fun _ K7=>z34 ?_;refine aJ K7 (aH fun _ K8=>bC (b:=_) rfl (fun h_t11=>?_) (fun h_t11=>?_))
  ·try simp only[dQ,reduceIte]at h_t11
   refine bK (K8 _ _ _ (aH fun _ K9=>bO ?_))
   have hkl:k< t.acc.length:=by omega
   refine aO aF fun _ K11=>?_
   iterate 2 refine z34 ?_
   refine Mx ?_;refine aU (.c (.bool (t.acc.getD k false))) (dN (congrArg (fun i=>t.acc.getD i false) (by omega))) ?_
   iterate 2 refine z34 ?_
   refine aJ K11 (aO aF fun _ K13=>z34 ?_);refine Mx ?_;refine fO (fun hb1=>?_) (fun hb1=>?_)
   ·try simp only[dQ,reduceIte]at hb1
    iterate 3 refine zw8 ?_
    refine zly ?_;refine aU (.c (.u64 (iD x k))) (bq (by rw[Int.toNat_natCast];rfl)) (zw8 ?_);refine zly ?_;refine aU (.c (.bool (bit x k))) (dN (by rw[<-y2o];rfl)) (z34 ?_);refine aJ K13 (bC (b:=_) rfl (fun h_t23=>?_) (fun h_t23=>?_))
    ·try simp only[dQ,reduceIte]at h_t23
     refine aO aF fun _ K15=>z34 ?_;refine aJ K15 (bQ (eU aF (fun _ _ h=>h) (by first|rfl|assumption) [.tmp 4] rfl ?_));refine gV ?_
     have hsk:iV t x=true:=by
      rw[iV,uu,List.any_eq_true];exact⟨k,List.mem_range.2 hkl,by simp_all⟩
     show SV.c (.bool true)=SV.c (.bool (iV t x))
     rw[hsk]
    ·try simp only[dQ,reduceIte]at h_t23
     refine bK (dD (K9 _ _ _ (bB aF fun _ K16=>?_)))
     iterate 2 refine z34 ?_
     refine aJ K16 ?_
     have hsk:uu t x (k+1)=false:=by rw[Po,hk.2];simp_all
     refine ai [] id (k+1) ⟨⟨by omega,hsk⟩,by omega⟩ [0] z38 z38 z38 z38
   ·try simp only[dQ,reduceIte]at hb1
    iterate 6 refine sN ?_
    refine z34 ?_;refine aJ K13 (bC (b:=_) rfl (fun h_t23=>?_) (fun _=>?_))
    ·exfalso;simp at h_t23
    refine bK (dD (K9 _ _ _ (bB aF fun _ K17=>?_)))
    iterate 2 refine z34 ?_
    refine aJ K17 ?_
    have hsk:uu t x (k+1)=false:=by rw[Po,hk.2];simp_all
    refine ai [] id (k+1) ⟨⟨by omega,hsk⟩,by omega⟩ [0] z38 z38 z38 z38
  ·try simp only[dQ,reduceIte]at h_t11
   refine eY (bJ (bJ (eX (K3 _ _ _ ?_))))
   obtain rfl:k=t.acc.length:=by omega
   refine aO aF fun _ K19=>z34 ?_;refine aJ K19 (bQ (eU aF (fun _ _ h=>h) (by first|rfl|assumption) [.tmp 4] rfl ?_));refine gV ?_
   show SV.c (.bool false)=SV.c (.bool (iV t x))
   rw[iV,hk.2]

def sH(x:Tab):Cell:=.dp (.cells [.clo 35 [jN x]]) 0
def KG:aW:=fun vs K=>∃ (x:Tab) (s:ah),vs=[jW s,.c (jN x)]/\(x.fit/\s.1< x.next.length)/\K (jW (lS x s))
theorem yC:jJ Tryd.prog gl 35 KG:=by
 refine kU (Γ:=g0) (N:=17) Tryd.func35 rfl rfl fun vs K h=>?_;obtain⟨x,s,rfl,⟨hx,hs⟩,h⟩:=h;refine⟨_,h,rfl,by simp,fun w I=>?_⟩;refine aO aF fun _ K2=>?_
 iterate 2 refine qc ?_
 refine aJ K2 (aH fun _ K3=>?_)
 have hal:=hx.1.alen
 refine aO aF fun _ K5=>qc ?_;refine CP ?_;refine aU (.c (.ds x.acc.length (.bools x.acc))) (ak (JX hx.1.clen)) (qc ?_);refine CP ?_;refine aU (.c (.int .i64 (((s.1:Nat):Int)))) (az (rfl)) (qc ?_);refine CP ?_;refine aU (.c (.bool (x.acc.getD s.1 false))) (dN (congrArg (fun i=>x.acc.getD i false) (by omega))) (aJ K5 (bC (b:=_) rfl (fun h_t9=>?_) (fun h_t9=>?_)))
 ·refine bB aF fun _ K6=>?_
  iterate 6 refine qc ?_
  refine Lx ?_;refine aJ K6 (K3 _ _ _ (aO aF fun _ K8=>qc ?_));refine Lx ?_;refine aJ K8 (bQ (eU aF (fun _ _ h=>h) (by first|rfl|assumption) [.cell 3 64] rfl ?_))
  repeat first|refine aI nV ?_|refine bW (by rfl) ?_
  rw[lS,if_pos h_t9];rfl
 ·refine bK (K3 _ _ _ (aO aF fun _ K10=>qc ?_));refine Lx ?_;refine aJ K10 (bQ (eU aF (fun _ _ h=>h) (by first|rfl|assumption) [.cell 3 64] rfl ?_))
  repeat first|refine aI nV ?_|refine bW (by rfl) ?_
  rw[lS,if_neg (by rw[h_t9];decide)];rfl

noncomputable def VO:Ctx:={ P:=Tryd.prog,ty:=ty,glob:=gl,fs:=[(35,.flat KG),(37,.flat Yg)] }
theorem WI:VO.OK:=⟨dS,⟨⟨bX Tryd.func35 aN rfl,yC⟩,⟨bX Tryd.func37 aN rfl,zlz⟩,trivial⟩,mixed⟩
@[simp] theorem VP:VO.ty=ty:=rfl

noncomputable def Qh:Ctx:={ P:=Tryd.prog,ty:=ty,glob:=gl,fs:=[(40,.flat WH)] }
theorem MW:Qh.OK:=⟨dS,⟨⟨bX Tryd.func40 aN rfl,zwa⟩,trivial⟩,mixed⟩
@[simp] theorem VQ:Qh.ty=ty:=rfl

noncomputable def VR:Ctx:={ P:=Tryd.prog,ty:=ty,glob:=gl,fs:=[(37,.flat Yg),(40,.flat WH)] }
theorem J5:VR.OK:=⟨dS,⟨⟨bX Tryd.func37 aN rfl,zlz⟩,⟨bX Tryd.func40 aN rfl,zwa⟩,trivial⟩,mixed⟩
@[simp] theorem VS:VR.ty=ty:=rfl

def xP:aW:=fun vs K=>∃ (x y:Tab) (s:ah) (c:Nat),vs=[jW s,.c (.int .i64 (c:Int)),.c (sH x),.c (jN x),.c (jN y)]/\(x.fit/\y.fit/\s.1< x.next.length/\c< 256)/\K (jW (aV x y s c))
theorem DI:jJ Tryd.prog gl 36 xP:=by
 refine kU (Γ:=VO) (N:=28) Tryd.func36 rfl rfl fun vs K h=>?_;obtain⟨x,y,s,c,rfl,⟨hx,hy,hs,hc⟩,h⟩:=h;refine⟨_,h,rfl,by simp,fun w I=>?_⟩;refine aO WI fun _ K2=>?_
 iterate 2 refine Al ?_
 refine aJ K2 ?_
 have hs1:=hs
 have hra:=oz hx.1 hs1
 have hca:cN x c< x.nc:=(av hx.1 hc).1
 have hxa:((aD x).δ s.1 (cN x c))< x.next.length/\(x.next.getD s.1 []).getD (cN x c) 0=((((aD x).δ s.1 (cN x c)):Nat):Int):=bz hx.1 hs1 (av hx.1 hc).1
 refine vR WI [(0,true),(1,true),(2,true),(3,true),(4,true),(5,true),(6,true),(7,true),(8,true),(9,true),(10,true),(11,true),(12,true),(13,true),(14,true),(15,true),(16,true),(17,false),(18,true),(19,false),(20,false)] rfl aN aN fun _ K4=>?_
 iterate 2 refine MB ?_
 refine z73 ?_;refine aU (.c (.ds x.next.length (.cells (aS x.next)))) (ak (sD hx.1.clen)) (MB ?_);refine z73 ?_;refine aU (.c (.int .i64 (((s.1:Nat):Int)))) (az (rfl)) (MB ?_);refine z73 ?_;refine aU (.c (.ds (x.next.getD s.1 []).length (.ints .i64 (x.next.getD s.1 [])))) (ak (oh ⟨hs1,by omega⟩)) ?_
 iterate 3 refine MB ?_
 refine z73 ?_;refine aU (.c (.int .i64 ((cN x c:Nat):Int))) (ak ((HY hx.1.clen (by first|omega|(simp;done)) hc).trans (congrArg (Cell.int IntKind.i64) (av hx.1 hc).2))) (MB ?_);refine z73 ?_;refine aU (.c (.int .i64 (((((aD x).δ s.1 (cN x c)):Nat):Int)))) (az ((congrArg (fun i=>(x.next.getD s.1 []).getD i 0) (by omega)).trans hxa.2)) (z73 ?_);refine aU (bu y) (SV.as_refl _) (MB ?_);refine z73 ?_;refine aU (.agg (.u64s [s.2.2])) (UO s.2.2) (MB ?_);refine zqu ?_;refine aI (lu _) (lz _ ⟨y,s.2.2,c,rfl,⟨hy,hc⟩,MV ?_⟩)
 first|refine aL ?_|(intro cap17 hcap17;refine aL ?_)
 refine z73 ?_;refine aU (jW (((aD x).δ s.1 (cN x c)),0,iO y s.2.2 c)) (bq rfl) (zqu ?_);refine aI (nT _) ⟨x,(((aD x).δ s.1 (cN x c)),0,iO y s.2.2 c),rfl,⟨hx,hxa.1⟩,MV ?_⟩
 first|refine aL ?_|(intro cap19 hcap19;refine aL ?_)
 refine y2q ?_;refine iF K4 (bQ (eU WI (fun _ _ h=>h) (by first|rfl|assumption) [.cell 7 64] rfl ?_))
 repeat first|refine aI nV ?_|refine bW (by rfl) ?_
 rfl

def xQ:aW:=fun vs K=>∃ (y:Tab) (s:ah),vs=[jW s,.c (jN y)]/\y.fit/\K (.c (.bool (d9 y s)))
theorem DJ:jJ Tryd.prog gl 39 xQ:=by
 refine kU (Γ:=Qh) (N:=8) Tryd.func39 rfl rfl fun vs K h=>?_;obtain⟨y,s,rfl,hy,h⟩:=h;refine⟨_,h,rfl,by simp,fun w I=>?_⟩;refine aO MW fun _ K2=>?_
 iterate 2 refine Yf ?_
 refine aJ K2 (aO MW fun _ K4=>Xv ?_);refine aU (bu y) (SV.as_refl _) (Yf ?_);refine Xv ?_;refine aU (.agg (.u64s [s.2.2])) (UO s.2.2) (Xv ?_);refine aI (lu _) (lz _ ⟨y,s.2.2,rfl,hy,ZY ?_⟩)
 first|refine aL ?_|(intro cap3 hcap3;refine aL ?_)
 refine Yf ?_;refine aJ K4 (bQ (eU MW (fun _ _ h=>h) (by first|rfl|assumption) [.tmp 3] rfl ?_))
 repeat first|refine aI nV ?_|refine bW (by rfl) ?_
 rfl

def BI:aW:=fun vs K=>∃ (x:Tab) (s:ah) (c:Nat),vs=[jW s,.c (.int .i64 (c:Int)),.c (jN x)]/\(x.fit/\c< 256)/\K (jW (ae x s c))
theorem GV:jJ Tryd.prog gl 51 BI:=by
 refine kU (Γ:=VR) (N:=21) Tryd.func51 rfl rfl fun vs K h=>?_;obtain⟨x,s,c,rfl,⟨hx,hc⟩,h⟩:=h;refine⟨_,h,rfl,by simp,fun w I=>?_⟩;refine aO J5 fun _ K2=>?_
 iterate 2 refine qc ?_
 refine aJ K2 (aO J5 fun _ K4=>CP ?_);refine aU (bu x) (SV.as_refl _) (qc ?_);refine CP ?_;refine aU (.agg (.u64s [s.2.2])) (UO s.2.2) (qc ?_);refine CP ?_;refine aI (lu _) (lz _ ⟨x,s.2.2,c,rfl,⟨hx,hc⟩,J4 ?_⟩)
 first|refine aL ?_|(intro cap4 hcap4;refine aL ?_)
 refine qc ?_;refine Lx ?_;refine aJ K4 (aH fun _ K5=>aO J5 fun _ K7=>CP ?_);refine aU (bu x) (SV.as_refl _) (CP ?_);refine aU (.agg (.u64s [iO x s.2.2 c])) (SV.as_refl _) (CP ?_);refine aI (lu _) (lz _ ⟨x,iO x s.2.2 c,rfl,hx,J4 ?_⟩)
 first|refine aL ?_|(intro cap2 hcap2;refine aL ?_)
 refine aJ K7 (bC (b:=_) rfl (fun h_t14=>?_) (fun h_t14=>?_))
 ·refine bB J5 fun _ K8=>?_
  iterate 4 refine qc ?_
  refine Lx ?_;refine aJ K8 (K5 _ _ _ (aO J5 fun _ K10=>?_))
  iterate 2 refine qc ?_
  refine Lx ?_;refine aJ K10 (bQ (eU J5 (fun _ _ h=>h) (by first|rfl|assumption) [.cell 5 64] rfl ?_))
  repeat first|refine aI nV ?_|refine bW (by rfl) ?_
  rw[ae,if_pos h_t14];rfl
 ·refine bK (K5 _ _ _ (aO J5 fun _ K12=>?_))
  iterate 2 refine qc ?_
  refine Lx ?_;refine aJ K12 (bQ (eU J5 (fun _ _ h=>h) (by first|rfl|assumption) [.cell 5 64] rfl ?_))
  repeat first|refine aI nV ?_|refine bW (by rfl) ?_
  rw[ae,if_neg (by rw[h_t14];decide)];rfl

def BJ:aW:=fun vs K=>∃ (x:Tab) (s:ah),vs=[jW s,.c (jN x)]/\(x.fit/\sV s)/\K (.c (.bool (fG x s)))
theorem GX:jJ Tryd.prog gl 52 BJ:=by
 refine kU (Γ:=Qh) (N:=13) Tryd.func52 rfl rfl fun vs K h=>?_;obtain⟨x,s,rfl,⟨hx,hs⟩,h⟩:=h;refine⟨_,h,rfl,by simp,fun w I=>?_⟩;refine aO MW fun _ K2=>?_
 iterate 2 refine qc ?_
 refine aJ K2 (aO MW fun _ K4=>?_)
 iterate 3 refine qc ?_
 refine CP ?_;refine fO (fun hb3=>?_) (fun hb3=>?_)
 ·try simp only[dQ,reduceIte]at hb3
  iterate 4 refine sN ?_
  iterate 2 refine qc ?_
  refine aJ K4 (bQ (eU MW (fun _ _ h=>h) (by first|rfl|assumption) [.tmp 3] rfl ?_))
  repeat first|refine aI nV ?_|refine bW (by rfl) ?_
  have e:s.1=1:=by omega
  show SV.c (.bool _)=SV.c (.bool (fG x s))
  rw[fG,decide_eq_true e];rfl
 ·try simp only[dQ,reduceIte]at hb3
  refine XX ?_;refine aU (bu x) (SV.as_refl _) (y2r ?_);refine XX ?_;refine aU (.agg (.u64s [s.2.2])) (UO s.2.2) (XX ?_);refine aI (lu _) (lz _ ⟨x,s.2.2,rfl,hx,J4 ?_⟩)
  first|refine aL ?_|(intro cap7 hcap7;refine aL ?_)
  iterate 2 refine qc ?_
  refine aJ K4 (bQ (eU MW (fun _ _ h=>h) (by first|rfl|assumption) [.tmp 3] rfl ?_))
  repeat first|refine aI nV ?_|refine bW (by rfl) ?_
  have e:¬ s.1=1:=by omega
  show SV.c (.bool _)=SV.c (.bool (fG x s))
  rw[fG,decide_eq_false e];rfl


end Go.Proofs.YtpdljmohhpbkpaaDoor

namespace Go.Proofs.YtpdljmohhpbkpaaDoor
open Go.Ab Go.RowKit

theorem Ji{a:Prop}(h:a:=by
    repeat' (first|exact trivial|refine aI ?_ ?_|rfl|omega)):a:=h
open Go.Aut
noncomputable def zI(d:Dfa):Option (List Nat):=if eQ d=true then mh (aT d)else none
noncomputable def oO(d e:Dfa):Option (List Nat):=if eQ d=true/\eQ e=true then mh (lQ (fun x y=>x !=y) d e)else none
theorem zK(d:Dfa):mh ((aD (ag d)).lang 0)=mh (aT d):=Ra fun w hw=>uT d 0 hw
theorem zJ{op:Bool->Bool->Bool}{d e:Dfa}(hd:d.good)(he:e.good):mh ((aD (jE op (ag d) (ag e))).lang 0)=mh (lQ op d e):=Ra fun w hw=>by
  rw[(Rz (kS hd) (kS he) ⟨hd.2,he.2⟩).2 w hw,uT d 0 hw,uT e 0 hw];rfl
theorem zX(a:Tab):∀ x∈[jN a],∀ g l,x≠Cell.clo g l:=fun x hx g l=>by
  rw[List.mem_singleton.1 hx];intro e;cases e
theorem Ke(a b:Tab):∀ x∈[sH a,jN a,jN b],∀ g l,x≠Cell.clo g l:=fun x hx g l=>by
  rcases List.mem_cons.1 hx with rfl|hx
  · intro e;cases e
  · exact Kc a b x hx g l
theorem xS{x y:Tab}(hx:x.fit)(hy:y.fit):Cj xP xQ (aV x y) (d9 y) (nE x) (jL x y 256) (aA (cN x) (cN y)) (aX x) [sH x,jN x,jN y] [jN y] 4096:=
  ⟨fI x y 256,(gF x y).pos,(gF x y).max,(gF x y).byte,by decide,by decide,o8 qV (o8 qV (o8 qV si)),o8 qV si,xR hx.1,fun s hs=>DK hx hs,fun s c hs hc=>UN hx hs hc,
   fun s c hs hc=>⟨x,y,s,c,rfl,⟨hx,hy,hs.1,hc⟩,rfl⟩,fun s hs=>⟨y,s,rfl,hy,rfl⟩⟩
theorem BL{x:Tab}(hx:x.fit):Cj BI BJ (ae x) (fG x) sV (jL x x 256) (aA (cN x) (cN x)) (1,0,1) [jN x] [jN x] 4096:=
  ⟨fI x x 256,(gF x x).pos,(gF x x).max,(gF x x).byte,by decide,by decide,o8 qV si,o8 qV si,⟨Nat.le_refl _,rfl⟩,fun s hs=>GY hs,fun s c _ _=>WG x s c,
   fun s c hs hc=>⟨x,s,c,rfl,⟨hx,hc⟩,rfl⟩,fun s hs=>⟨x,s,rfl,⟨hx,hs⟩,rfl⟩⟩
theorem ZZ{d e:Dfa}(hd:d.good)(he:e.good){w:List Nat}(hw:Bytes w):d9 (ag (af (aT e))) (bZ (aV (ag (af (aT d))) (ag (af (aT e)))) (aX (ag (af (aT d)))) w)=kL (aT d) (aT e) w:=by
  have gd:=Bn hd
  have ge:=Bn he
  rw[xU (kS gd.1) (kS ge.1) ge.1.2 hw];exact XM (fun u hu=>(uT _ 0 hu).trans (gd.2 u hu)) (fun u hu=>(uT _ 0 hu).trans (ge.2 u hu)) hw
theorem Z0{d:Dfa}(hd:d.good){w:List Nat}(hw:Bytes w):fG (ag (af (aT d))) (bZ (ae (ag (af (aT d)))) (1,0,1) w)=iL (aT d) w:=by
  have gd:=Bn hd
  rw[BM (kS gd.1) gd.1.2 hw];exact Wl (fun u hu=>(uT _ 0 hu).trans (gd.2 u hu)) hw
theorem Tf{g:ah->Nat->ah}{acc:ah->Bool}{cell:List Int}{bytes:List Nat}{s0:ah}{m:Nat}(h:cell.length=256):(jf g acc cell bytes s0 m).1.cell.length=256:=by
  unfold jf
  split
  · exact CL
  · exact h
theorem tY{g:ah->Nat->ah}{acc:ah->Bool}{cell:List Int}{bytes:List Nat}{s0:ah}{m:Nat}(h:(jf g acc cell bytes s0 m).2=false):Big (aC g bytes) bytes.length s0 m:=by
  refine Classical.byContradiction fun hn=>?_;rw[jf,if_neg hn]at h;cases h
theorem J6{g:ah->Nat->ah}{acc:ah->Bool}{cell:List Int}{bytes:List Nat}{s0:ah}{m:Nat}(h:(jf g acc cell bytes s0 m).2=true):¬ Big (aC g bytes) bytes.length s0 m:=fun hb=>by
  rw[D8 hb]at h;cases h
attribute [local irreducible] eG z12 zl au gz cr jE af jL aA jf mh
noncomputable def Uc:Ctx:={ P:=Tryd.prog,ty:=ty,glob:=gl,fs:=[(25,.flat Gn),(32,.data Lt),(55,.data ZS)] }
theorem Nq:Uc.OK:=⟨dS,⟨⟨bX Tryd.func25 aN rfl,z70⟩,⟨bX Tryd.func32 aN rfl,Mj⟩,⟨bX Tryd.func55 aN rfl,zqr⟩,trivial⟩,mixed⟩
@[simp] theorem Ud:Uc.ty=ty:=rfl

def y2v:aW:=fun vs K=>∃ d:Dfa,vs=[df d]/\d.wf/\K (M9 (zI d))
theorem y2w:jr Tryd.prog gl 22 y2v:=by
 refine kJ (Γ:=Uc) (N:=12) Tryd.func22 rfl rfl fun vs K h=>?_;obtain⟨d,rfl,hw,h⟩:=h;refine⟨_,h,z71 _,by simp,fun w I=>?_⟩;refine aO Nq fun _ K2=>?_
 iterate 3 refine fV ?_
 refine aJ K2 (aH fun _ K3=>aO Nq fun _ K5=>fV ?_);refine oI ?_;refine⟨d,rfl,hw,gJ ?_⟩
 first|refine aL ?_|(intro cap1 hcap1;refine aL ?_)
 refine fV ?_;refine aJ K5 (bC (b:=_) rfl (fun h_t6=>?_) (fun h_t6=>?_))
 ·try simp only[dQ,reduceIte]at h_t6
  refine aO Nq fun _ K7=>?_
  iterate 2 refine fV ?_
  refine aJ K7 ?_;rw[zI,if_neg (by simpa using h_t6)];refine bQ (gT Nq (fun _ _ h=>h) (z71 _) [] [.tmp 2,.tmp 3] rfl ?_)
  all_goals exact Ji
 ·try simp only[dQ,reduceIte]at h_t6
  refine bK (K3 _ _ _ ?_)
  have hg:=(z22 hw).1 (by simpa using h_t6)
  refine aO Nq fun _ K9=>fV ?_;refine oI ?_;refine⟨d,rfl,hg,gJ ?_⟩
  first|refine aL ?_|(intro cap1 hcap1;refine aL ?_)
  refine oI ?_;refine aI (lu _) (lz _ ⟨ag d,rfl,kS hg,?_⟩);rw[zK];refine gJ ?_
  first|refine aL ?_|(intro cap2 hcap2;refine aL ?_)
  iterate 4 refine fV ?_
  refine aJ K9 ?_;rw[zI,if_pos (pU hg)];refine bQ (gT Nq (fun _ _ h=>h) (z71 _) [] [.tmp 2,.tmp 3] rfl ?_)
  all_goals exact Ji

noncomputable def Ue:Ctx:={ P:=Tryd.prog,ty:=ty,glob:=gl,fs:=[(25,.flat Gn),(53,.data (Yc 54 y2k)),(55,.data ZS)] }
theorem J7:Ue.OK:=⟨dS,⟨⟨bX Tryd.func25 aN rfl,z70⟩,⟨bX Tryd.func53 aN rfl,zlw (bX Tryd.func54 aN rfl) y2l⟩,⟨bX Tryd.func55 aN rfl,zqr⟩,trivial⟩,mixed⟩
@[simp] theorem Uf:Ue.ty=ty:=rfl

def Z5:aW:=fun vs K=>∃ d e:Dfa,vs=[df d,df e]/\(d.wf/\e.wf)/\K (M9 (oO d e))
theorem zqw:jr Tryd.prog gl 20 Z5:=by
 refine kJ (Γ:=Ue) (N:=20) Tryd.func20 rfl rfl fun vs K h=>?_;obtain⟨d,e,rfl,⟨hd,he⟩,h⟩:=h;refine⟨_,h,z71 _,by simp,fun w I=>?_⟩;refine aO J7 fun _ K2=>?_
 iterate 4 refine fV ?_
 refine aJ K2 (aH fun _ K3=>aO J7 fun _ K5=>fV ?_);refine oI ?_;refine⟨d,rfl,hd,gJ ?_⟩
 first|refine aL ?_|(intro cap1 hcap1;refine aL ?_)
 refine fV ?_;refine oI ?_;refine fO (fun hb3=>?_) (fun hb3=>?_)
 ·try simp only[dQ,reduceIte]at hb3
  iterate 3 refine sN ?_
  refine fV ?_;refine aJ K5 (bC (b:=_) rfl (fun _=>?_) (fun h_t13=>?_))
  rotate_left 1
  ·exfalso;simp at h_t13
  refine aO J7 fun _ K7=>?_
  iterate 2 refine fV ?_
  refine aJ K7 ?_
  have hno:¬ (eQ d=true/\eQ e=true):=by intro hh;simp_all
  rw[oO,if_neg hno];refine bQ (gT J7 (fun _ _ h=>h) (z71 _) [] [.tmp 4,.tmp 5] rfl ?_)
  all_goals exact Ji
 ·try simp only[dQ,reduceIte]at hb3
  refine UM ?_;refine y2h ?_;refine⟨e,rfl,he,gJ ?_⟩
  first|refine aL ?_|(intro cap5 hcap5;refine aL ?_)
  refine UM ?_;refine fV ?_;refine aJ K5 (bC (b:=_) rfl (fun h_t13=>?_) (fun h_t13=>?_))
  ·try simp only[dQ,reduceIte]at h_t13
   refine aO J7 fun _ K9=>?_
   iterate 2 refine fV ?_
   refine aJ K9 ?_
   have hno:¬ (eQ d=true/\eQ e=true):=by intro hh;simp_all
   rw[oO,if_neg hno];refine bQ (gT J7 (fun _ _ h=>h) (z71 _) [] [.tmp 4,.tmp 5] rfl ?_)
   all_goals exact Ji
  ·try simp only[dQ,reduceIte]at h_t13
   refine bK (K3 _ _ _ ?_)
   have hvd:eQ d=true:=by simp_all
   have hve:eQ e=true:=by simp_all
   have hgd:=(z22 hd).1 hvd
   have hge:=(z22 he).1 hve
   refine aO J7 fun _ K11=>?_
   iterate 2 refine fV ?_
   refine oI ?_;refine⟨fun x y=>x !=y,d,e,rfl,⟨hgd,hge⟩,fun x y=>⟨x,y,rfl,rfl⟩,gJ ?_⟩
   first|refine aL ?_|(intro cap2 hcap2;refine aL ?_)
   refine oI ?_;refine aI (lu _) (lz _ ⟨_,rfl,Xt _ hgd hge,?_⟩);rw[zJ hgd hge];refine gJ ?_
   first|refine aL ?_|(intro cap3 hcap3;refine aL ?_)
   iterate 4 refine fV ?_
   refine aJ K11 ?_
   have hyes:eQ d=true/\eQ e=true:=⟨hvd,hve⟩
   rw[oO,if_pos hyes];refine bQ (gT J7 (fun _ _ h=>h) (z71 _) [] [.tmp 4,.tmp 5] rfl ?_)
   all_goals exact Ji


end Go.Proofs.YtpdljmohhpbkpaaDoor
