/- Contracts of functions and plain facts, part 10. -/
import Derived.Test.YtpdljmohhpbkpaaDoorNh
import Derived.Test.YtpdljmohhpbkpaaDoorNd
set_option linter.all false
set_option maxHeartbeats 2000000
set_option maxRecDepth 4000
namespace Go.Proofs.YtpdljmohhpbkpaaDoor
open Go.Ab Go.RowKit

section
variable {a b:Prop}
theorem uC(h:a:=by first|exact gG|(simp[-List.reduceReplicate]<;>omega)|exact Vn|exact Vo|exact⟨by omega,by omega,trivial⟩|(show _< (jL _ _ _).length;rw[fI];omega)|exact gH):a:=h
theorem uD(h:a:=by first|exact gG|(simp[-List.reduceReplicate]<;>omega)|(show 0+256<=(jL _ _ _).length;rw[fI];decide)|exact fI _ _ _|exact(fI _ _ _).symm|(show 256=(jL _ _ _).length;rw[fI])|(show 0< (jL _ _ _).length;rw[fI];decide)|(show 0+(jL _ _ _).length<=_;rw[fI];simp)|(show(List.replicate 256 (0:Int)).length=(jL _ _ _).length;rw[fI,List.length_replicate])|exact gH):a:=h
theorem tH(h:a:=by
    repeat' (first|assumption|exact JG|exact Iy|exact ve C8 _ _|exact qY C8 _|exact pT|exact trivial|refine aI ?_ ?_|exact iM|refine low_cons' ?_ ?_|exact iN|fail)
    all_goals first|omega|exact hL0|exact JG|exact Iy|exact hM0|exact ve C8 _ _|exact qY C8 _|(rw[hX4];exact qY C8 _)|(show(_:List Int)=_;first|assumption|rfl)|(show(_:List (SV×SV))=_;first|assumption|rfl)|(show(0:Nat)< (au _ _ _ _).length;rw[dJ hcl];decide)|(simp[-List.reduceReplicate];done)|(simp[-List.reduceReplicate]<;>omega)|skip):a:=h
theorem MU(kZ:b)(h:aK b->a:=by intro kZ;(repeat first|refine aI uC ?_|refine bW uC ?_|refine dC uC ?_|refine fT uC ?_|refine fA ?_);exact kZ.out):a:=h ⟨kZ⟩
theorem pX(kZ:b)(h:aK b->a:=by intro kZ;refine sX ?_;refine MU ?_;refine aL ?_;exact kZ.out):a:=h ⟨kZ⟩
theorem ZQ(kZ:b)(h:aK b->a:=by intro kZ;refine dX ?_;refine MU ?_;refine aL ?_;exact kZ.out):a:=h ⟨kZ⟩
theorem Dn(kZ:b)(h:aK b->a:=by intro kZ;refine gX ?_;refine MU ?_;refine aL ?_;exact kZ.out):a:=h ⟨kZ⟩
theorem yK(kZ:b)(h:aK b->a:=by intro kZ;refine pu ?_;refine MU ?_;refine aL ?_;exact kZ.out):a:=h ⟨kZ⟩
theorem zvt(kZ:b)(h:aK b->a:=by intro kZ;refine jl ?_;refine MU ?_;refine aL ?_;exact kZ.out):a:=h ⟨kZ⟩
theorem wQ(kZ:b)(h:aK b->a:=by intro kZ;(repeat first|refine aI uD ?_|refine bW uD ?_|refine dC uD ?_|refine fT uD ?_|refine fA ?_);exact kZ.out):a:=h ⟨kZ⟩
theorem y24(kZ:b)(h:aK b->a:=by intro kZ;refine sX ?_;refine wQ ?_;refine aL ?_;exact kZ.out):a:=h ⟨kZ⟩
theorem A8(kZ:b)(h:aK b->a:=by intro kZ;refine jl ?_;refine wQ ?_;refine aL ?_;exact kZ.out):a:=h ⟨kZ⟩
theorem zvu(kZ:b)(h:aK b->a:=by intro kZ;refine dX ?_;refine MU ?_;exact kZ.out):a:=h ⟨kZ⟩
theorem Sf(kZ:b)(h:aK b->a:=by intro kZ;refine sX ?_;refine MU ?_;exact kZ.out):a:=h ⟨kZ⟩
end
open Go.Aut
def cN(t:Tab):Nat->Nat:=(aD t).cell
abbrev jk(a b:Tab):Nat->Nat×Nat:=qL (cN a) (cN b)
def eP(p:Nat×Nat):SV:=.agg (.ints .i64 [(p.1:Int),(p.2:Int)])
theorem C8(p:Nat×Nat):(eP p).flat=true:=rfl
theorem KF{p q:Nat×Nat}(h:eP p=eP q):p=q:=by
  unfold eP at h
  injection h with h
  injection h with _ h
  simp only[List.cons.injEq,Int.natCast_inj,and_true]at h
  exact Prod.ext h.1 h.2
theorem y25{p:Nat×Nat}(h:p.1<=65536/\p.2<=65536):kE ty 100 (eP p):=by
  refine⟨rfl,rfl,rfl,fun x hx=>?_⟩
  rcases List.mem_cons.1 hx with rfl|hx
  · exact JA.mpr ⟨by omega,by omega⟩
  · rw[List.mem_singleton.1 hx];exact JA.mpr ⟨by omega,by omega⟩
theorem Ya{a b:Tab}(ha:a.fit)(hb:b.fit){x:Nat}(hx:x< 256):(jk a b x).1<=65536/\(jk a b x).2<=65536:=by
  have h1:=(av ha.1 hx).1
  have h2:=(av hb.1 hx).1
  have h3:=ha.2.2
  have h4:=hb.2.2
  exact⟨by show cN a x<=_;unfold cN;omega,by show cN b x<=_;unfold cN;omega⟩
abbrev jK(a b:Tab)(x:Nat):List (Nat×Nat):=aY (jk a b) (List.range x)
theorem y26{a b:Tab}(ha:a.fit)(hb:b.fit){x:Nat}(hx:x<=256):∀ p∈dh eP (jK a b x),kE ty 100 p.1:=fun p hp=>by
  obtain⟨k,i,hk,rfl⟩:=NH hp;obtain⟨y,hy,rfl⟩:=(qW _ k).1 hk;exact y25 (Ya ha hb (by have:=List.mem_range.1 hy;omega))
theorem zvv{a b:Tab}{x j:Nat}{q:Nat×Nat}{v:SV}(hj:(dh eP (jK a b x))[j]? =some (eP q,v)):v= .c (.int .i64 ((fF (jK a b x) q:Nat):Int))/\q∈jK a b x:=by
  obtain⟨k,hk,e,rfl⟩:=Pn hj
  have e2:=KF e
  subst e2
  have e4:fF (jK a b x) k=j:=MF (Gh _) hk
  exact⟨by rw[e4],List.mem_of_getElem? hk⟩
theorem EC{a b:Tab}{x:Nat}{q:Nat×Nat}(hn:∀ p∈dh eP (jK a b x),p.1≠eP q):q∉jK a b x:=T4 hn
abbrev jR(a b:Tab)(x:Nat):List Nat:=dK (jk a b) (List.range x)
def jL(a b:Tab)(k:Nat):List Int:=(List.range 256).map fun x=>if x< k then((iR (cN a) (cN b) x:Nat):Int)else 0
theorem fI(a b:Tab)(k:Nat):(jL a b k).length=256:=by simp[jL]
theorem y27(a b:Tab):List.replicate 256 (0:Int)=jL a b 0:=by simp[jL,List.map_const']
theorem UJ{a b:Tab}{k:Nat}(h:k< 256):(jL a b k).set k ((iR (cN a) (cN b) k:Nat):Int)=jL a b (k+1):=by
  refine o9 0 (by rw[List.length_set,fI,fI]) fun i hi=>?_
  have hi:i< 256:=by rw[List.length_set,fI]at hi;exact hi
  rw[my (by rw[fI];exact hi),jL,jL,iy hi,iy hi]
  by_cases e:k=i
  · subst e;rw[if_pos rfl,if_pos (by omega)]
  · rw[if_neg e]
    by_cases h2:i< k
    · rw[if_pos h2,if_pos (by omega)]
    · rw[if_neg h2,if_neg (by omega)]
theorem zvx(a b:Tab){x:Nat}(hx:x< 256):iR (cN a) (cN b) x=fF (jK a b (x+1)) (jk a b x):=by
  have e:dm=List.range (x+1)++(List.range' (x+1) (256 - (x+1))):=by
    have:=List.range'_append (s:=0) (m:=x+1) (n:=256 - (x+1)) (step:=1)
    rw[Nat.one_mul,Nat.zero_add,show x+1+(256 - (x+1))=256 by omega]at this;rw[dm,List.range_eq_range',List.range_eq_range',this]
  obtain⟨r,hr⟩:=WY (key:=jk a b) (List.range (x+1)) (List.range' (x+1) (256 - (x+1)))
  have hin:jk a b x∈jK a b (x+1):=(qW _ _).2 ⟨x,List.mem_range.2 (by omega),rfl⟩
  rw[iR,ZA,e,hr,Lr hin]
theorem IL{a b:Tab}{x:Nat}(hx:x< 256)(h:jk a b x∈jK a b x):jK a b (x+1)=jK a b x/\jR a b (x+1)=jR a b x/\iR (cN a) (cN b) x=fF (jK a b x) (jk a b x):=by
  have e:jK a b (x+1)=jK a b x:=by rw[jK,List.range_succ,z41,fZ,if_pos h]
  refine⟨e,?_,by rw[zvx a b hx,e]⟩;rw[jR,List.range_succ,Bg,if_pos h]
theorem O1{a b:Tab}{x:Nat}(hx:x< 256)(h:jk a b x∉jK a b x):jK a b (x+1)=jK a b x++[jk a b x]/\jR a b (x+1)=jR a b x++[x]/\iR (cN a) (cN b) x=(jR a b x).length:=by
  have e:jK a b (x+1)=jK a b x++[jk a b x]:=by rw[jK,List.range_succ,z41,fZ,if_neg h]
  refine⟨e,?_,by rw[zvx a b hx,e,Ls h,qU]⟩;rw[jR,List.range_succ,Bg,if_neg h]
theorem UK(a b:Tab)(x:Nat):(jR a b x).length<=x:=by
  rw[qU];exact Nat.le_trans (vZ _) (by rw[List.length_range];exact Nat.le_refl _)
theorem ZR(a b:Tab):jR a b 0=[]:=rfl
theorem EB(a b:Tab):([]:List (SV×SV))=dh eP (jK a b 0):=rfl
theorem Q4(a b:Tab):jR a b 256=aA (cN a) (cN b):=rfl
attribute [local irreducible] eG z12 zl au gz cr jL iR aA
def UL:aW:=fun vs K=>∃ a b:Tab,vs=[bu a,bu b]/\(a.fit/\b.fit)/\K (.tup [.agg (.ints .i64 (jL a b 256)),.c (.ds (aA (cN a) (cN b)).length (.ints .i64 (aG (aA (cN a) (cN b)))))])
theorem Yb:jr Tryd.prog gl 34 UL:=by
 refine kJ (Γ:=g0) (N:=49) Tryd.func34 rfl rfl fun vs K h=>?_;obtain⟨a,b,rfl,⟨ha,hb⟩,h⟩:=h;refine⟨_,h,(List.forall_mem_cons.2 ⟨trivial,(List.forall_mem_cons.2 ⟨trivial,fun _ h=>(by cases h)⟩)⟩),by simp,fun w I=>?_⟩;refine aO aF fun _ K2=>?_
 iterate 4 refine pX ?_
 refine aJ K2 (fQ [0,1] (fun _=>2) [(2,.c (.dp (dP a) 0)),(3,.c (.dp (dP b) 0)),(4,.c (.ptr 0 0))] [(0,.own 54 (.ints .i64 (List.replicate 256 0)) 256)] 1 [2] ?_ ?_ ?_ ?_ ?_)
 ·repeat' (first|assumption|exact JG|exact Iy|exact ve C8 _ _|exact qY C8 _|exact pT|exact trivial|refine aI ?_ ?_|exact iM|refine low_cons' ?_ ?_|exact iN|fail)
  all_goals first|omega|exact hL0|exact JG|exact Iy|exact hM0|exact ve C8 _ _|exact qY C8 _|(rw[hX4];exact qY C8 _)|(show(_:List Int)=_;first|assumption|rfl)|(show(_:List (SV×SV))=_;first|assumption|rfl)|(show(0:Nat)< (au _ _ _ _).length;(first|rw[dJ ha.1.clen]|rw[dJ hb.1.clen]);decide)|(simp[-List.reduceReplicate];done)|(simp[-List.reduceReplicate]<;>omega)|skip
 ·exact tH
 ·exact tH
 ·exact tH
 refine aO aF fun _ K4=>pX ?_;refine aJ K4 (aO aF fun _ K6=>pX ?_);refine aJ K6 (aO aF fun _ K8=>?_)
 iterate 2 refine pX ?_
 refine aJ K8 (aH fun _ K9=>aO aF fun _ K11=>pX ?_);refine aJ K11 (bO (UD 7 3 (.ints .i64 []) rfl rfl trivial (fM (α:=Nat×Nat) (fun s=>[(2,.c (.dp (dP a) 0)),(3,.c (.dp (dP b) 0)),(4,.c (.ptr 0 0)),(6,.c (.ptr 1 0)),(7,.c (.slice 3 0 (jR a b s.1).length s.2)),(8,.c (.map 2)),(14,.c (.int .i64 (s.1:Nat)))]) (fun s=>[(0,.own 54 (.ints .i64 (List.replicate 256 0)) 256),(1,.own 54 (.ints .i64 (jL a b s.1)) 256),(2,.mp 99 (dh eP (jK a b s.1))),(3,.own 3 (.ints .i64 (aG (jR a b s.1))) s.2)]) 4 (fun s=>s.1<=256/\(jR a b s.1).length<=s.2) (fun s=>256 - s.1) ?_ ?_)))
 ·have hX1:=y27 a b
  have hM0:=EB a b
  have hN0:([]:List Int)=aG (jR a b 0):=by rw[ZR];rfl
  have hL0:0=(jR a b 0).length:=by rw[ZR];rfl
  refine ai [] id (0,0) ⟨Nat.zero_le _,by show(jR a b 0).length<=0;rw[ZR];exact Nat.le_refl _⟩ [0,1,2,3] ?_ ?_ ?_ ?_
  ·exact tH
  ·exact tH
  ·exact tH
  ·exact tH
 ·intro s hs
  obtain⟨hs1,hs2⟩:=hs
  have hjl2:=UK a b s.1
  refine aO aF fun _ K13=>pX ?_;refine aJ K13 (aH fun _ K14=>bC (b:=_) rfl (fun h_t15=>?_) (fun h_t15=>?_))
  ·try simp only[dQ,reduceIte]at h_t15
   refine bK (K14 _ _ _ (aH fun _ K15=>bO ?_))
   have hx:s.1< 256:=by omega
   refine aO aF fun _ K17=>?_
   iterate 2 refine pX ?_
   refine aJ K17 (vR aF [(0,true),(1,true),(2,true),(3,true),(4,true),(5,true),(6,true),(7,true),(8,true),(9,false),(10,false)] rfl aN aN fun _ K19=>?_)
   iterate 3 refine ZQ ?_
   refine zvu ?_;refine aU (.c (.int .i64 ((cN a s.1:Nat):Int))) (ak ((HY ha.1.clen (by first|omega|(simp;done)) hx).trans (congrArg (Cell.int IntKind.i64) (av ha.1 hx).2))) ?_
   iterate 3 refine ZQ ?_
   refine zvu ?_;refine aU (.c (.int .i64 ((cN b s.1:Nat):Int))) (ak ((HY hb.1.clen (by first|omega|(simp;done)) hx).trans (congrArg (Cell.int IntKind.i64) (av hb.1 hx).2))) (ZQ ?_);refine Dn ?_;refine yK ?_;refine iF K19 (aO aF fun _ K21=>pX ?_);refine Sf ?_;refine aU (eP (jk a b s.1)) (SV.as_refl _) (Sf ?_);refine aI (y25 (Ya ha hb hx)) (And.intro (y26 ha hb hs1) (And.intro (fun jj v hj=>?_) (fun hno=>?_)))
   ·obtain⟨rfl,hin⟩:=zvv hj
    refine aL ?_
    iterate 5 refine pX ?_
    refine aJ K21 (aH fun _ K22=>aO aF fun _ K24=>?_)
    iterate 2 refine pX ?_
    refine aJ K24 (bC (b:=_) rfl (fun h_t33=>?_) (fun _=>?_))
    ·exfalso;cases h_t33
    refine bK (K22 _ _ _ (bB aF fun _ K25=>?_))
    iterate 3 refine pX ?_
    refine zvt ?_;refine aJ K25 (dD (K15 _ _ _ (bB aF fun _ K26=>?_)))
    iterate 2 refine pX ?_
    refine aJ K26 ?_;obtain⟨j1,j2,j3⟩:=IL hx hin
    have hX1:(jL a b s.1).set (0+((s.1:Nat):Int).toNat*1) (((fF (jK a b s.1) (jk a b s.1):Nat):Int))=jL a b (s.1+1):=by rw[<-j3,show 0+((s.1:Nat):Int).toNat*1=s.1 by omega];exact UJ hx
    have hX5:dh eP (jK a b s.1)=dh eP (jK a b (s.1+1)):=by rw[j1]
    have hX6:aG (jR a b s.1)=aG (jR a b (s.1+1)):=by rw[j2]
    have hL0:(jR a b s.1).length=(jR a b (s.1+1)).length:=by rw[j2]
    refine ai [] id (s.1+1,s.2) ⟨⟨by show s.1+1<=_;omega,(by show(jR a b (s.1+1)).length<=s.2;omega)⟩,by show _ - (s.1+1)< _;omega⟩ [0,1,2,3] ?_ ?_ ?_ ?_
    ·exact tH
    ·exact tH
    ·exact tH
    ·exact tH
   ·have hnin:=EC hno
    refine aL ?_
    iterate 5 refine pX ?_
    refine aJ K21 (aH fun _ K27=>aO aF fun _ K29=>?_)
    iterate 2 refine pX ?_
    refine aJ K29 (bC (b:=_) rfl (fun _=>?_) (fun h_t33=>?_))
    rotate_left 1
    ·exfalso;cases h_t33
    refine aO aF fun _ K31=>?_
    iterate 3 refine pX ?_
    refine aJ K31 (aO aF fun _ K33=>pX ?_);refine Sf ?_;refine aU (eP (jk a b s.1)) (SV.as_refl _) (pX ?_);refine jl ?_;refine aI (y25 (Ya ha hb hx)) (And.intro (y26 ha hb hs1) (And.intro (fun jj u hj=>absurd (zvv hj).2 hnin) (fun hno2=>?_)));refine aL (aJ K33 (bB aF fun _ K34=>?_))
    iterate 3 refine pX ?_
    refine Sf ?_;intro cap3 hcap3;refine aL (pX ?_);refine aJ K34 (K27 _ _ _ (bB aF fun _ K35=>?_))
    iterate 3 refine pX ?_
    refine zvt ?_;refine aJ K35 (dD (K15 _ _ _ (bB aF fun _ K36=>?_)))
    iterate 2 refine pX ?_
    refine aJ K36 ?_;obtain⟨j1,j2,j3⟩:=O1 hx hnin
    have hX1:(jL a b s.1).set (0+((s.1:Nat):Int).toNat*1) ((((jR a b s.1).length:Nat):Int))=jL a b (s.1+1):=by rw[<-j3,show 0+((s.1:Nat):Int).toNat*1=s.1 by omega];exact UJ hx
    have hkl:(jR a b s.1).length=(jK a b s.1).length:=qU _
    have hX4:dh eP (jK a b s.1)++[(eP (jk a b s.1),.c (.int .i64 (((jR a b s.1).length:Nat):Int)))]=dh eP (jK a b (s.1+1)):=by rw[j1,hkl, <-Sd]
    have hX6:aG (jR a b s.1)++([]++[((s.1:Nat):Int)])=aG (jR a b (s.1+1)):=by rw[j2,List.nil_append,z39]
    have hL0:(jR a b s.1).length+1=(jR a b (s.1+1)).length:=by rw[j2,List.length_append];rfl
    refine ai [] (fun i=>if i=3 then 6 else i) (s.1+1,cap3) ⟨⟨by show s.1+1<=_;omega,(by show(jR a b (s.1+1)).length<=cap3;omega)⟩,by show _ - (s.1+1)< _;omega⟩ [0,1,2,6] ?_ ?_ ?_ ?_
    ·exact tH
    ·exact tH
    ·exact tH
    ·exact tH
  ·try simp only[dQ,reduceIte]at h_t15
   refine eY (bJ (bJ (eX (K9 _ _ _ ?_))))
   have hse:s.1=256:=by omega
   rw[hse]
   have hjl:=fI a b 256
   have hjr:jR a b 256=aA (cN a) (cN b):=Q4 a b
   rw[hjr];refine aO aF fun _ K38=>?_
   iterate 2 refine y24 ?_
   refine A8 ?_;refine y24 ?_;refine aJ K38 (bQ (gT aF (fun _ _ h=>h) ((List.forall_mem_cons.2 ⟨trivial,(List.forall_mem_cons.2 ⟨trivial,fun _ h=>(by cases h)⟩)⟩)) [3] [.cell 4 54,.tmp 5] rfl ?_))
   repeat first|refine aI (by first|exact trivial|rfl|exact⟨rfl,rfl⟩|exact Nat.le_refl _|(show 0+256*1<=(jL a b 256).length;rw[fI];decide)|decide) ?_|refine bW (by show(jL a b 256).length=256*1;rw[fI]) ?_
   clear hjl hjr hs1 hs2 hjl2
   repeat' (first|exact trivial|refine aI ?_ ?_)
   all_goals first|exact List.mem_singleton.2 rfl|exact Nat.one_pos|(show 0+_*1<=(aG _).length;rw[jH];omega)|(rw[if_pos ⟨rfl,by show(aG _).length=_*1;rw[jH,Nat.mul_one]⟩])|rfl


end Go.Proofs.YtpdljmohhpbkpaaDoor

namespace Go.Proofs.YtpdljmohhpbkpaaDoor
open Go.Ab Go.RowKit

open Go.Aut
def lG(t:Tab)(s b:Nat):Nat:=(aD t).δ s (cN t b)
abbrev oB(t:Tab)(p:Nat):List Nat:=aR (lG t) 256 0 p
abbrev wB(t:Tab)(p:Nat):List (List Nat):=eF (lG t) p
theorem xC{t:Tab}(h:t.ok){s b:Nat}(hs:s< t.next.length)(hb:b< 256):lG t s b< t.next.length:=(bz h hs (av h hb).1).1
theorem mW {t:Tab} (h:t.ok):∀ p,∀ x∈oB t p,x< t.next.length
  | 0,x,hx=>by
    have hx:x∈[0]:=hx
    rw[List.mem_singleton.1 hx];exact h.npos
  | p + 1,x,hx=>by
    have ih:=mW h p
    have hx:x∈iq (oB t p) (lG t ((oB t p).getD (p / 256) default) (p%256)):=hx
    rw[iq]at hx
    split at hx
    · exact ih x hx
    · rcases List.mem_append.1 hx with hx|hx
      · exact ih x hx
      · rw[List.mem_singleton.1 hx]
        refine xC h ?_ (Nat.mod_lt _ (by decide));rw[List.getD_eq_getElem?_getD]
        cases e:(oB t p)[p / 256]? with
        |none=>exact h.npos
        |some y=>exact ih y (List.mem_of_getElem? e)
theorem uB{t:Tab}(h:t.ok)(p:Nat):(oB t p).length<=t.next.length:=ND (Lh p) (mW h p)
theorem y28(t:Tab)(p:Nat):(oB t p).getD 0 0=0:=JC Xe
theorem G8(t:Tab)(p:Nat):(wB t p).getD 0 []=[]:=by
  have:=CR (f:=lG t) (Nat.zero_le p) (i:=0) (by show 0< 1;decide)
  rw[this];rfl
theorem NW{t:Tab}{i b:Nat}(hb:b< 256)(hi:i< (oB t (i*256+b)).length):oB t (i*256+b+1)=iq (oB t (i*256+b)) (lG t ((oB t (i*256+b)).getD i 0) b):=SL hb (jB (d:=0) hi)
theorem Te{t:Tab}{i b:Nat}(hb:b< 256):wB t (i*256+b+1)=if lG t ((oB t (i*256+b)).getD i 0) b∈oB t (i*256+b)then wB t (i*256+b)else wB t (i*256+b)++[(wB t (i*256+b)).getD i []++[b]]:=by
  obtain⟨h1,h2⟩:=SK (i:=i) (k:=b) (nc:=256) hb;rw[wB,eF,h1,h2];rfl
structure FB(t:Tab)(p:Nat)(fr:List Int)(bs:List UInt8):Prop where
  flen:fr.length=t.next.length
  blen:bs.length=t.next.length
  out:∀ x,x< t.next.length->x∉oB t p->fr.getD x 0= -1
  inn:∀ x,x∈oB t p->0<=fr.getD x 0
  come:∀ j,0< j->j< (oB t p).length->∃ i b,i< j/\b< 256/\fr.getD ((oB t p).getD j 0) 0=(((oB t p).getD i 0:Nat):Int)/\bs.getD ((oB t p).getD j 0) 0=UInt8.ofNat b/\(wB t p).getD j []=(wB t p).getD i []++[b]
theorem FB.zero{t:Tab}(h:t.ok):FB t 0 ((List.replicate t.next.length (-1)).set 0 0) (List.replicate t.next.length 0):=by
  have hp:=h.npos
  have ho:oB t 0=[0]:=rfl
  refine⟨by simp,by simp,fun x hx hn=>?_,fun x hx=>?_,fun j h0 hj=>?_⟩
  · rw[ho]at hn
    have:¬ 0=x:=fun e=>hn (by rw[<-e];exact List.mem_cons_self)
    rw[my (by simpa using hx),if_neg this,Y6 hx]
  · rw[ho]at hx
    rw[List.mem_singleton.1 hx,my (by simpa using hp),if_pos rfl];exact Int.le_refl 0
  · rw[ho]at hj
    simp at hj;omega
theorem FB.same{t:Tab}{i b:Nat}{fr:List Int}{bs:List UInt8}(h:FB t (i*256+b) fr bs)(hb:b< 256)(hi:i< (oB t (i*256+b)).length)(hin:lG t ((oB t (i*256+b)).getD i 0) b∈oB t (i*256+b)):FB t (i*256+b+1) fr bs:=by
  have e:oB t (i*256+b+1)=oB t (i*256+b):=by rw[NW hb hi,iq,if_pos hin]
  have e2:wB t (i*256+b+1)=wB t (i*256+b):=by rw[Te hb,if_pos hin]
  exact⟨h.flen,h.blen,by rw[e];exact h.out,by rw[e];exact h.inn,by rw[e,e2];exact h.come⟩
theorem FB.more {t:Tab} (ht:t.ok) {i b:Nat} {fr:List Int} {bs:List UInt8} (h:FB t (i*256+b) fr bs) (hb:b< 256) (hi:i< (oB t (i*256+b)).length) (hin:lG t ((oB t (i*256+b)).getD i 0) b∉oB t (i*256+b)):
    FB t (i*256+b+1) (fr.set (lG t ((oB t (i*256+b)).getD i 0) b) (((oB t (i*256+b)).getD i 0:Nat):Int)) (bs.set (lG t ((oB t (i*256+b)).getD i 0) b) (UInt8.ofNat b)):=by
  obtain⟨to,hto⟩:∃ to,to=lG t ((oB t (i*256+b)).getD i 0) b:=⟨_,rfl⟩
  have hlt:to< t.next.length:=by rw[hto];exact xC ht (mW ht _ _ (getD_mem' hi)) hb
  have e:oB t (i*256+b+1)=oB t (i*256+b)++[to]:=by rw[NW hb hi,iq,if_neg hin,hto]
  have e2:wB t (i*256+b+1)=wB t (i*256+b)++[(wB t (i*256+b)).getD i []++[b]]:=by rw[Te hb,if_neg hin]
  have hwl:(wB t (i*256+b)).length=(oB t (i*256+b)).length:=Lp _
  rw[<-hto]at hin ⊢;refine⟨by rw[List.length_set];exact h.flen,by rw[List.length_set];exact h.blen,fun x hx hn=>?_,fun x hx=>?_,fun j h0 hj=>?_⟩
  · rw[e]at hn
    have hne:¬ to=x:=fun e'=>hn (by rw[<-e'];simp)
    rw[my (by rw[h.flen];exact hx),if_neg hne];exact h.out x hx fun hx'=>hn (List.mem_append_left _ hx')
  · rw[e]at hx
    by_cases hne:to=x
    · rw[my (by rw[h.flen, <-hne];exact hlt),if_pos hne];omega
    · rcases List.mem_append.1 hx with hx|hx
      · have hxl:=mW ht _ x (by exact hx)
        rw[my (by rw[h.flen];exact hxl),if_neg hne];exact h.inn x (by exact hx)
      · exact absurd (List.mem_singleton.1 hx).symm hne
  · rw[e,List.length_append]at hj
    have hj:j< (oB t (i*256+b)).length+1:=hj
    rw[e,e2]
    rcases Nat.lt_or_ge j (oB t (i*256+b)).length with h1|h1
    · obtain⟨i',b',g1,g2,g3,g4,g5⟩:=h.come j h0 (by exact h1)
      have hga:∀ k,k< (oB t (i*256+b)).length->((oB t (i*256+b))++[to]).getD k 0=(oB t (i*256+b)).getD k 0:=fun k hk=>by rw[List.getD_eq_getElem?_getD,List.getD_eq_getElem?_getD,List.getElem?_append_left hk]
      have hgw:∀ k,k< (oB t (i*256+b)).length->(wB t (i*256+b)++[(wB t (i*256+b)).getD i []++[b]]).getD k []=(wB t (i*256+b)).getD k []:=fun k hk=>by
        simp only[List.getD_eq_getElem?_getD]
        rw[List.getElem?_append_left (by rw[hwl];exact hk)]
      have hne:¬ to=(oB t (i*256+b)).getD j 0:=fun e'=>hin (by rw[e'];exact getD_mem' h1)
      have hxl:=mW ht _ ((oB t (i*256+b)).getD j 0) (by exact getD_mem' h1)
      refine⟨i',b',g1,g2,?_,?_,?_⟩
      · rw[hga j h1,hga i' (by omega),my (by rw[h.flen];exact hxl),if_neg hne];exact g3
      · rw[hga j h1,my (by rw[h.blen];exact hxl),if_neg hne];exact g4
      · rw[hgw j h1,hgw i' (by omega)];exact g5
    · have hje:j=(oB t (i*256+b)).length:=by omega
      subst hje
      have hgl:((oB t (i*256+b))++[to]).getD (oB t (i*256+b)).length 0=to:=by rw[List.getD_eq_getElem?_getD,List.getElem?_append_right (Nat.le_refl _),Nat.sub_self];rfl
      have hgw:(wB t (i*256+b)++[(wB t (i*256+b)).getD i []++[b]]).getD (oB t (i*256+b)).length []=(wB t (i*256+b)).getD i []++[b]:=by rw[List.getD_eq_getElem?_getD,List.getElem?_append_right (by rw[hwl];exact Nat.le_refl _),hwl,Nat.sub_self];rfl
      have hga:((oB t (i*256+b))++[to]).getD i 0=(oB t (i*256+b)).getD i 0:=by rw[List.getD_eq_getElem?_getD,List.getD_eq_getElem?_getD,List.getElem?_append_left hi]
      refine⟨i,b,hi,hb,?_,?_,?_⟩
      · rw[hgl,hga,my (by rw[h.flen];exact hlt),if_pos rfl]
      · rw[hgl,my (by rw[h.blen];exact hlt),if_pos rfl]
      · rw[hgw,List.getD_eq_getElem?_getD (i:=i) (l:=wB t (i*256+b)++_),List.getElem?_append_left (by rw[hwl];exact hi), <-List.getD_eq_getElem?_getD]
def lsB(o:Option (List Nat)):List UInt8:=(o.getD []).map UInt8.ofNat
abbrev M9(o:Option (List Nat)):SV:=.tup [.c (.ds (lsB o).length (.u8s (lsB o))),.c (.bool o.isSome)]
theorem z71(o:Option (List Nat)):SV.low 0 (M9 o):=List.forall_mem_cons.2 ⟨trivial,List.forall_mem_cons.2 ⟨trivial,fun _ h=>by cases h⟩⟩
theorem y29(t:Tab):mh ((aD t).lang 0)=mh fun w=>t.acc.getD (bZ (lG t) 0 w) false:=Ra fun w hw=>Ms _ w
theorem II{t:Tab}{i:Nat}(ha:∀ j,j< i->j< (oB t (j*256)).length):∀ q,q< i*256->q / 256< (oB t q).length:=fun q hq=>by
  have h1:q / 256< i:=Nat.div_lt_of_lt_mul (by rw[Nat.mul_comm];exact hq)
  exact Nat.lt_of_lt_of_le (ha _ h1) (pR (Nat.div_mul_le_self q 256))
theorem zw0{t:Tab}{i:Nat}(ha:∀ j,j< i->j< (oB t (j*256)).length)(hi:i< (oB t (i*256)).length)(hno:∀ j,j< i->t.acc.getD ((oB t (i*256)).getD j 0) false=false)(hyes:t.acc.getD ((oB t (i*256)).getD i 0) false=true):mh ((aD t).lang 0)=some ((wB t (i*256)).getD i []):=by
  rw[y29];exact PO (yx (f:=lG t) (acc:=fun s=>t.acc.getD s false) (II ha) hi hno hyes)
theorem y2a{t:Tab}{i:Nat}(ha:∀ j,j< i->j< (oB t (j*256)).length)(hi:(oB t (i*256)).length<=i)(hno:∀ j,j< i->t.acc.getD ((oB t (i*256)).getD j 0) false=false):mh ((aD t).lang 0)=none:=by
  rw[y29];exact zsq (zy0 (f:=lG t) (acc:=fun s=>t.acc.getD s false) (II ha) hi hno)

end Go.Proofs.YtpdljmohhpbkpaaDoor

namespace Go.Proofs.YtpdljmohhpbkpaaDoor
open Go.Ab Go.RowKit

section
variable {a b:Prop}
theorem uG(h:a:=by first|exact gG|(simp[-List.reduceReplicate]<;>omega)|exact vV|exact⟨by omega,by omega,trivial⟩|(show _< (bM _ _ _).length;rw[z37];omega)|(simp only[jI,List.length_replicate];omega)|(show _< (List.replicate _ _).length;rw[List.length_replicate];omega)|exact gH):a:=h
theorem kF(h:a:=by
    repeat' (first|(show(_:List Int)=_;assumption)|(show(_:List UInt8)=_;assumption)|exact pT|exact trivial|refine aI ?_ ?_|exact iM|refine low_cons' ?_ ?_|exact iN|fail)
    all_goals first|omega|exact hL0|(show(_:List Int)=_;first|assumption|rfl)|(show(_:List UInt8)=_;first|assumption|rfl)|(show(0:Nat)< (au _ _ _ _).length;rw[dJ hcl];decide)|(simp[-List.reduceReplicate];done)|(simp[-List.reduceReplicate]<;>omega)|skip):a:=h
theorem Q5(kZ:b)(h:aK b->a:=by intro kZ;(repeat first|refine aI uG ?_|refine bW uG ?_|refine dC uG ?_|refine fT uG ?_|refine fA ?_);exact kZ.out):a:=h ⟨kZ⟩
theorem kV(kZ:b)(h:aK b->a:=by intro kZ;refine sX ?_;refine Q5 ?_;refine aL ?_;exact kZ.out):a:=h ⟨kZ⟩
theorem TK(kZ:b)(h:aK b->a:=by intro kZ;refine jl ?_;refine Q5 ?_;refine aL ?_;exact kZ.out):a:=h ⟨kZ⟩
theorem QF(kZ:b)(h:aK b->a:=by intro kZ;refine qX ?_;refine Q5 ?_;refine aL ?_;exact kZ.out):a:=h ⟨kZ⟩
theorem z69(kZ:b)(h:aK b->a:=by intro kZ;refine sX ?_;refine Q5 ?_;exact kZ.out):a:=h ⟨kZ⟩
theorem TL(kZ:b)(h:aK b->a:=by intro kZ;refine qX ?_;refine Q5 ?_;exact kZ.out):a:=h ⟨kZ⟩
end
open Go.Aut
theorem TM(w:List Nat):lsB (some w)=w.map UInt8.ofNat:=rfl
theorem I4{t:Tab}{p j:Nat}(hj:j< (oB t p).length):(oB t p).getD j 0=0↔j=0:=by
  constructor
  · intro h
    have hn:=Lh (f:=lG t) (nc:=256) (b0:=0) p
    have h0:=y28 t p
    have hp:0< (oB t p).length:=by omega
    have e1:(oB t p)[j]=(oB t p)[0]:=by rw[qb hj]at h;rw[qb hp]at h0;rw[h,h0]
    have a1:=hn.idxOf_getElem j hj
    have a2:=hn.idxOf_getElem 0 hp
    rw[e1,a2]at a1;exact a1.symm
  · rintro rfl;exact y28 t p
attribute [local irreducible] eG z12 zl au gz cr bM eF aR
def ZS:aW:=fun vs K=>∃ t:Tab,vs=[bu t]/\t.fit/\K (M9 (mh ((aD t).lang 0)))
theorem zqr:jr Tryd.prog gl 55 ZS:=by
 refine kJ (Γ:=g0) (N:=96) Tryd.func55 rfl rfl fun vs K h=>?_;obtain⟨t,rfl,ht,h⟩:=h;refine⟨_,h,z71 _,by simp,fun w I=>?_⟩
 have ht0:=ht
 obtain⟨hok,hlen,hnc⟩:=ht0
 have hcl:=hok.clen
 refine aO aF fun _ K2=>?_
 iterate 3 refine kV ?_
 refine aJ K2 (fQ [0] id [(1,.c (.dp (dP t) 0))] [] 0 [] kF kF kF kF (aO aF fun _ K4=>kV ?_));refine z69 ?_;refine aU (.c (.ds t.next.length (.cells (aS t.next)))) (ak (sD hcl)) ?_
 iterate 3 refine kV ?_
 refine aJ K4 ?_
 have hnp:=hok.npos
 refine fQ [] id [(1,.c (.dp (dP t) 0)),(4,.c (.slice 0 0 t.next.length t.next.length))] [(0,.own 3 (.ints .i64 (List.replicate t.next.length 0)) t.next.length)] 1 [0] kF kF kF kF (aO aF fun _ K6=>kV ?_);refine z69 ?_;refine aU (.c (.ds t.next.length (.cells (aS t.next)))) (ak (sD hcl)) ?_
 iterate 3 refine kV ?_
 refine aJ K6 (aH fun _ K7=>aO aF fun _ K9=>?_)
 iterate 3 refine kV ?_
 refine aJ K9 (bO (fM (α:=Nat) (fun k=>[(1,.c (.dp (dP t) 0)),(4,.c (.slice 0 0 t.next.length t.next.length)),(5,.c (.slice 1 0 t.next.length t.next.length)),(22,.c (.int .i64 (t.next.length:Nat))),(23,.c (.int .i64 (k:Nat)))]) (fun k=>[(0,.own 3 (.ints .i64 (bM t.next.length (-1) k)) t.next.length),(1,.own 5 (.u8s (List.replicate t.next.length 0)) t.next.length)]) 2 (fun k=>k<=t.next.length) (fun k=>t.next.length - k) ?_ ?_))
 ·have hX1:List.replicate t.next.length (0:Int)=bM t.next.length (-1) 0:=(Mk _ _).symm
  refine ai [] id 0 (Nat.zero_le _) [0,1] kF kF kF kF
 ·intro k hk;refine aO aF fun _ K11=>kV ?_;refine aJ K11 (aH fun _ K12=>bC (b:=_) rfl (fun h_t24=>?_) (fun h_t24=>?_))
  ·try simp only[dQ,reduceIte]at h_t24
   refine bK (K12 _ _ _ (aH fun _ K13=>bO (aO aF fun _ K15=>?_)))
   iterate 2 refine kV ?_
   refine aJ K15 ?_
   have hkl:k< t.next.length:=by omega
   refine bB aF fun _ K16=>?_
   iterate 3 refine kV ?_
   refine TK ?_;refine aJ K16 (dD (K13 _ _ _ (bB aF fun _ K17=>?_)))
   iterate 2 refine kV ?_
   refine aJ K17 ?_
   have hX1:(bM t.next.length (-1) k).set (0+((k:Nat):Int).toNat*1) (-1)=bM t.next.length (-1) (k+1):=by rw[show 0+((k:Nat):Int).toNat*1=k by omega];exact Mv _ hkl
   refine ai [] id (k+1) ⟨by omega,by omega⟩ [0,1] kF kF kF kF
  ·try simp only[dQ,reduceIte]at h_t24
   refine eY (bJ (bJ (eX (K7 _ _ _ ?_))))
   obtain rfl:k=t.next.length:=by omega
   rw[Se];refine aO aF fun _ K19=>?_
   iterate 2 refine kV ?_
   refine TK ?_;refine aJ K19 (aO aF fun _ K21=>?_)
   iterate 2 refine kV ?_
   refine aJ K21 (aH fun _ K22=>aO aF fun _ K24=>kV ?_);refine aJ K24 (bO (fM (α:=Nat×Nat×List Int×List UInt8) (fun g=>[(1,.c (.dp (dP t) 0)),(4,.c (.slice 0 0 t.next.length t.next.length)),(5,.c (.slice 1 0 t.next.length t.next.length)),(7,.c (.slice 2 0 (oB t (g.1*256)).length g.2.1)),(8,.c (.int .i64 (g.1:Nat)))]) (fun g=>[(0,.own 3 (.ints .i64 g.2.2.1) t.next.length),(1,.own 5 (.u8s g.2.2.2) t.next.length),(2,.own 3 (.ints .i64 (aG (oB t (g.1*256)))) g.2.1)]) 3 (fun g=>g.1<=t.next.length/\(∀ j,j< g.1->j< (oB t (j*256)).length)/\g.1<=(oB t (g.1*256)).length/\(oB t (g.1*256)).length<=g.2.1/\FB t (g.1*256) g.2.2.1 g.2.2.2/\(∀ j,j< g.1->t.acc.getD ((oB t (g.1*256)).getD j 0) false=false)) (fun g=>t.next.length - g.1) ?_ ?_))
   ·have hz:oB t (0*256)=[0]:=by unfold oB;rw[Nat.zero_mul];unfold aR;rfl
    have hL0:1=(oB t (0*256)).length:=by rw[hz];rfl
    have hX2:[]++[(0:Int)]=aG (oB t (0*256)):=by rw[hz];rfl
    have hfz:=FB.zero hok
    have hfz:FB t (0*256) ((List.replicate t.next.length (-1)).set 0 0) (List.replicate t.next.length 0):=by rw[Nat.zero_mul];exact hfz
    refine ai [] id (0,1,(List.replicate t.next.length (-1)).set 0 0,List.replicate t.next.length 0) ⟨Nat.zero_le _,fun j hj=>absurd hj (Nat.not_lt_zero j),Nat.zero_le _,(by show(oB t (0*256)).length<=1;rw[hz];exact Nat.le_refl _),hfz,fun j hj=>absurd hj (Nat.not_lt_zero j)⟩ [0,1,2] ?_ ?_ ?_ ?_
    ·exact kF
    ·exact kF
    ·exact kF
    ·exact kF
   ·intro g hg
    obtain⟨hg1,hga,hg3,hg4,hfb,hna⟩:=hg
    have hfl:=hfb.flen
    have hbl:=hfb.blen
    refine aH fun _ K25=>aO aF fun _ K27=>?_
    iterate 4 refine kV ?_
    refine aJ K27 (bC (b:=_) rfl (fun h_t36=>?_) (fun h_t36=>?_))
    ·try simp only[dQ,reduceIte]at h_t36
     refine bK (K25 _ _ _ (aH fun _ K28=>bO ?_))
     have hi:g.1< (oB t (g.1*256)).length:=by omega
     have hsl:=mW hok _ _ (getD_mem' hi)
     have hal:=hok.alen
     have hrw:=oz hok hsl
     have hole:=uB hok (g.1*256)
     refine aO aF fun _ K30=>?_
     iterate 3 refine kV ?_
     refine z69 ?_;refine aU (.c (.int .i64 (((((oB t (g.1*256)).getD g.1 0):Nat):Int)))) (az ((congrArg (fun i=>(aG (oB t (g.1*256))).getD i 0) (by omega)).trans jd)) (kV ?_);refine aJ K30 (aH fun _ K31=>aO aF fun _ K33=>kV ?_);refine z69 ?_;refine aU (.c (.ds t.acc.length (.bools t.acc))) (ak (JX hcl)) ?_
     iterate 2 refine kV ?_
     refine z69 ?_;refine aU (.c (.bool (t.acc.getD ((oB t (g.1*256)).getD g.1 0) false))) (dN (congrArg (fun i=>t.acc.getD i false) (by omega))) (aJ K33 (bC (b:=_) rfl (fun h_t47=>?_) (fun h_t47=>?_)))
     ·try simp only[dQ,reduceIte]at h_t47
      refine aO aF fun _ K35=>?_
      iterate 2 refine kV ?_
      refine aJ K35 (aH fun _ K36=>bO (fM (α:=Nat×List Nat×Nat) (fun q=>[(1,.c (.dp (dP t) 0)),(4,.c (.slice 0 0 t.next.length t.next.length)),(5,.c (.slice 1 0 t.next.length t.next.length)),(7,.c (.slice 2 0 (oB t (g.1*256)).length g.2.1)),(8,.c (.int .i64 (g.1:Nat))),(9,.c (.int .i64 (((oB t (g.1*256)).getD q.1 0):Nat))),(10,.c (.slice 3 0 q.2.1.length q.2.2))]) (fun q=>[(0,.own 3 (.ints .i64 g.2.2.1) t.next.length),(1,.own 5 (.u8s g.2.2.2) t.next.length),(2,.own 3 (.ints .i64 (aG (oB t (g.1*256)))) g.2.1),(3,.own 5 (.u8s (q.2.1.map UInt8.ofNat)) q.2.2)]) 4 (fun q=>q.1< (oB t (g.1*256)).length/\q.2.1.length<=q.2.2/\(wB t (g.1*256)).getD g.1 []=(wB t (g.1*256)).getD q.1 []++q.2.1/\q.1+q.2.1.length<=g.1) (fun q=>q.1) ?_ ?_))
      ·refine ai [] id (g.1,[],0) ⟨hi,Nat.le_refl _,by simp,Nat.le_refl _⟩ [0,1,2,3] kF kF kF kF
      ·intro q hq
       obtain⟨hqj,hqc,hqw,hql⟩:=hq;refine aH fun _ K37=>aO aF fun _ K39=>?_
       iterate 2 refine kV ?_
       refine aJ K39 (bC (b:=_) rfl (fun h_t50=>?_) (fun h_t50=>?_))
       ·try simp only[dQ,reduceIte]at h_t50
        refine bK (K37 _ _ _ (aH fun _ K40=>bO ?_))
        have hj0:0< q.1:=by
         rcases Nat.eq_zero_or_pos q.1 with e|e
         ·exact absurd ((I4 hqj).2 e) (by simpa using h_t50)
         ·exact e
        obtain⟨i,b,c1,c2,c3,c4,c5⟩:=hfb.come q.1 hj0 hqj
        have hsj:=mW hok _ _ (getD_mem' hqj)
        have hsi:=mW hok _ _ (getD_mem' (show i< (oB t (g.1*256)).length by omega))
        have hql2:q.2.1.length<=65536:=by omega
        refine bB aF fun _ K41=>?_
        iterate 3 refine kV ?_
        refine z69 ?_;refine aU (.c (.u8 (UInt8.ofNat b))) (bq (congrArg (fun v=>SV.c (Cell.u8 v)) ((congrArg (fun i=>g.2.2.2.getD i 0) (by omega)).trans c4))) ?_
        iterate 2 refine kV ?_
        refine z69 ?_;intro cap6 hcap6;refine aL (kV ?_);refine aJ K41 (dD (K40 _ _ _ (bB aF fun _ K42=>?_)))
        iterate 3 refine kV ?_
        refine z69 ?_;refine aU (.c (.int .i64 ((((oB t (g.1*256)).getD i 0:Nat):Int)))) (az ((congrArg (fun i=>g.2.2.1.getD i 0) (by omega)).trans c3)) (kV ?_);refine aJ K42 ?_
        have hX4:([]++[UInt8.ofNat b])++q.2.1.map UInt8.ofNat=(b::q.2.1).map UInt8.ofNat:=rfl
        refine ai [] (fun i=>if i=3 then 5 else i) (i,b::q.2.1,cap6) ⟨⟨by show i< (oB t (g.1*256)).length;omega,(by show(b::q.2.1).length<=cap6;simp only[List.length_cons];omega),(by rw[hqw,c5,List.append_assoc];rfl),(by show i+(b::q.2.1).length<=g.1;simp only[List.length_cons];omega)⟩,c1⟩ [0,1,2,5] ?_ ?_ ?_ ?_
        ·exact kF
        ·exact kF
        ·exact kF
        ·exact kF
       ·try simp only[dQ,reduceIte]at h_t50
        refine eY (bJ (bJ (eX (K36 _ _ _ (aO aF fun _ K44=>?_)))))
        iterate 3 refine kV ?_
        refine aJ K44 ?_
        have hq0:q.1=0:=(I4 hqj).1 (by simpa using h_t50)
        have hw:mh ((aD t).lang 0)=some q.2.1:=by
         rw[zw0 hga hi hna (by simpa using h_t47),hqw,hq0,G8];rfl
        rw[hw];refine bQ (gT aF (fun _ _ h=>h) (z71 _) [3] [.tmp 2,.tmp 3] rfl ?_)
        repeat' (first|(show(_:List Int)=_;assumption)|(show(_:List UInt8)=_;assumption)|exact pT|exact trivial|refine aI ?_ ?_|exact iM|refine low_cons' ?_ ?_|exact iN|fail)
        all_goals first|omega|(show _=(lsB (some _)).length;rw[TM,List.length_map])|(rw[TM];rw[if_pos ⟨rfl,by simp⟩])|(rw[if_pos ⟨rfl,by simp⟩];rfl)|exact hL0|(show(_:List Int)=_;first|assumption|rfl)|(show(_:List UInt8)=_;first|assumption|rfl)|(show(0:Nat)< (au _ _ _ _).length;rw[dJ hcl];decide)|(simp[-List.reduceReplicate];done)|(simp[-List.reduceReplicate]<;>omega)|skip
     ·try simp only[dQ,reduceIte]at h_t47
      refine bK (K31 _ _ _ (aO aF fun _ K46=>kV ?_));refine aJ K46 (bO (fM (α:=Nat×Nat×List Int×List UInt8) (fun z=>[(1,.c (.dp (dP t) 0)),(4,.c (.slice 0 0 t.next.length t.next.length)),(5,.c (.slice 1 0 t.next.length t.next.length)),(7,.c (.slice 2 0 (oB t (g.1*256+z.1)).length z.2.1)),(8,.c (.int .i64 (g.1:Nat))),(9,.c (.int .i64 (((oB t (g.1*256)).getD g.1 0):Nat))),(63,.c (.int .i64 (z.1:Nat)))]) (fun z=>[(0,.own 3 (.ints .i64 z.2.2.1) t.next.length),(1,.own 5 (.u8s z.2.2.2) t.next.length),(2,.own 3 (.ints .i64 (aG (oB t (g.1*256+z.1)))) z.2.1)]) 3 (fun z=>z.1<=256/\(oB t (g.1*256+z.1)).length<=z.2.1/\FB t (g.1*256+z.1) z.2.2.1 z.2.2.2) (fun z=>256 - z.1) ?_ ?_))
      ·refine ai [] id (0,g.2.1,g.2.2.1,g.2.2.2) ⟨Nat.zero_le _,hg4,hfb⟩ [0,1,2] kF kF kF kF
      ·intro z hz
       obtain⟨hz1,hz4,hzf⟩:=hz
       have hzfl:=hzf.flen
       have hzbl:=hzf.blen
       refine aO aF fun _ K48=>kV ?_;refine aJ K48 (aH fun _ K49=>bC (b:=_) rfl (fun h_t64=>?_) (fun h_t64=>?_))
       ·try simp only[dQ,reduceIte]at h_t64
        refine bK (K49 _ _ _ (aH fun _ K50=>bO ?_))
        have hb256:z.1< 256:=by omega
        have hiz:g.1< (oB t (g.1*256+z.1)).length:=Nat.lt_of_lt_of_le hi (pR (Nat.le_add_right _ _))
        have hgz:(oB t (g.1*256+z.1)).getD g.1 0=((oB t (g.1*256)).getD g.1 0):=Ir (Nat.le_add_right _ _) hi
        have hcb:=av hok hb256
        have hx:=bz hok hsl hcb.1
        have htl:(lG t ((oB t (g.1*256)).getD g.1 0) z.1)< t.next.length:=hx.1
        have holz:=uB hok (g.1*256+z.1)
        refine aO aF fun _ K52=>?_
        iterate 2 refine kV ?_
        refine aJ K52 (qB aF aN fun _ K54=>QF ?_);refine TL ?_;refine aU (.c (.ds t.next.length (.cells (aS t.next)))) (ak (sD hcl)) ?_
        iterate 2 refine QF ?_
        refine TL ?_;refine aU (.c (.ds (t.next.getD ((oB t (g.1*256)).getD g.1 0) []).length (.ints .i64 (t.next.getD ((oB t (g.1*256)).getD g.1 0) [])))) (ak (oh ⟨hsl,by omega⟩)) ?_
        iterate 3 refine QF ?_
        refine TL ?_;refine aU (.c (.int .i64 (((aD t).cell z.1:Nat):Int))) (ak ((HY hcl (by first|omega|(simp;done)) hb256).trans (congrArg (Cell.int IntKind.i64) hcb.2))) (QF ?_);refine TL ?_;refine aU (.c (.int .i64 ((((lG t ((oB t (g.1*256)).getD g.1 0) z.1):Nat):Int)))) (az ((congrArg (fun i=>(t.next.getD ((oB t (g.1*256)).getD g.1 0) []).getD i 0) (by omega)).trans hx.2)) (QF ?_);refine nG K54 (aO aF fun _ K56=>?_)
        iterate 3 refine kV ?_
        refine z69 ?_;refine aU (.c (.int .i64 (z.2.2.1.getD (lG t ((oB t (g.1*256)).getD g.1 0) z.1) 0))) (az (congrArg (fun i=>z.2.2.1.getD i 0) (by omega))) (kV ?_);refine aJ K56 (bC (b:=_) rfl (fun h_t81=>?_) (fun h_t81=>?_))
        ·try simp only[dQ,reduceIte]at h_t81
         refine aO aF fun _ K58=>?_
         iterate 6 refine kV ?_
         refine z69 ?_;refine aU (.c (.u8 (UInt8.ofNat z.1))) (bq (congrArg (fun v=>SV.c (Cell.u8 v)) (Sb _))) (kV ?_);refine TK ?_;refine kV ?_;refine TK ?_;refine aJ K58 (bB aF fun _ K59=>?_)
         iterate 3 refine kV ?_
         refine z69 ?_;intro cap3 hcap3;refine aL (kV ?_);refine aJ K59 (dD (K50 _ _ _ (bB aF fun _ K60=>?_)))
         iterate 2 refine kV ?_
         refine aJ K60 ?_
         have hnin:(lG t ((oB t (g.1*256)).getD g.1 0) z.1)∉(oB t (g.1*256+z.1)):=fun hx=>by
          have:=hzf.inn _ hx
          omega
         have hmo:=hzf.more hok hb256 hiz (by rw[hgz];exact hnin)
         rw[hgz]at hmo
         have hst:(oB t (g.1*256+(z.1+1)))=(oB t (g.1*256+z.1))++[(lG t ((oB t (g.1*256)).getD g.1 0) z.1)]:=by
          have:=NW hb256 hiz
          rw[hgz,iq,if_neg hnin]at this;exact this
         have hX2:aG (oB t (g.1*256+z.1))++([]++[(((lG t ((oB t (g.1*256)).getD g.1 0) z.1):Nat):Int)])=aG (oB t (g.1*256+(z.1+1))):=by rw[hst,List.nil_append,z39]
         have hL0:(oB t (g.1*256+z.1)).length+1=(oB t (g.1*256+(z.1+1))).length:=by rw[hst,List.length_append];rfl
         have hX5:z.2.2.1.set (0+(((lG t ((oB t (g.1*256)).getD g.1 0) z.1):Nat):Int).toNat*1) ((((oB t (g.1*256)).getD g.1 0):Nat):Int)=z.2.2.1.set (lG t ((oB t (g.1*256)).getD g.1 0) z.1) ((((oB t (g.1*256)).getD g.1 0):Nat):Int):=by congr 1;omega
         have hX6:z.2.2.2.set (0+(((lG t ((oB t (g.1*256)).getD g.1 0) z.1):Nat):Int).toNat*1) (UInt8.ofNat z.1)=z.2.2.2.set (lG t ((oB t (g.1*256)).getD g.1 0) z.1) (UInt8.ofNat z.1):=by congr 1;omega
         refine ai [] (fun i=>if i=2 then 4 else i) (z.1+1,cap3,z.2.2.1.set (lG t ((oB t (g.1*256)).getD g.1 0) z.1) ((((oB t (g.1*256)).getD g.1 0):Nat):Int),z.2.2.2.set (lG t ((oB t (g.1*256)).getD g.1 0) z.1) (UInt8.ofNat z.1)) ⟨⟨by show z.1+1<=256;omega,(by show(oB t (g.1*256+(z.1+1))).length<=cap3;omega),hmo⟩,by show 256 - (z.1+1)< _;omega⟩ [0,1,4] ?_ ?_ ?_ ?_
         ·exact kF
         ·exact kF
         ·exact kF
         ·exact kF
        ·try simp only[dQ,reduceIte]at h_t81
         refine bK (dD (K50 _ _ _ (bB aF fun _ K61=>?_)))
         iterate 2 refine kV ?_
         refine aJ K61 ?_
         have hin:(lG t ((oB t (g.1*256)).getD g.1 0) z.1)∈(oB t (g.1*256+z.1)):=Classical.byContradiction fun hx=>by
          have:=hzf.out _ htl hx
          omega
         have hst:(oB t (g.1*256+(z.1+1)))=(oB t (g.1*256+z.1)):=by
          have:=NW hb256 hiz
          rw[hgz,iq,if_pos hin]at this;exact this
         have hsm:=hzf.same hb256 hiz (by rw[hgz];exact hin)
         rw[<-hst];refine ai [] id (z.1+1,z.2.1,z.2.2.1,z.2.2.2) ⟨⟨by show z.1+1<=256;omega,(by rw[hst];exact hz4),hsm⟩,by show 256 - (z.1+1)< _;omega⟩ [0,1,2] ?_ ?_ ?_ ?_
         ·exact kF
         ·exact kF
         ·exact kF
         ·exact kF
       ·try simp only[dQ,reduceIte]at h_t64
        refine eY (bJ (bJ (eX (dD (K28 _ _ _ (bB aF fun _ K62=>?_))))))
        iterate 3 refine kV ?_
        refine aJ K62 ?_
        have hze:z.1=256:=by omega
        have hpe:g.1*256+z.1=(g.1+1)*256:=by omega
        rw[hpe];rw[hpe]at hz4 hzf
        have hlen2:(oB t (g.1*256)).length<=(oB t ((g.1+1)*256)).length:=pR (by omega)
        have hah:∀ j,j< g.1+1->j< (oB t (j*256)).length:=fun j hj=>by
         rcases Nat.lt_or_ge j g.1 with h1|h1
         ·exact hga j h1
         ·obtain rfl:j=g.1:=by omega
          exact hi
        have hna2:∀ j,j< g.1+1->t.acc.getD ((oB t ((g.1+1)*256)).getD j 0) false=false:=fun j hj=>by
         have hjl:j< (oB t (g.1*256)).length:=Nat.lt_of_le_of_lt (by omega) hi
         have e:(oB t ((g.1+1)*256)).getD j 0=(oB t (g.1*256)).getD j 0:=Ir (by omega) hjl
         rw[e]
         rcases Nat.lt_or_ge j g.1 with h1|h1
         ·exact hna j h1
         ·obtain rfl:j=g.1:=by omega
          simpa using h_t47
        refine ai [] id (g.1+1,z.2.1,z.2.2.1,z.2.2.2) ⟨⟨by show g.1+1<=_;omega,hah,(by show g.1+1<=(oB t ((g.1+1)*256)).length;omega),hz4,hzf,hna2⟩,by show _ - (g.1+1)< _;omega⟩ [0,1,2] ?_ ?_ ?_ ?_
        ·exact kF
        ·exact kF
        ·exact kF
        ·exact kF
    ·try simp only[dQ,reduceIte]at h_t36
     refine eY (bJ (bJ (eX (K22 _ _ _ (aO aF fun _ K64=>?_)))))
     iterate 2 refine kV ?_
     refine aJ K64 ?_;rw[y2a hga (by omega) hna];refine bQ (gT aF (fun _ _ h=>h) (z71 _) [] [.tmp 2,.tmp 3] rfl ?_)
     all_goals exact kF


end Go.Proofs.YtpdljmohhpbkpaaDoor
