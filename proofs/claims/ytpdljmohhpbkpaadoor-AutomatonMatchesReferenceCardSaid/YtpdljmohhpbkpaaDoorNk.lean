/- Contracts of functions and plain facts, part 11. -/
import Derived.Test.YtpdljmohhpbkpaaDoorNj
import Derived.Test.YtpdljmohhpbkpaaDoorNf
import Derived.Test.YtpdljmohhpbkpaaDoorNh
set_option linter.all false
set_option maxHeartbeats 1000000
set_option maxRecDepth 4000
namespace Go.Proofs.YtpdljmohhpbkpaaDoor
open Go.Ab Go.RowKit

section
variable {a b:Prop}
theorem uE(h:a:=by first|exact gG|(simp[-List.reduceReplicate]<;>omega)|(show(_:Nat)< 3;decide)|exact Vn|exact Vo|exact gH):a:=h
theorem uF(h:a:=by first|exact gG|(simp[-List.reduceReplicate]<;>omega)|(show(_:Nat)< 3;decide)|exact Vn|exact Vo|exact vTp|exact Ta hpf.1.clen|exact zjp hpf.1.clen|(show(List.replicate 256 (0:Int)).length=(jL _ _ _).length;rw[fI,List.length_replicate])|(show 256=(jL _ _ _).length;rw[fI])|(show 0< (jL _ _ _).length;rw[fI];decide)|(show 0+(jL _ _ _).length<=(List.replicate 256 (0:Int)).length;rw[fI,List.length_replicate];decide)|(show 0+256*1<=(jL _ _ _).length;rw[fI];decide)|(show(jL _ _ _).length=256*1;rw[fI])|exact gH):a:=h
theorem jV(h:a:=by
    repeat' (first|exact lw _|exact z42 _|exact pT|exact trivial|refine aI ?_ ?_|exact iM|refine low_cons' ?_ ?_|exact iN|fail)
    all_goals first|omega|exact lw _|exact List.mem_cons_self|(show 0< (au _ _ _ _).length;rw[dJ hpf.1.clen];decide)|(show 0< (au _ _ _ _).length;rw[dJ ha.1.clen];decide)|(show 0< (au _ _ _ _).length;rw[dJ hb.1.clen];decide)|(show 0< (jL _ _ _).length;rw[fI];decide)|(intro x hx;cases hx)|(show(0:Nat)< (au _ _ _ _).length;rw[dJ hcl];decide)|(simp[-List.reduceReplicate];done)|(simp[-List.reduceReplicate]<;>omega)|skip):a:=h
theorem Nn(kZ:b)(h:aK b->a:=by intro kZ;(repeat first|refine aI uE ?_|refine bW uE ?_|refine dC uE ?_|refine fT uE ?_|refine fA ?_);exact kZ.out):a:=h ⟨kZ⟩
theorem y2b(kZ:b)(h:aK b->a:=by intro kZ;refine sX ?_;refine Nn ?_;refine aL ?_;exact kZ.out):a:=h ⟨kZ⟩
theorem C9(kZ:b)(h:aK b->a:=by intro kZ;refine dX ?_;refine Nn ?_;refine aL ?_;exact kZ.out):a:=h ⟨kZ⟩
theorem yL(kZ:b)(h:aK b->a:=by intro kZ;refine pu ?_;refine Nn ?_;refine aL ?_;exact kZ.out):a:=h ⟨kZ⟩
theorem MJ(kZ:b)(h:aK b->a:=by intro kZ;refine qX ?_;refine Nn ?_;refine aL ?_;exact kZ.out):a:=h ⟨kZ⟩
theorem kG(kZ:b)(h:aK b->a:=by intro kZ;(repeat first|refine aI uF ?_|refine bW uF ?_|refine dC uF ?_|refine fT uF ?_|refine fA ?_);exact kZ.out):a:=h ⟨kZ⟩
theorem JH(kZ:b)(h:aK b->a:=by intro kZ;refine sX ?_;refine kG ?_;refine aL ?_;exact kZ.out):a:=h ⟨kZ⟩
theorem D6(kZ:b)(h:aK b->a:=by intro kZ;refine dX ?_;refine kG ?_;refine aL ?_;exact kZ.out):a:=h ⟨kZ⟩
theorem NY(kZ:b)(h:aK b->a:=by intro kZ;refine gX ?_;refine kG ?_;refine aL ?_;exact kZ.out):a:=h ⟨kZ⟩
theorem vo(kZ:b)(h:aK b->a:=by intro kZ;refine pu ?_;refine kG ?_;refine aL ?_;exact kZ.out):a:=h ⟨kZ⟩
theorem Xr(kZ:b)(h:aK b->a:=by intro kZ;refine jl ?_;refine kG ?_;refine aL ?_;exact kZ.out):a:=h ⟨kZ⟩
theorem Bl(kZ:b)(h:aK b->a:=by intro kZ;refine dX ?_;refine Nn ?_;exact kZ.out):a:=h ⟨kZ⟩
theorem Mw(kZ:b)(h:aK b->a:=by intro kZ;refine qX ?_;refine Nn ?_;exact kZ.out):a:=h ⟨kZ⟩
theorem z72(kZ:b)(h:aK b->a:=by intro kZ;refine gX ?_;refine kG ?_;exact kZ.out):a:=h ⟨kZ⟩
theorem z80(kZ:b)(h:aK b->a:=by intro kZ;refine sX ?_;refine kG ?_;exact kZ.out):a:=h ⟨kZ⟩
end
open Go.Aut
theorem ZT{S:Type}[DecidableEq S][Inhabited S]{f:S->Nat->S}{nc:Nat}{b0:S}{m:Nat}(h:¬ Big f nc b0 m):∃ n,Full f nc b0 n/\n<=m:=by
  have he:∃ i,(aR f nc b0 (i*nc)).length<=i/\i<=m:=by
    refine Classical.byContradiction fun hn=>h ⟨m,0,fun j hj=>?_,Nat.zero_le _,?_⟩
    · rcases Nat.lt_or_ge j (aR f nc b0 (j*nc)).length with h1|h1
      · exact h1
      · exact absurd ⟨j,h1,hj⟩ hn
    · rcases Nat.lt_or_ge m (aR f nc b0 (m*nc)).length with h1|h1
      · exact h1
      · exact absurd ⟨m,h1,Nat.le_refl _⟩ hn
  obtain⟨i,⟨hi,him⟩,hlt⟩:=least he;refine⟨i,TZ (fun j hj=>?_) hi,him⟩
  have:=hlt j hj
  rcases Nat.lt_or_ge j (aR f nc b0 (j*nc)).length with h1|h1
  · exact h1
  · exact absurd ⟨h1,by omega⟩ this
theorem y2c(a b:Tab):(aA (cN a) (cN b)).length<=256:=by rw[<-Q4];exact UK a b 256
attribute [local irreducible] dm
theorem ED(c d:Nat->Nat):∀ x∈aA c d,x< 256:=fun x hx=>z57.1 (PW hx)
theorem nT(s:ah):∀ x∈encS s,∀ g cs,x≠Cell.clo g cs:=o5.dat s |>.noclo
structure JIn(a b:Tab):Prop where
  pos:0< (aA (cN a) (cN b)).length
  max:(aA (cN a) (cN b)).length<=256
  byte:∀ x∈aA (cN a) (cN b),x< 256
  cl:∀ x∈jL a b 256,0<=x/\x< ((aA (cN a) (cN b)).length:Nat)
  on:∀ c,c< (aA (cN a) (cN b)).length->∃ x,x< 256/\((jL a b 256).getD x 0).toNat=c
  at':∀ x,x< 256->((jL a b 256).getD x 0).toNat< (aA (cN a) (cN b)).length/\∃ r,(aA (cN a) (cN b)).getD ((jL a b 256).getD x 0).toNat 0=r/\cN a r=cN a x/\cN b r=cN b x/\r< 256
theorem gF(a b:Tab):JIn a b:=by
  have hL:∀ x,x< 256->((jL a b 256).getD x 0).toNat=iR (cN a) (cN b) x:=fun x hx=>by rw[jL,iy hx,if_pos hx];rfl
  refine⟨y5,y2c a b,ED _ _,fun x hx=>?_,fun c hc=>?_,fun x hx=>?_⟩
  · obtain⟨y,hy,rfl⟩:=List.mem_map.1 hx
    have hy:=List.mem_range.1 hy
    have:=YY (c:=cN a) (d:=cN b) hy
    rw[if_pos hy];exact⟨by omega,by omega⟩
  · obtain⟨x,hx,e⟩:=zxz hc
    exact⟨x,hx,by rw[hL x hx];exact e⟩
  · rw[hL x hx]
    obtain⟨r,h1,h2,h3,h4⟩:=yZ (c:=cN a) (d:=cN b) hx;exact⟨YY hx,r,JC h1,h2,h3,h4⟩
def gZ(a b:Tab)(s:ah)(c:Nat):ah:=((aD a).δ s.1 (cN a c),(aD b).δ s.2.1 (cN b c),0)
def nU(op:Bool->Bool->Bool)(a b:Tab)(s:ah):Bool:=op (a.acc.getD s.1 false) (b.acc.getD s.2.1 false)
def lm(a b:Tab)(s:ah):Prop:=s.1< a.next.length/\s.2.1< b.next.length/\s.2.2=0
theorem ZU{a b:Tab}(ha:a.fit)(hb:b.fit){s:ah}{c:Nat}(hs:lm a b s)(hc:c< 256):lm a b (gZ a b s c):=
  ⟨(bz ha.1 hs.1 (av ha.1 hc).1).1,(bz hb.1 hs.2.1 (av hb.1 hc).1).1,rfl⟩
theorem zq{a b:Tab}(ha:a.fit)(hb:b.fit){s:ah}(hs:lm a b s):Mc s:=by
 have h1:=ha.2.1
 have h2:=hb.2.1
 exact⟨by have:=hs.1;omega,by have:=hs.2.1;omega⟩
theorem zy9{a b:Tab}(s:ah){x:Nat}(hx:x< 256):aC (gZ a b) (aA (cN a) (cN b)) s ((jL a b 256).getD x 0).toNat=gZ a b s x:=by
  obtain⟨_,r,h1,h2,h3,_⟩:=(gF a b).at' x hx;rw[aC,h1,gZ,gZ,h2,h3]
noncomputable def jE(op:Bool->Bool->Bool)(a b:Tab):Tab:=(jf (gZ a b) (nU op a b) (jL a b 256) (aA (cN a) (cN b)) (0,0,0) 1073741824).1
theorem zw1{a b:Tab}(ha:a.fit)(hb:b.fit)(h64:a.next.length<=64/\b.next.length<=64){m:Nat}(hm:4096<=m):¬ Big (aC (gZ a b) (aA (cN a) (cN b))) (aA (cN a) (cN b)).length (0,0,0) m:=by
  rintro ⟨i,k,hj,hk,hl⟩
  have hin:∀ s∈aR (aC (gZ a b) (aA (cN a) (cN b))) (aA (cN a) (cN b)).length (0,0,0) (i*(aA (cN a) (cN b)).length+k),lm a b s:=
    QD (Inv:=lm a b) ⟨ha.1.npos,hb.1.npos,rfl⟩ (fun s c hs hc=>ZU ha hb hs hc) (gF a b).byte (gF a b).pos (UH (gF a b).pos hj hk)
  have hn:=Lh (f:=aC (gZ a b) (aA (cN a) (cN b))) (nc:=(aA (cN a) (cN b)).length) (b0:=((0,0,0):ah)) (i*(aA (cN a) (cN b)).length+k)
  have h1:((aR (aC (gZ a b) (aA (cN a) (cN b))) (aA (cN a) (cN b)).length (0,0,0) (i*(aA (cN a) (cN b)).length+k)).map fun s:ah=>s.1*64+s.2.1).Nodup:=by
    refine List.pairwise_map.2 (List.Pairwise.imp_of_mem ?_ hn);intro s q hs hq hne e
    have a1:=hin s hs
    have a2:=hin q hq
    refine hne ?_
    have b1:=a1.1;have b2:=a1.2.1;have b3:=a2.1;have b4:=a2.2.1
    have e1:s.1=q.1:=by omega
    have e2:s.2.1=q.2.1:=by omega
    exact Prod.ext e1 (Prod.ext e2 (a1.2.2.trans a2.2.2.symm))
  have h2:=ND (K:=4096) h1 fun x hx=>by
    obtain⟨s,hs,rfl⟩:=List.mem_map.1 hx
    have a1:=hin s hs
    have b1:=a1.1;have b2:=a1.2.1
    omega
  rw[List.length_map]at h2
  omega
theorem zqs(a b:Tab):∀ (w:List Nat) (s:ah),(bZ (gZ a b) s w).1=bZ (fun p c=>(aD a).δ p (cN a c)) s.1 w/\(bZ (gZ a b) s w).2.1=bZ (fun p c=>(aD b).δ p (cN b c)) s.2.1 w
  |[],s=>⟨rfl,rfl⟩
  |c::w,s=>zqs a b w (gZ a b s c)
theorem Rz{op:Bool->Bool->Bool}{a b:Tab}(ha:a.fit)(hb:b.fit)(h64:a.next.length<=64/\b.next.length<=64):(jE op a b).fit/\∀ w,Bytes w->(aD (jE op a b)).lang 0 w=op ((aD a).lang 0 w) ((aD b).lang 0 w):=by
  have hnb:=zw1 ha hb h64 (m:=1073741824) (by decide)
  obtain⟨n,hn,hle⟩:=ZT (zw1 ha hb h64 (m:=4096) (Nat.le_refl _))
  have hn0:0< n:=by
    rcases Nat.eq_zero_or_pos n with e|e
    · subst e
      have:=hn.len
      have h2:=Sr (f:=aC (gZ a b) (aA (cN a) (cN b))) (nc:=(aA (cN a) (cN b)).length) (b0:=((0,0,0):ah)) (0*(aA (cN a) (cN b)).length)
      omega
    · exact e
  have e:jE op a b=iw (aC (gZ a b) (aA (cN a) (cN b))) (nU op a b) (jL a b 256) (aA (cN a) (cN b)).length (0,0,0) n:=by
    rw[jE,jf,if_neg hnb,Nl hn]
  have hj:=gF a b
  rw[e];refine⟨⟨y0g hn hn0 (fI a b 256) hj.cl hj.on,?_,hj.max⟩,fun w hw=>?_⟩
  · show(bP _ _ _ n).length<=65535
    rw[vY];omega
  · rw[zqa (g:=gZ a b) hn hn0 (fun x hx=>(hj.at' x hx).1) (fun s x hx=>zy9 s hx) hw]
    obtain⟨h1,h2⟩:=zqs a b w (0,0,0);rw[nU,h1,h2,Ms,Ms];rfl
def lQ(op:Bool->Bool->Bool)(d e:Dfa):List Nat->Bool:=fun w=>op (aT d w) (aT e w)
theorem zw2{op:Bool->Bool->Bool}{d e:Dfa}(hd:d.good)(he:e.good):af ((aD (jE op (ag d) (ag e))).lang 0)=af (lQ op d e):=CK fun w hw=>by
  rw[(Rz (kS hd) (kS he) ⟨hd.2,he.2⟩).2 w hw,uT d 0 hw,uT e 0 hw];rfl
noncomputable def jO(op:Bool->Bool->Bool)(d e:Dfa):Dfa×Nat:=if eQ d=true/\eQ e=true then lU (af (lQ op d e)) else(uA,1)
def jN(t:Tab):Cell:=.dp (dP t) 0
theorem Kc(a b:Tab):∀ x∈[jN a,jN b],∀ g l,x≠Cell.clo g l:=fun x hx g l=>by
  rcases List.mem_cons.1 hx with rfl|hx
  · intro e;cases e
  · rw[List.mem_singleton.1 hx];intro e;cases e
attribute [local irreducible] eG z12 zl au gz cr jL iR aA
def WE:aW:=fun vs K=>∃ (a b:Tab) (s:ah) (c:Nat),vs=[jW s,.c (.int .i64 (c:Int)),.c (jN a),.c (jN b)]/\(a.fit/\b.fit/\lm a b s/\c< 256)/\K (jW (gZ a b s c))
theorem zn:jJ Tryd.prog gl 72 WE:=by
 refine kU (Γ:=g0) (N:=32) Tryd.func72 rfl rfl fun vs K h=>?_;obtain⟨a,b,s,c,rfl,⟨ha,hb,hs,hc⟩,h⟩:=h;refine⟨_,h,rfl,by simp,fun w I=>?_⟩;refine aO aF fun _ K2=>?_
 iterate 2 refine y2b ?_
 refine aJ K2 ?_
 have hxa:(aD a).δ s.1 (cN a c)< a.next.length/\(a.next.getD s.1 []).getD (cN a c) 0=((aD a).δ s.1 (cN a c):Nat):=bz ha.1 hs.1 (av ha.1 hc).1
 have hxb:(aD b).δ s.2.1 (cN b c)< b.next.length/\(b.next.getD s.2.1 []).getD (cN b c) 0=((aD b).δ s.2.1 (cN b c):Nat):=bz hb.1 hs.2.1 (av hb.1 hc).1
 have hra:=oz ha.1 hs.1
 have hrb:=oz hb.1 hs.2.1
 have hca:=(av ha.1 hc).1
 have hcb:=(av hb.1 hc).1
 have hs1:=hs.1
 have hs2:=hs.2.1
 have hca2:cN a c< a.nc:=hca
 have hcb2:cN b c< b.nc:=hcb
 refine vR aF [(0,true),(1,true),(2,true),(3,true),(4,true),(5,true),(6,true),(7,true),(8,true),(9,true),(10,true),(11,true),(12,true),(13,true),(14,true),(15,true),(16,true),(17,true),(18,true),(19,true),(20,true),(21,true),(22,true),(23,true),(24,true),(25,false)] rfl aN aN fun _ K4=>C9 ?_;refine Bl ?_;refine aU (.c (.ds a.next.length (.cells (aS a.next)))) (ak (sD ha.1.clen)) (C9 ?_);refine Bl ?_;refine aU (.c (.int .i64 (((s.1:Nat):Int)))) (az (rfl)) (C9 ?_);refine Bl ?_;refine aU (.c (.ds (a.next.getD s.1 []).length (.ints .i64 (a.next.getD s.1 [])))) (ak (oh ⟨hs1,by omega⟩)) ?_
 iterate 3 refine C9 ?_
 refine Bl ?_;refine aU (.c (.int .i64 ((cN a c:Nat):Int))) (ak ((HY ha.1.clen (by first|omega|(simp;done)) hc).trans (congrArg (Cell.int IntKind.i64) (av ha.1 hc).2))) (C9 ?_);refine Bl ?_;refine aU (.c (.int .i64 ((((aD a).δ s.1 (cN a c):Nat):Int)))) (az ((congrArg (fun i=>(a.next.getD s.1 []).getD i 0) (by omega)).trans hxa.2)) (C9 ?_);refine Bl ?_;refine aU (.c (.ds b.next.length (.cells (aS b.next)))) (ak (sD hb.1.clen)) (C9 ?_);refine Bl ?_;refine aU (.c (.int .i64 (((s.2.1:Nat):Int)))) (az (rfl)) (C9 ?_);refine Bl ?_;refine aU (.c (.ds (b.next.getD s.2.1 []).length (.ints .i64 (b.next.getD s.2.1 [])))) (ak (oh ⟨hs2,by omega⟩)) ?_
 iterate 3 refine C9 ?_
 refine Bl ?_;refine aU (.c (.int .i64 ((cN b c:Nat):Int))) (ak ((HY hb.1.clen (by first|omega|(simp;done)) hc).trans (congrArg (Cell.int IntKind.i64) (av hb.1 hc).2))) (C9 ?_);refine Bl ?_;refine aU (.c (.int .i64 ((((aD b).δ s.2.1 (cN b c):Nat):Int)))) (az ((congrArg (fun i=>(b.next.getD s.2.1 []).getD i 0) (by omega)).trans hxb.2)) (Bl ?_);refine aU (jW (gZ a b s c)) (SV.as_refl _) (yL ?_);refine iF K4 (bQ (eU aF (fun _ _ h=>h) rfl [.cell 6 64] rfl ?_))
 repeat first|refine aI (by first|exact trivial|rfl|(show(_:Nat)<=3;decide)|(show(_:Nat)< 3;decide)|decide) ?_|refine bW (by rfl) ?_
 rfl

def uh(f:FuncId):Cell:=.dp (.cells [.clo f []]) 0
theorem V7(f:FuncId)(a b:Tab):∀ x∈[uh f,jN a,jN b],∀ g l,x≠Cell.clo g l:=fun x hx g l=>by
  rcases List.mem_cons.1 hx with rfl|hx
  · intro e;cases e
  · exact Kc a b x hx g l
def WF(hf:FuncId)(hq:aW):aW:=fun vs K=>∃ (op:Bool->Bool->Bool) (a b:Tab) (s:ah),vs=[jW s,.c (uh hf),.c (jN a),.c (jN b)]/\(a.fit/\b.fit/\lm a b s)/\(∀ x y,hq [.c (.bool x),.c (.bool y)] (fun v=>v= .c (.bool (op x y))))/\K (.c (.bool (nU op a b s)))
theorem zo{hf:FuncId}{hq:aW}(hen:qJ Tryd.prog hf)(hok:jJ Tryd.prog gl hf hq):jJ Tryd.prog gl 73 (WF hf hq):=by
 refine kU (Γ:=gK hf hq) (N:=20) Tryd.func73 rfl rfl fun vs K h=>?_;obtain⟨op,a,b,s,rfl,⟨ha,hb,hs⟩,hcall,h⟩:=h;refine⟨_,h,rfl,by simp,fun w I=>?_⟩
 have hlook:=y0i (f:=hf) (q:=hq)
 refine aO (kw hen hok) fun _ K2=>?_
 iterate 2 refine y2b ?_
 refine aJ K2 ?_
 have hs1:=hs.1
 have hs2:=hs.2.1
 have hla:=ha.1.alen
 have hlb:=hb.1.alen
 refine qB (kw hen hok) aN fun _ K4=>?_
 iterate 2 refine MJ ?_
 refine Mw ?_;refine aU (.c (.ds a.acc.length (.bools a.acc))) (ak (JX ha.1.clen)) (MJ ?_);refine Mw ?_;refine aU (.c (.int .i64 (((s.1:Nat):Int)))) (az (rfl)) (MJ ?_);refine Mw ?_;refine aU (.c (.bool (a.acc.getD s.1 false))) (dN (congrArg (fun i=>a.acc.getD i false) (by omega))) (MJ ?_);refine Mw ?_;refine aU (.c (.ds b.acc.length (.bools b.acc))) (ak (JX hb.1.clen)) (MJ ?_);refine Mw ?_;refine aU (.c (.int .i64 (((s.2.1:Nat):Int)))) (az (rfl)) (MJ ?_);refine Mw ?_;refine aU (.c (.bool (b.acc.getD s.2.1 false))) (dN (congrArg (fun i=>b.acc.getD i false) (by omega))) (qX ?_);refine zkx (xs:=[.bool (a.acc.getD s.1 false),.bool (b.acc.getD s.2.1 false)]) hlook (o8 zla (o8 zla si)) si ⟨_,hcall _ _,?_⟩
 first|refine aL ?_|(intro cap13 hcap13;refine aL ?_)
 refine MJ ?_;refine nG K4 (bQ (eU (kw hen hok) (fun _ _ h=>h) (by first|rfl|assumption) [.tmp 5] rfl ?_));refine gV ?_
 rfl

noncomputable def U0(hf:FuncId)(hq:aW):Ctx:={ P:=Tryd.prog,ty:=ty,glob:=gl,fs:=[(32,.data Lt),(34,.data UL),(38,.data (TI 72 WE 73 (WF hf hq)))] }
theorem kX{hf:FuncId}{hq:aW}(hen:qJ Tryd.prog hf)(hok:jJ Tryd.prog gl hf hq):(U0 hf hq).OK:=⟨dS,⟨⟨bX Tryd.func32 aN rfl,Mj⟩,⟨bX Tryd.func34 aN rfl,Yb⟩,⟨bX Tryd.func38 aN rfl,XP (bX Tryd.func72 aN rfl) zn (bX Tryd.func73 aN rfl) (zo hen hok) (by decide)⟩,trivial⟩,mixed⟩
@[simp] theorem U1{hf:FuncId}{hq:aW}:(U0 hf hq).ty=ty:=rfl
theorem y2f{hf:FuncId}{hq:aW}{op:Bool->Bool->Bool}{a b:Tab}(ha:a.fit)(hb:b.fit)(hcall:∀ x y,hq [.c (.bool x),.c (.bool y)] (fun v=>v= .c (.bool (op x y)))):Cj WE (WF hf hq) (gZ a b) (nU op a b) (lm a b) (jL a b 256) (aA (cN a) (cN b)) (0,0,0) [jN a,jN b] [uh hf,jN a,jN b] 1073741824:=
  ⟨fI a b 256,(gF a b).pos,(gF a b).max,(gF a b).byte,by decide,Nat.le_refl _,o8 qV (o8 qV si),o8 qV (o8 qV (o8 qV si)),⟨ha.1.npos,hb.1.npos,rfl⟩,fun s hs=>zq ha hb hs,fun s c hs hc=>ZU ha hb hs hc,
   fun s c hs hc=>⟨a,b,s,c,rfl,⟨ha,hb,hs,hc⟩,rfl⟩,fun s hs=>⟨op,a,b,s,rfl,⟨ha,hb,hs⟩,hcall,rfl⟩⟩
attribute [local irreducible] jE jf
def Yc(hf:FuncId)(hq:aW):aW:=fun vs K=>∃ (op:Bool->Bool->Bool) (d e:Dfa),vs=[df d,df e,.c (.clo hf [])]/\(d.good/\e.good)/\(∀ x y,hq [.c (.bool x),.c (.bool y)] (fun v=>v= .c (.bool (op x y))))/\K (bu (jE op (ag d) (ag e)))
theorem zlw{hf:FuncId}{hq:aW}(hen:qJ Tryd.prog hf)(hok:jJ Tryd.prog gl hf hq):jr Tryd.prog gl 53 (Yc hf hq):=by
 refine kJ (Γ:=U0 hf hq) (N:=35) Tryd.func53 rfl rfl fun vs K h=>?_;obtain⟨op,d,e,rfl,⟨hd,he⟩,hcall,h⟩:=h;refine⟨_,h,z42 _,by simp,fun w I=>?_⟩
 have ha:=kS hd
 have hb:=kS he
 have hpf:=(Rz (op:=op) ha hb ⟨hd.2,he.2⟩).1
 obtain⟨a,hae⟩:∃ a,a=ag d:=⟨_,rfl⟩;obtain⟨b,hbe⟩:∃ b,b=ag e:=⟨_,rfl⟩;rw[<-hae]at ha hpf;rw[<-hbe]at hb hpf
 have hex:=y2f (hf:=hf) (hq:=hq) ha hb hcall
 rw[<-hae, <-hbe];refine aO (kX hen hok) fun _ K2=>?_
 iterate 4 refine JH ?_
 refine aJ K2 ?_;refine qf (α:=Unit) (fun _=>[(5,.c (uh hf)),(6,.c (.ptr 0 0)),(7,.c (jN a)),(8,.c (jN b))]) (fun _=>[(0,.own 56 (.cells zl) 259)]) 1 (fun _=>True) ?_ ?_
 ·refine QT (kX hen hok) ?_
  refine lK (kX hen hok) (g:=6) aN [(0,true),(2,true)] aN fun _ K4=>?_
  iterate 2 refine D6 ?_
  refine iF K4 ?_;refine ji [1,4,5] aN (by decide) (List.forall_mem_cons.2 ⟨?_,List.forall_mem_cons.2 ⟨?_,List.forall_mem_cons.2 ⟨?_,fun _ h=>by cases h⟩⟩⟩)
  ·refine dY (kX hen hok) ?_
   refine kG ?_;refine⟨d,rfl,hd,?_⟩;rw[<-hae];refine kG ?_
   first|refine aL ?_|(intro cap1 hcap1;refine aL ?_)
   refine ji [3,4,5] aN (by decide) (List.forall_mem_cons.2 ⟨?_,List.forall_mem_cons.2 ⟨?_,List.forall_mem_cons.2 ⟨?_,fun _ h=>by cases h⟩⟩⟩)
   ·refine dY (kX hen hok) ?_
    refine kG ?_;refine⟨e,rfl,he,?_⟩;rw[<-hbe];refine kG ?_
    first|refine aL ?_|(intro cap3 hcap3;refine aL ?_)
    refine ji [4,5] aN (by decide) (List.forall_mem_cons.2 ⟨?_,List.forall_mem_cons.2 ⟨?_,fun _ h=>by cases h⟩⟩)
    ·refine dY (kX hen hok) ?_
     refine kG ?_;refine aL ?_;refine lK (kX hen hok) (g:=0) aN [(5,false),(6,false),(7,false)] aN fun _ K5=>?_;refine NY ?_
     iterate 2 refine vo ?_
     refine iF K5 ?_;refine z24 aN ?_;refine ai [2,4,5] (fun _=>3) () trivial [3] jV jV jV jV
    ·refine dY (kX hen hok) ?_
     refine kG ?_;refine aL ?_;refine lK (kX hen hok) (g:=0) aN [(4,false),(6,false),(7,false)] aN fun _ K6=>?_;refine NY ?_
     iterate 2 refine vo ?_
     refine iF K6 ?_;refine z24 aN ?_;refine ai [2,4,5] (fun _=>3) () trivial [3] jV jV jV jV
   ·refine dY (kX hen hok) ?_
    refine kG ?_;refine aL ?_;refine ji [3,5] aN (by decide) (List.forall_mem_cons.2 ⟨?_,List.forall_mem_cons.2 ⟨?_,fun _ h=>by cases h⟩⟩)
    ·refine dY (kX hen hok) ?_
     refine kG ?_;refine⟨e,rfl,he,?_⟩;rw[<-hbe];refine kG ?_
     first|refine aL ?_|(intro cap3 hcap3;refine aL ?_)
     refine lK (kX hen hok) (g:=0) aN [(5,false),(6,false),(7,false)] aN fun _ K7=>?_;refine NY ?_
     iterate 2 refine vo ?_
     refine iF K7 ?_;refine z24 aN ?_;refine ai [2,4,5] (fun _=>3) () trivial [3] jV jV jV jV
    ·refine dY (kX hen hok) ?_
     refine kG ?_;refine aL ?_;refine lK (kX hen hok) (g:=0) aN [(3,false),(6,false),(7,false)] aN fun _ K8=>?_;refine z72 ?_;refine⟨e,rfl,he,?_⟩;rw[<-hbe];refine kG ?_
     first|refine aL ?_|(intro cap3 hcap3;refine aL ?_)
     iterate 2 refine vo ?_
     refine iF K8 ?_;refine z24 aN ?_;refine ai [2,4,5] (fun _=>3) () trivial [3] jV jV jV jV
   ·refine dY (kX hen hok) ?_
    refine kG ?_;refine aL ?_;refine ji [3,4] aN (by decide) (List.forall_mem_cons.2 ⟨?_,List.forall_mem_cons.2 ⟨?_,fun _ h=>by cases h⟩⟩)
    ·refine dY (kX hen hok) ?_
     refine kG ?_;refine⟨e,rfl,he,?_⟩;rw[<-hbe];refine kG ?_
     first|refine aL ?_|(intro cap3 hcap3;refine aL ?_)
     refine lK (kX hen hok) (g:=0) aN [(4,false),(6,false),(7,false)] aN fun _ K9=>?_;refine NY ?_
     iterate 2 refine vo ?_
     refine iF K9 ?_;refine z24 aN ?_;refine ai [2,4,5] (fun _=>3) () trivial [3] jV jV jV jV
    ·refine dY (kX hen hok) ?_
     refine kG ?_;refine aL ?_;refine lK (kX hen hok) (g:=0) aN [(3,false),(6,false),(7,false)] aN fun _ K10=>?_;refine z72 ?_;refine⟨e,rfl,he,?_⟩;rw[<-hbe];refine kG ?_
     first|refine aL ?_|(intro cap3 hcap3;refine aL ?_)
     iterate 2 refine vo ?_
     refine iF K10 ?_;refine z24 aN ?_;refine ai [2,4,5] (fun _=>3) () trivial [3] jV jV jV jV
  ·refine dY (kX hen hok) ?_
   refine kG ?_;refine aL ?_;refine ji [1,5] aN (by decide) (List.forall_mem_cons.2 ⟨?_,List.forall_mem_cons.2 ⟨?_,fun _ h=>by cases h⟩⟩)
   ·refine dY (kX hen hok) ?_
    refine kG ?_;refine⟨d,rfl,hd,?_⟩;rw[<-hae];refine kG ?_
    first|refine aL ?_|(intro cap1 hcap1;refine aL ?_)
    refine ji [3,5] aN (by decide) (List.forall_mem_cons.2 ⟨?_,List.forall_mem_cons.2 ⟨?_,fun _ h=>by cases h⟩⟩)
    ·refine dY (kX hen hok) ?_
     refine kG ?_;refine⟨e,rfl,he,?_⟩;rw[<-hbe];refine kG ?_
     first|refine aL ?_|(intro cap3 hcap3;refine aL ?_)
     refine lK (kX hen hok) (g:=0) aN [(5,false),(6,false),(7,false)] aN fun _ K11=>?_;refine NY ?_
     iterate 2 refine vo ?_
     refine iF K11 ?_;refine z24 aN ?_;refine ai [2,4,5] (fun _=>3) () trivial [3] jV jV jV jV
    ·refine dY (kX hen hok) ?_
     refine kG ?_;refine aL ?_;refine lK (kX hen hok) (g:=0) aN [(3,false),(6,false),(7,false)] aN fun _ K12=>?_;refine z72 ?_;refine⟨e,rfl,he,?_⟩;rw[<-hbe];refine kG ?_
     first|refine aL ?_|(intro cap3 hcap3;refine aL ?_)
     iterate 2 refine vo ?_
     refine iF K12 ?_;refine z24 aN ?_;refine ai [2,4,5] (fun _=>3) () trivial [3] jV jV jV jV
   ·refine dY (kX hen hok) ?_
    refine kG ?_;refine aL ?_;refine lK (kX hen hok) (g:=0) aN [(1,false),(3,false),(6,false),(7,false)] aN fun _ K13=>?_;refine z72 ?_;refine⟨d,rfl,hd,?_⟩;rw[<-hae];refine kG ?_
    first|refine aL ?_|(intro cap1 hcap1;refine aL ?_)
    refine z72 ?_;refine⟨e,rfl,he,?_⟩;rw[<-hbe];refine kG ?_
    first|refine aL ?_|(intro cap3 hcap3;refine aL ?_)
    iterate 2 refine vo ?_
    refine iF K13 ?_;refine z24 aN ?_;refine ai [2,4,5] (fun _=>3) () trivial [3] jV jV jV jV
  ·refine dY (kX hen hok) ?_
   refine kG ?_;refine aL ?_;refine ji [1,4] aN (by decide) (List.forall_mem_cons.2 ⟨?_,List.forall_mem_cons.2 ⟨?_,fun _ h=>by cases h⟩⟩)
   ·refine dY (kX hen hok) ?_
    refine kG ?_;refine⟨d,rfl,hd,?_⟩;rw[<-hae];refine kG ?_
    first|refine aL ?_|(intro cap1 hcap1;refine aL ?_)
    refine ji [3,4] aN (by decide) (List.forall_mem_cons.2 ⟨?_,List.forall_mem_cons.2 ⟨?_,fun _ h=>by cases h⟩⟩)
    ·refine dY (kX hen hok) ?_
     refine kG ?_;refine⟨e,rfl,he,?_⟩;rw[<-hbe];refine kG ?_
     first|refine aL ?_|(intro cap3 hcap3;refine aL ?_)
     refine lK (kX hen hok) (g:=0) aN [(4,false),(6,false),(7,false)] aN fun _ K14=>?_;refine NY ?_
     iterate 2 refine vo ?_
     refine iF K14 ?_;refine z24 aN ?_;refine ai [2,4,5] (fun _=>3) () trivial [3] jV jV jV jV
    ·refine dY (kX hen hok) ?_
     refine kG ?_;refine aL ?_;refine lK (kX hen hok) (g:=0) aN [(3,false),(6,false),(7,false)] aN fun _ K15=>?_;refine z72 ?_;refine⟨e,rfl,he,?_⟩;rw[<-hbe];refine kG ?_
     first|refine aL ?_|(intro cap3 hcap3;refine aL ?_)
     iterate 2 refine vo ?_
     refine iF K15 ?_;refine z24 aN ?_;refine ai [2,4,5] (fun _=>3) () trivial [3] jV jV jV jV
   ·refine dY (kX hen hok) ?_
    refine kG ?_;refine aL ?_;refine lK (kX hen hok) (g:=0) aN [(1,false),(3,false),(6,false),(7,false)] aN fun _ K16=>?_;refine z72 ?_;refine⟨d,rfl,hd,?_⟩;rw[<-hae];refine kG ?_
    first|refine aL ?_|(intro cap1 hcap1;refine aL ?_)
    refine z72 ?_;refine⟨e,rfl,he,?_⟩;rw[<-hbe];refine kG ?_
    first|refine aL ?_|(intro cap3 hcap3;refine aL ?_)
    iterate 2 refine vo ?_
    refine iF K16 ?_;refine z24 aN ?_;refine ai [2,4,5] (fun _=>3) () trivial [3] jV jV jV jV
 ·intro u hu
  clear hu;refine aO (kX hen hok) fun _ K18=>?_;refine z80 ?_;refine aU (bu a) (SV.as_refl _) ?_;refine z80 ?_;refine aU (bu b) (SV.as_refl _) ?_;refine z80 ?_;refine aI (lu _) ?_;refine lz _ ?_;refine aI (lu _) ?_;refine lz _ ?_;refine⟨a,b,rfl,⟨ha,hb⟩,?_⟩
  simp only[pW]
  refine kG ?_
  first|refine aL ?_|(intro cap2 hcap2;refine aL ?_)
  iterate 4 refine JH ?_
  refine Xr ?_;refine JH ?_;refine aJ K18 ?_;refine fQ [1] id [(5,.c (uh hf)),(6,.c (.ptr 0 0)),(7,.c (jN a)),(8,.c (jN b)),(9,.c (.dp (.ints .i64 (jL a b 256)) 0)),(10,.c (.ds (aA (cN a) (cN b)).length (.ints .i64 (aG (aA (cN a) (cN b))))))] [(0,.own 56 (.cells zl) 259)] 1 [0] jV jV jV jV ?_;refine aO (kX hen hok) fun _ K20=>?_
  iterate 2 refine JH ?_
  refine aJ K20 ?_;refine aO (kX hen hok) fun _ K22=>?_;refine z80 ?_;refine aU (.agg (.ints .i64 (jL a b 256))) (SV.as_refl _) ?_;refine JH ?_;refine z80 ?_;refine aU (jW (0,0,0)) (bq rfl) ?_
  iterate 2 refine JH ?_
  refine z80 ?_;refine aI (nT _) ?_;refine aI (Kc _ _) ?_;refine aI (V7 _ _ _) ?_;refine⟨gZ a b,nU op a b,lm a b,jL a b 256,aA (cN a) (cN b),(0,0,0),[jN a,jN b],[uh hf,jN a,jN b],1073741824,rfl,hex,?_⟩;rw[show UX (jf (gZ a b) (nU op a b) (jL a b 256) (aA (cN a) (cN b)) (0,0,0) 1073741824)= .tup [.agg (dP (jE op a b)),.c (.bool (jf (gZ a b) (nU op a b) (jL a b 256) (aA (cN a) (cN b)) (0,0,0) 1073741824).2)] by unfold jE;rfl];refine kG ?_
  first|refine aL ?_|(intro cap5 hcap5;refine aL ?_)
  iterate 4 refine JH ?_
  refine Xr ?_;refine JH ?_;refine aJ K22 ?_;refine aO (kX hen hok) fun _ K24=>?_;refine z80 ?_;refine aU (bu (jE op a b)) (SV.as_refl _) ?_;refine Xr ?_;refine aJ K24 ?_;refine bQ (gT (kX hen hok) (fun _ _ h=>h) (z42 _) [] [.cell 6 56] rfl ?_)
  repeat first|refine aI (by first|exact trivial|rfl|exact⟨rfl,rfl⟩|decide|exact Bj trivial trivial|exact Ta hpf.1.clen|(show 0+259<=(au _ _ _ _).length;rw[dJ hpf.1.clen];decide)|(show 0< (au _ _ _ _).length;rw[dJ hpf.1.clen];decide)) ?_|refine dC (zjp hpf.1.clen) ?_|refine bW (by exact dJ hpf.1.clen) ?_
  all_goals exact jV

end Go.Proofs.YtpdljmohhpbkpaaDoor

namespace Go.Proofs.YtpdljmohhpbkpaaDoor
open Go.Ab Go.RowKit

section
variable {a b:Prop}
theorem Np(h:a:=by
    repeat' (first|exact lw _|exact z42 _|exact pT|exact trivial|refine aI ?_ ?_|exact iM|refine low_cons' ?_ ?_|exact iN|fail)
    all_goals first|omega|exact lw _|(show(0:Nat)< (au _ _ _ _).length;rw[dJ hcl];decide)|(simp[-List.reduceReplicate];done)|(simp[-List.reduceReplicate]<;>omega)|skip):a:=h
theorem Ch(kZ:b)(h:aK b->a:=by intro kZ;refine mX ?_;refine oJ ?_;refine aL ?_;exact kZ.out):a:=h ⟨kZ⟩
theorem UM(kZ:b)(h:aK b->a:=by intro kZ;refine mX ?_;refine gJ ?_;refine aL ?_;exact kZ.out):a:=h ⟨kZ⟩
theorem y2h(kZ:b)(h:aK b->a:=by intro kZ;refine mX ?_;refine gJ ?_;exact kZ.out):a:=h ⟨kZ⟩
end
open Go.Aut
attribute [local irreducible] eG z12 zl au gz cr jE af
def IG:aW:=fun vs K=>∃ x y:Bool,vs=[.c (.bool x),.c (.bool y)]/\K (.c (.bool (x&&y)))
theorem Du:jJ Tryd.prog gl 28 IG:=by
 refine kU (Γ:=g0) (N:=9) Tryd.func28 rfl rfl fun vs K h=>?_;obtain⟨x,y,rfl,h⟩:=h;refine⟨_,h,rfl,by simp,fun w I=>?_⟩;refine aO aF fun _ K2=>fU ?_;refine aJ K2 (aO aF fun _ K4=>fU ?_);refine gm ?_;refine fO (fun hb1=>?_) (fun hb1=>?_)
 ·try simp only[dQ,reduceIte]at hb1
  refine Ch ?_
  iterate 2 refine fU ?_
  refine aJ K4 (bQ (eU aF (fun _ _ h=>h) (by first|rfl|assumption) [.tmp 4] rfl ?_));refine gV ?_
  first|rfl|(cases x<;>cases y<;>rfl)|(cases x<;>cases y<;>first|rfl|simp_all)
 ·try simp only[dQ,reduceIte]at hb1
  refine sN ?_
  iterate 2 refine fU ?_
  refine aJ K4 (bQ (eU aF (fun _ _ h=>h) (by first|rfl|assumption) [.tmp 4] rfl ?_));refine gV ?_
  first|rfl|(cases x<;>cases y<;>rfl)|(cases x<;>cases y<;>first|rfl|simp_all)

def OY:aW:=fun vs K=>∃ x y:Bool,vs=[.c (.bool x),.c (.bool y)]/\K (.c (.bool (x||y)))
theorem KT:jJ Tryd.prog gl 30 OY:=by
 refine kU (Γ:=g0) (N:=9) Tryd.func30 rfl rfl fun vs K h=>?_;obtain⟨x,y,rfl,h⟩:=h;refine⟨_,h,rfl,by simp,fun w I=>?_⟩;refine aO aF fun _ K2=>fU ?_;refine aJ K2 (aO aF fun _ K4=>fU ?_);refine gm ?_;refine fO (fun hb1=>?_) (fun hb1=>?_)
 ·try simp only[dQ,reduceIte]at hb1
  refine sN ?_
  iterate 2 refine fU ?_
  refine aJ K4 (bQ (eU aF (fun _ _ h=>h) (by first|rfl|assumption) [.tmp 4] rfl ?_));refine gV ?_
  first|rfl|(cases x<;>cases y<;>rfl)|(cases x<;>cases y<;>first|rfl|simp_all)
 ·try simp only[dQ,reduceIte]at hb1
  refine Ch ?_
  iterate 2 refine fU ?_
  refine aJ K4 (bQ (eU aF (fun _ _ h=>h) (by first|rfl|assumption) [.tmp 4] rfl ?_));refine gV ?_
  first|rfl|(cases x<;>cases y<;>rfl)|(cases x<;>cases y<;>first|rfl|simp_all)

def y2i:aW:=fun vs K=>∃ x y:Bool,vs=[.c (.bool x),.c (.bool y)]/\K (.c (.bool (x&& !y)))
theorem y2j:jJ Tryd.prog gl 31 y2i:=by
 refine kU (Γ:=g0) (N:=10) Tryd.func31 rfl rfl fun vs K h=>?_;obtain⟨x,y,rfl,h⟩:=h;refine⟨_,h,rfl,by simp,fun w I=>?_⟩;refine aO aF fun _ K2=>fU ?_;refine aJ K2 (aO aF fun _ K4=>fU ?_);refine gm ?_;refine fO (fun hb1=>?_) (fun hb1=>?_)
 ·try simp only[dQ,reduceIte]at hb1
  iterate 2 refine Ch ?_
  iterate 2 refine fU ?_
  refine aJ K4 (bQ (eU aF (fun _ _ h=>h) (by first|rfl|assumption) [.tmp 4] rfl ?_));refine gV ?_
  first|rfl|(cases x<;>cases y<;>rfl)|(cases x<;>cases y<;>first|rfl|simp_all)
 ·try simp only[dQ,reduceIte]at hb1
  iterate 2 refine sN ?_
  iterate 2 refine fU ?_
  refine aJ K4 (bQ (eU aF (fun _ _ h=>h) (by first|rfl|assumption) [.tmp 4] rfl ?_));refine gV ?_
  first|rfl|(cases x<;>cases y<;>rfl)|(cases x<;>cases y<;>first|rfl|simp_all)

def y2k:aW:=fun vs K=>∃ x y:Bool,vs=[.c (.bool x),.c (.bool y)]/\K (.c (.bool (x !=y)))
theorem y2l:jJ Tryd.prog gl 54 y2k:=by
 refine kU (Γ:=g0) (N:=8) Tryd.func54 rfl rfl fun vs K h=>?_;obtain⟨x,y,rfl,h⟩:=h;refine⟨_,h,rfl,by simp,fun w I=>?_⟩;refine aO aF fun _ K2=>fU ?_;refine aJ K2 (aO aF fun _ K4=>?_)
 iterate 4 refine fU ?_
 refine aJ K4 (bQ (eU aF (fun _ _ h=>h) (by first|rfl|assumption) [.tmp 4] rfl ?_));refine gV ?_
 first|rfl|(cases x<;>cases y<;>rfl)|(cases x<;>cases y<;>first|rfl|simp_all)


theorem Xt(op:Bool->Bool->Bool){d e:Dfa}(hd:d.good)(he:e.good):(jE op (ag d) (ag e)).fit:=(Rz (kS hd) (kS he) ⟨hd.2,he.2⟩).1
noncomputable def UY(hf:FuncId)(hq:aW):Ctx:={ P:=Tryd.prog,ty:=ty,glob:=gl,fs:=[(25,.flat Gn),(53,.data (Yc hf hq)),(41,.data TJ)] }
theorem JZ{hf:FuncId}{hq:aW}(hen:qJ Tryd.prog hf)(hok:jJ Tryd.prog gl hf hq):(UY hf hq).OK:=⟨dS,⟨⟨bX Tryd.func25 aN rfl,z70⟩,⟨bX Tryd.func53 aN rfl,zlw hen hok⟩,⟨bX Tryd.func41 aN rfl,XR⟩,trivial⟩,mixed⟩
@[simp] theorem UZ{hf:FuncId}{hq:aW}:(UY hf hq).ty=ty:=rfl
def Sg(hf:FuncId)(hq:aW):aW:=fun vs K=>∃ (op:Bool->Bool->Bool) (d e:Dfa),vs=[df d,df e,.c (.clo hf [])]/\(d.wf/\e.wf)/\(∀ x y,hq [.c (.bool x),.c (.bool y)] (fun v=>v= .c (.bool (op x y))))/\K (lX (jO op d e))
theorem Wo{hf:FuncId}{hq:aW}(hen:qJ Tryd.prog hf)(hok:jJ Tryd.prog gl hf hq):jr Tryd.prog gl 27 (Sg hf hq):=by
 refine kJ (Γ:=UY hf hq) (N:=24) Tryd.func27 rfl rfl fun vs K h=>?_;obtain⟨op,d,e,rfl,⟨hd,he⟩,hcall,h⟩:=h;refine⟨_,h,ib _,by simp,fun w I=>?_⟩;refine aO (JZ hen hok) fun _ K2=>?_
 iterate 4 refine fV ?_
 refine aJ K2 (aH fun _ K3=>aO (JZ hen hok) fun _ K5=>fV ?_);refine oI ?_;refine⟨d,rfl,hd,gJ ?_⟩
 first|refine aL ?_|(intro cap1 hcap1;refine aL ?_)
 refine fV ?_;refine oI ?_;refine fO (fun hb3=>?_) (fun hb3=>?_)
 ·try simp only[dQ,reduceIte]at hb3
  iterate 3 refine sN ?_
  refine fV ?_;refine aJ K5 (bC (b:=_) rfl (fun _=>?_) (fun h_t15=>?_))
  rotate_left 1
  ·exfalso;simp at h_t15
  refine aO (JZ hen hok) fun _ K7=>fV ?_;refine iT ?_;refine fV ?_;refine aJ K7 ?_
  have hno:¬ (eQ d=true/\eQ e=true):=by intro hh;simp_all
  rw[jO,if_neg hno];refine bQ (gT (JZ hen hok) (fun _ _ h=>h) (ib _) [] [.cell 6 30,.tmp 7] rfl ?_)
  repeat first|refine aI (by first|exact trivial|rfl|exact⟨rfl,rfl⟩|decide) ?_|refine bW (by first|rfl|decide) ?_|refine dC (by first|rfl|decide) ?_
  all_goals exact Np
 ·try simp only[dQ,reduceIte]at hb3
  refine UM ?_;refine y2h ?_;refine⟨e,rfl,he,gJ ?_⟩
  first|refine aL ?_|(intro cap5 hcap5;refine aL ?_)
  refine UM ?_;refine fV ?_;refine aJ K5 (bC (b:=_) rfl (fun h_t15=>?_) (fun h_t15=>?_))
  ·try simp only[dQ,reduceIte]at h_t15
   refine aO (JZ hen hok) fun _ K9=>fV ?_;refine iT ?_;refine fV ?_;refine aJ K9 ?_
   have hno:¬ (eQ d=true/\eQ e=true):=by intro hh;simp_all
   rw[jO,if_neg hno];refine bQ (gT (JZ hen hok) (fun _ _ h=>h) (ib _) [] [.cell 6 30,.tmp 7] rfl ?_)
   repeat first|refine aI (by first|exact trivial|rfl|exact⟨rfl,rfl⟩|decide) ?_|refine bW (by first|rfl|decide) ?_|refine dC (by first|rfl|decide) ?_
   all_goals exact Np
  ·try simp only[dQ,reduceIte]at h_t15
   refine bK (K3 _ _ _ ?_)
   have hvd:eQ d=true:=by simp_all
   have hve:eQ e=true:=by simp_all
   have hgd:=(z22 hd).1 hvd
   have hge:=(z22 he).1 hve
   refine aO (JZ hen hok) fun _ K11=>?_
   iterate 3 refine fV ?_
   refine oI ?_;refine⟨op,d,e,rfl,⟨hgd,hge⟩,hcall,gJ ?_⟩
   first|refine aL ?_|(intro cap3 hcap3;refine aL ?_)
   refine oI ?_;refine aI (lu _) (lz _ ⟨_,rfl,Xt op hgd hge,?_⟩);rw[zw2 hgd hge]
   simp only[pW]
   refine gJ ?_
   first|refine aL ?_|(intro cap4 hcap4;refine aL ?_)
   iterate 2 refine fV ?_
   refine iT ?_;refine fV ?_;refine aJ K11 ?_
   have hyes:eQ d=true/\eQ e=true:=⟨hvd,hve⟩
   rw[jO,if_pos hyes];refine bQ (gT (JZ hen hok) (fun _ _ h=>h) (ib _) [] [.cell 6 30,.tmp 7] rfl ?_)
   repeat first|refine aI (by first|exact trivial|rfl|exact⟨rfl,rfl⟩|decide) ?_|refine bW (by first|rfl|decide) ?_|refine dC (by first|rfl|decide) ?_
   all_goals exact Np
noncomputable def yH:Ctx:={ P:=Tryd.prog,ty:=ty,glob:=gl,fs:=[(27,.data (Sg 28 IG))] }
theorem Yd:yH.OK:=⟨dS,⟨⟨bX Tryd.func27 aN rfl,Wo (bX Tryd.func28 aN rfl) Du⟩,trivial⟩,mixed⟩
@[simp] theorem OV:yH.ty=ty:=rfl

def IB:aW:=fun vs K=>∃ d e:Dfa,vs=[df d,df e]/\(d.wf/\e.wf)/\K (lX (jO (fun x y=>x&&y) d e))
theorem Cs:jr Tryd.prog gl 7 IB:=by
 refine kJ (Γ:=yH) (N:=11) Tryd.func7 rfl rfl fun vs K h=>?_;obtain⟨d,e,rfl,⟨hd,he⟩,h⟩:=h;refine⟨_,h,ib _,by simp,fun w I=>?_⟩;refine aO Yd fun _ K2=>?_
 iterate 4 refine fV ?_
 refine aJ K2 (aO Yd fun _ K4=>?_)
 iterate 2 refine fV ?_
 refine oI ?_;refine⟨fun x y=>x&&y,d,e,rfl,⟨hd,he⟩,fun x y=>⟨x,y,rfl,rfl⟩,gJ ?_⟩
 first|refine aL ?_|(intro cap2 hcap2;refine aL ?_)
 iterate 2 refine fV ?_
 refine iT ?_;refine fV ?_;refine aJ K4 (bQ (gT Yd (fun _ _ h=>h) (ib _) [] [.cell 4 30,.tmp 5] rfl ?_))
 repeat first|refine aI (by first|exact trivial|rfl|exact⟨rfl,rfl⟩|decide) ?_|refine bW (by first|rfl|decide) ?_|refine dC (by first|rfl|decide) ?_
 all_goals exact Np

noncomputable def KL:Ctx:={ P:=Tryd.prog,ty:=ty,glob:=gl,fs:=[(27,.data (Sg 30 OY))] }
theorem ZV:KL.OK:=⟨dS,⟨⟨bX Tryd.func27 aN rfl,Wo (bX Tryd.func30 aN rfl) KT⟩,trivial⟩,mixed⟩
@[simp] theorem Qf:KL.ty=ty:=rfl

def Ob:aW:=fun vs K=>∃ d e:Dfa,vs=[df d,df e]/\(d.wf/\e.wf)/\K (lX (jO (fun x y=>x||y) d e))
theorem Kk:jr Tryd.prog gl 9 Ob:=by
 refine kJ (Γ:=KL) (N:=11) Tryd.func9 rfl rfl fun vs K h=>?_;obtain⟨d,e,rfl,⟨hd,he⟩,h⟩:=h;refine⟨_,h,ib _,by simp,fun w I=>?_⟩;refine aO ZV fun _ K2=>?_
 iterate 4 refine fV ?_
 refine aJ K2 (aO ZV fun _ K4=>?_)
 iterate 2 refine fV ?_
 refine oI ?_;refine⟨fun x y=>x||y,d,e,rfl,⟨hd,he⟩,fun x y=>⟨x,y,rfl,rfl⟩,gJ ?_⟩
 first|refine aL ?_|(intro cap2 hcap2;refine aL ?_)
 iterate 2 refine fV ?_
 refine iT ?_;refine fV ?_;refine aJ K4 (bQ (gT ZV (fun _ _ h=>h) (ib _) [] [.cell 4 30,.tmp 5] rfl ?_))
 repeat first|refine aI (by first|exact trivial|rfl|exact⟨rfl,rfl⟩|decide) ?_|refine bW (by first|rfl|decide) ?_|refine dC (by first|rfl|decide) ?_
 all_goals exact Np

noncomputable def ZW:Ctx:={ P:=Tryd.prog,ty:=ty,glob:=gl,fs:=[(27,.data (Sg 31 y2i))] }
theorem XW:ZW.OK:=⟨dS,⟨⟨bX Tryd.func27 aN rfl,Wo (bX Tryd.func31 aN rfl) y2j⟩,trivial⟩,mixed⟩
@[simp] theorem KJ:ZW.ty=ty:=rfl

def y2m:aW:=fun vs K=>∃ d e:Dfa,vs=[df d,df e]/\(d.wf/\e.wf)/\K (lX (jO (fun x y=>x&& !y) d e))
theorem y2n:jr Tryd.prog gl 12 y2m:=by
 refine kJ (Γ:=ZW) (N:=11) Tryd.func12 rfl rfl fun vs K h=>?_;obtain⟨d,e,rfl,⟨hd,he⟩,h⟩:=h;refine⟨_,h,ib _,by simp,fun w I=>?_⟩;refine aO XW fun _ K2=>?_
 iterate 4 refine fV ?_
 refine aJ K2 (aO XW fun _ K4=>?_)
 iterate 2 refine fV ?_
 refine oI ?_;refine⟨fun x y=>x&& !y,d,e,rfl,⟨hd,he⟩,fun x y=>⟨x,y,rfl,rfl⟩,gJ ?_⟩
 first|refine aL ?_|(intro cap2 hcap2;refine aL ?_)
 iterate 2 refine fV ?_
 refine iT ?_;refine fV ?_;refine aJ K4 (bQ (gT XW (fun _ _ h=>h) (ib _) [] [.cell 4 30,.tmp 5] rfl ?_))
 repeat first|refine aI (by first|exact trivial|rfl|exact⟨rfl,rfl⟩|decide) ?_|refine bW (by first|rfl|decide) ?_|refine dC (by first|rfl|decide) ?_
 all_goals exact Np


end Go.Proofs.YtpdljmohhpbkpaaDoor
