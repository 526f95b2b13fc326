/- Part 11 of what the claims of this seat share: the walk's engine, the functions' contracts, plain mathematics (Utb, Utc). -/
import Derived.Test.YtppmnaoollkboaaDoorPj
import Derived.Test.YtppmnaoollkboaaDoorPf
import Derived.Test.YtppmnaoollkboaaDoorPh
set_option maxHeartbeats 1000000
set_option maxRecDepth 4000
namespace Go.Proofs.YtppmnaoollkboaaDoor
set_option linter.all false
open Go.Ab Go.RowKit

section
variable {a b:Prop}
theorem qUtb0(h:a:=by first|exact vcA|(simp[-List.reduceReplicate]<;>omega)|(show(_:Nat)< 3;decide)|exact vTa|exact vTb|exact vcB):a:=h
theorem qUtb1(h:a:=by first|exact vcA|(simp[-List.reduceReplicate]<;>omega)|(show(_:Nat)< 3;decide)|exact vTa|exact vTb|exact vTp|exact zlu hpf.1.clen|exact zi9 hpf.1.clen|(show(List.replicate 256 (0:Int)).length=(jL _ _ _).length;rw[z0h,List.length_replicate])|(show 256=(jL _ _ _).length;rw[z0h])|(show 0< (jL _ _ _).length;rw[z0h];decide)|(show 0+(jL _ _ _).length≤(List.replicate 256 (0:Int)).length;rw[z0h,List.length_replicate];decide)|(show 0+256*1≤(jL _ _ _).length;rw[z0h];decide)|(show(jL _ _ _).length=256*1;rw[z0h])|exact vcB):a:=h
theorem z18(h:a:=by
    repeat' (first|exact z1b _|exact z3b _|exact pT|exact trivial|refine aI ?_ ?_|exact cC0|refine low_cons' ?_ ?_|exact cC1|fail)
    all_goals first|omega|exact z1b _|exact List.mem_cons_self|(show 0< (z02 _ _ _ _).length;rw[z00 hpf.1.clen];decide)|(show 0< (z02 _ _ _ _).length;rw[z00 ha.1.clen];decide)|(show 0< (z02 _ _ _ _).length;rw[z00 hb.1.clen];decide)|(show 0< (jL _ _ _).length;rw[z0h];decide)|(intro x hx;cases hx)|(show(0:Nat)< (z02 _ _ _ _).length;rw[z00 hcl];decide)|(simp[-List.reduceReplicate];done)|(simp[-List.reduceReplicate]<;>omega)|skip):a:=h
theorem zk6(kZ:b)(h:HidB b→a:=by intro kZ;(repeat first|refine aI qUtb0 ?_|refine z04 qUtb0 ?_|refine z03 qUtb0 ?_|refine z0m qUtb0 ?_|refine z0c ?_);exact kZ.out):a:=h ⟨kZ⟩
theorem zzj(kZ:b)(h:HidB b→a:=by intro kZ;refine sX ?_;refine zk6 ?_;refine exI ?_;exact kZ.out):a:=h ⟨kZ⟩
theorem z7z(kZ:b)(h:HidB b→a:=by intro kZ;refine dX ?_;refine zk6 ?_;refine exI ?_;exact kZ.out):a:=h ⟨kZ⟩
theorem gX0Utb_3(kZ:b)(h:HidB b→a:=by intro kZ;refine gX0 ?_;refine zk6 ?_;refine exI ?_;exact kZ.out):a:=h ⟨kZ⟩
theorem zc1(kZ:b)(h:HidB b→a:=by intro kZ;refine qX ?_;refine zk6 ?_;refine exI ?_;exact kZ.out):a:=h ⟨kZ⟩
theorem z1o(kZ:b)(h:HidB b→a:=by intro kZ;(repeat first|refine aI qUtb1 ?_|refine z04 qUtb1 ?_|refine z03 qUtb1 ?_|refine z0m qUtb1 ?_|refine z0c ?_);exact kZ.out):a:=h ⟨kZ⟩
theorem zal(kZ:b)(h:HidB b→a:=by intro kZ;refine sX ?_;refine z1o ?_;refine exI ?_;exact kZ.out):a:=h ⟨kZ⟩
theorem dXUtb_7(kZ:b)(h:HidB b→a:=by intro kZ;refine dX ?_;refine z1o ?_;refine exI ?_;exact kZ.out):a:=h ⟨kZ⟩
theorem zek(kZ:b)(h:HidB b→a:=by intro kZ;refine gX ?_;refine z1o ?_;refine exI ?_;exact kZ.out):a:=h ⟨kZ⟩
theorem z4y(kZ:b)(h:HidB b→a:=by intro kZ;refine gX0 ?_;refine z1o ?_;refine exI ?_;exact kZ.out):a:=h ⟨kZ⟩
theorem zii(kZ:b)(h:HidB b→a:=by intro kZ;refine sX0 ?_;refine z1o ?_;refine exI ?_;exact kZ.out):a:=h ⟨kZ⟩
theorem z45(kZ:b)(h:HidB b→a:=by intro kZ;refine dX ?_;refine zk6 ?_;exact kZ.out):a:=h ⟨kZ⟩
theorem z8l(kZ:b)(h:HidB b→a:=by intro kZ;refine qX ?_;refine zk6 ?_;exact kZ.out):a:=h ⟨kZ⟩
theorem z6d(kZ:b)(h:HidB b→a:=by intro kZ;refine gX ?_;refine z1o ?_;exact kZ.out):a:=h ⟨kZ⟩
theorem z78(kZ:b)(h:HidB b→a:=by intro kZ;refine sX ?_;refine z1o ?_;exact kZ.out):a:=h ⟨kZ⟩
end
open Go.Aut
theorem zzk{S:Type}[DecidableEq S][Inhabited S]{f:S→Nat→S}{nc:Nat}{b0:S}{m:Nat}(h:¬ Big f nc b0 m):∃ n,Full f nc b0 n∧n≤m:=by
  have he:∃ i,(expO f nc b0 (i*nc)).length≤i∧i≤m:=by
    refine Classical.byContradiction fun hn=>h ⟨m,0,fun j hj=>?_,Nat.zero_le _,?_⟩
    · rcases Nat.lt_or_ge j (expO f nc b0 (j*nc)).length with h1|h1
      · exact h1
      · exact absurd ⟨j,h1,hj⟩ hn
    · rcases Nat.lt_or_ge m (expO f nc b0 (m*nc)).length with h1|h1
      · exact h1
      · exact absurd ⟨m,h1,Nat.le_refl _⟩ hn
  obtain⟨i,⟨hi,him⟩,hlt⟩:=least he;refine⟨i,zxm (fun j hj=>?_) hi,him⟩
  have:=hlt j hj
  rcases Nat.lt_or_ge j (expO f nc b0 (j*nc)).length with h1|h1
  · exact h1
  · exact absurd ⟨h1,by omega⟩ this
theorem zzl(a b:Tab):(jrep (cN a) (cN b)).length≤256:=by rw[←zzf];exact zte a b 256
attribute [local irreducible] allB
theorem jrep_lt(c d:Nat→Nat):∀ x∈jrep c d,x< 256:=fun x hx=>z4e.1 (z8c hx)
theorem nc_st(s:Stt):∀ x∈encS s,∀ g cs,x≠Cell.clo g cs:=recS.dat s |>.noclo
structure JIn(a b:Tab):Prop where
  pos:0< (jrep (cN a) (cN b)).length
  max:(jrep (cN a) (cN b)).length≤256
  byte:∀ x∈jrep (cN a) (cN b),x< 256
  cl:∀ x∈jL a b 256,0≤x∧x< ((jrep (cN a) (cN b)).length:Nat)
  on:∀ c,c< (jrep (cN a) (cN b)).length→∃ x,x< 256∧((jL a b 256).getD x 0).toNat=c
  at':∀ x,x< 256→((jL a b 256).getD x 0).toNat< (jrep (cN a) (cN b)).length∧∃ r,(jrep (cN a) (cN b)).getD ((jL a b 256).getD x 0).toNat 0=r∧cN a r=cN a x∧cN b r=cN b x∧r< 256
theorem j_in(a b:Tab):JIn a b:=by
  have hL:∀ x,x< 256→((jL a b 256).getD x 0).toNat=jcell (cN a) (cN b) x:=fun x hx=>by rw[jL,z0i hx,if_pos hx];rfl
  refine⟨jrep_pos,zzl a b,jrep_lt _ _,fun x hx=>?_,fun c hc=>?_,fun x hx=>?_⟩
  · obtain⟨y,hy,rfl⟩:=List.mem_map.1 hx
    have hy:=List.mem_range.1 hy
    have:=zl8 (c:=cN a) (d:=cN b) hy
    rw[if_pos hy];exact⟨by omega,by omega⟩
  · obtain⟨x,hx,e⟩:=zv7 hc
    exact⟨x,hx,by rw[hL x hx];exact e⟩
  · rw[hL x hx]
    obtain⟨r,h1,h2,h3,h4⟩:=jrep_get (c:=cN a) (d:=cN b) hx;exact⟨zl8 hx,r,za7 h1,h2,h3,h4⟩
def prodG(a b:Tab)(s:Stt)(c:Nat):Stt:=((tblT a).δ s.1 (cN a c),(tblT b).δ s.2.1 (cN b c),0)
def prodA(op:Bool→Bool→Bool)(a b:Tab)(s:Stt):Bool:=op (a.acc.getD s.1 false) (b.acc.getD s.2.1 false)
def prodI(a b:Tab)(s:Stt):Prop:=s.1< a.next.length∧s.2.1< b.next.length∧s.2.2=0
theorem zzm{a b:Tab}(ha:a.fit)(hb:b.fit){s:Stt}{c:Nat}(hs:prodI a b s)(hc:c< 256):prodI a b (prodG a b s c):=
  ⟨(nextN ha.1 hs.1 (cellN ha.1 hc).1).1,(nextN hb.1 hs.2.1 (cellN hb.1 hc).1).1,rfl⟩
theorem prodI_ok{a b:Tab}(ha:a.fit)(hb:b.fit){s:Stt}(hs:prodI a b s):okS s:=by
 have h1:=ha.2.1
 have h2:=hb.2.1
 exact⟨by have:=hs.1;omega,by have:=hs.2.1;omega⟩
theorem zvi{a b:Tab}(s:Stt){x:Nat}(hx:x< 256):stepF (prodG a b) (jrep (cN a) (cN b)) s ((jL a b 256).getD x 0).toNat=prodG a b s x:=by
  obtain⟨_,r,h1,h2,h3,_⟩:=(j_in a b).at' x hx;rw[stepF,h1,prodG,prodG,h2,h3]
noncomputable def prodT(op:Bool→Bool→Bool)(a b:Tab):Tab:=(exR (prodG a b) (prodA op a b) (jL a b 256) (jrep (cN a) (cN b)) (0,0,0) 1073741824).1
theorem zth{a b:Tab}(ha:a.fit)(hb:b.fit)(h64:a.next.length≤64∧b.next.length≤64){m:Nat}(hm:4096≤m):¬ Big (stepF (prodG a b) (jrep (cN a) (cN b))) (jrep (cN a) (cN b)).length (0,0,0) m:=by
  rintro ⟨i,k,hj,hk,hl⟩
  have hin:∀ s∈expO (stepF (prodG a b) (jrep (cN a) (cN b))) (jrep (cN a) (cN b)).length (0,0,0) (i*(jrep (cN a) (cN b)).length+k),prodI a b s:=
    zqi (Inv:=prodI a b) ⟨ha.1.npos,hb.1.npos,rfl⟩ (fun s c hs hc=>zzm ha hb hs hc) (j_in a b).byte (j_in a b).pos (exp_hz (j_in a b).pos hj hk)
  have hn:=z5x (f:=stepF (prodG a b) (jrep (cN a) (cN b))) (nc:=(jrep (cN a) (cN b)).length) (b0:=((0,0,0):Stt)) (i*(jrep (cN a) (cN b)).length+k)
  have h1:((expO (stepF (prodG a b) (jrep (cN a) (cN b))) (jrep (cN a) (cN b)).length (0,0,0) (i*(jrep (cN a) (cN b)).length+k)).map fun s:Stt=>s.1*64+s.2.1).Nodup:=by
    refine List.pairwise_map.2 (List.Pairwise.imp_of_mem ?_ hn);intro s q hs hq hne e
    have a1:=hin s hs
    have a2:=hin q hq
    refine hne ?_
    have b1:=a1.1;have b2:=a1.2.1;have b3:=a2.1;have b4:=a2.2.1
    have e1:s.1=q.1:=by omega
    have e2:s.2.1=q.2.1:=by omega
    exact Prod.ext e1 (Prod.ext e2 (a1.2.2.trans a2.2.2.symm))
  have h2:=zb1 (K:=4096) h1 fun x hx=>by
    obtain⟨s,hs,rfl⟩:=List.mem_map.1 hx
    have a1:=hin s hs
    have b1:=a1.1;have b2:=a1.2.1
    omega
  rw[List.length_map]at h2
  omega
theorem zod(a b:Tab):∀ (w:List Nat) (s:Stt),(runB (prodG a b) s w).1=runB (fun p c=>(tblT a).δ p (cN a c)) s.1 w∧(runB (prodG a b) s w).2.1=runB (fun p c=>(tblT b).δ p (cN b c)) s.2.1 w
  |[],s=>⟨rfl,rfl⟩
  |c::w,s=>zod a b w (prodG a b s c)
theorem zb7{op:Bool→Bool→Bool}{a b:Tab}(ha:a.fit)(hb:b.fit)(h64:a.next.length≤64∧b.next.length≤64):(prodT op a b).fit∧∀ w,Bytes w→(tblT (prodT op a b)).lang 0 w=op ((tblT a).lang 0 w) ((tblT b).lang 0 w):=by
  have hnb:=zth ha hb h64 (m:=1073741824) (by decide)
  obtain⟨n,hn,hle⟩:=zzk (zth ha hb h64 (m:=4096) (Nat.le_refl _))
  have hn0:0< n:=by
    rcases Nat.eq_zero_or_pos n with e|e
    · subst e
      have:=hn.len
      have h2:=zfx (f:=stepF (prodG a b) (jrep (cN a) (cN b))) (nc:=(jrep (cN a) (cN b)).length) (b0:=((0,0,0):Stt)) (0*(jrep (cN a) (cN b)).length)
      omega
    · exact e
  have e:prodT op a b=tabQ (stepF (prodG a b) (jrep (cN a) (cN b))) (prodA op a b) (jL a b 256) (jrep (cN a) (cN b)).length (0,0,0) n:=by
    rw[prodT,exR,if_neg hnb,zyp hn]
  have hj:=j_in a b
  rw[e];refine⟨⟨zxp hn hn0 (z0h a b 256) hj.cl hj.on,?_,hj.max⟩,fun w hw=>?_⟩
  · show(rowsQ _ _ _ n).length≤65535
    rw[z58];omega
  · rw[znx (g:=prodG a b) hn hn0 (fun x hx=>(hj.at' x hx).1) (fun s x hx=>zvi s hx) hw]
    obtain⟨h1,h2⟩:=zod a b w (0,0,0);rw[prodA,h1,h2,z8e,z8e];rfl
def combB(op:Bool→Bool→Bool)(d e:Dfa):List Nat→Bool:=fun w=>op (langD d w) (langD e w)
theorem prod_can{op:Bool→Bool→Bool}{d e:Dfa}(hd:d.good)(he:e.good):canD ((tblT (prodT op (tabD d) (tabD e))).lang 0)=canD (combB op d e):=z37 fun w hw=>by
  rw[(zb7 (z14 hd) (z14 he) ⟨hd.2,he.2⟩).2 w hw,z38 d 0 hw,z38 e 0 hw];rfl
noncomputable def combR(op:Bool→Bool→Bool)(d e:Dfa):Dfa×Nat:=if z0w d=true∧z0w e=true then limL (canD (combB op d e)) else(noD,1)
def dpT(t:Tab):Cell:=.dp (tabC t) 0
theorem nc_2(a b:Tab):∀ x∈[dpT a,dpT b],∀ g l,x≠Cell.clo g l:=fun x hx g l=>by
  rcases List.mem_cons.1 hx with rfl|hx
  · intro e;cases e
  · rw[List.mem_singleton.1 hx];intro e;cases e
attribute [local irreducible] z0s z12 zl z02 z11 putB jL jcell jrep
def zzn:QSpec:=fun vs K=>∃ (a b:Tab) (s:Stt) (c:Nat),vs=[stV s,.c (.int .i64 (c:Int)),.c (dpT a),.c (dpT b)]∧(a.fit∧b.fit∧prodI a b s∧c< 256)∧K (stV (prodG a b s c))
theorem prod1_ok:z19 Tryd.prog gl 142 zzn:=by
 refine z1d (Γ:=g0) (N:=32) Tryd.func142 rfl rfl fun vs K h=>?_;obtain⟨a,b,s,c,rfl,⟨ha,hb,hs,hc⟩,h⟩:=h;refine⟨_,h,rfl,by simp,fun w I=>?_⟩;refine srR g0_ok fun _ K2=>?_
 iterate 2 refine zzj ?_
 refine s_n K2 ?_
 have hxa:(tblT a).δ s.1 (cN a c)< a.next.length∧(a.next.getD s.1 []).getD (cN a c) 0=((tblT a).δ s.1 (cN a c):Nat):=nextN ha.1 hs.1 (cellN ha.1 hc).1
 have hxb:(tblT b).δ s.2.1 (cN b c)< b.next.length∧(b.next.getD s.2.1 []).getD (cN b c) 0=((tblT b).δ s.2.1 (cN b c):Nat):=nextN hb.1 hs.2.1 (cellN hb.1 hc).1
 have hra:=z5a ha.1 hs.1
 have hrb:=z5a hb.1 hs.2.1
 have hca:=(cellN ha.1 hc).1
 have hcb:=(cellN hb.1 hc).1
 have hs1:=hs.1
 have hs2:=hs.2.1
 have hca2:cN a c< a.nc:=hca
 have hcb2:cN b c< b.nc:=hcb
 refine srD g0_ok [(0,true),(1,true),(2,true),(3,true),(4,true),(5,true),(6,true),(7,true),(8,true),(9,true),(10,true),(11,true),(12,true),(13,true),(14,true),(15,true),(16,true),(17,true),(18,true),(19,true),(20,true),(21,true),(22,true),(23,true),(24,true),(25,false)] rfl kR kR fun _ K4=>?_;refine z7z ?_;refine z45 ?_;refine exA (.c (.ds a.next.length (.cells (rowsC a.next)))) (as_c (z6p ha.1.clen)) ?_;refine z7z ?_;refine z45 ?_;refine exA (.c (.int .i64 (((s.1:Nat):Int)))) (as_i (rfl)) ?_;refine z7z ?_;refine z45 ?_;refine exA (.c (.ds (a.next.getD s.1 []).length (.ints .i64 (a.next.getD s.1 [])))) (as_c (z4n ⟨hs1,by omega⟩)) ?_
 iterate 3 refine z7z ?_
 refine z45 ?_;refine exA (.c (.int .i64 ((cN a c:Nat):Int))) (as_c ((zd2 ha.1.clen (by first|omega|(simp;done)) hc).trans (congrArg (Cell.int IntKind.i64) (cellN ha.1 hc).2))) ?_;refine z7z ?_;refine z45 ?_;refine exA (.c (.int .i64 ((((tblT a).δ s.1 (cN a c):Nat):Int)))) (as_i ((congrArg (fun i=>(a.next.getD s.1 []).getD i 0) (by omega)).trans hxa.2)) ?_;refine z7z ?_;refine z45 ?_;refine exA (.c (.ds b.next.length (.cells (rowsC b.next)))) (as_c (z6p hb.1.clen)) ?_;refine z7z ?_;refine z45 ?_;refine exA (.c (.int .i64 (((s.2.1:Nat):Int)))) (as_i (rfl)) ?_;refine z7z ?_;refine z45 ?_;refine exA (.c (.ds (b.next.getD s.2.1 []).length (.ints .i64 (b.next.getD s.2.1 [])))) (as_c (z4n ⟨hs2,by omega⟩)) ?_
 iterate 3 refine z7z ?_
 refine z45 ?_;refine exA (.c (.int .i64 ((cN b c:Nat):Int))) (as_c ((zd2 hb.1.clen (by first|omega|(simp;done)) hc).trans (congrArg (Cell.int IntKind.i64) (cellN hb.1 hc).2))) ?_;refine z7z ?_;refine z45 ?_;refine exA (.c (.int .i64 ((((tblT b).δ s.2.1 (cN b c):Nat):Int)))) (as_i ((congrArg (fun i=>(b.next.getD s.2.1 []).getD i 0) (by omega)).trans hxb.2)) ?_;refine z45 ?_;refine exA (stV (prodG a b s c)) (SV.as_refl _) ?_;refine gX0Utb_3 ?_;refine d_n K4 ?_;refine z0g (z0d g0_ok (fun _ _ h=>h) rfl [.cell 6 95] rfl ?_)
 repeat first|refine aI (by first|exact trivial|rfl|(show(_:Nat)≤3;decide)|(show(_:Nat)< 3;decide)|decide) ?_|refine z04 (by rfl) ?_
 rfl

def boxF(f:FuncId):Cell:=.dp (.cells [.clo f []]) 0
theorem nc_3(f:FuncId)(a b:Tab):∀ x∈[boxF f,dpT a,dpT b],∀ g l,x≠Cell.clo g l:=fun x hx g l=>by
  rcases List.mem_cons.1 hx with rfl|hx
  · intro e;cases e
  · exact nc_2 a b x hx g l
def zzo(hf:FuncId)(hq:QSpec):QSpec:=fun vs K=>∃ (op:Bool→Bool→Bool) (a b:Tab) (s:Stt),vs=[stV s,.c (boxF hf),.c (dpT a),.c (dpT b)]∧(a.fit∧b.fit∧prodI a b s)∧(∀ x y,hq [.c (.bool x),.c (.bool y)] (fun v=>v= .c (.bool (op x y))))∧K (.c (.bool (prodA op a b s)))
theorem prod2_ok{hf:FuncId}{hq:QSpec}(hen:z57 Tryd.prog hf)(hok:z19 Tryd.prog gl hf hq):z19 Tryd.prog gl 143 (zzo hf hq):=by
 refine z1d (Γ:=gK hf hq) (N:=20) Tryd.func143 rfl rfl fun vs K h=>?_;obtain⟨op,a,b,s,rfl,⟨ha,hb,hs⟩,hcall,h⟩:=h;refine⟨_,h,rfl,by simp,fun w I=>?_⟩
 have hlook:=zxr (f:=hf) (q:=hq)
 refine srR (gK_ok hen hok) fun _ K2=>?_
 iterate 2 refine zzj ?_
 refine s_n K2 ?_
 have hs1:=hs.1
 have hs2:=hs.2.1
 have hla:=ha.1.alen
 have hlb:=hb.1.alen
 refine srQ (gK_ok hen hok) kR fun _ K4=>?_
 iterate 2 refine zc1 ?_
 refine z8l ?_;refine exA (.c (.ds a.acc.length (.bools a.acc))) (as_c (zbi ha.1.clen)) ?_;refine zc1 ?_;refine z8l ?_;refine exA (.c (.int .i64 (((s.1:Nat):Int)))) (as_i (rfl)) ?_;refine zc1 ?_;refine z8l ?_;refine exA (.c (.bool (a.acc.getD s.1 false))) (as_b (congrArg (fun i=>a.acc.getD i false) (by omega))) ?_;refine zc1 ?_;refine z8l ?_;refine exA (.c (.ds b.acc.length (.bools b.acc))) (as_c (zbi hb.1.clen)) ?_;refine zc1 ?_;refine z8l ?_;refine exA (.c (.int .i64 (((s.2.1:Nat):Int)))) (as_i (rfl)) ?_;refine zc1 ?_;refine z8l ?_;refine exA (.c (.bool (b.acc.getD s.2.1 false))) (as_b (congrArg (fun i=>b.acc.getD i false) (by omega))) ?_;refine qX ?_;refine zj9 (xs:=[.bool (a.acc.getD s.1 false),.bool (b.acc.getD s.2.1 false)]) hlook (z0z zjn (z0z zjn z2h)) z2h ?_;refine⟨_,hcall _ _,?_⟩
 first|refine exI ?_|(intro cap13 hcap13;refine exI ?_)
 refine zc1 ?_;refine q_n K4 ?_;refine z0g (z0d (gK_ok hen hok) (fun _ _ h=>h) (by first|rfl|assumption) [.tmp 5] rfl ?_);refine rtD ?_
 rfl

noncomputable def gPr(hf:FuncId)(hq:QSpec):Ctx:={ P:=Tryd.prog,ty:=ty,glob:=gl,fs:=[(74,.data z9a),(76,.data ztf),(80,.data (zgb 142 zzn 143 (zzo hf hq)))] }
theorem z22{hf:FuncId}{hq:QSpec}(hen:z57 Tryd.prog hf)(hok:z19 Tryd.prog gl hf hq):(gPr hf hq).OK:=⟨tyOK,⟨⟨z08 Tryd.func74 kR rfl,z6y⟩,⟨z08 Tryd.func76 kR rfl,zm1⟩,⟨z08 Tryd.func80 kR rfl,zec (z08 Tryd.func142 kR rfl) prod1_ok (z08 Tryd.func143 kR rfl) (prod2_ok hen hok) (by decide)⟩,trivial⟩,mixed⟩
@[simp] theorem gPr_ty{hf:FuncId}{hq:QSpec}:(gPr hf hq).ty=ty:=rfl
theorem zzp{hf:FuncId}{hq:QSpec}{op:Bool→Bool→Bool}{a b:Tab}(ha:a.fit)(hb:b.fit)(hcall:∀ x y,hq [.c (.bool x),.c (.bool y)] (fun v=>v= .c (.bool (op x y)))):ExIn zzn (zzo hf hq) (prodG a b) (prodA op a b) (prodI a b) (jL a b 256) (jrep (cN a) (cN b)) (0,0,0) [dpT a,dpT b] [boxF hf,dpT a,dpT b] 1073741824:=
  ⟨z0h a b 256,(j_in a b).pos,(j_in a b).max,(j_in a b).byte,by decide,Nat.le_refl _,z0z z24 (z0z z24 z2h),z0z z24 (z0z z24 (z0z z24 z2h)),⟨ha.1.npos,hb.1.npos,rfl⟩,fun s hs=>prodI_ok ha hb hs,fun s c hs hc=>zzm ha hb hs hc,
   fun s c hs hc=>⟨a,b,s,c,rfl,⟨ha,hb,hs,hc⟩,rfl⟩,fun s hs=>⟨op,a,b,s,rfl,⟨ha,hb,hs⟩,hcall,rfl⟩⟩
attribute [local irreducible] prodT exR
def zm3(hf:FuncId)(hq:QSpec):QSpec:=fun vs K=>∃ (op:Bool→Bool→Bool) (d e:Dfa),vs=[dfaV d,dfaV e,.c (.clo hf [])]∧(d.good∧e.good)∧(∀ x y,hq [.c (.bool x),.c (.bool y)] (fun v=>v= .c (.bool (op x y))))∧K (tabV (prodT op (tabD d) (tabD e)))
theorem zk7{hf:FuncId}{hq:QSpec}(hen:z57 Tryd.prog hf)(hok:z19 Tryd.prog gl hf hq):z1w Tryd.prog gl 87 (zm3 hf hq):=by
 refine z1c (Γ:=gPr hf hq) (N:=35) Tryd.func87 rfl rfl fun vs K h=>?_;obtain⟨op,d,e,rfl,⟨hd,he⟩,hcall,h⟩:=h;refine⟨_,h,z3b _,by simp,fun w I=>?_⟩
 have ha:=z14 hd
 have hb:=z14 he
 have hpf:=(zb7 (op:=op) ha hb ⟨hd.2,he.2⟩).1
 obtain⟨a,hae⟩:∃ a,a=tabD d:=⟨_,rfl⟩;obtain⟨b,hbe⟩:∃ b,b=tabD e:=⟨_,rfl⟩;rw[←hae]at ha hpf;rw[←hbe]at hb hpf
 have hex:=zzp (hf:=hf) (hq:=hq) ha hb hcall
 rw[←hae, ←hbe];refine srR (z22 hen hok) fun _ K2=>?_
 iterate 4 refine zal ?_
 refine s_n K2 ?_;refine z9s (α:=Unit) (fun _=>[(5,.c (boxF hf)),(6,.c (.ptr 0 0)),(7,.c (dpT a)),(8,.c (dpT b))]) (fun _=>[(0,.own 87 (.cells zl) 259)]) 1 (fun _=>True) ?_ ?_
 ·refine zwg (z22 hen hok) ?_
  refine z5g (z22 hen hok) (g:=6) kR [(0,true),(2,true)] kR fun _ K4=>?_
  iterate 2 refine dXUtb_7 ?_
  refine d_n K4 ?_;refine z2b [1,4,5] kR (by decide) (List.forall_mem_cons.2 ⟨?_,List.forall_mem_cons.2 ⟨?_,List.forall_mem_cons.2 ⟨?_,fun _ h=>by cases h⟩⟩⟩)
  ·refine z0f (z22 hen hok) ?_
   refine z1o ?_;refine⟨d,rfl,hd,?_⟩;rw[←hae];refine z1o ?_
   first|refine exI ?_|(intro cap1 hcap1;refine exI ?_)
   refine z2b [3,4,5] kR (by decide) (List.forall_mem_cons.2 ⟨?_,List.forall_mem_cons.2 ⟨?_,List.forall_mem_cons.2 ⟨?_,fun _ h=>by cases h⟩⟩⟩)
   ·refine z0f (z22 hen hok) ?_
    refine z1o ?_;refine⟨e,rfl,he,?_⟩;rw[←hbe];refine z1o ?_
    first|refine exI ?_|(intro cap3 hcap3;refine exI ?_)
    refine z2b [4,5] kR (by decide) (List.forall_mem_cons.2 ⟨?_,List.forall_mem_cons.2 ⟨?_,fun _ h=>by cases h⟩⟩)
    ·refine z0f (z22 hen hok) ?_
     refine z1o ?_;refine exI ?_;refine z5g (z22 hen hok) (g:=0) kR [(5,false),(6,false),(7,false)] kR fun _ K5=>?_;refine zek ?_
     iterate 2 refine z4y ?_
     refine d_n K5 ?_;refine z4r kR ?_;refine dnS [2,4,5] (fun _=>3) () trivial [3] z18 z18 z18 z18
    ·refine z0f (z22 hen hok) ?_
     refine z1o ?_;refine exI ?_;refine z5g (z22 hen hok) (g:=0) kR [(4,false),(6,false),(7,false)] kR fun _ K6=>?_;refine zek ?_
     iterate 2 refine z4y ?_
     refine d_n K6 ?_;refine z4r kR ?_;refine dnS [2,4,5] (fun _=>3) () trivial [3] z18 z18 z18 z18
   ·refine z0f (z22 hen hok) ?_
    refine z1o ?_;refine exI ?_;refine z2b [3,5] kR (by decide) (List.forall_mem_cons.2 ⟨?_,List.forall_mem_cons.2 ⟨?_,fun _ h=>by cases h⟩⟩)
    ·refine z0f (z22 hen hok) ?_
     refine z1o ?_;refine⟨e,rfl,he,?_⟩;rw[←hbe];refine z1o ?_
     first|refine exI ?_|(intro cap3 hcap3;refine exI ?_)
     refine z5g (z22 hen hok) (g:=0) kR [(5,false),(6,false),(7,false)] kR fun _ K7=>?_;refine zek ?_
     iterate 2 refine z4y ?_
     refine d_n K7 ?_;refine z4r kR ?_;refine dnS [2,4,5] (fun _=>3) () trivial [3] z18 z18 z18 z18
    ·refine z0f (z22 hen hok) ?_
     refine z1o ?_;refine exI ?_;refine z5g (z22 hen hok) (g:=0) kR [(3,false),(6,false),(7,false)] kR fun _ K8=>?_;refine z6d ?_;refine⟨e,rfl,he,?_⟩;rw[←hbe];refine z1o ?_
     first|refine exI ?_|(intro cap3 hcap3;refine exI ?_)
     iterate 2 refine z4y ?_
     refine d_n K8 ?_;refine z4r kR ?_;refine dnS [2,4,5] (fun _=>3) () trivial [3] z18 z18 z18 z18
   ·refine z0f (z22 hen hok) ?_
    refine z1o ?_;refine exI ?_;refine z2b [3,4] kR (by decide) (List.forall_mem_cons.2 ⟨?_,List.forall_mem_cons.2 ⟨?_,fun _ h=>by cases h⟩⟩)
    ·refine z0f (z22 hen hok) ?_
     refine z1o ?_;refine⟨e,rfl,he,?_⟩;rw[←hbe];refine z1o ?_
     first|refine exI ?_|(intro cap3 hcap3;refine exI ?_)
     refine z5g (z22 hen hok) (g:=0) kR [(4,false),(6,false),(7,false)] kR fun _ K9=>?_;refine zek ?_
     iterate 2 refine z4y ?_
     refine d_n K9 ?_;refine z4r kR ?_;refine dnS [2,4,5] (fun _=>3) () trivial [3] z18 z18 z18 z18
    ·refine z0f (z22 hen hok) ?_
     refine z1o ?_;refine exI ?_;refine z5g (z22 hen hok) (g:=0) kR [(3,false),(6,false),(7,false)] kR fun _ K10=>?_;refine z6d ?_;refine⟨e,rfl,he,?_⟩;rw[←hbe];refine z1o ?_
     first|refine exI ?_|(intro cap3 hcap3;refine exI ?_)
     iterate 2 refine z4y ?_
     refine d_n K10 ?_;refine z4r kR ?_;refine dnS [2,4,5] (fun _=>3) () trivial [3] z18 z18 z18 z18
  ·refine z0f (z22 hen hok) ?_
   refine z1o ?_;refine exI ?_;refine z2b [1,5] kR (by decide) (List.forall_mem_cons.2 ⟨?_,List.forall_mem_cons.2 ⟨?_,fun _ h=>by cases h⟩⟩)
   ·refine z0f (z22 hen hok) ?_
    refine z1o ?_;refine⟨d,rfl,hd,?_⟩;rw[←hae];refine z1o ?_
    first|refine exI ?_|(intro cap1 hcap1;refine exI ?_)
    refine z2b [3,5] kR (by decide) (List.forall_mem_cons.2 ⟨?_,List.forall_mem_cons.2 ⟨?_,fun _ h=>by cases h⟩⟩)
    ·refine z0f (z22 hen hok) ?_
     refine z1o ?_;refine⟨e,rfl,he,?_⟩;rw[←hbe];refine z1o ?_
     first|refine exI ?_|(intro cap3 hcap3;refine exI ?_)
     refine z5g (z22 hen hok) (g:=0) kR [(5,false),(6,false),(7,false)] kR fun _ K11=>?_;refine zek ?_
     iterate 2 refine z4y ?_
     refine d_n K11 ?_;refine z4r kR ?_;refine dnS [2,4,5] (fun _=>3) () trivial [3] z18 z18 z18 z18
    ·refine z0f (z22 hen hok) ?_
     refine z1o ?_;refine exI ?_;refine z5g (z22 hen hok) (g:=0) kR [(3,false),(6,false),(7,false)] kR fun _ K12=>?_;refine z6d ?_;refine⟨e,rfl,he,?_⟩;rw[←hbe];refine z1o ?_
     first|refine exI ?_|(intro cap3 hcap3;refine exI ?_)
     iterate 2 refine z4y ?_
     refine d_n K12 ?_;refine z4r kR ?_;refine dnS [2,4,5] (fun _=>3) () trivial [3] z18 z18 z18 z18
   ·refine z0f (z22 hen hok) ?_
    refine z1o ?_;refine exI ?_;refine z5g (z22 hen hok) (g:=0) kR [(1,false),(3,false),(6,false),(7,false)] kR fun _ K13=>?_;refine z6d ?_;refine⟨d,rfl,hd,?_⟩;rw[←hae];refine z1o ?_
    first|refine exI ?_|(intro cap1 hcap1;refine exI ?_)
    refine z6d ?_;refine⟨e,rfl,he,?_⟩;rw[←hbe];refine z1o ?_
    first|refine exI ?_|(intro cap3 hcap3;refine exI ?_)
    iterate 2 refine z4y ?_
    refine d_n K13 ?_;refine z4r kR ?_;refine dnS [2,4,5] (fun _=>3) () trivial [3] z18 z18 z18 z18
  ·refine z0f (z22 hen hok) ?_
   refine z1o ?_;refine exI ?_;refine z2b [1,4] kR (by decide) (List.forall_mem_cons.2 ⟨?_,List.forall_mem_cons.2 ⟨?_,fun _ h=>by cases h⟩⟩)
   ·refine z0f (z22 hen hok) ?_
    refine z1o ?_;refine⟨d,rfl,hd,?_⟩;rw[←hae];refine z1o ?_
    first|refine exI ?_|(intro cap1 hcap1;refine exI ?_)
    refine z2b [3,4] kR (by decide) (List.forall_mem_cons.2 ⟨?_,List.forall_mem_cons.2 ⟨?_,fun _ h=>by cases h⟩⟩)
    ·refine z0f (z22 hen hok) ?_
     refine z1o ?_;refine⟨e,rfl,he,?_⟩;rw[←hbe];refine z1o ?_
     first|refine exI ?_|(intro cap3 hcap3;refine exI ?_)
     refine z5g (z22 hen hok) (g:=0) kR [(4,false),(6,false),(7,false)] kR fun _ K14=>?_;refine zek ?_
     iterate 2 refine z4y ?_
     refine d_n K14 ?_;refine z4r kR ?_;refine dnS [2,4,5] (fun _=>3) () trivial [3] z18 z18 z18 z18
    ·refine z0f (z22 hen hok) ?_
     refine z1o ?_;refine exI ?_;refine z5g (z22 hen hok) (g:=0) kR [(3,false),(6,false),(7,false)] kR fun _ K15=>?_;refine z6d ?_;refine⟨e,rfl,he,?_⟩;rw[←hbe];refine z1o ?_
     first|refine exI ?_|(intro cap3 hcap3;refine exI ?_)
     iterate 2 refine z4y ?_
     refine d_n K15 ?_;refine z4r kR ?_;refine dnS [2,4,5] (fun _=>3) () trivial [3] z18 z18 z18 z18
   ·refine z0f (z22 hen hok) ?_
    refine z1o ?_;refine exI ?_;refine z5g (z22 hen hok) (g:=0) kR [(1,false),(3,false),(6,false),(7,false)] kR fun _ K16=>?_;refine z6d ?_;refine⟨d,rfl,hd,?_⟩;rw[←hae];refine z1o ?_
    first|refine exI ?_|(intro cap1 hcap1;refine exI ?_)
    refine z6d ?_;refine⟨e,rfl,he,?_⟩;rw[←hbe];refine z1o ?_
    first|refine exI ?_|(intro cap3 hcap3;refine exI ?_)
    iterate 2 refine z4y ?_
    refine d_n K16 ?_;refine z4r kR ?_;refine dnS [2,4,5] (fun _=>3) () trivial [3] z18 z18 z18 z18
 ·intro u hu
  clear hu;refine srR (z22 hen hok) fun _ K18=>?_;refine z78 ?_;refine exA (tabV a) (SV.as_refl _) ?_;refine z78 ?_;refine exA (tabV b) (SV.as_refl _) ?_;refine z78 ?_;refine aI (z0x _) ?_;refine z15 _ ?_;refine aI (z0x _) ?_;refine z15 _ ?_;refine⟨a,b,rfl,⟨ha,hb⟩,?_⟩
  simp only[z28]
  refine z1o ?_
  first|refine exI ?_|(intro cap2 hcap2;refine exI ?_)
  iterate 4 refine zal ?_
  refine zii ?_;refine zal ?_;refine s_n K18 ?_;refine leW [1] id [(5,.c (boxF hf)),(6,.c (.ptr 0 0)),(7,.c (dpT a)),(8,.c (dpT b)),(9,.c (.dp (.ints .i64 (jL a b 256)) 0)),(10,.c (.ds (jrep (cN a) (cN b)).length (.ints .i64 (natsI (jrep (cN a) (cN b))))))] [(0,.own 87 (.cells zl) 259)] 1 [0] z18 z18 z18 z18 ?_;refine srR (z22 hen hok) fun _ K20=>?_
  iterate 2 refine zal ?_
  refine s_n K20 ?_;refine srR (z22 hen hok) fun _ K22=>?_;refine z78 ?_;refine exA (.agg (.ints .i64 (jL a b 256))) (SV.as_refl _) ?_;refine zal ?_;refine z78 ?_;refine exA (stV (0,0,0)) (as_eq rfl) ?_
  iterate 2 refine zal ?_
  refine z78 ?_;refine aI (nc_st _) ?_;refine aI (nc_2 _ _) ?_;refine aI (nc_3 _ _ _) ?_;refine⟨prodG a b,prodA op a b,prodI a b,jL a b 256,jrep (cN a) (cN b),(0,0,0),[dpT a,dpT b],[boxF hf,dpT a,dpT b],1073741824,rfl,hex,?_⟩;rw[show exV (exR (prodG a b) (prodA op a b) (jL a b 256) (jrep (cN a) (cN b)) (0,0,0) 1073741824)= .tup [.agg (tabC (prodT op a b)),.c (.bool (exR (prodG a b) (prodA op a b) (jL a b 256) (jrep (cN a) (cN b)) (0,0,0) 1073741824).2)] by unfold prodT;rfl];refine z1o ?_
  first|refine exI ?_|(intro cap5 hcap5;refine exI ?_)
  iterate 4 refine zal ?_
  refine zii ?_;refine zal ?_;refine s_n K22 ?_;refine srR (z22 hen hok) fun _ K24=>?_;refine z78 ?_;refine exA (tabV (prodT op a b)) (SV.as_refl _) ?_;refine zii ?_;refine s_n K24 ?_;refine z0g (z0k (z22 hen hok) (fun _ _ h=>h) (z3b _) [] [.cell 6 87] rfl ?_)
  repeat first|refine aI (by first|exact trivial|rfl|exact⟨rfl,rfl⟩|decide|exact z44 trivial trivial|exact zlu hpf.1.clen|(show 0+259≤(z02 _ _ _ _).length;rw[z00 hpf.1.clen];decide)|(show 0< (z02 _ _ _ _).length;rw[z00 hpf.1.clen];decide)) ?_|refine z03 (zi9 hpf.1.clen) ?_|refine z04 (by exact z00 hpf.1.clen) ?_
  all_goals exact z18

end Go.Proofs.YtppmnaoollkboaaDoor

namespace Go.Proofs.YtppmnaoollkboaaDoor
set_option linter.all false
open Go.Ab Go.RowKit

section
variable {a b:Prop}
theorem zti(h:a:=by
    repeat' (first|exact z1b _|exact z3b _|exact pT|exact trivial|refine aI ?_ ?_|exact cC0|refine low_cons' ?_ ?_|exact cC1|fail)
    all_goals first|omega|exact z1b _|(show(0:Nat)< (z02 _ _ _ _).length;rw[z00 hcl];decide)|(simp[-List.reduceReplicate];done)|(simp[-List.reduceReplicate]<;>omega)|skip):a:=h
theorem sXTUtc_2(kZ:b)(h:HidB b→a:=by intro kZ;refine sXT ?_;refine DUf_0 ?_;refine exI ?_;exact kZ.out):a:=h ⟨kZ⟩
theorem ztj(kZ:b)(h:HidB b→a:=by intro kZ;refine sXT ?_;refine DUi_0 ?_;refine exI ?_;exact kZ.out):a:=h ⟨kZ⟩
theorem zzr(kZ:b)(h:HidB b→a:=by intro kZ;refine sXT ?_;refine DUi_0 ?_;exact kZ.out):a:=h ⟨kZ⟩
end
open Go.Aut
attribute [local irreducible] z0s z12 zl z02 z11 putB prodT canD
def hAndS:QSpec:=fun vs K=>∃ x y:Bool,vs=[.c (.bool x),.c (.bool y)]∧K (.c (.bool (x&&y)))
theorem hAnd_ok:z19 Tryd.prog gl 92 hAndS:=by
 refine z1d (Γ:=g0) (N:=9) Tryd.func92 rfl rfl fun vs K h=>?_;obtain⟨x,y,rfl,h⟩:=h;refine⟨_,h,rfl,by simp,fun w I=>?_⟩;refine srR g0_ok fun _ K2=>?_;refine zcz ?_;refine s_n K2 ?_;refine srR g0_ok fun _ K4=>?_;refine zcz ?_;refine sXEUf_12 ?_;refine exB (fun hb1=>?_) (fun hb1=>?_)
 ·try simp only[dQ,reduceIte]at hb1
  refine sXTUtc_2 ?_
  iterate 2 refine zcz ?_
  refine s_n K4 ?_;refine z0g (z0d g0_ok (fun _ _ h=>h) (by first|rfl|assumption) [.tmp 4] rfl ?_);refine rtD ?_
  first|rfl|(cases x<;>cases y<;>rfl)|(cases x<;>cases y<;>first|rfl|simp_all)
 ·try simp only[dQ,reduceIte]at hb1
  refine sN ?_
  iterate 2 refine zcz ?_
  refine s_n K4 ?_;refine z0g (z0d g0_ok (fun _ _ h=>h) (by first|rfl|assumption) [.tmp 4] rfl ?_);refine rtD ?_
  first|rfl|(cases x<;>cases y<;>rfl)|(cases x<;>cases y<;>first|rfl|simp_all)

def zzs:QSpec:=fun vs K=>∃ x y:Bool,vs=[.c (.bool x),.c (.bool y)]∧K (.c (.bool (x !=y)))
theorem zzt:z19 Tryd.prog gl 88 zzs:=by
 refine z1d (Γ:=g0) (N:=8) Tryd.func88 rfl rfl fun vs K h=>?_;obtain⟨x,y,rfl,h⟩:=h;refine⟨_,h,rfl,by simp,fun w I=>?_⟩;refine srR g0_ok fun _ K2=>?_;refine zcz ?_;refine s_n K2 ?_;refine srR g0_ok fun _ K4=>?_
 iterate 4 refine zcz ?_
 refine s_n K4 ?_;refine z0g (z0d g0_ok (fun _ _ h=>h) (by first|rfl|assumption) [.tmp 4] rfl ?_);refine rtD ?_
 first|rfl|(cases x<;>cases y<;>rfl)|(cases x<;>cases y<;>first|rfl|simp_all)


theorem zoe(op:Bool→Bool→Bool){d e:Dfa}(hd:d.good)(he:e.good):(prodT op (tabD d) (tabD e)).fit:=(zb7 (z14 hd) (z14 he) ⟨hd.2,he.2⟩).1
noncomputable def gCo(hf:FuncId)(hq:QSpec):Ctx:={ P:=Tryd.prog,ty:=ty,glob:=gl,fs:=[(50,.flat z7v),(87,.data (zm3 hf hq)),(83,.data zgc)] }
theorem zf9{hf:FuncId}{hq:QSpec}(hen:z57 Tryd.prog hf)(hok:z19 Tryd.prog gl hf hq):(gCo hf hq).OK:=⟨tyOK,⟨⟨z08 Tryd.func50 kR rfl,z5h⟩,⟨z08 Tryd.func87 kR rfl,zk7 hen hok⟩,⟨z08 Tryd.func83 kR rfl,zef⟩,trivial⟩,mixed⟩
@[simp] theorem gCo_ty{hf:FuncId}{hq:QSpec}:(gCo hf hq).ty=ty:=rfl
def zof(hf:FuncId)(hq:QSpec):QSpec:=fun vs K=>∃ (op:Bool→Bool→Bool) (d e:Dfa),vs=[dfaV d,dfaV e,.c (.clo hf [])]∧(d.wf∧e.wf)∧(∀ x y,hq [.c (.bool x),.c (.bool y)] (fun v=>v= .c (.bool (op x y))))∧K (resV (combR op d e))
theorem zqu{hf:FuncId}{hq:QSpec}(hen:z57 Tryd.prog hf)(hok:z19 Tryd.prog gl hf hq):z1w Tryd.prog gl 91 (zof hf hq):=by
 refine z1c (Γ:=gCo hf hq) (N:=24) Tryd.func91 rfl rfl fun vs K h=>?_;obtain⟨op,d,e,rfl,⟨hd,he⟩,hcall,h⟩:=h;refine⟨_,h,z10 _,by simp,fun w I=>?_⟩;refine srR (zf9 hen hok) fun _ K2=>?_
 iterate 4 refine z7l ?_
 refine s_n K2 ?_;refine seq_k fun _ K3=>?_;refine srR (zf9 hen hok) fun _ K5=>?_;refine z7l ?_;refine zlj ?_;refine⟨d,rfl,hd,?_⟩;refine DUi_0 ?_
 first|refine exI ?_|(intro cap1 hcap1;refine exI ?_)
 refine z7l ?_;refine zlj ?_;refine exB (fun hb3=>?_) (fun hb3=>?_)
 ·try simp only[dQ,reduceIte]at hb3
  iterate 3 refine sN ?_
  refine z7l ?_;refine s_n K5 ?_;refine z09 (b:=_) rfl (fun _=>?_) (fun h_t15=>?_)
  rotate_left 1
  ·exfalso;simp at h_t15
  refine srR (zf9 hen hok) fun _ K7=>?_;refine z7l ?_;refine sX0Ui_2 ?_;refine z7l ?_;refine s_n K7 ?_
  have hno:¬ (z0w d=true∧z0w e=true):=by intro hh;simp_all
  rw[combR,if_neg hno];refine z0g (z0k (zf9 hen hok) (fun _ _ h=>h) (z10 _) [] [.cell 6 30,.tmp 7] rfl ?_)
  repeat first|refine aI (by first|exact trivial|rfl|exact⟨rfl,rfl⟩|decide) ?_|refine z04 (by first|rfl|decide) ?_|refine z03 (by first|rfl|decide) ?_
  all_goals exact zti
 ·try simp only[dQ,reduceIte]at hb3
  refine ztj ?_;refine zzr ?_;refine⟨e,rfl,he,?_⟩;refine DUi_0 ?_
  first|refine exI ?_|(intro cap5 hcap5;refine exI ?_)
  refine ztj ?_;refine z7l ?_;refine s_n K5 ?_;refine z09 (b:=_) rfl (fun h_t15=>?_) (fun h_t15=>?_)
  ·try simp only[dQ,reduceIte]at h_t15
   refine srR (zf9 hen hok) fun _ K9=>?_;refine z7l ?_;refine sX0Ui_2 ?_;refine z7l ?_;refine s_n K9 ?_
   have hno:¬ (z0w d=true∧z0w e=true):=by intro hh;simp_all
   rw[combR,if_neg hno];refine z0g (z0k (zf9 hen hok) (fun _ _ h=>h) (z10 _) [] [.cell 6 30,.tmp 7] rfl ?_)
   repeat first|refine aI (by first|exact trivial|rfl|exact⟨rfl,rfl⟩|decide) ?_|refine z04 (by first|rfl|decide) ?_|refine z03 (by first|rfl|decide) ?_
   all_goals exact zti
  ·try simp only[dQ,reduceIte]at h_t15
   refine z0b ?_;apply K3
   have hvd:z0w d=true:=by simp_all
   have hve:z0w e=true:=by simp_all
   have hgd:=(z1e hd).1 hvd
   have hge:=(z1e he).1 hve
   refine srR (zf9 hen hok) fun _ K11=>?_
   iterate 3 refine z7l ?_
   refine zlj ?_;refine⟨op,d,e,rfl,⟨hgd,hge⟩,hcall,?_⟩;refine DUi_0 ?_
   first|refine exI ?_|(intro cap3 hcap3;refine exI ?_)
   refine zlj ?_;refine aI (z0x _) ?_;refine z15 _ ?_;refine⟨_,rfl,zoe op hgd hge,?_⟩;rw[prod_can hgd hge]
   simp only[z28]
   refine DUi_0 ?_
   first|refine exI ?_|(intro cap4 hcap4;refine exI ?_)
   iterate 2 refine z7l ?_
   refine sX0Ui_2 ?_;refine z7l ?_;refine s_n K11 ?_
   have hyes:z0w d=true∧z0w e=true:=⟨hvd,hve⟩
   rw[combR,if_pos hyes];refine z0g (z0k (zf9 hen hok) (fun _ _ h=>h) (z10 _) [] [.cell 6 30,.tmp 7] rfl ?_)
   repeat first|refine aI (by first|exact trivial|rfl|exact⟨rfl,rfl⟩|decide) ?_|refine z04 (by first|rfl|decide) ?_|refine z03 (by first|rfl|decide) ?_
   all_goals exact zti
noncomputable def gOand:Ctx:={ P:=Tryd.prog,ty:=ty,glob:=gl,fs:=[(91,.data (zof 92 hAndS))] }
theorem zm4:gOand.OK:=⟨tyOK,⟨⟨z08 Tryd.func91 kR rfl,zqu (z08 Tryd.func92 kR rfl) hAnd_ok⟩,trivial⟩,mixed⟩
@[simp] theorem gOand_ty:gOand.ty=ty:=rfl

def andAS:QSpec:=fun vs K=>∃ d e:Dfa,vs=[dfaV d,dfaV e]∧(d.wf∧e.wf)∧K (resV (combR (fun x y=>x&&y) d e))
theorem andA_ok:z1w Tryd.prog gl 36 andAS:=by
 refine z1c (Γ:=gOand) (N:=11) Tryd.func36 rfl rfl fun vs K h=>?_;obtain⟨d,e,rfl,⟨hd,he⟩,h⟩:=h;refine⟨_,h,z10 _,by simp,fun w I=>?_⟩;refine srR zm4 fun _ K2=>?_
 iterate 4 refine z7l ?_
 refine s_n K2 ?_;refine srR zm4 fun _ K4=>?_
 iterate 2 refine z7l ?_
 refine zlj ?_;refine⟨fun x y=>x&&y,d,e,rfl,⟨hd,he⟩,fun x y=>⟨x,y,rfl,rfl⟩,?_⟩;refine DUi_0 ?_
 first|refine exI ?_|(intro cap2 hcap2;refine exI ?_)
 iterate 2 refine z7l ?_
 refine sX0Ui_2 ?_;refine z7l ?_;refine s_n K4 ?_;refine z0g (z0k zm4 (fun _ _ h=>h) (z10 _) [] [.cell 4 30,.tmp 5] rfl ?_)
 repeat first|refine aI (by first|exact trivial|rfl|exact⟨rfl,rfl⟩|decide) ?_|refine z04 (by first|rfl|decide) ?_|refine z03 (by first|rfl|decide) ?_
 all_goals exact zti

end Go.Proofs.YtppmnaoollkboaaDoor
