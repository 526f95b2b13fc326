/- Contracts of functions and plain facts, part 6. -/
import Derived.Test.YtpdljmohhpbkpaaDoorNd
import Derived.Test.YtpdljmohhpbkpaaDoorNb
set_option linter.all false
set_option maxHeartbeats 2000000
set_option maxRecDepth 4000
namespace Go.Proofs.YtpdljmohhpbkpaaDoor
open Go.Ab Go.RowKit

section
variable {a b:Prop}
theorem FO(h:a:=by first|exact gG|(simp[-List.reduceReplicate]<;>omega)|exact vV|(show _< ((au _ _ _ _).set _ _).length;rw[List.length_set,dJ hcl];decide)|exact⟨hcl,rfl,trivial⟩|exact Xm _|exact⟨by omega,by omega,trivial,trivial⟩|exact Ta hcl|exact zjp hcl|exact By|exact y1r|exact y1s|exact Ru o5 _|exact o5.solid _|(show _< (iA encS _).length;rw[Xm];omega)|(show _<=(iA encS _).length;rw[Xm];omega)|exact⟨by omega,by omega,trivial⟩|exact⟨by omega,by omega,o5.solid _⟩|(show _< (dL _ _ _ _ _).length;rw[Lc];omega)|exact gH):a:=h
theorem cZ(h:a:=by
    repeat' (first|assumption|exact Bz|exact Vy|exact ve C5 _ _|exact qY C5 _|exact Sm o5|exact Bp trivial (by show _< _;omega)|exact Bp (by show _< _;omega) (by show _< _;omega)|exact uy hin.d1|exact uy hin.d2|exact Gl hin.d1|exact Gl hin.d2|exact pT|exact trivial|refine aI ?_ ?_|exact iM|refine low_cons' ?_ ?_|exact iN|fail)
    all_goals first|omega|exact hL0|exact(vY (f:=aC g bytes) (nc:=bytes.length) (b0:=s0) s.1).symm|exact(Im (f:=aC g bytes) (nc:=bytes.length) (b0:=s0) acc s.1).symm|exact Iy|(intro x hx;rw[List.nil_append]at hx;rw[List.mem_singleton.1 hx];exact⟨rfl,rfl⟩)|exact JG|exact ve C5 _ _|exact qY C5 _|(rw[hX4];exact qY C5 _)|(show(_:List Int)=_;first|assumption|rfl)|(show(_:List Bool)=_;first|assumption|rfl)|(show(_:List (SV×SV))=_;first|assumption|rfl)|exact Gl hin.d1|exact Gl hin.d2|exact uy hin.d1|exact uy hin.d2|exact Sn (Iq o5 _) (by first|rfl|assumption|exact hXS)|(show bR _ _ _;first|(rw[hXR];exact nI _)|(rw[hXR];trivial)|exact nI _)|(show bR _ _ _;first|(rw[Xn hcl rfl,zqk hcl rfl];refine sj ?_ ?_<;>(repeat' (first|exact trivial|refine aI ?_ ?_|rfl|omega|decide|exact z31 _|(simp;done)|rw[if_pos ⟨rfl,by simp⟩])))|(refine sj ?_ ?_<;>(repeat' (first|exact trivial|refine aI ?_ ?_|rfl|omega|decide|exact z31 _|(simp;done)|rw[if_pos ⟨rfl,by simp⟩]))))|(show(0:Nat)< (au _ _ _ _).length;rw[dJ hcl];decide)|(simp[-List.reduceReplicate];done)|(simp[-List.reduceReplicate]<;>omega)|skip):a:=h
theorem nN(kZ:b)(h:aK b->a:=by intro kZ;(repeat first|refine aI FO ?_|refine bW FO ?_|refine dC FO ?_|refine fT FO ?_|refine fA ?_);exact kZ.out):a:=h ⟨kZ⟩
theorem z2b(kZ:b)(h:aK b->a:=by intro kZ;refine sX ?_;refine nN ?_;refine aL ?_;exact kZ.out):a:=h ⟨kZ⟩
theorem MG(kZ:b)(h:aK b->a:=by intro kZ;refine jl ?_;refine nN ?_;refine aL ?_;exact kZ.out):a:=h ⟨kZ⟩
theorem Vz(kZ:b)(h:aK b->a:=by intro kZ;refine dX ?_;refine nN ?_;refine aL ?_;exact kZ.out):a:=h ⟨kZ⟩
theorem KQ(kZ:b)(h:aK b->a:=by intro kZ;refine gX ?_;refine nN ?_;refine aL ?_;exact kZ.out):a:=h ⟨kZ⟩
theorem Dh(kZ:b)(h:aK b->a:=by intro kZ;refine pu ?_;refine nN ?_;refine aL ?_;exact kZ.out):a:=h ⟨kZ⟩
theorem z79(kZ:b)(h:aK b->a:=by intro kZ;refine sX ?_;refine nN ?_;exact kZ.out):a:=h ⟨kZ⟩
theorem y1q(kZ:b)(h:aK b->a:=by intro kZ;refine dX ?_;refine nN ?_;exact kZ.out):a:=h ⟨kZ⟩
theorem Dl(kZ:b)(h:aK b->a:=by intro kZ;refine gX ?_;refine nN ?_;exact kZ.out):a:=h ⟨kZ⟩
end
open Go.Aut
noncomputable def cX(f1:FuncId)(q1:aW)(f2:FuncId)(q2:aW):Ctx:={ P:=Tryd.prog,ty:=ty,glob:=gl,fs:=[(f1,.flat (KH q1)),(f2,.flat (KH q2))] }
theorem eZ{f1 f2:FuncId}{q1 q2:aW}(e1:qJ Tryd.prog f1)(h1:jJ Tryd.prog gl f1 q1)(e2:qJ Tryd.prog f2)(h2:jJ Tryd.prog gl f2 q2):(cX f1 q1 f2 q2).OK:=⟨dS,⟨⟨e1,ZD h1⟩,⟨e2,ZD h2⟩,trivial⟩,mixed⟩
@[simp] theorem Zx{f1 f2:FuncId}{q1 q2:aW}:(cX f1 q1 f2 q2).ty=ty:=rfl
theorem xJ{f1 f2:FuncId}{q1 q2:aW}:rV (cX f1 q1 f2 q2).fs f1=some (.flat (KH q1)):=if_pos rfl
theorem xK{f1 f2:FuncId}{q1 q2:aW}(h:f1≠f2):rV (cX f1 q1 f2 q2).fs f2=some (.flat (KH q2)):=by
  show(if f1=f2 then _ else if f2=f2 then _ else _)=_
  rw[if_neg h,if_pos rfl]
theorem Xm(l:List ah):(iA encS l).length=l.length*3:=YQ o5 fun _ _=>trivial
theorem Xn{cell:List Int}{nc i:Nat}{x y z:Cell}(h:cell.length=256)(hi:i=257):(au cell nc x y).set i z=au cell nc z y:=by subst hi;exact TH h
theorem zqk{cell:List Int}{nc i:Nat}{x y z:Cell}(h:cell.length=256)(hi:i=258):(au cell nc x y).set i z=au cell nc x z:=by subst hi;exact zvp h
theorem Bz{ty:Nat->Ty}{H:Heap}{is:List Nat}{ρ:Nat->Nat}:bR (Cell.to ty H is ρ) (List.replicate 257 (Cell.int .i64 0)++List.replicate 2 Cell.nils) (au z12 0 (.ds 0 (.cells [])) (.ds 0 (.bools []))):=Vy
theorem y1r:(aB.cells zl).len=(aB.cells (List.replicate 257 (Cell.int .i64 0)++List.replicate 2 Cell.nils)).len:=by rw[zl_len'];exact zap
theorem zjp{cell:List Int}{nc:Nat}{x y:Cell}(h:cell.length=256):(aB.cells zl).len=(aB.cells (au cell nc x y)).len:=zap.trans (dJ h).symm
theorem Ta{cell:List Int}{nc:Nat}{x y:Cell}(h:cell.length=256):0+(aB.cells (au cell nc x y)).len<=(aB.cells zl).len:=by rw[Nat.zero_add, <-zjp h];exact Nat.le_refl _
theorem By:0+(aB.cells (List.replicate 257 (Cell.int .i64 0)++List.replicate 2 Cell.nils)).len<=(aB.cells zl).len:=by rw[Nat.zero_add,y1r];exact Nat.le_refl _
theorem y1s:(aB.cells (List.replicate 257 (Cell.int .i64 0)++List.replicate 2 Cell.nils)).solid:=Xj (by
  have:∀ n,CQ (List.replicate n (Cell.int .i64 0)):=fun n=>by
    induction n with
    |zero=>trivial
    |succ n ih=>exact⟨trivial,ih⟩
  exact this _) ⟨trivial,trivial,trivial⟩
theorem OT(a:ah)(b:Nat):∀ x∈[jW a,.c (.int .i64 (b:Int))],qz x:=fun x hx=>by
  rcases List.mem_cons.1 hx with rfl|hx
  · rfl
  · rw[List.mem_singleton.1 hx];exact zzk
theorem KD(a:ah):∀ x∈[jW a],qz x:=fun x hx=>by rw[List.mem_singleton.1 hx];rfl
structure Cj(q1 q2:aW)(g:ah->Nat->ah)(acc:ah->Bool)(Inv:ah->Prop)(cell:List Int)(bytes:List Nat)(s0:ah)(c1 c2:List Cell)(most:Nat):Prop where
  clen:cell.length=256
  npos:0< bytes.length
  nmax:bytes.length<=256
  byte:∀ b∈bytes,b< 256
  mpos:0< most
  mmax:most<=1073741824
  d1:∀ x∈c1,gM x
  d2:∀ x∈c2,gM x
  i0:Inv s0
  iok:∀ s,Inv s->Mc s
  ig:∀ (s:ah) (b:Nat),Inv s->b< 256->Inv (g s b)
  h1:∀ (s:ah) (b:Nat),Inv s->b< 256->q1 ([jW s,.c (.int .i64 (b:Int))]++c1.map .c) (fun v=>v=jW (g s b))
  h2:∀ s:ah,Inv s->q2 ([jW s]++c2.map .c) (fun v=>v= .c (.bool (acc s)))
def TI(f1:FuncId)(q1:aW)(f2:FuncId)(q2:aW):aW:=fun vs K=>∃ (g:ah->Nat->ah) (acc:ah->Bool) (Inv:ah->Prop) (cell:List Int) (bytes:List Nat) (s0:ah) (c1 c2:List Cell) (most:Nat),
  vs=[.agg (.ints .i64 cell),.c (.ds bytes.length (.ints .i64 (aG bytes))),jW s0,.c (.clo f1 c1),.c (.clo f2 c2),.c (.int .i64 (most:Int))]/\Cj q1 q2 g acc Inv cell bytes s0 c1 c2 most/\K (UX (jf g acc cell bytes s0 most))
attribute [local irreducible] eG z12 zl au gz cr dL bP dZ
theorem XP {f1 f2:FuncId} {q1 q2:aW} (e1:qJ Tryd.prog f1) (q1ok:jJ Tryd.prog gl f1 q1) (e2:qJ Tryd.prog f2) (q2ok:jJ Tryd.prog gl f2 q2) (hne:f1≠f2):jr Tryd.prog gl 38 (TI f1 q1 f2 q2):=by
 refine kJ (Γ:=cX f1 q1 f2 q2) (N:=100) Tryd.func38 rfl rfl fun vs K h=>?_;obtain⟨g,acc,Inv,cell,bytes,s0,c1,c2,most,rfl,hin,h⟩:=h;refine⟨_,h,Vx _,by simp,fun w I=>?_⟩
 have hcl:=hin.clen
 have hnm:=hin.nmax
 have hmm:=hin.mmax
 refine aO (eZ e1 q1ok e2 q2ok) fun _ K2=>?_
 iterate 4 refine z2b ?_
 refine aJ K2 (fQ [0,1] (fun _=>2) [(1,.c (.ds bytes.length (.ints .i64 (aG bytes)))),(3,.c (.clo f1 c1)),(4,.c (.clo f2 c2)),(5,.c (.int .i64 (most:Nat))),(12,.c (.ptr 0 0)),(6,.c (.dp (.ints .i64 cell) 0)),(8,.c (.dp (.cells (encS s0)) 0))] [(0,.own 56 (.cells zl) 259)] 1 [2] cZ cZ cZ cZ (aO (eZ e1 q1ok e2 q2ok) fun _ K4=>?_))
 iterate 3 refine z2b ?_
 refine z79 ?_;refine aU (.agg (.cells (au cell bytes.length .nils .nils))) (bq (congrArg (fun l=>SV.agg (aB.cells l)) (zt4 _ _))) (z2b ?_);refine MG ?_;refine aJ K4 (aO (eZ e1 q1ok e2 q2ok) fun _ K6=>z2b ?_);refine z79 ?_;refine aU (jW s0) (SV.as_refl _) (jl ?_);refine aI (T9 (hin.iok _ hin.i0)) (And.intro (fun p hp=>by cases hp) (And.intro (fun jj u hj=>by cases hj) (fun hno=>?_)));refine aL ?_
 iterate 2 refine z2b ?_
 refine aJ K6 (aO (eZ e1 q1ok e2 q2ok) fun _ K8=>z79 ?_);refine aU (jW s0) (SV.as_refl _) ?_
 iterate 2 refine z2b ?_
 refine aJ K8 (aH fun _ K9=>aO (eZ e1 q1ok e2 q2ok) fun _ K11=>z2b ?_);refine aJ K11 (bO (z30 1 257 44 (.cells []) rfl (y1k hcl) rfl low_nil' (z30 1 258 4 (.bools []) rfl (by rw[TH hcl];exact y1l hcl) rfl trivial (fM (α:=Nat×Nat×Nat×Nat) (fun s=>[(1,.c (.ds bytes.length (.ints .i64 (aG bytes)))),(3,.c (.clo f1 c1)),(4,.c (.clo f2 c2)),(5,.c (.int .i64 (most:Nat))),(12,.c (.ptr 0 0)),(14,.c (.ptr 1 0)),(15,.c (.map 2)),(16,.c (.slice 3 0 (aR (aC g bytes) bytes.length s0 (s.1*bytes.length)).length s.2.1)),(17,.c (.int .i64 (s.1:Nat)))]) (fun s=>[(0,.own 56 (.cells zl) 259),(1,.own 56 (.cells (au cell bytes.length (.slice 4 0 s.1 s.2.2.1) (.slice 5 0 s.1 s.2.2.2))) 259),(2,.mp 102 (dh jW (aR (aC g bytes) bytes.length s0 (s.1*bytes.length)))),(3,.own 64 (.cells (iA encS (aR (aC g bytes) bytes.length s0 (s.1*bytes.length)))) (s.2.1*3)),(4,.own 44 (.cells (aS (bP (aC g bytes) bytes.length s0 s.1))) s.2.2.1),(5,.own 4 (.bools (dZ (aC g bytes) bytes.length s0 acc s.1)) s.2.2.2)]) 6 (fun s=>s.1<=most/\(∀ j,j< s.1->j< (aR (aC g bytes) bytes.length s0 (j*bytes.length)).length)/\s.1<=(aR (aC g bytes) bytes.length s0 (s.1*bytes.length)).length/\(aR (aC g bytes) bytes.length s0 (s.1*bytes.length)).length<=s.2.1/\(aR (aC g bytes) bytes.length s0 (s.1*bytes.length)).length<=most/\s.1<=s.2.2.1/\s.1<=s.2.2.2) (fun s=>most - s.1) ?_ ?_))))
 ·have hz:(aR (aC g bytes) bytes.length s0 (0*bytes.length))=[s0]:=by rw[Nat.zero_mul];rfl
  have hL0:1=(aR (aC g bytes) bytes.length s0 (0*bytes.length)).length:=by rw[hz];rfl
  have hX3:([]:List Bool)=(dZ (aC g bytes) bytes.length s0 acc 0):=by unfold dZ;rfl
  have hXR:aS (bP (aC g bytes) bytes.length s0 0)=[]:=by unfold bP;rfl
  have hXS:[]++encS s0=iA encS (aR (aC g bytes) bytes.length s0 (0*bytes.length)):=by rw[hz];rfl
  have hX4:[]++[(jW s0,.c (.int .i64 0))]=dh jW (aR (aC g bytes) bytes.length s0 (0*bytes.length)):=by rw[hz];rfl
  refine ai [] id (0,1,0,0) ⟨Nat.zero_le _,fun j hj=>absurd hj (Nat.not_lt_zero j),Nat.zero_le _,by rw[hz];exact Nat.le_refl _,by rw[hz];exact hin.mpos,Nat.le_refl _,Nat.le_refl _⟩ [0,1,2,3,4,5] ?_ ?_ ?_ ?_
  ·exact cZ
  ·exact cZ
  ·exact cZ
  ·exact cZ
 ·intro s hs
  obtain⟨hs1,ha,hs3,hs4,hs5,hs6,hs7⟩:=hs;refine aH fun _ K12=>aO (eZ e1 q1ok e2 q2ok) fun _ K14=>?_
  iterate 4 refine z2b ?_
  refine aJ K14 (bC (b:=_) rfl (fun h_t36=>?_) (fun h_t36=>?_))
  ·try simp only[dQ,reduceIte]at h_t36
   refine bK (K12 _ _ _ (aH fun _ K15=>bO ?_))
   have hi:s.1< (aR (aC g bytes) bytes.length s0 (s.1*bytes.length)).length:=by omega
   have hge:=uY (f:=(aC g bytes)) (b0:=s0) (p:=s.1*bytes.length) hi (Nat.le_refl _)
   have ha2:∀ j,j<=s.1->j< (aR (aC g bytes) bytes.length s0 (j*bytes.length)).length:=fun j hj=>by
    rcases Nat.lt_or_ge j s.1 with h1|h1
    ·exact ha j h1
    ·obtain rfl:j=s.1:=by omega
     exact hi
   have hII:∀ k,k<=bytes.length->∀ a∈(aR (aC g bytes) bytes.length s0 (s.1*bytes.length+k)),Inv a:=fun k hk=>QD hin.i0 hin.ig hin.byte hin.npos (UH hin.npos ha2 hk)
   have hIs:Inv (dn (aC g bytes) bytes.length s0 s.1):=hII 0 (Nat.zero_le _) _ (List.mem_of_getElem? hge)
   refine aO (eZ e1 q1ok e2 q2ok) fun _ K17=>?_
   iterate 4 refine z2b ?_
   refine aJ K17 (aH fun _ K18=>aO (eZ e1 q1ok e2 q2ok) fun _ K20=>?_)
   iterate 3 refine z2b ?_
   refine aJ K20 (bO (fM (α:=Nat×Nat) (fun k=>[(1,.c (.ds bytes.length (.ints .i64 (aG bytes)))),(3,.c (.clo f1 c1)),(4,.c (.clo f2 c2)),(5,.c (.int .i64 (most:Nat))),(12,.c (.ptr 0 0)),(14,.c (.ptr 1 0)),(15,.c (.map 2)),(16,.c (.slice 3 0 (aR (aC g bytes) bytes.length s0 (s.1*bytes.length+k.1)).length k.2)),(17,.c (.int .i64 (s.1:Nat))),(18,.c (.slice 6 0 bytes.length bytes.length)),(42,.c (.ds bytes.length (.ints .i64 (aG bytes)))),(43,.c (.int .i64 (bytes.length:Nat))),(44,.c (.int .i64 (k.1:Nat)))]) (fun k=>[(0,.own 56 (.cells zl) 259),(1,.own 56 (.cells (au cell bytes.length (.slice 4 0 s.1 s.2.2.1) (.slice 5 0 s.1 s.2.2.2))) 259),(2,.mp 102 (dh jW (aR (aC g bytes) bytes.length s0 (s.1*bytes.length+k.1)))),(3,.own 64 (.cells (iA encS (aR (aC g bytes) bytes.length s0 (s.1*bytes.length+k.1)))) (k.2*3)),(4,.own 44 (.cells (aS (bP (aC g bytes) bytes.length s0 s.1))) s.2.2.1),(5,.own 4 (.bools (dZ (aC g bytes) bytes.length s0 acc s.1)) s.2.2.2),(6,.own 3 (.ints .i64 (dL (aC g bytes) bytes.length s0 s.1 k.1)) bytes.length)]) 7 (fun k=>k.1<=bytes.length/\(aR (aC g bytes) bytes.length s0 (s.1*bytes.length+k.1)).length<=k.2/\(aR (aC g bytes) bytes.length s0 (s.1*bytes.length+k.1)).length<=most) (fun k=>bytes.length - k.1) ?_ ?_))
   ·have hX1:List.replicate bytes.length (0:Int)=(dL (aC g bytes) bytes.length s0 s.1 0):=(zq9 _).symm
    refine ai [] id (0,s.2.1) ⟨Nat.zero_le _,hs4,hs5⟩ [0,1,2,3,4,5,6] cZ cZ cZ cZ
   ·intro k hk0
    obtain⟨hk1,hk2,hk3⟩:=hk0;refine aO (eZ e1 q1ok e2 q2ok) fun _ K22=>z2b ?_;refine aJ K22 (aH fun _ K23=>bC (b:=_) rfl (fun h_t45=>?_) (fun h_t45=>?_))
    ·try simp only[dQ,reduceIte]at h_t45
     refine bK (K23 _ _ _ (aH fun _ K24=>bO ?_))
     have hk:k.1< bytes.length:=by omega
     have hgk:=uY (f:=(aC g bytes)) (b0:=s0) (p:=s.1*bytes.length+k.1) hi (Nat.le_add_right _ _)
     have hbk:(bytes.getD k.1 0)< 256:=hin.byte _ (getD_mem' hk)
     have hil:s.1< (aR (aC g bytes) bytes.length s0 (s.1*bytes.length+k.1)).length:=Nat.lt_of_lt_of_le hi (pR (Nat.le_add_right _ _))
     refine aO (eZ e1 q1ok e2 q2ok) fun _ K26=>?_
     iterate 2 refine z2b ?_
     refine z79 ?_;refine aU (.c (.int .i64 ((((bytes.getD k.1 0):Nat):Int)))) (az ((congrArg (fun i=>(aG bytes).getD i 0) (by omega)).trans jd)) ?_
     iterate 2 refine z2b ?_
     refine aJ K26 (aO (eZ e1 q1ok e2 q2ok) fun _ K28=>?_)
     iterate 4 refine z2b ?_
     refine z79 ?_;refine aU (jW (dn (aC g bytes) bytes.length s0 s.1)) (YR o5 (fun _ _=>trivial) (by omega) rfl hgk) (z2b ?_);refine sX ?_;refine zzu (xs:=[jW (dn (aC g bytes) bytes.length s0 s.1),.c (.int .i64 (((bytes.getD k.1 0):Nat):Int))]) xJ (OT _ _) hin.d1 ⟨_,hin.h1 _ _ hIs hbk,?_⟩
     first|refine aL ?_|(intro cap6 hcap6;refine aL ?_)
     refine z2b ?_;refine MG ?_;refine aJ K28 (aO (eZ e1 q1ok e2 q2ok) fun _ K30=>z2b ?_);refine z79 ?_;refine aU (jW ((aC g bytes) (dn (aC g bytes) bytes.length s0 s.1) k.1)) (SV.as_refl _) (z79 ?_);refine aI (T9 (hin.iok _ (hin.ig _ _ hIs hbk))) (And.intro (y1h fun a ha=>hin.iok _ (hII k.1 (Nat.le_of_lt hk) a ha)) (And.intro (fun jj v hj=>?_) (fun hno=>?_)))
     ·obtain⟨rfl,hin1⟩:=BH (Lh _) hj
      have hin1:((aC g bytes) (dn (aC g bytes) bytes.length s0 s.1) k.1)∈(aR (aC g bytes) bytes.length s0 (s.1*bytes.length+k.1)):=hin1
      refine aL ?_
      iterate 5 refine z2b ?_
      refine aJ K30 (qf (α:=Nat) (fun y=>[(1,.c (.ds bytes.length (.ints .i64 (aG bytes)))),(3,.c (.clo f1 c1)),(4,.c (.clo f2 c2)),(5,.c (.int .i64 (most:Nat))),(12,.c (.ptr 0 0)),(14,.c (.ptr 1 0)),(15,.c (.map 2)),(16,.c (.slice 3 0 (aR (aC g bytes) bytes.length s0 (s.1*bytes.length+(k.1+1))).length y)),(17,.c (.int .i64 (s.1:Nat))),(18,.c (.slice 6 0 bytes.length bytes.length)),(42,.c (.ds bytes.length (.ints .i64 (aG bytes)))),(43,.c (.int .i64 (bytes.length:Nat))),(44,.c (.int .i64 (k.1:Nat))),(19,.c (.int .i64 (k.1:Nat))),(22,.c (.int .i64 ((kN (aC g bytes) bytes.length s0 s.1 k.1):Nat)))]) (fun y=>[(0,.own 56 (.cells zl) 259),(1,.own 56 (.cells (au cell bytes.length (.slice 4 0 s.1 s.2.2.1) (.slice 5 0 s.1 s.2.2.2))) 259),(2,.mp 102 (dh jW (aR (aC g bytes) bytes.length s0 (s.1*bytes.length+(k.1+1))))),(3,.own 64 (.cells (iA encS (aR (aC g bytes) bytes.length s0 (s.1*bytes.length+(k.1+1))))) (y*3)),(4,.own 44 (.cells (aS (bP (aC g bytes) bytes.length s0 s.1))) s.2.2.1),(5,.own 4 (.bools (dZ (aC g bytes) bytes.length s0 acc s.1)) s.2.2.2),(6,.own 3 (.ints .i64 (dL (aC g bytes) bytes.length s0 s.1 k.1)) bytes.length)]) 7 (fun y=>(aR (aC g bytes) bytes.length s0 (s.1*bytes.length+(k.1+1))).length<=y/\(aR (aC g bytes) bytes.length s0 (s.1*bytes.length+(k.1+1))).length<=most) ?_ ?_)
      ·refine aO (eZ e1 q1ok e2 q2ok) fun _ K32=>?_
       iterate 2 refine z2b ?_
       refine aJ K32 (bC (b:=_) rfl (fun h_t63=>?_) (fun _=>?_))
       ·exfalso;cases h_t63
       refine bK ?_;obtain⟨hst,hnq⟩:=ZC hi hk hin1;rw[<-hnq]
       have hst:(aR (aC g bytes) bytes.length s0 (s.1*bytes.length+(k.1+1)))=(aR (aC g bytes) bytes.length s0 (s.1*bytes.length+k.1)):=hst
       rw[<-hst];refine ai [] id k.2 ⟨by rw[hst];exact hk2,by rw[hst];exact hk3⟩ [0,1,2,3,4,5,6] ?_ ?_ ?_ ?_
       ·exact cZ
       ·exact cZ
       ·exact cZ
       ·exact cZ
      ·intro y hy
       obtain⟨hy1,hy2⟩:=hy;refine bB (eZ e1 q1ok e2 q2ok) fun _ K33=>?_
       iterate 4 refine z2b ?_
       refine MG ?_;refine aJ K33 (dD (K24 _ _ _ (bB (eZ e1 q1ok e2 q2ok) fun _ K34=>?_)))
       iterate 2 refine z2b ?_
       refine aJ K34 ?_
       have hX1:(dL (aC g bytes) bytes.length s0 s.1 k.1).set (0+((k.1:Nat):Int).toNat*1) (((kN (aC g bytes) bytes.length s0 s.1 k.1):Nat):Int)=(dL (aC g bytes) bytes.length s0 s.1 (k.1+1)):=by rw[show 0+((k.1:Nat):Int).toNat*1=k.1 by omega];exact Y2 hk
       refine ai [] id (k.1+1,y) ⟨⟨by show k.1+1<=_;omega,hy1,hy2⟩,by show _ - (k.1+1)< _;omega⟩ [0,1,2,3,4,5,6] ?_ ?_ ?_ ?_
       ·exact cZ
       ·exact cZ
       ·exact cZ
       ·exact cZ
     ·have hnin:((aC g bytes) (dn (aC g bytes) bytes.length s0 s.1) k.1)∉(aR (aC g bytes) bytes.length s0 (s.1*bytes.length+k.1)):=Oy hno
      refine aL ?_
      iterate 5 refine z2b ?_
      refine aJ K30 (qf (α:=Nat) (fun y=>[(1,.c (.ds bytes.length (.ints .i64 (aG bytes)))),(3,.c (.clo f1 c1)),(4,.c (.clo f2 c2)),(5,.c (.int .i64 (most:Nat))),(12,.c (.ptr 0 0)),(14,.c (.ptr 1 0)),(15,.c (.map 2)),(16,.c (.slice 3 0 (aR (aC g bytes) bytes.length s0 (s.1*bytes.length+(k.1+1))).length y)),(17,.c (.int .i64 (s.1:Nat))),(18,.c (.slice 6 0 bytes.length bytes.length)),(42,.c (.ds bytes.length (.ints .i64 (aG bytes)))),(43,.c (.int .i64 (bytes.length:Nat))),(44,.c (.int .i64 (k.1:Nat))),(19,.c (.int .i64 (k.1:Nat))),(22,.c (.int .i64 ((kN (aC g bytes) bytes.length s0 s.1 k.1):Nat)))]) (fun y=>[(0,.own 56 (.cells zl) 259),(1,.own 56 (.cells (au cell bytes.length (.slice 4 0 s.1 s.2.2.1) (.slice 5 0 s.1 s.2.2.2))) 259),(2,.mp 102 (dh jW (aR (aC g bytes) bytes.length s0 (s.1*bytes.length+(k.1+1))))),(3,.own 64 (.cells (iA encS (aR (aC g bytes) bytes.length s0 (s.1*bytes.length+(k.1+1))))) (y*3)),(4,.own 44 (.cells (aS (bP (aC g bytes) bytes.length s0 s.1))) s.2.2.1),(5,.own 4 (.bools (dZ (aC g bytes) bytes.length s0 acc s.1)) s.2.2.2),(6,.own 3 (.ints .i64 (dL (aC g bytes) bytes.length s0 s.1 k.1)) bytes.length)]) 7 (fun y=>(aR (aC g bytes) bytes.length s0 (s.1*bytes.length+(k.1+1))).length<=y/\(aR (aC g bytes) bytes.length s0 (s.1*bytes.length+(k.1+1))).length<=most) ?_ ?_)
      ·refine aO (eZ e1 q1ok e2 q2ok) fun _ K36=>?_
       iterate 2 refine z2b ?_
       refine aJ K36 (bC (b:=_) rfl (fun _=>?_) (fun h_t63=>?_))
       rotate_left 1
       ·exfalso;cases h_t63
       refine aO (eZ e1 q1ok e2 q2ok) fun _ K38=>?_
       iterate 3 refine z2b ?_
       refine aJ K38 (aH fun _ K39=>aO (eZ e1 q1ok e2 q2ok) fun _ K41=>?_)
       iterate 3 refine z2b ?_
       refine aJ K41 (bC (b:=_) rfl (fun h_t68=>?_) (fun h_t68=>?_))
       ·try simp only[dQ,reduceIte]at h_t68
        refine aO (eZ e1 q1ok e2 q2ok) fun _ K43=>z2b ?_;refine MG ?_;refine z2b ?_;refine aJ K43 ?_;obtain⟨hst,hnq⟩:=TA hi hk hnin
        have hbig:Big (aC g bytes) bytes.length s0 most:=⟨s.1,k.1+1,ha2,by omega,by
         show most< (aR (aC g bytes) bytes.length s0 (s.1*bytes.length+(k.1+1))).length
         rw[show(aR (aC g bytes) bytes.length s0 (s.1*bytes.length+(k.1+1)))=_ from hst,List.length_append]
         show most< _+1
         omega⟩
        rw[jf,if_pos hbig];refine bQ (gT (eZ e1 q1ok e2 q2ok) (fun _ _ h=>h) (Vx _) [] [.cell 12 56,.tmp 13] rfl ?_)
        all_goals exact cZ
       ·try simp only[dQ,reduceIte]at h_t68
        refine bK (K39 _ _ _ (aO (eZ e1 q1ok e2 q2ok) fun _ K45=>z2b ?_));refine z79 ?_;refine aU (jW ((aC g bytes) (dn (aC g bytes) bytes.length s0 s.1) k.1)) (SV.as_refl _) (z2b ?_);refine jl ?_;refine aI (T9 (hin.iok _ (hin.ig _ _ hIs hbk))) (And.intro (y1h fun a ha=>hin.iok _ (hII k.1 (Nat.le_of_lt hk) a ha)) (And.intro (fun jj u hj=>absurd (BH (Lh _) hj).2 hnin) (fun hno2=>?_)));refine aL (aJ K45 (bB (eZ e1 q1ok e2 q2ok) fun _ K46=>z2b ?_));refine z79 ?_;refine aU (jW ((aC g bytes) (dn (aC g bytes) bytes.length s0 s.1) k.1)) (SV.as_refl _) (z2b ?_);refine z79 ?_;intro cap3 hcap3;refine aL (z2b ?_);refine aJ K46 ?_;obtain⟨hst,hnq⟩:=TA hi hk hnin
        have hst:(aR (aC g bytes) bytes.length s0 (s.1*bytes.length+(k.1+1)))=(aR (aC g bytes) bytes.length s0 (s.1*bytes.length+k.1))++[((aC g bytes) (dn (aC g bytes) bytes.length s0 s.1) k.1)]:=hst
        have hL0:(aR (aC g bytes) bytes.length s0 (s.1*bytes.length+k.1)).length+1=(aR (aC g bytes) bytes.length s0 (s.1*bytes.length+(k.1+1))).length:=by rw[hst,List.length_append];rfl
        rw[<-hnq]
        have hX4:dh jW (aR (aC g bytes) bytes.length s0 (s.1*bytes.length+k.1))++[(jW ((aC g bytes) (dn (aC g bytes) bytes.length s0 s.1) k.1),.c (.int .i64 (((kN (aC g bytes) bytes.length s0 s.1 k.1):Nat):Int)))]=dh jW (aR (aC g bytes) bytes.length s0 (s.1*bytes.length+(k.1+1))):=by rw[hst,hnq, <-Sd]
        have hXS:iA encS (aR (aC g bytes) bytes.length s0 (s.1*bytes.length+k.1))++encS ((aC g bytes) (dn (aC g bytes) bytes.length s0 s.1) k.1)=iA encS (aR (aC g bytes) bytes.length s0 (s.1*bytes.length+(k.1+1))):=by rw[hst,X9]
        refine ai [] (fun i=>if i=3 then 9 else i) cap3 ⟨by omega,by omega⟩ [0,1,2,9,4,5,6] cZ cZ cZ cZ
      ·intro y hy
       obtain⟨hy1,hy2⟩:=hy;refine bB (eZ e1 q1ok e2 q2ok) fun _ K47=>?_
       iterate 4 refine z2b ?_
       refine MG ?_;refine aJ K47 (dD (K24 _ _ _ (bB (eZ e1 q1ok e2 q2ok) fun _ K48=>?_)))
       iterate 2 refine z2b ?_
       refine aJ K48 ?_
       have hX1:(dL (aC g bytes) bytes.length s0 s.1 k.1).set (0+((k.1:Nat):Int).toNat*1) (((kN (aC g bytes) bytes.length s0 s.1 k.1):Nat):Int)=(dL (aC g bytes) bytes.length s0 s.1 (k.1+1)):=by rw[show 0+((k.1:Nat):Int).toNat*1=k.1 by omega];exact Y2 hk
       refine ai [] id (k.1+1,y) ⟨⟨by show k.1+1<=_;omega,hy1,hy2⟩,by show _ - (k.1+1)< _;omega⟩ [0,1,2,3,4,5,6] ?_ ?_ ?_ ?_
       ·exact cZ
       ·exact cZ
       ·exact cZ
       ·exact cZ
    ·try simp only[dQ,reduceIte]at h_t45
     refine eY (bJ (bJ (eX (K18 _ _ _ ?_))))
     have hke:k.1=bytes.length:=by omega
     have hpe:s.1*bytes.length+k.1=(s.1+1)*bytes.length:=by rw[hke,Nat.succ_mul]
     rw[hpe];rw[hpe]at hk2 hk3;rw[hke];refine fQ [6] id [(1,.c (.ds bytes.length (.ints .i64 (aG bytes)))),(3,.c (.clo f1 c1)),(4,.c (.clo f2 c2)),(5,.c (.int .i64 (most:Nat))),(12,.c (.ptr 0 0)),(14,.c (.ptr 1 0)),(15,.c (.map 2)),(16,.c (.slice 3 0 (aR (aC g bytes) bytes.length s0 ((s.1+1)*bytes.length)).length k.2)),(17,.c (.int .i64 (s.1:Nat))),(18,.c (.ds bytes.length (.ints .i64 (dL (aC g bytes) bytes.length s0 s.1 bytes.length))))] [(0,.own 56 (.cells zl) 259),(1,.own 56 (.cells (au cell bytes.length (.slice 4 0 s.1 s.2.2.1) (.slice 5 0 s.1 s.2.2.2))) 259),(2,.mp 102 (dh jW (aR (aC g bytes) bytes.length s0 ((s.1+1)*bytes.length)))),(3,.own 64 (.cells (iA encS (aR (aC g bytes) bytes.length s0 ((s.1+1)*bytes.length)))) (k.2*3)),(4,.own 44 (.cells (aS (bP (aC g bytes) bytes.length s0 s.1))) s.2.2.1),(5,.own 4 (.bools (dZ (aC g bytes) bytes.length s0 acc s.1)) s.2.2.2)] 6 [0,1,2,3,4,5] cZ cZ cZ cZ (aO (eZ e1 q1ok e2 q2ok) fun _ K50=>z2b ?_);refine z79 ?_;refine aU (.c (.slice 4 0 s.1 s.2.2.1)) (ak (Ih hcl)) ?_
     iterate 2 refine z2b ?_
     refine z79 ?_;intro cap4 hcap4;refine aL (z2b ?_);refine MG ?_;refine aJ K50 ?_
     revert cap4 hcap4
     intro capA hcapA
     have hil2:s.1< (aR (aC g bytes) bytes.length s0 ((s.1+1)*bytes.length)).length:=Nat.lt_of_lt_of_le hi (pR (Nat.mul_le_mul_right _ (Nat.le_succ _)))
     have hge2:=uY (f:=(aC g bytes)) (b0:=s0) (p:=(s.1+1)*bytes.length) hi (Nat.mul_le_mul_right _ (Nat.le_succ _))
     refine ry (eZ e1 q1ok e2 q2ok) [(0,true),(1,true),(2,true),(3,true),(4,true),(5,true),(6,true),(7,false),(8,false),(9,false),(10,true),(11,false)] rfl aN aN fun _ K51=>Vz ?_;refine y1q ?_;refine aU (.c (.slice 5 0 s.1 s.2.2.2)) (ak (show(aB.cells _).get (0+258)=_ by first|exact BR hcl|(rw[Xn hcl rfl];exact BR hcl))) ?_
     iterate 4 refine Vz ?_
     refine y1q ?_;refine aU (jW (dn (aC g bytes) bytes.length s0 s.1)) (YR o5 (fun _ _=>trivial) (by omega) rfl hge2) (gX ?_);refine zxr (xs:=[jW (dn (aC g bytes) bytes.length s0 s.1)]) (xK hne) (KD _) hin.d2 ⟨_,hin.h2 _ hIs,?_⟩
     first|refine aL ?_|(intro cap7 hcap7;refine aL ?_)
     refine KQ ?_;refine Dl ?_;intro cap9 hcap9;refine aL (Vz ?_);refine Dh ?_;refine iF K51 (dD (K15 _ _ _ (bB (eZ e1 q1ok e2 q2ok) fun _ K52=>?_)))
     iterate 3 refine z2b ?_
     refine aJ K52 ?_
     have hlen2:=pR (f:=(aC g bytes)) (nc:=bytes.length) (b0:=s0) (p:=s.1*bytes.length) (q:=(s.1+1)*bytes.length) (Nat.mul_le_mul_right _ (by omega))
     have hah:∀ j,j< s.1+1->j< (aR (aC g bytes) bytes.length s0 (j*bytes.length)).length:=fun j hj=>ha2 j (by omega)
     have hX3:(dZ (aC g bytes) bytes.length s0 acc s.1)++([]++[acc (dn (aC g bytes) bytes.length s0 s.1)])=(dZ (aC g bytes) bytes.length s0 acc (s.1+1)):=S9 acc s.1
     have hXR:aS (bP (aC g bytes) bytes.length s0 s.1)++([]++[.ds bytes.length (.ints .i64 (dL (aC g bytes) bytes.length s0 s.1 bytes.length))])=aS (bP (aC g bytes) bytes.length s0 (s.1+1)):=by
      have:=Gg (bP (aC g bytes) bytes.length s0 s.1) (dL (aC g bytes) bytes.length s0 s.1 bytes.length)
      rw[Lc,XL]at this;exact this
     refine ai [] (fun i=>if i=4 then 7 else if i=5 then 9 else i) (s.1+1,k.2,capA,cap9) ⟨⟨by show s.1+1<=_;omega,hah,(by show s.1+1<=(aR (aC g bytes) bytes.length s0 ((s.1+1)*bytes.length)).length;omega),hk2,hk3,(by show s.1+1<=capA;omega),(by show s.1+1<=cap9;omega)⟩,by show _ - (s.1+1)< _;omega⟩ [0,1,2,3,7,9] ?_ ?_ ?_ ?_
     ·exact cZ
     ·exact cZ
     ·exact cZ
     ·exact cZ
  ·try simp only[dQ,reduceIte]at h_t36
   refine eY (bJ (bJ (eX (K9 _ _ _ ?_))))
   have hfu:=TZ (f:=(aC g bytes)) (b0:=s0) ha (by omega)
   refine fQ [4,5] id [(1,.c (.ds bytes.length (.ints .i64 (aG bytes)))),(3,.c (.clo f1 c1)),(4,.c (.clo f2 c2)),(5,.c (.int .i64 (most:Nat))),(12,.c (.ptr 0 0)),(14,.c (.ptr 1 0))] [(0,.own 56 (.cells zl) 259),(1,.own 56 (.cells (au cell bytes.length (.ds s.1 (.cells (aS (bP (aC g bytes) bytes.length s0 s.1)))) (.ds s.1 (.bools (dZ (aC g bytes) bytes.length s0 acc s.1))))) 259)] 2 [0,1] cZ cZ cZ cZ (aO (eZ e1 q1ok e2 q2ok) fun _ K54=>z2b ?_);refine MG ?_;refine z2b ?_;refine aJ K54 ?_;rw[jf,if_neg (Y3 hfu hs1),Nl hfu]
   have hq1:s.1=(iw (aC g bytes) acc cell bytes.length s0 s.1).next.length:=(vY (f:=aC g bytes) (nc:=bytes.length) (b0:=s0) s.1).symm
   have hq2:s.1=(iw (aC g bytes) acc cell bytes.length s0 s.1).acc.length:=(Im (f:=aC g bytes) (nc:=bytes.length) (b0:=s0) acc s.1).symm
   refine bQ (gT (eZ e1 q1ok e2 q2ok) (fun _ _ h=>h) (Vx _) [] [.cell 12 56,.tmp 13] rfl ?_)
   repeat first|refine aI (by first|exact trivial|rfl|omega|exact Bj trivial trivial|exact Ta hcl|(show 0+259<=(au _ _ _ _).length;rw[dJ hcl];decide)|(show 0< (au _ _ _ _).length;rw[dJ hcl];decide)) ?_|refine dC (zjp hcl) ?_|refine bW (dJ hcl) ?_
   repeat' (first|assumption|exact Bz|exact Vy|exact ve C5 _ _|exact qY C5 _|exact Sm o5|exact Bp trivial (by show _< _;omega)|exact Bp (by show _< _;omega) (by show _< _;omega)|exact uy hin.d1|exact uy hin.d2|exact Gl hin.d1|exact Gl hin.d2|exact pT|exact trivial|refine aI ?_ ?_|exact iM|refine low_cons' ?_ ?_|exact iN|fail)
   all_goals first|omega|exact hL0|exact(vY (f:=aC g bytes) (nc:=bytes.length) (b0:=s0) s.1).symm|exact(Im (f:=aC g bytes) (nc:=bytes.length) (b0:=s0) acc s.1).symm|exact Iy|(intro x hx;rw[List.nil_append]at hx;rw[List.mem_singleton.1 hx];exact⟨rfl,rfl⟩)|exact JG|exact ve C5 _ _|exact qY C5 _|(rw[hX4];exact qY C5 _)|(show(_:List Int)=_;first|assumption|rfl)|(show(_:List Bool)=_;first|assumption|rfl)|(show(_:List (SV×SV))=_;first|assumption|rfl)|exact Gl hin.d1|exact Gl hin.d2|exact uy hin.d1|exact uy hin.d2|exact Sn (Iq o5 _) (by first|rfl|assumption|exact hXS)|(show bR _ _ _;first|(rw[hXR];exact nI _)|(rw[hXR];trivial)|exact nI _)|(show bR _ _ _;first|(rw[Xn hcl rfl,zqk hcl rfl];refine sj ?_ ?_<;>(repeat' (first|exact trivial|refine aI ?_ ?_|rfl|omega|decide|exact z31 _|(simp;done)|rw[if_pos ⟨rfl,by simp⟩])))|(refine sj ?_ ?_<;>(repeat' (first|exact trivial|refine aI ?_ ?_|rfl|omega|decide|exact z31 _|(simp;done)|rw[if_pos ⟨rfl,by simp⟩]))))|(show(0:Nat)< (au _ _ _ _).length;rw[dJ hcl];decide)|(simp[-List.reduceReplicate];done)|(simp[-List.reduceReplicate]<;>omega)|skip
   all_goals first|exact hq1|exact hq2

end Go.Proofs.YtpdljmohhpbkpaaDoor
