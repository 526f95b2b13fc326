/- Contracts of functions and plain facts, part 8. -/
import Derived.Test.YtpdljmohhpbkpaaDoorNg
set_option linter.all false
set_option maxHeartbeats 2000000
set_option maxRecDepth 4000
namespace Go.Proofs.YtpdljmohhpbkpaaDoor
open Go.Ab Go.RowKit

section
variable {a b:Prop}
theorem FN(h:a:=by first|exact gG|(simp[-List.reduceReplicate]<;>omega)|exact vV|exact⟨by omega,by omega,trivial⟩|exact⟨by omega,by omega,trivial,trivial⟩|(show _< (lL _ _).length;rw[ze6];omega)|(show _< (bM _ _ _).length;rw[z37];omega)|(show _< (lZ _ _ _ _ _).length;rw[zsn];omega)|exact gH):a:=h
theorem bT(h:a:=by
    repeat' (first|assumption|exact⟨rfl,rfl⟩|(show(_:List Int)=_;assumption)|exact pT|exact trivial|refine aI ?_ ?_|exact iM|refine low_cons' ?_ ?_|exact iN|fail)
    all_goals first|omega|exact hL0|exact hL1|exact hL2|(show(_:List Int)=_;first|assumption|exact hZ0|rfl)|(show(_:List Bool)=_;first|assumption|rfl)|(show bR _ _ _;first|(rw[hXR];exact nI _)|(rw[hXR];trivial)|exact nI _)|(show(0:Nat)< (au _ _ _ _).length;rw[dJ hcl];decide)|(simp[-List.reduceReplicate];done)|(simp[-List.reduceReplicate]<;>omega)|skip):a:=h
theorem lN(kZ:b)(h:aK b->a:=by intro kZ;(repeat first|refine aI FN ?_|refine bW FN ?_|refine dC FN ?_|refine fT FN ?_|refine fA ?_);exact kZ.out):a:=h ⟨kZ⟩
theorem z27(kZ:b)(h:aK b->a:=by intro kZ;refine sX ?_;refine lN ?_;refine aL ?_;exact kZ.out):a:=h ⟨kZ⟩
theorem UI(kZ:b)(h:aK b->a:=by intro kZ;refine dX ?_;refine lN ?_;refine aL ?_;exact kZ.out):a:=h ⟨kZ⟩
theorem MH(kZ:b)(h:aK b->a:=by intro kZ;refine jl ?_;refine lN ?_;refine aL ?_;exact kZ.out):a:=h ⟨kZ⟩
theorem KP(kZ:b)(h:aK b->a:=by intro kZ;refine gX ?_;refine lN ?_;refine aL ?_;exact kZ.out):a:=h ⟨kZ⟩
theorem Df(kZ:b)(h:aK b->a:=by intro kZ;refine pu ?_;refine lN ?_;refine aL ?_;exact kZ.out):a:=h ⟨kZ⟩
theorem Td(kZ:b)(h:aK b->a:=by intro kZ;refine dX ?_;refine lN ?_;exact kZ.out):a:=h ⟨kZ⟩
theorem ZO(kZ:b)(h:aK b->a:=by intro kZ;refine gX ?_;refine lN ?_;exact kZ.out):a:=h ⟨kZ⟩
theorem tC(kZ:b)(h:aK b->a:=by intro kZ;refine sX ?_;refine lN ?_;exact kZ.out):a:=h ⟨kZ⟩
end
open Go.Aut
theorem CO{t:iG}:0∈ny t:=Sq
theorem XQ{ty:Nat->Ty}{H:Heap}:∀ {l:List Cell} (_:∀ x∈l,x.pureB=true) {K:List Cell->Prop} (_:K l),l6 ty H l K
  |[],_,_,h=>h
  | x::l,hl,K,h=>by
    have h2:l6 ty H l fun l'=>K (x::l'):=XQ (fun y hy=>hl y (List.mem_cons_of_mem _ hy)) h
    have hx:=hl x List.mem_cons_self
    show mY ty H x _
    cases x<;>first|exact h2|(simp[Cell.pureB]at hx;done)
theorem Xo{cell:List Int}{nc:Nat}{x y z:Cell}(h:z∈au cell nc x y):(∃ v,z= .int .i64 v)\/z=x\/z=y:=by
  rcases List.mem_append.1 h with h|h
  · obtain⟨v,_,rfl⟩:=List.mem_map.1 h;exact .inl ⟨v,rfl⟩
  · rcases List.mem_cons.1 h with rfl|h
    · exact .inl ⟨_,rfl⟩
    · rcases List.mem_cons.1 h with rfl|h
      · exact .inr (.inl rfl)
      · exact .inr (.inr (List.mem_singleton.1 h))
theorem lu(t:Tab):∀ x∈au t.cell t.nc (.ds t.next.length (.cells (aS t.next))) (.ds t.acc.length (.bools t.acc)),∀ g cs,x≠Cell.clo g cs:=fun x hx g cs=>by
  rcases Xo hx with⟨v,rfl⟩|rfl|rfl<;>intro e<;>cases e
theorem lz{ty:Nat->Ty}{H:Heap}(t:Tab){K:List Cell->Prop}(h:K (au t.cell t.nc (.ds t.next.length (.cells (aS t.next))) (.ds t.acc.length (.bools t.acc)))):l6 ty H (au t.cell t.nc (.ds t.next.length (.cells (aS t.next))) (.ds t.acc.length (.bools t.acc))) K:=
  XQ (fun x hx=>by rcases Xo hx with⟨v,rfl⟩|rfl|rfl<;>rfl) h
theorem Y7:∀ {l:List Cell},(∀ x∈l,(∃ v,x= .int .i64 v)\/∃ n c,x= .ds n c)->SV.ids (.agg (.cells l))=[]
  |[],_=>rfl
  | x::l,h=>by
    have h2:=Y7 fun y hy=>h y (List.mem_cons_of_mem _ hy)
    rcases h x List.mem_cons_self with⟨v,rfl⟩|⟨n,c,rfl⟩<;>exact h2
theorem pW(t:Tab)(l:List SV):List.flatMap SV.ids (bu t::l)=List.flatMap SV.ids l:=by
  rw[List.flatMap_cons,Y7 fun x hx=>by rcases Xo hx with⟨v,rfl⟩|rfl|rfl;exact .inl ⟨v,rfl⟩;exact .inr ⟨_,_,rfl⟩;exact .inr ⟨_,_,rfl⟩];rfl
abbrev bF(t:Tab)(bl reps:List Nat):Nat->Nat->Nat:=bf (aD t) (aM bl) (eD reps) (eD (mC t bl reps 256))
def ik(t:Tab)(bl reps:List Nat)(n:Nat):List Bool:=(List.range n).map fun s=>t.acc.getD (eD reps ((aP (bF t bl reps) (mC t bl reps 256).length (aM bl 0) (s*(mC t bl reps 256).length)).getD s 0)) false
@[simp] theorem Hy(t:Tab)(bl reps:List Nat)(n:Nat):(ik t bl reps n).length=n:=by simp[ik]
theorem zqm(t:Tab)(bl reps:List Nat)(n:Nat):ik t bl reps n++[t.acc.getD (eD reps ((aP (bF t bl reps) (mC t bl reps 256).length (aM bl 0) (n*(mC t bl reps 256).length)).getD n 0)) false]=ik t bl reps (n+1):=by simp[ik,List.range_succ]
theorem WA(t:Tab)(bl reps:List Nat):0< (mC t bl reps 256).length:=by
  rw[z59];exact List.length_pos_of_mem (TY.2 ⟨0,by decide,rfl⟩)
theorem WC{t:Tab}(h:t.ok)(bl reps:List Nat){j:Nat}(hj:j< (mC t bl reps 256).length):eD (mC t bl reps 256) j< t.nc:=by
  rw[z59, <-QX]at hj;exact(y0a (fun b hb=>(av h hb).1) hj).1
theorem y1w{t:Tab}(h:t.fit){bl reps:List Nat}{cw:List UInt64}{n:Nat}(hb:kg (aD t) (ny (aD t)) bl reps t.next.length)(hc:Cw (aD t) (aM bl) (eD reps) reps.length cw (l9 (aD t) (aM bl) (eD reps) reps.length) 256)
    (hn:kW (bF t bl reps) (mC t bl reps 256).length (aM bl 0) n):
    af ((aD t).lang 0)={ cls:=cw,nc:=(mC t bl reps 256).length,next:=dO (bF t bl reps) (mC t bl reps 256).length (aM bl 0) n,acc:=ik t bl reps n }:=by
  have hl:(mC t bl reps 256).length=l9 (aD t) (aM bl) (eD reps) reps.length:=by rw[z59, <-QX]
  have hcl:=(Rc h.1).1
  have hcell:∀ b,b< 256->(aD t).cell b< (aD t).nc:=fun b hb=>(av h.1 hb).1
  have hred:=AB (t:=aD t) (rep:=eD (mC t bl reps 256)) hcl hcell h.1.byte hb.blk hb.rep hb.stable hb.snd fun j hj=>y0a hcell hj
  rw[hl]at hn ⊢
  have hlaid:=EH (d:={ cls:=cw,nc:=l9 (aD t) (aM bl) (eD reps) reps.length,next:=dO (bF t bl reps) (l9 (aD t) (aM bl) (eD reps) reps.length) (aM bl 0) n,acc:=ik t bl reps n }) hcell hc hn (by rw[ik,hl];rfl)
  obtain⟨h1,h2⟩:=zli hred hn hlaid;exact P7 h1 h2
theorem xD{t:Tab}(h:t.ok){bl reps l:List Nat}(hb:kg (aD t) l bl reps t.next.length)(hcl:∀ s c,s∈l->c< t.nc->(aD t).δ s c∈l){x j:Nat}(hx:x< reps.length)(hj:j< (mC t bl reps 256).length):bF t bl reps x j< reps.length:=
  hb.blk _ (hcl _ _ (hb.rep x hx).1 (WC h bl reps hj))
theorem ZP{t:Tab}(h:t.ok){bl reps l:List Nat}(hb:kg (aD t) l bl reps t.next.length)(hcl:∀ s c,s∈l->c< t.nc->(aD t).δ s c∈l)(h0:0∈l)(p:Nat):∀ x∈aP (bF t bl reps) (mC t bl reps 256).length (aM bl 0) p,x< reps.length:=
  QA (WA t bl reps) (hb.blk 0 h0) (fun x j hx hj=>xD h hb hcl hx hj) p
theorem NU{t:Tab}(h:t.ok){bl reps l:List Nat}(hb:kg (aD t) l bl reps t.next.length)(hcl:∀ s c,s∈l->c< t.nc->(aD t).δ s c∈l)(h0:0∈l)(p:Nat):(aP (bF t bl reps) (mC t bl reps 256).length (aM bl 0) p).length<=reps.length:=ND (Lg p) (ZP h hb hcl h0 p)
theorem y1x{f:Nat->Nat->Nat}{nc b0 s c:Nat}(hi:s< (aP f nc b0 (s*nc)).length)(hc:c< nc):nk f nc b0 s c=fF (aP f nc b0 (s*nc+(c+1))) (f ((aP f nc b0 (s*nc)).getD s 0) c):=by
  have hat:=QY (f:=f) (b0:=b0) hi (Nat.le_add_right (s*nc) c)
  obtain⟨h1,h2⟩:=Xc (s:=s) (nc:=nc) (by omega) hc;rw[nk,tgt,h1,h2,hat];rfl
theorem NV(d:Dfa):SV.low 0 (df d):=low_cons' trivial (low_cons' trivial (low_cons' trivial low_nil'))
attribute [local irreducible] eG z12 zl au gz cr bM rf mG lL lZ dO rowP ik ny
noncomputable def U2:Ctx:={ P:=Tryd.prog,ty:=ty,glob:=gl,fs:=[(64,.data zvl),(63,.data y1n),(65,.gen (O8 ty zQ))] }
theorem mI:U2.OK:=⟨dS,⟨⟨bX Tryd.func64 aN rfl,zy7⟩,⟨bX Tryd.func63 aN rfl,y1o⟩,⟨bX Tryd.func65 aN rfl,(Dq zR)⟩,trivial⟩,mixed⟩
@[simp] theorem U3:U2.ty=ty:=rfl

def PY:aW:=fun vs K=>∃ t:Tab,vs=[bu t]/\t.fit/\K (df (af ((aD t).lang 0)))
theorem Re:jr Tryd.prog gl 33 PY:=by
 refine kJ (Γ:=U2) (N:=127) Tryd.func33 rfl rfl fun vs K h=>?_;obtain⟨t,rfl,ht,h⟩:=h;refine⟨_,h,NV _,by simp,fun w I=>?_⟩
 have ht0:=ht
 obtain⟨hok,hlen,hnc⟩:=ht0
 have hcl:=hok.clen
 refine aO mI fun _ K2=>?_
 iterate 2 refine z27 ?_
 refine aJ K2 ?_
 have hlr:=zjk ht
 refine fQ [0] (fun _=>1) [(1,.c (.dp (dP t) 0)),(2,.c (.ptr 0 0))] [(0,.own 30 (.cells [.nils,.nils,.nils]) 3)] 1 [1] bT bT bT bT (vR mI [(0,true),(1,true),(2,false),(3,false),(4,true),(5,true),(6,true),(7,true),(8,true)] rfl aN aN fun _ K4=>Td ?_);refine aU (bu t) (SV.as_refl _) (Td ?_);refine aU (bu t) (SV.as_refl _) (ZO ?_);refine aI (lu _) (lz _ ⟨t,rfl,ht,lN ?_⟩)
 first|refine aL ?_|(intro cap2 hcap2;refine aL ?_)
 refine ZO ?_;refine aI (lu _) (lz _ ⟨t,ny (aD t),rfl,ht,hlr,lN ?_⟩)
 first|refine aL ?_|(intro cap3 hcap3;refine aL ?_)
 iterate 5 refine UI ?_
 refine iF K4 ?_
 simp only[pW]
 have hout:=y1c ht hlr
 obtain⟨bl,hbl⟩:∃ bl,bl=mD t (ny (aD t)):=⟨_,rfl⟩;obtain⟨reps,hreps⟩:∃ reps,reps=oQ t (ny (aD t)):=⟨_,rfl⟩;rw[<-hbl, <-hreps]at hout;rw[<-hbl, <-hreps];refine aO mI fun _ K6=>tC ?_;refine aU (bu t) (SV.as_refl _) ?_
 iterate 2 refine z27 ?_
 refine tC ?_;refine aI (lu _) (lz _ ⟨t,bl,reps,ny (aD t),rfl,ht,hout,hlr.lt,fun cw hcw=>?_⟩);refine lN ?_
 first|refine aL ?_|(intro cap3 hcap3;refine aL ?_)
 iterate 5 refine z27 ?_
 refine aJ K6 ?_
 simp only[pW]
 have hrn:=hout.rep
 have hbll:=hout.len
 have hnp:=hok.npos
 have hb0:=hout.blk 0 CO
 have hrl:reps.length<=65535:=Nat.le_trans (Ry hout hlr.lt) hlen
 have hmp:=WA t bl reps
 have hml:=zL t bl reps 256
 refine fQ [] id [(1,.c (.dp (dP t) 0)),(2,.c (.ptr 0 0)),(3,.c (.ds bl.length (.ints .i64 (aG bl)))),(4,.c (.ds reps.length (.ints .i64 (aG reps)))),(5,.c (.ds (mC t bl reps 256).length (.ints .i64 (aG (mC t bl reps 256))))),(6,.c (.ds (mC t bl reps 256).length (.u64s cw)))] [(0,.own 30 (.cells [.nils,.nils,.nils]) 3)] 1 [0] bT bT bT bT (aO mI fun _ K8=>?_)
 iterate 3 refine z27 ?_
 refine MH ?_;refine aJ K8 (aO mI fun _ K10=>?_)
 iterate 4 refine z27 ?_
 refine aJ K10 ?_
 have hZ0:List.replicate reps.length (0:Int)=bM reps.length (-1) 0:=(Mk _ _).symm
 refine fQ [] id [(1,.c (.dp (dP t) 0)),(2,.c (.ptr 0 0)),(3,.c (.ds bl.length (.ints .i64 (aG bl)))),(4,.c (.ds reps.length (.ints .i64 (aG reps)))),(5,.c (.ds (mC t bl reps 256).length (.ints .i64 (aG (mC t bl reps 256))))),(7,.c (.ptr 1 0)),(8,.c (.slice 2 0 reps.length reps.length))] [(0,.own 30 (.cells [.nils,.nils,.nils]) 3),(1,.own 30 (.cells [.ds (mC t bl reps 256).length (.u64s cw),.nils,.nils]) 3),(2,.own 3 (.ints .i64 (bM reps.length (-1) 0)) reps.length)] 3 [0,1,2] bT bT bT bT (aO mI fun _ K12=>?_)
 iterate 2 refine z27 ?_
 refine tC ?_;refine aU (.c (.int .i64 ((((aM bl 0):Nat):Int)))) (az ((congrArg (fun i=>(aG bl).getD i 0) (by omega)).trans jd)) ?_
 iterate 2 refine z27 ?_
 refine aJ K12 (aH fun _ K13=>aO mI fun _ K15=>?_)
 iterate 3 refine z27 ?_
 refine aJ K15 (bO (fM (α:=Nat) (fun k=>[(1,.c (.dp (dP t) 0)),(2,.c (.ptr 0 0)),(3,.c (.ds bl.length (.ints .i64 (aG bl)))),(4,.c (.ds reps.length (.ints .i64 (aG reps)))),(5,.c (.ds (mC t bl reps 256).length (.ints .i64 (aG (mC t bl reps 256))))),(7,.c (.ptr 1 0)),(8,.c (.slice 2 0 reps.length reps.length)),(9,.c (.slice 3 0 1 1)),(41,.c (.int .i64 (reps.length:Nat))),(42,.c (.int .i64 (k:Nat)))]) (fun k=>[(0,.own 30 (.cells [.nils,.nils,.nils]) 3),(1,.own 30 (.cells [.ds (mC t bl reps 256).length (.u64s cw),.nils,.nils]) 3),(2,.own 3 (.ints .i64 (bM reps.length (-1) k)) reps.length),(3,.own 3 (.ints .i64 (aG [(aM bl 0)])) 1)]) 4 (fun k=>k<=reps.length) (fun k=>reps.length - k) ?_ ?_))
 ·refine ai [] id 0 (Nat.zero_le _) [0,1,2,3] bT bT bT bT
 ·intro k hk;refine aO mI fun _ K17=>z27 ?_;refine aJ K17 (aH fun _ K18=>bC (b:=_) rfl (fun h_t43=>?_) (fun h_t43=>?_))
  ·try simp only[dQ,reduceIte]at h_t43
   refine bK (K18 _ _ _ (aH fun _ K19=>bO (aO mI fun _ K21=>?_)))
   iterate 2 refine z27 ?_
   refine aJ K21 ?_
   have hkl:k< reps.length:=by omega
   refine bB mI fun _ K22=>?_
   iterate 3 refine z27 ?_
   refine MH ?_;refine aJ K22 (dD (K19 _ _ _ (bB mI fun _ K23=>?_)))
   iterate 2 refine z27 ?_
   refine aJ K23 ?_
   have hX1:(bM reps.length (-1) k).set (0+((k:Nat):Int).toNat*1) (-1)=bM reps.length (-1) (k+1):=by rw[show 0+((k:Nat):Int).toNat*1=k by omega];exact Mv _ hkl
   refine ai [] id (k+1) ⟨by omega,by omega⟩ [0,1,2,3] bT bT bT bT
  ·try simp only[dQ,reduceIte]at h_t43
   refine eY (bJ (bJ (eX (K13 _ _ _ ?_))))
   obtain rfl:k=reps.length:=by omega
   refine aO mI fun _ K25=>?_
   iterate 3 refine z27 ?_
   refine tC ?_;refine aU (.c (.int .i64 ((((aM bl 0):Nat):Int)))) (az ((congrArg (fun i=>(aG bl).getD i 0) (by omega)).trans jd)) (z27 ?_);refine MH ?_;refine aJ K25 (aH fun _ K26=>aO mI fun _ K28=>z27 ?_);refine aJ K28 (bO (z30 1 1 44 (.cells []) rfl rfl rfl low_nil' (z30 1 2 4 (.bools []) rfl rfl rfl trivial (fM (α:=Nat×Nat×Nat×Nat) (fun g=>[(1,.c (.dp (dP t) 0)),(2,.c (.ptr 0 0)),(3,.c (.ds bl.length (.ints .i64 (aG bl)))),(4,.c (.ds reps.length (.ints .i64 (aG reps)))),(5,.c (.ds (mC t bl reps 256).length (.ints .i64 (aG (mC t bl reps 256))))),(7,.c (.ptr 1 0)),(8,.c (.slice 2 0 reps.length reps.length)),(9,.c (.slice 3 0 (aP (bF t bl reps) (mC t bl reps 256).length (aM bl 0) (g.1*(mC t bl reps 256).length)).length g.2.1)),(11,.c (.int .i64 (g.1:Nat)))]) (fun g=>[(0,.own 30 (.cells [.nils,.nils,.nils]) 3),(1,.own 30 (.cells [.ds (mC t bl reps 256).length (.u64s cw),.slice 4 0 g.1 g.2.2.1,.slice 5 0 g.1 g.2.2.2]) 3),(2,.own 3 (.ints .i64 (lL (aP (bF t bl reps) (mC t bl reps 256).length (aM bl 0) (g.1*(mC t bl reps 256).length)) reps.length)) reps.length),(3,.own 3 (.ints .i64 (aG (aP (bF t bl reps) (mC t bl reps 256).length (aM bl 0) (g.1*(mC t bl reps 256).length)))) g.2.1),(4,.own 44 (.cells (aS (dO (bF t bl reps) (mC t bl reps 256).length (aM bl 0) g.1))) g.2.2.1),(5,.own 4 (.bools (ik t bl reps g.1)) g.2.2.2)]) 6 (fun g=>g.1<=reps.length/\(∀ j,j< g.1->j< (aP (bF t bl reps) (mC t bl reps 256).length (aM bl 0) (j*(mC t bl reps 256).length)).length)/\g.1<=(aP (bF t bl reps) (mC t bl reps 256).length (aM bl 0) (g.1*(mC t bl reps 256).length)).length/\(aP (bF t bl reps) (mC t bl reps 256).length (aM bl 0) (g.1*(mC t bl reps 256).length)).length<=g.2.1/\g.1<=g.2.2.1/\g.1<=g.2.2.2) (fun g=>reps.length - g.1) ?_ ?_))))
   ·have hz:(aP (bF t bl reps) (mC t bl reps 256).length (aM bl 0) (0*(mC t bl reps 256).length))=[(aM bl 0)]:=by rw[Nat.zero_mul];rfl
    have hX1:(bM reps.length (-1) reps.length).set (0+(((aM bl 0):Nat):Int).toNat*1) 0=lL (aP (bF t bl reps) (mC t bl reps 256).length (aM bl 0) (0*(mC t bl reps 256).length)) reps.length:=by
     rw[hz,Se, <-zll,show 0+(((aM bl 0):Nat):Int).toNat*1=(aM bl 0) by omega];exact Rx (o:=[]) (by simp)
    have hX2:aG [(aM bl 0)]=aG (aP (bF t bl reps) (mC t bl reps 256).length (aM bl 0) (0*(mC t bl reps 256).length)):=by rw[hz]
    have hL0:1=(aP (bF t bl reps) (mC t bl reps 256).length (aM bl 0) (0*(mC t bl reps 256).length)).length:=by rw[hz];rfl
    have hX3:([]:List Bool)=ik t bl reps 0:=by unfold ik;rfl
    have hXR:aS (dO (bF t bl reps) (mC t bl reps 256).length (aM bl 0) 0)=[]:=by unfold dO;rfl
    refine ai [] id (0,1,0,0) ⟨Nat.zero_le _,fun j hj=>absurd hj (Nat.not_lt_zero j),Nat.zero_le _,by rw[hz];exact Nat.le_refl _,Nat.le_refl _,Nat.le_refl _⟩ [0,1,2,3,4,5] ?_ ?_ ?_ ?_
    ·exact bT
    ·exact bT
    ·exact bT
    ·exact bT
   ·intro g hg
    obtain⟨hg1,hga,hg3,hg4,hg5,hg6⟩:=hg
    have hg:=And.intro hg1 (And.intro hga hg3)
    refine aH fun _ K29=>aO mI fun _ K31=>?_
    iterate 4 refine z27 ?_
    refine aJ K31 (bC (b:=_) rfl (fun h_t57=>?_) (fun h_t57=>?_))
    ·try simp only[dQ,reduceIte]at h_t57
     refine bK (K29 _ _ _ (aH fun _ K32=>bO ?_))
     have hi:g.1< (aP (bF t bl reps) (mC t bl reps 256).length (aM bl 0) (g.1*(mC t bl reps 256).length)).length:=by omega
     have hxl:=ZP hok hout hlr.cl CO _ _ (getD_mem' hi)
     have hole:=NU hok hout hlr.cl CO (g.1*(mC t bl reps 256).length)
     have hsl:=hlr.lt _ (hout.rep _ hxl).1
     have hsl:(eD reps ((aP (bF t bl reps) (mC t bl reps 256).length (aM bl 0) (g.1*(mC t bl reps 256).length)).getD g.1 0))< t.next.length:=hsl
     have hrw:=oz hok hsl
     refine aO mI fun _ K34=>?_
     iterate 4 refine z27 ?_
     refine tC ?_;refine aU (.c (.int .i64 (((((aP (bF t bl reps) (mC t bl reps 256).length (aM bl 0) (g.1*(mC t bl reps 256).length)).getD g.1 0):Nat):Int)))) (az ((congrArg (fun i=>(aG (aP (bF t bl reps) (mC t bl reps 256).length (aM bl 0) (g.1*(mC t bl reps 256).length))).getD i 0) (by omega)).trans jd)) (z27 ?_);refine tC ?_;refine aU (.c (.int .i64 (((eD reps ((aP (bF t bl reps) (mC t bl reps 256).length (aM bl 0) (g.1*(mC t bl reps 256).length)).getD g.1 0):Nat):Int)))) (az ((congrArg (fun i=>(aG reps).getD i 0) (by omega)).trans jd)) (z27 ?_);refine aJ K34 (aO mI fun _ K36=>?_)
     iterate 4 refine z27 ?_
     refine aJ K36 (aH fun _ K37=>aO mI fun _ K39=>?_)
     iterate 3 refine z27 ?_
     refine aJ K39 (bO (fM (α:=Nat×Nat) (fun c=>[(1,.c (.dp (dP t) 0)),(2,.c (.ptr 0 0)),(3,.c (.ds bl.length (.ints .i64 (aG bl)))),(4,.c (.ds reps.length (.ints .i64 (aG reps)))),(5,.c (.ds (mC t bl reps 256).length (.ints .i64 (aG (mC t bl reps 256))))),(7,.c (.ptr 1 0)),(8,.c (.slice 2 0 reps.length reps.length)),(9,.c (.slice 3 0 (aP (bF t bl reps) (mC t bl reps 256).length (aM bl 0) (g.1*(mC t bl reps 256).length+c.1)).length c.2)),(11,.c (.int .i64 (g.1:Nat))),(12,.c (.int .i64 ((eD reps ((aP (bF t bl reps) (mC t bl reps 256).length (aM bl 0) (g.1*(mC t bl reps 256).length)).getD g.1 0)):Nat))),(13,.c (.slice 6 0 (mC t bl reps 256).length (mC t bl reps 256).length)),(70,.c (.ds (mC t bl reps 256).length (.ints .i64 (aG (mC t bl reps 256))))),(71,.c (.int .i64 ((mC t bl reps 256).length:Nat))),(72,.c (.int .i64 (c.1:Nat)))]) (fun c=>[(0,.own 30 (.cells [.nils,.nils,.nils]) 3),(1,.own 30 (.cells [.ds (mC t bl reps 256).length (.u64s cw),.slice 4 0 g.1 g.2.2.1,.slice 5 0 g.1 g.2.2.2]) 3),(2,.own 3 (.ints .i64 (lL (aP (bF t bl reps) (mC t bl reps 256).length (aM bl 0) (g.1*(mC t bl reps 256).length+c.1)) reps.length)) reps.length),(3,.own 3 (.ints .i64 (aG (aP (bF t bl reps) (mC t bl reps 256).length (aM bl 0) (g.1*(mC t bl reps 256).length+c.1)))) c.2),(4,.own 44 (.cells (aS (dO (bF t bl reps) (mC t bl reps 256).length (aM bl 0) g.1))) g.2.2.1),(5,.own 4 (.bools (ik t bl reps g.1)) g.2.2.2),(6,.own 3 (.ints .i64 (lZ (bF t bl reps) (mC t bl reps 256).length (aM bl 0) g.1 c.1)) (mC t bl reps 256).length)]) 7 (fun c=>c.1<=(mC t bl reps 256).length/\(aP (bF t bl reps) (mC t bl reps 256).length (aM bl 0) (g.1*(mC t bl reps 256).length+c.1)).length<=c.2) (fun c=>(mC t bl reps 256).length - c.1) ?_ ?_))
     ·have hX1:List.replicate (mC t bl reps 256).length (0:Int)=lZ (bF t bl reps) (mC t bl reps 256).length (aM bl 0) g.1 0:=(y0c _).symm
      refine ai [] id (0,g.2.1) ⟨Nat.zero_le _,hg4⟩ [0,1,2,3,4,5,6] bT bT bT bT
     ·intro c hc0
      have hc1:=hc0.1
      have hc2:=hc0.2
      refine aO mI fun _ K41=>z27 ?_;refine aJ K41 (aH fun _ K42=>bC (b:=_) rfl (fun h_t73=>?_) (fun h_t73=>?_))
      ·try simp only[dQ,reduceIte]at h_t73
       refine bK (K42 _ _ _ (aH fun _ K43=>bO ?_))
       have hc:c.1< (mC t bl reps 256).length:=by omega
       have hrc:=WC hok bl reps hc
       have hx:=bz hok hsl hrc
       have htl:((bF t bl reps) ((aP (bF t bl reps) (mC t bl reps 256).length (aM bl 0) (g.1*(mC t bl reps 256).length)).getD g.1 0) c.1)< reps.length:=xD hok hout hlr.cl hxl hc
       have hat:=QY (f:=(bF t bl reps)) (b0:=(aM bl 0)) hi (Nat.le_add_right (g.1*(mC t bl reps 256).length) c.1)
       have hst:(aP (bF t bl reps) (mC t bl reps 256).length (aM bl 0) (g.1*(mC t bl reps 256).length+(c.1+1)))=je (aP (bF t bl reps) (mC t bl reps 256).length (aM bl 0) (g.1*(mC t bl reps 256).length+c.1)) ((bF t bl reps) ((aP (bF t bl reps) (mC t bl reps 256).length (aM bl 0) (g.1*(mC t bl reps 256).length+c.1)).getD g.1 0) c.1):=SX (f:=(bF t bl reps)) (b0:=(aM bl 0)) (i:=g.1) hc
       rw[hat]at hst
       have hst2:=hst
       have hol:=NU hok hout hlr.cl CO (g.1*(mC t bl reps 256).length+c.1)
       refine aO mI fun _ K45=>?_
       iterate 2 refine z27 ?_
       refine tC ?_;refine aU (.c (.int .i64 (((eD (mC t bl reps 256) c.1:Nat):Int)))) (az ((congrArg (fun i=>(aG (mC t bl reps 256)).getD i 0) (by omega)).trans jd)) ?_
       iterate 2 refine z27 ?_
       refine aJ K45 (aO mI fun _ K47=>?_)
       iterate 2 refine z27 ?_
       refine tC ?_;refine aU (.c (.ds t.next.length (.cells (aS t.next)))) (ak (sD hcl)) ?_
       iterate 2 refine z27 ?_
       refine tC ?_;refine aU (.c (.ds (t.next.getD (eD reps ((aP (bF t bl reps) (mC t bl reps 256).length (aM bl 0) (g.1*(mC t bl reps 256).length)).getD g.1 0)) []).length (.ints .i64 (t.next.getD (eD reps ((aP (bF t bl reps) (mC t bl reps 256).length (aM bl 0) (g.1*(mC t bl reps 256).length)).getD g.1 0)) [])))) (ak (oh ⟨hsl,by omega⟩)) ?_
       iterate 2 refine z27 ?_
       refine tC ?_;refine aU (.c (.int .i64 ((((aD t).δ (eD reps ((aP (bF t bl reps) (mC t bl reps 256).length (aM bl 0) (g.1*(mC t bl reps 256).length)).getD g.1 0)) (eD (mC t bl reps 256) c.1):Nat):Int)))) (az ((congrArg (fun i=>(t.next.getD (eD reps ((aP (bF t bl reps) (mC t bl reps 256).length (aM bl 0) (g.1*(mC t bl reps 256).length)).getD g.1 0)) []).getD i 0) (by omega)).trans hx.2)) (z27 ?_);refine tC ?_;refine aU (.c (.int .i64 (((((bF t bl reps) ((aP (bF t bl reps) (mC t bl reps 256).length (aM bl 0) (g.1*(mC t bl reps 256).length)).getD g.1 0) c.1):Nat):Int)))) (az ((congrArg (fun i=>(aG bl).getD i 0) (by omega)).trans jd)) (z27 ?_);refine aJ K47 (qf (α:=Nat) (fun y=>[(1,.c (.dp (dP t) 0)),(2,.c (.ptr 0 0)),(3,.c (.ds bl.length (.ints .i64 (aG bl)))),(4,.c (.ds reps.length (.ints .i64 (aG reps)))),(5,.c (.ds (mC t bl reps 256).length (.ints .i64 (aG (mC t bl reps 256))))),(7,.c (.ptr 1 0)),(8,.c (.slice 2 0 reps.length reps.length)),(9,.c (.slice 3 0 (aP (bF t bl reps) (mC t bl reps 256).length (aM bl 0) (g.1*(mC t bl reps 256).length+(c.1+1))).length y)),(11,.c (.int .i64 (g.1:Nat))),(12,.c (.int .i64 ((eD reps ((aP (bF t bl reps) (mC t bl reps 256).length (aM bl 0) (g.1*(mC t bl reps 256).length)).getD g.1 0)):Nat))),(13,.c (.slice 6 0 (mC t bl reps 256).length (mC t bl reps 256).length)),(70,.c (.ds (mC t bl reps 256).length (.ints .i64 (aG (mC t bl reps 256))))),(71,.c (.int .i64 ((mC t bl reps 256).length:Nat))),(72,.c (.int .i64 (c.1:Nat))),(14,.c (.int .i64 (c.1:Nat))),(16,.c (.int .i64 (((bF t bl reps) ((aP (bF t bl reps) (mC t bl reps 256).length (aM bl 0) (g.1*(mC t bl reps 256).length)).getD g.1 0) c.1):Nat)))]) (fun y=>[(0,.own 30 (.cells [.nils,.nils,.nils]) 3),(1,.own 30 (.cells [.ds (mC t bl reps 256).length (.u64s cw),.slice 4 0 g.1 g.2.2.1,.slice 5 0 g.1 g.2.2.2]) 3),(2,.own 3 (.ints .i64 (lL (aP (bF t bl reps) (mC t bl reps 256).length (aM bl 0) (g.1*(mC t bl reps 256).length+(c.1+1))) reps.length)) reps.length),(3,.own 3 (.ints .i64 (aG (aP (bF t bl reps) (mC t bl reps 256).length (aM bl 0) (g.1*(mC t bl reps 256).length+(c.1+1))))) y),(4,.own 44 (.cells (aS (dO (bF t bl reps) (mC t bl reps 256).length (aM bl 0) g.1))) g.2.2.1),(5,.own 4 (.bools (ik t bl reps g.1)) g.2.2.2),(6,.own 3 (.ints .i64 (lZ (bF t bl reps) (mC t bl reps 256).length (aM bl 0) g.1 c.1)) (mC t bl reps 256).length)]) 7 (fun y=>(aP (bF t bl reps) (mC t bl reps 256).length (aM bl 0) (g.1*(mC t bl reps 256).length+(c.1+1))).length<=y) ?_ ?_)
       ·refine aO mI fun _ K49=>?_
        iterate 3 refine z27 ?_
        refine tC ?_;refine aU (.c (.int .i64 ((lL (aP (bF t bl reps) (mC t bl reps 256).length (aM bl 0) (g.1*(mC t bl reps 256).length+c.1)) reps.length).getD ((bF t bl reps) ((aP (bF t bl reps) (mC t bl reps 256).length (aM bl 0) (g.1*(mC t bl reps 256).length)).getD g.1 0) c.1) 0))) (az (congrArg (fun i=>(lL (aP (bF t bl reps) (mC t bl reps 256).length (aM bl 0) (g.1*(mC t bl reps 256).length+c.1)) reps.length).getD i 0) (by omega))) (z27 ?_);refine aJ K49 (bC (b:=_) rfl (fun h_t92=>?_) (fun h_t92=>?_))
        ·have hno:((bF t bl reps) ((aP (bF t bl reps) (mC t bl reps 256).length (aM bl 0) (g.1*(mC t bl reps 256).length)).getD g.1 0) c.1)∉(aP (bF t bl reps) (mC t bl reps 256).length (aM bl 0) (g.1*(mC t bl reps 256).length+c.1)):=fun hx=>by
          rw[Lj htl hx]at h_t92
          simp at h_t92;omega
         refine aO mI fun _ K51=>?_
         iterate 5 refine z27 ?_
         refine MH ?_;refine aJ K51 (bB mI fun _ K52=>?_)
         iterate 3 refine z27 ?_
         refine tC ?_;intro cap3 hcap3;refine aL (z27 ?_);refine aJ K52 ?_;rw[je,if_neg hno]at hst
         have hX1:(lL (aP (bF t bl reps) (mC t bl reps 256).length (aM bl 0) (g.1*(mC t bl reps 256).length+c.1)) reps.length).set (0+((((bF t bl reps) ((aP (bF t bl reps) (mC t bl reps 256).length (aM bl 0) (g.1*(mC t bl reps 256).length)).getD g.1 0) c.1):Nat):Int).toNat*1) (((aP (bF t bl reps) (mC t bl reps 256).length (aM bl 0) (g.1*(mC t bl reps 256).length+c.1)).length:Nat):Int)=lL (aP (bF t bl reps) (mC t bl reps 256).length (aM bl 0) (g.1*(mC t bl reps 256).length+(c.1+1))) reps.length:=by rw[show 0+((((bF t bl reps) ((aP (bF t bl reps) (mC t bl reps 256).length (aM bl 0) (g.1*(mC t bl reps 256).length)).getD g.1 0) c.1):Nat):Int).toNat*1=((bF t bl reps) ((aP (bF t bl reps) (mC t bl reps 256).length (aM bl 0) (g.1*(mC t bl reps 256).length)).getD g.1 0) c.1) by omega,Rx hno,hst]
         have hX2:aG (aP (bF t bl reps) (mC t bl reps 256).length (aM bl 0) (g.1*(mC t bl reps 256).length+c.1))++([]++[((((bF t bl reps) ((aP (bF t bl reps) (mC t bl reps 256).length (aM bl 0) (g.1*(mC t bl reps 256).length)).getD g.1 0) c.1):Nat):Int)])=aG (aP (bF t bl reps) (mC t bl reps 256).length (aM bl 0) (g.1*(mC t bl reps 256).length+(c.1+1))):=by rw[hst,List.nil_append,z39]
         have hL0:(aP (bF t bl reps) (mC t bl reps 256).length (aM bl 0) (g.1*(mC t bl reps 256).length+c.1)).length+1=(aP (bF t bl reps) (mC t bl reps 256).length (aM bl 0) (g.1*(mC t bl reps 256).length+(c.1+1))).length:=by rw[hst,List.length_append];rfl
         refine ai [] (fun i=>if i=3 then 8 else i) cap3 (by omega) [0,1,2,8,4,5,6] bT bT bT bT
        ·have hin:((bF t bl reps) ((aP (bF t bl reps) (mC t bl reps 256).length (aM bl 0) (g.1*(mC t bl reps 256).length)).getD g.1 0) c.1)∈(aP (bF t bl reps) (mC t bl reps 256).length (aM bl 0) (g.1*(mC t bl reps 256).length+c.1)):=Classical.byContradiction fun hx=>by
          rw[Rw htl hx]at h_t92;exact absurd h_t92 (by decide)
         refine bK ?_;rw[je,if_pos hin]at hst;rw[hst];refine ai [] id c.2 hc2 [0,1,2,3,4,5,6] bT bT bT bT
       ·intro y hy
        have hmem:((bF t bl reps) ((aP (bF t bl reps) (mC t bl reps 256).length (aM bl 0) (g.1*(mC t bl reps 256).length)).getD g.1 0) c.1)∈(aP (bF t bl reps) (mC t bl reps 256).length (aM bl 0) (g.1*(mC t bl reps 256).length+(c.1+1))):=by rw[hst2];exact YU _ _
        have hpl:=Lj (k:=reps.length) htl hmem
        have hol3:=NU hok hout hlr.cl CO (g.1*(mC t bl reps 256).length+(c.1+1))
        refine bB mI fun _ K53=>?_
        iterate 5 refine z27 ?_
        refine tC ?_;refine aU (.c (.int .i64 (((nk (bF t bl reps) (mC t bl reps 256).length (aM bl 0) g.1 c.1:Nat):Int)))) (az ((congrArg (fun i=>(lL (aP (bF t bl reps) (mC t bl reps 256).length (aM bl 0) (g.1*(mC t bl reps 256).length+(c.1+1))) reps.length).getD i 0) (by omega)).trans (hpl.trans (congrArg Nat.cast (y1x hi hc).symm)))) (z27 ?_);refine MH ?_;refine aJ K53 (dD (K43 _ _ _ (bB mI fun _ K54=>?_)))
        iterate 2 refine z27 ?_
        refine aJ K54 ?_
        have hX1:(lZ (bF t bl reps) (mC t bl reps 256).length (aM bl 0) g.1 c.1).set (0+((c.1:Nat):Int).toNat*1) ((nk (bF t bl reps) (mC t bl reps 256).length (aM bl 0) g.1 c.1:Nat):Int)=lZ (bF t bl reps) (mC t bl reps 256).length (aM bl 0) g.1 (c.1+1):=by rw[show 0+((c.1:Nat):Int).toNat*1=c.1 by omega];exact AM hc
        refine ai [] id (c.1+1,y) ⟨⟨by show c.1+1<=_;omega,hy⟩,by show _ - (c.1+1)< _;omega⟩ [0,1,2,3,4,5,6] ?_ ?_ ?_ ?_
        ·exact bT
        ·exact bT
        ·exact bT
        ·exact bT
      ·try simp only[dQ,reduceIte]at h_t73
       refine eY (bJ (bJ (eX (K37 _ _ _ ?_))))
       have hce:c.1=(mC t bl reps 256).length:=by omega
       have hpe:g.1*(mC t bl reps 256).length+c.1=(g.1+1)*(mC t bl reps 256).length:=by rw[hce,Nat.succ_mul]
       rw[hpe];rw[hpe]at hc2
       have hRZ:lZ (bF t bl reps) (mC t bl reps 256).length (aM bl 0) g.1 c.1=rowP (bF t bl reps) (mC t bl reps 256).length (aM bl 0) g.1 (mC t bl reps 256).length:=by rw[hce,y0d]
       rw[hRZ];refine fQ [6] id [(1,.c (.dp (dP t) 0)),(2,.c (.ptr 0 0)),(3,.c (.ds bl.length (.ints .i64 (aG bl)))),(4,.c (.ds reps.length (.ints .i64 (aG reps)))),(5,.c (.ds (mC t bl reps 256).length (.ints .i64 (aG (mC t bl reps 256))))),(7,.c (.ptr 1 0)),(8,.c (.slice 2 0 reps.length reps.length)),(9,.c (.slice 3 0 (aP (bF t bl reps) (mC t bl reps 256).length (aM bl 0) ((g.1+1)*(mC t bl reps 256).length)).length c.2)),(11,.c (.int .i64 (g.1:Nat))),(12,.c (.int .i64 ((eD reps ((aP (bF t bl reps) (mC t bl reps 256).length (aM bl 0) (g.1*(mC t bl reps 256).length)).getD g.1 0)):Nat))),(13,.c (.ds (mC t bl reps 256).length (.ints .i64 (rowP (bF t bl reps) (mC t bl reps 256).length (aM bl 0) g.1 (mC t bl reps 256).length))))] [(0,.own 30 (.cells [.nils,.nils,.nils]) 3),(1,.own 30 (.cells [.ds (mC t bl reps 256).length (.u64s cw),.slice 4 0 g.1 g.2.2.1,.slice 5 0 g.1 g.2.2.2]) 3),(2,.own 3 (.ints .i64 (lL (aP (bF t bl reps) (mC t bl reps 256).length (aM bl 0) ((g.1+1)*(mC t bl reps 256).length)) reps.length)) reps.length),(3,.own 3 (.ints .i64 (aG (aP (bF t bl reps) (mC t bl reps 256).length (aM bl 0) ((g.1+1)*(mC t bl reps 256).length)))) c.2),(4,.own 44 (.cells (aS (dO (bF t bl reps) (mC t bl reps 256).length (aM bl 0) g.1))) g.2.2.1),(5,.own 4 (.bools (ik t bl reps g.1)) g.2.2.2)] 6 [0,1,2,3,4,5] bT bT bT bT (aO mI fun _ K56=>?_)
       iterate 4 refine z27 ?_
       refine tC ?_;intro cap4 hcap4;refine aL (z27 ?_);refine MH ?_;refine aJ K56 ?_
       revert cap4 hcap4
       intro capA hcapA
       have hal:=hok.alen
       refine ry mI [(0,true),(1,true),(2,true),(3,true),(4,true),(5,true),(6,true),(7,false),(8,false),(9,true),(10,false)] rfl aN aN fun _ K57=>?_
       iterate 3 refine UI ?_
       refine Td ?_;refine aU (.c (.ds t.acc.length (.bools t.acc))) (ak (JX hcl)) ?_
       iterate 2 refine UI ?_
       refine Td ?_;refine aU (.c (.bool (t.acc.getD (eD reps ((aP (bF t bl reps) (mC t bl reps 256).length (aM bl 0) (g.1*(mC t bl reps 256).length)).getD g.1 0)) false))) (dN (congrArg (fun i=>t.acc.getD i false) (by omega))) (KP ?_);refine ZO ?_;intro cap8 hcap8;refine aL (UI ?_);refine Df ?_;refine iF K57 (dD (K32 _ _ _ (bB mI fun _ K58=>?_)))
       iterate 3 refine z27 ?_
       refine aJ K58 ?_
       have hlen2:=Bf (f:=(bF t bl reps)) (nc:=(mC t bl reps 256).length) (b0:=(aM bl 0)) (p:=g.1*(mC t bl reps 256).length) (q:=(g.1+1)*(mC t bl reps 256).length) (Nat.mul_le_mul_right _ (by omega))
       have hah:∀ j,j< g.1+1->j< (aP (bF t bl reps) (mC t bl reps 256).length (aM bl 0) (j*(mC t bl reps 256).length)).length:=fun j hj=>by
        rcases Nat.lt_or_ge j g.1 with h1|h1
        ·exact hga j h1
        ·obtain rfl:j=g.1:=by omega
         exact hi
       have hX3:ik t bl reps g.1++([]++[t.acc.getD (eD reps ((aP (bF t bl reps) (mC t bl reps 256).length (aM bl 0) (g.1*(mC t bl reps 256).length)).getD g.1 0)) false])=ik t bl reps (g.1+1):=zqm t bl reps g.1
       have hXR:aS (dO (bF t bl reps) (mC t bl reps 256).length (aM bl 0) g.1)++([]++[.ds (mC t bl reps 256).length (.ints .i64 (rowP (bF t bl reps) (mC t bl reps 256).length (aM bl 0) g.1 (mC t bl reps 256).length))])=aS (dO (bF t bl reps) (mC t bl reps 256).length (aM bl 0) (g.1+1)):=by
        have:=Gg (dO (bF t bl reps) (mC t bl reps 256).length (aM bl 0) g.1) (rowP (bF t bl reps) (mC t bl reps 256).length (aM bl 0) g.1 (mC t bl reps 256).length)
        rw[Ro,zlm]at this;exact this
       refine ai [] (fun i=>if i=4 then 7 else if i=5 then 9 else i) (g.1+1,c.2,capA,cap8) ⟨⟨by show g.1+1<=_;omega,hah,(by show g.1+1<=(aP (bF t bl reps) (mC t bl reps 256).length (aM bl 0) ((g.1+1)*(mC t bl reps 256).length)).length;omega),hc2,(by show g.1+1<=capA;omega),(by show g.1+1<=cap8;omega)⟩,by show _ - (g.1+1)< _;omega⟩ [0,1,2,3,7,9] ?_ ?_ ?_ ?_
       ·exact bT
       ·exact bT
       ·exact bT
       ·exact bT
    ·try simp only[dQ,reduceIte]at h_t57
     refine eY (bJ (bJ (eX (K26 _ _ _ ?_))))
     have hclo:=SY hmp hg.2.1 (by omega)
     have hcan:=y1w ht hout hcw hclo
     refine fQ [4,5] id [(2,.c (.ptr 0 0)),(7,.c (.ptr 1 0))] [(0,.own 30 (.cells [.nils,.nils,.nils]) 3),(1,.own 30 (.cells [.ds (mC t bl reps 256).length (.u64s cw),.ds g.1 (.cells (aS (dO (bF t bl reps) (mC t bl reps 256).length (aM bl 0) g.1))),.ds g.1 (.bools (ik t bl reps g.1))]) 3)] 2 [0,1] bT bT bT bT (aO mI fun _ K60=>z27 ?_);refine MH ?_;refine aJ K60 ?_;rw[hcan];refine bQ (gT mI (fun _ _ h=>h) (NV _) [] [.cell 2 30] rfl ?_)
     repeat first|refine aI (by first|exact trivial|rfl|exact⟨rfl,rfl⟩|decide) ?_|refine bW (by first|exact⟨rfl,rfl⟩|rfl|decide) ?_|refine dC (by first|rfl|decide) ?_
     all_goals exact bT


end Go.Proofs.YtpdljmohhpbkpaaDoor

namespace Go.Proofs.YtpdljmohhpbkpaaDoor
open Go.Ab Go.RowKit

theorem qF{a:Prop}(h:a:=by
    repeat' (first|exact lw _|exact pT|exact trivial|refine aI ?_ ?_|exact iM|refine low_cons' ?_ ?_|exact iN|fail)
    all_goals first|omega|exact lw _|(show(_:List Bool)=_;first|assumption|rfl)|(show bR _ _ _;rw[y1z hcl rfl];refine sj ⟨rfl,rfl⟩ ?_;(repeat' (first|exact trivial|refine aI ?_ ?_|rfl|omega|decide|(simp;done)|rw[if_pos ⟨rfl,by simp⟩])))|(show(_:Nat)=0/\_;exact⟨rfl,rfl⟩)|(show(0:Nat)< (au _ _ _ _).length;rw[dJ hcl];decide)|(simp[-List.reduceReplicate];done)|(simp[-List.reduceReplicate]<;>omega)|skip):a:=h
open Go.Aut
theorem y1z{cell:List Int}{nc i:Nat}{x y z:Cell}(h:cell.length=256)(hi:i=258):(au cell nc x y).set i z=au cell nc x z:=by
  subst hi;rw[au,au,List.set_append_right _ _ (by simp[h])]
  simp[h]
def uA:Dfa:=⟨[],0,[],[]⟩
abbrev lX(r:Dfa×Nat):SV:=.tup [.agg (eB r.1),.c (.int .i64 ((r.2:Nat):Int))]
def lU(d:Dfa):Dfa×Nat:=if 64< d.next.length then(uA,2) else(d,0)
theorem lw(d:Dfa){n:Nat}:(eB d).low n:=low_cons' trivial (low_cons' trivial (low_cons' trivial low_nil'))
theorem ib(r:Dfa×Nat):SV.low 0 (lX r):=List.forall_mem_cons.2 ⟨lw _,List.forall_mem_cons.2 ⟨trivial,fun _ h=>by cases h⟩⟩
theorem kS{d:Dfa}(h:d.good):(ag d).fit:=⟨nJ h.1,Nat.le_trans h.2 (by decide),h.1.cmax⟩
theorem vg(d:Dfa):af ((aD (ag d)).lang 0)=af (aT d):=CK fun w hw=>uT d 0 hw
theorem Br{t:Tab}(h:t.ok):∀ (w:List Nat) (s:Nat),Bytes w->s< t.next.length->(aD t).run s w< t.next.length
  |[],_,_,hs=>hs
  |b::w,s,hw,hs=>Br h w _ (fun x hx=>hw x (List.mem_cons_of_mem _ hx)) (bz h hs (av h (hw b List.mem_cons_self)).1).1
def zZ(l:List Bool)(k:Nat):List Bool:=(List.range l.length).map fun i=>if i< k then !l.getD i false else false
@[simp] theorem IZ(l:List Bool)(k:Nat):(zZ l k).length=l.length:=by simp[zZ]
theorem Ma(l:List Bool):List.replicate l.length false=zZ l 0:=by simp[zZ,List.map_const']
attribute [local irreducible] eG z12 zl au gz cr zZ af
noncomputable def VM:Ctx:={ P:=Tryd.prog,ty:=ty,glob:=gl,fs:=[(33,.data PY),(25,.flat Gn),(32,.data Lt)] }
theorem MS:VM.OK:=⟨dS,⟨⟨bX Tryd.func33 aN rfl,Re⟩,⟨bX Tryd.func25 aN rfl,z70⟩,⟨bX Tryd.func32 aN rfl,Mj⟩,trivial⟩,mixed⟩
@[simp] theorem VN:VM.ty=ty:=rfl

def TJ:aW:=fun vs K=>∃ t:Tab,vs=[bu t]/\t.fit/\K (lX (lU (af ((aD t).lang 0))))
theorem XR:jr Tryd.prog gl 41 TJ:=by
 refine kJ (Γ:=VM) (N:=13) Tryd.func41 rfl rfl fun vs K h=>?_;obtain⟨t,rfl,ht,h⟩:=h;refine⟨_,h,ib _,by simp,fun w I=>?_⟩
 have ht0:=ht
 obtain⟨hok,hlen,hnc⟩:=ht0
 have hcl:=hok.clen
 refine aO MS fun _ K2=>?_
 iterate 3 refine fV ?_
 refine aJ K2 (fQ [0] (fun _=>1) [(1,.c (.dp (dP t) 0)),(2,.c (.ptr 0 0))] [(0,.own 30 (.cells [.nils,.nils,.nils]) 3)] 1 [1] qF qF qF qF (aO MS fun _ K4=>oI ?_));refine aU (bu t) (SV.as_refl _) (oI ?_);refine aI (lu _) (lz _ ⟨t,rfl,ht,?_⟩);obtain⟨d,hd⟩:∃ d,d=af ((aD t).lang 0):=⟨_,rfl⟩;rw[<-hd]
 simp only[pW]
 refine gJ ?_
 first|refine aL ?_|(intro cap1 hcap1;refine aL ?_)
 refine fV ?_;refine iT ?_;refine aJ K4 (aH fun _ K5=>aO MS fun _ K7=>?_)
 iterate 4 refine fV ?_
 refine aJ K7 (bC (b:=_) rfl (fun h_t10=>?_) (fun h_t10=>?_))
 ·try simp only[dQ,reduceIte]at h_t10
  refine aO MS fun _ K9=>fV ?_;refine iT ?_;refine fV ?_;refine aJ K9 ?_;rw[<-hd,lU,if_pos (by omega)];refine bQ (gT MS (fun _ _ h=>h) (ib _) [] [.cell 2 30,.tmp 3] rfl ?_)
  repeat first|refine aI (by first|exact trivial|rfl|exact⟨rfl,rfl⟩|decide) ?_|refine bW (by first|rfl|decide) ?_|refine dC (by first|rfl|decide) ?_
  all_goals exact qF
 ·try simp only[dQ,reduceIte]at h_t10
  refine bK (K5 _ _ _ (aO MS fun _ K11=>fV ?_));refine iT ?_;refine fV ?_;refine aJ K11 ?_;rw[<-hd,lU,if_neg (by omega)];refine bQ (gT MS (fun _ _ h=>h) (ib _) [] [.cell 2 30,.tmp 3] rfl ?_)
  repeat first|refine aI (by first|exact trivial|rfl|exact⟨rfl,rfl⟩|decide) ?_|refine bW (by first|rfl|decide) ?_|refine dC (by first|rfl|decide) ?_
  all_goals exact qF


end Go.Proofs.YtpdljmohhpbkpaaDoor
