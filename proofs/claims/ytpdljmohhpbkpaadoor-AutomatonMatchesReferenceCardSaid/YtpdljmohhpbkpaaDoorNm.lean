/- Contracts of functions and plain facts, part 13. -/
import Derived.Test.YtpdljmohhpbkpaaDoorNl
import Derived.Test.YtpdljmohhpbkpaaDoorNb
set_option linter.all false
set_option maxHeartbeats 8000000
set_option maxRecDepth 4000
namespace Go.Proofs.YtpdljmohhpbkpaaDoor
open Go.Ab Go.RowKit

section
variable {a b:Prop}
theorem uL(h:a:=by first|exact gG|(simp[-List.reduceReplicate]<;>omega)|exact vTr|exact RZ|exact Vp|(show(List.replicate 256 (0:Int)).length=(jL _ _ _).length;rw[fI,List.length_replicate])|(show 256=(jL _ _ _).length;rw[fI])|(show 0< (jL _ _ _).length;rw[fI];decide)|(show 0+(jL _ _ _).length<=(List.replicate 256 (0:Int)).length;rw[fI,List.length_replicate];decide)|(show 0+256*1<=(jL _ _ _).length;rw[fI];decide)|(show(jL _ _ _).length=256*1;rw[fI])|exact gH):a:=h
theorem ol(h:a:=by
    repeat' (first|exact lw _|exact z42 _|exact uy (o8 qV si)|exact uy (o8 qV (o8 qV (o8 qV si)))|exact pT|exact trivial|refine aI ?_ ?_|exact iM|refine low_cons' ?_ ?_|exact iN|fail)
    all_goals first|omega|exact lw _|(show 0< (au _ _ _ _).length;rw[dJ hx.1.clen];decide)|(show 0< (au _ _ _ _).length;rw[dJ hy.1.clen];decide)|(show 0< (jL _ _ _).length;rw[fI];decide)|(intro z hz;rw[List.mem_singleton.1 hz];exact⟨rfl,fun g l e=>by cases e⟩)|exact Nat.one_pos|(show(0:Nat)< (au _ _ _ _).length;rw[dJ hcl];decide)|(simp[-List.reduceReplicate];done)|(simp[-List.reduceReplicate]<;>omega)|skip):a:=h
theorem dW(kZ:b)(h:aK b->a:=by intro kZ;(repeat first|refine aI uL ?_|refine bW uL ?_|refine dC uL ?_|refine fT uL ?_|refine fA ?_);exact kZ.out):a:=h ⟨kZ⟩
theorem nA(kZ:b)(h:aK b->a:=by intro kZ;refine sX ?_;refine dW ?_;refine aL ?_;exact kZ.out):a:=h ⟨kZ⟩
theorem CS(kZ:b)(h:aK b->a:=by intro kZ;refine jl ?_;refine dW ?_;refine aL ?_;exact kZ.out):a:=h ⟨kZ⟩
theorem zwc(kZ:b)(h:aK b->a:=by intro kZ;refine mX ?_;refine dW ?_;refine aL ?_;exact kZ.out):a:=h ⟨kZ⟩
theorem TN(kZ:b)(h:aK b->a:=by intro kZ;refine pu ?_;refine dW ?_;refine aL ?_;exact kZ.out):a:=h ⟨kZ⟩
theorem Gp(kZ:b)(h:aK b->a:=by intro kZ;refine dX ?_;refine dW ?_;refine aL ?_;exact kZ.out):a:=h ⟨kZ⟩
theorem Do(kZ:b)(h:aK b->a:=by intro kZ;refine gX ?_;refine dW ?_;refine aL ?_;exact kZ.out):a:=h ⟨kZ⟩
theorem Bo(kZ:b)(h:aK b->a:=by intro kZ;refine sX ?_;refine dW ?_;exact kZ.out):a:=h ⟨kZ⟩
theorem y2x(kZ:b)(h:aK b->a:=by intro kZ;refine mX ?_;refine dW ?_;exact kZ.out):a:=h ⟨kZ⟩
theorem zwd(kZ:b)(h:aK b->a:=by intro kZ;refine dX ?_;refine dW ?_;exact kZ.out):a:=h ⟨kZ⟩
theorem Xw(kZ:b)(h:aK b->a:=by intro kZ;refine gX ?_;refine dW ?_;exact kZ.out):a:=h ⟨kZ⟩
theorem Nr(h:a:=by exact(And.intro (And.intro rfl rfl) (And.intro (Gs _) (And.intro (Gs _) (And.intro (And.intro rfl rfl) (And.intro (And.intro rfl rfl) trivial)))))):a:=h
theorem Ns(h:a:=by exact(And.intro (show(0:Nat)< 3 by decide) (And.intro (z42 _) (And.intro (z42 _) (And.intro (show(1:Nat)< 3 by decide) (And.intro (show(2:Nat)< 3 by decide) trivial)))))):a:=h
theorem WJ(h:a:=by exact(And.intro (And.intro (by decide) CU) (And.intro (And.intro (by decide) CB) (And.intro (And.intro (by decide) CB) trivial)))):a:=h
theorem J8(h:a:=by exact(And.intro (And.intro rfl rfl) (And.intro (Gs _) (And.intro (Gs _) (And.intro (And.intro rfl rfl) trivial))))):a:=h
theorem uZ(h:a:=by exact(And.intro (And.intro List.not_mem_nil (And.intro rfl (And.intro rfl Gt))) (And.intro (And.intro List.not_mem_nil (And.intro rfl (And.intro zl_len' Nj))) trivial))):a:=h
theorem Ja(h:a:=by exact(And.intro (show(0:Nat)< 2 by decide) (And.intro (z42 _) (And.intro (z42 _) (And.intro (show(1:Nat)< 2 by decide) trivial))))):a:=h
theorem z48(h:a:=by exact(And.intro (And.intro (by decide) CU) (And.intro (And.intro (by decide) MR) trivial))):a:=h
theorem wG(h:a:=by exact(And.intro (And.intro List.not_mem_nil (And.intro rfl (And.intro rfl Gt))) (And.intro (And.intro List.not_mem_nil (And.intro rfl (And.intro rfl mo))) trivial))):a:=h
theorem HZ(h:a:=by exact(And.intro (And.intro rfl rfl) (And.intro (Gs _) (And.intro (Gr _) (And.intro (And.intro rfl rfl) (And.intro (And.intro rfl rfl) trivial)))))):a:=h
theorem Nt(h:a:=by exact(And.intro (And.intro List.not_mem_nil (And.intro rfl (And.intro rfl Gt))) (And.intro (And.intro List.not_mem_nil (And.intro rfl (And.intro rfl mo))) (And.intro (And.intro List.not_mem_nil (And.intro rfl (And.intro zl_len' Nj))) trivial)))):a:=h
theorem Gq(h:a:=by exact(And.intro (show(0:Nat)< 3 by decide) (And.intro (z42 _) (And.intro (lw _) (And.intro (show(1:Nat)< 3 by decide) (And.intro (show(2:Nat)< 3 by decide) trivial)))))):a:=h
theorem rZ(h:a:=by exact(And.intro (And.intro (by decide) CU) (And.intro (And.intro (by decide) MR) (And.intro (And.intro (by decide) MR) trivial)))):a:=h
theorem NZ(h:a:=by exact(And.intro (And.intro List.not_mem_nil (And.intro rfl (And.intro rfl Gt))) (And.intro (And.intro List.not_mem_nil (And.intro rfl (And.intro zl_len' Nj))) (And.intro (And.intro List.not_mem_nil (And.intro rfl (And.intro rfl mo))) trivial)))):a:=h
theorem QH(h:a:=by exact(And.intro (And.intro List.not_mem_nil (And.intro rfl (And.intro rfl Gt))) (And.intro (And.intro List.not_mem_nil (And.intro rfl (And.intro rfl mo))) (And.intro (And.intro List.not_mem_nil (And.intro rfl (And.intro rfl mo))) trivial)))):a:=h
theorem y2z(h:a:=by exact(And.intro (And.intro rfl rfl) (And.intro (Gs _) (And.intro (Gs _) trivial)))):a:=h
theorem MK(h:a:=by exact(And.intro (And.intro List.not_mem_nil (And.intro rfl (And.intro rfl Gt))) trivial)):a:=h
theorem y30(h:a:=by exact(And.intro (show(0:Nat)< 1 by decide) (And.intro (z42 _) (And.intro (z42 _) trivial)))):a:=h
theorem vw(h:a:=by exact(And.intro (And.intro rfl rfl) (And.intro (Gs _) (And.intro (Gr _) (And.intro (And.intro rfl rfl) trivial))))):a:=h
theorem vz(h:a:=by exact(And.intro (show(0:Nat)< 2 by decide) (And.intro (z42 _) (And.intro (lw _) (And.intro (show(1:Nat)< 2 by decide) trivial))))):a:=h
theorem Z6(h:a:=by exact(And.intro (And.intro rfl rfl) (And.intro (Gs _) (And.intro (Gr _) trivial)))):a:=h
theorem Z7(h:a:=by exact(And.intro (show(0:Nat)< 1 by decide) (And.intro (z42 _) (And.intro (lw _) trivial)))):a:=h
theorem QI(h:a:=by exact(And.intro (And.intro rfl rfl) (And.intro (Gr _) (And.intro (Gr _) (And.intro (And.intro rfl rfl) (And.intro (And.intro rfl rfl) trivial)))))):a:=h
theorem QJ(h:a:=by exact(And.intro (show(0:Nat)< 3 by decide) (And.intro (lw _) (And.intro (lw _) (And.intro (show(1:Nat)< 3 by decide) (And.intro (show(2:Nat)< 3 by decide) trivial)))))):a:=h
theorem N5(h:a:=by exact(And.intro (And.intro rfl rfl) (And.intro (Gr _) (And.intro (Gr _) (And.intro (And.intro rfl rfl) trivial))))):a:=h
theorem N6(h:a:=by exact(And.intro (show(0:Nat)< 2 by decide) (And.intro (lw _) (And.intro (lw _) (And.intro (show(1:Nat)< 2 by decide) trivial))))):a:=h
theorem y31(h:a:=by exact(And.intro (And.intro rfl rfl) (And.intro (Gr _) (And.intro (Gr _) trivial)))):a:=h
theorem y32(h:a:=by exact(And.intro (show(0:Nat)< 1 by decide) (And.intro (lw _) (And.intro (lw _) trivial)))):a:=h
end
open Go.Aut
attribute [local irreducible] eG z12 zl au gz cr jE af jL aA jf mh
noncomputable def Ug:Ctx:={ P:=Tryd.prog,ty:=ty,glob:=gl,fs:=[(25,.flat Gn),(32,.data Lt),(33,.data PY),(34,.data UL),(41,.data TJ),(35,.flat KG),(38,.data (TI 36 xP 39 xQ))] }
theorem fB:Ug.OK:=⟨dS,⟨⟨bX Tryd.func25 aN rfl,z70⟩,⟨bX Tryd.func32 aN rfl,Mj⟩,⟨bX Tryd.func33 aN rfl,Re⟩,⟨bX Tryd.func34 aN rfl,Yb⟩,⟨bX Tryd.func41 aN rfl,XR⟩,⟨bX Tryd.func35 aN rfl,yC⟩,⟨bX Tryd.func38 aN rfl,XP (bX Tryd.func36 aN rfl) DI (bX Tryd.func39 aN rfl) DJ (by decide)⟩,trivial⟩,mixed⟩
@[simp] theorem Uh:Ug.ty=ty:=rfl

theorem u6{ty:Nat->Ty}{H:Heap}{is:List Nat}{ρ:Nat->Nat}:bR (Cell.to ty H is ρ) zl (List.replicate 257 (Cell.int .i64 0)++List.replicate 2 .nils):=by
  have h:= @mo ty H is ρ
  unfold zl at h ⊢;exact h
theorem CE{ty:Nat->Ty}{H:Heap}{is:List Nat}{ρ:Nat->Nat}:bR (Cell.to ty H is ρ) (List.replicate 257 (Cell.int .i64 0)++List.replicate 2 .nils) (List.replicate 257 (Cell.int .i64 0)++List.replicate 2 .nils):=by
  have h:= @mo ty H is ρ
  unfold zl at h;exact h
theorem CB{n:Nat}:(aB.cells (List.replicate 257 (Cell.int .i64 0)++List.replicate 2 .nils)).low n:=by
  have h:= @MR n
  unfold zl at h;exact h
theorem Gr{ty:Nat->Ty}{H:Heap}{is:List Nat}{ρ:Nat->Nat}(d:Dfa):SV.to ty H is ρ (.agg (eB d)) (.agg (eB d)):=And.intro (And.intro rfl rfl) (And.intro (And.intro rfl rfl) (And.intro (And.intro rfl rfl) trivial))
theorem Gs{ty:Nat->Ty}{H:Heap}{is:List Nat}{ρ:Nat->Nat}(t:Tab):SV.to ty H is ρ (bu t) (bu t):=sj ⟨rfl,rfl⟩ ⟨rfl,rfl⟩
theorem Gt{ty:Nat->Ty}{H:Heap}{is:List Nat}{ρ:Nat->Nat}:bR (Cell.to ty H is ρ) [.nils,.nils,.nils] [.nils,.nils,.nils]:=And.intro trivial (And.intro trivial (And.intro trivial trivial))
theorem CU{n:Nat}:(aB.cells [.nils,.nils,.nils]).low n:=low_cons' trivial (low_cons' trivial (low_cons' trivial low_nil'))
def Yh:aW:=fun vs K=>∃ d e:Dfa,vs=[df d,df e]/\(d.wf/\e.wf)/\K (lX (z44 d e))
theorem zm4:jr Tryd.prog gl 14 Yh:=by
 refine kJ (Γ:=Ug) (N:=57) Tryd.func14 rfl rfl fun vs K h=>?_;obtain⟨d,e,rfl,⟨hd,he⟩,h⟩:=h;refine⟨_,h,ib _,by simp,fun w I=>?_⟩;refine aO fB fun _ K2=>?_
 iterate 4 refine nA ?_
 refine aJ K2 (aH fun _ K3=>aO fB fun _ K5=>nA ?_);refine Bo ?_;refine⟨d,rfl,hd,dW ?_⟩
 first|refine aL ?_|(intro cap1 hcap1;refine aL ?_)
 refine nA ?_;refine Bo ?_;refine fO (fun hb3=>?_) (fun hb3=>?_)
 ·try simp only[dQ,reduceIte]at hb3
  iterate 3 refine sN ?_
  refine nA ?_;refine aJ K5 (bC (b:=_) rfl (fun _=>?_) (fun h_t21=>?_))
  rotate_left 1
  ·exfalso;simp at h_t21
  refine aO fB fun _ K7=>nA ?_;refine CS ?_;refine nA ?_;refine aJ K7 ?_
  have hno:¬ (eQ d=true/\eQ e=true):=by intro hh;simp_all
  rw[z44,if_neg hno];refine bQ (gT fB (fun _ _ h=>h) (ib _) [] [.cell 4 30,.tmp 5] rfl ?_)
  repeat first|refine aI (by first|exact trivial|rfl|exact⟨rfl,rfl⟩|decide) ?_|refine bW (by first|rfl|decide) ?_|refine dC (by first|rfl|decide) ?_
  all_goals exact ol
 ·try simp only[dQ,reduceIte]at hb3
  refine zwc ?_;refine y2x ?_;refine⟨e,rfl,he,dW ?_⟩
  first|refine aL ?_|(intro cap5 hcap5;refine aL ?_)
  refine zwc ?_;refine nA ?_;refine aJ K5 (bC (b:=_) rfl (fun h_t21=>?_) (fun h_t21=>?_))
  ·try simp only[dQ,reduceIte]at h_t21
   refine aO fB fun _ K9=>nA ?_;refine CS ?_;refine nA ?_;refine aJ K9 ?_
   have hno:¬ (eQ d=true/\eQ e=true):=by intro hh;simp_all
   rw[z44,if_neg hno];refine bQ (gT fB (fun _ _ h=>h) (ib _) [] [.cell 4 30,.tmp 5] rfl ?_)
   repeat first|refine aI (by first|exact trivial|rfl|exact⟨rfl,rfl⟩|decide) ?_|refine bW (by first|rfl|decide) ?_|refine dC (by first|rfl|decide) ?_
   all_goals exact ol
  ·try simp only[dQ,reduceIte]at h_t21
   refine bK (K3 _ _ _ (aH fun _ K10=>?_))
   have hvd:eQ d=true:=by simp_all
   have hve:eQ e=true:=by simp_all
   have hgd:=(z22 hd).1 hvd
   have hge:=(z22 he).1 hve
   have gd:=Bn hgd
   have ge:=Bn hge
   have hx:=kS gd.1
   have hy:=kS ge.1
   have hcc:∀ w,Bytes w->_:=fun w hw=>ZZ hgd hge hw
   obtain⟨x,hxe⟩:∃ x,x=(ag (af (aT d))):=⟨_,rfl⟩;obtain⟨y,hye⟩:∃ y,y=(ag (af (aT e))):=⟨_,rfl⟩;rw[<-hxe]at hx hcc;rw[<-hye]at hy hcc
   have hex:=xS hx hy
   refine QT fB (mr 2 #[true,true,true,true,true,true,true,true,true,true,false,false] [(4,.c (.ptr 0 0)),(26,bu x),(30,bu y),(6,.c (.ptr 1 0)),(7,.c (.ptr 2 0))] [(0,.own 30 (.cells [.nils,.nils,.nils]) 3),(1,.own 56 (.cells (List.replicate 257 (.int .i64 0)++List.replicate 2 .nils)) (aB.len (.cells (List.replicate 257 (.int .i64 0)++List.replicate 2 .nils)))),(2,.own 56 (.cells (List.replicate 257 (.int .i64 0)++List.replicate 2 .nils)) (aB.len (.cells (List.replicate 257 (.int .i64 0)++List.replicate 2 .nils))))] 3 ?_ fun nd_1_2_3_5_6_7_8_9=>?_)
   ·refine lK fB (g:=0) aN [(10,false),(11,false)] aN fun _ K12=>?_
    iterate 2 refine TN ?_
    refine iF K12 (z24 aN (K10 _ _ _ (fQ [1,2] id [(4,.c (.ptr 0 0)),(6,.c (jN x)),(7,.c (jN y))] [(0,.own 30 (.cells [.nils,.nils,.nils]) 3)] 1 [0] ol ol ol ol (aO fB fun _ K14=>Bo ?_))));refine aU (bu x) (SV.as_refl _) (Bo ?_);refine aU (bu y) (SV.as_refl _) (Bo ?_);refine aI (lu _) (lz _ (aI (lu _) (lz _ ⟨x,y,rfl,⟨hx,hy⟩,?_⟩)))
    simp only[pW]
    refine dW ?_
    first|refine aL ?_|(intro cap2 hcap2;refine aL ?_)
    iterate 4 refine nA ?_
    refine CS ?_;refine nA ?_;refine aJ K14 (fQ [1] id [(4,.c (.ptr 0 0)),(6,.c (jN x)),(7,.c (jN y)),(8,.c (.dp (.ints .i64 (jL x y 256)) 0)),(9,.c (.ds (aA (cN x) (cN y)).length (.ints .i64 (aG (aA (cN x) (cN y))))))] [(0,.own 30 (.cells [.nils,.nils,.nils]) 3)] 1 [0] ol ol ol ol (aO fB fun _ K16=>?_))
    iterate 2 refine nA ?_
    refine CS ?_;refine aJ K16 (fQ [1] id [(4,.c (.ptr 0 0)),(6,.c (jN x)),(7,.c (jN y)),(8,.c (.dp (.ints .i64 (jL x y 256)) 0)),(9,.c (.ds (aA (cN x) (cN y)).length (.ints .i64 (aG (aA (cN x) (cN y)))))),(10,.c (sH x))] [(0,.own 30 (.cells [.nils,.nils,.nils]) 3)] 1 [0] ol ol ol ol (aO fB fun _ K18=>?_))
    iterate 2 refine nA ?_
    refine aJ K18 (aH fun _ K19=>QT fB (lK fB (g:=8) aN [(0,true),(1,true),(2,true),(3,true),(5,true),(6,true)] aN fun _ K21=>zwd ?_));refine aU (.agg (.ints .i64 (jL x y 256))) (SV.as_refl _) ?_
    iterate 2 refine Gp ?_
    refine zwd ?_;refine aU (jW (0,0,0)) (bq rfl) ?_
    iterate 2 refine Gp ?_
    refine iF K21 (ji [4,11] aN (by decide) (List.forall_mem_cons.2 ⟨?_,List.forall_mem_cons.2 ⟨?_,fun _ h=>by cases h⟩⟩))
    ·refine dY fB ?_
     refine dW ?_;refine aI (nT _) ⟨x,(0,0,0),rfl,⟨hx,hx.1.npos⟩,dW ?_⟩
     first|refine aU (jW (aX x)) (SV.as_refl _) ?_|(intro cap4 hcap4;refine aU (jW (aX x)) (SV.as_refl _) ?_)
     refine ji [7,11] aN (by decide) (List.forall_mem_cons.2 ⟨?_,List.forall_mem_cons.2 ⟨?_,fun _ h=>by cases h⟩⟩)
     ·refine dY fB ?_
      refine dW ?_;refine aI (nT _) (aI (Ke _ _) (aI (zX _) ⟨aV x y,d9 y,nE x,jL x y 256,aA (cN x) (cN y),aX x,[sH x,jN x,jN y],[jN y],4096,rfl,hex,?_⟩))
      have hrc:(jf (aV x y) (d9 y) (jL x y 256) (aA (cN x) (cN y)) (aX x) 4096).1.cell.length=256:=Tf (fI x y 256)
      have hry:(jf (aV x y) (d9 y) (jL x y 256) (aA (cN x) (cN y)) (aX x) 4096).2=true->(jf (aV x y) (d9 y) (jL x y 256) (aA (cN x) (cN y)) (aX x) 4096).1.fit/\_:=fun hh=>(Iz (by decide) (fun s c hc=>Pd s hc) hcc (J6 hh)).imp_right And.right
      have hrn:(jf (aV x y) (d9 y) (jL x y 256) (aA (cN x) (cN y)) (aX x) 4096).2=false->_:=fun hh=>tY hh
      have hrs:(jf (aV x y) (d9 y) (jL x y 256) (aA (cN x) (cN y)) (aX x) 4096).2=true->_:=fun hh=>J6 hh
      obtain⟨r,hr⟩:∃ r,r=(jf (aV x y) (d9 y) (jL x y 256) (aA (cN x) (cN y)) (aX x) 4096):=⟨_,rfl⟩;rw[<-hr]at hrc hry hrn hrs ⊢;refine dW ?_
      first|refine aL ?_|(intro cap7 hcap7;refine aL ?_)
      refine lK fB (g:=0) aN [(8,true),(9,true),(10,true),(11,false),(12,false),(13,true)] aN fun _ K22=>?_
      iterate 3 refine Gp ?_
      refine Do ?_;refine TN ?_;refine Gp ?_;refine iF K22 (z24 aN (K19 _ _ _ (aH fun _ K23=>aO fB fun _ K25=>?_)))
      iterate 2 refine nA ?_
      refine aJ K25 (bC (b:=_) rfl (fun h_t51=>?_) (fun h_t51=>?_))
      ·try simp only[dQ,reduceIte]at h_t51
       refine aO fB fun _ K27=>nA ?_;refine CS ?_;refine nA ?_;refine aJ K27 ?_
       have hyes:eQ d=true/\eQ e=true:=⟨hvd,hve⟩
       rw[z44,if_pos hyes, <-hxe, <-hye,if_pos (hrn (by simpa using h_t51))];refine bQ (gT fB (fun _ _ h=>h) (ib _) [] [.cell 4 30,.tmp 5] rfl ?_)
       repeat first|refine aI (by first|exact trivial|rfl|exact⟨rfl,rfl⟩|decide) ?_|refine bW (by first|rfl|decide) ?_|refine dC (by first|rfl|decide) ?_
       all_goals exact ol
      ·try simp only[dQ,reduceIte]at h_t51
       refine bK (K23 _ _ _ ?_)
       have hr2:r.2=true:=by simpa using h_t51
       obtain⟨hrf,hrcan⟩:=hry hr2;refine aO fB fun _ K29=>Bo ?_;refine aU (bu r.1) (SV.as_refl _) (Bo ?_);refine aI (lu _) (lz _ ⟨r.1,rfl,hrf,?_⟩);rw[hrcan]
       simp only[pW]
       refine dW ?_
       first|refine aL ?_|(intro cap1 hcap1;refine aL ?_)
       iterate 2 refine nA ?_
       refine CS ?_;refine nA ?_;refine aJ K29 ?_
       have hyes:eQ d=true/\eQ e=true:=⟨hvd,hve⟩
       rw[z44,if_pos hyes, <-hxe, <-hye,if_neg (hrs hr2)];refine bQ (gT fB (fun _ _ h=>h) (ib _) [] [.cell 4 30,.tmp 5] rfl ?_)
       repeat first|refine aI (by first|exact trivial|rfl|exact⟨rfl,rfl⟩|decide) ?_|refine bW (by first|rfl|decide) ?_|refine dC (by first|rfl|decide) ?_
       all_goals exact ol
     ·refine dY fB ?_
      refine dW ?_;refine aL (lK fB (g:=0) aN [(7,false),(8,true),(9,true),(10,true),(12,false),(13,true)] aN fun _ K30=>Xw ?_);refine aI (nT _) (aI (Ke _ _) (aI (zX _) ⟨aV x y,d9 y,nE x,jL x y 256,aA (cN x) (cN y),aX x,[sH x,jN x,jN y],[jN y],4096,rfl,hex,?_⟩))
      have hrc:(jf (aV x y) (d9 y) (jL x y 256) (aA (cN x) (cN y)) (aX x) 4096).1.cell.length=256:=Tf (fI x y 256)
      have hry:(jf (aV x y) (d9 y) (jL x y 256) (aA (cN x) (cN y)) (aX x) 4096).2=true->(jf (aV x y) (d9 y) (jL x y 256) (aA (cN x) (cN y)) (aX x) 4096).1.fit/\_:=fun hh=>(Iz (by decide) (fun s c hc=>Pd s hc) hcc (J6 hh)).imp_right And.right
      have hrn:(jf (aV x y) (d9 y) (jL x y 256) (aA (cN x) (cN y)) (aX x) 4096).2=false->_:=fun hh=>tY hh
      have hrs:(jf (aV x y) (d9 y) (jL x y 256) (aA (cN x) (cN y)) (aX x) 4096).2=true->_:=fun hh=>J6 hh
      obtain⟨r,hr⟩:∃ r,r=(jf (aV x y) (d9 y) (jL x y 256) (aA (cN x) (cN y)) (aX x) 4096):=⟨_,rfl⟩;rw[<-hr]at hrc hry hrn hrs ⊢;refine dW ?_
      first|refine aL ?_|(intro cap7 hcap7;refine aL ?_)
      iterate 3 refine Gp ?_
      refine TN ?_;refine Gp ?_;refine iF K30 (z24 aN (K19 _ _ _ (aH fun _ K31=>aO fB fun _ K33=>?_)))
      iterate 2 refine nA ?_
      refine aJ K33 (bC (b:=_) rfl (fun h_t51=>?_) (fun h_t51=>?_))
      ·try simp only[dQ,reduceIte]at h_t51
       refine aO fB fun _ K35=>nA ?_;refine CS ?_;refine nA ?_;refine aJ K35 ?_
       have hyes:eQ d=true/\eQ e=true:=⟨hvd,hve⟩
       rw[z44,if_pos hyes, <-hxe, <-hye,if_pos (hrn (by simpa using h_t51))];refine bQ (gT fB (fun _ _ h=>h) (ib _) [] [.cell 4 30,.tmp 5] rfl ?_)
       repeat first|refine aI (by first|exact trivial|rfl|exact⟨rfl,rfl⟩|decide) ?_|refine bW (by first|rfl|decide) ?_|refine dC (by first|rfl|decide) ?_
       all_goals exact ol
      ·try simp only[dQ,reduceIte]at h_t51
       refine bK (K31 _ _ _ ?_)
       have hr2:r.2=true:=by simpa using h_t51
       obtain⟨hrf,hrcan⟩:=hry hr2;refine aO fB fun _ K37=>Bo ?_;refine aU (bu r.1) (SV.as_refl _) (Bo ?_);refine aI (lu _) (lz _ ⟨r.1,rfl,hrf,?_⟩);rw[hrcan]
       simp only[pW]
       refine dW ?_
       first|refine aL ?_|(intro cap1 hcap1;refine aL ?_)
       iterate 2 refine nA ?_
       refine CS ?_;refine nA ?_;refine aJ K37 ?_
       have hyes:eQ d=true/\eQ e=true:=⟨hvd,hve⟩
       rw[z44,if_pos hyes, <-hxe, <-hye,if_neg (hrs hr2)];refine bQ (gT fB (fun _ _ h=>h) (ib _) [] [.cell 4 30,.tmp 5] rfl ?_)
       repeat first|refine aI (by first|exact trivial|rfl|exact⟨rfl,rfl⟩|decide) ?_|refine bW (by first|rfl|decide) ?_|refine dC (by first|rfl|decide) ?_
       all_goals exact ol
    ·refine dY fB ?_
     refine dW ?_;refine aL (lK fB (g:=0) aN [(4,false),(7,false),(8,true),(9,true),(10,true),(12,false),(13,true)] aN fun _ K38=>Xw ?_);refine aI (nT _) ⟨x,(0,0,0),rfl,⟨hx,hx.1.npos⟩,dW ?_⟩
     first|refine aU (jW (aX x)) (SV.as_refl _) ?_|(intro cap4 hcap4;refine aU (jW (aX x)) (SV.as_refl _) ?_)
     refine Xw ?_;refine aI (nT _) (aI (Ke _ _) (aI (zX _) ⟨aV x y,d9 y,nE x,jL x y 256,aA (cN x) (cN y),aX x,[sH x,jN x,jN y],[jN y],4096,rfl,hex,?_⟩))
     have hrc:(jf (aV x y) (d9 y) (jL x y 256) (aA (cN x) (cN y)) (aX x) 4096).1.cell.length=256:=Tf (fI x y 256)
     have hry:(jf (aV x y) (d9 y) (jL x y 256) (aA (cN x) (cN y)) (aX x) 4096).2=true->(jf (aV x y) (d9 y) (jL x y 256) (aA (cN x) (cN y)) (aX x) 4096).1.fit/\_:=fun hh=>(Iz (by decide) (fun s c hc=>Pd s hc) hcc (J6 hh)).imp_right And.right
     have hrn:(jf (aV x y) (d9 y) (jL x y 256) (aA (cN x) (cN y)) (aX x) 4096).2=false->_:=fun hh=>tY hh
     have hrs:(jf (aV x y) (d9 y) (jL x y 256) (aA (cN x) (cN y)) (aX x) 4096).2=true->_:=fun hh=>J6 hh
     obtain⟨r,hr⟩:∃ r,r=(jf (aV x y) (d9 y) (jL x y 256) (aA (cN x) (cN y)) (aX x) 4096):=⟨_,rfl⟩;rw[<-hr]at hrc hry hrn hrs ⊢;refine dW ?_
     first|refine aL ?_|(intro cap7 hcap7;refine aL ?_)
     iterate 3 refine Gp ?_
     refine TN ?_;refine Gp ?_;refine iF K38 (z24 aN (K19 _ _ _ (aH fun _ K39=>aO fB fun _ K41=>?_)))
     iterate 2 refine nA ?_
     refine aJ K41 (bC (b:=_) rfl (fun h_t51=>?_) (fun h_t51=>?_))
     ·try simp only[dQ,reduceIte]at h_t51
      refine aO fB fun _ K43=>nA ?_;refine CS ?_;refine nA ?_;refine aJ K43 ?_
      have hyes:eQ d=true/\eQ e=true:=⟨hvd,hve⟩
      rw[z44,if_pos hyes, <-hxe, <-hye,if_pos (hrn (by simpa using h_t51))];refine bQ (gT fB (fun _ _ h=>h) (ib _) [] [.cell 4 30,.tmp 5] rfl ?_)
      repeat first|refine aI (by first|exact trivial|rfl|exact⟨rfl,rfl⟩|decide) ?_|refine bW (by first|rfl|decide) ?_|refine dC (by first|rfl|decide) ?_
      all_goals exact ol
     ·try simp only[dQ,reduceIte]at h_t51
      refine bK (K39 _ _ _ ?_)
      have hr2:r.2=true:=by simpa using h_t51
      obtain⟨hrf,hrcan⟩:=hry hr2;refine aO fB fun _ K45=>Bo ?_;refine aU (bu r.1) (SV.as_refl _) (Bo ?_);refine aI (lu _) (lz _ ⟨r.1,rfl,hrf,?_⟩);rw[hrcan]
      simp only[pW]
      refine dW ?_
      first|refine aL ?_|(intro cap1 hcap1;refine aL ?_)
      iterate 2 refine nA ?_
      refine CS ?_;refine nA ?_;refine aJ K45 ?_
      have hyes:eQ d=true/\eQ e=true:=⟨hvd,hve⟩
      rw[z44,if_pos hyes, <-hxe, <-hye,if_neg (hrs hr2)];refine bQ (gT fB (fun _ _ h=>h) (ib _) [] [.cell 4 30,.tmp 5] rfl ?_)
      repeat first|refine aI (by first|exact trivial|rfl|exact⟨rfl,rfl⟩|decide) ?_|refine bW (by first|rfl|decide) ?_|refine dC (by first|rfl|decide) ?_
      all_goals exact ol
   refine mr 3 #[true,true,true,true,true,true,true,true,true,false,false,false] [(4,.c (.ptr 0 0)),(26,bu x),(30,bu y),(6,.c (.ptr 1 0))] [(0,.own 30 (.cells [.nils,.nils,.nils]) 3),(1,.own 56 (.cells zl) 259)] 2 ?_ fun nd_1_2_3_5_6_7_8=>?_
   ·refine ji [9] aN (by decide) (List.forall_mem_cons.2 ⟨?_,fun _ h=>by cases h⟩)
    ·refine dY fB ?_
     refine dW ?_;refine aL (dI [] (fun i=>i) [0,1,2] nd_1_2_3_5_6_7_8_9 aN ?_ ?_ ?_ ?_)
     ·exact Nr
     ·exact(And.intro (And.intro List.not_mem_nil (And.intro rfl (And.intro rfl Gt))) (And.intro (And.intro List.not_mem_nil (And.intro rfl (And.intro zl_len'.symm u6))) (And.intro (And.intro List.not_mem_nil (And.intro rfl (And.intro rfl CE))) trivial)))
     ·exact Ns
     ·exact WJ
   refine mr 3 #[true,true,true,true,true,true,true,true,false,true,false,false] [(4,.c (.ptr 0 0)),(26,bu x),(30,bu y),(7,.c (.ptr 1 0))] [(0,.own 30 (.cells [.nils,.nils,.nils]) 3),(1,.own 56 (.cells zl) 259)] 2 ?_ fun nd_1_2_3_5_6_7_9=>?_
   ·refine ji [8] aN (by decide) (List.forall_mem_cons.2 ⟨?_,fun _ h=>by cases h⟩)
    ·refine dY fB ?_
     refine dW ?_;refine aL (dI [] (fun i=>if i=1 then 2 else if i=2 then 1 else i) [0,2,1] nd_1_2_3_5_6_7_8_9 aN ?_ ?_ ?_ ?_)
     ·exact Nr
     ·exact(And.intro (And.intro List.not_mem_nil (And.intro rfl (And.intro rfl Gt))) (And.intro (And.intro List.not_mem_nil (And.intro rfl (And.intro rfl CE))) (And.intro (And.intro List.not_mem_nil (And.intro rfl (And.intro zl_len'.symm u6))) trivial)))
     ·exact Ns
     ·exact WJ
   refine mr 3 #[true,true,true,true,true,true,true,false,true,true,false,false] [(4,.c (.ptr 0 0)),(26,bu x),(29,df (af (aT e))),(6,.c (.ptr 1 0)),(7,.c (.ptr 2 0))] [(0,.own 30 (.cells [.nils,.nils,.nils]) 3),(1,.own 56 (.cells zl) 259),(2,.own 56 (.cells zl) 259)] 3 ?_ fun nd_1_2_3_5_6_8_9=>?_
   ·refine ji [7] aN (by decide) (List.forall_mem_cons.2 ⟨?_,fun _ h=>by cases h⟩)
    ·refine dY fB ?_
     refine dW ?_;refine⟨af (aT e),rfl,ge.1,?_⟩;rw[<-hye];refine dW ?_
     first|refine aL ?_|(intro cap7 hcap7;refine aL ?_)
     refine dI [] (fun i=>i) [0,1,2] nd_1_2_3_5_6_7_8_9 aN ?_ ?_ ?_ ?_
     ·exact Nr
     ·exact(And.intro (And.intro List.not_mem_nil (And.intro rfl (And.intro rfl Gt))) (And.intro (And.intro List.not_mem_nil (And.intro rfl (And.intro zl_len'.symm u6))) (And.intro (And.intro List.not_mem_nil (And.intro rfl (And.intro zl_len'.symm u6))) trivial)))
     ·exact Ns
     ·exact WJ
   refine mr 4 #[true,true,true,true,true,true,true,true,false,false,false,false] [(4,.c (.ptr 0 0)),(26,bu x),(30,bu y)] [(0,.own 30 (.cells [.nils,.nils,.nils]) 3)] 1 ?_ fun nd_1_2_3_5_6_7=>?_
   ·refine ji [8,9] aN (by decide) (List.forall_mem_cons.2 ⟨?_,List.forall_mem_cons.2 ⟨?_,fun _ h=>by cases h⟩⟩)
    ·refine dY fB ?_
     refine dW ?_;refine aL (dI [] (fun i=>i) [0,1] nd_1_2_3_5_6_7_8 aN ?_ ?_ ?_ ?_)
     ·exact J8
     ·exact uZ
     ·exact Ja
     ·exact z48
    ·refine dY fB ?_
     refine dW ?_;refine aL (dI [] (fun i=>i) [0,1] nd_1_2_3_5_6_7_9 aN ?_ ?_ ?_ ?_)
     ·exact J8
     ·exact uZ
     ·exact Ja
     ·exact z48
   refine mr 4 #[true,true,true,true,true,true,true,false,true,false,false,false] [(4,.c (.ptr 0 0)),(26,bu x),(29,df (af (aT e))),(6,.c (.ptr 1 0))] [(0,.own 30 (.cells [.nils,.nils,.nils]) 3),(1,.own 56 (.cells zl) 259)] 2 ?_ fun nd_1_2_3_5_6_8=>?_
   ·refine ji [7,9] aN (by decide) (List.forall_mem_cons.2 ⟨?_,List.forall_mem_cons.2 ⟨?_,fun _ h=>by cases h⟩⟩)
    ·refine dY fB ?_
     refine dW ?_;refine⟨af (aT e),rfl,ge.1,?_⟩;rw[<-hye];refine dW ?_
     first|refine aL ?_|(intro cap7 hcap7;refine aL ?_)
     refine dI [] (fun i=>i) [0,1] nd_1_2_3_5_6_7_8 aN ?_ ?_ ?_ ?_
     ·exact J8
     ·exact wG
     ·exact Ja
     ·exact z48
    ·refine dY fB ?_
     refine dW ?_;refine aL (dI [] (fun i=>i) [0,1,2] nd_1_2_3_5_6_8_9 aN ?_ ?_ ?_ ?_)
     ·exact HZ
     ·exact Nt
     ·exact Gq
     ·exact rZ
   refine mr 4 #[true,true,true,true,true,true,true,false,false,true,false,false] [(4,.c (.ptr 0 0)),(26,bu x),(29,df (af (aT e))),(7,.c (.ptr 1 0))] [(0,.own 30 (.cells [.nils,.nils,.nils]) 3),(1,.own 56 (.cells zl) 259)] 2 ?_ fun nd_1_2_3_5_6_9=>?_
   ·refine ji [7,8] aN (by decide) (List.forall_mem_cons.2 ⟨?_,List.forall_mem_cons.2 ⟨?_,fun _ h=>by cases h⟩⟩)
    ·refine dY fB ?_
     refine dW ?_;refine⟨af (aT e),rfl,ge.1,?_⟩;rw[<-hye];refine dW ?_
     first|refine aL ?_|(intro cap7 hcap7;refine aL ?_)
     refine dI [] (fun i=>i) [0,1] nd_1_2_3_5_6_7_9 aN ?_ ?_ ?_ ?_
     ·exact J8
     ·exact wG
     ·exact Ja
     ·exact z48
    ·refine dY fB ?_
     refine dW ?_;refine aL (dI [] (fun i=>if i=1 then 2 else if i=2 then 1 else i) [0,2,1] nd_1_2_3_5_6_8_9 aN ?_ ?_ ?_ ?_)
     ·exact HZ
     ·exact NZ
     ·exact Gq
     ·exact rZ
   refine mr 4 #[true,true,true,true,true,true,false,false,true,true,false,false] [(4,.c (.ptr 0 0)),(26,bu x),(28,bu (ag e)),(6,.c (.ptr 1 0)),(7,.c (.ptr 2 0))] [(0,.own 30 (.cells [.nils,.nils,.nils]) 3),(1,.own 56 (.cells zl) 259),(2,.own 56 (.cells zl) 259)] 3 ?_ fun nd_1_2_3_5_8_9=>?_
   ·refine ji [6] aN (by decide) (List.forall_mem_cons.2 ⟨?_,fun _ h=>by cases h⟩)
    ·refine dY fB ?_
     refine dW ?_;refine aI (lu _) (lz _ ⟨ag e,rfl,kS hge,?_⟩);rw[vg]
     simp only[pW]
     refine dW ?_
     first|refine aL ?_|(intro cap6 hcap6;refine aL ?_)
     refine dI [] (fun i=>i) [0,1,2] nd_1_2_3_5_6_8_9 aN ?_ ?_ ?_ ?_
     ·exact HZ
     ·exact QH
     ·exact Gq
     ·exact rZ
   refine mr 5 #[true,true,true,true,true,true,true,false,false,false,false,false] [(4,.c (.ptr 0 0)),(26,bu x),(29,df (af (aT e)))] [(0,.own 30 (.cells [.nils,.nils,.nils]) 3)] 1 ?_ fun nd_1_2_3_5_6=>?_
   ·refine ji [7,8,9] aN (by decide) (List.forall_mem_cons.2 ⟨?_,List.forall_mem_cons.2 ⟨?_,List.forall_mem_cons.2 ⟨?_,fun _ h=>by cases h⟩⟩⟩)
    ·refine dY fB ?_
     refine dW ?_;refine⟨af (aT e),rfl,ge.1,?_⟩;rw[<-hye];refine dW ?_
     first|refine aL ?_|(intro cap7 hcap7;refine aL ?_)
     refine dI [] (fun i=>i) [0] nd_1_2_3_5_6_7 aN ?_ ?_ ?_ ?_
     ·exact y2z
     ·exact MK
     ·exact y30
     ·exact(And.intro (And.intro (by decide) CU) trivial)
    ·refine dY fB ?_
     refine dW ?_;refine aL (dI [] (fun i=>i) [0,1] nd_1_2_3_5_6_8 aN ?_ ?_ ?_ ?_)
     ·exact vw
     ·exact uZ
     ·exact vz
     ·exact z48
    ·refine dY fB ?_
     refine dW ?_;refine aL (dI [] (fun i=>i) [0,1] nd_1_2_3_5_6_9 aN ?_ ?_ ?_ ?_)
     ·exact vw
     ·exact uZ
     ·exact vz
     ·exact z48
   refine mr 5 #[true,true,true,true,true,true,false,false,true,false,false,false] [(4,.c (.ptr 0 0)),(26,bu x),(28,bu (ag e)),(6,.c (.ptr 1 0))] [(0,.own 30 (.cells [.nils,.nils,.nils]) 3),(1,.own 56 (.cells zl) 259)] 2 ?_ fun nd_1_2_3_5_8=>?_
   ·refine ji [6,9] aN (by decide) (List.forall_mem_cons.2 ⟨?_,List.forall_mem_cons.2 ⟨?_,fun _ h=>by cases h⟩⟩)
    ·refine dY fB ?_
     refine dW ?_;refine aI (lu _) (lz _ ⟨ag e,rfl,kS hge,?_⟩);rw[vg]
     simp only[pW]
     refine dW ?_
     first|refine aL ?_|(intro cap6 hcap6;refine aL ?_)
     refine dI [] (fun i=>i) [0,1] nd_1_2_3_5_6_8 aN ?_ ?_ ?_ ?_
     ·exact vw
     ·exact wG
     ·exact vz
     ·exact z48
    ·refine dY fB ?_
     refine dW ?_;refine aL (dI [] (fun i=>i) [0,1,2] nd_1_2_3_5_8_9 aN ?_ ?_ ?_ ?_)
     ·exact Nr
     ·exact Nt
     ·exact Ns
     ·exact rZ
   refine mr 5 #[true,true,true,true,true,true,false,false,false,true,false,false] [(4,.c (.ptr 0 0)),(26,bu x),(28,bu (ag e)),(7,.c (.ptr 1 0))] [(0,.own 30 (.cells [.nils,.nils,.nils]) 3),(1,.own 56 (.cells zl) 259)] 2 ?_ fun nd_1_2_3_5_9=>?_
   ·refine ji [6,8] aN (by decide) (List.forall_mem_cons.2 ⟨?_,List.forall_mem_cons.2 ⟨?_,fun _ h=>by cases h⟩⟩)
    ·refine dY fB ?_
     refine dW ?_;refine aI (lu _) (lz _ ⟨ag e,rfl,kS hge,?_⟩);rw[vg]
     simp only[pW]
     refine dW ?_
     first|refine aL ?_|(intro cap6 hcap6;refine aL ?_)
     refine dI [] (fun i=>i) [0,1] nd_1_2_3_5_6_9 aN ?_ ?_ ?_ ?_
     ·exact vw
     ·exact wG
     ·exact vz
     ·exact z48
    ·refine dY fB ?_
     refine dW ?_;refine aL (dI [] (fun i=>if i=1 then 2 else if i=2 then 1 else i) [0,2,1] nd_1_2_3_5_8_9 aN ?_ ?_ ?_ ?_)
     ·exact Nr
     ·exact NZ
     ·exact Ns
     ·exact rZ
   refine mr 5 #[true,true,true,true,true,false,false,false,true,true,false,false] [(4,.c (.ptr 0 0)),(26,bu x),(27,.agg (eB e)),(6,.c (.ptr 1 0)),(7,.c (.ptr 2 0))] [(0,.own 30 (.cells [.nils,.nils,.nils]) 3),(1,.own 56 (.cells zl) 259),(2,.own 56 (.cells zl) 259)] 3 ?_ fun nd_1_2_3_8_9=>?_
   ·refine ji [5] aN (by decide) (List.forall_mem_cons.2 ⟨?_,fun _ h=>by cases h⟩)
    ·refine dY fB ?_
     refine dW ?_;refine⟨e,rfl,hge,dW ?_⟩
     first|refine aL ?_|(intro cap5 hcap5;refine aL ?_)
     refine dI [] (fun i=>i) [0,1,2] nd_1_2_3_5_8_9 aN ?_ ?_ ?_ ?_
     ·exact Nr
     ·exact QH
     ·exact Ns
     ·exact rZ
   refine mr 6 #[true,true,true,true,true,true,false,false,false,false,false,false] [(4,.c (.ptr 0 0)),(26,bu x),(28,bu (ag e))] [(0,.own 30 (.cells [.nils,.nils,.nils]) 3)] 1 ?_ fun nd_1_2_3_5=>?_
   ·refine ji [6,8,9] aN (by decide) (List.forall_mem_cons.2 ⟨?_,List.forall_mem_cons.2 ⟨?_,List.forall_mem_cons.2 ⟨?_,fun _ h=>by cases h⟩⟩⟩)
    ·refine dY fB ?_
     refine dW ?_;refine aI (lu _) (lz _ ⟨ag e,rfl,kS hge,?_⟩);rw[vg]
     simp only[pW]
     refine dW ?_
     first|refine aL ?_|(intro cap6 hcap6;refine aL ?_)
     refine dI [] (fun i=>i) [0] nd_1_2_3_5_6 aN ?_ ?_ ?_ ?_
     ·exact Z6
     ·exact MK
     ·exact Z7
     ·exact(And.intro (And.intro (by decide) CU) trivial)
    ·refine dY fB ?_
     refine dW ?_;refine aL (dI [] (fun i=>i) [0,1] nd_1_2_3_5_8 aN ?_ ?_ ?_ ?_)
     ·exact J8
     ·exact uZ
     ·exact Ja
     ·exact z48
    ·refine dY fB ?_
     refine dW ?_;refine aL (dI [] (fun i=>i) [0,1] nd_1_2_3_5_9 aN ?_ ?_ ?_ ?_)
     ·exact J8
     ·exact uZ
     ·exact Ja
     ·exact z48
   refine mr 6 #[true,true,true,true,true,false,false,false,true,false,false,false] [(4,.c (.ptr 0 0)),(26,bu x),(27,.agg (eB e)),(6,.c (.ptr 1 0))] [(0,.own 30 (.cells [.nils,.nils,.nils]) 3),(1,.own 56 (.cells zl) 259)] 2 ?_ fun nd_1_2_3_8=>?_
   ·refine ji [5,9] aN (by decide) (List.forall_mem_cons.2 ⟨?_,List.forall_mem_cons.2 ⟨?_,fun _ h=>by cases h⟩⟩)
    ·refine dY fB ?_
     refine dW ?_;refine⟨e,rfl,hge,dW ?_⟩
     first|refine aL ?_|(intro cap5 hcap5;refine aL ?_)
     refine dI [] (fun i=>i) [0,1] nd_1_2_3_5_8 aN ?_ ?_ ?_ ?_
     ·exact J8
     ·exact wG
     ·exact Ja
     ·exact z48
    ·refine dY fB ?_
     refine dW ?_;refine aL (dI [] (fun i=>i) [0,1,2] nd_1_2_3_8_9 aN ?_ ?_ ?_ ?_)
     ·exact HZ
     ·exact Nt
     ·exact Gq
     ·exact rZ
   refine mr 6 #[true,true,true,true,true,false,false,false,false,true,false,false] [(4,.c (.ptr 0 0)),(26,bu x),(27,.agg (eB e)),(7,.c (.ptr 1 0))] [(0,.own 30 (.cells [.nils,.nils,.nils]) 3),(1,.own 56 (.cells zl) 259)] 2 ?_ fun nd_1_2_3_9=>?_
   ·refine ji [5,8] aN (by decide) (List.forall_mem_cons.2 ⟨?_,List.forall_mem_cons.2 ⟨?_,fun _ h=>by cases h⟩⟩)
    ·refine dY fB ?_
     refine dW ?_;refine⟨e,rfl,hge,dW ?_⟩
     first|refine aL ?_|(intro cap5 hcap5;refine aL ?_)
     refine dI [] (fun i=>i) [0,1] nd_1_2_3_5_9 aN ?_ ?_ ?_ ?_
     ·exact J8
     ·exact wG
     ·exact Ja
     ·exact z48
    ·refine dY fB ?_
     refine dW ?_;refine aL (dI [] (fun i=>if i=1 then 2 else if i=2 then 1 else i) [0,2,1] nd_1_2_3_8_9 aN ?_ ?_ ?_ ?_)
     ·exact HZ
     ·exact NZ
     ·exact Gq
     ·exact rZ
   refine mr 6 #[true,true,true,false,true,false,false,false,true,true,false,false] [(4,.c (.ptr 0 0)),(25,df (af (aT d))),(27,.agg (eB e)),(6,.c (.ptr 1 0)),(7,.c (.ptr 2 0))] [(0,.own 30 (.cells [.nils,.nils,.nils]) 3),(1,.own 56 (.cells zl) 259),(2,.own 56 (.cells zl) 259)] 3 ?_ fun nd_1_2_8_9=>?_
   ·refine ji [3] aN (by decide) (List.forall_mem_cons.2 ⟨?_,fun _ h=>by cases h⟩)
    ·refine dY fB ?_
     refine dW ?_;refine⟨af (aT d),rfl,gd.1,?_⟩;rw[<-hxe];refine dW ?_
     first|refine aL ?_|(intro cap3 hcap3;refine aL ?_)
     refine dI [] (fun i=>i) [0,1,2] nd_1_2_3_8_9 aN ?_ ?_ ?_ ?_
     ·exact HZ
     ·exact QH
     ·exact Gq
     ·exact rZ
   refine mr 7 #[true,true,true,true,true,false,false,false,false,false,false,false] [(4,.c (.ptr 0 0)),(26,bu x),(27,.agg (eB e))] [(0,.own 30 (.cells [.nils,.nils,.nils]) 3)] 1 ?_ fun nd_1_2_3=>?_
   ·refine ji [5,8,9] aN (by decide) (List.forall_mem_cons.2 ⟨?_,List.forall_mem_cons.2 ⟨?_,List.forall_mem_cons.2 ⟨?_,fun _ h=>by cases h⟩⟩⟩)
    ·refine dY fB ?_
     refine dW ?_;refine⟨e,rfl,hge,dW ?_⟩
     first|refine aL ?_|(intro cap5 hcap5;refine aL ?_)
     refine dI [] (fun i=>i) [0] nd_1_2_3_5 aN ?_ ?_ ?_ ?_
     ·exact y2z
     ·exact MK
     ·exact y30
     ·exact(And.intro (And.intro (by decide) CU) trivial)
    ·refine dY fB ?_
     refine dW ?_;refine aL (dI [] (fun i=>i) [0,1] nd_1_2_3_8 aN ?_ ?_ ?_ ?_)
     ·exact vw
     ·exact uZ
     ·exact vz
     ·exact z48
    ·refine dY fB ?_
     refine dW ?_;refine aL (dI [] (fun i=>i) [0,1] nd_1_2_3_9 aN ?_ ?_ ?_ ?_)
     ·exact vw
     ·exact uZ
     ·exact vz
     ·exact z48
   refine mr 7 #[true,true,true,false,true,false,false,false,true,false,false,false] [(4,.c (.ptr 0 0)),(25,df (af (aT d))),(27,.agg (eB e)),(6,.c (.ptr 1 0))] [(0,.own 30 (.cells [.nils,.nils,.nils]) 3),(1,.own 56 (.cells zl) 259)] 2 ?_ fun nd_1_2_8=>?_
   ·refine ji [3,9] aN (by decide) (List.forall_mem_cons.2 ⟨?_,List.forall_mem_cons.2 ⟨?_,fun _ h=>by cases h⟩⟩)
    ·refine dY fB ?_
     refine dW ?_;refine⟨af (aT d),rfl,gd.1,?_⟩;rw[<-hxe];refine dW ?_
     first|refine aL ?_|(intro cap3 hcap3;refine aL ?_)
     refine dI [] (fun i=>i) [0,1] nd_1_2_3_8 aN ?_ ?_ ?_ ?_
     ·exact vw
     ·exact wG
     ·exact vz
     ·exact z48
    ·refine dY fB ?_
     refine dW ?_;refine aL (dI [] (fun i=>i) [0,1,2] nd_1_2_8_9 aN ?_ ?_ ?_ ?_)
     ·exact QI
     ·exact Nt
     ·exact QJ
     ·exact rZ
   refine mr 7 #[true,true,true,false,true,false,false,false,false,true,false,false] [(4,.c (.ptr 0 0)),(25,df (af (aT d))),(27,.agg (eB e)),(7,.c (.ptr 1 0))] [(0,.own 30 (.cells [.nils,.nils,.nils]) 3),(1,.own 56 (.cells zl) 259)] 2 ?_ fun nd_1_2_9=>?_
   ·refine ji [3,8] aN (by decide) (List.forall_mem_cons.2 ⟨?_,List.forall_mem_cons.2 ⟨?_,fun _ h=>by cases h⟩⟩)
    ·refine dY fB ?_
     refine dW ?_;refine⟨af (aT d),rfl,gd.1,?_⟩;rw[<-hxe];refine dW ?_
     first|refine aL ?_|(intro cap3 hcap3;refine aL ?_)
     refine dI [] (fun i=>i) [0,1] nd_1_2_3_9 aN ?_ ?_ ?_ ?_
     ·exact vw
     ·exact wG
     ·exact vz
     ·exact z48
    ·refine dY fB ?_
     refine dW ?_;refine aL (dI [] (fun i=>if i=1 then 2 else if i=2 then 1 else i) [0,2,1] nd_1_2_8_9 aN ?_ ?_ ?_ ?_)
     ·exact QI
     ·exact NZ
     ·exact QJ
     ·exact rZ
   refine mr 7 #[true,true,false,false,true,false,false,false,true,true,false,false] [(4,.c (.ptr 0 0)),(24,bu (ag d)),(27,.agg (eB e)),(6,.c (.ptr 1 0)),(7,.c (.ptr 2 0))] [(0,.own 30 (.cells [.nils,.nils,.nils]) 3),(1,.own 56 (.cells zl) 259),(2,.own 56 (.cells zl) 259)] 3 ?_ fun nd_1_8_9=>?_
   ·refine ji [2] aN (by decide) (List.forall_mem_cons.2 ⟨?_,fun _ h=>by cases h⟩)
    ·refine dY fB ?_
     refine dW ?_;refine aI (lu _) (lz _ ⟨ag d,rfl,kS hgd,?_⟩);rw[vg]
     simp only[pW]
     refine dW ?_
     first|refine aL ?_|(intro cap2 hcap2;refine aL ?_)
     refine dI [] (fun i=>i) [0,1,2] nd_1_2_8_9 aN ?_ ?_ ?_ ?_
     ·exact QI
     ·exact QH
     ·exact QJ
     ·exact rZ
   refine mr 8 #[true,true,true,false,true,false,false,false,false,false,false,false] [(4,.c (.ptr 0 0)),(25,df (af (aT d))),(27,.agg (eB e))] [(0,.own 30 (.cells [.nils,.nils,.nils]) 3)] 1 ?_ fun nd_1_2=>?_
   ·refine ji [3,8,9] aN (by decide) (List.forall_mem_cons.2 ⟨?_,List.forall_mem_cons.2 ⟨?_,List.forall_mem_cons.2 ⟨?_,fun _ h=>by cases h⟩⟩⟩)
    ·refine dY fB ?_
     refine dW ?_;refine⟨af (aT d),rfl,gd.1,?_⟩;rw[<-hxe];refine dW ?_
     first|refine aL ?_|(intro cap3 hcap3;refine aL ?_)
     refine dI [] (fun i=>i) [0] nd_1_2_3 aN ?_ ?_ ?_ ?_
     ·exact Z6
     ·exact MK
     ·exact Z7
     ·exact(And.intro (And.intro (by decide) CU) trivial)
    ·refine dY fB ?_
     refine dW ?_;refine aL (dI [] (fun i=>i) [0,1] nd_1_2_8 aN ?_ ?_ ?_ ?_)
     ·exact N5
     ·exact uZ
     ·exact N6
     ·exact z48
    ·refine dY fB ?_
     refine dW ?_;refine aL (dI [] (fun i=>i) [0,1] nd_1_2_9 aN ?_ ?_ ?_ ?_)
     ·exact N5
     ·exact uZ
     ·exact N6
     ·exact z48
   refine mr 8 #[true,true,false,false,true,false,false,false,true,false,false,false] [(4,.c (.ptr 0 0)),(24,bu (ag d)),(27,.agg (eB e)),(6,.c (.ptr 1 0))] [(0,.own 30 (.cells [.nils,.nils,.nils]) 3),(1,.own 56 (.cells zl) 259)] 2 ?_ fun nd_1_8=>?_
   ·refine ji [2,9] aN (by decide) (List.forall_mem_cons.2 ⟨?_,List.forall_mem_cons.2 ⟨?_,fun _ h=>by cases h⟩⟩)
    ·refine dY fB ?_
     refine dW ?_;refine aI (lu _) (lz _ ⟨ag d,rfl,kS hgd,?_⟩);rw[vg]
     simp only[pW]
     refine dW ?_
     first|refine aL ?_|(intro cap2 hcap2;refine aL ?_)
     refine dI [] (fun i=>i) [0,1] nd_1_2_8 aN ?_ ?_ ?_ ?_
     ·exact N5
     ·exact wG
     ·exact N6
     ·exact z48
    ·refine dY fB ?_
     refine dW ?_;refine aL (dI [] (fun i=>i) [0,1,2] nd_1_8_9 aN ?_ ?_ ?_ ?_)
     ·exact HZ
     ·exact Nt
     ·exact Gq
     ·exact rZ
   refine mr 8 #[true,true,false,false,true,false,false,false,false,true,false,false] [(4,.c (.ptr 0 0)),(24,bu (ag d)),(27,.agg (eB e)),(7,.c (.ptr 1 0))] [(0,.own 30 (.cells [.nils,.nils,.nils]) 3),(1,.own 56 (.cells zl) 259)] 2 ?_ fun nd_1_9=>?_
   ·refine ji [2,8] aN (by decide) (List.forall_mem_cons.2 ⟨?_,List.forall_mem_cons.2 ⟨?_,fun _ h=>by cases h⟩⟩)
    ·refine dY fB ?_
     refine dW ?_;refine aI (lu _) (lz _ ⟨ag d,rfl,kS hgd,?_⟩);rw[vg]
     simp only[pW]
     refine dW ?_
     first|refine aL ?_|(intro cap2 hcap2;refine aL ?_)
     refine dI [] (fun i=>i) [0,1] nd_1_2_9 aN ?_ ?_ ?_ ?_
     ·exact N5
     ·exact wG
     ·exact N6
     ·exact z48
    ·refine dY fB ?_
     refine dW ?_;refine aL (dI [] (fun i=>if i=1 then 2 else if i=2 then 1 else i) [0,2,1] nd_1_8_9 aN ?_ ?_ ?_ ?_)
     ·exact HZ
     ·exact NZ
     ·exact Gq
     ·exact rZ
   refine mr 8 #[true,false,false,false,true,false,false,false,true,true,false,false] [(4,.c (.ptr 0 0)),(23,.agg (eB d)),(27,.agg (eB e)),(6,.c (.ptr 1 0)),(7,.c (.ptr 2 0))] [(0,.own 30 (.cells [.nils,.nils,.nils]) 3),(1,.own 56 (.cells zl) 259),(2,.own 56 (.cells zl) 259)] 3 ?_ fun nd_8_9=>?_
   ·refine ji [1] aN (by decide) (List.forall_mem_cons.2 ⟨?_,fun _ h=>by cases h⟩)
    ·refine dY fB ?_
     refine dW ?_;refine⟨d,rfl,hgd,dW ?_⟩
     first|refine aL ?_|(intro cap1 hcap1;refine aL ?_)
     refine dI [] (fun i=>i) [0,1,2] nd_1_8_9 aN ?_ ?_ ?_ ?_
     ·exact HZ
     ·exact QH
     ·exact Gq
     ·exact rZ
   refine mr 9 #[true,true,false,false,true,false,false,false,false,false,false,false] [(4,.c (.ptr 0 0)),(24,bu (ag d)),(27,.agg (eB e))] [(0,.own 30 (.cells [.nils,.nils,.nils]) 3)] 1 ?_ fun nd_1=>?_
   ·refine ji [2,8,9] aN (by decide) (List.forall_mem_cons.2 ⟨?_,List.forall_mem_cons.2 ⟨?_,List.forall_mem_cons.2 ⟨?_,fun _ h=>by cases h⟩⟩⟩)
    ·refine dY fB ?_
     refine dW ?_;refine aI (lu _) (lz _ ⟨ag d,rfl,kS hgd,?_⟩);rw[vg]
     simp only[pW]
     refine dW ?_
     first|refine aL ?_|(intro cap2 hcap2;refine aL ?_)
     refine dI [] (fun i=>i) [0] nd_1_2 aN ?_ ?_ ?_ ?_
     ·exact y31
     ·exact MK
     ·exact y32
     ·exact(And.intro (And.intro (by decide) CU) trivial)
    ·refine dY fB ?_
     refine dW ?_;refine aL (dI [] (fun i=>i) [0,1] nd_1_8 aN ?_ ?_ ?_ ?_)
     ·exact vw
     ·exact uZ
     ·exact vz
     ·exact z48
    ·refine dY fB ?_
     refine dW ?_;refine aL (dI [] (fun i=>i) [0,1] nd_1_9 aN ?_ ?_ ?_ ?_)
     ·exact vw
     ·exact uZ
     ·exact vz
     ·exact z48
   refine mr 9 #[true,false,false,false,true,false,false,false,true,false,false,false] [(4,.c (.ptr 0 0)),(23,.agg (eB d)),(27,.agg (eB e)),(6,.c (.ptr 1 0))] [(0,.own 30 (.cells [.nils,.nils,.nils]) 3),(1,.own 56 (.cells zl) 259)] 2 ?_ fun nd_8=>?_
   ·refine ji [1,9] aN (by decide) (List.forall_mem_cons.2 ⟨?_,List.forall_mem_cons.2 ⟨?_,fun _ h=>by cases h⟩⟩)
    ·refine dY fB ?_
     refine dW ?_;refine⟨d,rfl,hgd,dW ?_⟩
     first|refine aL ?_|(intro cap1 hcap1;refine aL ?_)
     refine dI [] (fun i=>i) [0,1] nd_1_8 aN ?_ ?_ ?_ ?_
     ·exact vw
     ·exact wG
     ·exact vz
     ·exact z48
    ·refine dY fB ?_
     refine dW ?_;refine aL (dI [] (fun i=>i) [0,1,2] nd_8_9 aN ?_ ?_ ?_ ?_)
     ·exact QI
     ·exact Nt
     ·exact QJ
     ·exact rZ
   refine mr 9 #[true,false,false,false,true,false,false,false,false,true,false,false] [(4,.c (.ptr 0 0)),(23,.agg (eB d)),(27,.agg (eB e)),(7,.c (.ptr 1 0))] [(0,.own 30 (.cells [.nils,.nils,.nils]) 3),(1,.own 56 (.cells zl) 259)] 2 ?_ fun nd_9=>?_
   ·refine ji [1,8] aN (by decide) (List.forall_mem_cons.2 ⟨?_,List.forall_mem_cons.2 ⟨?_,fun _ h=>by cases h⟩⟩)
    ·refine dY fB ?_
     refine dW ?_;refine⟨d,rfl,hgd,dW ?_⟩
     first|refine aL ?_|(intro cap1 hcap1;refine aL ?_)
     refine dI [] (fun i=>i) [0,1] nd_1_9 aN ?_ ?_ ?_ ?_
     ·exact vw
     ·exact wG
     ·exact vz
     ·exact z48
    ·refine dY fB ?_
     refine dW ?_;refine aL (dI [] (fun i=>if i=1 then 2 else if i=2 then 1 else i) [0,2,1] nd_8_9 aN ?_ ?_ ?_ ?_)
     ·exact QI
     ·exact NZ
     ·exact QJ
     ·exact rZ
   refine mr 10 #[true,false,false,false,true,false,false,false,false,false,false,false] [(4,.c (.ptr 0 0)),(23,.agg (eB d)),(27,.agg (eB e))] [(0,.own 30 (.cells [.nils,.nils,.nils]) 3)] 1 ?_ fun nd_=>?_
   ·refine ji [1,8,9] aN (by decide) (List.forall_mem_cons.2 ⟨?_,List.forall_mem_cons.2 ⟨?_,List.forall_mem_cons.2 ⟨?_,fun _ h=>by cases h⟩⟩⟩)
    ·refine dY fB ?_
     refine dW ?_;refine⟨d,rfl,hgd,dW ?_⟩
     first|refine aL ?_|(intro cap1 hcap1;refine aL ?_)
     refine dI [] (fun i=>i) [0] nd_1 aN ?_ ?_ ?_ ?_
     ·exact Z6
     ·exact MK
     ·exact Z7
     ·exact(And.intro (And.intro (by decide) CU) trivial)
    ·refine dY fB ?_
     refine dW ?_;refine aL (dI [] (fun i=>i) [0,1] nd_8 aN ?_ ?_ ?_ ?_)
     ·exact N5
     ·exact uZ
     ·exact N6
     ·exact z48
    ·refine dY fB ?_
     refine dW ?_;refine aL (dI [] (fun i=>i) [0,1] nd_9 aN ?_ ?_ ?_ ?_)
     ·exact N5
     ·exact uZ
     ·exact N6
     ·exact z48
   refine lK fB (g:=10) aN [(0,true),(4,true)] aN fun _ K46=>?_
   iterate 2 refine Gp ?_
   refine iF K46 (dI [] (fun _=>2) [2] nd_ aN ?_ ?_ ?_ ?_)
   ·exact y31
   ·exact MK
   ·exact y32
   ·exact(And.intro (And.intro (by decide) CU) trivial)


end Go.Proofs.YtpdljmohhpbkpaaDoor

namespace Go.Proofs.YtpdljmohhpbkpaaDoor
open Go.Ab Go.RowKit

section
variable {a b:Prop}
theorem uM(h:a:=by first|exact gG|(simp[-List.reduceReplicate]<;>omega)|exact vTr|exact RZ|(show(List.replicate 256 (0:Int)).length=(jL _ _ _).length;rw[fI,List.length_replicate])|(show 256=(jL _ _ _).length;rw[fI])|(show 0< (jL _ _ _).length;rw[fI];decide)|(show 0+(jL _ _ _).length<=(List.replicate 256 (0:Int)).length;rw[fI,List.length_replicate];decide)|(show 0+256*1<=(jL _ _ _).length;rw[fI];decide)|(show(jL _ _ _).length=256*1;rw[fI])|exact gH):a:=h
theorem Jb(h:a:=by
    repeat' (first|exact lw _|exact z42 _|exact uy (o8 qV si)|exact uy (o8 qV (o8 qV (o8 qV si)))|exact pT|exact trivial|refine aI ?_ ?_|exact iM|refine low_cons' ?_ ?_|exact iN|fail)
    all_goals first|omega|exact lw _|(show 0< (au _ _ _ _).length;rw[dJ hx.1.clen];decide)|(show 0< (au _ _ _ _).length;rw[dJ hx.1.clen];decide)|(show 0< (jL _ _ _).length;rw[fI];decide)|(intro z hz;rw[List.mem_singleton.1 hz];exact⟨rfl,fun g l e=>by cases e⟩)|exact Nat.one_pos|(show(0:Nat)< (au _ _ _ _).length;rw[dJ hcl];decide)|(simp[-List.reduceReplicate];done)|(simp[-List.reduceReplicate]<;>omega)|skip):a:=h
theorem Ce(kZ:b)(h:aK b->a:=by intro kZ;(repeat first|refine aI uM ?_|refine bW uM ?_|refine dC uM ?_|refine fT uM ?_|refine fA ?_);exact kZ.out):a:=h ⟨kZ⟩
theorem qZ(kZ:b)(h:aK b->a:=by intro kZ;refine sX ?_;refine Ce ?_;refine aL ?_;exact kZ.out):a:=h ⟨kZ⟩
theorem NJ(kZ:b)(h:aK b->a:=by intro kZ;refine jl ?_;refine Ce ?_;refine aL ?_;exact kZ.out):a:=h ⟨kZ⟩
theorem vB(kZ:b)(h:aK b->a:=by intro kZ;refine sX ?_;refine Ce ?_;exact kZ.out):a:=h ⟨kZ⟩
end
open Go.Aut
attribute [local irreducible] eG z12 zl au gz cr jE af jL aA jf mh
noncomputable def Ui:Ctx:={ P:=Tryd.prog,ty:=ty,glob:=gl,fs:=[(25,.flat Gn),(32,.data Lt),(33,.data PY),(34,.data UL),(41,.data TJ),(38,.data (TI 51 BI 52 BJ))] }
theorem vK:Ui.OK:=⟨dS,⟨⟨bX Tryd.func25 aN rfl,z70⟩,⟨bX Tryd.func32 aN rfl,Mj⟩,⟨bX Tryd.func33 aN rfl,Re⟩,⟨bX Tryd.func34 aN rfl,Yb⟩,⟨bX Tryd.func41 aN rfl,XR⟩,⟨bX Tryd.func38 aN rfl,XP (bX Tryd.func51 aN rfl) GV (bX Tryd.func52 aN rfl) GX (by decide)⟩,trivial⟩,mixed⟩
@[simp] theorem Uj:Ui.ty=ty:=rfl

def y34:aW:=fun vs K=>∃ d:Dfa,vs=[df d]/\d.wf/\K (lX (kI d))
theorem zwe:jr Tryd.prog gl 16 y34:=by
 refine kJ (Γ:=Ui) (N:=42) Tryd.func16 rfl rfl fun vs K h=>?_;obtain⟨d,rfl,hd,h⟩:=h;refine⟨_,h,ib _,by simp,fun w I=>?_⟩;refine aO vK fun _ K2=>?_
 iterate 3 refine qZ ?_
 refine aJ K2 (aH fun _ K3=>aO vK fun _ K5=>qZ ?_);refine vB ?_;refine⟨d,rfl,hd,Ce ?_⟩
 first|refine aL ?_|(intro cap1 hcap1;refine aL ?_)
 refine qZ ?_;refine aJ K5 (bC (b:=_) rfl (fun h_t12=>?_) (fun h_t12=>?_))
 ·try simp only[dQ,reduceIte]at h_t12
  refine aO vK fun _ K7=>qZ ?_;refine NJ ?_;refine qZ ?_;refine aJ K7 ?_;rw[kI,if_neg (by simpa using h_t12)];refine bQ (gT vK (fun _ _ h=>h) (ib _) [] [.cell 2 30,.tmp 3] rfl ?_)
  repeat first|refine aI (by first|exact trivial|rfl|exact⟨rfl,rfl⟩|decide) ?_|refine bW (by first|rfl|decide) ?_|refine dC (by first|rfl|decide) ?_
  all_goals exact ol
 ·try simp only[dQ,reduceIte]at h_t12
  refine bK (K3 _ _ _ ?_)
  have hg:=(z22 hd).1 (by simpa using h_t12)
  have gd:=Bn hg
  have hx:=kS gd.1
  have hcc:∀ w,Bytes w->_:=fun w hw=>Z0 hg hw
  obtain⟨x,hxe⟩:∃ x,x=(ag (af (aT d))):=⟨_,rfl⟩;rw[<-hxe]at hx hcc
  have hex:=BL hx
  refine aO vK fun _ K9=>qZ ?_;refine vB ?_;refine⟨d,rfl,hg,Ce ?_⟩
  first|refine aL ?_|(intro cap1 hcap1;refine aL ?_)
  refine vB ?_;refine aI (lu _) (lz _ ⟨ag d,rfl,kS hg,?_⟩);rw[vg]
  simp only[pW]
  refine Ce ?_
  first|refine aL ?_|(intro cap2 hcap2;refine aL ?_)
  refine vB ?_;refine⟨af (aT d),rfl,gd.1,?_⟩;rw[<-hxe];refine Ce ?_
  first|refine aL ?_|(intro cap3 hcap3;refine aL ?_)
  refine qZ ?_;refine NJ ?_;refine aJ K9 (fQ [2] (fun _=>1) [(2,.c (.ptr 0 0)),(4,.c (jN x))] [(0,.own 30 (.cells [.nils,.nils,.nils]) 3)] 1 [1] Jb Jb Jb Jb (aO vK fun _ K11=>vB ?_));refine aU (bu x) (SV.as_refl _) (vB ?_);refine aU (bu x) (SV.as_refl _) (vB ?_);refine aI (lu _) (lz _ (aI (lu _) (lz _ ⟨x,x,rfl,⟨hx,hx⟩,?_⟩)))
  simp only[pW]
  refine Ce ?_
  first|refine aL ?_|(intro cap2 hcap2;refine aL ?_)
  iterate 4 refine qZ ?_
  refine NJ ?_;refine qZ ?_;refine aJ K11 (fQ [1] id [(2,.c (.ptr 0 0)),(4,.c (jN x)),(5,.c (.dp (.ints .i64 (jL x x 256)) 0)),(6,.c (.ds (aA (cN x) (cN x)).length (.ints .i64 (aG (aA (cN x) (cN x))))))] [(0,.own 30 (.cells [.nils,.nils,.nils]) 3)] 1 [0] Jb Jb Jb Jb (aO vK fun _ K13=>?_))
  iterate 2 refine qZ ?_
  refine aJ K13 (aO vK fun _ K15=>vB ?_);refine aU (.agg (.ints .i64 (jL x x 256))) (SV.as_refl _) (qZ ?_);refine vB ?_;refine aU (.agg (.u64s [1])) (SV.as_refl _) (vB ?_);refine aU (jW (1,0,1)) (bq rfl) ?_
  iterate 2 refine qZ ?_
  refine vB ?_;refine aI (nT _) (aI (zX _) (aI (zX _) ⟨ae x,fG x,sV,jL x x 256,aA (cN x) (cN x),(1,0,1),[jN x],[jN x],4096,rfl,hex,?_⟩))
  have hrc:(jf (ae x) (fG x) (jL x x 256) (aA (cN x) (cN x)) (1,0,1) 4096).1.cell.length=256:=Tf (fI x x 256)
  have hry:(jf (ae x) (fG x) (jL x x 256) (aA (cN x) (cN x)) (1,0,1) 4096).2=true->(jf (ae x) (fG x) (jL x x 256) (aA (cN x) (cN x)) (1,0,1) 4096).1.fit/\_:=fun hh=>(Iz (by decide) (fun s c hc=>Xu s hc) hcc (J6 hh)).imp_right And.right
  have hrn:(jf (ae x) (fG x) (jL x x 256) (aA (cN x) (cN x)) (1,0,1) 4096).2=false->_:=fun hh=>tY hh
  have hrs:(jf (ae x) (fG x) (jL x x 256) (aA (cN x) (cN x)) (1,0,1) 4096).2=true->_:=fun hh=>J6 hh
  obtain⟨r,hr⟩:∃ r,r=(jf (ae x) (fG x) (jL x x 256) (aA (cN x) (cN x)) (1,0,1) 4096):=⟨_,rfl⟩;rw[<-hr]at hrc hry hrn hrs ⊢;refine Ce ?_
  first|refine aL ?_|(intro cap6 hcap6;refine aL ?_)
  iterate 4 refine qZ ?_
  refine NJ ?_;refine qZ ?_;refine aJ K15 (aH fun _ K16=>aO vK fun _ K18=>?_)
  iterate 2 refine qZ ?_
  refine aJ K18 (bC (b:=_) rfl (fun h_t36=>?_) (fun h_t36=>?_))
  ·try simp only[dQ,reduceIte]at h_t36
   refine aO vK fun _ K20=>qZ ?_;refine NJ ?_;refine qZ ?_;refine aJ K20 ?_;rw[kI,if_pos (pU hg), <-hxe,if_pos (hrn (by simpa using h_t36))];refine bQ (gT vK (fun _ _ h=>h) (ib _) [] [.cell 2 30,.tmp 3] rfl ?_)
   repeat first|refine aI (by first|exact trivial|rfl|exact⟨rfl,rfl⟩|decide) ?_|refine bW (by first|rfl|decide) ?_|refine dC (by first|rfl|decide) ?_
   all_goals exact ol
  ·try simp only[dQ,reduceIte]at h_t36
   refine bK (K16 _ _ _ ?_)
   have hr2:r.2=true:=by simpa using h_t36
   obtain⟨hrf,hrcan⟩:=hry hr2;refine aO vK fun _ K22=>vB ?_;refine aU (bu r.1) (SV.as_refl _) (vB ?_);refine aI (lu _) (lz _ ⟨r.1,rfl,hrf,?_⟩);rw[hrcan]
   simp only[pW]
   refine Ce ?_
   first|refine aL ?_|(intro cap1 hcap1;refine aL ?_)
   iterate 2 refine qZ ?_
   refine NJ ?_;refine qZ ?_;refine aJ K22 ?_;rw[kI,if_pos (pU hg), <-hxe,if_neg (hrs hr2)];refine bQ (gT vK (fun _ _ h=>h) (ib _) [] [.cell 2 30,.tmp 3] rfl ?_)
   repeat first|refine aI (by first|exact trivial|rfl|exact⟨rfl,rfl⟩|decide) ?_|refine bW (by first|rfl|decide) ?_|refine dC (by first|rfl|decide) ?_
   all_goals exact ol


end Go.Proofs.YtpdljmohhpbkpaaDoor
