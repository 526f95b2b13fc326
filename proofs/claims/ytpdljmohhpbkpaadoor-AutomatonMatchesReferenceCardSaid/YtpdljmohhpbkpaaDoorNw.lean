/- Contracts of functions and plain facts, part 23. -/
import Derived.Test.YtpdljmohhpbkpaaDoorNu
import Derived.Test.YtpdljmohhpbkpaaDoorNi
set_option linter.all false
set_option maxHeartbeats 2000000
set_option maxRecDepth 4000
namespace Go.Proofs.YtpdljmohhpbkpaaDoor
open Go.Ab Go.RowKit

section
variable {a b:Prop}
theorem Em(h:a:=by first|exact gG|(simp[-List.reduceReplicate]<;>omega)|exact PG|exact vU|exact vRi|(simp only[jI,z37];omega)|(show _< (bM _ _ _).length;rw[z37];omega)|(simp only[NQ];omega)|exact⟨by omega,by omega,trivial⟩|exact⟨by omega,by omega,trivial,trivial⟩|exact gH):a:=h
theorem bY(h:a:=by
    repeat' (first|exact pJ|exact pT|exact trivial|refine aI ?_ ?_|exact iM|refine low_cons' ?_ ?_|exact iN|fail)
    all_goals first|omega|(show(0:Nat)< (rt _ _ _).length;rw[bG hjl];decide)|(show aB.low _ (aB.cells (List.replicate 256 _++_));exact ou)|(show 0+256*1<=(jS _ _).length;rw[CG];decide)|exact(if_pos ⟨rfl,by show(jS _ _).length=256*1;rw[CG]⟩).symm|exact hL0|exact(sZ x _).symm|exact(Bi x _).symm|exact Bv trivial (by show(2:Nat)< _;decide)|exact Bv (by show(2:Nat)< _;decide) (by show(3:Nat)< _;decide)|exact lw _|(show(_:List Int)=_;first|assumption|rfl)|(show(_:List Bool)=_;first|assumption|rfl)|(show aB.to _ _ _ _ _ _;exact WN hcl hset.1 hset.2 trivial trivial)|(show aB.to _ _ _ _ _ _;rw[Y8];exact rY trivial trivial)|(show aB.to _ _ _ _ _ _;exact rY trivial trivial)|(show bR _ _ _;first|(rw[hXR];exact nI _)|(rw[hXR];trivial)|exact nI _)|(show bR _ _ _;(try rw[Ca hjl rfl]);(try rw[Gv hjl rfl]);refine rY ?_ ?_<;>(repeat' (first|exact trivial|refine aI ?_ ?_|rfl|omega|decide|exact z31 _|(simp;done)|rw[if_pos ⟨rfl,by simp⟩])))|(simp[-List.reduceReplicate];done)|(show(0:Nat)< (au _ _ _ _).length;rw[dJ hcl];decide)|(simp[-List.reduceReplicate];done)|(simp[-List.reduceReplicate]<;>omega)|skip):a:=h
theorem tL(kZ:b)(h:aK b->a:=by intro kZ;(repeat first|refine aI Em ?_|refine bW Em ?_|refine dC Em ?_|refine fT Em ?_|refine fA ?_);exact kZ.out):a:=h ⟨kZ⟩
theorem z46(kZ:b)(h:aK b->a:=by intro kZ;refine sX ?_;refine tL ?_;refine aL ?_;exact kZ.out):a:=h ⟨kZ⟩
theorem JN(kZ:b)(h:aK b->a:=by intro kZ;refine jl ?_;refine tL ?_;refine aL ?_;exact kZ.out):a:=h ⟨kZ⟩
theorem MO(kZ:b)(h:aK b->a:=by intro kZ;refine sX ?_;refine tL ?_;exact kZ.out):a:=h ⟨kZ⟩
end
open Go.Aut
theorem PI(x:List UInt8):SV.agg (aB.cells (rt (kH 256) (.ds (x.length+2) (.cells (aS (dE x (x.length+2))))) (.ds (x.length+2) (.bools (iB x (x.length+2))))))=jw (jU x):=by
  show _=SV.agg (aB.cells (rt (kH 256) (.ds (dE x (x.length+2)).length (.cells (aS (dE x (x.length+2))))) (.ds (iB x (x.length+2)).length (.bools (iB x (x.length+2))))))
  rw[sZ,Bi]
theorem zyl:((aB.cells (List.replicate 256 (Cell.int .i64 0)++List.replicate 2 .nils)).sub 257 1).list=[.nils]:=by
  show List.take 1 (List.drop 257 (List.replicate 256 _++List.replicate 2 _))=_
  rw[List.drop_append,List.length_replicate,List.drop_of_length_le (by rw[List.length_replicate];decide)]
  rfl
theorem zu7:((aB.cells (List.replicate 256 (Cell.int .i64 0)++List.replicate 2 .nils)).sub 0 256).list++(((aB.cells (List.replicate 256 (Cell.int .i64 0)++List.replicate 2 .nils)).sub 256 1).list++(((aB.cells (List.replicate 256 (Cell.int .i64 0)++List.replicate 2 .nils)).sub 257 1).list++[]))=rt (kH 0) .nils .nils:=by
  rw[zyl, <-Y8];exact zm9 .nils
attribute [local irreducible] eG z12 zl au gz cr rt dz lc af kH jS dE iB bM
noncomputable def VD:Ctx:={ P:=Tryd.prog,ty:=ty,glob:=gl,fs:=[(44,.data Pg)] }
theorem oH:VD.OK:=⟨dS,⟨⟨bX Tryd.func44 aN rfl,Rp⟩,trivial⟩,mixed⟩
@[simp] theorem VE:VD.ty=ty:=rfl

def y59:aW:=fun vs K=>∃ x:List UInt8,vs=[.c (.ds x.length (.u8s x))]/\x.length<=9223372036854775807/\K (lX (jb x))
theorem y5a:jr Tryd.prog gl 19 y59:=by
 refine kJ (Γ:=VD) (N:=68) Tryd.func19 rfl rfl fun vs K h=>?_;obtain⟨x,rfl,hx,h⟩:=h;refine⟨_,h,ib _,by simp,fun w I=>?_⟩
 have hjl:(kH 256).length=256:=pV 256
 refine aO oH fun _ K2=>?_
 iterate 2 refine z46 ?_
 refine aJ K2 (aH fun _ K3=>aO oH fun _ K5=>?_)
 iterate 3 refine z46 ?_
 refine aJ K5 (bC (b:=_) rfl (fun h_t12=>?_) (fun h_t12=>?_))
 ·try simp only[dQ,reduceIte]at h_t12
  refine aO oH fun _ K7=>z46 ?_;refine JN ?_;refine z46 ?_;refine aJ K7 ?_;rw[jb,if_pos (by omega)];refine bQ (gT oH (fun _ _ h=>h) (ib _) [] [.cell 2 30,.tmp 3] rfl ?_)
  repeat first|refine aI (by first|exact trivial|rfl|exact⟨rfl,rfl⟩|decide) ?_|refine bW (by first|rfl|decide) ?_|refine dC (by first|rfl|decide) ?_
  all_goals exact bY
 ·try simp only[dQ,reduceIte]at h_t12
  refine bK (K3 _ _ _ (aO oH fun _ K9=>?_))
  iterate 3 refine z46 ?_
  refine aJ K9 (aO oH fun _ K11=>MO ?_);refine aU (.agg (.cells (rt (kH 0) .nils .nils))) (bq (congrArg (fun l=>SV.agg (aB.cells l)) zu7)) (z46 ?_);refine JN ?_;refine aJ K11 (aH fun _ K12=>?_)
  have hxl:x.length<=62:=by omega
  have hcl0:(kH 0).length=256:=pV 0
  refine aO oH fun _ K14=>z46 ?_;refine aJ K14 (bO (fM (α:=Nat) (fun b=>[(0,.c (.ds x.length (.u8s x))),(2,.c (.ptr 0 0)),(4,.c (.int .i64 (x.length:Nat))),(5,.c (.ptr 1 0)),(6,.c (.int .i64 (b:Nat)))]) (fun b=>[(0,.own 30 (.cells [.nils,.nils,.nils]) 3),(1,.own 74 (.cells (rt (kH b) .nils .nils)) 258)]) 2 (fun b=>b<=256) (fun b=>256 - b) ?_ ?_))
  ·refine ai [] id 0 (Nat.zero_le _) [0,1] bY bY bY bY
  ·intro b hb;refine aH fun _ K15=>aO oH fun _ K17=>?_
   iterate 2 refine z46 ?_
   refine aJ K17 (bC (b:=_) rfl (fun h_t18=>?_) (fun h_t18=>?_))
   ·try simp only[dQ,reduceIte]at h_t18
    refine bK (K15 _ _ _ (aH fun _ K18=>bO ?_))
    have hb256:b< 256:=by omega
    have hcl:(kH b).length=256:=pV b
    have hset:(0+0+((b:Nat):Int).toNat*1)< 256/\(kH b).set (0+0+((b:Nat):Int).toNat*1) ((b:Nat):Int)=kH (b+1):=by
     have e:(0+0+((b:Nat):Int).toNat*1)=b:=by omega
     rw[e];exact⟨hb256,y21 hb256⟩
    refine bB oH fun _ K19=>?_
    iterate 4 refine z46 ?_
    refine JN ?_;refine aJ K19 (dD (K18 _ _ _ (bB oH fun _ K20=>?_)))
    iterate 3 refine z46 ?_
    refine aJ K20 (ai [] id (b+1) ⟨by omega,by omega⟩ [0,1] bY bY bY bY)
   ·try simp only[dQ,reduceIte]at h_t18
    refine eY (bJ (bJ (eX (K12 _ _ _ (aH fun _ K21=>?_)))))
    obtain rfl:b=256:=by omega
    refine aO oH fun _ K23=>z46 ?_;refine aJ K23 (bO (z30 1 256 44 (.cells []) rfl (Q9 hjl) rfl low_nil' ?_));rw[Ca hjl rfl];refine z30 1 257 4 (.bools []) rfl (UT hjl) rfl trivial ?_;rw[Gv hjl rfl];refine fM (α:=Nat×Nat×Nat) (fun s=>[(0,.c (.ds x.length (.u8s x))),(2,.c (.ptr 0 0)),(4,.c (.int .i64 (x.length:Nat))),(5,.c (.ptr 1 0)),(7,.c (.int .i64 (s.1:Nat)))]) (fun s=>[(0,.own 30 (.cells [.nils,.nils,.nils]) 3),(1,.own 74 (.cells (rt (kH 256) (.slice 2 0 s.1 s.2.1) (.slice 3 0 s.1 s.2.2))) 258),(2,.own 44 (.cells (aS (dE x s.1))) s.2.1),(3,.own 4 (.bools (iB x s.1)) s.2.2)]) 4 (fun s=>s.1<=x.length+2/\s.1<=s.2.1/\s.1<=s.2.2) (fun s=>x.length+2 - s.1) ?_ ?_
    ·have hXR:aS (dE x 0)=[]:=by unfold dE;rfl
     have hX3:([]:List Bool)=iB x 0:=by unfold iB;rfl
     refine ai [] id (0,0,0) ⟨Nat.zero_le _,Nat.le_refl _,Nat.le_refl _⟩ [0,1,2,3] bY bY bY bY
    ·intro s hs
     obtain⟨hs1,hs2,hs3⟩:=hs;refine aH fun _ K24=>aO oH fun _ K26=>?_
     iterate 4 refine z46 ?_
     refine aJ K26 (bC (b:=_) rfl (fun h_t28=>?_) (fun h_t28=>?_))
     ·try simp only[dQ,reduceIte]at h_t28
      refine bK (K24 _ _ _ (aH fun _ K27=>bO (aO oH fun _ K29=>?_)))
      iterate 2 refine z46 ?_
      refine aJ K29 (aH fun _ K30=>aO oH fun _ K32=>z46 ?_);refine aJ K32 (bO (fM (α:=Nat) (fun b=>[(0,.c (.ds x.length (.u8s x))),(2,.c (.ptr 0 0)),(4,.c (.int .i64 (x.length:Nat))),(5,.c (.ptr 1 0)),(7,.c (.int .i64 (s.1:Nat))),(8,.c (.slice 4 0 256 256)),(9,.c (.int .i64 (b:Nat)))]) (fun b=>[(0,.own 30 (.cells [.nils,.nils,.nils]) 3),(1,.own 74 (.cells (rt (kH 256) (.slice 2 0 s.1 s.2.1) (.slice 3 0 s.1 s.2.2))) 258),(2,.own 44 (.cells (aS (dE x s.1))) s.2.1),(3,.own 4 (.bools (iB x s.1)) s.2.2),(4,.own 3 (.ints .i64 (bM 256 ((x.length:Int)+1) b)) 256)]) 5 (fun b=>b<=256) (fun b=>256 - b) ?_ ?_))
      ·have hX1:List.replicate 256 (0:Int)=(bM 256 ((x.length:Int)+1) 0):=(Mk _ _).symm
       refine ai [] id 0 (Nat.zero_le _) [0,1,2,3,4] bY bY bY bY
      ·intro b hb;refine aH fun _ K33=>aO oH fun _ K35=>?_
       iterate 2 refine z46 ?_
       refine aJ K35 (bC (b:=_) rfl (fun h_t33=>?_) (fun h_t33=>?_))
       ·try simp only[dQ,reduceIte]at h_t33
        refine bK (K33 _ _ _ (aH fun _ K36=>bO ?_))
        have hb256:b< 256:=by omega
        refine bB oH fun _ K37=>?_
        iterate 5 refine z46 ?_
        refine JN ?_;refine aJ K37 (dD (K36 _ _ _ (bB oH fun _ K38=>?_)))
        iterate 3 refine z46 ?_
        refine aJ K38 ?_
        have hX1:(bM 256 ((x.length:Int)+1) b).set (0+((b:Nat):Int).toNat*1) ((x.length:Int)+1)=(bM 256 ((x.length:Int)+1) (b+1)):=by rw[show 0+((b:Nat):Int).toNat*1=b by omega];exact Mv _ hb256
        refine ai [] id (b+1) ⟨by omega,by omega⟩ [0,1,2,3,4] bY bY bY bY
       ·try simp only[dQ,reduceIte]at h_t33
        refine eY (bJ (bJ (eX (K30 _ _ _ (qf (α:=Unit) (fun _=>[(0,.c (.ds x.length (.u8s x))),(2,.c (.ptr 0 0)),(4,.c (.int .i64 (x.length:Nat))),(5,.c (.ptr 1 0)),(7,.c (.int .i64 (s.1:Nat))),(8,.c (.slice 4 0 256 256))]) (fun _=>[(0,.own 30 (.cells [.nils,.nils,.nils]) 3),(1,.own 74 (.cells (rt (kH 256) (.slice 2 0 s.1 s.2.1) (.slice 3 0 s.1 s.2.2))) 258),(2,.own 44 (.cells (aS (dE x s.1))) s.2.1),(3,.own 4 (.bools (iB x s.1)) s.2.2),(4,.own 3 (.ints .i64 (jS x s.1)) 256)]) 5 (fun _=>True) ?_ ?_)))))
        ·obtain rfl:b=256:=by omega
         refine aO oH fun _ K40=>?_
         iterate 3 refine z46 ?_
         refine aJ K40 (bC (b:=_) rfl (fun h_t43=>?_) (fun h_t43=>?_))
         ·try simp only[dQ,reduceIte]at h_t43
          have hbt:(x.getD ((s.1:Int).toNat*1) 0).toNat< 256:=UInt8.toNat_lt _
          refine bB oH fun _ K41=>?_
          iterate 8 refine z46 ?_
          refine JN ?_;refine aJ K41 ?_
          have hrow:(bM 256 ((x.length:Int)+1) 256).set (0+(((x.getD ((s.1:Int).toNat*1) 0).toNat:Nat):Int).toNat*1) ((s.1:Int)+1)=jS x s.1:=by
           rw[Int.toNat_natCast,Int.toNat_natCast,Nat.mul_one,Nat.mul_one,Nat.zero_add];exact zvs (by omega)
          refine ai [] id () trivial [0,1,2,3,4] bY bY bY bY
         ·try simp only[dQ,reduceIte]at h_t43
          refine bK ?_
          have hrow:(bM 256 ((x.length:Int)+1) 256)=jS x s.1:=y22 (by omega)
          refine ai [] id () trivial [0,1,2,3,4] bY bY bY bY
        ·intro _ _;refine fQ [4] id [(0,.c (.ds x.length (.u8s x))),(2,.c (.ptr 0 0)),(4,.c (.int .i64 (x.length:Nat))),(5,.c (.ptr 1 0)),(7,.c (.int .i64 (s.1:Nat))),(8,.c (.ds 256 (.ints .i64 (jS x s.1))))] [(0,.own 30 (.cells [.nils,.nils,.nils]) 3),(1,.own 74 (.cells (rt (kH 256) (.slice 2 0 s.1 s.2.1) (.slice 3 0 s.1 s.2.2))) 258),(2,.own 44 (.cells (aS (dE x s.1))) s.2.1),(3,.own 4 (.bools (iB x s.1)) s.2.2)] 4 [0,1,2,3] bY bY bY bY (aO oH fun _ K43=>z46 ?_);refine MO ?_;refine aU (.c (.slice 2 0 s.1 s.2.1)) (ak (AX hjl)) ?_
         iterate 2 refine z46 ?_
         refine MO ?_;intro cap4 hcap4;refine aL (z46 ?_);refine JN ?_;refine aJ K43 ?_
         have hXR:aS (dE x s.1)++([]++[.ds 256 (.ints .i64 (jS x s.1))])=aS (dE x (s.1+1)):=by
          have:=Gg (dE x s.1) (jS x s.1)
          rw[CG,zlt]at this;exact this
         refine fQ [] (fun i=>if i=2 then 5 else i) [(0,.c (.ds x.length (.u8s x))),(2,.c (.ptr 0 0)),(4,.c (.int .i64 (x.length:Nat))),(5,.c (.ptr 1 0)),(7,.c (.int .i64 (s.1:Nat)))] [(0,.own 30 (.cells [.nils,.nils,.nils]) 3),(1,.own 74 (.cells (rt (kH 256) (.slice 2 0 (s.1+1) cap4) (.slice 3 0 s.1 s.2.2))) 258),(2,.own 44 (.cells (aS (dE x (s.1+1)))) cap4),(3,.own 4 (.bools (iB x s.1)) s.2.2)] 4 [0,1,5,3] bY bY bY bY (bB oH fun _ K44=>z46 ?_);refine MO ?_;refine aU (.c (.slice 3 0 s.1 s.2.2)) (ak (Fq hjl)) ?_
         iterate 4 refine z46 ?_
         refine MO ?_;intro cap6 hcap6;refine aL (z46 ?_);refine JN ?_;refine aJ K44 (dD (K27 _ _ _ (bB oH fun _ K45=>?_)))
         iterate 3 refine z46 ?_
         refine aJ K45 ?_
         have hX3:=zqn x s.1
         refine ai [] (fun i=>if i=3 then 5 else i) (s.1+1,cap4,cap6) ⟨⟨by show s.1+1<=_;omega,by show s.1+1<=cap4;omega,by show s.1+1<=cap6;omega⟩,by show _ - (s.1+1)< _;omega⟩ [0,1,2,5] ?_ ?_ ?_ ?_
         ·exact bY
         ·exact bY
         ·exact bY
         ·exact bY
     ·try simp only[dQ,reduceIte]at h_t28
      refine eY (bJ (bJ (eX (K21 _ _ _ ?_))))
      have hse:s.1=x.length+2:=by omega
      rw[hse];refine fQ [2,3] id [(2,.c (.ptr 0 0)),(5,.c (.ptr 1 0))] [(0,.own 30 (.cells [.nils,.nils,.nils]) 3),(1,.own 74 (.cells (rt (kH 256) (.ds (x.length+2) (.cells (aS (dE x (x.length+2))))) (.ds (x.length+2) (.bools (iB x (x.length+2)))))) 258)] 2 [0,1] bY bY bY bY (aO oH fun _ K47=>MO ?_);refine aU (jw (jU x)) (bq (PI x)) (MO ?_);refine aI (lI (jU x)) (lJ (jU x) ⟨jU x,rfl,Xp hxl,?_⟩);rw[Y9]
      simp only[q8]
      refine tL ?_
      first|refine aL ?_|(intro cap1 hcap1;refine aL ?_)
      refine JN ?_;refine z46 ?_;refine aJ K47 ?_;rw[jb,if_neg (by omega)];refine bQ (gT oH (fun _ _ h=>h) (ib _) [] [.cell 2 30,.tmp 3] rfl ?_)
      repeat first|refine aI (by first|exact trivial|rfl|exact⟨rfl,rfl⟩|decide) ?_|refine bW (by first|rfl|decide) ?_|refine dC (by first|rfl|decide) ?_
      all_goals exact bY


end Go.Proofs.YtpdljmohhpbkpaaDoor
