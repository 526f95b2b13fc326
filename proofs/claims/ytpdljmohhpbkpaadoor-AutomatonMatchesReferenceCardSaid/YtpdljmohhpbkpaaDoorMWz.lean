/- The law: the operations agree with the reference. -/
import Derived.Test.YtpdljmohhpbkpaaDoorNn
import Derived.Test.YtpdljmohhpbkpaaDoorNo
import Derived.Test.YtpdljmohhpbkpaaDoorNy
set_option linter.all false
set_option maxHeartbeats 4000000
set_option maxRecDepth 4000
namespace Go.Proofs.YtpdljmohhpbkpaaDoor
open Go.Ab Go.RowKit

section
variable {a b:Prop}
theorem F8(h:a:=by first|exact gG|(simp<;>omega)|exact⟨by omega,by omega⟩|exact gH):a:=h
theorem bU(h:a:=by
    repeat' (first|exact pT|exact trivial|refine aI ?_ ?_|exact iM|refine low_cons' ?_ ?_|exact iN|fail)
    all_goals first|omega|exact lw _|exact ib _|(simp;done)|(show aB.u8s _=_;simp;done)|(show(0:Nat)< (au _ _ _ _).length;rw[dJ hcl];decide)|(simp[-List.reduceReplicate];done)|(simp[-List.reduceReplicate]<;>omega)|skip):a:=h
theorem bD(kZ:b)(h:aK b->a:=by intro kZ;(repeat first|refine aI F8 ?_|refine bW F8 ?_|refine dC F8 ?_|refine fT F8 ?_|refine fA ?_);exact kZ.out):a:=h ⟨kZ⟩
theorem iX(kZ:b)(h:aK b->a:=by intro kZ;refine sX ?_;refine bD ?_;refine aL ?_;exact kZ.out):a:=h ⟨kZ⟩
theorem KB(kZ:b)(h:aK b->a:=by intro kZ;refine dX ?_;refine bD ?_;refine aL ?_;exact kZ.out):a:=h ⟨kZ⟩
theorem Ny(kZ:b)(h:aK b->a:=by intro kZ;refine gX ?_;refine bD ?_;refine aL ?_;exact kZ.out):a:=h ⟨kZ⟩
theorem wD(kZ:b)(h:aK b->a:=by intro kZ;refine pu ?_;refine bD ?_;refine aL ?_;exact kZ.out):a:=h ⟨kZ⟩
theorem wE(kZ:b)(h:aK b->a:=by intro kZ;refine jl ?_;refine bD ?_;refine aL ?_;exact kZ.out):a:=h ⟨kZ⟩
theorem rz(kZ:b)(h:aK b->a:=by intro kZ;refine mX ?_;refine bD ?_;refine aL ?_;exact kZ.out):a:=h ⟨kZ⟩
theorem JP(kZ:b)(h:aK b->a:=by intro kZ;refine gX ?_;refine bD ?_;exact kZ.out):a:=h ⟨kZ⟩
theorem nC(kZ:b)(h:aK b->a:=by intro kZ;refine sX ?_;refine bD ?_;exact kZ.out):a:=h ⟨kZ⟩
theorem Gi(kZ:b)(h:aK b->a:=by intro kZ;refine mX ?_;refine bD ?_;exact kZ.out):a:=h ⟨kZ⟩
end
open Go.Aut
theorem YF{op:Bool->Bool->Bool}{d e:Dfa}(hd:d.good)(he:e.good)(h:d.next.length*e.next.length<=64):∃ c,jO op d e=(c,0)/\c.wf:=by
  obtain⟨h1,h2,_⟩:=xe (op:=op) hd he h;exact⟨_,h1,C4 h2⟩
theorem xV{d e:Dfa}(hd:d.good)(he:e.good):∃ c n,z44 d e=(c,n)/\c.wf:=by
  rcases y3t hd he with h|⟨h,hg⟩
  · exact⟨_,_,h,zY⟩
  · exact⟨_,_,h,C4 hg⟩
theorem y5q{d:Dfa}(hd:d.good):∃ c n,kI d=(c,n)/\c.wf:=by
  rcases y3u hd with h|⟨h,hg⟩
  · exact⟨_,_,h,zY⟩
  · exact⟨_,_,h,C4 hg⟩
theorem y5r{x:List UInt8}(h:x.length<=62):∃ c,jb x=(c,0)/\c.wf:=⟨_,by rw[jb,if_neg (by omega)],C4 (Xz h).1⟩
attribute [local irreducible] eG z12 zl au gz cr oV
noncomputable def V5:Ctx:={ P:=Tryd.prog,ty:=ty,glob:=gl,fs:=[(4,.flat y3w),(5,.data IW),(6,.data OU),(7,.data IB),(8,.data wy),(9,.data Ob),(10,.data I6),(12,.data y2m),(13,.data zwx),(14,.data Yh),(15,.data zri),(16,.data y34),(17,.data y5o),(18,.data B5),(19,.data y59),(20,.data Z5),(21,.data zwy),(11,.flat Ap)] }
theorem jM:V5.OK:=⟨dS,⟨⟨bX Tryd.func4 aN rfl,y3x⟩,⟨bX Tryd.func5 aN rfl,EO⟩,⟨bX Tryd.func6 aN rfl,KI⟩,⟨bX Tryd.func7 aN rfl,Cs⟩,⟨bX Tryd.func8 aN rfl,wz⟩,⟨bX Tryd.func9 aN rfl,Kk⟩,⟨bX Tryd.func10 aN rfl,EY⟩,⟨bX Tryd.func12 aN rfl,y2n⟩,⟨bX Tryd.func13 aN rfl,zyi⟩,⟨bX Tryd.func14 aN rfl,zm4⟩,⟨bX Tryd.func15 aN rfl,zu9⟩,⟨bX Tryd.func16 aN rfl,zwe⟩,⟨bX Tryd.func17 aN rfl,y5p⟩,⟨bX Tryd.func18 aN rfl,y23⟩,⟨bX Tryd.func19 aN rfl,y5a⟩,⟨bX Tryd.func20 aN rfl,zqw⟩,⟨bX Tryd.func21 aN rfl,zyk⟩,⟨bX Tryd.func11 aN rfl,y38⟩,trivial⟩,mixed⟩
@[simp] theorem V6:V5.ty=ty:=rfl

def zub:aW:=fun vs K=>∃ (a0:UInt8) (l0:List UInt8) (m0:UInt8) (a1:UInt8) (l1:List UInt8) (m1:UInt8) (x:List UInt8),vs=[Av a0 l0 m0,Av a1 l1 m1,.c (.ds x.length (.u8s x))]/\(l0.length<=9223372036854775807/\l1.length<=9223372036854775807/\x.length<=9223372036854775807)/\K (.c (.bool true))
theorem zoy:jJ Tryd.prog gl 3 zub:=by
 refine kU (Γ:=V5) (N:=183) Tryd.func3 rfl rfl fun vs K h=>?_;obtain⟨a0,l0,m0,a1,l1,m1,x,rfl,⟨hl0,hl1,hx⟩,h⟩:=h;refine⟨_,h,rfl,by simp,fun w I=>?_⟩;obtain⟨d0,hd0⟩:∃ d,oV a0 l0 m0=d:=⟨_,rfl⟩
 have g0:d0.good:=hd0▸zr4 a0 l0 m0
 have w0:=C4 g0
 have n0:d0.next.length<=5:=by rw[<-hd0,Yl];exact(Yk a0).2
 obtain⟨d1,hd1⟩:∃ d,oV a1 l1 m1=d:=⟨_,rfl⟩
 have g1:d1.good:=hd1▸zr4 a1 l1 m1
 have w1:=C4 g1
 have n1:d1.next.length<=5:=by rw[<-hd1,Yl];exact(Yk a1).2
 have h25:d0.next.length*d1.next.length<=64:=Nat.le_trans (Nat.mul_le_mul n0 n1) (by decide)
 obtain⟨cA,rA,vA⟩:=YF (op:=(fun x y=>x&&y)) g0 g1 h25;obtain⟨cO,rO,vO⟩:=YF (op:=(fun x y=>x||y)) g0 g1 h25;obtain⟨cM,rM,vM⟩:=YF (op:=(fun x y=>x&& !y)) g0 g1 h25;obtain⟨cC,mC,rC,vC⟩:=xV g0 g1;obtain⟨cS,mS,rS,vS⟩:=y5q g0
 have hwl:(jP x 12).length<=62:=by rw[PR];omega
 obtain⟨cW,rW,vW⟩:=y5r hwl;obtain⟨o,hoE⟩:∃ o,oO d0 d1=o:=⟨_,rfl⟩;obtain⟨y,hyE⟩:∃ y,jP x 12=y:=⟨_,rfl⟩;rw[hyE]at hwl rW;refine aO jM fun _ K2=>?_
 iterate 3 refine iX ?_
 refine aJ K2 (aO jM fun _ K4=>?_)
 iterate 2 refine iX ?_
 refine aJ K4 (qf (α:=Unit) (fun _=>[(2,.c (.ds x.length (.u8s x))),(7,.c (.bool true)),(8,.c (.dp (eB d0) 0)),(9,.c (.dp (eB d1) 0))]) (fun _=>[]) 0 (fun _=>True) ?_ ?_)
 ·refine fQ [0,1] id [(2,.c (.ds x.length (.u8s x))),(3,.c (.dp (.cells [.u8 a0,.ds l0.length (.u8s l0),.u8 m0]) 0)),(4,.c (.dp (.cells [.u8 a1,.ds l1.length (.u8s l1),.u8 m1]) 0)),(7,.c (.bool true))] [] 0 [] bU bU bU bU (QT jM (lK jM (g:=6) aN [(0,true),(2,true)] aN fun _ K6=>?_))
  iterate 2 refine KB ?_
  refine iF K6 (ji [1,4,5] aN (by decide) (List.forall_mem_cons.2 ⟨?_,List.forall_mem_cons.2 ⟨?_,List.forall_mem_cons.2 ⟨?_,fun _ h=>by cases h⟩⟩⟩))
  ·refine dY jM ?_
   refine bD ?_;refine⟨a0,l0,m0,rfl,hl0,?_⟩;rw[hd0];refine bD ?_
   first|refine aL ?_|(intro cap1 hcap1;refine aL ?_)
   refine ji [3,4,5] aN (by decide) (List.forall_mem_cons.2 ⟨?_,List.forall_mem_cons.2 ⟨?_,List.forall_mem_cons.2 ⟨?_,fun _ h=>by cases h⟩⟩⟩)
   ·refine dY jM ?_
    refine bD ?_;refine⟨a1,l1,m1,rfl,hl1,?_⟩;rw[hd1];refine bD ?_
    first|refine aL ?_|(intro cap3 hcap3;refine aL ?_)
    refine ji [4,5] aN (by decide) (List.forall_mem_cons.2 ⟨?_,List.forall_mem_cons.2 ⟨?_,fun _ h=>by cases h⟩⟩)
    ·refine dY jM ?_
     refine bD ?_;refine aL (lK jM (g:=0) aN [(5,false),(6,false),(7,false)] aN fun _ K7=>Ny ?_)
     iterate 2 refine wD ?_
     refine iF K7 (z24 aN (ai [0,1] id () trivial [] bU bU bU bU))
    ·refine dY jM ?_
     refine bD ?_;refine aL (lK jM (g:=0) aN [(4,false),(6,false),(7,false)] aN fun _ K8=>Ny ?_)
     iterate 2 refine wD ?_
     refine iF K8 (z24 aN (ai [0,1] id () trivial [] bU bU bU bU))
   ·refine dY jM ?_
    refine bD ?_;refine aL (ji [3,5] aN (by decide) (List.forall_mem_cons.2 ⟨?_,List.forall_mem_cons.2 ⟨?_,fun _ h=>by cases h⟩⟩))
    ·refine dY jM ?_
     refine bD ?_;refine⟨a1,l1,m1,rfl,hl1,?_⟩;rw[hd1];refine bD ?_
     first|refine aL ?_|(intro cap3 hcap3;refine aL ?_)
     refine lK jM (g:=0) aN [(5,false),(6,false),(7,false)] aN fun _ K9=>Ny ?_
     iterate 2 refine wD ?_
     refine iF K9 (z24 aN (ai [0,1] id () trivial [] bU bU bU bU))
    ·refine dY jM ?_
     refine bD ?_;refine aL (lK jM (g:=0) aN [(3,false),(6,false),(7,false)] aN fun _ K10=>JP ?_);refine⟨a1,l1,m1,rfl,hl1,?_⟩;rw[hd1];refine bD ?_
     first|refine aL ?_|(intro cap3 hcap3;refine aL ?_)
     iterate 2 refine wD ?_
     refine iF K10 (z24 aN (ai [0,1] id () trivial [] bU bU bU bU))
   ·refine dY jM ?_
    refine bD ?_;refine aL (ji [3,4] aN (by decide) (List.forall_mem_cons.2 ⟨?_,List.forall_mem_cons.2 ⟨?_,fun _ h=>by cases h⟩⟩))
    ·refine dY jM ?_
     refine bD ?_;refine⟨a1,l1,m1,rfl,hl1,?_⟩;rw[hd1];refine bD ?_
     first|refine aL ?_|(intro cap3 hcap3;refine aL ?_)
     refine lK jM (g:=0) aN [(4,false),(6,false),(7,false)] aN fun _ K11=>Ny ?_
     iterate 2 refine wD ?_
     refine iF K11 (z24 aN (ai [0,1] id () trivial [] bU bU bU bU))
    ·refine dY jM ?_
     refine bD ?_;refine aL (lK jM (g:=0) aN [(3,false),(6,false),(7,false)] aN fun _ K12=>JP ?_);refine⟨a1,l1,m1,rfl,hl1,?_⟩;rw[hd1];refine bD ?_
     first|refine aL ?_|(intro cap3 hcap3;refine aL ?_)
     iterate 2 refine wD ?_
     refine iF K12 (z24 aN (ai [0,1] id () trivial [] bU bU bU bU))
  ·refine dY jM ?_
   refine bD ?_;refine aL (ji [1,5] aN (by decide) (List.forall_mem_cons.2 ⟨?_,List.forall_mem_cons.2 ⟨?_,fun _ h=>by cases h⟩⟩))
   ·refine dY jM ?_
    refine bD ?_;refine⟨a0,l0,m0,rfl,hl0,?_⟩;rw[hd0];refine bD ?_
    first|refine aL ?_|(intro cap1 hcap1;refine aL ?_)
    refine ji [3,5] aN (by decide) (List.forall_mem_cons.2 ⟨?_,List.forall_mem_cons.2 ⟨?_,fun _ h=>by cases h⟩⟩)
    ·refine dY jM ?_
     refine bD ?_;refine⟨a1,l1,m1,rfl,hl1,?_⟩;rw[hd1];refine bD ?_
     first|refine aL ?_|(intro cap3 hcap3;refine aL ?_)
     refine lK jM (g:=0) aN [(5,false),(6,false),(7,false)] aN fun _ K13=>Ny ?_
     iterate 2 refine wD ?_
     refine iF K13 (z24 aN (ai [0,1] id () trivial [] bU bU bU bU))
    ·refine dY jM ?_
     refine bD ?_;refine aL (lK jM (g:=0) aN [(3,false),(6,false),(7,false)] aN fun _ K14=>JP ?_);refine⟨a1,l1,m1,rfl,hl1,?_⟩;rw[hd1];refine bD ?_
     first|refine aL ?_|(intro cap3 hcap3;refine aL ?_)
     iterate 2 refine wD ?_
     refine iF K14 (z24 aN (ai [0,1] id () trivial [] bU bU bU bU))
   ·refine dY jM ?_
    refine bD ?_;refine aL (lK jM (g:=0) aN [(1,false),(3,false),(6,false),(7,false)] aN fun _ K15=>JP ?_);refine⟨a0,l0,m0,rfl,hl0,?_⟩;rw[hd0];refine bD ?_
    first|refine aL ?_|(intro cap1 hcap1;refine aL ?_)
    refine JP ?_;refine⟨a1,l1,m1,rfl,hl1,?_⟩;rw[hd1];refine bD ?_
    first|refine aL ?_|(intro cap3 hcap3;refine aL ?_)
    iterate 2 refine wD ?_
    refine iF K15 (z24 aN (ai [0,1] id () trivial [] bU bU bU bU))
  ·refine dY jM ?_
   refine bD ?_;refine aL (ji [1,4] aN (by decide) (List.forall_mem_cons.2 ⟨?_,List.forall_mem_cons.2 ⟨?_,fun _ h=>by cases h⟩⟩))
   ·refine dY jM ?_
    refine bD ?_;refine⟨a0,l0,m0,rfl,hl0,?_⟩;rw[hd0];refine bD ?_
    first|refine aL ?_|(intro cap1 hcap1;refine aL ?_)
    refine ji [3,4] aN (by decide) (List.forall_mem_cons.2 ⟨?_,List.forall_mem_cons.2 ⟨?_,fun _ h=>by cases h⟩⟩)
    ·refine dY jM ?_
     refine bD ?_;refine⟨a1,l1,m1,rfl,hl1,?_⟩;rw[hd1];refine bD ?_
     first|refine aL ?_|(intro cap3 hcap3;refine aL ?_)
     refine lK jM (g:=0) aN [(4,false),(6,false),(7,false)] aN fun _ K16=>Ny ?_
     iterate 2 refine wD ?_
     refine iF K16 (z24 aN (ai [0,1] id () trivial [] bU bU bU bU))
    ·refine dY jM ?_
     refine bD ?_;refine aL (lK jM (g:=0) aN [(3,false),(6,false),(7,false)] aN fun _ K17=>JP ?_);refine⟨a1,l1,m1,rfl,hl1,?_⟩;rw[hd1];refine bD ?_
     first|refine aL ?_|(intro cap3 hcap3;refine aL ?_)
     iterate 2 refine wD ?_
     refine iF K17 (z24 aN (ai [0,1] id () trivial [] bU bU bU bU))
   ·refine dY jM ?_
    refine bD ?_;refine aL (lK jM (g:=0) aN [(1,false),(3,false),(6,false),(7,false)] aN fun _ K18=>JP ?_);refine⟨a0,l0,m0,rfl,hl0,?_⟩;rw[hd0];refine bD ?_
    first|refine aL ?_|(intro cap1 hcap1;refine aL ?_)
    refine JP ?_;refine⟨a1,l1,m1,rfl,hl1,?_⟩;rw[hd1];refine bD ?_
    first|refine aL ?_|(intro cap3 hcap3;refine aL ?_)
    iterate 2 refine wD ?_
    refine iF K18 (z24 aN (ai [0,1] id () trivial [] bU bU bU bU))
 ·intro u hu
  clear hu;refine aO jM fun _ K20=>iX ?_;refine nC ?_;refine⟨x,12,rfl,⟨hx,by omega⟩,?_⟩;rw[hyE];refine bD ?_
  first|refine aL ?_|(intro cap1 hcap1;refine aL ?_)
  refine iX ?_;refine aJ K20 (aO jM fun _ K22=>?_)
  iterate 2 refine iX ?_
  refine nC ?_;refine⟨d0,d1,rfl,⟨w0,w1⟩,?_⟩;rw[rA];refine bD ?_
  first|refine aL ?_|(intro cap2 hcap2;refine aL ?_)
  iterate 4 refine iX ?_
  refine wE ?_;refine iX ?_;refine aJ K22 (aO jM fun _ K24=>?_)
  iterate 2 refine iX ?_
  refine nC ?_;refine⟨d0,d1,rfl,⟨w0,w1⟩,?_⟩;rw[rA];refine bD ?_
  first|refine aL ?_|(intro cap2 hcap2;refine aL ?_)
  iterate 4 refine iX ?_
  refine wE ?_;refine iX ?_;refine aJ K24 (aO jM fun _ K26=>?_)
  iterate 2 refine iX ?_
  refine nC ?_;refine⟨d0,d1,rfl,⟨w0,w1⟩,?_⟩;rw[rO];refine bD ?_
  first|refine aL ?_|(intro cap2 hcap2;refine aL ?_)
  iterate 4 refine iX ?_
  refine wE ?_;refine iX ?_;refine aJ K26 (aO jM fun _ K28=>?_)
  iterate 2 refine iX ?_
  refine nC ?_;refine⟨d0,d1,rfl,⟨w0,w1⟩,?_⟩;rw[rO];refine bD ?_
  first|refine aL ?_|(intro cap2 hcap2;refine aL ?_)
  iterate 4 refine iX ?_
  refine wE ?_;refine iX ?_;refine aJ K28 (aH fun _ K29=>aO jM fun _ K31=>?_)
  iterate 3 refine iX ?_
  refine nC ?_;refine fO (fun hb3=>?_) (fun hb3=>?_)
  ·exfalso;first|exact absurd hb3 (by decide)|exact hb3 rfl|(simp at hb3;done)|omega
  iterate 3 refine rz ?_
  refine iX ?_;refine nC ?_;refine fO (fun hb8=>?_) (fun hb8=>?_)
  ·exfalso;first|exact absurd hb8 (by decide)|exact hb8 rfl|(simp at hb8;done)|omega
  iterate 2 refine rz ?_
  refine Gi ?_;refine⟨cA,cA,rfl,⟨vA,vA⟩,bD ?_⟩
  first|refine aU (.c (.bool (true))) (dN (uU.2 rfl)) ?_|(intro cap11 hcap11;refine aU (.c (.bool (true))) (dN (uU.2 rfl)) ?_)
  refine rz ?_;refine iX ?_;refine nC ?_;refine fO (fun hb14=>?_) (fun hb14=>?_)
  ·exfalso;first|exact absurd hb14 (by decide)|exact hb14 rfl|(simp at hb14;done)|omega
  iterate 2 refine rz ?_
  refine Gi ?_;refine⟨cO,cO,rfl,⟨vO,vO⟩,bD ?_⟩
  first|refine aU (.c (.bool (true))) (dN (uU.2 rfl)) ?_|(intro cap17 hcap17;refine aU (.c (.bool (true))) (dN (uU.2 rfl)) ?_)
  refine rz ?_;refine iX ?_;refine aJ K31 (bC (b:=_) rfl (fun h_t73=>?_) (fun _=>?_))
  ·exfalso;first|exact absurd h_t73 (by decide)|(simp at h_t73;done)|cases h_t73
  refine bK (K29 _ _ _ (aO jM fun _ K33=>?_))
  iterate 2 refine iX ?_
  refine nC ?_;refine⟨d0,d1,rfl,⟨w0,w1⟩,?_⟩;rw[rM];refine bD ?_
  first|refine aL ?_|(intro cap2 hcap2;refine aL ?_)
  iterate 3 refine iX ?_
  refine wE ?_;refine iX ?_;refine aJ K33 (aO jM fun _ K35=>?_)
  iterate 2 refine iX ?_
  refine nC ?_;refine⟨d0,d1,rfl,⟨w0,w1⟩,?_⟩;rw[rM];refine bD ?_
  first|refine aL ?_|(intro cap2 hcap2;refine aL ?_)
  iterate 3 refine iX ?_
  refine wE ?_;refine iX ?_;refine aJ K35 (aO jM fun _ K37=>?_)
  iterate 2 refine iX ?_
  refine nC ?_;refine⟨d0,d1,rfl,⟨w0,w1⟩,?_⟩;rw[rC];refine bD ?_
  first|refine aL ?_|(intro cap2 hcap2;refine aL ?_)
  iterate 3 refine iX ?_
  refine wE ?_;refine iX ?_;refine aJ K37 (aO jM fun _ K39=>?_)
  iterate 2 refine iX ?_
  refine nC ?_;refine⟨d0,d1,rfl,⟨w0,w1⟩,?_⟩;rw[rC];refine bD ?_
  first|refine aL ?_|(intro cap2 hcap2;refine aL ?_)
  iterate 3 refine iX ?_
  refine wE ?_;refine iX ?_;refine aJ K39 (aH fun _ K40=>aO jM fun _ K42=>?_)
  iterate 3 refine iX ?_
  refine nC ?_;refine fO (fun hb3=>?_) (fun hb3=>?_)
  ·exfalso;first|exact absurd hb3 (by decide)|exact hb3 rfl|(simp at hb3;done)|omega
  iterate 2 refine rz ?_
  refine Gi ?_;refine aU (.c (.bool (false))) (dN (by simp)) (iX ?_);refine nC ?_;refine fO (fun hb8=>?_) (fun hb8=>?_)
  ·exfalso;first|exact absurd hb8 (by decide)|exact hb8 rfl|(simp at hb8;done)|omega
  iterate 2 refine rz ?_
  refine Gi ?_;refine⟨cM,cM,rfl,⟨vM,vM⟩,bD ?_⟩
  first|refine aU (.c (.bool (true))) (dN (uU.2 rfl)) ?_|(intro cap11 hcap11;refine aU (.c (.bool (true))) (dN (uU.2 rfl)) ?_)
  refine rz ?_;refine iX ?_;refine nC ?_;refine fO (fun hb14=>?_) (fun hb14=>?_)
  ·exfalso;first|exact absurd hb14 (by decide)|exact hb14 rfl|(simp at hb14;done)|omega
  iterate 2 refine rz ?_
  refine Gi ?_;refine⟨cC,cC,rfl,⟨vC,vC⟩,bD ?_⟩
  first|refine aU (.c (.bool (true))) (dN (uU.2 rfl)) ?_|(intro cap17 hcap17;refine aU (.c (.bool (true))) (dN (uU.2 rfl)) ?_)
  refine rz ?_;refine iX ?_;refine aJ K42 (bC (b:=_) rfl (fun h_t117=>?_) (fun _=>?_))
  ·exfalso;first|exact absurd h_t117 (by decide)|(simp at h_t117;done)|cases h_t117
  refine bK (K40 _ _ _ (aO jM fun _ K44=>iX ?_));refine nC ?_;refine⟨d0,rfl,w0,?_⟩;rw[rS];refine bD ?_
  first|refine aL ?_|(intro cap1 hcap1;refine aL ?_)
  iterate 3 refine iX ?_
  refine wE ?_;refine iX ?_;refine aJ K44 (aO jM fun _ K46=>iX ?_);refine nC ?_;refine⟨d0,rfl,w0,?_⟩;rw[rS];refine bD ?_
  first|refine aL ?_|(intro cap1 hcap1;refine aL ?_)
  iterate 3 refine iX ?_
  refine wE ?_;refine iX ?_;refine aJ K46 (aO jM fun _ K48=>iX ?_);refine nC ?_;refine⟨y,rfl,by omega,?_⟩;rw[rW];refine bD ?_
  first|refine aL ?_|(intro cap1 hcap1;refine aL ?_)
  iterate 3 refine iX ?_
  refine wE ?_;refine iX ?_;refine aJ K48 (aO jM fun _ K50=>iX ?_);refine nC ?_;refine⟨y,rfl,by omega,?_⟩;rw[rW];refine bD ?_
  first|refine aL ?_|(intro cap1 hcap1;refine aL ?_)
  iterate 3 refine iX ?_
  refine wE ?_;refine iX ?_;refine aJ K50 (aO jM fun _ K52=>?_)
  iterate 2 refine iX ?_
  refine nC ?_;refine⟨d0,d1,rfl,⟨w0,w1⟩,?_⟩;rw[hoE];refine bD ?_
  first|refine aL ?_|(intro cap2 hcap2;refine aL ?_)
  iterate 5 refine iX ?_
  refine aJ K52 (aO jM fun _ K54=>?_)
  iterate 2 refine iX ?_
  refine nC ?_;refine⟨d0,d1,rfl,⟨w0,w1⟩,?_⟩;rw[hoE];refine bD ?_
  first|refine aL ?_|(intro cap2 hcap2;refine aL ?_)
  iterate 5 refine iX ?_
  refine aJ K54 (aO jM fun _ K56=>?_)
  iterate 2 refine iX ?_
  refine nC ?_;refine aU (.c (.bool (true))) (dN (by simp)) (nC ?_);refine fO (fun hb3=>?_) (fun hb3=>?_)
  rotate_left 1
  ·exfalso;first|exact absurd hb3 (by decide)|exact hb3 rfl|(simp at hb3;done)|omega
  iterate 3 refine rz ?_
  refine iX ?_;refine nC ?_;refine fO (fun hb8=>?_) (fun hb8=>?_)
  rotate_left 1
  ·exfalso;first|exact absurd hb8 (by decide)|exact hb8 rfl|(simp at hb8;done)|omega
  iterate 2 refine rz ?_
  refine Gi ?_;refine⟨cS,cS,rfl,⟨vS,vS⟩,bD ?_⟩
  first|refine aU (.c (.bool (true))) (dN (uU.2 rfl)) ?_|(intro cap11 hcap11;refine aU (.c (.bool (true))) (dN (uU.2 rfl)) ?_)
  refine iX ?_;refine nC ?_;refine fO (fun hb13=>?_) (fun hb13=>?_)
  rotate_left 1
  ·exfalso;first|exact absurd hb13 (by decide)|exact hb13 rfl|(simp at hb13;done)|omega
  iterate 2 refine rz ?_
  refine Gi ?_;refine⟨cW,cW,rfl,⟨vW,vW⟩,bD ?_⟩
  first|refine aU (.c (.bool (true))) (dN (uU.2 rfl)) ?_|(intro cap16 hcap16;refine aU (.c (.bool (true))) (dN (uU.2 rfl)) ?_)
  refine iX ?_;refine nC ?_;refine fO (fun hb18=>?_) (fun hb18=>?_)
  rotate_left 1
  ·exfalso;first|exact absurd hb18 (by decide)|exact hb18 rfl|(simp at hb18;done)|omega
  iterate 2 refine rz ?_
  refine Gi ?_;refine aU (.c (.bool (true))) (dN (by simp)) (iX ?_);refine nC ?_;refine fO (fun hb23=>?_) (fun hb23=>?_)
  rotate_left 1
  ·exfalso;first|exact absurd hb23 (by decide)|exact hb23 rfl|(simp at hb23;done)|omega
  iterate 4 refine rz ?_
  refine Gi ?_;refine aU (.c (.bool (true))) (dN (by simp)) (iX ?_);refine nC ?_;refine fO (fun hb30=>?_) (fun hb30=>?_)
  rotate_left 1
  ·exfalso;first|exact absurd hb30 (by decide)|exact hb30 rfl|(simp at hb30;done)|omega
  refine rz ?_
  iterate 2 refine iX ?_
  refine aJ K56 (bQ (eU jM (fun _ _ h=>h) (by first|rfl|assumption) [.tmp 6] rfl ?_));refine gV ?_
  rfl


end Go.Proofs.YtpdljmohhpbkpaaDoor
