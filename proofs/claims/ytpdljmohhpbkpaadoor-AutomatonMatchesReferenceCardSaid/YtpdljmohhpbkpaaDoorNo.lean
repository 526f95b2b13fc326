/- Contracts of functions and plain facts, part 15. -/
import Derived.Test.YtpdljmohhpbkpaaDoorNn
import Derived.Test.YtpdljmohhpbkpaaDoorNm
set_option linter.all false
set_option maxHeartbeats 1000000
set_option maxRecDepth 4000
namespace Go.Proofs.YtpdljmohhpbkpaaDoor
open Go.Ab Go.RowKit

section
variable {a b:Prop}
theorem F7(h:a:=by first|exact gG|(simp<;>omega)|exact⟨rfl,rfl,rfl,rfl,by decide⟩|decide|(show _< _;decide)|exact gH):a:=h
theorem iI(kZ:b)(h:aK b->a:=by intro kZ;(repeat first|refine aI F7 ?_|refine bW F7 ?_|refine dC F7 ?_|refine fT F7 ?_|refine fA ?_);exact kZ.out):a:=h ⟨kZ⟩
theorem jm(kZ:b)(h:aK b->a:=by intro kZ;refine sX ?_;refine iI ?_;refine aL ?_;exact kZ.out):a:=h ⟨kZ⟩
theorem Nb(kZ:b)(h:aK b->a:=by intro kZ;refine jl ?_;refine iI ?_;refine aL ?_;exact kZ.out):a:=h ⟨kZ⟩
theorem mg(kZ:b)(h:aK b->a:=by intro kZ;refine mX ?_;refine iI ?_;refine aL ?_;exact kZ.out):a:=h ⟨kZ⟩
theorem z25(kZ:b)(h:aK b->a:=by intro kZ;refine sX ?_;refine iI ?_;exact kZ.out):a:=h ⟨kZ⟩
theorem uW(kZ:b)(h:aK b->a:=by intro kZ;refine mX ?_;refine iI ?_;exact kZ.out):a:=h ⟨kZ⟩
end
open Go.Aut
theorem wh:Lv jy [97,98]=true:=by rw[Lv,pU MC];decide+kernel
theorem IA:Lv jy [98]=false:=by rw[Lv,pU MC];decide+kernel
attribute [local irreducible] eG z12 zl au gz cr
noncomputable def VT:Ctx:={ P:=Tryd.prog,ty:=ty,glob:=gl,fs:=[(18,.data B5),(14,.data Yh),(16,.data y34),(22,.data y2v),(20,.data Z5),(23,.flat Xx),(11,.flat Ap),(24,.flat zvi),(25,.flat Gn)] }
theorem vL:VT.OK:=⟨dS,⟨⟨bX Tryd.func18 aN rfl,y23⟩,⟨bX Tryd.func14 aN rfl,zm4⟩,⟨bX Tryd.func16 aN rfl,zwe⟩,⟨bX Tryd.func22 aN rfl,y2w⟩,⟨bX Tryd.func20 aN rfl,zqw⟩,⟨bX Tryd.func23 aN rfl,zka⟩,⟨bX Tryd.func11 aN rfl,y38⟩,⟨bX Tryd.func24 aN rfl,zy5⟩,⟨bX Tryd.func25 aN rfl,z70⟩,trivial⟩,mixed⟩
@[simp] theorem VU:VT.ty=ty:=rfl

def y3w:aW:=fun vs K=>vs=[]/\K (.c (.bool true))
theorem y3x:jJ Tryd.prog gl 4 y3w:=by
 refine kU (Γ:=VT) (N:=183) Tryd.func4 rfl rfl fun vs K h=>?_;obtain⟨rfl,h⟩:=h;refine⟨_,h,rfl,by simp,fun w I=>?_⟩;refine aO vL fun _ K2=>jm ?_;refine aJ K2 ?_
 have hwAB:=C4 MC
 have hwA:=C4 wC.1
 have hwB:=C4 Na.1
 refine aO vL fun _ K4=>?_
 iterate 2 refine jm ?_
 refine z25 ?_;refine⟨[97,98],rfl,by decide,?_⟩;rw[Ga];refine iI ?_
 first|refine aL ?_|(intro cap2 hcap2;refine aL ?_)
 iterate 4 refine jm ?_
 refine Nb ?_;refine jm ?_;refine aJ K4 (aO vL fun _ K6=>?_)
 iterate 2 refine jm ?_
 refine z25 ?_;refine⟨[97],rfl,by decide,?_⟩;rw[L5];refine iI ?_
 first|refine aL ?_|(intro cap2 hcap2;refine aL ?_)
 iterate 4 refine jm ?_
 refine Nb ?_;refine jm ?_;refine aJ K6 (aO vL fun _ K8=>?_)
 iterate 2 refine jm ?_
 refine z25 ?_;refine⟨[98],rfl,by decide,?_⟩;rw[L6];refine iI ?_
 first|refine aL ?_|(intro cap2 hcap2;refine aL ?_)
 iterate 4 refine jm ?_
 refine Nb ?_;refine jm ?_;refine aJ K8 (aO vL fun _ K10=>?_)
 iterate 2 refine jm ?_
 refine z25 ?_;refine⟨dA,dB,rfl,⟨hwA,hwB⟩,?_⟩;rw[y3n];refine iI ?_
 first|refine aL ?_|(intro cap2 hcap2;refine aL ?_)
 iterate 4 refine jm ?_
 refine Nb ?_;refine jm ?_;refine aJ K10 (aO vL fun _ K12=>jm ?_);refine z25 ?_;refine⟨dA,rfl,hwA,?_⟩;rw[LV];refine iI ?_
 first|refine aL ?_|(intro cap1 hcap1;refine aL ?_)
 iterate 4 refine jm ?_
 refine Nb ?_;refine jm ?_;refine aJ K12 (aH fun _ K13=>aO vL fun _ K15=>?_)
 iterate 2 refine jm ?_
 refine z25 ?_;refine fO (fun hb2=>?_) (fun hb2=>?_)
 ·exfalso;first|exact absurd hb2 (by decide)|exact hb2 rfl|(simp at hb2;done)|omega
 iterate 2 refine mg ?_
 refine jm ?_;refine z25 ?_;refine fO (fun hb6=>?_) (fun hb6=>?_)
 ·exfalso;first|exact absurd hb6 (by decide)|exact hb6 rfl|(simp at hb6;done)|omega
 iterate 2 refine mg ?_
 refine jm ?_;refine z25 ?_;refine fO (fun hb10=>?_) (fun hb10=>?_)
 ·exfalso;first|exact absurd hb10 (by decide)|exact hb10 rfl|(simp at hb10;done)|omega
 iterate 2 refine mg ?_
 refine jm ?_;refine z25 ?_;refine fO (fun hb14=>?_) (fun hb14=>?_)
 ·exfalso;first|exact absurd hb14 (by decide)|exact hb14 rfl|(simp at hb14;done)|omega
 iterate 2 refine mg ?_
 refine jm ?_;refine z25 ?_;refine fO (fun hb18=>?_) (fun hb18=>?_)
 ·exfalso;first|exact absurd hb18 (by decide)|exact hb18 rfl|(simp at hb18;done)|omega
 iterate 2 refine mg ?_
 refine uW ?_;refine aU (.c (.int .i64 (3))) (az (rfl)) (mg ?_);refine jm ?_;refine z25 ?_;refine fO (fun hb24=>?_) (fun hb24=>?_)
 ·exfalso;first|exact absurd hb24 (by decide)|exact hb24 rfl|(simp at hb24;done)|omega
 iterate 2 refine mg ?_
 refine uW ?_;refine aU (.c (.int .i64 (4))) (az (rfl)) (mg ?_);refine jm ?_;refine z25 ?_;refine fO (fun hb30=>?_) (fun hb30=>?_)
 ·exfalso;first|exact absurd hb30 (by decide)|exact hb30 rfl|(simp at hb30;done)|omega
 iterate 2 refine mg ?_
 refine uW ?_;refine aU (.c (.int .i64 (2))) (az (rfl)) (mg ?_);refine jm ?_;refine z25 ?_;refine fO (fun hb36=>?_) (fun hb36=>?_)
 ·exfalso;first|exact absurd hb36 (by decide)|exact hb36 rfl|(simp at hb36;done)|omega
 iterate 2 refine mg ?_
 refine uW ?_;refine aU (.c (.int .i64 (2))) (az (rfl)) (mg ?_);refine jm ?_;refine aJ K15 (bC (b:=_) rfl (fun h_t88=>?_) (fun _=>?_))
 ·exfalso;first|exact absurd h_t88 (by decide)|(simp at h_t88;done)|cases h_t88
 refine bK (K13 _ _ _ (aO vL fun _ K17=>jm ?_));refine z25 ?_;refine⟨jy,rfl,hwAB,?_⟩;rw[yw];refine iI ?_
 first|refine aL ?_|(intro cap1 hcap1;refine aL ?_)
 iterate 5 refine jm ?_
 refine aJ K17 (aO vL fun _ K19=>?_)
 iterate 2 refine jm ?_
 refine z25 ?_;refine⟨jy,dA,rfl,⟨hwAB,hwA⟩,?_⟩;rw[xA];refine iI ?_
 first|refine aL ?_|(intro cap2 hcap2;refine aL ?_)
 iterate 5 refine jm ?_
 refine aJ K19 (aO vL fun _ K21=>jm ?_);refine z25 ?_;refine⟨List.replicate 63 0,rfl,by decide,?_⟩;rw[G9];refine iI ?_
 first|refine aL ?_|(intro cap1 hcap1;refine aL ?_)
 iterate 4 refine jm ?_
 refine Nb ?_;refine jm ?_;refine aJ K21 (aO vL fun _ K23=>?_)
 iterate 3 refine jm ?_
 refine z25 ?_;refine aU (.c (.ds 3 (.ints .i64 [1,2,1]))) (bq rfl) (jm ?_);refine z25 ?_;refine⟨[1,2,1],[1,2,1],rfl,⟨by decide,by decide⟩,iI ?_⟩
 first|refine aL ?_|(intro cap5 hcap5;refine aL ?_)
 refine z25 ?_;refine fO (fun hb6=>?_) (fun hb6=>?_)
 rotate_left 1
 ·exfalso;first|exact absurd hb6 (by decide)|exact hb6 rfl|(simp at hb6;done)|omega
 iterate 3 refine mg ?_
 refine uW ?_;refine aU (.c (.ds 3 (.ints .i64 [1,1,3]))) (bq rfl) (mg ?_);refine uW ?_;refine⟨[1,1,3],[1,1,3],rfl,⟨by decide,by decide⟩,iI ?_⟩
 first|refine aL ?_|(intro cap12 hcap12;refine aL ?_)
 refine jm ?_;refine z25 ?_;refine fO (fun hb14=>?_) (fun hb14=>?_)
 rotate_left 1
 ·exfalso;first|exact absurd hb14 (by decide)|exact hb14 rfl|(simp at hb14;done)|omega
 iterate 3 refine mg ?_
 refine uW ?_;refine aU (.c (.ds 2 (.ints .i64 [1,0]))) (bq rfl) (mg ?_);refine uW ?_;refine⟨[1,0],[1,0],rfl,⟨by decide,by decide⟩,iI ?_⟩
 first|refine aL ?_|(intro cap20 hcap20;refine aL ?_)
 refine jm ?_;refine z25 ?_;refine fO (fun hb22=>?_) (fun hb22=>?_)
 rotate_left 1
 ·exfalso;first|exact absurd hb22 (by decide)|exact hb22 rfl|(simp at hb22;done)|omega
 iterate 3 refine mg ?_
 refine uW ?_;refine aU (.c (.bool true)) (bq rfl) (jm ?_);refine z25 ?_;refine fO (fun hb28=>?_) (fun hb28=>?_)
 rotate_left 1
 ·exfalso;first|exact absurd hb28 (by decide)|exact hb28 rfl|(simp at hb28;done)|omega
 iterate 3 refine mg ?_
 refine uW ?_;refine aU (.c (.bool false)) (bq rfl) (mg ?_)
 iterate 2 refine jm ?_
 refine aJ K23 (aO vL fun _ K25=>jm ?_);refine z25 ?_;refine fO (fun hb1=>?_) (fun hb1=>?_)
 rotate_left 1
 ·exfalso;first|exact absurd hb1 (by decide)|exact hb1 rfl|(simp at hb1;done)|omega
 iterate 2 refine mg ?_
 refine uW ?_;refine⟨jy,jy,rfl,⟨hwAB,hwAB⟩,iI ?_⟩
 first|refine aU (.c (.bool (true))) (dN (uU.2 rfl)) ?_|(intro cap4 hcap4;refine aU (.c (.bool (true))) (dN (uU.2 rfl)) ?_)
 refine jm ?_;refine z25 ?_;refine fO (fun hb6=>?_) (fun hb6=>?_)
 rotate_left 1
 ·exfalso;first|exact absurd hb6 (by decide)|exact hb6 rfl|(simp at hb6;done)|omega
 refine mg ?_;refine jm ?_;refine z25 ?_;refine fO (fun hb9=>?_) (fun hb9=>?_)
 rotate_left 1
 ·exfalso;first|exact absurd hb9 (by decide)|exact hb9 rfl|(simp at hb9;done)|omega
 iterate 3 refine mg ?_
 refine jm ?_;refine z25 ?_;refine fO (fun hb14=>?_) (fun hb14=>?_)
 rotate_left 1
 ·exfalso;first|exact absurd hb14 (by decide)|exact hb14 rfl|(simp at hb14;done)|omega
 refine mg ?_;refine jm ?_;refine z25 ?_;refine fO (fun hb17=>?_) (fun hb17=>?_)
 rotate_left 1
 ·exfalso;first|exact absurd hb17 (by decide)|exact hb17 rfl|(simp at hb17;done)|omega
 iterate 3 refine mg ?_
 refine jm ?_;refine z25 ?_;refine fO (fun hb22=>?_) (fun hb22=>?_)
 rotate_left 1
 ·exfalso;first|exact absurd hb22 (by decide)|exact hb22 rfl|(simp at hb22;done)|omega
 iterate 2 refine mg ?_
 refine jm ?_;refine z25 ?_;refine fO (fun hb26=>?_) (fun hb26=>?_)
 rotate_left 1
 ·exfalso;first|exact absurd hb26 (by decide)|exact hb26 rfl|(simp at hb26;done)|omega
 iterate 3 refine mg ?_
 refine uW ?_;refine⟨jy,[97,98],rfl,⟨hwAB,by decide⟩,iI ?_⟩
 first|refine aU (.c (.bool (true))) (dN (wh)) ?_|(intro cap30 hcap30;refine aU (.c (.bool (true))) (dN (wh)) ?_)
 refine jm ?_;refine z25 ?_;refine fO (fun hb32=>?_) (fun hb32=>?_)
 rotate_left 1
 ·exfalso;first|exact absurd hb32 (by decide)|exact hb32 rfl|(simp at hb32;done)|omega
 iterate 3 refine mg ?_
 refine uW ?_;refine⟨jy,[98],rfl,⟨hwAB,by decide⟩,iI ?_⟩
 first|refine aU (.c (.bool (false))) (dN (IA)) ?_|(intro cap36 hcap36;refine aU (.c (.bool (false))) (dN (IA)) ?_)
 refine mg ?_;refine jm ?_;refine z25 ?_;refine fO (fun hb39=>?_) (fun hb39=>?_)
 rotate_left 1
 ·exfalso;first|exact absurd hb39 (by decide)|exact hb39 rfl|(simp at hb39;done)|omega
 refine mg ?_;refine uW ?_;refine⟨jy,rfl,hwAB,iI ?_⟩
 first|refine aU (.c (.bool (true))) (dN (pU MC)) ?_|(intro cap41 hcap41;refine aU (.c (.bool (true))) (dN (pU MC)) ?_)
 iterate 2 refine jm ?_
 refine aJ K25 (bQ (eU vL (fun _ _ h=>h) (by first|rfl|assumption) [.tmp 0] rfl ?_));refine gV ?_
 rfl


end Go.Proofs.YtpdljmohhpbkpaaDoor
