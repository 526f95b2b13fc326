/- Part 15 of what the claims of this seat share: the walk's engine, the functions' contracts, plain mathematics (Vj). -/
import Derived.Test.YtppmnaoollkboaaDoorPn
import Derived.Test.YtppmnaoollkboaaDoorPm
set_option maxHeartbeats 1000000
set_option maxRecDepth 4000
namespace Go.Proofs.YtppmnaoollkboaaDoor
set_option linter.all false
open Go.Ab Go.RowKit

section
variable {a b:Prop}
theorem qVj0(h:a:=by first|exact vcA|(simp<;>omega)|exact⟨rfl,rfl,rfl,rfl,by decide⟩|decide|(show _< _;decide)|exact vcB):a:=h
theorem DVj_0(kZ:b)(h:HidB b→a:=by intro kZ;(repeat first|refine aI qVj0 ?_|refine z04 qVj0 ?_|refine z03 qVj0 ?_|refine z0m qVj0 ?_|refine z0c ?_);exact kZ.out):a:=h ⟨kZ⟩
theorem z1f(kZ:b)(h:HidB b→a:=by intro kZ;refine sX ?_;refine DVj_0 ?_;refine exI ?_;exact kZ.out):a:=h ⟨kZ⟩
theorem zes(kZ:b)(h:HidB b→a:=by intro kZ;refine sX0 ?_;refine DVj_0 ?_;refine exI ?_;exact kZ.out):a:=h ⟨kZ⟩
theorem z29(kZ:b)(h:HidB b→a:=by intro kZ;refine sXT ?_;refine DVj_0 ?_;refine exI ?_;exact kZ.out):a:=h ⟨kZ⟩
theorem z1v(kZ:b)(h:HidB b→a:=by intro kZ;refine sX ?_;refine DVj_0 ?_;exact kZ.out):a:=h ⟨kZ⟩
theorem z3x(kZ:b)(h:HidB b→a:=by intro kZ;refine sXT ?_;refine DVj_0 ?_;exact kZ.out):a:=h ⟨kZ⟩
end
open Go.Aut
theorem acc_AB:z6u dAB [97,98]=true:=by rw[z6u,z1s z9l];decide+kernel
theorem acc_B:z6u dAB [98]=false:=by rw[z6u,z1s z9l];decide+kernel
attribute [local irreducible] z0s z12 zl z02 z11 putB
noncomputable def gs4:Ctx:={ P:=Tryd.prog,ty:=ty,glob:=gl,fs:=[(27,.data wordS),(23,.data ztv),(24,.data starAS),(29,.data zqx),(31,.data y01),(72,.flat zit),(28,.flat sameS),(25,.flat zll),(50,.flat z7v)] }
theorem z8q:gs4.OK:=⟨tyOK,⟨⟨z08 Tryd.func27 kR rfl,word_ok⟩,⟨z08 Tryd.func23 kR rfl,zvj⟩,⟨z08 Tryd.func24 kR rfl,starA_ok⟩,⟨z08 Tryd.func29 kR rfl,zoj⟩,⟨z08 Tryd.func31 kR rfl,y02⟩,⟨z08 Tryd.func72 kR rfl,ziu⟩,⟨z08 Tryd.func28 kR rfl,y0d⟩,⟨z08 Tryd.func25 kR rfl,zk2⟩,⟨z08 Tryd.func50 kR rfl,z5h⟩,trivial⟩,mixed⟩
@[simp] theorem gs4_ty:gs4.ty=ty:=rfl

def y0r:QSpec:=fun vs K=>vs=[]∧K (.c (.bool true))
theorem y0s:z19 Tryd.prog gl 20 y0r:=by
 refine z1d (Γ:=gs4) (N:=183) Tryd.func20 rfl rfl fun vs K h=>?_;obtain⟨rfl,h⟩:=h;refine⟨_,h,rfl,by simp,fun w I=>?_⟩;refine srR z8q fun _ K2=>?_;refine z1f ?_;refine s_n K2 ?_
 have hwAB:=ze9 z9l
 have hwA:=ze9 z6n.1
 have hwB:=ze9 zer.1
 refine srR z8q fun _ K4=>?_
 iterate 2 refine z1f ?_
 refine z1v ?_;refine⟨[97,98],rfl,by decide,?_⟩;rw[word_AB];refine DVj_0 ?_
 first|refine exI ?_|(intro cap2 hcap2;refine exI ?_)
 iterate 4 refine z1f ?_
 refine zes ?_;refine z1f ?_;refine s_n K4 ?_;refine srR z8q fun _ K6=>?_
 iterate 2 refine z1f ?_
 refine z1v ?_;refine⟨[97],rfl,by decide,?_⟩;rw[word_A];refine DVj_0 ?_
 first|refine exI ?_|(intro cap2 hcap2;refine exI ?_)
 iterate 4 refine z1f ?_
 refine zes ?_;refine z1f ?_;refine s_n K6 ?_;refine srR z8q fun _ K8=>?_
 iterate 2 refine z1f ?_
 refine z1v ?_;refine⟨[98],rfl,by decide,?_⟩;rw[word_B];refine DVj_0 ?_
 first|refine exI ?_|(intro cap2 hcap2;refine exI ?_)
 iterate 4 refine z1f ?_
 refine zes ?_;refine z1f ?_;refine s_n K8 ?_;refine srR z8q fun _ K10=>?_
 iterate 2 refine z1f ?_
 refine z1v ?_;refine⟨dA,dB,rfl,⟨hwA,hwB⟩,?_⟩;rw[y0o];refine DVj_0 ?_
 first|refine exI ?_|(intro cap2 hcap2;refine exI ?_)
 iterate 4 refine z1f ?_
 refine zes ?_;refine z1f ?_;refine s_n K10 ?_;refine srR z8q fun _ K12=>?_;refine z1f ?_;refine z1v ?_;refine⟨dA,rfl,hwA,?_⟩;rw[star_A];refine DVj_0 ?_
 first|refine exI ?_|(intro cap1 hcap1;refine exI ?_)
 iterate 4 refine z1f ?_
 refine zes ?_;refine z1f ?_;refine s_n K12 ?_;refine seq_k fun _ K13=>?_;refine srR z8q fun _ K15=>?_
 iterate 2 refine z1f ?_
 refine z1v ?_;refine exB (fun hb2=>?_) (fun hb2=>?_)
 ·exfalso;first|exact absurd hb2 (by decide)|exact hb2 rfl|(simp at hb2;done)|omega
 iterate 2 refine z29 ?_
 refine z1f ?_;refine z1v ?_;refine exB (fun hb6=>?_) (fun hb6=>?_)
 ·exfalso;first|exact absurd hb6 (by decide)|exact hb6 rfl|(simp at hb6;done)|omega
 iterate 2 refine z29 ?_
 refine z1f ?_;refine z1v ?_;refine exB (fun hb10=>?_) (fun hb10=>?_)
 ·exfalso;first|exact absurd hb10 (by decide)|exact hb10 rfl|(simp at hb10;done)|omega
 iterate 2 refine z29 ?_
 refine z1f ?_;refine z1v ?_;refine exB (fun hb14=>?_) (fun hb14=>?_)
 ·exfalso;first|exact absurd hb14 (by decide)|exact hb14 rfl|(simp at hb14;done)|omega
 iterate 2 refine z29 ?_
 refine z1f ?_;refine z1v ?_;refine exB (fun hb18=>?_) (fun hb18=>?_)
 ·exfalso;first|exact absurd hb18 (by decide)|exact hb18 rfl|(simp at hb18;done)|omega
 iterate 2 refine z29 ?_
 refine z3x ?_;refine exA (.c (.int .i64 (3))) (as_i (rfl)) ?_;refine z29 ?_;refine z1f ?_;refine z1v ?_;refine exB (fun hb24=>?_) (fun hb24=>?_)
 ·exfalso;first|exact absurd hb24 (by decide)|exact hb24 rfl|(simp at hb24;done)|omega
 iterate 2 refine z29 ?_
 refine z3x ?_;refine exA (.c (.int .i64 (4))) (as_i (rfl)) ?_;refine z29 ?_;refine z1f ?_;refine z1v ?_;refine exB (fun hb30=>?_) (fun hb30=>?_)
 ·exfalso;first|exact absurd hb30 (by decide)|exact hb30 rfl|(simp at hb30;done)|omega
 iterate 2 refine z29 ?_
 refine z3x ?_;refine exA (.c (.int .i64 (2))) (as_i (rfl)) ?_;refine z29 ?_;refine z1f ?_;refine z1v ?_;refine exB (fun hb36=>?_) (fun hb36=>?_)
 ·exfalso;first|exact absurd hb36 (by decide)|exact hb36 rfl|(simp at hb36;done)|omega
 iterate 2 refine z29 ?_
 refine z3x ?_;refine exA (.c (.int .i64 (2))) (as_i (rfl)) ?_;refine z29 ?_;refine z1f ?_;refine s_n K15 ?_;refine z09 (b:=_) rfl (fun h_t88=>?_) (fun _=>?_)
 ·exfalso;first|exact absurd h_t88 (by decide)|(simp at h_t88;done)|cases h_t88
 refine z0b ?_;apply K13;refine srR z8q fun _ K17=>?_;refine z1f ?_;refine z1v ?_;refine⟨dAB,rfl,hwAB,?_⟩;rw[least_AB];refine DVj_0 ?_
 first|refine exI ?_|(intro cap1 hcap1;refine exI ?_)
 iterate 5 refine z1f ?_
 refine s_n K17 ?_;refine srR z8q fun _ K19=>?_
 iterate 2 refine z1f ?_
 refine z1v ?_;refine⟨dAB,dA,rfl,⟨hwAB,hwA⟩,?_⟩;rw[apart_AB];refine DVj_0 ?_
 first|refine exI ?_|(intro cap2 hcap2;refine exI ?_)
 iterate 5 refine z1f ?_
 refine s_n K19 ?_;refine srR z8q fun _ K21=>?_;refine z1f ?_;refine z1v ?_;refine⟨List.replicate 63 0,rfl,by decide,?_⟩;rw[word_63];refine DVj_0 ?_
 first|refine exI ?_|(intro cap1 hcap1;refine exI ?_)
 iterate 4 refine z1f ?_
 refine zes ?_;refine z1f ?_;refine s_n K21 ?_;refine srR z8q fun _ K23=>?_
 iterate 3 refine z1f ?_
 refine z1v ?_;refine exA (.c (.ds 3 (.ints .i64 [1,2,1]))) (as_eq rfl) ?_;refine z1f ?_;refine z1v ?_;refine⟨[1,2,1],[1,2,1],rfl,⟨by decide,by decide⟩,?_⟩;refine DVj_0 ?_
 first|refine exI ?_|(intro cap5 hcap5;refine exI ?_)
 refine z1v ?_;refine exB (fun hb6=>?_) (fun hb6=>?_)
 rotate_left 1
 ·exfalso;first|exact absurd hb6 (by decide)|exact hb6 rfl|(simp at hb6;done)|omega
 iterate 3 refine z29 ?_
 refine z3x ?_;refine exA (.c (.ds 3 (.ints .i64 [1,1,3]))) (as_eq rfl) ?_;refine z29 ?_;refine z3x ?_;refine⟨[1,1,3],[1,1,3],rfl,⟨by decide,by decide⟩,?_⟩;refine DVj_0 ?_
 first|refine exI ?_|(intro cap12 hcap12;refine exI ?_)
 refine z1f ?_;refine z1v ?_;refine exB (fun hb14=>?_) (fun hb14=>?_)
 rotate_left 1
 ·exfalso;first|exact absurd hb14 (by decide)|exact hb14 rfl|(simp at hb14;done)|omega
 iterate 3 refine z29 ?_
 refine z3x ?_;refine exA (.c (.ds 2 (.ints .i64 [1,0]))) (as_eq rfl) ?_;refine z29 ?_;refine z3x ?_;refine⟨[1,0],[1,0],rfl,⟨by decide,by decide⟩,?_⟩;refine DVj_0 ?_
 first|refine exI ?_|(intro cap20 hcap20;refine exI ?_)
 refine z1f ?_;refine z1v ?_;refine exB (fun hb22=>?_) (fun hb22=>?_)
 rotate_left 1
 ·exfalso;first|exact absurd hb22 (by decide)|exact hb22 rfl|(simp at hb22;done)|omega
 iterate 3 refine z29 ?_
 refine z3x ?_;refine exA (.c (.bool true)) (as_eq rfl) ?_;refine z1f ?_;refine z1v ?_;refine exB (fun hb28=>?_) (fun hb28=>?_)
 rotate_left 1
 ·exfalso;first|exact absurd hb28 (by decide)|exact hb28 rfl|(simp at hb28;done)|omega
 iterate 3 refine z29 ?_
 refine z3x ?_;refine exA (.c (.bool false)) (as_eq rfl) ?_;refine z29 ?_
 iterate 2 refine z1f ?_
 refine s_n K23 ?_;refine srR z8q fun _ K25=>?_;refine z1f ?_;refine z1v ?_;refine exB (fun hb1=>?_) (fun hb1=>?_)
 rotate_left 1
 ·exfalso;first|exact absurd hb1 (by decide)|exact hb1 rfl|(simp at hb1;done)|omega
 iterate 2 refine z29 ?_
 refine z3x ?_;refine⟨dAB,dAB,rfl,⟨hwAB,hwAB⟩,?_⟩;refine DVj_0 ?_
 first|refine exA (.c (.bool (true))) (as_b (z8o.2 rfl)) ?_|(intro cap4 hcap4;refine exA (.c (.bool (true))) (as_b (z8o.2 rfl)) ?_)
 refine z1f ?_;refine z1v ?_;refine exB (fun hb6=>?_) (fun hb6=>?_)
 rotate_left 1
 ·exfalso;first|exact absurd hb6 (by decide)|exact hb6 rfl|(simp at hb6;done)|omega
 refine z29 ?_;refine z1f ?_;refine z1v ?_;refine exB (fun hb9=>?_) (fun hb9=>?_)
 rotate_left 1
 ·exfalso;first|exact absurd hb9 (by decide)|exact hb9 rfl|(simp at hb9;done)|omega
 iterate 3 refine z29 ?_
 refine z1f ?_;refine z1v ?_;refine exB (fun hb14=>?_) (fun hb14=>?_)
 rotate_left 1
 ·exfalso;first|exact absurd hb14 (by decide)|exact hb14 rfl|(simp at hb14;done)|omega
 refine z29 ?_;refine z1f ?_;refine z1v ?_;refine exB (fun hb17=>?_) (fun hb17=>?_)
 rotate_left 1
 ·exfalso;first|exact absurd hb17 (by decide)|exact hb17 rfl|(simp at hb17;done)|omega
 iterate 3 refine z29 ?_
 refine z1f ?_;refine z1v ?_;refine exB (fun hb22=>?_) (fun hb22=>?_)
 rotate_left 1
 ·exfalso;first|exact absurd hb22 (by decide)|exact hb22 rfl|(simp at hb22;done)|omega
 iterate 2 refine z29 ?_
 refine z1f ?_;refine z1v ?_;refine exB (fun hb26=>?_) (fun hb26=>?_)
 rotate_left 1
 ·exfalso;first|exact absurd hb26 (by decide)|exact hb26 rfl|(simp at hb26;done)|omega
 iterate 3 refine z29 ?_
 refine z3x ?_;refine⟨dAB,[97,98],rfl,⟨hwAB,by decide⟩,?_⟩;refine DVj_0 ?_
 first|refine exA (.c (.bool (true))) (as_b (acc_AB)) ?_|(intro cap30 hcap30;refine exA (.c (.bool (true))) (as_b (acc_AB)) ?_)
 refine z1f ?_;refine z1v ?_;refine exB (fun hb32=>?_) (fun hb32=>?_)
 rotate_left 1
 ·exfalso;first|exact absurd hb32 (by decide)|exact hb32 rfl|(simp at hb32;done)|omega
 iterate 3 refine z29 ?_
 refine z3x ?_;refine⟨dAB,[98],rfl,⟨hwAB,by decide⟩,?_⟩;refine DVj_0 ?_
 first|refine exA (.c (.bool (false))) (as_b (acc_B)) ?_|(intro cap36 hcap36;refine exA (.c (.bool (false))) (as_b (acc_B)) ?_)
 refine z29 ?_;refine z1f ?_;refine z1v ?_;refine exB (fun hb39=>?_) (fun hb39=>?_)
 rotate_left 1
 ·exfalso;first|exact absurd hb39 (by decide)|exact hb39 rfl|(simp at hb39;done)|omega
 refine z29 ?_;refine z3x ?_;refine⟨dAB,rfl,hwAB,?_⟩;refine DVj_0 ?_
 first|refine exA (.c (.bool (true))) (as_b (z1s z9l)) ?_|(intro cap41 hcap41;refine exA (.c (.bool (true))) (as_b (z1s z9l)) ?_)
 iterate 2 refine z1f ?_
 refine s_n K25 ?_;refine z0g (z0d z8q (fun _ _ h=>h) (by first|rfl|assumption) [.tmp 0] rfl ?_);refine rtD ?_
 rfl


end Go.Proofs.YtppmnaoollkboaaDoor
