/- Numerals: the law of the reference. -/
import Derived.Test.YtppmnaoollkboaaDoorQy
import Derived.Test.YtppmnaoollkboaaDoorQx
import Derived.Test.YtppmnaoollkboaaDoorQp
set_option maxHeartbeats 1000000
set_option maxRecDepth 4000
namespace Go.Proofs.YtppmnaoollkboaaDoor
set_option linter.all false
open Go.Ab Go.RowKit

section
variable {a b:Prop}
theorem qKg0(h:a:=by first|exact vcA|(simp<;>omega)|exact⟨by omega,by omega⟩|exact⟨by omega,by omega,by omega⟩|decide|(show _< _;decide)|exact vcB):a:=h
theorem uKg_0(h:a:=by
    repeat' (first|exact pT|exact trivial|refine aI ?_ ?_|exact cC0|refine low_cons' ?_ ?_|exact cC1|fail)
    all_goals first|omega|exact z2w _|exact z1h _|(simp;done)|(show Cont.u8s _=_;simp;done)|(show(0:Nat)< (z08 _ _ _ _).length;rw[z06 hcl];decide)|(simp[-List.reduceReplicate];done)|(simp[-List.reduceReplicate]<;>omega)|skip):a:=h
theorem DKg_0(kZ:b)(h:HidB b→a:=by intro kZ;(repeat first|refine aI qKg0 ?_|refine z0a qKg0 ?_|refine z07 qKg0 ?_|refine z0l qKg0 ?_|refine z0c ?_);exact kZ.out):a:=h ⟨kZ⟩
theorem z3z(kZ:b)(h:HidB b→a:=by intro kZ;refine sX ?_;refine DKg_0 ?_;refine exI ?_;exact kZ.out):a:=h ⟨kZ⟩
theorem zkn(kZ:b)(h:HidB b→a:=by intro kZ;refine sX0 ?_;refine DKg_0 ?_;refine exI ?_;exact kZ.out):a:=h ⟨kZ⟩
theorem z8g(kZ:b)(h:HidB b→a:=by intro kZ;refine qXT ?_;refine DKg_0 ?_;refine exI ?_;exact kZ.out):a:=h ⟨kZ⟩
theorem zce(kZ:b)(h:HidB b→a:=by intro kZ;refine qX ?_;refine DKg_0 ?_;refine exI ?_;exact kZ.out):a:=h ⟨kZ⟩
theorem z41(kZ:b)(h:HidB b→a:=by intro kZ;refine sX ?_;refine DKg_0 ?_;exact kZ.out):a:=h ⟨kZ⟩
theorem z4w(kZ:b)(h:HidB b→a:=by intro kZ;refine qX ?_;refine DKg_0 ?_;exact kZ.out):a:=h ⟨kZ⟩
theorem z73(kZ:b)(h:HidB b→a:=by intro kZ;refine qXT ?_;refine DKg_0 ?_;exact kZ.out):a:=h ⟨kZ⟩
end
open Go.Aut
attribute [local irreducible] z0o z0y zl z08 z0v putB canD
theorem allR_wf(r:Rul):(allR r).1.wf:=by
  rw[allR]
  split
  · rename_i h;exact zjd (zc9 (z57.1 h) Pa).1
  · exact noD_wf
theorem y09(r:Rul)(n:Int):(z97 r n).1.wf:=by
  rw[z97]
  split
  · rename_i h;exact zjd (zc9 (zau.1 h).1 (Pn n)).1
  · exact noD_wf
noncomputable def gnm:Ctx:={ P:=Tryd.prog,ty:=ty,glob:=gl,fs:=[(53,.flat zrx),(64,.flat zar),(65,.flat zer),(55,.data zy0),(58,.data zpw),(57,.data zpj),(59,.data zs6),(60,.data zi7),(61,.data zh7),(62,.data zpi),(63,.data zsf),(28,.flat sameS)] }
theorem z6n:gnm.OK:=⟨tyOK,⟨⟨z0b Tryd.func53 kR rfl,zts⟩,⟨z0b Tryd.func64 kR rfl,z7v⟩,⟨z0b Tryd.func65 kR rfl,zdn⟩,⟨z0b Tryd.func55 kR rfl,zri⟩,⟨z0b Tryd.func58 kR rfl,znc⟩,⟨z0b Tryd.func57 kR rfl,zn3⟩,⟨z0b Tryd.func59 kR rfl,ztx⟩,⟨z0b Tryd.func60 kR rfl,zn1⟩,⟨z0b Tryd.func61 kR rfl,zkm⟩,⟨z0b Tryd.func62 kR rfl,zn2⟩,⟨z0b Tryd.func63 kR rfl,zu0⟩,⟨z0b Tryd.func28 kR rfl,same_ok⟩,trivial⟩,mixed⟩
@[simp] theorem gnm_ty:gnm.ty=ty:=rfl

def zha:QSpec:=fun vs K=>∃ (r:Rul) (l:List UInt8) (n:Int),vs=[rulV r,.c (.ds l.length (.u8s l)),.c (.int .i64 n)]∧l.length≤9223372036854775807∧K (.c (.bool true))
theorem ze9:z1s Tryd.prog gl 15 zha:=by
 refine z1r (Γ:=gnm) (N:=125) Tryd.func15 rfl rfl fun vs K h=>?_;obtain⟨r,l,n,rfl,hl,h⟩:=h;refine⟨_,h,rfl,by simp,fun w I=>?_⟩
 have hwa:=allR_wf r
 have hwq:=y09 r n
 obtain⟨v,hvE⟩:∃ v,readN r l=v:=⟨_,rfl⟩;obtain⟨o,hoE⟩:∃ o,z5n r n=o:=⟨_,rfl⟩;obtain⟨⟨a,n1⟩,haE⟩:∃ c,allR r=c:=⟨_,rfl⟩;obtain⟨⟨q,m1⟩,hqE⟩:∃ c,z97 r n=c:=⟨_,rfl⟩;rw[haE]at hwa;rw[hqE]at hwq;refine srR z6n fun _ K2=>?_
 iterate 2 refine z3z ?_
 refine s_n K2 ?_;refine srR z6n fun _ K4=>?_
 iterate 2 refine z3z ?_
 refine s_n K4 ?_;refine seq_k fun _ K5=>?_;refine srR z6n fun _ K7=>?_
 iterate 3 refine z3z ?_
 refine s_n K7 ?_;refine z04 (b:=_) rfl (fun h_t27=>?_) (fun h_t27=>?_)
 ·try simp only[dQ,reduceIte]at h_t27
  refine srR z6n fun _ K9=>?_
  iterate 2 refine z3z ?_
  refine s_n K9 ?_;refine z0e (z0d z6n (fun _ _ h=>h) (by first|rfl|assumption) [.tmp 6] rfl ?_);refine rtD ?_
  rfl
 ·try simp only[dQ,reduceIte]at h_t27
  refine z09 ?_;apply K5;refine leW [0] id [(1,.c (.ds l.length (.u8s l))),(2,.c (.int .i64 (n))),(3,.c (.dp (rulC r) 0)),(7,.c (.bool true))] [] 0 [] uKg_0 uKg_0 uKg_0 uKg_0 ?_;refine srR z6n fun _ K11=>?_;refine z41 ?_;refine exA (rulV r) (SV.as_refl _) ?_;refine z3z ?_;refine z41 ?_;refine⟨r,l,rfl,hl,?_⟩;rw[hvE];refine DKg_0 ?_
  first|refine exI ?_|(intro cap2 hcap2;refine exI ?_)
  iterate 5 refine z3z ?_
  refine s_n K11 ?_;refine srR z6n fun _ K13=>?_;refine z41 ?_;refine exA (rulV r) (SV.as_refl _) ?_;refine z3z ?_;refine z41 ?_;refine⟨r,l,rfl,hl,?_⟩;rw[hvE];refine DKg_0 ?_
  first|refine exI ?_|(intro cap2 hcap2;refine exI ?_)
  iterate 5 refine z3z ?_
  refine s_n K13 ?_;refine srR z6n fun _ K15=>?_;refine z41 ?_;refine exA (rulV r) (SV.as_refl _) ?_;refine z3z ?_;refine z41 ?_;refine⟨r,n,rfl,?_⟩;rw[hoE];refine DKg_0 ?_
  first|refine exI ?_|(intro cap2 hcap2;refine exI ?_)
  iterate 5 refine z3z ?_
  refine s_n K15 ?_;refine srR z6n fun _ K17=>?_;refine z41 ?_;refine exA (rulV r) (SV.as_refl _) ?_;refine z3z ?_;refine z41 ?_;refine⟨r,n,rfl,?_⟩;rw[hoE];refine DKg_0 ?_
  first|refine exI ?_|(intro cap2 hcap2;refine exI ?_)
  iterate 5 refine z3z ?_
  refine s_n K17 ?_;refine srR z6n fun _ K19=>?_;refine z41 ?_;refine exA (rulV r) (SV.as_refl _) ?_;refine z41 ?_;refine⟨r,rfl,?_⟩;rw[haE];refine DKg_0 ?_
  first|refine exI ?_|(intro cap1 hcap1;refine exI ?_)
  iterate 4 refine z3z ?_
  refine zkn ?_;refine z3z ?_;refine s_n K19 ?_;refine srR z6n fun _ K21=>?_;refine z41 ?_;refine exA (rulV r) (SV.as_refl _) ?_;refine z41 ?_;refine⟨r,rfl,?_⟩;rw[haE];refine DKg_0 ?_
  first|refine exI ?_|(intro cap1 hcap1;refine exI ?_)
  iterate 4 refine z3z ?_
  refine zkn ?_;refine z3z ?_;refine s_n K21 ?_;refine srR z6n fun _ K23=>?_;refine z41 ?_;refine exA (rulV r) (SV.as_refl _) ?_;refine z3z ?_;refine z41 ?_;refine⟨r,n,rfl,?_⟩;rw[hqE];refine DKg_0 ?_
  first|refine exI ?_|(intro cap2 hcap2;refine exI ?_)
  iterate 4 refine z3z ?_
  refine zkn ?_;refine z3z ?_;refine s_n K23 ?_;refine srR z6n fun _ K25=>?_;refine z41 ?_;refine exA (rulV r) (SV.as_refl _) ?_;refine z3z ?_;refine z41 ?_;refine⟨r,n,rfl,?_⟩;rw[hqE];refine DKg_0 ?_
  first|refine exI ?_|(intro cap2 hcap2;refine exI ?_)
  iterate 4 refine z3z ?_
  refine zkn ?_;refine z3z ?_;refine s_n K25 ?_;refine leW [0,1,2,3] id [(1,.c (.ds l.length (.u8s l))),(2,.c (.int .i64 (n))),(3,.c (.dp (rulC r) 0)),(7,.c (.bool true)),(8,.c (.int .i64 (v.1))),(9,.c (.bool v.2)),(10,.c (.int .i64 (v.1))),(11,.c (.bool v.2)),(12,.c (.ds (lsB o).length (.u8s (lsB o)))),(13,.c (.bool o.isSome)),(14,.c (.ds (lsB o).length (.u8s (lsB o)))),(15,.c (.bool o.isSome)),(16,.c (.dp (dfaC a) 0)),(17,.c (.int .i64 ((n1:Nat)))),(18,.c (.dp (dfaC a) 0)),(19,.c (.int .i64 ((n1:Nat)))),(20,.c (.dp (dfaC q) 0)),(21,.c (.int .i64 ((m1:Nat)))),(22,.c (.dp (dfaC q) 0)),(23,.c (.int .i64 ((m1:Nat))))] [] 0 [] uKg_0 uKg_0 uKg_0 uKg_0 ?_;refine srQ z6n kR fun _ K27=>?_;refine z4w ?_;refine exA (rulV r) (SV.as_refl _) ?_;refine z4w ?_;refine⟨r,rfl,?_⟩;refine DKg_0 ?_
  first|refine exI ?_|(intro cap1 hcap1;refine exI ?_)
  refine z4w ?_;refine exA (rulV r) (SV.as_refl _) ?_;refine z4w ?_;refine⟨r,rfl,?_⟩;refine DKg_0 ?_
  first|refine exI ?_|(intro cap3 hcap3;refine exI ?_)
  refine z4w ?_;refine exA (.c (.bool (true))) (as_b (by simp)) ?_;refine z4w ?_;refine exB (fun hb5=>?_) (fun hb5=>?_)
  rotate_left 1
  ·exfalso;first|exact absurd hb5 (by decide)|exact hb5 rfl|(simp at hb5;done)|omega
  iterate 2 refine z8g ?_
  refine z73 ?_;refine exA (.c (.bool (true))) (as_b (by simp)) ?_;refine zce ?_;refine z4w ?_;refine exB (fun hb10=>?_) (fun hb10=>?_)
  rotate_left 1
  ·exfalso;first|exact absurd hb10 (by decide)|exact hb10 rfl|(simp at hb10;done)|omega
  iterate 2 refine z8g ?_
  refine z73 ?_;refine exA (.c (.bool (true))) (as_b (by simp)) ?_;refine zce ?_;refine z4w ?_;refine exB (fun hb15=>?_) (fun hb15=>?_)
  rotate_left 1
  ·exfalso;first|exact absurd hb15 (by decide)|exact hb15 rfl|(simp at hb15;done)|omega
  iterate 2 refine z8g ?_
  refine z73 ?_;refine exA (.c (.bool (true))) (as_b (by simp)) ?_;refine zce ?_;refine z4w ?_;refine exB (fun hb20=>?_) (fun hb20=>?_)
  rotate_left 1
  ·exfalso;first|exact absurd hb20 (by decide)|exact hb20 rfl|(simp at hb20;done)|omega
  iterate 4 refine z8g ?_
  refine z73 ?_;refine exA (.c (.bool (true))) (as_b (by simp)) ?_;refine zce ?_;refine z4w ?_;refine exB (fun hb27=>?_) (fun hb27=>?_)
  rotate_left 1
  ·exfalso;first|exact absurd hb27 (by decide)|exact hb27 rfl|(simp at hb27;done)|omega
  iterate 2 refine z8g ?_
  refine z73 ?_;refine exA (.c (.bool (true))) (as_b (by simp)) ?_;refine zce ?_;refine z4w ?_;refine exB (fun hb32=>?_) (fun hb32=>?_)
  rotate_left 1
  ·exfalso;first|exact absurd hb32 (by decide)|exact hb32 rfl|(simp at hb32;done)|omega
  iterate 2 refine z8g ?_
  refine z73 ?_;refine⟨a,a,rfl,⟨hwa,hwa⟩,?_⟩;refine DKg_0 ?_
  first|refine exA (.c (.bool (true))) (as_b (zc2.2 rfl)) ?_|(intro cap35 hcap35;refine exA (.c (.bool (true))) (as_b (zc2.2 rfl)) ?_)
  refine zce ?_;refine z4w ?_;refine exB (fun hb37=>?_) (fun hb37=>?_)
  rotate_left 1
  ·exfalso;first|exact absurd hb37 (by decide)|exact hb37 rfl|(simp at hb37;done)|omega
  iterate 2 refine z8g ?_
  refine z73 ?_;refine exA (.c (.bool (true))) (as_b (by simp)) ?_;refine zce ?_;refine z4w ?_;refine exB (fun hb42=>?_) (fun hb42=>?_)
  rotate_left 1
  ·exfalso;first|exact absurd hb42 (by decide)|exact hb42 rfl|(simp at hb42;done)|omega
  iterate 2 refine z8g ?_
  refine z73 ?_;refine⟨q,q,rfl,⟨hwq,hwq⟩,?_⟩;refine DKg_0 ?_
  first|refine exA (.c (.bool (true))) (as_b (zc2.2 rfl)) ?_|(intro cap45 hcap45;refine exA (.c (.bool (true))) (as_b (zc2.2 rfl)) ?_)
  refine zce ?_;refine z4w ?_;refine exB (fun hb47=>?_) (fun hb47=>?_)
  rotate_left 1
  ·exfalso;first|exact absurd hb47 (by decide)|exact hb47 rfl|(simp at hb47;done)|omega
  refine z8g ?_
  iterate 2 refine zce ?_
  refine q_n K27 ?_;refine z0e (z0d z6n (fun _ _ h=>h) (by first|rfl|assumption) [.tmp 6] rfl ?_);refine rtD ?_
  rfl


end Go.Proofs.YtppmnaoollkboaaDoor
