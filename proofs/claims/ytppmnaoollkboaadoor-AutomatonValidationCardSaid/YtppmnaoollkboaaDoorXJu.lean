/- The law of validation. -/
import Derived.Test.YtppmnaoollkboaaDoorPn
import Derived.Test.YtppmnaoollkboaaDoorPo
import Derived.Test.YtppmnaoollkboaaDoorPv
set_option maxHeartbeats 1000000
set_option maxRecDepth 4000
namespace Go.Proofs.YtppmnaoollkboaaDoor
set_option linter.all false
open Go.Ab Go.RowKit

section
variable {a b:Prop}
theorem qJu0(h:a:=by first|exact vcA|(simp<;>omega)|exact⟨by omega,by omega⟩|exact vcB):a:=h
theorem uJu_0(h:a:=by
    repeat' (first|exact pT|exact trivial|refine aI ?_ ?_|exact cC0|refine low_cons' ?_ ?_|exact cC1|fail)
    all_goals first|omega|exact z1b _|exact z10 _|(simp;done)|(show Cont.u8s _=_;simp;done)|(show(0:Nat)< (z02 _ _ _ _).length;rw[z00 hcl];decide)|(simp[-List.reduceReplicate];done)|(simp[-List.reduceReplicate]<;>omega)|skip):a:=h
theorem DJu_0(kZ:b)(h:HidB b→a:=by intro kZ;(repeat first|refine aI qJu0 ?_|refine z04 qJu0 ?_|refine z03 qJu0 ?_|refine z0m qJu0 ?_|refine z0c ?_);exact kZ.out):a:=h ⟨kZ⟩
theorem z2e(kZ:b)(h:HidB b→a:=by intro kZ;refine sX ?_;refine DJu_0 ?_;refine exI ?_;exact kZ.out):a:=h ⟨kZ⟩
theorem z9p(kZ:b)(h:HidB b→a:=by intro kZ;refine sXT ?_;refine DJu_0 ?_;refine exI ?_;exact kZ.out):a:=h ⟨kZ⟩
theorem zeu(kZ:b)(h:HidB b→a:=by intro kZ;refine sX0 ?_;refine DJu_0 ?_;refine exI ?_;exact kZ.out):a:=h ⟨kZ⟩
theorem y25(kZ:b)(h:HidB b→a:=by intro kZ;refine qX ?_;refine DJu_0 ?_;refine exI ?_;exact kZ.out):a:=h ⟨kZ⟩
theorem y26(kZ:b)(h:HidB b→a:=by intro kZ;refine qXT ?_;refine DJu_0 ?_;refine exI ?_;exact kZ.out):a:=h ⟨kZ⟩
theorem z4c(kZ:b)(h:HidB b→a:=by intro kZ;refine sX ?_;refine DJu_0 ?_;exact kZ.out):a:=h ⟨kZ⟩
theorem zmn(kZ:b)(h:HidB b→a:=by intro kZ;refine qX ?_;refine DJu_0 ?_;exact kZ.out):a:=h ⟨kZ⟩
theorem zmo(kZ:b)(h:HidB b→a:=by intro kZ;refine qXT ?_;refine DJu_0 ?_;exact kZ.out):a:=h ⟨kZ⟩
theorem z9q(kZ:b)(h:HidB b→a:=by intro kZ;refine sXT ?_;refine DJu_0 ?_;exact kZ.out):a:=h ⟨kZ⟩
end
open Go.Aut
theorem y27{d:Dfa}(h:d.wf):(zd6 d).1.wf:=by
  rw[zd6]
  split
  · rename_i hv;exact ze9 (z9c ((z1e h).1 hv)).1
  · exact noD_wf
theorem notR_wf{d:Dfa}(h:d.wf):(notR d).1.wf:=by
  by_cases hv:z0w d=true
  · obtain⟨rN,qN,_⟩:=not_res ((z1e h).1 hv)
    rw[rN];exact ze9 qN
  · rw[notR,if_neg hv];exact noD_wf
theorem zrk{d:Dfa}(h:d.wf)(x:List UInt8):zde d x=z6u d x:=by rw[zde,z6u,z2m h]
attribute [local irreducible] z0s z12 zl z02 z11 putB canD
noncomputable def gxv:Ctx:={ P:=Tryd.prog,ty:=ty,glob:=gl,fs:=[(20,.flat y0r),(50,.flat z7v),(32,.flat zba),(30,.data canonS),(46,.data zu2),(47,.data notAS),(48,.data notR3S),(29,.data zqx),(49,.data zu6),(36,.data andAS),(37,.data andR3S),(25,.flat zll),(51,.flat zos),(28,.flat sameS)] }
theorem z5s:gxv.OK:=⟨tyOK,⟨⟨z08 Tryd.func20 kR rfl,y0s⟩,⟨z08 Tryd.func50 kR rfl,z5h⟩,⟨z08 Tryd.func32 kR rfl,z8p⟩,⟨z08 Tryd.func30 kR rfl,canon_ok⟩,⟨z08 Tryd.func46 kR rfl,zvn⟩,⟨z08 Tryd.func47 kR rfl,notA_ok⟩,⟨z08 Tryd.func48 kR rfl,notR3_ok⟩,⟨z08 Tryd.func29 kR rfl,zoj⟩,⟨z08 Tryd.func49 kR rfl,zvt⟩,⟨z08 Tryd.func36 kR rfl,andA_ok⟩,⟨z08 Tryd.func37 kR rfl,andR3_ok⟩,⟨z08 Tryd.func25 kR rfl,zk2⟩,⟨z08 Tryd.func51 kR rfl,zr6⟩,⟨z08 Tryd.func28 kR rfl,y0d⟩,trivial⟩,mixed⟩
@[simp] theorem gxv_ty:gxv.ty=ty:=rfl

def zjb:QSpec:=fun vs K=>∃ (d:Dfa) (x:List UInt8),vs=[dfaV d,.c (.ds x.length (.u8s x))]∧(d.wf∧x.length≤9223372036854775807)∧K (.c (.bool true))
theorem zfs:z19 Tryd.prog gl 9 zjb:=by
 refine z1d (Γ:=gxv) (N:=131) Tryd.func9 rfl rfl fun vs K h=>?_;obtain⟨d,x,rfl,⟨hw,hx⟩,h⟩:=h;refine⟨_,h,rfl,by simp,fun w I=>?_⟩
 have hve:=z2m hw
 have hwc:=y27 hw
 have hwp:=notR_wf hw
 have hac:=zrk hw x
 obtain⟨⟨c,n1⟩,hcE⟩:∃ c,zd6 d=c:=⟨_,rfl⟩;obtain⟨⟨p,m1⟩,hpE⟩:∃ c,notR d=c:=⟨_,rfl⟩;obtain⟨⟨q,k1⟩,hqE⟩:∃ c,combR (fun x y=>x&&y) d d=c:=⟨_,rfl⟩;obtain⟨o,hoE⟩:∃ o,lstR d=o:=⟨_,rfl⟩;rw[hcE]at hwc;rw[hpE]at hwp;refine srR z5s fun _ K2=>?_
 iterate 2 refine z2e ?_
 refine s_n K2 ?_;refine srR z5s fun _ K4=>?_
 iterate 2 refine z2e ?_
 refine s_n K4 ?_;refine seq_k fun _ K5=>?_;refine srR z5s fun _ K7=>?_
 iterate 4 refine z2e ?_
 refine z4c ?_;refine exB (fun hb4=>?_) (fun hb4=>?_)
 ·try simp only[dQ,reduceIte]at hb4
  iterate 3 refine sN ?_
  refine z2e ?_;refine s_n K7 ?_;refine z09 (b:=_) rfl (fun _=>?_) (fun h_t32=>?_)
  rotate_left 1
  ·exfalso;simp at h_t32
  refine srR z5s fun _ K9=>?_
  iterate 2 refine z2e ?_
  refine s_n K9 ?_;refine z0g (z0d z5s (fun _ _ h=>h) (by first|rfl|assumption) [.tmp 4] rfl ?_);refine rtD ?_
  rfl
 ·try simp only[dQ,reduceIte]at hb4
  iterate 3 refine z9p ?_
  refine z2e ?_;refine s_n K7 ?_;refine z09 (b:=_) rfl (fun h_t32=>?_) (fun h_t32=>?_)
  ·try simp only[dQ,reduceIte]at h_t32
   refine srR z5s fun _ K11=>?_
   iterate 2 refine z2e ?_
   refine s_n K11 ?_;refine z0g (z0d z5s (fun _ _ h=>h) (by first|rfl|assumption) [.tmp 4] rfl ?_);refine rtD ?_
   rfl
  ·try simp only[dQ,reduceIte]at h_t32
   refine z0b ?_;apply K5
   have hx1:x.length≤1000:=by omega
   refine leW [0] id [(1,.c (.ds x.length (.u8s x))),(2,.c (.dp (dfaC d) 0)),(5,.c (.bool true))] [] 0 [] uJu_0 uJu_0 uJu_0 uJu_0 ?_;refine srR z5s fun _ K13=>?_;refine z2e ?_;refine z4c ?_;refine⟨d,rfl,hw,?_⟩;rw[hcE];refine DJu_0 ?_
   first|refine exI ?_|(intro cap1 hcap1;refine exI ?_)
   iterate 4 refine z2e ?_
   refine zeu ?_;refine z2e ?_;refine s_n K13 ?_;refine srR z5s fun _ K15=>?_;refine z2e ?_;refine z4c ?_;refine⟨d,rfl,hw,?_⟩;rw[hcE];refine DJu_0 ?_
   first|refine exI ?_|(intro cap1 hcap1;refine exI ?_)
   iterate 4 refine z2e ?_
   refine zeu ?_;refine z2e ?_;refine s_n K15 ?_;refine srR z5s fun _ K17=>?_;refine z2e ?_;refine z4c ?_;refine⟨d,rfl,hw,?_⟩;rw[hpE];refine DJu_0 ?_
   first|refine exI ?_|(intro cap1 hcap1;refine exI ?_)
   iterate 4 refine z2e ?_
   refine zeu ?_;refine z2e ?_;refine s_n K17 ?_;refine srR z5s fun _ K19=>?_;refine z2e ?_;refine z4c ?_;refine⟨d,rfl,hw,?_⟩;rw[hpE];refine DJu_0 ?_
   first|refine exI ?_|(intro cap1 hcap1;refine exI ?_)
   iterate 4 refine z2e ?_
   refine zeu ?_;refine z2e ?_;refine s_n K19 ?_;refine srR z5s fun _ K21=>?_;refine z2e ?_;refine z4c ?_;refine⟨d,rfl,hw,?_⟩;rw[hoE];refine DJu_0 ?_
   first|refine exI ?_|(intro cap1 hcap1;refine exI ?_)
   iterate 5 refine z2e ?_
   refine s_n K21 ?_;refine srR z5s fun _ K23=>?_;refine z2e ?_;refine z4c ?_;refine⟨d,rfl,hw,?_⟩;rw[hoE];refine DJu_0 ?_
   first|refine exI ?_|(intro cap1 hcap1;refine exI ?_)
   iterate 5 refine z2e ?_
   refine s_n K23 ?_;refine srR z5s fun _ K25=>?_
   iterate 2 refine z2e ?_
   refine z4c ?_;refine⟨d,d,rfl,⟨hw,hw⟩,?_⟩;rw[hqE];refine DJu_0 ?_
   first|refine exI ?_|(intro cap2 hcap2;refine exI ?_)
   iterate 4 refine z2e ?_
   refine zeu ?_;refine z2e ?_;refine s_n K25 ?_;refine srR z5s fun _ K27=>?_
   iterate 2 refine z2e ?_
   refine z4c ?_;refine⟨d,d,rfl,⟨hw,hw⟩,?_⟩;rw[hqE];refine DJu_0 ?_
   first|refine exI ?_|(intro cap2 hcap2;refine exI ?_)
   iterate 4 refine z2e ?_
   refine zeu ?_;refine z2e ?_;refine s_n K27 ?_;refine leW [0,1,2,3] id [(1,.c (.ds x.length (.u8s x))),(2,.c (.dp (dfaC d) 0)),(5,.c (.bool true)),(6,.c (.dp (dfaC c) 0)),(7,.c (.int .i64 (n1:Nat))),(8,.c (.dp (dfaC c) 0)),(9,.c (.int .i64 (n1:Nat))),(10,.c (.dp (dfaC p) 0)),(11,.c (.int .i64 (m1:Nat))),(12,.c (.dp (dfaC p) 0)),(13,.c (.int .i64 (m1:Nat))),(14,.c (.ds (lsB o).length (.u8s (lsB o)))),(15,.c (.bool o.isSome)),(16,.c (.ds (lsB o).length (.u8s (lsB o)))),(17,.c (.bool o.isSome)),(19,.c (.int .i64 (k1:Nat))),(21,.c (.int .i64 (k1:Nat)))] [] 0 [] uJu_0 uJu_0 uJu_0 uJu_0 ?_;refine srQ z5s kR fun _ K29=>?_;refine y25 ?_;refine zmn ?_;refine⟨d,rfl,hw,?_⟩;refine DJu_0 ?_
   first|refine exI ?_|(intro cap1 hcap1;refine exI ?_)
   refine y25 ?_;refine zmn ?_;refine⟨d,rfl,hw,?_⟩;refine DJu_0 ?_
   first|refine exI ?_|(intro cap3 hcap3;refine exI ?_)
   refine zmn ?_;refine exA (.c (.bool (true))) (as_b (by rw[hve];simp)) ?_;refine zmn ?_;refine exB (fun hb5=>?_) (fun hb5=>?_)
   rotate_left 1
   ·exfalso;first|exact absurd hb5 (by decide)|exact hb5 rfl|(simp at hb5;done)|omega
   iterate 2 refine y26 ?_
   refine zmo ?_;refine⟨d,x,rfl,⟨hw,by omega⟩,?_⟩;refine DJu_0 ?_
   first|refine exI ?_|(intro cap8 hcap8;refine exI ?_)
   iterate 2 refine y26 ?_
   refine zmo ?_;refine⟨d,x,rfl,⟨hw,by omega⟩,?_⟩;refine DJu_0 ?_
   first|refine exI ?_|(intro cap11 hcap11;refine exI ?_)
   refine zmo ?_;refine exA (.c (.bool (true))) (as_b (by rw[hac];simp)) ?_
   iterate 2 refine y25 ?_
   refine q_n K29 ?_;refine srR z5s fun _ K31=>?_;refine z2e ?_;refine z4c ?_;refine exB (fun hb1=>?_) (fun hb1=>?_)
   rotate_left 1
   ·exfalso;first|exact absurd hb1 (by decide)|exact hb1 rfl|(simp at hb1;done)|omega
   iterate 2 refine z9p ?_
   refine z9q ?_;refine exA (.c (.bool (true))) (as_b (by simp)) ?_;refine z2e ?_;refine z4c ?_;refine exB (fun hb6=>?_) (fun hb6=>?_)
   rotate_left 1
   ·exfalso;first|exact absurd hb6 (by decide)|exact hb6 rfl|(simp at hb6;done)|omega
   iterate 2 refine z9p ?_
   refine z9q ?_;refine⟨c,c,rfl,⟨hwc,hwc⟩,?_⟩;refine DJu_0 ?_
   first|refine exA (.c (.bool (true))) (as_b (z8o.2 rfl)) ?_|(intro cap9 hcap9;refine exA (.c (.bool (true))) (as_b (z8o.2 rfl)) ?_)
   refine z2e ?_;refine z4c ?_;refine exB (fun hb11=>?_) (fun hb11=>?_)
   rotate_left 1
   ·exfalso;first|exact absurd hb11 (by decide)|exact hb11 rfl|(simp at hb11;done)|omega
   iterate 2 refine z9p ?_
   refine z9q ?_;refine exA (.c (.bool (true))) (as_b (by simp)) ?_;refine z2e ?_;refine z4c ?_;refine exB (fun hb16=>?_) (fun hb16=>?_)
   rotate_left 1
   ·exfalso;first|exact absurd hb16 (by decide)|exact hb16 rfl|(simp at hb16;done)|omega
   iterate 2 refine z9p ?_
   refine z9q ?_;refine⟨p,p,rfl,⟨hwp,hwp⟩,?_⟩;refine DJu_0 ?_
   first|refine exA (.c (.bool (true))) (as_b (z8o.2 rfl)) ?_|(intro cap19 hcap19;refine exA (.c (.bool (true))) (as_b (z8o.2 rfl)) ?_)
   refine z2e ?_;refine z4c ?_;refine exB (fun hb21=>?_) (fun hb21=>?_)
   rotate_left 1
   ·exfalso;first|exact absurd hb21 (by decide)|exact hb21 rfl|(simp at hb21;done)|omega
   iterate 2 refine z9p ?_
   refine z9q ?_;refine exA (.c (.bool (true))) (as_b (by simp)) ?_;refine z2e ?_;refine z4c ?_;refine exB (fun hb26=>?_) (fun hb26=>?_)
   rotate_left 1
   ·exfalso;first|exact absurd hb26 (by decide)|exact hb26 rfl|(simp at hb26;done)|omega
   iterate 4 refine z9p ?_
   refine z9q ?_;refine exA (.c (.bool (true))) (as_b (by simp)) ?_;refine z2e ?_;refine z4c ?_;refine exB (fun hb33=>?_) (fun hb33=>?_)
   rotate_left 1
   ·exfalso;first|exact absurd hb33 (by decide)|exact hb33 rfl|(simp at hb33;done)|omega
   iterate 2 refine z9p ?_
   refine z9q ?_;refine exA (.c (.bool (true))) (as_b (by simp)) ?_;refine z2e ?_;refine z4c ?_;refine exB (fun hb38=>?_) (fun hb38=>?_)
   rotate_left 1
   ·exfalso;first|exact absurd hb38 (by decide)|exact hb38 rfl|(simp at hb38;done)|omega
   refine z9p ?_
   iterate 2 refine z2e ?_
   refine s_n K31 ?_;refine z0g (z0d z5s (fun _ _ h=>h) (by first|rfl|assumption) [.tmp 4] rfl ?_);refine rtD ?_
   rfl


end Go.Proofs.YtppmnaoollkboaaDoor
