/- The law AtomKinds. -/
import Derived.Test.YtegdcifghaldoaaDoorVCs
set_option maxHeartbeats 4000000
set_option maxRecDepth 4000
namespace Go.Proofs.YtegdcifghaldoaaDoor
set_option linter.all false
open Go.Ab Go.RowKit

section
variable {a b:Prop}
theorem qCr0(h:a:=by first|exact vcA|(simp<;>omega)|exact Nat.le_of_ble_eq_true rfl|exact(by decide:List.Nodup [0])|exact⟨z00.solid (z0b _),trivial⟩|exact⟨rfl,trivial⟩|exact⟨rfl,rfl,trivial⟩|(show _< (lists _).length;rw[z1p];omega)|exact vcB):a:=h
theorem uCr_1(h:a:=by
    repeat' (first|exact z00.low (z0c _)|exact z00.low (z1b _ _ _ _)|exact z00.low (z1a _ _)|exact z00.low (z06 _)|exact z00.low (z0e _)|exact z00.to (z0c _)|exact z00.to (z1b _ _ _ _)|exact z00.to (z1a _ _)|exact z00.to (z06 _)|exact z00.to (z0e _)|exact z00.isD (z0c _)|exact z00.isD (z1b _ _ _ _)|exact z00.isD (z1a _ _)|exact z00.isD (z06 _)|exact z00.isD (z0e _)|exact z00.isD (z0b _)|exact z00.low (z0b _)|exact z00.to (z0b _)|exact trivial|refine aI ?_ ?_|exact cC0|refine low_cons' ?_ ?_|exact cC1|fail)
    all_goals first|omega|(show(_:Bool)=evN a m;unfold evN;rw[if_pos h_t30])|(simp[-List.reduceReplicate];done)|skip):a:=h
theorem uCr_2(h:a:=by
    repeat' (first|exact z00.low (z0c _)|exact z00.low (z1b _ _ _ _)|exact z00.low (z1a _ _)|exact z00.low (z06 _)|exact z00.low (z0e _)|exact z00.to (z0c _)|exact z00.to (z1b _ _ _ _)|exact z00.to (z1a _ _)|exact z00.to (z06 _)|exact z00.to (z0e _)|exact z00.isD (z0c _)|exact z00.isD (z1b _ _ _ _)|exact z00.isD (z1a _ _)|exact z00.isD (z06 _)|exact z00.isD (z0e _)|exact z00.isD (z0b _)|exact z00.low (z0b _)|exact z00.to (z0b _)|exact trivial|refine aI ?_ ?_|exact cC0|refine low_cons' ?_ ?_|exact cC1|fail)
    all_goals first|omega|(show(_:Bool)=evN a m;unfold evN;rw[if_neg h_t30,if_pos h_t36];first|rfl|done)|(simp[-List.reduceReplicate];done)|skip):a:=h
theorem uCr_3(h:a:=by
    repeat' (first|exact z00.low (z0c _)|exact z00.low (z1b _ _ _ _)|exact z00.low (z1a _ _)|exact z00.low (z06 _)|exact z00.low (z0e _)|exact z00.to (z0c _)|exact z00.to (z1b _ _ _ _)|exact z00.to (z1a _ _)|exact z00.to (z06 _)|exact z00.to (z0e _)|exact z00.isD (z0c _)|exact z00.isD (z1b _ _ _ _)|exact z00.isD (z1a _ _)|exact z00.isD (z06 _)|exact z00.isD (z0e _)|exact z00.isD (z0b _)|exact z00.low (z0b _)|exact z00.to (z0b _)|exact trivial|refine aI ?_ ?_|exact cC0|refine low_cons' ?_ ?_|exact cC1|fail)
    all_goals first|omega|(show(_:Bool)=evN a m;unfold evN;rw[if_neg h_t30,if_neg h_t36,if_pos h_t47];rw[ztr hs2 hn1'];first|rfl|done)|(simp[-List.reduceReplicate];done)|skip):a:=h
theorem uCr_4(h:a:=by
    repeat' (first|exact z00.low (z0c _)|exact z00.low (z1b _ _ _ _)|exact z00.low (z1a _ _)|exact z00.low (z06 _)|exact z00.low (z0e _)|exact z00.to (z0c _)|exact z00.to (z1b _ _ _ _)|exact z00.to (z1a _ _)|exact z00.to (z06 _)|exact z00.to (z0e _)|exact z00.isD (z0c _)|exact z00.isD (z1b _ _ _ _)|exact z00.isD (z1a _ _)|exact z00.isD (z06 _)|exact z00.isD (z0e _)|exact z00.isD (z0b _)|exact z00.low (z0b _)|exact z00.to (z0b _)|exact trivial|refine aI ?_ ?_|exact cC0|refine low_cons' ?_ ?_|exact cC1|fail)
    all_goals first|omega|(show(_:Bool)=evN a m;unfold evN;rw[if_neg h_t30,if_neg h_t36,if_neg h_t47,if_pos h_t88];first|rfl|(simp[hb1];done)|(rw[hb1];rfl))|(simp[-List.reduceReplicate];done)|skip):a:=h
theorem uCr_5(h:a:=by
    repeat' (first|exact z00.low (z0c _)|exact z00.low (z1b _ _ _ _)|exact z00.low (z1a _ _)|exact z00.low (z06 _)|exact z00.low (z0e _)|exact z00.to (z0c _)|exact z00.to (z1b _ _ _ _)|exact z00.to (z1a _ _)|exact z00.to (z06 _)|exact z00.to (z0e _)|exact z00.isD (z0c _)|exact z00.isD (z1b _ _ _ _)|exact z00.isD (z1a _ _)|exact z00.isD (z06 _)|exact z00.isD (z0e _)|exact z00.isD (z0b _)|exact z00.low (z0b _)|exact z00.to (z0b _)|exact trivial|refine aI ?_ ?_|exact cC0|refine low_cons' ?_ ?_|exact cC1|fail)
    all_goals first|omega|(show(_:Bool)=evN a m;unfold evN;rw[if_neg h_t30,if_neg h_t36,if_neg h_t47,if_neg h_t88];rw[hn0];first|rfl|(simp[hb1];done)|(rw[hb1];rfl))|(simp[-List.reduceReplicate];done)|skip):a:=h
theorem DCr_0(kZ:b)(h:HidB b→a:=by intro kZ;(repeat first|refine aI qCr0 ?_|refine z0h qCr0 ?_|refine z0a qCr0 ?_|refine z0q qCr0 ?_|refine z0i ?_);exact kZ.out):a:=h ⟨kZ⟩
theorem z2g(kZ:b)(h:HidB b→a:=by intro kZ;refine sX ?_;refine DCr_0 ?_;refine exI ?_;exact kZ.out):a:=h ⟨kZ⟩
theorem zl8(kZ:b)(h:HidB b→a:=by intro kZ;refine sX0 ?_;refine DCr_0 ?_;refine exI ?_;exact kZ.out):a:=h ⟨kZ⟩
theorem zf6(kZ:b)(h:HidB b→a:=by intro kZ;refine dX ?_;refine DCr_0 ?_;refine exI ?_;exact kZ.out):a:=h ⟨kZ⟩
theorem z6l(kZ:b)(h:HidB b→a:=by intro kZ;refine qX ?_;refine DCr_0 ?_;refine exI ?_;exact kZ.out):a:=h ⟨kZ⟩
theorem zl9(kZ:b)(h:HidB b→a:=by intro kZ;refine dXT ?_;refine DCr_0 ?_;refine exI ?_;exact kZ.out):a:=h ⟨kZ⟩
theorem zgp(kZ:b)(h:HidB b→a:=by intro kZ;refine sXT ?_;refine DCr_0 ?_;refine exI ?_;exact kZ.out):a:=h ⟨kZ⟩
theorem z36(kZ:b)(h:HidB b→a:=by intro kZ;refine sX ?_;refine DCr_0 ?_;exact kZ.out):a:=h ⟨kZ⟩
theorem zla(kZ:b)(h:HidB b→a:=by intro kZ;refine dX ?_;refine DCr_0 ?_;exact kZ.out):a:=h ⟨kZ⟩
theorem gXECr_9(kZ:b)(h:HidB b→a:=by intro kZ;refine gX ?_;refine DCr_0 ?_;exact kZ.out):a:=h ⟨kZ⟩
theorem z3m(kZ:b)(h:HidB b→a:=by intro kZ;refine qX ?_;refine DCr_0 ?_;exact kZ.out):a:=h ⟨kZ⟩
theorem zj0(kZ:b)(h:HidB b→a:=by intro kZ;refine dXT ?_;refine DCr_0 ?_;exact kZ.out):a:=h ⟨kZ⟩
theorem ztq(kZ:b)(h:HidB b→a:=by intro kZ;refine gXT ?_;refine DCr_0 ?_;exact kZ.out):a:=h ⟨kZ⟩
theorem z6a(kZ:b)(h:HidB b→a:=by intro kZ;refine sXT ?_;refine DCr_0 ?_;exact kZ.out):a:=h ⟨kZ⟩
end
open Go.Aut
theorem raw7_as:SV.as (.agg (.cells [.u8 7,.nils,.nils,.nils])) (.agg (.cells (rawL 7 [] [] []))):=zgk rfl fun j hj=>by
  match j,hj with
  |0,_=>exact .inl rfl
  |1,_=>exact .inr ⟨rfl,.cells [],rfl,rfl⟩
  |2,_=>exact .inr ⟨rfl,.cells [],rfl,rfl⟩
  |3,_=>exact .inr ⟨rfl,.u8s [],rfl,rfl⟩
theorem ztr{a:Atm}{m:Mdl}(h1:m.s.length=2)(h2:m.n.length=1):zi8 a m=a.ra.getD 0 0*((m.s.getD 0 []).length:Nat)+a.ra.getD 1 0*((m.s.getD 1 []).length:Nat)+a.ra.getD 2 0*m.n.getD 0 0+a.rc:=by
  rw[zi8,h1,h2,show List.range 2=[0,1] from rfl,show List.range 1=[0] from rfl]
  simp only[List.map_cons,List.map_nil,List.sum_cons,List.sum_nil,Nat.add_zero]
  omega
theorem znr{a:Atm}{m:Mdl}(h:fitsN ⟨a,false⟩ m=true):z2u ⟨a,false⟩ m=evN a m:=by
  rw[z2u,h,Bool.true_and]
  cases evN a m<;>rfl
theorem zts{l:List UInt8}(h:(madeA l 2 1).kind=5):(madeA l 2 1).n=0:=by
  have ha:=z66 (z76 l 2 1) h
  omega
theorem q7_most:(madeQ 7 [] [] []).most.length=2:=rfl
theorem q7_top:(madeQ 7 [] [] []).top.length=1:=rfl
attribute [local irreducible] madeQ madeM madeA z2u wordN z8r runT readN evN
noncomputable def ckd:Ctx:={ P:=Tryd.prog,ty:=ty,glob:=gl,fs:=[(10,.flat zl0),(18,.data ztl),(21,.data zt9),(26,.data znp),(12,.data wordS),(27,.flat zfr),(28,.data runTS),(29,.data zrm),(25,.flat znb)] }
theorem z3r:ckd.OK:=⟨tyOK,⟨⟨z09 Tryd.func10 kQf rfl,ziu⟩,⟨z09 Tryd.func18 kQf rfl,znq⟩,⟨z09 Tryd.func21 kQf rfl,znk⟩,⟨z09 Tryd.func26 kQf rfl,zgl⟩,⟨z09 Tryd.func12 kQf rfl,zkg⟩,⟨z09 Tryd.func27 kQf rfl,zep⟩,⟨z09 Tryd.func28 kQf rfl,zry⟩,⟨z09 Tryd.func29 kQf rfl,zmc⟩,⟨z09 Tryd.func25 kQf rfl,zg9⟩,trivial⟩,mixed⟩
@[simp] theorem ckd_ty:ckd.ty=ty:=rfl

def ztt:QSpec:=fun vs0 K=>∃ (l:List UInt8) (us:List (List UInt8)) (n:List UInt8),vs0=[.c (.ds l.length (.u8s l)),.agg (.cells (vlsL us n))]∧(l.length≤9223372036854775807∧us.length≤9223372036854775807∧n.length≤9223372036854775807∧∀ p∈us,p.length≤9223372036854775807)∧K (.c (.bool true))
theorem zlb:z12 Tryd.prog gl 8 ztt:=by
 refine z0x (Γ:=ckd) (N:=136) Tryd.func8 rfl rfl fun vs0 K h=>?_;obtain⟨l,us,n,rfl,⟨hl,hu,hnn,hul⟩,h⟩:=h;refine⟨_,h,rfl,by simp,fun w I=>?_⟩;refine srR z3r fun _ K2=>?_
 iterate 2 refine z2g ?_
 refine s_n K2 ?_;refine leW [0] id [(0,.c (.ds l.length (.u8s l))),(3,.c (.dp (.cells (vlsL us n)) 0)),(4,.c (.bool false))] [] 0 [] uCs_0 uCs_0 uCs_0 uCs_0 ?_;refine srR z3r fun _ K4=>?_
 iterate 2 refine z2g ?_
 refine s_n K4 ?_;obtain⟨q,hq⟩:∃ q,q=madeQ (7:UInt8).toNat [] [] []:=⟨_,rfl⟩
 have hqo:QOK q:=hq▸ziz _ _ _ _
 have hok:=hqo.ok
 have hmt:=hok.mt
 have hqm:q.most.length=2:=by rw[hq];exact q7_most
 have hqt:q.top.length=1:=by rw[hq];exact q7_top
 refine srR z3r fun _ K6=>?_;refine z36 ?_;refine exA (.agg (.cells (rawL 7 [] [] []))) (raw7_as) ?_;refine z36 ?_
 try refine aI (z00.noclo (z1b _ _ _ _)) ?_
 refine⟨7,[],[],[],rfl,⟨by decide,by decide,by decide,(fun p hp=>by cases hp),(fun p hp=>by cases hp)⟩,?_⟩;refine DCr_0 ?_
 first|refine exA (prbV q) (as_eq (by rw[hq])) ?_|(intro cap1 hcap1;refine exA (prbV q) (as_eq (by rw[hq])) ?_)
 refine z2g ?_;refine zl8 ?_;refine s_n K6 ?_;refine leW [0] id [(0,.c (.ds l.length (.u8s l))),(3,.c (.dp (.cells (vlsL us n)) 0)),(4,.c (.bool false)),(5,.c (.bool true)),(6,.c (.dp (.cells (prbL q)) 0))] [] 0 [] uCs_0 uCs_0 uCs_0 uCs_0 ?_;obtain⟨m,hm⟩:∃ m,m=madeM q us n:=⟨_,rfl⟩
 have hcd:candN q m=true:=hm▸hqo.cand us n
 have hcm:=zge hok hcd
 have hml:=hcm.small hok
 have hsm:=ztn hok hcm
 have hs2:m.s.length=2:=by rw[hcm.s,hqm]
 have hn1':m.n.length=1:=by rw[hcm.n,hqt]
 have ha16:=hok.a
 refine srR z3r fun _ K8=>?_;refine z36 ?_;refine exA (prbV q) (as_eq rfl) ?_;refine z36 ?_;refine exA (.agg (.cells (vlsL us n))) (as_eq rfl) ?_;refine z36 ?_
 try refine aI (z00.noclo (z0c _)) ?_
 try refine aI (z00.noclo (z1a _ _)) ?_
 refine⟨q,us,n,rfl,⟨by omega,hok.a0,by omega,by omega,hu,hnn,hqo.tp,zci hul,hqo.mo⟩,?_⟩;refine DCr_0 ?_
 first|refine exA (mdlV m) (as_eq (by rw[hm])) ?_|(intro cap2 hcap2;refine exA (mdlV m) (as_eq (by rw[hm])) ?_)
 refine z2g ?_;refine zl8 ?_;refine s_n K8 ?_;refine leW [0] id [(0,.c (.ds l.length (.u8s l))),(3,.c (.dp (.cells (vlsL us n)) 0)),(4,.c (.bool false)),(5,.c (.bool true)),(7,.c (.dp (.cells (mdlL m)) 0))] [] 0 [] uCs_0 uCs_0 uCs_0 uCs_0 ?_;obtain⟨a,ha⟩:∃ a,a=madeA l 2 1:=⟨_,rfl⟩
 have hag:atmOK a 2 1=true:=by rw[ha];exact z76 l 2 1
 have haw:a.wfS:=by rw[ha];exact zai l (by decide) (by decide)
 have ha1:=haw.1
 have hkd0:=zn6 hag
 have hn0:a.kind=5→a.n=0:=by rw[ha];exact zts
 refine srR z3r fun _ K10=>?_;refine z2g ?_;refine z36 ?_;refine⟨l,2,1,rfl,⟨hl,by decide,by decide⟩,?_⟩;refine DCr_0 ?_
 first|refine exA (atmV a) (as_eq (by rw[ha])) ?_|(intro cap1 hcap1;refine exA (atmV a) (as_eq (by rw[ha])) ?_)
 refine z2g ?_;refine zl8 ?_;refine s_n K10 ?_;refine leW [0] id [(0,.c (.ds l.length (.u8s l))),(3,.c (.dp (.cells (vlsL us n)) 0)),(4,.c (.bool false)),(5,.c (.bool true)),(7,.c (.dp (.cells (mdlL m)) 0)),(8,.c (.dp (.cells (atmL a)) 0))] [] 0 [] uCs_0 uCs_0 uCs_0 uCs_0 ?_;refine srR z3r fun _ K12=>?_;refine z2g ?_;refine z36 ?_;refine exA (.c (itmsX a.t)) (as_eq rfl) ?_;refine z2g ?_;refine z36 ?_;refine exA (.c (.ds m.s.length (.cells (lists m.s)))) (as_eq rfl) ?_;refine z36 ?_;refine⟨a.t,m.s,rfl,⟨ha1.1,by omega,hml.w⟩,?_⟩;refine DCr_0 ?_
 first|refine exI ?_|(intro cap4 hcap4;refine exI ?_)
 refine z2g ?_;refine s_n K12 ?_;refine srR z3r fun _ K14=>?_;refine z2g ?_;refine s_n K14 ?_;refine z27 (α:=Unit) (fun _=>[(5,.c (.bool true)),(7,.c (.dp (.cells (mdlL m)) 0)),(8,.c (.dp (.cells (atmL a)) 0)),(10,.c (.bool (evN a m)))]) (fun _=>[]) 0 (fun _=>True) ?_ ?_
 ·refine srR z3r fun _ K16=>?_
  refine z2g ?_;refine z36 ?_;refine exA (.c (.int .i64 a.kind)) (as_eq rfl) ?_;refine s_n K16 ?_;refine z0g ?_;refine srR z3r fun _ K18=>?_
  iterate 2 refine z2g ?_
  refine s_n K18 ?_;refine z08 (b:=_) rfl (fun h_t30=>?_) (fun h_t30=>?_)
  ·try simp only[dQ,reduceIte]at h_t30
   have hwl_:=z7q (t:=a.t) hml
   refine z04 z3r fun _ K19=>?_;refine z2g ?_;refine z36 ?_;refine exA (dfaV a.d) (as_eq rfl) ?_;refine z2g ?_;refine z36 ?_
   try refine aI (z00.noclo (pl3_ a.d)) ?_
   refine⟨a.d,wordN a.t m.s,rfl,⟨ha1.2.2.1,by omega⟩,?_⟩;refine DCr_0 ?_
   first|refine exI ?_|(intro cap3 hcap3;refine exI ?_)
   refine z2g ?_;refine s_n K19 ?_;refine z07 ?_;refine dnS [] id () trivial [] uCr_1 uCr_1 uCr_1 uCr_1
  ·try simp only[dQ,reduceIte]at h_t30
   refine srR z3r fun _ K21=>?_
   iterate 2 refine z2g ?_
   refine s_n K21 ?_;refine z08 (b:=_) rfl (fun h_t36=>?_) (fun h_t36=>?_)
   ·try simp only[dQ,reduceIte]at h_t36
    refine z5z z3r [(0,true),(1,true),(2,true),(3,true),(4,true),(5,true),(6,false),(7,true),(8,true),(9,true)] rfl kQf kQf fun _ K22=>?_
    iterate 3 refine zf6 ?_
    refine zla ?_;refine exA (.c (itmsX a.u)) (as_eq rfl) ?_;refine zf6 ?_;refine zla ?_;refine exA (.c (.ds m.s.length (.cells (lists m.s)))) (as_eq rfl) ?_;refine gXECr_9 ?_;refine⟨a.u,m.s,rfl,⟨ha1.2.1,by omega,hml.w⟩,?_⟩;refine DCr_0 ?_
    first|refine exI ?_|(intro cap6 hcap6;refine exI ?_)
    iterate 3 refine zf6 ?_
    refine d_n K22 ?_;refine z07 ?_;refine dnS [] id () trivial [] uCr_2 uCr_2 uCr_2 uCr_2
   ·try simp only[dQ,reduceIte]at h_t36
    refine srR z3r fun _ K24=>?_
    iterate 2 refine z2g ?_
    refine s_n K24 ?_;refine z08 (b:=_) rfl (fun h_t47=>?_) (fun h_t47=>?_)
    ·try simp only[dQ,reduceIte]at h_t47
     have hro:=z67 (show atmOK a 2 1=true from hag) h_t47
     have hral:=hro.1
     have hrow:=hro.2
     have hm0:=mul_b (hrow.at 0) (x:=((m.s.getD 0 []).length:Nat)) (B:=((m.s.getD 0 []).length:Nat)) ⟨Int.natCast_nonneg _,Int.le_refl _⟩
     have hm1:=mul_b (hrow.at 1) (x:=((m.s.getD 1 []).length:Nat)) (B:=((m.s.getD 1 []).length:Nat)) ⟨Int.natCast_nonneg _,Int.le_refl _⟩
     have hnv:=hml.at 0
     have hm2:=mul_b (hrow.at 2) (B:=64) hnv
     have hrc:=hrow.c
     have hw0:=zci hcm.w 0
     have hw1:=zci hcm.w 1
     refine zff z3r kQf fun _ K25=>?_
     iterate 2 refine z6l ?_
     refine z3m ?_;refine exA (.c (.ds a.ra.length (.ints .i64 a.ra))) (as_eq rfl) ?_;refine z6l ?_;refine z3m ?_;refine exA (.c (.int .i64 (a.ra.getD 0 0))) (as_eq rfl) ?_;refine z6l ?_;refine z3m ?_;refine exA (.c (.ds m.s.length (.cells (lists m.s)))) (as_eq rfl) ?_;refine z6l ?_;refine z3m ?_;refine exA (.c (.ds (m.s.getD 0 []).length (.u8s (m.s.getD 0 [])))) (as_c (z55 (by omega))) ?_
     iterate 4 refine z6l ?_
     refine z3m ?_;refine exA (.c (.ds a.ra.length (.ints .i64 a.ra))) (as_eq rfl) ?_;refine z6l ?_;refine z3m ?_;refine exA (.c (.int .i64 (a.ra.getD 1 0))) (as_eq rfl) ?_;refine z6l ?_;refine z3m ?_;refine exA (.c (.ds m.s.length (.cells (lists m.s)))) (as_eq rfl) ?_;refine z6l ?_;refine z3m ?_;refine exA (.c (.ds (m.s.getD 1 []).length (.u8s (m.s.getD 1 [])))) (as_c (z55 (by omega))) ?_
     iterate 5 refine z6l ?_
     refine z3m ?_;refine exA (.c (.ds a.ra.length (.ints .i64 a.ra))) (as_eq rfl) ?_;refine z6l ?_;refine z3m ?_;refine exA (.c (.int .i64 (a.ra.getD 2 0))) (as_eq rfl) ?_;refine z6l ?_;refine z3m ?_;refine exA (.c (.ds m.n.length (.ints .i64 m.n))) (as_eq rfl) ?_;refine z6l ?_;refine z3m ?_;refine exA (.c (.int .i64 (m.n.getD 0 0))) (as_eq rfl) ?_
     iterate 4 refine z6l ?_
     refine z3m ?_;refine exA (.c (.int .i64 a.rc)) (as_eq rfl) ?_
     iterate 3 refine z6l ?_
     refine q_n K25 ?_;refine z07 ?_;refine dnS [] id () trivial [] uCr_3 uCr_3 uCr_3 uCr_3
    ·try simp only[dQ,reduceIte]at h_t47
     refine srR z3r fun _ K27=>?_
     iterate 2 refine z2g ?_
     refine s_n K27 ?_;refine z08 (b:=_) rfl (fun h_t88=>?_) (fun h_t88=>?_)
     ·try simp only[dQ,reduceIte]at h_t88
      have hwl_:=z7q (t:=a.t) hml
      refine srR z3r fun _ K29=>?_;refine z2g ?_;refine z36 ?_;refine exA (traV a.m) (as_eq rfl) ?_;refine z2g ?_;refine z36 ?_
      try refine aI (z00.noclo (z0m a.m)) ?_
      refine⟨a.m,wordN a.t m.s,rfl,⟨ha1.2.2.2.2,z7q hml⟩,?_⟩;refine DCr_0 ?_
      first|refine exI ?_|(intro cap3 hcap3;refine exI ?_)
      iterate 5 refine z2g ?_
      refine s_n K29 ?_;refine z5z z3r [(0,true),(1,true),(2,true),(3,true),(4,true),(5,true),(6,true),(7,true),(8,false),(9,true),(10,true),(11,true),(12,true)] rfl kQf kQf fun _ K30=>?_;refine zf6 ?_;refine zla ?_;refine exB (fun hb1=>?_) (fun hb1=>?_)
      ·try simp only[dQ,reduceIte]at hb1
       iterate 3 refine zl9 ?_
       refine zj0 ?_;refine exA (.c (itmsX a.u)) (as_eq rfl) ?_;refine zl9 ?_;refine zj0 ?_;refine exA (.c (.ds m.s.length (.cells (lists m.s)))) (as_eq rfl) ?_;refine ztq ?_;refine⟨a.u,m.s,rfl,⟨ha1.2.1,by omega,hml.w⟩,?_⟩;refine DCr_0 ?_
       first|refine exI ?_|(intro cap8 hcap8;refine exI ?_)
       iterate 2 refine zl9 ?_
       iterate 2 refine zf6 ?_
       refine d_n K30 ?_;refine z07 ?_;refine dnS [] id () trivial [] uCr_4 uCr_4 uCr_4 uCr_4
      ·try simp only[dQ,reduceIte]at hb1
       iterate 9 refine gN ?_
       iterate 2 refine zf6 ?_
       refine d_n K30 ?_;refine z07 ?_;refine dnS [] id () trivial [] uCr_4 uCr_4 uCr_4 uCr_4
     ·try simp only[dQ,reduceIte]at h_t88
      refine srR z3r fun _ K32=>?_
      iterate 2 refine z2g ?_
      refine s_n K32 ?_;refine z08 (b:=_) rfl (fun _=>?_) (fun h_t109=>?_)
      rotate_left 1
      ·exfalso;((try simp only[decide_eq_true_eq,decide_eq_false_iff_not]at h_t109);omega)
      have hwl_:=z7q (t:=a.t) hml
      have hkd5:a.kind=5:=by omega
      replace hn0:=hn0 hkd5
      refine srR z3r fun _ K34=>?_;refine z2g ?_;refine z36 ?_;refine exA (rulV a.q) (as_eq rfl) ?_;refine z2g ?_;refine z36 ?_
      try refine aI (z00.noclo (zdo a.q)) ?_
      refine⟨a.q,wordN a.t m.s,rfl,by omega,?_⟩;refine DCr_0 ?_
      first|refine exI ?_|(intro cap3 hcap3;refine exI ?_)
      iterate 5 refine z2g ?_
      refine s_n K34 ?_;refine z04 z3r fun _ K35=>?_;refine z2g ?_;refine z36 ?_;refine exB (fun hb1=>?_) (fun hb1=>?_)
      ·try simp only[dQ,reduceIte]at hb1
       iterate 2 refine zgp ?_
       refine z6a ?_;refine exA (.c (.ds m.n.length (.ints .i64 m.n))) (as_eq rfl) ?_;refine zgp ?_;refine z6a ?_;refine exA (.c (.int .i64 (m.n.getD 0 0))) (as_eq rfl) ?_;refine zgp ?_
       iterate 2 refine z2g ?_
       refine s_n K35 ?_;refine z07 ?_;refine dnS [] id () trivial [] uCr_5 uCr_5 uCr_5 uCr_5
      ·try simp only[dQ,reduceIte]at hb1
       iterate 6 refine sN ?_
       iterate 2 refine z2g ?_
       refine s_n K35 ?_;refine z07 ?_;refine dnS [] id () trivial [] uCr_5 uCr_5 uCr_5 uCr_5
 ·intro _ _
  have hfit:fitsN ⟨a,false⟩ m=true:=ziy hok hcd (by rw[hqm,hqt];exact hag)
  refine srR z3r fun _ K37=>?_;refine z2g ?_;refine z36 ?_;refine exB (fun hb1=>?_) (fun hb1=>?_)
  rotate_left 1
  ·exfalso;first|exact absurd hb1 (by decide)|exact hb1 rfl|(simp at hb1;done)|omega
  refine z6a ?_;refine exA (atmV a) (as_eq rfl) ?_;refine z6a ?_;refine exA (.agg (.cells (litL ⟨a,false⟩))) (as_eq rfl) ?_;refine z6a ?_;refine exA (mdlV m) (as_eq rfl) ?_;refine z6a ?_
  try refine aI (z00.noclo (z0e ⟨a,false⟩)) ?_
  try refine aI (z00.noclo (z06 _)) ?_
  refine⟨⟨a,false⟩,m,rfl,⟨haw,hsm⟩,?_⟩;refine DCr_0 ?_
  first|refine exA (.c (.bool (evN a m))) (as_b (znr hfit)) ?_|(intro cap5 hcap5;refine exA (.c (.bool (evN a m))) (as_b (znr hfit)) ?_)
  refine zgp ?_;refine z6a ?_;refine exA (.c (.bool (true))) (as_b (by simp)) ?_
  iterate 2 refine z2g ?_
  refine s_n K37 ?_;refine z0j (z03 z3r (fun _ _ h=>h) (by first|rfl|assumption) [.tmp 4] rfl ?_);refine rtD ?_
  rfl


end Go.Proofs.YtegdcifghaldoaaDoor
