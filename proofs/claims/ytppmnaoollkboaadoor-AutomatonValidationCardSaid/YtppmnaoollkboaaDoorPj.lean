/- Part 10 of what the claims of this seat share: the walk's engine, the functions' contracts, plain mathematics (Uta, Utd, Ute). -/
import Derived.Test.YtppmnaoollkboaaDoorPh
import Derived.Test.YtppmnaoollkboaaDoorPd
set_option maxHeartbeats 2000000
set_option maxRecDepth 4000
namespace Go.Proofs.YtppmnaoollkboaaDoor
set_option linter.all false
open Go.Ab Go.RowKit

section
variable {a b:Prop}
theorem qUta0(h:a:=by first|exact vcA|(simp[-List.reduceReplicate]<;>omega)|exact vTa|exact vTb|exact⟨by omega,by omega,trivial⟩|(show _< (jL _ _ _).length;rw[z0h];omega)|exact vcB):a:=h
theorem qUta1(h:a:=by first|exact vcA|(simp[-List.reduceReplicate]<;>omega)|(show 0+256≤(jL _ _ _).length;rw[z0h];decide)|exact z0h _ _ _|exact(z0h _ _ _).symm|(show 256=(jL _ _ _).length;rw[z0h])|(show 0< (jL _ _ _).length;rw[z0h];decide)|(show 0+(jL _ _ _).length≤_;rw[z0h];simp)|(show(List.replicate 256 (0:Int)).length=(jL _ _ _).length;rw[z0h,List.length_replicate])|exact vcB):a:=h
theorem z77(h:a:=by
    repeat' (first|assumption|exact zaj|exact z7n|exact z4x z7y _ _|exact z27 z7y _|exact pT|exact trivial|refine aI ?_ ?_|exact cC0|refine low_cons' ?_ ?_|exact cC1|fail)
    all_goals first|omega|exact hL0|exact zaj|exact z7n|exact hM0|exact z4x z7y _ _|exact z27 z7y _|(rw[hX4];exact z27 z7y _)|(show(_:List Int)=_;first|assumption|rfl)|(show(_:List (SV×SV))=_;first|assumption|rfl)|(show(0:Nat)< (z02 _ _ _ _).length;rw[z00 hcl];decide)|(simp[-List.reduceReplicate];done)|(simp[-List.reduceReplicate]<;>omega)|skip):a:=h
theorem zig(kZ:b)(h:HidB b→a:=by intro kZ;(repeat first|refine aI qUta0 ?_|refine z04 qUta0 ?_|refine z03 qUta0 ?_|refine z0m qUta0 ?_|refine z0c ?_);exact kZ.out):a:=h ⟨kZ⟩
theorem z34(kZ:b)(h:HidB b→a:=by intro kZ;refine sX ?_;refine zig ?_;refine exI ?_;exact kZ.out):a:=h ⟨kZ⟩
theorem zqr(kZ:b)(h:HidB b→a:=by intro kZ;refine dX ?_;refine zig ?_;refine exI ?_;exact kZ.out):a:=h ⟨kZ⟩
theorem gXUta_3(kZ:b)(h:HidB b→a:=by intro kZ;refine gX ?_;refine zig ?_;refine exI ?_;exact kZ.out):a:=h ⟨kZ⟩
theorem gX0Uta_4(kZ:b)(h:HidB b→a:=by intro kZ;refine gX0 ?_;refine zig ?_;refine exI ?_;exact kZ.out):a:=h ⟨kZ⟩
theorem zt9(kZ:b)(h:HidB b→a:=by intro kZ;refine sX0 ?_;refine zig ?_;refine exI ?_;exact kZ.out):a:=h ⟨kZ⟩
theorem DUta_6(kZ:b)(h:HidB b→a:=by intro kZ;(repeat first|refine aI qUta1 ?_|refine z04 qUta1 ?_|refine z03 qUta1 ?_|refine z0m qUta1 ?_|refine z0c ?_);exact kZ.out):a:=h ⟨kZ⟩
theorem zzb(kZ:b)(h:HidB b→a:=by intro kZ;refine sX ?_;refine DUta_6 ?_;refine exI ?_;exact kZ.out):a:=h ⟨kZ⟩
theorem sX0Uta_8(kZ:b)(h:HidB b→a:=by intro kZ;refine sX0 ?_;refine DUta_6 ?_;refine exI ?_;exact kZ.out):a:=h ⟨kZ⟩
theorem zta(kZ:b)(h:HidB b→a:=by intro kZ;refine dX ?_;refine zig ?_;exact kZ.out):a:=h ⟨kZ⟩
theorem zd7(kZ:b)(h:HidB b→a:=by intro kZ;refine sX ?_;refine zig ?_;exact kZ.out):a:=h ⟨kZ⟩
end
open Go.Aut
def cN(t:Tab):Nat→Nat:=(tblT t).cell
abbrev jk(a b:Tab):Nat→Nat×Nat:=jkey (cN a) (cN b)
def eP(p:Nat×Nat):SV:=.agg (.ints .i64 [(p.1:Int),(p.2:Int)])
theorem z7y(p:Nat×Nat):(eP p).flat=true:=rfl
theorem eP_inj{p q:Nat×Nat}(h:eP p=eP q):p=q:=by
  unfold eP at h
  injection h with h
  injection h with _ h
  simp only[List.cons.injEq,Int.natCast_inj,and_true]at h
  exact Prod.ext h.1 h.2
theorem zzc{p:Nat×Nat}(h:p.1≤65536∧p.2≤65536):keyS ty 160 (eP p):=by
  refine⟨rfl,rfl,rfl,fun x hx=>?_⟩
  rcases List.mem_cons.1 hx with rfl|hx
  · exact zbr.mpr ⟨by omega,by omega⟩
  · rw[List.mem_singleton.1 hx];exact zbr.mpr ⟨by omega,by omega⟩
theorem zm0{a b:Tab}(ha:a.fit)(hb:b.fit){x:Nat}(hx:x< 256):(jk a b x).1≤65536∧(jk a b x).2≤65536:=by
  have h1:=(cellN ha.1 hx).1
  have h2:=(cellN hb.1 hx).1
  have h3:=ha.2.2
  have h4:=hb.2.2
  exact⟨by show cN a x≤_;unfold cN;omega,by show cN b x≤_;unfold cN;omega⟩
abbrev jK(a b:Tab)(x:Nat):List (Nat×Nat):=keysO (jk a b) (List.range x)
theorem zzd{a b:Tab}(ha:a.fit)(hb:b.fit){x:Nat}(hx:x≤256):∀ p∈mapE eP (jK a b x),keyS ty 160 p.1:=fun p hp=>by
  obtain⟨k,i,hk,rfl⟩:=zb5 hp;obtain⟨y,hy,rfl⟩:=(z25 _ k).1 hk;exact zzc (zm0 ha hb (by have:=List.mem_range.1 hy;omega))
theorem ztb{a b:Tab}{x j:Nat}{q:Nat×Nat}{v:SV}(hj:(mapE eP (jK a b x))[j]? =some (eP q,v)):v= .c (.int .i64 ((idxK (jK a b x) q:Nat):Int))∧q∈jK a b x:=by
  obtain⟨k,hk,e,rfl⟩:=zd4 hj
  have e2:=eP_inj e
  subst e2
  have e4:idxK (jK a b x) k=j:=zbs (z3l _) hk
  exact⟨by rw[e4],List.mem_of_getElem? hk⟩
theorem jmap_no{a b:Tab}{x:Nat}{q:Nat×Nat}(hn:∀ p∈mapE eP (jK a b x),p.1≠eP q):q∉jK a b x:=zlo hn
abbrev jR(a b:Tab)(x:Nat):List Nat:=z0n (jk a b) (List.range x)
def jL(a b:Tab)(k:Nat):List Int:=(List.range 256).map fun x=>if x< k then((jcell (cN a) (cN b) x:Nat):Int)else 0
theorem z0h(a b:Tab)(k:Nat):(jL a b k).length=256:=by simp[jL]
theorem zze(a b:Tab):List.replicate 256 (0:Int)=jL a b 0:=by simp[jL,List.map_const']
theorem ztc{a b:Tab}{k:Nat}(h:k< 256):(jL a b k).set k ((jcell (cN a) (cN b) k:Nat):Int)=jL a b (k+1):=by
  refine z1z 0 (by rw[List.length_set,z0h,z0h]) fun i hi=>?_
  have hi:i< 256:=by rw[List.length_set,z0h]at hi;exact hi
  rw[z1i (by rw[z0h];exact hi),jL,jL,z0i hi,z0i hi]
  by_cases e:k=i
  · subst e;rw[if_pos rfl,if_pos (by omega)]
  · rw[if_neg e]
    by_cases h2:i< k
    · rw[if_pos h2,if_pos (by omega)]
    · rw[if_neg h2,if_neg (by omega)]
theorem ztd(a b:Tab){x:Nat}(hx:x< 256):jcell (cN a) (cN b) x=idxK (jK a b (x+1)) (jk a b x):=by
  have e:allB=List.range (x+1)++(List.range' (x+1) (256 - (x+1))):=by
    have:=List.range'_append (s:=0) (m:=x+1) (n:=256 - (x+1)) (step:=1)
    rw[Nat.one_mul,Nat.zero_add,show x+1+(256 - (x+1))=256 by omega]at this;rw[allB,List.range_eq_range',List.range_eq_range',this]
  obtain⟨r,hr⟩:=za9 (key:=jk a b) (List.range (x+1)) (List.range' (x+1) (256 - (x+1)))
  have hin:jk a b x∈jK a b (x+1):=(z25 _ _).2 ⟨x,List.mem_range.2 (by omega),rfl⟩
  rw[jcell,zpv,e,hr,z97 hin]
theorem j_yes{a b:Tab}{x:Nat}(hx:x< 256)(h:jk a b x∈jK a b x):jK a b (x+1)=jK a b x∧jR a b (x+1)=jR a b x∧jcell (cN a) (cN b) x=idxK (jK a b x) (jk a b x):=by
  have e:jK a b (x+1)=jK a b x:=by rw[jK,List.range_succ,z3r,addK,if_pos h]
  refine⟨e,?_,by rw[ztd a b hx,e]⟩;rw[jR,List.range_succ,z2u,if_pos h]
theorem j_no{a b:Tab}{x:Nat}(hx:x< 256)(h:jk a b x∉jK a b x):jK a b (x+1)=jK a b x++[jk a b x]∧jR a b (x+1)=jR a b x++[x]∧jcell (cN a) (cN b) x=(jR a b x).length:=by
  have e:jK a b (x+1)=jK a b x++[jk a b x]:=by rw[jK,List.range_succ,z3r,addK,if_neg h]
  refine⟨e,?_,by rw[ztd a b hx,e,z98 h,z1l]⟩;rw[jR,List.range_succ,z2u,if_neg h]
theorem zte(a b:Tab)(x:Nat):(jR a b x).length≤x:=by
  rw[z1l];exact Nat.le_trans (z3o _) (by rw[List.length_range];exact Nat.le_refl _)
theorem zqs(a b:Tab):jR a b 0=[]:=rfl
theorem jK_zero(a b:Tab):([]:List (SV×SV))=mapE eP (jK a b 0):=rfl
theorem zzf(a b:Tab):jR a b 256=jrep (cN a) (cN b):=rfl
attribute [local irreducible] z0s z12 zl z02 z11 putB jL jcell jrep
def ztf:QSpec:=fun vs K=>∃ a b:Tab,vs=[tabV a,tabV b]∧(a.fit∧b.fit)∧K (.tup [.agg (.ints .i64 (jL a b 256)),.c (.ds (jrep (cN a) (cN b)).length (.ints .i64 (natsI (jrep (cN a) (cN b)))))])
theorem zm1:z1w Tryd.prog gl 76 ztf:=by
 refine z1c (Γ:=g0) (N:=49) Tryd.func76 rfl rfl fun vs K h=>?_;obtain⟨a,b,rfl,⟨ha,hb⟩,h⟩:=h;refine⟨_,h,(List.forall_mem_cons.2 ⟨trivial,(List.forall_mem_cons.2 ⟨trivial,fun _ h=>(by cases h)⟩)⟩),by simp,fun w I=>?_⟩;refine srR g0_ok fun _ K2=>?_
 iterate 4 refine z34 ?_
 refine s_n K2 ?_;refine leW [0,1] (fun _=>2) [(2,.c (.dp (tabC a) 0)),(3,.c (.dp (tabC b) 0)),(4,.c (.ptr 0 0))] [(0,.own 85 (.ints .i64 (List.replicate 256 0)) 256)] 1 [2] ?_ ?_ ?_ ?_ ?_
 ·repeat' (first|assumption|exact zaj|exact z7n|exact z4x z7y _ _|exact z27 z7y _|exact pT|exact trivial|refine aI ?_ ?_|exact cC0|refine low_cons' ?_ ?_|exact cC1|fail)
  all_goals first|omega|exact hL0|exact zaj|exact z7n|exact hM0|exact z4x z7y _ _|exact z27 z7y _|(rw[hX4];exact z27 z7y _)|(show(_:List Int)=_;first|assumption|rfl)|(show(_:List (SV×SV))=_;first|assumption|rfl)|(show(0:Nat)< (z02 _ _ _ _).length;(first|rw[z00 ha.1.clen]|rw[z00 hb.1.clen]);decide)|(simp[-List.reduceReplicate];done)|(simp[-List.reduceReplicate]<;>omega)|skip
 ·exact z77
 ·exact z77
 ·exact z77
 refine srR g0_ok fun _ K4=>?_;refine z34 ?_;refine s_n K4 ?_;refine srR g0_ok fun _ K6=>?_;refine z34 ?_;refine s_n K6 ?_;refine srR g0_ok fun _ K8=>?_
 iterate 2 refine z34 ?_
 refine s_n K8 ?_;refine seq_k fun _ K9=>?_;refine srR g0_ok fun _ K11=>?_;refine z34 ?_;refine s_n K11 ?_;refine z07 ?_;refine zry 7 3 (.ints .i64 []) rfl rfl trivial ?_;refine z0q (α:=Nat×Nat) (fun s=>[(2,.c (.dp (tabC a) 0)),(3,.c (.dp (tabC b) 0)),(4,.c (.ptr 0 0)),(6,.c (.ptr 1 0)),(7,.c (.slice 3 0 (jR a b s.1).length s.2)),(8,.c (.map 2)),(14,.c (.int .i64 (s.1:Nat)))]) (fun s=>[(0,.own 85 (.ints .i64 (List.replicate 256 0)) 256),(1,.own 85 (.ints .i64 (jL a b s.1)) 256),(2,.mp 159 (mapE eP (jK a b s.1))),(3,.own 3 (.ints .i64 (natsI (jR a b s.1))) s.2)]) 4 (fun s=>s.1≤256∧(jR a b s.1).length≤s.2) (fun s=>256 - s.1) ?_ ?_
 ·have hX1:=zze a b
  have hM0:=jK_zero a b
  have hN0:([]:List Int)=natsI (jR a b 0):=by rw[zqs];rfl
  have hL0:0=(jR a b 0).length:=by rw[zqs];rfl
  refine dnS [] id (0,0) ⟨Nat.zero_le _,by show(jR a b 0).length≤0;rw[zqs];exact Nat.le_refl _⟩ [0,1,2,3] ?_ ?_ ?_ ?_
  ·exact z77
  ·exact z77
  ·exact z77
  ·exact z77
 ·intro s hs
  obtain⟨hs1,hs2⟩:=hs
  have hjl2:=zte a b s.1
  refine srR g0_ok fun _ K13=>?_;refine z34 ?_;refine s_n K13 ?_;refine seq_k fun _ K14=>?_;refine z09 (b:=_) rfl (fun h_t15=>?_) (fun h_t15=>?_)
  ·try simp only[dQ,reduceIte]at h_t15
   refine z0b ?_;apply K14;refine seq_k fun _ K15=>?_;refine z07 ?_
   have hx:s.1< 256:=by omega
   refine srR g0_ok fun _ K17=>?_
   iterate 2 refine z34 ?_
   refine s_n K17 ?_;refine srD g0_ok [(0,true),(1,true),(2,true),(3,true),(4,true),(5,true),(6,true),(7,true),(8,true),(9,false),(10,false)] rfl kR kR fun _ K19=>?_
   iterate 3 refine zqr ?_
   refine zta ?_;refine exA (.c (.int .i64 ((cN a s.1:Nat):Int))) (as_c ((zd2 ha.1.clen (by first|omega|(simp;done)) hx).trans (congrArg (Cell.int IntKind.i64) (cellN ha.1 hx).2))) ?_
   iterate 3 refine zqr ?_
   refine zta ?_;refine exA (.c (.int .i64 ((cN b s.1:Nat):Int))) (as_c ((zd2 hb.1.clen (by first|omega|(simp;done)) hx).trans (congrArg (Cell.int IntKind.i64) (cellN hb.1 hx).2))) ?_;refine zqr ?_;refine gXUta_3 ?_;refine gX0Uta_4 ?_;refine d_n K19 ?_;refine srR g0_ok fun _ K21=>?_;refine z34 ?_;refine zd7 ?_;refine exA (eP (jk a b s.1)) (SV.as_refl _) ?_;refine zd7 ?_;refine aI (zzc (zm0 ha hb hx)) (And.intro (zzd ha hb hs1) (And.intro (fun jj v hj=>?_) (fun hno=>?_)))
   ·obtain⟨rfl,hin⟩:=ztb hj
    refine exI ?_
    iterate 5 refine z34 ?_
    refine s_n K21 ?_;refine seq_k fun _ K22=>?_;refine srR g0_ok fun _ K24=>?_
    iterate 2 refine z34 ?_
    refine s_n K24 ?_;refine z09 (b:=_) rfl (fun h_t33=>?_) (fun _=>?_)
    ·exfalso;cases h_t33
    refine z0b ?_;apply K22;refine z06 g0_ok fun _ K25=>?_
    iterate 3 refine z34 ?_
    refine zt9 ?_;refine s_n K25 ?_;refine z0a ?_;apply K15;refine z06 g0_ok fun _ K26=>?_
    iterate 2 refine z34 ?_
    refine s_n K26 ?_;obtain⟨j1,j2,j3⟩:=j_yes hx hin
    have hX1:(jL a b s.1).set (0+((s.1:Nat):Int).toNat*1) (((idxK (jK a b s.1) (jk a b s.1):Nat):Int))=jL a b (s.1+1):=by rw[←j3,show 0+((s.1:Nat):Int).toNat*1=s.1 by omega];exact ztc hx
    have hX5:mapE eP (jK a b s.1)=mapE eP (jK a b (s.1+1)):=by rw[j1]
    have hX6:natsI (jR a b s.1)=natsI (jR a b (s.1+1)):=by rw[j2]
    have hL0:(jR a b s.1).length=(jR a b (s.1+1)).length:=by rw[j2]
    refine dnS [] id (s.1+1,s.2) ⟨⟨by show s.1+1≤_;omega,(by show(jR a b (s.1+1)).length≤s.2;omega)⟩,by show _ - (s.1+1)< _;omega⟩ [0,1,2,3] ?_ ?_ ?_ ?_
    ·exact z77
    ·exact z77
    ·exact z77
    ·exact z77
   ·have hnin:=jmap_no hno
    refine exI ?_
    iterate 5 refine z34 ?_
    refine s_n K21 ?_;refine seq_k fun _ K27=>?_;refine srR g0_ok fun _ K29=>?_
    iterate 2 refine z34 ?_
    refine s_n K29 ?_;refine z09 (b:=_) rfl (fun _=>?_) (fun h_t33=>?_)
    rotate_left 1
    ·exfalso;cases h_t33
    refine srR g0_ok fun _ K31=>?_
    iterate 3 refine z34 ?_
    refine s_n K31 ?_;refine srR g0_ok fun _ K33=>?_;refine z34 ?_;refine zd7 ?_;refine exA (eP (jk a b s.1)) (SV.as_refl _) ?_;refine z34 ?_;refine sX0 ?_;refine aI (zzc (zm0 ha hb hx)) (And.intro (zzd ha hb hs1) (And.intro (fun jj u hj=>absurd (ztb hj).2 hnin) (fun hno2=>?_)));refine exI ?_;refine s_n K33 ?_;refine z06 g0_ok fun _ K34=>?_
    iterate 3 refine z34 ?_
    refine zd7 ?_;intro cap3 hcap3;refine exI ?_;refine z34 ?_;refine s_n K34 ?_;apply K27;refine z06 g0_ok fun _ K35=>?_
    iterate 3 refine z34 ?_
    refine zt9 ?_;refine s_n K35 ?_;refine z0a ?_;apply K15;refine z06 g0_ok fun _ K36=>?_
    iterate 2 refine z34 ?_
    refine s_n K36 ?_;obtain⟨j1,j2,j3⟩:=j_no hx hnin
    have hX1:(jL a b s.1).set (0+((s.1:Nat):Int).toNat*1) ((((jR a b s.1).length:Nat):Int))=jL a b (s.1+1):=by rw[←j3,show 0+((s.1:Nat):Int).toNat*1=s.1 by omega];exact ztc hx
    have hkl:(jR a b s.1).length=(jK a b s.1).length:=z1l _
    have hX4:mapE eP (jK a b s.1)++[(eP (jk a b s.1),.c (.int .i64 (((jR a b s.1).length:Nat):Int)))]=mapE eP (jK a b (s.1+1)):=by rw[j1,hkl, ←zd3]
    have hX6:natsI (jR a b s.1)++([]++[((s.1:Nat):Int)])=natsI (jR a b (s.1+1)):=by rw[j2,List.nil_append,z2r]
    have hL0:(jR a b s.1).length+1=(jR a b (s.1+1)).length:=by rw[j2,List.length_append];rfl
    refine dnS [] (fun i=>if i=3 then 6 else i) (s.1+1,cap3) ⟨⟨by show s.1+1≤_;omega,(by show(jR a b (s.1+1)).length≤cap3;omega)⟩,by show _ - (s.1+1)< _;omega⟩ [0,1,2,6] ?_ ?_ ?_ ?_
    ·exact z77
    ·exact z77
    ·exact z77
    ·exact z77
  ·try simp only[dQ,reduceIte]at h_t15
   refine z0o ?_;refine z01 ?_;refine z01 ?_;refine z0j ?_;apply K9
   have hse:s.1=256:=by omega
   rw[hse]
   have hjl:=z0h a b 256
   have hjr:jR a b 256=jrep (cN a) (cN b):=zzf a b
   rw[hjr];refine srR g0_ok fun _ K38=>?_
   iterate 2 refine zzb ?_
   refine sX0Uta_8 ?_;refine zzb ?_;refine s_n K38 ?_;refine z0g (z0k g0_ok (fun _ _ h=>h) ((List.forall_mem_cons.2 ⟨trivial,(List.forall_mem_cons.2 ⟨trivial,fun _ h=>(by cases h)⟩)⟩)) [3] [.cell 4 85,.tmp 5] rfl ?_)
   repeat first|refine aI (by first|exact trivial|rfl|exact⟨rfl,rfl⟩|exact Nat.le_refl _|(show 0+256*1≤(jL a b 256).length;rw[z0h];decide)|decide) ?_|refine z04 (by show(jL a b 256).length=256*1;rw[z0h]) ?_
   clear hjl hjr hs1 hs2 hjl2
   repeat' (first|exact trivial|refine aI ?_ ?_)
   all_goals first|exact List.mem_singleton.2 rfl|exact Nat.one_pos|(show 0+_*1≤(natsI _).length;rw[z0e];omega)|(rw[if_pos ⟨rfl,by show(natsI _).length=_*1;rw[z0e,Nat.mul_one]⟩])|rfl


end Go.Proofs.YtppmnaoollkboaaDoor

namespace Go.Proofs.YtppmnaoollkboaaDoor
set_option linter.all false
open Go.Ab Go.RowKit

open Go.Aut
def bF1(t:Tab)(s b:Nat):Nat:=(tblT t).δ s (cN t b)
abbrev oB(t:Tab)(p:Nat):List Nat:=expO (bF1 t) 256 0 p
abbrev wB(t:Tab)(p:Nat):List (List Nat):=wrdO (bF1 t) p
theorem bF1_lt{t:Tab}(h:t.ok){s b:Nat}(hs:s< t.next.length)(hb:b< 256):bF1 t s b< t.next.length:=(nextN h hs (cellN h hb).1).1
theorem oB_lt {t:Tab} (h:t.ok):∀ p,∀ x∈oB t p,x< t.next.length
  | 0,x,hx=>by
    have hx:x∈[0]:=hx
    rw[List.mem_singleton.1 hx];exact h.npos
  | p + 1,x,hx=>by
    have ih:=oB_lt h p
    have hx:x∈addG (oB t p) (bF1 t ((oB t p).getD (p / 256) default) (p%256)):=hx
    rw[addG]at hx
    split at hx
    · exact ih x hx
    · rcases List.mem_append.1 hx with hx|hx
      · exact ih x hx
      · rw[List.mem_singleton.1 hx]
        refine bF1_lt h ?_ (Nat.mod_lt _ (by decide));rw[List.getD_eq_getElem?_getD]
        cases e:(oB t p)[p / 256]? with
        |none=>exact h.npos
        |some y=>exact ih y (List.mem_of_getElem? e)
theorem oB_le{t:Tab}(h:t.ok)(p:Nat):(oB t p).length≤t.next.length:=zb1 (z5x p) (oB_lt h p)
theorem zzg(t:Tab)(p:Nat):(oB t p).getD 0 0=0:=za7 zhm
theorem wB_zero(t:Tab)(p:Nat):(wB t p).getD 0 []=[]:=by
  have:=z66 (f:=bF1 t) (Nat.zero_le p) (i:=0) (by show 0< 1;decide)
  rw[this];rfl
theorem zej{t:Tab}{i b:Nat}(hb:b< 256)(hi:i< (oB t (i*256+b)).length):oB t (i*256+b+1)=addG (oB t (i*256+b)) (bF1 t ((oB t (i*256+b)).getD i 0) b):=zcl hb (at_of (d:=0) hi)
theorem zm2{t:Tab}{i b:Nat}(hb:b< 256):wB t (i*256+b+1)=if bF1 t ((oB t (i*256+b)).getD i 0) b∈oB t (i*256+b)then wB t (i*256+b)else wB t (i*256+b)++[(wB t (i*256+b)).getD i []++[b]]:=by
  obtain⟨h1,h2⟩:=zck (i:=i) (k:=b) (nc:=256) hb;rw[wB,wrdO,h1,h2];rfl
structure FB(t:Tab)(p:Nat)(fr:List Int)(bs:List UInt8):Prop where
  flen:fr.length=t.next.length
  blen:bs.length=t.next.length
  out:∀ x,x< t.next.length→x∉oB t p→fr.getD x 0= -1
  inn:∀ x,x∈oB t p→0≤fr.getD x 0
  come:∀ j,0< j→j< (oB t p).length→∃ i b,i< j∧b< 256∧fr.getD ((oB t p).getD j 0) 0=(((oB t p).getD i 0:Nat):Int)∧bs.getD ((oB t p).getD j 0) 0=UInt8.ofNat b∧(wB t p).getD j []=(wB t p).getD i []++[b]
theorem FB.zero{t:Tab}(h:t.ok):FB t 0 ((List.replicate t.next.length (-1)).set 0 0) (List.replicate t.next.length 0):=by
  have hp:=h.npos
  have ho:oB t 0=[0]:=rfl
  refine⟨by simp,by simp,fun x hx hn=>?_,fun x hx=>?_,fun j h0 hj=>?_⟩
  · rw[ho]at hn
    have:¬ 0=x:=fun e=>hn (by rw[←e];exact List.mem_cons_self)
    rw[z1i (by simpa using hx),if_neg this,zlr hx]
  · rw[ho]at hx
    rw[List.mem_singleton.1 hx,z1i (by simpa using hp),if_pos rfl];exact Int.le_refl 0
  · rw[ho]at hj
    simp at hj;omega
theorem FB.same{t:Tab}{i b:Nat}{fr:List Int}{bs:List UInt8}(h:FB t (i*256+b) fr bs)(hb:b< 256)(hi:i< (oB t (i*256+b)).length)(hin:bF1 t ((oB t (i*256+b)).getD i 0) b∈oB t (i*256+b)):FB t (i*256+b+1) fr bs:=by
  have e:oB t (i*256+b+1)=oB t (i*256+b):=by rw[zej hb hi,addG,if_pos hin]
  have e2:wB t (i*256+b+1)=wB t (i*256+b):=by rw[zm2 hb,if_pos hin]
  exact⟨h.flen,h.blen,by rw[e];exact h.out,by rw[e];exact h.inn,by rw[e,e2];exact h.come⟩
theorem FB.more {t:Tab} (ht:t.ok) {i b:Nat} {fr:List Int} {bs:List UInt8} (h:FB t (i*256+b) fr bs) (hb:b< 256) (hi:i< (oB t (i*256+b)).length) (hin:bF1 t ((oB t (i*256+b)).getD i 0) b∉oB t (i*256+b)):
    FB t (i*256+b+1) (fr.set (bF1 t ((oB t (i*256+b)).getD i 0) b) (((oB t (i*256+b)).getD i 0:Nat):Int)) (bs.set (bF1 t ((oB t (i*256+b)).getD i 0) b) (UInt8.ofNat b)):=by
  obtain⟨to,hto⟩:∃ to,to=bF1 t ((oB t (i*256+b)).getD i 0) b:=⟨_,rfl⟩
  have hlt:to< t.next.length:=by rw[hto];exact bF1_lt ht (oB_lt ht _ _ (getD_mem' hi)) hb
  have e:oB t (i*256+b+1)=oB t (i*256+b)++[to]:=by rw[zej hb hi,addG,if_neg hin,hto]
  have e2:wB t (i*256+b+1)=wB t (i*256+b)++[(wB t (i*256+b)).getD i []++[b]]:=by rw[zm2 hb,if_neg hin]
  have hwl:(wB t (i*256+b)).length=(oB t (i*256+b)).length:=z96 _
  rw[←hto]at hin ⊢;refine⟨by rw[List.length_set];exact h.flen,by rw[List.length_set];exact h.blen,fun x hx hn=>?_,fun x hx=>?_,fun j h0 hj=>?_⟩
  · rw[e]at hn
    have hne:¬ to=x:=fun e'=>hn (by rw[←e'];simp)
    rw[z1i (by rw[h.flen];exact hx),if_neg hne];exact h.out x hx fun hx'=>hn (List.mem_append_left _ hx')
  · rw[e]at hx
    by_cases hne:to=x
    · rw[z1i (by rw[h.flen, ←hne];exact hlt),if_pos hne];omega
    · rcases List.mem_append.1 hx with hx|hx
      · have hxl:=oB_lt ht _ x (by exact hx)
        rw[z1i (by rw[h.flen];exact hxl),if_neg hne];exact h.inn x (by exact hx)
      · exact absurd (List.mem_singleton.1 hx).symm hne
  · rw[e,List.length_append]at hj
    have hj:j< (oB t (i*256+b)).length+1:=hj
    rw[e,e2]
    rcases Nat.lt_or_ge j (oB t (i*256+b)).length with h1|h1
    · obtain⟨i',b',g1,g2,g3,g4,g5⟩:=h.come j h0 (by exact h1)
      have hga:∀ k,k< (oB t (i*256+b)).length→((oB t (i*256+b))++[to]).getD k 0=(oB t (i*256+b)).getD k 0:=fun k hk=>by rw[List.getD_eq_getElem?_getD,List.getD_eq_getElem?_getD,List.getElem?_append_left hk]
      have hgw:∀ k,k< (oB t (i*256+b)).length→(wB t (i*256+b)++[(wB t (i*256+b)).getD i []++[b]]).getD k []=(wB t (i*256+b)).getD k []:=fun k hk=>by
        simp only[List.getD_eq_getElem?_getD]
        rw[List.getElem?_append_left (by rw[hwl];exact hk)]
      have hne:¬ to=(oB t (i*256+b)).getD j 0:=fun e'=>hin (by rw[e'];exact getD_mem' h1)
      have hxl:=oB_lt ht _ ((oB t (i*256+b)).getD j 0) (by exact getD_mem' h1)
      refine⟨i',b',g1,g2,?_,?_,?_⟩
      · rw[hga j h1,hga i' (by omega),z1i (by rw[h.flen];exact hxl),if_neg hne];exact g3
      · rw[hga j h1,z1i (by rw[h.blen];exact hxl),if_neg hne];exact g4
      · rw[hgw j h1,hgw i' (by omega)];exact g5
    · have hje:j=(oB t (i*256+b)).length:=by omega
      subst hje
      have hgl:((oB t (i*256+b))++[to]).getD (oB t (i*256+b)).length 0=to:=by rw[List.getD_eq_getElem?_getD,List.getElem?_append_right (Nat.le_refl _),Nat.sub_self];rfl
      have hgw:(wB t (i*256+b)++[(wB t (i*256+b)).getD i []++[b]]).getD (oB t (i*256+b)).length []=(wB t (i*256+b)).getD i []++[b]:=by rw[List.getD_eq_getElem?_getD,List.getElem?_append_right (by rw[hwl];exact Nat.le_refl _),hwl,Nat.sub_self];rfl
      have hga:((oB t (i*256+b))++[to]).getD i 0=(oB t (i*256+b)).getD i 0:=by rw[List.getD_eq_getElem?_getD,List.getD_eq_getElem?_getD,List.getElem?_append_left hi]
      refine⟨i,b,hi,hb,?_,?_,?_⟩
      · rw[hgl,hga,z1i (by rw[h.flen];exact hlt),if_pos rfl]
      · rw[hgl,z1i (by rw[h.blen];exact hlt),if_pos rfl]
      · rw[hgw,List.getD_eq_getElem?_getD (i:=i) (l:=wB t (i*256+b)++_),List.getElem?_append_left (by rw[hwl];exact hi), ←List.getD_eq_getElem?_getD]
def lsB(o:Option (List Nat)):List UInt8:=(o.getD []).map UInt8.ofNat
abbrev lsV(o:Option (List Nat)):SV:=.tup [.c (.ds (lsB o).length (.u8s (lsB o))),.c (.bool o.isSome)]
theorem z6q(o:Option (List Nat)):SV.low 0 (lsV o):=List.forall_mem_cons.2 ⟨trivial,List.forall_mem_cons.2 ⟨trivial,fun _ h=>by cases h⟩⟩
theorem zzh(t:Tab):z39 ((tblT t).lang 0)=z39 fun w=>t.acc.getD (runB (bF1 t) 0 w) false:=zab fun w hw=>z8e _ w
theorem hz_of{t:Tab}{i:Nat}(ha:∀ j,j< i→j< (oB t (j*256)).length):∀ q,q< i*256→q / 256< (oB t q).length:=fun q hq=>by
  have h1:q / 256< i:=Nat.div_lt_of_lt_mul (by rw[Nat.mul_comm];exact hq)
  exact Nat.lt_of_lt_of_le (ha _ h1) (z1p (Nat.div_mul_le_self q 256))
theorem ztg{t:Tab}{i:Nat}(ha:∀ j,j< i→j< (oB t (j*256)).length)(hi:i< (oB t (i*256)).length)(hno:∀ j,j< i→t.acc.getD ((oB t (i*256)).getD j 0) false=false)(hyes:t.acc.getD ((oB t (i*256)).getD i 0) false=true):z39 ((tblT t).lang 0)=some ((wB t (i*256)).getD i []):=by
  rw[zzh];exact z73 (least_at (f:=bF1 t) (acc:=fun s=>t.acc.getD s false) (hz_of ha) hi hno hyes)
theorem zzi{t:Tab}{i:Nat}(ha:∀ j,j< i→j< (oB t (j*256)).length)(hi:(oB t (i*256)).length≤i)(hno:∀ j,j< i→t.acc.getD ((oB t (i*256)).getD j 0) false=false):z39 ((tblT t).lang 0)=none:=by
  rw[zzh];exact zq5 (zv8 (f:=bF1 t) (acc:=fun s=>t.acc.getD s false) (hz_of ha) hi hno)

end Go.Proofs.YtppmnaoollkboaaDoor

namespace Go.Proofs.YtppmnaoollkboaaDoor
set_option linter.all false
open Go.Ab Go.RowKit

section
variable {a b:Prop}
theorem qUte0(h:a:=by first|exact vcA|(simp[-List.reduceReplicate]<;>omega)|exact vTh|exact⟨by omega,by omega,trivial⟩|(show _< (fillN _ _ _).length;rw[z3g];omega)|(simp only[z0v,List.length_replicate];omega)|(show _< (List.replicate _ _).length;rw[List.length_replicate];omega)|exact vcB):a:=h
theorem z1n(h:a:=by
    repeat' (first|(show(_:List Int)=_;assumption)|(show(_:List UInt8)=_;assumption)|exact pT|exact trivial|refine aI ?_ ?_|exact cC0|refine low_cons' ?_ ?_|exact cC1|fail)
    all_goals first|omega|exact hL0|(show(_:List Int)=_;first|assumption|rfl)|(show(_:List UInt8)=_;first|assumption|rfl)|(show(0:Nat)< (z02 _ _ _ _).length;rw[z00 hcl];decide)|(simp[-List.reduceReplicate];done)|(simp[-List.reduceReplicate]<;>omega)|skip):a:=h
theorem zob(kZ:b)(h:HidB b→a:=by intro kZ;(repeat first|refine aI qUte0 ?_|refine z04 qUte0 ?_|refine z03 qUte0 ?_|refine z0m qUte0 ?_|refine z0c ?_);exact kZ.out):a:=h ⟨kZ⟩
theorem z16(kZ:b)(h:HidB b→a:=by intro kZ;refine sX ?_;refine zob ?_;refine exI ?_;exact kZ.out):a:=h ⟨kZ⟩
theorem zgd(kZ:b)(h:HidB b→a:=by intro kZ;refine sX0 ?_;refine zob ?_;refine exI ?_;exact kZ.out):a:=h ⟨kZ⟩
theorem zih(kZ:b)(h:HidB b→a:=by intro kZ;refine qX ?_;refine zob ?_;refine exI ?_;exact kZ.out):a:=h ⟨kZ⟩
theorem z5k(kZ:b)(h:HidB b→a:=by intro kZ;refine sX ?_;refine zob ?_;exact kZ.out):a:=h ⟨kZ⟩
theorem zge(kZ:b)(h:HidB b→a:=by intro kZ;refine qX ?_;refine zob ?_;exact kZ.out):a:=h ⟨kZ⟩
end
open Go.Aut
theorem zgf(w:List Nat):lsB (some w)=w.map UInt8.ofNat:=rfl
theorem oB_ne{t:Tab}{p j:Nat}(hj:j< (oB t p).length):(oB t p).getD j 0=0↔j=0:=by
  constructor
  · intro h
    have hn:=z5x (f:=bF1 t) (nc:=256) (b0:=0) p
    have h0:=zzg t p
    have hp:0< (oB t p).length:=by omega
    have e1:(oB t p)[j]=(oB t p)[0]:=by rw[z43 hj]at h;rw[z43 hp]at h0;rw[h,h0]
    have a1:=hn.idxOf_getElem j hj
    have a2:=hn.idxOf_getElem 0 hp
    rw[e1,a2]at a1;exact a1.symm
  · rintro rfl;exact zzg t p
attribute [local irreducible] z0s z12 zl z02 z11 putB fillN wrdO expO
def zqt:QSpec:=fun vs K=>∃ t:Tab,vs=[tabV t]∧t.fit∧K (lsV (z39 ((tblT t).lang 0)))
theorem zoc:z1w Tryd.prog gl 86 zqt:=by
 refine z1c (Γ:=g0) (N:=96) Tryd.func86 rfl rfl fun vs K h=>?_;obtain⟨t,rfl,ht,h⟩:=h;refine⟨_,h,z6q _,by simp,fun w I=>?_⟩
 have ht0:=ht
 obtain⟨hok,hlen,hnc⟩:=ht0
 have hcl:=hok.clen
 refine srR g0_ok fun _ K2=>?_
 iterate 3 refine z16 ?_
 refine s_n K2 ?_;refine leW [0] id [(1,.c (.dp (tabC t) 0))] [] 0 [] z1n z1n z1n z1n ?_;refine srR g0_ok fun _ K4=>?_;refine z16 ?_;refine z5k ?_;refine exA (.c (.ds t.next.length (.cells (rowsC t.next)))) (as_c (z6p hcl)) ?_
 iterate 3 refine z16 ?_
 refine s_n K4 ?_
 have hnp:=hok.npos
 refine leW [] id [(1,.c (.dp (tabC t) 0)),(4,.c (.slice 0 0 t.next.length t.next.length))] [(0,.own 3 (.ints .i64 (List.replicate t.next.length 0)) t.next.length)] 1 [0] z1n z1n z1n z1n ?_;refine srR g0_ok fun _ K6=>?_;refine z16 ?_;refine z5k ?_;refine exA (.c (.ds t.next.length (.cells (rowsC t.next)))) (as_c (z6p hcl)) ?_
 iterate 3 refine z16 ?_
 refine s_n K6 ?_;refine seq_k fun _ K7=>?_;refine srR g0_ok fun _ K9=>?_
 iterate 3 refine z16 ?_
 refine s_n K9 ?_;refine z07 ?_;refine z0q (α:=Nat) (fun k=>[(1,.c (.dp (tabC t) 0)),(4,.c (.slice 0 0 t.next.length t.next.length)),(5,.c (.slice 1 0 t.next.length t.next.length)),(22,.c (.int .i64 (t.next.length:Nat))),(23,.c (.int .i64 (k:Nat)))]) (fun k=>[(0,.own 3 (.ints .i64 (fillN t.next.length (-1) k)) t.next.length),(1,.own 5 (.u8s (List.replicate t.next.length 0)) t.next.length)]) 2 (fun k=>k≤t.next.length) (fun k=>t.next.length - k) ?_ ?_
 ·have hX1:List.replicate t.next.length (0:Int)=fillN t.next.length (-1) 0:=(z8j _ _).symm
  refine dnS [] id 0 (Nat.zero_le _) [0,1] z1n z1n z1n z1n
 ·intro k hk
  refine srR g0_ok fun _ K11=>?_;refine z16 ?_;refine s_n K11 ?_;refine seq_k fun _ K12=>?_;refine z09 (b:=_) rfl (fun h_t24=>?_) (fun h_t24=>?_)
  ·try simp only[dQ,reduceIte]at h_t24
   refine z0b ?_;apply K12;refine seq_k fun _ K13=>?_;refine z07 ?_;refine srR g0_ok fun _ K15=>?_
   iterate 2 refine z16 ?_
   refine s_n K15 ?_
   have hkl:k< t.next.length:=by omega
   refine z06 g0_ok fun _ K16=>?_
   iterate 3 refine z16 ?_
   refine zgd ?_;refine s_n K16 ?_;refine z0a ?_;apply K13;refine z06 g0_ok fun _ K17=>?_
   iterate 2 refine z16 ?_
   refine s_n K17 ?_
   have hX1:(fillN t.next.length (-1) k).set (0+((k:Nat):Int).toNat*1) (-1)=fillN t.next.length (-1) (k+1):=by rw[show 0+((k:Nat):Int).toNat*1=k by omega];exact zak _ hkl
   refine dnS [] id (k+1) ⟨by omega,by omega⟩ [0,1] z1n z1n z1n z1n
  ·try simp only[dQ,reduceIte]at h_t24
   refine z0o ?_;refine z01 ?_;refine z01 ?_;refine z0j ?_;apply K7
   obtain rfl:k=t.next.length:=by omega
   rw[zd5];refine srR g0_ok fun _ K19=>?_
   iterate 2 refine z16 ?_
   refine zgd ?_;refine s_n K19 ?_;refine srR g0_ok fun _ K21=>?_
   iterate 2 refine z16 ?_
   refine s_n K21 ?_;refine seq_k fun _ K22=>?_;refine srR g0_ok fun _ K24=>?_;refine z16 ?_;refine s_n K24 ?_;refine z07 ?_;refine z0q (α:=Nat×Nat×List Int×List UInt8) (fun g=>[(1,.c (.dp (tabC t) 0)),(4,.c (.slice 0 0 t.next.length t.next.length)),(5,.c (.slice 1 0 t.next.length t.next.length)),(7,.c (.slice 2 0 (oB t (g.1*256)).length g.2.1)),(8,.c (.int .i64 (g.1:Nat)))]) (fun g=>[(0,.own 3 (.ints .i64 g.2.2.1) t.next.length),(1,.own 5 (.u8s g.2.2.2) t.next.length),(2,.own 3 (.ints .i64 (natsI (oB t (g.1*256)))) g.2.1)]) 3 (fun g=>g.1≤t.next.length∧(∀ j,j< g.1→j< (oB t (j*256)).length)∧g.1≤(oB t (g.1*256)).length∧(oB t (g.1*256)).length≤g.2.1∧FB t (g.1*256) g.2.2.1 g.2.2.2∧(∀ j,j< g.1→t.acc.getD ((oB t (g.1*256)).getD j 0) false=false)) (fun g=>t.next.length - g.1) ?_ ?_
   ·have hz:oB t (0*256)=[0]:=by unfold oB;rw[Nat.zero_mul];unfold expO;rfl
    have hL0:1=(oB t (0*256)).length:=by rw[hz];rfl
    have hX2:[]++[(0:Int)]=natsI (oB t (0*256)):=by rw[hz];rfl
    have hfz:=FB.zero hok
    have hfz:FB t (0*256) ((List.replicate t.next.length (-1)).set 0 0) (List.replicate t.next.length 0):=by rw[Nat.zero_mul];exact hfz
    refine dnS [] id (0,1,(List.replicate t.next.length (-1)).set 0 0,List.replicate t.next.length 0) ⟨Nat.zero_le _,fun j hj=>absurd hj (Nat.not_lt_zero j),Nat.zero_le _,(by show(oB t (0*256)).length≤1;rw[hz];exact Nat.le_refl _),hfz,fun j hj=>absurd hj (Nat.not_lt_zero j)⟩ [0,1,2] ?_ ?_ ?_ ?_
    ·exact z1n
    ·exact z1n
    ·exact z1n
    ·exact z1n
   ·intro g hg
    obtain⟨hg1,hga,hg3,hg4,hfb,hna⟩:=hg
    have hfl:=hfb.flen
    have hbl:=hfb.blen
    refine seq_k fun _ K25=>?_;refine srR g0_ok fun _ K27=>?_
    iterate 4 refine z16 ?_
    refine s_n K27 ?_;refine z09 (b:=_) rfl (fun h_t36=>?_) (fun h_t36=>?_)
    ·try simp only[dQ,reduceIte]at h_t36
     refine z0b ?_;apply K25;refine seq_k fun _ K28=>?_;refine z07 ?_
     have hi:g.1< (oB t (g.1*256)).length:=by omega
     have hsl:=oB_lt hok _ _ (getD_mem' hi)
     have hal:=hok.alen
     have hrw:=z5a hok hsl
     have hole:=oB_le hok (g.1*256)
     refine srR g0_ok fun _ K30=>?_
     iterate 3 refine z16 ?_
     refine z5k ?_;refine exA (.c (.int .i64 (((((oB t (g.1*256)).getD g.1 0):Nat):Int)))) (as_i ((congrArg (fun i=>(natsI (oB t (g.1*256))).getD i 0) (by omega)).trans z0r)) ?_;refine z16 ?_;refine s_n K30 ?_;refine seq_k fun _ K31=>?_;refine srR g0_ok fun _ K33=>?_;refine z16 ?_;refine z5k ?_;refine exA (.c (.ds t.acc.length (.bools t.acc))) (as_c (zbi hcl)) ?_
     iterate 2 refine z16 ?_
     refine z5k ?_;refine exA (.c (.bool (t.acc.getD ((oB t (g.1*256)).getD g.1 0) false))) (as_b (congrArg (fun i=>t.acc.getD i false) (by omega))) ?_;refine s_n K33 ?_;refine z09 (b:=_) rfl (fun h_t47=>?_) (fun h_t47=>?_)
     ·try simp only[dQ,reduceIte]at h_t47
      refine srR g0_ok fun _ K35=>?_
      iterate 2 refine z16 ?_
      refine s_n K35 ?_;refine seq_k fun _ K36=>?_;refine z07 ?_;refine z0q (α:=Nat×List Nat×Nat) (fun q=>[(1,.c (.dp (tabC t) 0)),(4,.c (.slice 0 0 t.next.length t.next.length)),(5,.c (.slice 1 0 t.next.length t.next.length)),(7,.c (.slice 2 0 (oB t (g.1*256)).length g.2.1)),(8,.c (.int .i64 (g.1:Nat))),(9,.c (.int .i64 (((oB t (g.1*256)).getD q.1 0):Nat))),(10,.c (.slice 3 0 q.2.1.length q.2.2))]) (fun q=>[(0,.own 3 (.ints .i64 g.2.2.1) t.next.length),(1,.own 5 (.u8s g.2.2.2) t.next.length),(2,.own 3 (.ints .i64 (natsI (oB t (g.1*256)))) g.2.1),(3,.own 5 (.u8s (q.2.1.map UInt8.ofNat)) q.2.2)]) 4 (fun q=>q.1< (oB t (g.1*256)).length∧q.2.1.length≤q.2.2∧(wB t (g.1*256)).getD g.1 []=(wB t (g.1*256)).getD q.1 []++q.2.1∧q.1+q.2.1.length≤g.1) (fun q=>q.1) ?_ ?_
      ·refine dnS [] id (g.1,[],0) ⟨hi,Nat.le_refl _,by simp,Nat.le_refl _⟩ [0,1,2,3] z1n z1n z1n z1n
      ·intro q hq
       obtain⟨hqj,hqc,hqw,hql⟩:=hq;refine seq_k fun _ K37=>?_;refine srR g0_ok fun _ K39=>?_
       iterate 2 refine z16 ?_
       refine s_n K39 ?_;refine z09 (b:=_) rfl (fun h_t50=>?_) (fun h_t50=>?_)
       ·try simp only[dQ,reduceIte]at h_t50
        refine z0b ?_;apply K37;refine seq_k fun _ K40=>?_;refine z07 ?_
        have hj0:0< q.1:=by
         rcases Nat.eq_zero_or_pos q.1 with e|e
         ·exact absurd ((oB_ne hqj).2 e) (by simpa using h_t50)
         ·exact e
        obtain⟨i,b,c1,c2,c3,c4,c5⟩:=hfb.come q.1 hj0 hqj
        have hsj:=oB_lt hok _ _ (getD_mem' hqj)
        have hsi:=oB_lt hok _ _ (getD_mem' (show i< (oB t (g.1*256)).length by omega))
        have hql2:q.2.1.length≤65536:=by omega
        refine z06 g0_ok fun _ K41=>?_
        iterate 3 refine z16 ?_
        refine z5k ?_;refine exA (.c (.u8 (UInt8.ofNat b))) (as_eq (congrArg (fun v=>SV.c (Cell.u8 v)) ((congrArg (fun i=>g.2.2.2.getD i 0) (by omega)).trans c4))) ?_
        iterate 2 refine z16 ?_
        refine z5k ?_;intro cap6 hcap6;refine exI ?_;refine z16 ?_;refine s_n K41 ?_;refine z0a ?_;apply K40;refine z06 g0_ok fun _ K42=>?_
        iterate 3 refine z16 ?_
        refine z5k ?_;refine exA (.c (.int .i64 ((((oB t (g.1*256)).getD i 0:Nat):Int)))) (as_i ((congrArg (fun i=>g.2.2.1.getD i 0) (by omega)).trans c3)) ?_;refine z16 ?_;refine s_n K42 ?_
        have hX4:([]++[UInt8.ofNat b])++q.2.1.map UInt8.ofNat=(b::q.2.1).map UInt8.ofNat:=rfl
        refine dnS [] (fun i=>if i=3 then 5 else i) (i,b::q.2.1,cap6) ⟨⟨by show i< (oB t (g.1*256)).length;omega,(by show(b::q.2.1).length≤cap6;simp only[List.length_cons];omega),(by rw[hqw,c5,List.append_assoc];rfl),(by show i+(b::q.2.1).length≤g.1;simp only[List.length_cons];omega)⟩,c1⟩ [0,1,2,5] ?_ ?_ ?_ ?_
        ·exact z1n
        ·exact z1n
        ·exact z1n
        ·exact z1n
       ·try simp only[dQ,reduceIte]at h_t50
        refine z0o ?_;refine z01 ?_;refine z01 ?_;refine z0j ?_;apply K36;refine srR g0_ok fun _ K44=>?_
        iterate 3 refine z16 ?_
        refine s_n K44 ?_
        have hq0:q.1=0:=(oB_ne hqj).1 (by simpa using h_t50)
        have hw:z39 ((tblT t).lang 0)=some q.2.1:=by
         rw[ztg hga hi hna (by simpa using h_t47),hqw,hq0,wB_zero];rfl
        rw[hw];refine z0g (z0k g0_ok (fun _ _ h=>h) (z6q _) [3] [.tmp 2,.tmp 3] rfl ?_)
        repeat' (first|(show(_:List Int)=_;assumption)|(show(_:List UInt8)=_;assumption)|exact pT|exact trivial|refine aI ?_ ?_|exact cC0|refine low_cons' ?_ ?_|exact cC1|fail)
        all_goals first|omega|(show _=(lsB (some _)).length;rw[zgf,List.length_map])|(rw[zgf];rw[if_pos ⟨rfl,by simp⟩])|(rw[if_pos ⟨rfl,by simp⟩];rfl)|exact hL0|(show(_:List Int)=_;first|assumption|rfl)|(show(_:List UInt8)=_;first|assumption|rfl)|(show(0:Nat)< (z02 _ _ _ _).length;rw[z00 hcl];decide)|(simp[-List.reduceReplicate];done)|(simp[-List.reduceReplicate]<;>omega)|skip
     ·try simp only[dQ,reduceIte]at h_t47
      refine z0b ?_;apply K31;refine srR g0_ok fun _ K46=>?_;refine z16 ?_;refine s_n K46 ?_;refine z07 ?_;refine z0q (α:=Nat×Nat×List Int×List UInt8) (fun z=>[(1,.c (.dp (tabC t) 0)),(4,.c (.slice 0 0 t.next.length t.next.length)),(5,.c (.slice 1 0 t.next.length t.next.length)),(7,.c (.slice 2 0 (oB t (g.1*256+z.1)).length z.2.1)),(8,.c (.int .i64 (g.1:Nat))),(9,.c (.int .i64 (((oB t (g.1*256)).getD g.1 0):Nat))),(63,.c (.int .i64 (z.1:Nat)))]) (fun z=>[(0,.own 3 (.ints .i64 z.2.2.1) t.next.length),(1,.own 5 (.u8s z.2.2.2) t.next.length),(2,.own 3 (.ints .i64 (natsI (oB t (g.1*256+z.1)))) z.2.1)]) 3 (fun z=>z.1≤256∧(oB t (g.1*256+z.1)).length≤z.2.1∧FB t (g.1*256+z.1) z.2.2.1 z.2.2.2) (fun z=>256 - z.1) ?_ ?_
      ·refine dnS [] id (0,g.2.1,g.2.2.1,g.2.2.2) ⟨Nat.zero_le _,hg4,hfb⟩ [0,1,2] z1n z1n z1n z1n
      ·intro z hz
       obtain⟨hz1,hz4,hzf⟩:=hz
       have hzfl:=hzf.flen
       have hzbl:=hzf.blen
       refine srR g0_ok fun _ K48=>?_;refine z16 ?_;refine s_n K48 ?_;refine seq_k fun _ K49=>?_;refine z09 (b:=_) rfl (fun h_t64=>?_) (fun h_t64=>?_)
       ·try simp only[dQ,reduceIte]at h_t64
        refine z0b ?_;apply K49;refine seq_k fun _ K50=>?_;refine z07 ?_
        have hb256:z.1< 256:=by omega
        have hiz:g.1< (oB t (g.1*256+z.1)).length:=Nat.lt_of_lt_of_le hi (z1p (Nat.le_add_right _ _))
        have hgz:(oB t (g.1*256+z.1)).getD g.1 0=((oB t (g.1*256)).getD g.1 0):=z6b (Nat.le_add_right _ _) hi
        have hcb:=cellN hok hb256
        have hx:=nextN hok hsl hcb.1
        have htl:(bF1 t ((oB t (g.1*256)).getD g.1 0) z.1)< t.next.length:=hx.1
        have holz:=oB_le hok (g.1*256+z.1)
        refine srR g0_ok fun _ K52=>?_
        iterate 2 refine z16 ?_
        refine s_n K52 ?_;refine srQ g0_ok kR fun _ K54=>?_;refine zih ?_;refine zge ?_;refine exA (.c (.ds t.next.length (.cells (rowsC t.next)))) (as_c (z6p hcl)) ?_
        iterate 2 refine zih ?_
        refine zge ?_;refine exA (.c (.ds (t.next.getD ((oB t (g.1*256)).getD g.1 0) []).length (.ints .i64 (t.next.getD ((oB t (g.1*256)).getD g.1 0) [])))) (as_c (z4n ⟨hsl,by omega⟩)) ?_
        iterate 3 refine zih ?_
        refine zge ?_;refine exA (.c (.int .i64 (((tblT t).cell z.1:Nat):Int))) (as_c ((zd2 hcl (by first|omega|(simp;done)) hb256).trans (congrArg (Cell.int IntKind.i64) hcb.2))) ?_;refine zih ?_;refine zge ?_;refine exA (.c (.int .i64 ((((bF1 t ((oB t (g.1*256)).getD g.1 0) z.1):Nat):Int)))) (as_i ((congrArg (fun i=>(t.next.getD ((oB t (g.1*256)).getD g.1 0) []).getD i 0) (by omega)).trans hx.2)) ?_;refine zih ?_;refine q_n K54 ?_;refine srR g0_ok fun _ K56=>?_
        iterate 3 refine z16 ?_
        refine z5k ?_;refine exA (.c (.int .i64 (z.2.2.1.getD (bF1 t ((oB t (g.1*256)).getD g.1 0) z.1) 0))) (as_i (congrArg (fun i=>z.2.2.1.getD i 0) (by omega))) ?_;refine z16 ?_;refine s_n K56 ?_;refine z09 (b:=_) rfl (fun h_t81=>?_) (fun h_t81=>?_)
        ·try simp only[dQ,reduceIte]at h_t81
         refine srR g0_ok fun _ K58=>?_
         iterate 6 refine z16 ?_
         refine z5k ?_;refine exA (.c (.u8 (UInt8.ofNat z.1))) (as_eq (congrArg (fun v=>SV.c (Cell.u8 v)) (zcx _))) ?_;refine z16 ?_;refine zgd ?_;refine z16 ?_;refine zgd ?_;refine s_n K58 ?_;refine z06 g0_ok fun _ K59=>?_
         iterate 3 refine z16 ?_
         refine z5k ?_;intro cap3 hcap3;refine exI ?_;refine z16 ?_;refine s_n K59 ?_;refine z0a ?_;apply K50;refine z06 g0_ok fun _ K60=>?_
         iterate 2 refine z16 ?_
         refine s_n K60 ?_
         have hnin:(bF1 t ((oB t (g.1*256)).getD g.1 0) z.1)∉(oB t (g.1*256+z.1)):=fun hx=>by
          have:=hzf.inn _ hx
          omega
         have hmo:=hzf.more hok hb256 hiz (by rw[hgz];exact hnin)
         rw[hgz]at hmo
         have hst:(oB t (g.1*256+(z.1+1)))=(oB t (g.1*256+z.1))++[(bF1 t ((oB t (g.1*256)).getD g.1 0) z.1)]:=by
          have:=zej hb256 hiz
          rw[hgz,addG,if_neg hnin]at this;exact this
         have hX2:natsI (oB t (g.1*256+z.1))++([]++[(((bF1 t ((oB t (g.1*256)).getD g.1 0) z.1):Nat):Int)])=natsI (oB t (g.1*256+(z.1+1))):=by rw[hst,List.nil_append,z2r]
         have hL0:(oB t (g.1*256+z.1)).length+1=(oB t (g.1*256+(z.1+1))).length:=by rw[hst,List.length_append];rfl
         have hX5:z.2.2.1.set (0+(((bF1 t ((oB t (g.1*256)).getD g.1 0) z.1):Nat):Int).toNat*1) ((((oB t (g.1*256)).getD g.1 0):Nat):Int)=z.2.2.1.set (bF1 t ((oB t (g.1*256)).getD g.1 0) z.1) ((((oB t (g.1*256)).getD g.1 0):Nat):Int):=by congr 1;omega
         have hX6:z.2.2.2.set (0+(((bF1 t ((oB t (g.1*256)).getD g.1 0) z.1):Nat):Int).toNat*1) (UInt8.ofNat z.1)=z.2.2.2.set (bF1 t ((oB t (g.1*256)).getD g.1 0) z.1) (UInt8.ofNat z.1):=by congr 1;omega
         refine dnS [] (fun i=>if i=2 then 4 else i) (z.1+1,cap3,z.2.2.1.set (bF1 t ((oB t (g.1*256)).getD g.1 0) z.1) ((((oB t (g.1*256)).getD g.1 0):Nat):Int),z.2.2.2.set (bF1 t ((oB t (g.1*256)).getD g.1 0) z.1) (UInt8.ofNat z.1)) ⟨⟨by show z.1+1≤256;omega,(by show(oB t (g.1*256+(z.1+1))).length≤cap3;omega),hmo⟩,by show 256 - (z.1+1)< _;omega⟩ [0,1,4] ?_ ?_ ?_ ?_
         ·exact z1n
         ·exact z1n
         ·exact z1n
         ·exact z1n
        ·try simp only[dQ,reduceIte]at h_t81
         refine z0b ?_;refine z0a ?_;apply K50;refine z06 g0_ok fun _ K61=>?_
         iterate 2 refine z16 ?_
         refine s_n K61 ?_
         have hin:(bF1 t ((oB t (g.1*256)).getD g.1 0) z.1)∈(oB t (g.1*256+z.1)):=Classical.byContradiction fun hx=>by
          have:=hzf.out _ htl hx
          omega
         have hst:(oB t (g.1*256+(z.1+1)))=(oB t (g.1*256+z.1)):=by
          have:=zej hb256 hiz
          rw[hgz,addG,if_pos hin]at this;exact this
         have hsm:=hzf.same hb256 hiz (by rw[hgz];exact hin)
         rw[←hst];refine dnS [] id (z.1+1,z.2.1,z.2.2.1,z.2.2.2) ⟨⟨by show z.1+1≤256;omega,(by rw[hst];exact hz4),hsm⟩,by show 256 - (z.1+1)< _;omega⟩ [0,1,2] ?_ ?_ ?_ ?_
         ·exact z1n
         ·exact z1n
         ·exact z1n
         ·exact z1n
       ·try simp only[dQ,reduceIte]at h_t64
        refine z0o ?_;refine z01 ?_;refine z01 ?_;refine z0j ?_;refine z0a ?_;apply K28;refine z06 g0_ok fun _ K62=>?_
        iterate 3 refine z16 ?_
        refine s_n K62 ?_
        have hze:z.1=256:=by omega
        have hpe:g.1*256+z.1=(g.1+1)*256:=by omega
        rw[hpe];rw[hpe]at hz4 hzf
        have hlen2:(oB t (g.1*256)).length≤(oB t ((g.1+1)*256)).length:=z1p (by omega)
        have hah:∀ j,j< g.1+1→j< (oB t (j*256)).length:=fun j hj=>by
         rcases Nat.lt_or_ge j g.1 with h1|h1
         ·exact hga j h1
         ·obtain rfl:j=g.1:=by omega
          exact hi
        have hna2:∀ j,j< g.1+1→t.acc.getD ((oB t ((g.1+1)*256)).getD j 0) false=false:=fun j hj=>by
         have hjl:j< (oB t (g.1*256)).length:=Nat.lt_of_le_of_lt (by omega) hi
         have e:(oB t ((g.1+1)*256)).getD j 0=(oB t (g.1*256)).getD j 0:=z6b (by omega) hjl
         rw[e]
         rcases Nat.lt_or_ge j g.1 with h1|h1
         ·exact hna j h1
         ·obtain rfl:j=g.1:=by omega
          simpa using h_t47
        refine dnS [] id (g.1+1,z.2.1,z.2.2.1,z.2.2.2) ⟨⟨by show g.1+1≤_;omega,hah,(by show g.1+1≤(oB t ((g.1+1)*256)).length;omega),hz4,hzf,hna2⟩,by show _ - (g.1+1)< _;omega⟩ [0,1,2] ?_ ?_ ?_ ?_
        ·exact z1n
        ·exact z1n
        ·exact z1n
        ·exact z1n
    ·try simp only[dQ,reduceIte]at h_t36
     refine z0o ?_;refine z01 ?_;refine z01 ?_;refine z0j ?_;apply K22;refine srR g0_ok fun _ K64=>?_
     iterate 2 refine z16 ?_
     refine s_n K64 ?_;rw[zzi hga (by omega) hna];refine z0g (z0k g0_ok (fun _ _ h=>h) (z6q _) [] [.tmp 2,.tmp 3] rfl ?_)
     all_goals exact z1n


end Go.Proofs.YtppmnaoollkboaaDoor
