/- The law AtomTerms. -/
import Derived.Test.YtegdcifghaldoaaDoorTk
import Derived.Test.YtegdcifghaldoaaDoorTj
import Derived.Test.YtegdcifghaldoaaDoorTh
set_option maxHeartbeats 4000000
set_option maxRecDepth 4000
namespace Go.Proofs.YtegdcifghaldoaaDoor
set_option linter.all false
open Go.Ab Go.RowKit

section
variable {a b:Prop}
theorem qCt0(h:a:=by first|exact vcA|(simp[hrl]<;>omega)|exact Nat.le_of_ble_eq_true rfl|exact(by decide:List.Nodup [0])|(refine⟨by omega,by omega,?_⟩;exact z01.solid (itmR.dat _))|exact z4m.mpr ⟨by omega,by omega⟩|exact⟨by omega,by omega⟩|(simp only[z2v];rw[hrl];omega)|(show(z0o _ _).length=_;rw[hrl])|(show _< (z0o _ _).length;rw[z10 itmR (fun _ _=>trivial)];omega)|(show _≤(z0o _ _).length;rw[z10 itmR (fun _ _=>trivial)];omega)|(show _< (lists _).length;rw[z1x];omega)|exact z01.solid (itmR.dat _)|exact⟨z01.solid (itmR.dat _),trivial⟩|exact vcB):a:=h
theorem uCt_0(h:a:=by
    repeat' (first|exact zdf itmR|exact z8f itmR _|exact z01.to (z0f _)|exact trivial|refine aI ?_ ?_|exact cC0|refine low_cons' ?_ ?_|exact cC1|fail)
    all_goals first|omega|(show 0+_*2≤(z0o _ _).length;rw[hrl];omega)|(show(_:Cont)=_;rw[if_pos ⟨rfl,by show(z0o _ _).length=_*2;rw[hrl]⟩];done)|(refine zdg (z00 itmR _) ?_;first|rfl|(rw[hsucc];first|rfl|(rw[z6y];first|rfl|(simp;done)))|(rw[hst];done))|(show(_:Nat)=_;first|(rw[hsl];done)|(rw[hL];omega)|(simp;omega))|(rw[hL];omega)|(show(_:Cont)=_;rw[if_pos ⟨rfl,by simp only[z2v];rw[hrl];first|rfl|(simp;done)⟩];first|rfl|(rw[hfin];done))|(simp only[z2v];rw[hrl];omega)|(rw[hfl2];done)|(rw[hst];done)|(simp[-List.reduceReplicate];done)|skip):a:=h
theorem DCt_0(kZ:b)(h:HidB b→a:=by intro kZ;(repeat first|refine aI qCt0 ?_|refine z0d qCt0 ?_|refine z09 qCt0 ?_|refine z0p qCt0 ?_|refine z0e ?_);exact kZ.out):a:=h ⟨kZ⟩
theorem z36(kZ:b)(h:HidB b→a:=by intro kZ;refine sX ?_;refine DCt_0 ?_;refine exI ?_;exact kZ.out):a:=h ⟨kZ⟩
theorem zd5(kZ:b)(h:HidB b→a:=by intro kZ;refine dX ?_;refine DCt_0 ?_;refine exI ?_;exact kZ.out):a:=h ⟨kZ⟩
theorem gXCt_3(kZ:b)(h:HidB b→a:=by intro kZ;refine gX ?_;refine DCt_0 ?_;refine exI ?_;exact kZ.out):a:=h ⟨kZ⟩
theorem z7z(kZ:b)(h:HidB b→a:=by intro kZ;refine dXT ?_;refine DCt_0 ?_;refine exI ?_;exact kZ.out):a:=h ⟨kZ⟩
theorem gXTCt_5(kZ:b)(h:HidB b→a:=by intro kZ;refine gXT ?_;refine DCt_0 ?_;refine exI ?_;exact kZ.out):a:=h ⟨kZ⟩
theorem z9l(kZ:b)(h:HidB b→a:=by intro kZ;refine sX ?_;refine DCt_0 ?_;exact kZ.out):a:=h ⟨kZ⟩
theorem z9m(kZ:b)(h:HidB b→a:=by intro kZ;refine dX ?_;refine DCt_0 ?_;exact kZ.out):a:=h ⟨kZ⟩
theorem gXECt_8(kZ:b)(h:HidB b→a:=by intro kZ;refine gX ?_;refine DCt_0 ?_;exact kZ.out):a:=h ⟨kZ⟩
theorem zam(kZ:b)(h:HidB b→a:=by intro kZ;refine gXT ?_;refine DCt_0 ?_;exact kZ.out):a:=h ⟨kZ⟩
theorem zc9(kZ:b)(h:HidB b→a:=by intro kZ;refine dXT ?_;refine DCt_0 ?_;exact kZ.out):a:=h ⟨kZ⟩
end
open Go.Aut
theorem vI_ok(n:Nat)(x:Itm):itmOK n (vI n x)=true:=by
 unfold vI itmOK
 split
 ·rename_i h
  have h1:0≤x.x%(n:Nat):=Int.emod_nonneg _ (by omega)
  have h2:x.x%(n:Nat)< (n:Nat):=Int.emod_lt_of_pos _ (by omega)
  simp only[ne_eq,not_true_eq_false,decide_false,Bool.and_false,Bool.not_false,Bool.and_true,Bool.and_eq_true,decide_eq_true_eq]
  omega
 ·simp only[Bool.and_eq_true,decide_eq_true_eq,Bool.not_eq_true',Bool.and_eq_false_iff,decide_eq_false_iff_not]
  omega
theorem z60(t:List Itm)(n:Nat):(z12 t n).length≤12:=by rw[z12,List.length_map,List.length_take];omega
theorem z9n(t:List Itm)(n:Nat):∀ x∈z12 t n,itmOK n x=true:=fun x hx=>by
  obtain⟨y,_,rfl⟩:=List.mem_map.1 hx;exact vI_ok n y
theorem zg5(t:List Itm)(n:Nat):z2e (z12 t n) n=true:=by
 have:=z60 t n
 rw[z2e,Bool.and_eq_true,decide_eq_true_eq,List.all_eq_true];exact⟨by omega,z9n t n⟩
theorem both_ok(t u:List Itm)(n:Nat):z2e (z12 t n++z12 u n) n=true:=by
 have:=z60 t n
 have:=z60 u n
 rw[z2e,Bool.and_eq_true,decide_eq_true_eq,List.all_eq_true,List.length_append];refine⟨by omega,fun x hx=>?_⟩
 rcases List.mem_append.1 hx with h|h
 ·exact z9n t n x h
 ·exact z9n u n x h
theorem word_app(t u:List Itm)(s:List (List UInt8)):wordN (z12 t s.length++z12 u s.length) s=wordN (z12 t s.length) s++wordN (z12 u s.length) s:=by
  rw[←z59 (both_ok t u s.length), ←z59 (zg5 t s.length), ←z59 (zg5 u s.length),List.map_append,List.flatten_append]
theorem word_var{s:List (List UInt8)}{k:Nat}(h:k< s.length):wordN [⟨(k:Nat),0⟩] s=s.getD k []:=by
  have h1:z2e [⟨(k:Nat),0⟩] s.length=true:=by
    have h2:itmOK s.length ⟨(k:Nat),0⟩=true:=by
      unfold itmOK
      simp only[ne_eq,not_true_eq_false,decide_false,Bool.and_false,Bool.not_false,Bool.and_true,Bool.and_eq_true,decide_eq_true_eq]
      omega
    rw[z2e,Bool.and_eq_true,List.all_eq_true];exact⟨rfl,fun x hx=>by obtain rfl:=List.mem_singleton.1 hx;exact h2⟩
  rw[←z59 h1]
  simp[itmW]
theorem zkc(s:List (List UInt8)):wordN [⟨(s.length:Nat),0⟩] s=[]:=by
  have h1:z2e [⟨(s.length:Nat),0⟩] s.length=false:=by
    have h2:itmOK s.length ⟨(s.length:Nat),0⟩=false:=by
      unfold itmOK
      simp
    rw[z2e,List.all_cons,h2,Bool.false_and,Bool.and_false]
  rw[wordN,h1];rfl
theorem zg6{t:List Itm}{s:List (List UInt8)}(hs:∀ p∈s,p.length≤1048576):(wordN t s).length≤25165824:=by
  by_cases h:z2e t s.length=true
  · rw[←z59 h]
    have h1:=zhn (ps:=t.map (itmW s)) (b:=1048576) fun p hp=>by
      obtain⟨i,_,rfl⟩:=List.mem_map.1 hp;exact zho (by decide) hs i
    have h2:=zdy h
    rw[List.length_map]at h1
    omega
  · rw[wordN,if_neg h];exact Nat.zero_le _
attribute [local irreducible] wordN z12
noncomputable def ctm:Ctx:={ P:=Tryd.prog,ty:=ty,glob:=gl,fs:=[(10,.flat zph),(11,.data zka),(12,.data wordS)] }
theorem z3t:ctm.OK:=⟨tyOK,⟨⟨z07 Tryd.func10 kQf rfl,zpi⟩,⟨z07 Tryd.func11 kQf rfl,zlk⟩,⟨z07 Tryd.func12 kQf rfl,zhp⟩,trivial⟩,mixed⟩
@[simp] theorem ctm_ty:ctm.ty=ty:=rfl

def zpj:QSpec:=fun vs K=>∃ (t u:List Itm) (s:List (List UInt8)),vs=[.c (itmsX t),.c (itmsX u),.c (.ds s.length (.cells (lists s)))]∧(t.length≤1048576∧u.length≤1048576∧s.length≤1048576∧∀ p∈s,p.length≤1048576)∧K (.c (.bool true))
theorem zi7:z11 Tryd.prog gl 3 zpj:=by
 refine z0u (Γ:=ctm) (N:=95) Tryd.func3 rfl rfl fun vs K h=>?_;obtain⟨t,u,s,rfl,⟨ht,hu,hs,hp0⟩,h⟩:=h;refine⟨_,h,rfl,by simp,fun w I=>?_⟩
 have hA:=z60 t s.length
 have hB:=z60 u s.length
 refine srR z3t fun _ K2=>?_;refine z36 ?_;refine s_n K2 ?_;refine srR z3t fun _ K4=>?_
 iterate 2 refine z36 ?_
 refine s_n K4 ?_;refine srR z3t fun _ K6=>?_
 iterate 3 refine z36 ?_
 refine z9l ?_;refine⟨t,s.length,rfl,⟨ht,hs⟩,?_⟩;refine DCt_0 ?_
 first|refine exI ?_|(intro cap3 hcap3;refine exI ?_)
 refine z36 ?_;refine s_n K6 ?_;refine srR z3t fun _ K8=>?_
 iterate 3 refine z36 ?_
 refine z9l ?_;refine⟨u,s.length,rfl,⟨hu,hs⟩,?_⟩;refine DCt_0 ?_
 first|refine exI ?_|(intro cap3 hcap3;refine exI ?_)
 refine z36 ?_;refine s_n K8 ?_;refine srR z3t fun _ K10=>?_
 iterate 2 refine z36 ?_
 refine s_n K10 ?_;refine seq_k fun _ K11=>?_;refine srR z3t fun _ K13=>?_;refine z36 ?_;refine s_n K13 ?_;refine z0a ?_;refine z13 (α:=Nat×Nat) (fun k=>[(2,.c (.ds s.length (.cells (lists s)))),(7,.c (.bool true)),(8,.c (itmsX (z12 t s.length))),(9,.c (itmsX (z12 u s.length))),(10,.c (.slice 0 0 (((z12 t s.length).take k.1).map id).length k.2)),(11,.c (.int .i64 (k.1:Nat)))]) (fun k=>[(0,.own 27 (.cells (z0o itmL (((z12 t s.length).take k.1).map id))) (k.2*2))]) 1 (fun k=>k.1≤(z12 t s.length).length) (fun k=>(z12 t s.length).length - k.1) ?_ ?_
 ·refine dnS [] id (0,0) (Nat.zero_le _) [0] uCt_0 uCt_0 uCt_0 uCt_0
 ·intro k hk
  refine seq_k fun _ K14=>?_;refine srR z3t fun _ K16=>?_
  iterate 4 refine z36 ?_
  refine s_n K16 ?_;refine z06 (b:=_) rfl (fun h_t27=>?_) (fun h_t27=>?_)
  ·try simp only[dQ,reduceIte]at h_t27
   refine z0g ?_;apply K14;refine seq_k fun _ K17=>?_;refine z0a ?_
   have hkl:k.1< (z12 t s.length).length:=by omega
   obtain⟨x,hx⟩:=hasAt hkl
   have hL:(((z12 t s.length).take k.1).map id).length=k.1:=z2f (by omega)
   have hrl:=z10 itmR (l:=(((z12 t s.length).take k.1).map id)) (fun _ _=>trivial)
   have hsucc:z0o itmL (((z12 t s.length).take (k.1+1)).map id)=z0o itmL (((z12 t s.length).take k.1).map id)++itmL x:=by rw[z1m (g:=id) hx,z6y];rfl
   have hsl:(((z12 t s.length).take (k.1+1)).map id).length=(((z12 t s.length).take k.1).map id).length+1:=by rw[z1m (g:=id) hx,List.length_append];rfl
   refine z04 z3t fun _ K18=>?_
   iterate 4 refine z36 ?_
   refine z9l ?_;refine exA (.agg (.cells (itmL x))) (z31 itmR (fun _ _=>trivial) (i:=k.1) (by first|rfl|omega) rfl hx) ?_;refine z36 ?_;refine z9l ?_;intro cap6 hcap6;refine exI ?_;refine z36 ?_;refine s_n K18 ?_;refine z08 ?_;apply K17;refine z04 z3t fun _ K19=>?_
   iterate 3 refine z36 ?_
   refine s_n K19 ?_;refine dnS [] (fun _=>2) (k.1+1,cap6) ⟨(by show k.1+1≤_;omega),(by show _ - (k.1+1)< _;omega)⟩ [2] ?_ ?_ ?_ ?_
   ·exact uCt_0
   ·exact uCt_0
   ·exact uCt_0
   ·exact uCt_0
  ·try simp only[dQ,reduceIte]at h_t27
   refine z0y ?_;refine z03 ?_;refine z03 ?_;refine z0s ?_;apply K11;refine seq_k fun _ K20=>?_;refine srR z3t fun _ K22=>?_;refine z36 ?_;refine s_n K22 ?_;refine z0a ?_;refine z13 (α:=Nat×Nat) (fun k=>[(2,.c (.ds s.length (.cells (lists s)))),(7,.c (.bool true)),(8,.c (itmsX (z12 t s.length))),(9,.c (itmsX (z12 u s.length))),(10,.c (.slice 0 0 ((z12 t s.length)++((z12 u s.length).take k.1).map id).length k.2)),(12,.c (.int .i64 (k.1:Nat)))]) (fun k=>[(0,.own 27 (.cells (z0o itmL ((z12 t s.length)++((z12 u s.length).take k.1).map id))) (k.2*2))]) 1 (fun k=>k.1≤(z12 u s.length).length) (fun k=>(z12 u s.length).length - k.1) ?_ ?_
   ·have hst:(((z12 t s.length).take k.1).map id)=(z12 t s.length)++((z12 u s.length).take 0).map id:=by rw[List.take_of_length_le (by omega)];simp
    rw[hst];refine dnS [] id (0,k.2) (Nat.zero_le _) [0] uCt_0 uCt_0 uCt_0 uCt_0
   ·intro k hk
    refine seq_k fun _ K23=>?_;refine srR z3t fun _ K25=>?_
    iterate 4 refine z36 ?_
    refine s_n K25 ?_;refine z06 (b:=_) rfl (fun h_t40=>?_) (fun h_t40=>?_)
    ·try simp only[dQ,reduceIte]at h_t40
     refine z0g ?_;apply K23;refine seq_k fun _ K26=>?_;refine z0a ?_
     have hkl:k.1< (z12 u s.length).length:=by omega
     obtain⟨x,hx⟩:=hasAt hkl
     have hL:((z12 t s.length)++((z12 u s.length).take k.1).map id).length=(z12 t s.length).length+k.1:=by rw[List.length_append,z2f (by omega)]
     have hrl:=z10 itmR (l:=((z12 t s.length)++((z12 u s.length).take k.1).map id)) (fun _ _=>trivial)
     have hsucc:z0o itmL ((z12 t s.length)++((z12 u s.length).take (k.1+1)).map id)=z0o itmL ((z12 t s.length)++((z12 u s.length).take k.1).map id)++itmL x:=by rw[z1m (g:=id) hx, ←List.append_assoc,z6y];rfl
     have hsl:((z12 t s.length)++((z12 u s.length).take (k.1+1)).map id).length=((z12 t s.length)++((z12 u s.length).take k.1).map id).length+1:=by rw[z1m (g:=id) hx, ←List.append_assoc,List.length_append];rfl
     refine z04 z3t fun _ K27=>?_
     iterate 4 refine z36 ?_
     refine z9l ?_;refine exA (.agg (.cells (itmL x))) (z31 itmR (fun _ _=>trivial) (i:=k.1) (by first|rfl|omega) rfl hx) ?_;refine z36 ?_;refine z9l ?_;intro cap6 hcap6;refine exI ?_;refine z36 ?_;refine s_n K27 ?_;refine z08 ?_;apply K26;refine z04 z3t fun _ K28=>?_
     iterate 3 refine z36 ?_
     refine s_n K28 ?_;refine dnS [] (fun _=>2) (k.1+1,cap6) ⟨(by show k.1+1≤_;omega),(by show _ - (k.1+1)< _;omega)⟩ [2] ?_ ?_ ?_ ?_
     ·exact uCt_0
     ·exact uCt_0
     ·exact uCt_0
     ·exact uCt_0
    ·try simp only[dQ,reduceIte]at h_t40
     refine z0y ?_;refine z03 ?_;refine z03 ?_;refine z0s ?_;apply K20;refine seq_k fun _ K29=>?_;refine srR z3t fun _ K31=>?_;refine z36 ?_;refine s_n K31 ?_;refine z0a ?_;refine z13 (α:=Nat) (fun k=>[(2,.c (.ds s.length (.cells (lists s)))),(7,.c (.bool true)),(8,.c (itmsX (z12 t s.length))),(9,.c (itmsX (z12 u s.length))),(10,.c (itmsX ((z12 t s.length)++(z12 u s.length)))),(13,.c (.int .i64 (k:Nat)))]) (fun k=>[]) 0 (fun k=>k≤s.length) (fun k=>s.length - k) ?_ ?_
     ·have hfin:((z12 t s.length)++((z12 u s.length).take k.1).map id)=((z12 t s.length)++(z12 u s.length)):=by rw[List.take_of_length_le (by omega),List.map_id]
      rw[hfin]
      have hrl:=z10 itmR (l:=((z12 t s.length)++(z12 u s.length))) (fun _ _=>trivial)
      refine dnS [0] id 0 (Nat.zero_le _) [] uCt_0 uCt_0 uCt_0 uCt_0
     ·intro k hk
      refine seq_k fun _ K32=>?_;refine srR z3t fun _ K34=>?_
      iterate 4 refine z36 ?_
      refine s_n K34 ?_;refine z06 (b:=_) rfl (fun h_t53=>?_) (fun h_t53=>?_)
      ·try simp only[dQ,reduceIte]at h_t53
       refine z0g ?_;apply K32;refine seq_k fun _ K35=>?_;refine z0a ?_
       have hkl:k< s.length:=by omega
       refine srD z3t [(0,true),(1,true),(3,true),(6,true),(7,true),(8,true),(9,true),(10,true),(2,false),(4,false),(5,true),(11,true)] rfl kQf kQf fun _ K37=>?_;refine zd5 ?_;refine z9m ?_;refine exA (.agg (.cells (itmL ⟨(k:Nat),0⟩))) (as_eq rfl) ?_
       iterate 4 refine zd5 ?_
       refine z9m ?_;refine exA (.c (.ds (s.getD k []).length (.u8s (s.getD k [])))) (as_c (zht ⟨hkl,by omega⟩)) ?_;refine zd5 ?_;refine gXCt_3 ?_;refine gXECt_8 ?_;refine⟨[⟨(k:Nat),0⟩],s,rfl,⟨by first|omega|(rw[List.length_append];omega)|(show 1≤_;decide),by omega,fun p hp=>by have:=hp0 p hp;omega⟩,?_⟩;refine DCt_0 ?_
       first|refine exI ?_|(intro cap4 hcap4;refine exI ?_)
       refine z9m ?_;refine exA (.c (.str (s.getD k []))) (as_eq (congrArg (fun v=>SV.c (Cell.str v)) (word_var hkl))) ?_;refine z9m ?_;refine exA (.c (.bool (false))) (as_b (by simp)) ?_;refine d_n K37 ?_;refine z06 (b:=_) rfl (fun h_t67=>?_) (fun _=>?_)
       ·exfalso;cases h_t67
       refine z0g ?_;refine z08 ?_;apply K35;refine z04 z3t fun _ K38=>?_
       iterate 3 refine z36 ?_
       refine s_n K38 ?_;refine dnS [] id (k+1) ⟨by omega,by omega⟩ [] uCt_0 uCt_0 uCt_0 uCt_0
      ·try simp only[dQ,reduceIte]at h_t53
       refine z0y ?_;refine z03 ?_;refine z03 ?_;refine z0s ?_;apply K29
       have hw1:=zg6 (t:=(z12 t s.length)) hp0
       have hw2:=zg6 (t:=(z12 u s.length)) hp0
       refine srD z3t [(0,true),(1,true),(2,true),(3,true),(6,true),(7,true),(10,true),(11,true),(4,false),(5,true),(8,false),(9,true),(12,false),(13,true),(14,true),(15,true),(16,true),(17,true),(18,true),(19,true),(20,true),(22,true),(21,false),(23,false),(24,true),(25,true),(26,true),(27,true)] rfl kQf kQf fun _ K40=>?_;refine zd5 ?_;refine z9m ?_;refine exB (fun hb1=>?_) (fun hb1=>?_)
       rotate_left 1
       ·exfalso;first|exact absurd hb1 (by decide)|exact hb1 rfl|(simp at hb1;done)|omega
       iterate 6 refine z7z ?_
       refine zam ?_;refine⟨((z12 t s.length)++(z12 u s.length)),s,rfl,⟨by first|omega|(rw[List.length_append];omega)|(show 1≤_;decide),by omega,fun p hp=>by have:=hp0 p hp;omega⟩,?_⟩;refine DCt_0 ?_
       first|refine exI ?_|(intro cap4 hcap4;refine exI ?_)
       refine z7z ?_;refine zam ?_;refine⟨(z12 t s.length),s,rfl,⟨by first|omega|(rw[List.length_append];omega)|(show 1≤_;decide),by omega,fun p hp=>by have:=hp0 p hp;omega⟩,?_⟩;refine DCt_0 ?_
       first|refine exI ?_|(intro cap8 hcap8;refine exI ?_)
       refine z7z ?_;refine zam ?_;refine⟨(z12 u s.length),s,rfl,⟨by first|omega|(rw[List.length_append];omega)|(show 1≤_;decide),by omega,fun p hp=>by have:=hp0 p hp;omega⟩,?_⟩;refine DCt_0 ?_
       first|refine exI ?_|(intro cap12 hcap12;refine exI ?_)
       iterate 2 refine z7z ?_
       refine zc9 ?_;refine exA (.c (.bool (true))) (as_b (by rw[word_app];simp)) ?_;refine zd5 ?_;refine z9m ?_;refine exB (fun hb17=>?_) (fun hb17=>?_)
       rotate_left 1
       ·exfalso;first|exact absurd hb17 (by decide)|exact hb17 rfl|(simp at hb17;done)|omega
       iterate 2 refine z7z ?_
       refine zc9 ?_;refine exA (.agg (.cells (itmL ⟨(s.length:Nat),0⟩))) (as_eq rfl) ?_;refine z7z ?_;refine gXTCt_5 ?_;refine zam ?_;refine⟨[⟨(s.length:Nat),0⟩],s,rfl,⟨by first|omega|(rw[List.length_append];omega)|(show 1≤_;decide),by omega,fun p hp=>by have:=hp0 p hp;omega⟩,?_⟩;refine DCt_0 ?_
       first|refine exA (.c (.ds 0 (.u8s []))) (as_eq (by rw[zkc];rfl)) ?_|(intro cap23 hcap23;refine exA (.c (.ds 0 (.u8s []))) (as_eq (by rw[zkc];rfl)) ?_)
       refine z7z ?_;refine zc9 ?_;refine exA (.c (.bool (true))) (as_b (by simp)) ?_
       iterate 2 refine zd5 ?_
       refine d_n K40 ?_;refine z0b (z02 z3t (fun _ _ h=>h) (by first|rfl|assumption) [.tmp 6] rfl ?_);refine rtD ?_
       rfl


end Go.Proofs.YtegdcifghaldoaaDoor
