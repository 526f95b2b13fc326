/- Contracts of functions and plain facts, part 10. -/
import Derived.Test.YtegdcifghaldoaaDoorSf
import Derived.Test.YtegdcifghaldoaaDoorSg
import Derived.Test.YtegdcifghaldoaaDoorSh
set_option maxHeartbeats 8000000
namespace Go.Proofs.YtegdcifghaldoaaDoor
set_option linter.all false
open Go.Ab Go.RowKit

section
variable {a b:Prop}
theorem qBv1(h:a:=by first|exact vcA|(simp<;>omega)|exact⟨by omega,by omega,by omega⟩|(simp<;>omega)|exact vcB):a:=h
theorem qBv2(h:a:=by first|exact vcA|(simp[hrl]<;>omega)|(refine⟨by omega,by omega,?_⟩;exact pl2 rfl rfl)|exact z34.mpr ⟨by omega,by omega⟩|exact⟨by omega,by omega,z00.solid (itmR.dat _)⟩|(simp only[z1l];rw[hrl];omega)|(show(z0n _ _).length=_;rw[hrl])|rfl|exact vcB):a:=h
theorem qBv3(h:a:=by first|exact vcA|(simp<;>omega)|exact⟨by omega,by omega⟩|exact⟨by omega,by omega,by decide⟩|exact vcB):a:=h
theorem uBv_0(h:a:=by
    repeat' (first|exact z8p itmR|exact z00.to (z0b _)|exact z00.low (z0b _)|exact z00.to (z0e _)|exact z00.low (z0e _)|exact z00.to (z0c _)|exact z00.low (z0c _)|exact z00.to (z06 _)|exact z00.low (z06 _)|exact z00.to (z0m _)|exact z00.low (z0m _)|exact z00.to (z0d _)|exact z00.low (z0d _)|exact z00.to (z0f _ _)|exact z00.low (z0f _ _)|exact z00.to (z01 itmR _)|exact z00.low (z01 itmR _)|exact z00.to (z01 movR _)|exact z00.low (z01 movR _)|exact z00.to (z01 pceR _)|exact z00.low (z01 pceR _)|exact z00.to (z01 fndR _)|exact z00.low (z01 fndR _)|exact z00.to (z01 atmR _)|exact z00.low (z01 atmR _)|exact z00.to (z01 litR _)|exact z00.low (z01 litR _)|exact z00.to (z01 mdlR _)|exact z00.low (z01 mdlR _)|exact z0t (z0k z0p z05)|exact z0o (z0k z0p z05)|exact z0t z05|exact z0o z05|exact trivial|refine aI ?_ ?_|exact cC0|refine low_cons' ?_ ?_|exact cC1|fail)
    all_goals first|omega|(refine z7j (z01 itmR _) ?_;rw[hsucc,z60];first|rfl|(simp;done))|(rw[hsucc];simp;done)|(show _=(madeK _ _ _).length;rw[ze3 (by omega)];omega)|(simp[ze3, *];done)|exact Nat.le_refl _|(show allTo _ _ _;exact z00.to (z01 itmR _))|(simp[madeK];done)|(simp[-List.reduceReplicate];done)|(simp[-List.reduceReplicate]<;>omega)|skip):a:=h
theorem uBv_1(h:a:=by
    repeat' (first|exact z4a itmR _|exact z00.to (z0b _)|exact z00.low (z0b _)|exact z00.to (z0e _)|exact z00.low (z0e _)|exact z00.to (z0c _)|exact z00.low (z0c _)|exact z00.to (z06 _)|exact z00.low (z06 _)|exact z00.to (z0m _)|exact z00.low (z0m _)|exact z00.to (z0d _)|exact z00.low (z0d _)|exact z00.to (z0f _ _)|exact z00.low (z0f _ _)|exact z00.to (z01 itmR _)|exact z00.low (z01 itmR _)|exact z00.to (z01 movR _)|exact z00.low (z01 movR _)|exact z00.to (z01 pceR _)|exact z00.low (z01 pceR _)|exact z00.to (z01 fndR _)|exact z00.low (z01 fndR _)|exact z00.to (z01 atmR _)|exact z00.low (z01 atmR _)|exact z00.to (z01 litR _)|exact z00.low (z01 litR _)|exact z00.to (z01 mdlR _)|exact z00.low (z01 mdlR _)|exact z0t (z0k z0p z05)|exact z0o (z0k z0p z05)|exact z0t z05|exact z0o z05|exact trivial|refine aI ?_ ?_|exact cC0|refine low_cons' ?_ ?_|exact cC1|fail)
    all_goals first|omega|(simp[hrl];done)|(rw[if_pos ⟨rfl,by simp[hrl]⟩];done)|(show(_:Cont)=_;rw[if_pos ⟨rfl,by simp only[z1l];rw[hrl];rfl⟩];done)|(simp only[z1l];rw[hrl];exact Nat.le_of_eq (by simp))|(simp[-List.reduceReplicate];done)|(simp[-List.reduceReplicate]<;>omega)|skip):a:=h
theorem DBv_2(kZ:b)(h:HidB b→a:=by intro kZ;(repeat first|refine aI qBv1 ?_|refine z0h qBv1 ?_|refine z0a qBv1 ?_|refine z0q qBv1 ?_|refine z0i ?_);exact kZ.out):a:=h ⟨kZ⟩
theorem znh(kZ:b)(h:HidB b→a:=by intro kZ;refine sX ?_;refine DBv_2 ?_;refine exI ?_;exact kZ.out):a:=h ⟨kZ⟩
theorem DBv_4(kZ:b)(h:HidB b→a:=by intro kZ;(repeat first|refine aI qBv2 ?_|refine z0h qBv2 ?_|refine z0a qBv2 ?_|refine z0q qBv2 ?_|refine z0i ?_);exact kZ.out):a:=h ⟨kZ⟩
theorem z46(kZ:b)(h:HidB b→a:=by intro kZ;refine sX ?_;refine DBv_4 ?_;refine exI ?_;exact kZ.out):a:=h ⟨kZ⟩
theorem sXTBv_6(kZ:b)(h:HidB b→a:=by intro kZ;refine sXT ?_;refine DBv_4 ?_;refine exI ?_;exact kZ.out):a:=h ⟨kZ⟩
theorem DBv_7(kZ:b)(h:HidB b→a:=by intro kZ;(repeat first|refine aI qBv3 ?_|refine z0h qBv3 ?_|refine z0a qBv3 ?_|refine z0q qBv3 ?_|refine z0i ?_);exact kZ.out):a:=h ⟨kZ⟩
theorem sXBv_8(kZ:b)(h:HidB b→a:=by intro kZ;refine sX ?_;refine DBv_7 ?_;refine exI ?_;exact kZ.out):a:=h ⟨kZ⟩
theorem sX0Bv_9(kZ:b)(h:HidB b→a:=by intro kZ;refine sX0 ?_;refine DBv_7 ?_;refine exI ?_;exact kZ.out):a:=h ⟨kZ⟩
theorem zgg(kZ:b)(h:HidB b→a:=by intro kZ;refine sX ?_;refine DBv_2 ?_;exact kZ.out):a:=h ⟨kZ⟩
theorem z7r(kZ:b)(h:HidB b→a:=by intro kZ;refine sX ?_;refine DBv_4 ?_;exact kZ.out):a:=h ⟨kZ⟩
theorem sXEBv_19(kZ:b)(h:HidB b→a:=by intro kZ;refine sX ?_;refine DBv_7 ?_;exact kZ.out):a:=h ⟨kZ⟩
end
open Go.Aut
def partL(l:List UInt8)(a b:Nat):List UInt8:=(l.drop a).take (b - a)
theorem part_min(l:List UInt8)(a b:Nat)(h:a≤b∨l.length≤b):(l.drop (min a l.length)).take (min b l.length - min a l.length)=partL l a b:=by
  unfold partL
  rcases Nat.le_total l.length a with h1|h1
  · rw[List.drop_of_length_le (by omega),List.drop_of_length_le h1];simp
  · rw[Nat.min_eq_left h1]
    rcases Nat.le_total b l.length with h2|h2
    · rw[Nat.min_eq_left h2]
    · rw[Nat.min_eq_right h2,List.take_of_length_le (by simp),List.take_of_length_le (by simp;omega)]
def mkI(vars:Nat)(b:UInt8):Itm:=if b.toNat%(vars+2)< vars then⟨(b.toNat%(vars+2):Nat),0⟩ else⟨-1,UInt8.ofInt (97+((b.toNat%(vars+2):Nat):Int) - (vars:Nat))⟩
def madeT(l:List UInt8)(vars most:Nat):List Itm:=(l.take most).map (mkI vars)
def madeK(l:List UInt8)(vars k:Nat):List Itm:=(l.take k).map (mkI vars)
theorem zf3{l:List UInt8}{vars k:Nat}{x:UInt8}(hx:l[k]? =some x):madeK l vars (k+1)=madeK l vars k++[mkI vars x]:=by
  rw[madeK,madeK,List.take_add_one,hx];simp
theorem ze3{l:List UInt8}{vars k:Nat}(h:k≤l.length):(madeK l vars k).length=k:=by simp[madeK];omega
def ruleK(k:Nat):Rul:=⟨16,1+((k%2:Nat):Int),11+((k / 2%2:Nat):Int),((k / 4%3:Nat):Int),false⟩
def atBS:QSpec:=fun vs K=>∃ (l:List UInt8) (i:Nat),vs=[.c (.ds l.length (.u8s l)),.c (.int .i64 (i:Int))]∧l.length≤9223372036854775807∧K (.c (.int .i64 (((l.getD i 0).toNat:Nat):Int)))
theorem zni:z12 Tryd.prog gl 35 atBS:=by
 refine z0x (Γ:=g0) (N:=14) Tryd.func35 rfl rfl fun vs K h=>?_;obtain⟨l,i,rfl,hl,h⟩:=h;refine⟨_,h,rfl,by simp,fun w I=>?_⟩;refine srR g0_ok fun _ K2=>?_;refine zr1 ?_;refine s_n K2 ?_;refine seq_k fun _ K3=>?_;refine srR g0_ok fun _ K5=>?_
 iterate 4 refine zr1 ?_
 refine s_n K5 ?_;refine z08 (b:=_) rfl (fun h_t8=>?_) (fun h_t8=>?_)
 ·try simp only[dQ,reduceIte]at h_t8
  refine srR g0_ok fun _ K7=>?_
  iterate 3 refine zr1 ?_
  refine sXEUf_4 ?_;refine exA (.c (.u8 (l.getD i 0))) (as_eq (congrArg (fun v=>SV.c (Cell.u8 v)) (congrArg (fun i=>l.getD i 0) (by omega)))) ?_
  iterate 2 refine zr1 ?_
  refine s_n K7 ?_;refine z0j (z03 g0_ok (fun _ _ h=>h) (by first|rfl|assumption) [.tmp 4] rfl ?_);refine rtD ?_
  rfl
 ·try simp only[dQ,reduceIte]at h_t8
  refine z0l ?_;apply K3;refine srR g0_ok fun _ K9=>?_;refine zr1 ?_;refine s_n K9 ?_;refine z0j (z03 g0_ok (fun _ _ h=>h) (by first|rfl|assumption) [.tmp 4] rfl ?_);refine rtD ?_
  show SV.c (.int .i64 0)=_
  rw[List.getD_eq_getElem?_getD,List.getElem?_eq_none (by omega)];rfl

def partBS:QSpec:=fun vs K=>∃ (l:List UInt8) (a b:Nat),vs=[.c (.ds l.length (.u8s l)),.c (.int .i64 (a:Int)),.c (.int .i64 (b:Int))]∧(l.length≤9223372036854775807∧(a≤b∨l.length≤b)∧b≤9223372036854775807)∧K (.c (.ds (partL l a b).length (.u8s (partL l a b))))
theorem partB_ok:z2s Tryd.prog gl 54 partBS:=by
 refine z2b (Γ:=g0) (N:=17) Tryd.func54 rfl rfl fun vs K h=>?_;obtain⟨l,a,b,rfl,⟨hl,hab,hb⟩,h⟩:=h;refine⟨_,h,trivial,by simp,fun w I=>?_⟩;refine srR g0_ok fun _ K2=>?_;refine znh ?_;refine s_n K2 ?_;refine srR g0_ok fun _ K4=>?_
 iterate 4 refine znh ?_
 refine zgg ?_;refine exA (.c (.int .i64 ((min a l.length:Nat):Int))) (as_i (by split<;>omega)) ?_
 iterate 3 refine znh ?_
 refine zgg ?_;refine exA (.c (.int .i64 ((min b l.length:Nat):Int))) (as_i (by split<;>omega)) ?_;refine zgg ?_;refine exA (.c (.ds (partL l a b).length (.u8s (partL l a b)))) (as_eq (by rw[←part_min l a b hab];simp only[List.length_take,List.length_drop];congr 2<;>first|omega|(simp[Cont.sub,Cont.drop,Cont.take];done)|(simp[Cont.sub,Cont.drop,Cont.take];congr<;>omega))) ?_;refine znh ?_;refine s_n K4 ?_;refine z0j (z13 g0_ok (fun _ _ h=>h) (by trivial) [] [.tmp 6] rfl ?_)
 repeat' (first|exact trivial|refine aI ?_ ?_|exact cC0|refine low_cons' ?_ ?_|exact cC1|fail)

def madeTS:QSpec:=fun vs K=>∃ (l:List UInt8) (vars most:Nat),vs=[.c (.ds l.length (.u8s l)),.c (.int .i64 (vars:Int)),.c (.int .i64 (most:Int))]∧(l.length≤1099511627776∧vars≤12∧most≤1048576)∧K (.c (itmsX (madeT l vars most)))
theorem madeT_ok:z2s Tryd.prog gl 53 madeTS:=by
 refine z2b (Γ:=g0) (N:=48) Tryd.func53 rfl rfl fun vs K h=>?_;obtain⟨l,vars,most,rfl,⟨hl,hv,hm⟩,h⟩:=h;refine⟨_,h,trivial,by simp,fun w I=>?_⟩;refine srR g0_ok fun _ K2=>?_;refine z46 ?_;refine s_n K2 ?_;refine srR g0_ok fun _ K4=>?_
 iterate 2 refine z46 ?_
 refine s_n K4 ?_;refine seq_k fun _ K5=>?_;refine srR g0_ok fun _ K7=>?_;refine z46 ?_;refine s_n K7 ?_;refine z0g ?_;refine z10 (α:=Nat×Nat) (fun k=>[(0,.c (.ds l.length (.u8s l))),(1,.c (.int .i64 (vars:Nat))),(2,.c (.int .i64 (most:Nat))),(7,.c (.slice 0 0 (madeK l vars k.1).length k.2)),(8,.c (.int .i64 (k.1:Nat)))]) (fun k=>[(0,.own 27 (.cells (z0n itmL (madeK l vars k.1))) (k.2*2))]) 1 (fun k=>k.1≤l.length∧k.1≤most) (fun k=>l.length - k.1) ?_ ?_
 ·refine dnS [] id (0,0) ⟨Nat.zero_le _,Nat.zero_le _⟩ [0] uBv_0 uBv_0 uBv_0 uBv_0
 ·intro k hk
  refine seq_k fun _ K8=>?_;refine srR g0_ok fun _ K10=>?_
  iterate 4 refine z46 ?_
  refine z7r ?_;refine exB (fun hb4=>?_) (fun hb4=>?_)
  ·try simp only[dQ,reduceIte]at hb4
   iterate 3 refine sXTBv_6 ?_
   refine z46 ?_;refine s_n K10 ?_;refine z08 (b:=_) rfl (fun h_t19=>?_) (fun h_t19=>?_)
   ·try simp only[dQ,reduceIte]at h_t19
    refine z0l ?_;apply K8;refine seq_k fun _ K11=>?_;refine z0g ?_
    have hkl:k.1< l.length:=by omega
    obtain⟨x,hx⟩:=hasAt hkl
    have hkL:=ze3 (vars:=vars) (Nat.le_of_lt hkl)
    have hrl:=z0u itmR (l:=madeK l vars k.1) (fun _ _=>trivial)
    have hxb:=x.toNat_lt
    have hmd:=Nat.mod_lt x.toNat (show 0< vars+2 by omega)
    refine srR g0_ok fun _ K13=>?_
    iterate 3 refine z46 ?_
    refine z7r ?_;refine exA (.c (.u8 x)) (as_eq (congrArg (fun v=>SV.c (Cell.u8 v)) (by rw[List.getD_eq_getElem?_getD,show((k.1:Int).toNat*1)=k.1 by omega,hx];rfl))) ?_
    iterate 3 refine z46 ?_
    refine z7r ?_;refine exA (.c (.int .i64 ((x.toNat%(vars+2):Nat):Int))) (as_i (by push_cast;rfl)) ?_;refine z46 ?_;refine s_n K13 ?_;refine srR g0_ok fun _ K15=>?_
    iterate 3 refine z46 ?_
    refine s_n K15 ?_;refine z08 (b:=_) rfl (fun h_t32=>?_) (fun h_t32=>?_)
    ·try simp only[dQ,reduceIte]at h_t32
     have hmk:mkI vars x=⟨((x.toNat%(vars+2):Nat):Int),0⟩:=by rw[mkI,if_pos (by omega)]
     refine z04 g0_ok fun _ K16=>?_
     iterate 2 refine z46 ?_
     refine z7r ?_;refine exA (.agg (.cells (itmL (mkI vars x)))) (as_eq (by rw[hmk];rfl)) ?_;refine z46 ?_;refine z7r ?_;intro cap4 hcap4;refine exI ?_;refine z46 ?_;refine s_n K16 ?_;refine z07 ?_;apply K11;refine z04 g0_ok fun _ K17=>?_
     iterate 3 refine z46 ?_
     refine s_n K17 ?_
     have hsucc:=zf3 (vars:=vars) hx
     refine dnS [] (fun _=>2) (k.1+1,cap4) ⟨⟨by omega,by omega⟩,by omega⟩ [2] uBv_0 uBv_0 uBv_0 uBv_0
    ·try simp only[dQ,reduceIte]at h_t32
     have hmk:mkI vars x=⟨-1,UInt8.ofInt (97+((x.toNat%(vars+2):Nat):Int) - (vars:Nat))⟩:=by rw[mkI,if_neg (by omega)]
     refine z04 g0_ok fun _ K18=>?_
     iterate 6 refine z46 ?_
     refine z7r ?_;refine exA (.agg (.cells (itmL (mkI vars x)))) (as_eq (by rw[hmk];rfl)) ?_;refine z46 ?_;refine z7r ?_;intro cap8 hcap8;refine exI ?_;refine z46 ?_;refine s_n K18 ?_;refine z07 ?_;apply K11;refine z04 g0_ok fun _ K19=>?_
     iterate 3 refine z46 ?_
     refine s_n K19 ?_
     have hsucc:=zf3 (vars:=vars) hx
     refine dnS [] (fun _=>2) (k.1+1,cap8) ⟨⟨by omega,by omega⟩,by omega⟩ [2] uBv_0 uBv_0 uBv_0 uBv_0
   ·try simp only[dQ,reduceIte]at h_t19
    refine z0v ?_;refine z02 ?_;refine z02 ?_;refine z0s ?_;apply K5;refine srR g0_ok fun _ K21=>?_
    iterate 2 refine z46 ?_
    refine s_n K21 ?_
    have hfin:madeK l vars k.1=madeT l vars most:=by
     unfold madeK madeT
     rcases Nat.lt_or_ge k.1 l.length with h1|h1
     ·rw[show k.1=most by omega]
     ·rw[List.take_of_length_le h1,List.take_of_length_le (by omega)]
    rw[hfin]
    have hrl:=z0u itmR (l:=madeT l vars most) (fun _ _=>trivial)
    refine z0j (z13 g0_ok (fun _ _ h=>h) (trivial) [0] [.tmp 6] rfl ?_)
    all_goals exact uBv_1
  ·try simp only[dQ,reduceIte]at hb4
   iterate 3 refine sN ?_
   refine z46 ?_;refine s_n K10 ?_;refine z08 (b:=_) rfl (fun h_t19=>?_) (fun _=>?_)
   ·exfalso;simp at h_t19
   refine z0v ?_;refine z02 ?_;refine z02 ?_;refine z0s ?_;apply K5;refine srR g0_ok fun _ K23=>?_
   iterate 2 refine z46 ?_
   refine s_n K23 ?_
   have hfin:madeK l vars k.1=madeT l vars most:=by
    unfold madeK madeT
    rcases Nat.lt_or_ge k.1 l.length with h1|h1
    ·rw[show k.1=most by omega]
    ·rw[List.take_of_length_le h1,List.take_of_length_le (by omega)]
   rw[hfin]
   have hrl:=z0u itmR (l:=madeT l vars most) (fun _ _=>trivial)
   refine z0j (z13 g0_ok (fun _ _ h=>h) (trivial) [0] [.tmp 6] rfl ?_)
   all_goals exact uBv_1

def ruleKS:QSpec:=fun vs K=>∃ k:Nat,vs=[.c (.int .i64 (k:Int))]∧k≤1048576∧K (rulV (ruleK k))
theorem ruleK_ok:z12 Tryd.prog gl 57 ruleKS:=by
 refine z0x (Γ:=g0) (N:=14) Tryd.func57 rfl rfl fun vs K h=>?_;obtain⟨k,rfl,hk,h⟩:=h;refine⟨_,h,rfl,by simp,fun w I=>?_⟩;refine srR g0_ok fun _ K2=>?_;refine sXBv_8 ?_;refine s_n K2 ?_;refine srR g0_ok fun _ K4=>?_
 iterate 10 refine sXBv_8 ?_
 refine sXEBv_19 ?_;refine exA (.agg (rulC (ruleK k))) (as_eq (congrArg (fun v=>SV.agg v) (show Cont.cells [Cell.int .i64 16,_,_,_,_]=_ from by unfold ruleK rulC;rfl))) ?_;refine sX0Bv_9 ?_;refine s_n K4 ?_;refine z0j (z03 g0_ok (fun _ _ h=>h) (by first|rfl|assumption) [.cell 2 72] rfl ?_);refine rtD ?_
 rfl

theorem zsz{l:List (List UInt8)}{i j:Nat}{x:List UInt8}(h:l[i]? =some x)(hj:j=i):(Cont.cells (lists l)).get j= .ds x.length (.u8s x):=by
  have hi:i< l.length:=(List.getElem?_eq_some_iff.1 h).1
  rw[hj,z55 hi,List.getD_eq_getElem?_getD,h];rfl
end Go.Proofs.YtegdcifghaldoaaDoor

namespace Go.Proofs.YtegdcifghaldoaaDoor
set_option linter.all false
open Go.Ab Go.RowKit

section
variable {a b:Prop}
theorem qBw0(h:a:=by first|exact vcA|(simp[hrl]<;>omega)|exact Nat.le_of_ble_eq_true rfl|(refine⟨by omega,by omega,?_⟩;exact z00.solid (itmR.dat _))|exact z34.mpr ⟨by omega,by omega⟩|exact⟨by omega,by omega⟩|(refine⟨by omega,by omega,?_⟩;exact pl2 rfl rfl)|(simp only[z1l];rw[hrl];omega)|(show(z0n _ _).length=_;rw[hrl])|(show _< (z0n _ _).length;first|(rw[z0u itmR (fun _ _=>trivial)];omega)|(rw[z0u fndR (fun _ _=>trivial)];omega))|(show _≤(z0n _ _).length;first|(rw[z0u itmR (fun _ _=>trivial)];omega)|(rw[z0u fndR (fun _ _=>trivial)];omega))|rfl|exact vcB):a:=h
theorem qBw1(h:a:=by rw[List.getD_eq_getElem?_getD,show(k.1:Int).toNat=k.1 by omega,hx];rfl):a:=h
theorem uBw_0(h:a:=by
    repeat' (first|exact z8p itmR|exact z4a itmR _|exact z00.to (z0b _)|exact z00.low (z0b _)|exact z00.to (z0e _)|exact z00.low (z0e _)|exact z00.to (z0c _)|exact z00.low (z0c _)|exact z00.to (z06 _)|exact z00.low (z06 _)|exact z00.to (z0m _)|exact z00.low (z0m _)|exact z00.to (z0d _)|exact z00.low (z0d _)|exact z00.to (z0f _ _)|exact z00.low (z0f _ _)|exact z00.to (z01 itmR _)|exact z00.low (z01 itmR _)|exact z00.to (z01 movR _)|exact z00.low (z01 movR _)|exact z00.to (z01 pceR _)|exact z00.low (z01 pceR _)|exact z00.to (z01 fndR _)|exact z00.low (z01 fndR _)|exact z00.to (z01 atmR _)|exact z00.low (z01 atmR _)|exact z00.to (z01 litR _)|exact z00.low (z01 litR _)|exact z00.to (z01 mdlR _)|exact z00.low (z01 mdlR _)|exact z0t (z0k z0p z05)|exact z0o (z0k z0p z05)|exact z0t z05|exact z0o z05|exact trivial|refine aI ?_ ?_|exact cC0|refine low_cons' ?_ ?_|exact cC1|fail)
    all_goals first|omega|(refine z7j (z01 itmR _) ?_;rw[hsucc,z60];first|rfl|(simp;done))|(rw[hsucc];simp;done)|(show _=(List.map _ _).length;rw[z2o (by omega)];omega)|(rw[z2o (by omega)];omega)|exact Nat.le_refl _|(show allTo _ _ _;exact z00.to (z01 itmR _))|(simp[-List.reduceReplicate];done)|(simp[-List.reduceReplicate]<;>omega)|skip):a:=h
theorem DBw_0(kZ:b)(h:HidB b→a:=by intro kZ;(repeat first|refine aI qBw0 ?_|refine z0h qBw0 ?_|refine z0a qBw0 ?_|refine z0q qBw0 ?_|refine z0i ?_);exact kZ.out):a:=h ⟨kZ⟩
theorem z3f(kZ:b)(h:HidB b→a:=by intro kZ;refine sX ?_;refine DBw_0 ?_;refine exI ?_;exact kZ.out):a:=h ⟨kZ⟩
theorem zt0(kZ:b)(h:HidB b→a:=by intro kZ;refine sXT ?_;refine DBw_0 ?_;refine exI ?_;exact kZ.out):a:=h ⟨kZ⟩
theorem z68(kZ:b)(h:HidB b→a:=by intro kZ;refine sX ?_;refine DBw_0 ?_;exact kZ.out):a:=h ⟨kZ⟩
theorem sXTEBw_6(kZ:b)(h:HidB b→a:=by intro kZ;refine sXT ?_;refine DBw_0 ?_;exact kZ.out):a:=h ⟨kZ⟩
end
open Go.Aut
def itI(b:UInt8):Itm:=if b=88∨b=89 then⟨((b - 88).toNat:Nat),0⟩ else⟨-1,b⟩
def itemL(l:List UInt8):List Itm:=l.map itI
theorem z5t{α β:Type}{g:α→β}{l:List α}{k:Nat}{x:α}(hx:l[k]? =some x):(l.take (k+1)).map g=(l.take k).map g++[g x]:=by
  rw[List.take_add_one,hx];simp
theorem z2o{α β:Type}{g:α→β}{l:List α}{k:Nat}(h:k≤l.length):((l.take k).map g).length=k:=by simp;omega
def itemS:QSpec:=fun vs K=>∃ l:List UInt8,vs=[.c (.str l)]∧l.length≤1048576∧K (.c (itmsX (itemL l)))
theorem item_ok:z2s Tryd.prog gl 31 itemS:=by
 refine z2b (Γ:=g0) (N:=39) Tryd.func31 rfl rfl fun vs K h=>?_;obtain⟨l,rfl,hl,h⟩:=h;refine⟨_,h,trivial,by simp,fun w I=>?_⟩;refine srR g0_ok fun _ K2=>?_;refine z3f ?_;refine s_n K2 ?_;refine srR g0_ok fun _ K4=>?_
 iterate 2 refine z3f ?_
 refine s_n K4 ?_;refine seq_k fun _ K5=>?_;refine srR g0_ok fun _ K7=>?_;refine z3f ?_;refine s_n K7 ?_;refine z0g ?_;refine z10 (α:=Nat×Nat) (fun k=>[(0,.c (.str l)),(3,.c (.slice 0 0 ((l.take k.1).map itI).length k.2)),(4,.c (.int .i64 (k.1:Nat)))]) (fun k=>[(0,.own 27 (.cells (z0n itmL ((l.take k.1).map itI))) (k.2*2))]) 1 (fun k=>k.1≤l.length) (fun k=>l.length - k.1) ?_ ?_
 ·refine dnS [] id (0,0) (by simp) [0] uBw_0 uBw_0 uBw_0 uBw_0
 ·intro k hk
  refine seq_k fun _ K8=>?_;refine srR g0_ok fun _ K10=>?_
  iterate 4 refine z3f ?_
  refine s_n K10 ?_;refine z08 (b:=_) rfl (fun h_t9=>?_) (fun h_t9=>?_)
  ·try simp only[dQ,reduceIte]at h_t9
   refine z0l ?_;apply K8;refine seq_k fun _ K11=>?_;refine z0g ?_
   have hkl:k.1< l.length:=by omega
   obtain⟨x,hx⟩:=hasAt hkl
   have hkL:((l.take k.1).map itI).length=k.1:=z2o (by omega)
   have hrl:=z0u itmR (l:=(l.take k.1).map itI) (fun _ _=>trivial)
   refine srR g0_ok fun _ K13=>?_
   iterate 2 refine z3f ?_
   refine z68 ?_;refine exA (.c (.u8 x)) (as_eq (congrArg (fun v=>SV.c (Cell.u8 v)) qBw1)) ?_;refine z3f ?_;refine z68 ?_;refine exB (fun hb4=>?_) (fun hb4=>?_)
   ·try simp only[dQ,reduceIte]at hb4
    iterate 4 refine sN ?_
    refine z3f ?_;refine s_n K13 ?_;refine z08 (b:=_) rfl (fun _=>?_) (fun h_t21=>?_)
    rotate_left 1
    ·exfalso;simp at h_t21
    have hmk:itI x=⟨((x - 88).toNat:Nat),0⟩:=by rw[itI,if_pos (by first|exact .inl hb4|exact .inr h_t21)]
    have hxb:=(x - 88).toNat_lt
    refine z04 g0_ok fun _ K14=>?_
    iterate 3 refine z3f ?_
    refine z68 ?_;refine exA (.c (.u8 x)) (as_eq (congrArg (fun v=>SV.c (Cell.u8 v)) qBw1)) ?_
    iterate 2 refine z3f ?_
    refine z68 ?_;refine exA (.agg (.cells (itmL (itI x)))) (as_eq (by rw[hmk];rfl)) ?_;refine z3f ?_;refine z68 ?_;intro cap8 hcap8;refine exI ?_;refine z3f ?_;refine s_n K14 ?_;refine z07 ?_;apply K11;refine z04 g0_ok fun _ K15=>?_
    iterate 3 refine z3f ?_
    refine s_n K15 ?_
    have hsucc:=z5t (g:=itI) hx
    refine dnS [] (fun _=>2) (k.1+1,cap8) ⟨by first|omega|exact⟨by omega,by omega⟩,by omega⟩ [2] uBw_0 uBw_0 uBw_0 uBw_0
   ·try simp only[dQ,reduceIte]at hb4
    iterate 2 refine zt0 ?_
    refine sXTEBw_6 ?_;refine exA (.c (.u8 x)) (as_eq (congrArg (fun v=>SV.c (Cell.u8 v)) qBw1)) ?_;refine zt0 ?_;refine z3f ?_;refine s_n K13 ?_;refine z08 (b:=_) rfl (fun h_t21=>?_) (fun h_t21=>?_)
    ·try simp only[dQ,reduceIte]at h_t21
     have hmk:itI x=⟨((x - 88).toNat:Nat),0⟩:=by rw[itI,if_pos (by first|exact .inl hb4|exact .inr h_t21)]
     have hxb:=(x - 88).toNat_lt
     refine z04 g0_ok fun _ K16=>?_
     iterate 3 refine z3f ?_
     refine z68 ?_;refine exA (.c (.u8 x)) (as_eq (congrArg (fun v=>SV.c (Cell.u8 v)) qBw1)) ?_
     iterate 2 refine z3f ?_
     refine z68 ?_;refine exA (.agg (.cells (itmL (itI x)))) (as_eq (by rw[hmk];rfl)) ?_;refine z3f ?_;refine z68 ?_;intro cap8 hcap8;refine exI ?_;refine z3f ?_;refine s_n K16 ?_;refine z07 ?_;apply K11;refine z04 g0_ok fun _ K17=>?_
     iterate 3 refine z3f ?_
     refine s_n K17 ?_
     have hsucc:=z5t (g:=itI) hx
     refine dnS [] (fun _=>2) (k.1+1,cap8) ⟨by first|omega|exact⟨by omega,by omega⟩,by omega⟩ [2] uBw_0 uBw_0 uBw_0 uBw_0
    ·try simp only[dQ,reduceIte]at h_t21
     have hmk:itI x=⟨-1,x⟩:=by rw[itI,if_neg (by intro hh;rcases hh with hh|hh;exact hb4 hh;exact h_t21 hh)]
     refine z04 g0_ok fun _ K18=>?_
     iterate 3 refine z3f ?_
     refine z68 ?_;refine exA (.c (.u8 x)) (as_eq (congrArg (fun v=>SV.c (Cell.u8 v)) qBw1)) ?_;refine z68 ?_;refine exA (.agg (.cells (itmL (itI x)))) (as_eq (by rw[hmk];rfl)) ?_;refine z3f ?_;refine z68 ?_;intro cap6 hcap6;refine exI ?_;refine z3f ?_;refine s_n K18 ?_;refine z07 ?_;apply K11;refine z04 g0_ok fun _ K19=>?_
     iterate 3 refine z3f ?_
     refine s_n K19 ?_
     have hsucc:=z5t (g:=itI) hx
     refine dnS [] (fun _=>2) (k.1+1,cap6) ⟨by first|omega|exact⟨by omega,by omega⟩,by omega⟩ [2] uBw_0 uBw_0 uBw_0 uBw_0
  ·try simp only[dQ,reduceIte]at h_t9
   refine z0v ?_;refine z02 ?_;refine z02 ?_;refine z0s ?_;apply K5;refine srR g0_ok fun _ K21=>?_
   iterate 2 refine z3f ?_
   refine s_n K21 ?_
   have hfin:(l.take k.1).map itI=itemL l:=by rw[List.take_of_length_le (by omega)];rfl
   rw[hfin]
   have hrl:=z0u itmR (l:=itemL l) (fun _ _=>trivial)
   refine z0j (z13 g0_ok (fun _ _ h=>h) (trivial) [0] [.tmp 2] rfl ?_)
   repeat' (first|exact z4a itmR _|exact z00.to (z0b _)|exact z00.low (z0b _)|exact z00.to (z0e _)|exact z00.low (z0e _)|exact z00.to (z0c _)|exact z00.low (z0c _)|exact z00.to (z06 _)|exact z00.low (z06 _)|exact z00.to (z0m _)|exact z00.low (z0m _)|exact z00.to (z0d _)|exact z00.low (z0d _)|exact z00.to (z0f _ _)|exact z00.low (z0f _ _)|exact z00.to (z01 itmR _)|exact z00.low (z01 itmR _)|exact z00.to (z01 movR _)|exact z00.low (z01 movR _)|exact z00.to (z01 pceR _)|exact z00.low (z01 pceR _)|exact z00.to (z01 fndR _)|exact z00.low (z01 fndR _)|exact z00.to (z01 atmR _)|exact z00.low (z01 atmR _)|exact z00.to (z01 litR _)|exact z00.low (z01 litR _)|exact z00.to (z01 mdlR _)|exact z00.low (z01 mdlR _)|exact z0t (z0k z0p z05)|exact z0o (z0k z0p z05)|exact z0t z05|exact z0o z05|exact trivial|refine aI ?_ ?_|exact cC0|refine low_cons' ?_ ?_|exact cC1|fail)
   all_goals first|omega|(simp[hrl];done)|(rw[if_pos ⟨rfl,by simp[hrl]⟩];done)|(show(_:Cont)=_;rw[if_pos ⟨rfl,by simp only[z1l];rw[hrl];rfl⟩];done)|(simp only[z1l];rw[hrl];exact Nat.le_of_eq (by simp))|(simp[-List.reduceReplicate];done)|(simp[-List.reduceReplicate]<;>omega)|skip

end Go.Proofs.YtegdcifghaldoaaDoor

namespace Go.Proofs.YtegdcifghaldoaaDoor
set_option linter.all false
open Go.Ab Go.RowKit

open Go.Aut
end Go.Proofs.YtegdcifghaldoaaDoor

namespace Go.Proofs.YtegdcifghaldoaaDoor
set_option linter.all false
open Go.Ab Go.RowKit

section
variable {a b:Prop}
theorem qBz0(h:a:=by first|exact vcA|(simp[hrl]<;>omega)|exact Nat.le_of_ble_eq_true rfl|(refine⟨by omega,by omega,?_⟩;exact z00.solid (fndR.dat _))|exact z34.mpr ⟨by omega,by omega⟩|exact⟨by omega,by omega⟩|(refine⟨by omega,by omega,?_⟩;exact pl2 rfl rfl)|(simp only[z1l];rw[hrl];omega)|(show(z0n _ _).length=_;rw[hrl])|(show _< (z0n _ _).length;first|(rw[z0u itmR (fun _ _=>trivial)];omega)|(rw[z0u fndR (fun _ _=>trivial)];omega))|(show _≤(z0n _ _).length;first|(rw[z0u itmR (fun _ _=>trivial)];omega)|(rw[z0u fndR (fun _ _=>trivial)];omega))|rfl|exact(by decide:List.Nodup [0,1])|exact vcB):a:=h
theorem qBz1(h:a:=by first|(rw[nodeF,if_pos (show 1+((x.toNat:Nat):Int)%4=1 by omega),if_neg (show ¬ 3≤1+((x.toNat:Nat):Int)%4 by omega)];rfl)|(rw[nodeF,if_neg (show ¬ 1+((x.toNat:Nat):Int)%4=1 by omega),if_neg (show ¬ 3≤1+((x.toNat:Nat):Int)%4 by omega)];rfl)|(rw[nodeF,if_neg (show ¬ 1+((x.toNat:Nat):Int)%4=1 by omega),if_pos (show 3≤1+((x.toNat:Nat):Int)%4 by omega)];rfl)|(exfalso;omega)):a:=h
theorem uBz_0(h:a:=by
    repeat' (first|exact z8p fndR|exact z4a fndR _|exact z00.to (z0b _)|exact z00.low (z0b _)|exact z00.to (z0e _)|exact z00.low (z0e _)|exact z00.to (z0c _)|exact z00.low (z0c _)|exact z00.to (z06 _)|exact z00.low (z06 _)|exact z00.to (z0m _)|exact z00.low (z0m _)|exact z00.to (z0d _)|exact z00.low (z0d _)|exact z00.to (z0f _ _)|exact z00.low (z0f _ _)|exact z00.to (z01 itmR _)|exact z00.low (z01 itmR _)|exact z00.to (z01 movR _)|exact z00.low (z01 movR _)|exact z00.to (z01 pceR _)|exact z00.low (z01 pceR _)|exact z00.to (z01 fndR _)|exact z00.low (z01 fndR _)|exact z00.to (z01 atmR _)|exact z00.low (z01 atmR _)|exact z00.to (z01 litR _)|exact z00.low (z01 litR _)|exact z00.to (z01 mdlR _)|exact z00.low (z01 mdlR _)|exact z0t (z0k z0p z05)|exact z0o (z0k z0p z05)|exact z0t z05|exact z0o z05|exact trivial|refine aI ?_ ?_|exact cC0|refine low_cons' ?_ ?_|exact cC1|fail)
    all_goals first|omega|(refine z7j (z01 fndR _) ?_;rw[hsucc,z60];first|rfl|(simp;done))|(rw[hsucc];simp;done)|(show _=(List.map _ _).length;rw[z2o (by omega)];omega)|(rw[z2o (by omega)];omega)|exact Nat.le_refl _|(show allTo _ _ _;exact z00.to (z01 fndR _))|(refine z7j (z01 fndR _) ?_;show _=z0n fndL (formK m n 1);rw[zir];rfl)|(show _=(formK m n 1).length;rw[zir];rfl)|(rw[z73 (by omega)];done)|(show _=(formK _ _ _).length;rw[z73 (by omega)];omega)|(rw[z73 (by omega)];omega)|(simp[formK];done)|(simp[-List.reduceReplicate];done)|(simp[-List.reduceReplicate]<;>omega)|skip):a:=h
theorem uBz_1(h:a:=by
    repeat' (first|exact z4a fndR _|exact z00.to (z0b _)|exact z00.low (z0b _)|exact z00.to (z0e _)|exact z00.low (z0e _)|exact z00.to (z0c _)|exact z00.low (z0c _)|exact z00.to (z06 _)|exact z00.low (z06 _)|exact z00.to (z0m _)|exact z00.low (z0m _)|exact z00.to (z0d _)|exact z00.low (z0d _)|exact z00.to (z0f _ _)|exact z00.low (z0f _ _)|exact z00.to (z01 itmR _)|exact z00.low (z01 itmR _)|exact z00.to (z01 movR _)|exact z00.low (z01 movR _)|exact z00.to (z01 pceR _)|exact z00.low (z01 pceR _)|exact z00.to (z01 fndR _)|exact z00.low (z01 fndR _)|exact z00.to (z01 atmR _)|exact z00.low (z01 atmR _)|exact z00.to (z01 litR _)|exact z00.low (z01 litR _)|exact z00.to (z01 mdlR _)|exact z00.low (z01 mdlR _)|exact z0t (z0k z0p z05)|exact z0o (z0k z0p z05)|exact z0t z05|exact z0o z05|exact trivial|refine aI ?_ ?_|exact cC0|refine low_cons' ?_ ?_|exact cC1|fail)
    all_goals first|omega|(simp[hrl];done)|(rw[if_pos ⟨rfl,by simp[hrl]⟩];done)|(show(_:Cont)=_;rw[if_pos ⟨rfl,by simp only[z1l];rw[hrl];rfl⟩];done)|(simp only[z1l];rw[hrl];exact Nat.le_of_eq (by simp))|(simp[-List.reduceReplicate];done)|(simp[-List.reduceReplicate]<;>omega)|skip):a:=h
theorem DBz_0(kZ:b)(h:HidB b→a:=by intro kZ;(repeat first|refine aI qBz0 ?_|refine z0h qBz0 ?_|refine z0a qBz0 ?_|refine z0q qBz0 ?_|refine z0i ?_);exact kZ.out):a:=h ⟨kZ⟩
theorem z22(kZ:b)(h:HidB b→a:=by intro kZ;refine sX ?_;refine DBz_0 ?_;refine exI ?_;exact kZ.out):a:=h ⟨kZ⟩
theorem sXTBz_2(kZ:b)(h:HidB b→a:=by intro kZ;refine sXT ?_;refine DBz_0 ?_;refine exI ?_;exact kZ.out):a:=h ⟨kZ⟩
theorem zgh(kZ:b)(h:HidB b→a:=by intro kZ;refine sX0 ?_;refine DBz_0 ?_;refine exI ?_;exact kZ.out):a:=h ⟨kZ⟩
theorem z69(kZ:b)(h:HidB b→a:=by intro kZ;refine sX ?_;refine DBz_0 ?_;exact kZ.out):a:=h ⟨kZ⟩
end
open Go.Aut
def nodeF(n i:Nat)(x:UInt8):FNd:=⟨1+((x.toNat:Nat):Int)%4,if 1+((x.toNat:Nat):Int)%4=1 then((x.toNat:Nat):Int) / 4%(n:Nat) else((x.toNat:Nat):Int) / 4%(i:Nat),if 3≤1+((x.toNat:Nat):Int)%4 then(i:Nat) - 1 else 0⟩
def formK(m:List UInt8)(n k:Nat):List FNd:=⟨1,(((m.getD 0 0).toNat:Nat):Int)%(n:Nat),0⟩::(List.range (k - 1)).map fun j=>nodeF n (j+1) (m.getD (j+1) 0)
def madeF(m:List UInt8)(n:Nat):List FNd:=formK m n (max 1 (min m.length 8))
theorem z73{m:List UInt8}{n k:Nat}(h:1≤k):(formK m n k).length=k:=by simp[formK];omega
theorem z8y{m:List UInt8}{n k:Nat}{x:UInt8}(h:1≤k)(hx:m[k]? =some x):formK m n (k+1)=formK m n k++[nodeF n k x]:=by
  obtain⟨j,rfl⟩:∃ j,k=j+1:=⟨k - 1,by omega⟩
  have:m.getD (j+1) 0=x:=by rw[List.getD_eq_getElem?_getD,hx];rfl
  rw[formK,formK,show j+1+1 - 1=j+1 by omega,show j+1 - 1=j by omega,List.range_succ,List.map_append,List.map_singleton,this];rfl
theorem zir{m:List UInt8}{n:Nat}:formK m n 1=[⟨1,(((m.getD 0 0).toNat:Nat):Int)%(n:Nat),0⟩]:=rfl
attribute [local irreducible] formK
noncomputable def cmf:Ctx:={ P:=Tryd.prog,ty:=ty,glob:=gl,fs:=[(35,.flat atBS)] }
theorem z3b:cmf.OK:=⟨tyOK,⟨⟨z09 Tryd.func35 kQf rfl,zni⟩,trivial⟩,mixed⟩
@[simp] theorem cmf_ty:cmf.ty=ty:=rfl

def madeFS:QSpec:=fun vs K=>∃ (m:List UInt8) (n:Nat),vs=[.c (.ds m.length (.u8s m)),.c (.int .i64 (n:Nat))]∧(m.length≤9223372036854775807∧n≤1048576∧1≤n)∧K (.c (.ds (madeF m n).length (.cells (z0n fndL (madeF m n)))))
theorem madeF_ok:z2s Tryd.prog gl 13 madeFS:=by
 refine z2b (Γ:=cmf) (N:=57) Tryd.func13 rfl rfl fun vs K h=>?_;obtain⟨m,n,rfl,⟨hl,hn,hn1⟩,h⟩:=h;refine⟨_,h,trivial,by simp,fun w I=>?_⟩;refine srR z3b fun _ K2=>?_;refine z22 ?_;refine s_n K2 ?_;refine srR z3b fun _ K4=>?_;refine z22 ?_;refine z69 ?_;refine⟨m,0,rfl,hl,?_⟩;refine DBz_0 ?_
 first|refine exI ?_|(intro cap1 hcap1;refine exI ?_)
 iterate 5 refine z22 ?_
 refine s_n K4 ?_;refine seq_k fun _ K5=>?_;refine srR z3b fun _ K7=>?_;refine z22 ?_;refine s_n K7 ?_;refine z0g ?_;refine z10 (α:=Nat×Nat) (fun k=>[(0,.c (.ds m.length (.u8s m))),(1,.c (.int .i64 (n:Nat))),(5,.c (.slice 0 0 (formK m n k.1).length k.2)),(6,.c (.int .i64 (k.1:Nat)))]) (fun k=>[(0,.own 39 (.cells (z0n fndL (formK m n k.1))) (k.2*3))]) 1 (fun k=>1≤k.1∧(k.1≤m.length∨k.1=1)∧k.1≤8) (fun k=>m.length - k.1) ?_ ?_
 ·refine dnS [] id (1,1) (by first|simp|omega) [0] uBz_0 uBz_0 uBz_0 uBz_0
 ·intro k hk
  refine seq_k fun _ K8=>?_;refine srR z3b fun _ K10=>?_
  iterate 4 refine z22 ?_
  refine z69 ?_;refine exB (fun hb4=>?_) (fun hb4=>?_)
  ·try simp only[dQ,reduceIte]at hb4
   iterate 2 refine sXTBz_2 ?_
   refine z22 ?_;refine s_n K10 ?_;refine z08 (b:=_) rfl (fun h_t22=>?_) (fun h_t22=>?_)
   ·try simp only[dQ,reduceIte]at h_t22
    refine z0l ?_;apply K8;refine seq_k fun _ K11=>?_;refine z0g ?_
    have hkl:k.1< m.length:=by omega
    obtain⟨x,hx⟩:=hasAt hkl
    have hkL:(formK m n k.1).length=k.1:=z73 hk.1
    have hrl:=z0u fndR (l:=formK m n k.1) (fun _ _=>trivial)
    have hxb:=x.toNat_lt
    refine srR z3b fun _ K13=>?_
    iterate 3 refine z22 ?_
    refine z69 ?_;refine exA (.c (.u8 x)) (as_eq (congrArg (fun v=>SV.c (Cell.u8 v)) (by rw[List.getD_eq_getElem?_getD,show((k.1:Int).toNat*1)=k.1 by omega,hx];rfl))) ?_
    iterate 2 refine z22 ?_
    refine s_n K13 ?_;refine srR z3b fun _ K15=>?_
    iterate 9 refine z22 ?_
    refine zgh ?_;refine s_n K15 ?_;refine seq_k fun _ K16=>?_;refine srR z3b fun _ K18=>?_
    iterate 3 refine z22 ?_
    refine s_n K18 ?_;refine z08 (b:=_) rfl (fun h_t40=>?_) (fun h_t40=>?_)
    ·try simp only[dQ,reduceIte]at h_t40
     refine z04 z3b fun _ K19=>?_
     iterate 5 refine z22 ?_
     refine zgh ?_;refine s_n K19 ?_;apply K16;refine seq_k fun _ K20=>?_;refine srR z3b fun _ K22=>?_
     iterate 3 refine z22 ?_
     refine s_n K22 ?_;refine z08 (b:=_) rfl (fun h_t48=>?_) (fun h_t48=>?_)
     ·try simp only[dQ,reduceIte]at h_t48
      refine z04 z3b fun _ K23=>?_
      iterate 3 refine z22 ?_
      refine zgh ?_;refine s_n K23 ?_;apply K20;refine z04 z3b fun _ K24=>?_;refine z22 ?_;refine z69 ?_;refine exA (.agg (.cells (fndL (nodeF n k.1 x)))) (as_eq qBz1) ?_;refine z22 ?_;refine z69 ?_;intro cap3 hcap3;refine exI ?_;refine z22 ?_;refine s_n K24 ?_;refine z07 ?_;apply K11;refine z04 z3b fun _ K25=>?_
      iterate 3 refine z22 ?_
      refine s_n K25 ?_
      have hsucc:=z8y (n:=n) hk.1 hx
      refine dnS [] (fun _=>3) (k.1+1,cap3) ⟨by first|omega|exact⟨by omega,by omega⟩,by omega⟩ [3] uBz_0 uBz_0 uBz_0 uBz_0
     ·try simp only[dQ,reduceIte]at h_t48
      refine z0l ?_;apply K20;refine z04 z3b fun _ K26=>?_;refine z22 ?_;refine z69 ?_;refine exA (.agg (.cells (fndL (nodeF n k.1 x)))) (as_eq qBz1) ?_;refine z22 ?_;refine z69 ?_;intro cap3 hcap3;refine exI ?_;refine z22 ?_;refine s_n K26 ?_;refine z07 ?_;apply K11;refine z04 z3b fun _ K27=>?_
      iterate 3 refine z22 ?_
      refine s_n K27 ?_
      have hsucc:=z8y (n:=n) hk.1 hx
      refine dnS [] (fun _=>3) (k.1+1,cap3) ⟨by first|omega|exact⟨by omega,by omega⟩,by omega⟩ [3] uBz_0 uBz_0 uBz_0 uBz_0
    ·try simp only[dQ,reduceIte]at h_t40
     refine z0l ?_;apply K16;refine seq_k fun _ K28=>?_;refine srR z3b fun _ K30=>?_
     iterate 3 refine z22 ?_
     refine s_n K30 ?_;refine z08 (b:=_) rfl (fun h_t48=>?_) (fun h_t48=>?_)
     ·try simp only[dQ,reduceIte]at h_t48
      refine z04 z3b fun _ K31=>?_
      iterate 3 refine z22 ?_
      refine zgh ?_;refine s_n K31 ?_;apply K28;refine z04 z3b fun _ K32=>?_;refine z22 ?_;refine z69 ?_;refine exA (.agg (.cells (fndL (nodeF n k.1 x)))) (as_eq qBz1) ?_;refine z22 ?_;refine z69 ?_;intro cap3 hcap3;refine exI ?_;refine z22 ?_;refine s_n K32 ?_;refine z07 ?_;apply K11;refine z04 z3b fun _ K33=>?_
      iterate 3 refine z22 ?_
      refine s_n K33 ?_
      have hsucc:=z8y (n:=n) hk.1 hx
      refine dnS [] (fun _=>3) (k.1+1,cap3) ⟨by first|omega|exact⟨by omega,by omega⟩,by omega⟩ [3] uBz_0 uBz_0 uBz_0 uBz_0
     ·try simp only[dQ,reduceIte]at h_t48
      refine z0l ?_;apply K28;refine z04 z3b fun _ K34=>?_;refine z22 ?_;refine z69 ?_;refine exA (.agg (.cells (fndL (nodeF n k.1 x)))) (as_eq qBz1) ?_;refine z22 ?_;refine z69 ?_;intro cap3 hcap3;refine exI ?_;refine z22 ?_;refine s_n K34 ?_;refine z07 ?_;apply K11;refine z04 z3b fun _ K35=>?_
      iterate 3 refine z22 ?_
      refine s_n K35 ?_
      have hsucc:=z8y (n:=n) hk.1 hx
      refine dnS [] (fun _=>3) (k.1+1,cap3) ⟨by first|omega|exact⟨by omega,by omega⟩,by omega⟩ [3] uBz_0 uBz_0 uBz_0 uBz_0
   ·try simp only[dQ,reduceIte]at h_t22
    refine z0v ?_;refine z02 ?_;refine z02 ?_;refine z0s ?_;apply K5;refine srR z3b fun _ K37=>?_
    iterate 2 refine z22 ?_
    refine s_n K37 ?_
    have hfin:formK m n k.1=madeF m n:=by rw[madeF,show k.1=max 1 (min m.length 8) by omega]
    rw[hfin]
    have hrl:=z0u fndR (l:=madeF m n) (fun _ _=>trivial)
    refine z0j (z13 z3b (fun _ _ h=>h) (trivial) [0] [.tmp 4] rfl ?_)
    all_goals exact uBz_1
  ·try simp only[dQ,reduceIte]at hb4
   iterate 2 refine sN ?_
   refine z22 ?_;refine s_n K10 ?_;refine z08 (b:=_) rfl (fun h_t22=>?_) (fun _=>?_)
   ·exfalso;simp at h_t22
   refine z0v ?_;refine z02 ?_;refine z02 ?_;refine z0s ?_;apply K5;refine srR z3b fun _ K39=>?_
   iterate 2 refine z22 ?_
   refine s_n K39 ?_
   have hfin:formK m n k.1=madeF m n:=by rw[madeF,show k.1=max 1 (min m.length 8) by omega]
   rw[hfin]
   have hrl:=z0u fndR (l:=madeF m n) (fun _ _=>trivial)
   refine z0j (z13 z3b (fun _ _ h=>h) (trivial) [0] [.tmp 4] rfl ?_)
   all_goals exact uBz_1


end Go.Proofs.YtegdcifghaldoaaDoor

namespace Go.Proofs.YtegdcifghaldoaaDoor
set_option linter.all false
open Go.Ab Go.RowKit

section
variable {a b:Prop}
theorem qCa0(h:a:=by first|exact vcA|(simp[hrl]<;>omega)|exact Nat.le_of_ble_eq_true rfl|(refine⟨by omega,by omega,?_⟩;exact z00.solid (litR.dat _))|exact z34.mpr ⟨by omega,by omega⟩|exact⟨by omega,by omega⟩|(refine⟨by omega,by omega,?_⟩;exact pl2 rfl rfl)|(simp only[z1l];rw[hrl];omega)|(show(z0n _ _).length=_;rw[hrl])|(show _< (z0n _ _).length;first|(rw[z0u itmR (fun _ _=>trivial)];omega)|(rw[z0u fndR (fun _ _=>trivial)];omega))|(show _≤(z0n _ _).length;first|(rw[z0u itmR (fun _ _=>trivial)];omega)|(rw[z0u fndR (fun _ _=>trivial)];omega))|rfl|(show(k.1:Int).toNat*19< (z0n litL q.lits).length;rw[z0u litR (fun _ _=>trivial)];omega)|(show(k.1:Int).toNat*19+19≤(z0n litL q.lits).length;rw[z0u litR (fun _ _=>trivial)];omega)|exact vcB):a:=h
theorem uCa_0(h:a:=by
    repeat' (first|exact z8p litR|exact z4a litR _|exact z00.to (z0b _)|exact z00.low (z0b _)|exact z00.to (z0e _)|exact z00.low (z0e _)|exact z00.to (z0c _)|exact z00.low (z0c _)|exact z00.to (z06 _)|exact z00.low (z06 _)|exact z00.to (z0m _)|exact z00.low (z0m _)|exact z00.to (z0d _)|exact z00.low (z0d _)|exact z00.to (z0f _ _)|exact z00.low (z0f _ _)|exact z00.to (z01 itmR _)|exact z00.low (z01 itmR _)|exact z00.to (z01 movR _)|exact z00.low (z01 movR _)|exact z00.to (z01 pceR _)|exact z00.low (z01 pceR _)|exact z00.to (z01 fndR _)|exact z00.low (z01 fndR _)|exact z00.to (z01 atmR _)|exact z00.low (z01 atmR _)|exact z00.to (z01 litR _)|exact z00.low (z01 litR _)|exact z00.to (z01 mdlR _)|exact z00.low (z01 mdlR _)|exact z0t (z0k z0p z05)|exact z0o (z0k z0p z05)|exact z0t z05|exact z0o z05|exact trivial|refine aI ?_ ?_|exact cC0|refine low_cons' ?_ ?_|exact cC1|fail)
    all_goals first|omega|(refine z7j (z01 litR _) ?_;rw[hsucc,z60];first|rfl|(simp;done))|(rw[hsucc];simp;done)|(show _=(List.map _ _).length;rw[z2o (by omega)];omega)|(rw[z2o (by omega)];omega)|exact Nat.le_refl _|(show allTo _ _ _;exact z00.to (z01 litR _))|(simp[-List.reduceReplicate];done)|(simp[-List.reduceReplicate]<;>omega)|skip):a:=h
theorem DCa_0(kZ:b)(h:HidB b→a:=by intro kZ;(repeat first|refine aI qCa0 ?_|refine z0h qCa0 ?_|refine z0a qCa0 ?_|refine z0q qCa0 ?_|refine z0i ?_);exact kZ.out):a:=h ⟨kZ⟩
theorem z6h(kZ:b)(h:HidB b→a:=by intro kZ;refine sX ?_;refine DCa_0 ?_;refine exI ?_;exact kZ.out):a:=h ⟨kZ⟩
theorem zt1(kZ:b)(h:HidB b→a:=by intro kZ;refine sX0 ?_;refine DCa_0 ?_;refine exI ?_;exact kZ.out):a:=h ⟨kZ⟩
theorem zbb(kZ:b)(h:HidB b→a:=by intro kZ;refine sX ?_;refine DCa_0 ?_;exact kZ.out):a:=h ⟨kZ⟩
end
open Go.Aut
def withQ(q:Prb)(l:Lit'):Prb:={ q with lits:=q.lits++[l] }
def withQS:QSpec:=fun vs K=>∃ (q:Prb) (l:Lit'),vs=[prbV q,litV l]∧q.lits.length≤1048576∧K (prbV (withQ q l))
theorem withQ_ok:z2s Tryd.prog gl 24 withQS:=by
 refine z2b (Γ:=g0) (N:=29) Tryd.func24 rfl rfl fun vs K h=>?_;obtain⟨q,l,rfl,hl,h⟩:=h;refine⟨_,h,z00.low (z0c _),by simp,fun w I=>?_⟩;refine srR g0_ok fun _ K2=>?_
 iterate 3 refine z6h ?_
 refine s_n K2 ?_;refine srR g0_ok fun _ K4=>?_
 iterate 2 refine z6h ?_
 refine s_n K4 ?_;refine seq_k fun _ K5=>?_;refine srR g0_ok fun _ K7=>?_;refine z6h ?_;refine s_n K7 ?_;refine z0g ?_;refine z10 (α:=Nat×Nat) (fun k=>[(2,.c (.ptr 0 0)),(3,.c (.ptr 1 0)),(4,.c (.ptr 2 0)),(5,.c (.slice 3 0 ((q.lits.take k.1).map id).length k.2)),(6,.c (.int .i64 (k.1:Nat)))]) (fun k=>[(0,.own 52 (.cells (prbL q)) 6),(1,.own 76 (.cells (litL l)) 19),(2,.own 52 (.cells [.nils,.nils,.nils,.nils,.nils,.nils]) 6),(3,.own 76 (.cells (z0n litL ((q.lits.take k.1).map id))) (k.2*19))]) 4 (fun k=>k.1≤q.lits.length) (fun k=>q.lits.length - k.1) ?_ ?_
 ·refine dnS [] id (0,0) (by simp) [0,1,2,3] uCa_0 uCa_0 uCa_0 uCa_0
 ·intro k hk
  refine seq_k fun _ K8=>?_;refine srR g0_ok fun _ K10=>?_
  iterate 2 refine z6h ?_
  refine zbb ?_;refine exA (.c (.ds q.lits.length (.cells (z0n litL q.lits)))) (as_eq rfl) ?_
  iterate 2 refine z6h ?_
  refine s_n K10 ?_;refine z08 (b:=_) rfl (fun h_t12=>?_) (fun h_t12=>?_)
  ·try simp only[dQ,reduceIte]at h_t12
   refine z0l ?_;apply K8;refine seq_k fun _ K11=>?_;refine z0g ?_
   have hkl:k.1< q.lits.length:=by omega
   obtain⟨x,hx⟩:=hasAt hkl
   have hkL:((q.lits.take k.1).map id).length=k.1:=z2o (by omega)
   have hrl:=z0u litR (l:=(q.lits.take k.1).map id) (fun _ _=>trivial)
   refine z04 g0_ok fun _ K12=>?_
   iterate 2 refine z6h ?_
   refine zbb ?_;refine exA (.c (.ds q.lits.length (.cells (z0n litL q.lits)))) (as_eq rfl) ?_
   iterate 2 refine z6h ?_
   refine zbb ?_;refine exA (.agg (.cells (litL x))) (z3x litR (fun _ _=>trivial) (i:=k.1) (by first|rfl|omega) rfl hx) ?_;refine z6h ?_;refine zbb ?_;intro cap7 hcap7;refine exI ?_;refine z6h ?_;refine s_n K12 ?_;refine z07 ?_;apply K11;refine z04 g0_ok fun _ K13=>?_
   iterate 3 refine z6h ?_
   refine s_n K13 ?_
   have hsucc:=z5t (g:=id) hx
   refine dnS [] (fun i=>if i=3 then 5 else i) (k.1+1,cap7) ⟨by first|omega|exact⟨by omega,by omega⟩,by omega⟩ [0,1,2,5] uCa_0 uCa_0 uCa_0 uCa_0
  ·try simp only[dQ,reduceIte]at h_t12
   refine z0v ?_;refine z02 ?_;refine z02 ?_;refine z0s ?_;apply K5
   have hke:k.1=q.lits.length:=by omega
   have hfin:z0n litL ((q.lits.take k.1).map id)++([]++litL l)=z0n litL (q.lits++[l]):=by rw[hke,List.take_length,List.map_id,z60];rfl
   have hkL:((q.lits.take k.1).map id).length=k.1:=z2o (by omega)
   have hrl:=z0u litR (l:=(q.lits.take k.1).map id) (fun _ _=>trivial)
   refine srR g0_ok fun _ K15=>?_;refine z6h ?_;refine zbb ?_;refine exA (.agg (.cells (litL l))) (as_eq rfl) ?_;refine z6h ?_;refine zbb ?_;intro cap3 hcap3;refine exI ?_;refine z6h ?_;refine zt1 ?_;refine s_n K15 ?_;refine srR g0_ok fun _ K17=>?_;refine z6h ?_;refine zt1 ?_;refine s_n K17 ?_;rw[hfin]
   have hrl2:=z0u litR (l:=q.lits++[l]) (fun _ _=>trivial)
   refine z0j (z13 g0_ok (fun _ _ h=>h) (z00.low (z0c _)) [5] [.cell 4 52] rfl ?_)
   repeat' (first|exact z4a litR _|exact z00.to (z0b _)|exact z00.low (z0b _)|exact z00.to (z0e _)|exact z00.low (z0e _)|exact z00.to (z0c _)|exact z00.low (z0c _)|exact z00.to (z06 _)|exact z00.low (z06 _)|exact z00.to (z0m _)|exact z00.low (z0m _)|exact z00.to (z0d _)|exact z00.low (z0d _)|exact z00.to (z0f _ _)|exact z00.low (z0f _ _)|exact z00.to (z01 itmR _)|exact z00.low (z01 itmR _)|exact z00.to (z01 movR _)|exact z00.low (z01 movR _)|exact z00.to (z01 pceR _)|exact z00.low (z01 pceR _)|exact z00.to (z01 fndR _)|exact z00.low (z01 fndR _)|exact z00.to (z01 atmR _)|exact z00.low (z01 atmR _)|exact z00.to (z01 litR _)|exact z00.low (z01 litR _)|exact z00.to (z01 mdlR _)|exact z00.low (z01 mdlR _)|exact z0t (z0k z0p z05)|exact z0o (z0k z0p z05)|exact z0t z05|exact z0o z05|exact trivial|refine aI ?_ ?_|exact cC0|refine low_cons' ?_ ?_|exact cC1|fail)
   all_goals first|omega|(show(_:Nat)=_;rw[hkL,hke];simp[withQ];done)|(show(_:Cont)=_;rw[if_pos ⟨rfl,by simp only[z1l,hkL];rw[hrl2,List.length_append,hke];rfl⟩];rfl)|(show(_:Cont)=_;rw[if_pos ⟨rfl,by simp only[z1l,hkL];rw[hrl2];simp;omega⟩];done)|(simp[hkL];done)|(show _≤_;simp only[z1l];rw[hrl2];simp;omega)|(simp[-List.reduceReplicate];done)|(simp[-List.reduceReplicate]<;>omega)|skip


end Go.Proofs.YtegdcifghaldoaaDoor

namespace Go.Proofs.YtegdcifghaldoaaDoor
set_option linter.all false
open Go.Ab Go.RowKit

section
variable {a b:Prop}
theorem qCb1(h:a:=by first|exact vcA|(simp<;>omega)|decide|(simp<;>omega)|exact vcB):a:=h
theorem qCb2(h:a:=by first|exact vcA|(simp<;>omega)|decide|exact vcB):a:=h
theorem qCb3(h:a:=by first|exact vcA|(simp<;>omega)|(refine⟨by omega,by omega,?_⟩;exact And.intro trivial trivial)|(refine⟨by omega,by omega⟩)|(simp<;>omega)|exact vcB):a:=h
theorem qCb4(h:a:=by first|exact vcA|(simp<;>omega)|(refine⟨by split<;>omega,by split<;>omega,trivial⟩)|(simp<;>omega)|exact vcB):a:=h
theorem qCb5(h:a:=by first|exact vcA|(simp<;>omega)|(refine⟨by omega,by omega,?_⟩;exact And.intro trivial trivial)|(simp<;>omega)|exact vcB):a:=h
theorem uCb_0(h:a:=by
    repeat' (first|exact trivial|refine aI ?_ ?_|exact cC0|refine low_cons' ?_ ?_|exact cC1|fail)
    all_goals first|(rw[hn1];push_cast;rfl)|(rw[machN,if_neg h_t13];rfl)|skip):a:=h
theorem uCb_1(h:a:=by
    repeat' (first|exact trivial|refine aI ?_ ?_|exact cC0|refine low_cons' ?_ ?_|exact cC1|fail)
    all_goals first|omega|exact z6e _|exact z4m _|(show(_:List Bool)=_;first|exact hacc|exact z5x _ _|exact z75 _ _ hc3|rfl|(simp[machA,z74];done))|(show(_:List Int)=_;first|rfl|exact hrow2|exact hrow|exact z5b _ _ _|(simp[z2q];done))|(simp;done)|(simp<;>omega)|(dsimp only;(repeat' split)<;>omega)|skip):a:=h
theorem uCb_2(h:a:=by
    repeat' (first|exact trivial|refine aI ?_ ?_|exact cC0|refine low_cons' ?_ ?_|exact cC1|fail)
    all_goals first|omega|exact z6e _|exact z4m _|(show(_:List Bool)=_;first|exact hacc|exact z5x _ _|exact z75 _ _ hc3|rfl|(simp[machA,z74];done))|(show(_:List Int)=_;first|rfl|exact hrow2|exact hrow|exact z5b _ _ _|(simp[z2q];done))|(simp;done)|(simp<;>omega)|(dsimp only;(repeat' split)<;>omega)|skip
    all_goals first|(rw[hidx];rfl)|(rw[machK_ge l (by omega)];rfl)|skip):a:=h
theorem DCb_2(kZ:b)(h:HidB b→a:=by intro kZ;(repeat first|refine aI qCb1 ?_|refine z0h qCb1 ?_|refine z0a qCb1 ?_|refine z0q qCb1 ?_|refine z0i ?_);exact kZ.out):a:=h ⟨kZ⟩
theorem sXCb_3(kZ:b)(h:HidB b→a:=by intro kZ;refine sX ?_;refine DCb_2 ?_;refine exI ?_;exact kZ.out):a:=h ⟨kZ⟩
theorem zkw(kZ:b)(h:HidB b→a:=by intro kZ;refine sX0 ?_;refine DUf_0 ?_;refine exI ?_;exact kZ.out):a:=h ⟨kZ⟩
theorem DCb_5(kZ:b)(h:HidB b→a:=by intro kZ;(repeat first|refine aI qCb2 ?_|refine z0h qCb2 ?_|refine z0a qCb2 ?_|refine z0q qCb2 ?_|refine z0i ?_);exact kZ.out):a:=h ⟨kZ⟩
theorem zt2(kZ:b)(h:HidB b→a:=by intro kZ;refine sX ?_;refine DCb_5 ?_;refine exI ?_;exact kZ.out):a:=h ⟨kZ⟩
theorem zkx(kZ:b)(h:HidB b→a:=by intro kZ;refine sX0 ?_;refine DCb_5 ?_;refine exI ?_;exact kZ.out):a:=h ⟨kZ⟩
theorem DCb_8(kZ:b)(h:HidB b→a:=by intro kZ;(repeat first|refine aI qCb3 ?_|refine z0h qCb3 ?_|refine z0a qCb3 ?_|refine z0q qCb3 ?_|refine z0i ?_);exact kZ.out):a:=h ⟨kZ⟩
theorem sXCb_9(kZ:b)(h:HidB b→a:=by intro kZ;refine sX ?_;refine DCb_8 ?_;refine exI ?_;exact kZ.out):a:=h ⟨kZ⟩
theorem zt3(kZ:b)(h:HidB b→a:=by intro kZ;(repeat first|refine aI qCb4 ?_|refine z0h qCb4 ?_|refine z0a qCb4 ?_|refine z0q qCb4 ?_|refine z0i ?_);exact kZ.out):a:=h ⟨kZ⟩
theorem zt4(kZ:b)(h:HidB b→a:=by intro kZ;refine sX ?_;refine zt3 ?_;refine exI ?_;exact kZ.out):a:=h ⟨kZ⟩
theorem sX0Cb_12(kZ:b)(h:HidB b→a:=by intro kZ;refine sX0 ?_;refine zt3 ?_;refine exI ?_;exact kZ.out):a:=h ⟨kZ⟩
theorem zt5(kZ:b)(h:HidB b→a:=by intro kZ;(repeat first|refine aI qCb5 ?_|refine z0h qCb5 ?_|refine z0a qCb5 ?_|refine z0q qCb5 ?_|refine z0i ?_);exact kZ.out):a:=h ⟨kZ⟩
theorem zt6(kZ:b)(h:HidB b→a:=by intro kZ;refine sX ?_;refine zt5 ?_;refine exI ?_;exact kZ.out):a:=h ⟨kZ⟩
theorem sX0Cb_15(kZ:b)(h:HidB b→a:=by intro kZ;refine sX0 ?_;refine zt5 ?_;refine exI ?_;exact kZ.out):a:=h ⟨kZ⟩
theorem sXECb_16(kZ:b)(h:HidB b→a:=by intro kZ;refine sX ?_;refine DCb_8 ?_;exact kZ.out):a:=h ⟨kZ⟩
theorem sXECb_17(kZ:b)(h:HidB b→a:=by intro kZ;refine sX ?_;refine zt3 ?_;exact kZ.out):a:=h ⟨kZ⟩
theorem sXECb_18(kZ:b)(h:HidB b→a:=by intro kZ;refine sX ?_;refine zt5 ?_;exact kZ.out):a:=h ⟨kZ⟩
end
open Go.Aut
def mcls:List UInt64:=[18446744073709551615,18446744073709551615 ^^^ 8589934592 ^^^ 17179869184,18446744073709551615,18446744073709551615,0,8589934592,0,0,0,17179869184,0,0]
def machN(l:List UInt8):Nat:=if 0< l.length then 1+(l.getD 0 0%8).toNat else 1
theorem z8h(l:List UInt8):1≤machN l∧machN l≤8:=by
  unfold machN
  split
  · have:(l.getD 0 0%8).toNat< 8:=by rw[UInt8.toNat_mod];exact Nat.mod_lt _ (by decide)
    omega
  · omega
def machK(l:List UInt8)(s c:Nat):Nat:=(l.getD (1+4*s+c) 0).toNat
theorem machK_lt(l:List UInt8)(s c:Nat):machK l s c< 256:=(l.getD (1+4*s+c) 0).toNat_lt
def z2q(l:List UInt8)(n s c:Nat):List Int:=(List.range (min c 3)).map fun i=>((machK l s i%n:Nat):Int)
def z8i(l:List UInt8)(n s:Nat):List (List Int):=(List.range s).map fun i=>z2q l n i 3
def z74(l:List UInt8)(s:Nat):List Bool:=(List.range s).map fun i=>decide (machK l i 3%3=1)
def machA(l:List UInt8)(s c:Nat):List Bool:=z74 l (if c=4 then s+1 else s)
def machL(l:List UInt8):Dfa:={ cls:=mcls,nc:=3,next:=z8i l (machN l) (machN l),acc:=z74 l (machN l) }
@[simp] theorem z95(l:List UInt8)(n s c:Nat):(z2q l n s c).length=min c 3:=by simp[z2q]
@[simp] theorem zac(l:List UInt8)(n s:Nat):(z8i l n s).length=s:=by simp[z8i]
@[simp] theorem zad(l:List UInt8)(s:Nat):(z74 l s).length=s:=by simp[z74]
@[simp] theorem machA_length(l:List UInt8)(s c:Nat):(machA l s c).length=if c=4 then s+1 else s:=by simp[machA]
theorem zis(l:List UInt8)(n s:Nat){c:Nat}(h:c< 3):z2q l n s c++[((machK l s c%n:Nat):Int)]=z2q l n s (c+1):=by
  rw[z2q,z2q,show min c 3=c by omega,show min (c+1) 3=c+1 by omega,List.range_succ,List.map_append];rfl
theorem z5b(l:List UInt8)(n s:Nat):z2q l n s 3=z2q l n s 4:=rfl
theorem zky(l:List UInt8)(n s:Nat):z8i l n s++[z2q l n s 3]=z8i l n (s+1):=by simp[z8i,List.range_succ]
theorem z5x(l:List UInt8)(s:Nat):machA l s 3++[decide (machK l s 3%3=1)]=machA l s 4:=by simp[machA,z74,List.range_succ]
theorem z75(l:List UInt8)(s:Nat){c:Nat}(h:c< 3):machA l s c=machA l s (c+1):=by rw[machA,machA,if_neg (by omega),if_neg (by omega)]
theorem allTo_app'{f:Cell→Cell→Prop}:∀ {a b c d:List Cell},allTo f a c→allTo f b d→allTo f (a++b) (c++d)
  |[],_,[],_,_,h=>h
  |_::_,_,_::_,_,h,k=>⟨h.1,allTo_app' h.2 k⟩
  |[],_,_::_,_,h,_=>h.elim
  |_::_,_,[],_,h,_=>h.elim
theorem machK_ge(l:List UInt8){s c:Nat}(h:l.length≤1+4*s+c):machK l s c=0:=by
  rw[machK,List.getD_eq_getElem?_getD,List.getElem?_eq_none h];rfl
def znj:QSpec:=fun vs K=>∃ l:List UInt8,vs=[.c (.ds l.length (.u8s l))]∧l.length≤9223372036854775807∧K (dfaV (machL l))
theorem zow:z2s Tryd.prog gl 55 znj:=by
 refine z2b (Γ:=g0) (N:=85) Tryd.func55 rfl rfl fun vs K h=>?_;obtain⟨l,rfl,hl,h⟩:=h;refine⟨_,h,low_cons' trivial (low_cons' trivial (low_cons' trivial low_nil')),by simp,fun w I=>?_⟩;refine srR g0_ok fun _ K2=>?_;refine zr1 ?_;refine s_n K2 ?_;refine srR g0_ok fun _ K4=>?_;refine zr1 ?_;refine s_n K4 ?_;refine z27 (α:=Unit) (fun _=>[(0,.c (.ds l.length (.u8s l))),(2,.c (.ptr 0 0)),(3,.c (.int .i64 (machN l)))]) (fun _=>[(0,.own 65 (.cells [.nils,.nils,.nils]) 3)]) 1 (fun _=>True) ?_ ?_
 ·refine srR g0_ok fun _ K6=>?_
  iterate 3 refine zr1 ?_
  refine s_n K6 ?_;refine z08 (b:=_) rfl (fun h_t13=>?_) (fun h_t13=>?_)
  ·try simp only[dQ,reduceIte]at h_t13
   replace h_t13:0< l.length:=by omega
   refine z04 g0_ok fun _ K7=>?_
   iterate 7 refine sXCb_3 ?_
   refine s_n K7 ?_
   have hn1:machN l=1+(l.getD 0 0%8).toNat:=by rw[machN,if_pos h_t13]
   refine dnS [] id () trivial [0] uCb_0 uCb_1 uCb_1 uCb_1
  ·try simp only[dQ,reduceIte]at h_t13
   replace h_t13:¬ 0< l.length:=by omega
   refine z0l ?_;refine dnS [] id () trivial [0] uCb_0 uCb_1 uCb_1 uCb_1
 ·intro _ _
  obtain⟨hmn0,hmn8⟩:=z8h l;refine srR g0_ok fun _ K9=>?_
  iterate 2 refine zr1 ?_
  refine zkw ?_;refine s_n K9 ?_;refine srR g0_ok fun _ K11=>?_
  iterate 2 refine zr1 ?_
  refine zkw ?_;refine s_n K11 ?_;refine srR g0_ok fun _ K13=>?_;refine zt2 ?_;refine zkx ?_;refine s_n K13 ?_;refine srR g0_ok fun _ K15=>?_;refine zt2 ?_;refine zkx ?_;refine s_n K15 ?_;refine z27 (α:=Unit) (fun _=>[(0,.c (.ds l.length (.u8s l))),(2,.c (.ptr 0 0)),(3,.c (.int .i64 (machN l))),(6,.c (.ptr 1 0))]) (fun _=>[(0,.own 65 (.cells [.nils,.nils,.nils]) 3),(1,.own 65 (.cells [.ds 3 (.u64s mcls),.nils,.nils]) 3)]) 2 (fun _=>True) ?_ ?_
  ·refine z04 g0_ok fun _ K16=>?_
   iterate 12 refine zt2 ?_
   refine zkx ?_;refine s_n K16 ?_;refine dnS [3] (fun i=>if i=1 then 4 else i) () trivial [0,4] ?_ ?_ ?_ ?_
   ·exact uCb_1
   ·repeat' (first|exact trivial|refine aI ?_ ?_|exact cC0|refine low_cons' ?_ ?_|exact cC1|fail)
    all_goals first|omega|exact z6e _|exact z4m _|(show(_:List Bool)=_;first|exact hacc|exact z5x _ _|exact z75 _ _ hc3|rfl|(simp[machA,z74];done))|(show(_:List Int)=_;first|rfl|exact hrow2|exact hrow|exact z5b _ _ _|(simp[z2q];done))|(simp;done)|(simp<;>omega)|(dsimp only;(repeat' split)<;>omega)|skip
    all_goals first|(rw[if_pos ⟨rfl,rfl⟩];rfl)|skip
   ·exact uCb_1
   ·exact uCb_1
  ·intro _ _
   refine seq_k fun _ K17=>?_;refine srR g0_ok fun _ K19=>?_;refine zr1 ?_;refine s_n K19 ?_;refine z0g ?_;refine z5r 1 1 41 (.cells []) rfl rfl rfl low_nil' ?_;refine z5r 1 2 4 (.bools []) rfl rfl rfl trivial ?_;refine z10 (α:=Nat×Nat×Nat) (fun s=>[(0,.c (.ds l.length (.u8s l))),(2,.c (.ptr 0 0)),(3,.c (.int .i64 (machN l))),(6,.c (.ptr 1 0)),(7,.c (.int .i64 s.1))]) (fun s=>[(0,.own 65 (.cells [.nils,.nils,.nils]) 3),(1,.own 65 (.cells [.ds 3 (.u64s mcls),.slice 2 0 s.1 s.2.1,.slice 3 0 s.1 s.2.2]) 3),(2,.own 41 (.cells (rowsC (z8i l (machN l) s.1))) s.2.1),(3,.own 4 (.bools (z74 l s.1)) s.2.2)]) 4 (fun s=>s.1≤machN l) (fun s=>machN l - s.1) ?_ ?_
   ·refine dnS [] id (0,0,0) (Nat.zero_le _) [0,1,2,3] uCb_1 uCb_1 uCb_1 uCb_1
   ·intro s hs
    refine seq_k fun _ K20=>?_;refine srR g0_ok fun _ K22=>?_
    iterate 3 refine zr1 ?_
    refine s_n K22 ?_;refine z08 (b:=_) rfl (fun h_t37=>?_) (fun h_t37=>?_)
    ·try simp only[dQ,reduceIte]at h_t37
     refine z0l ?_;apply K20;refine seq_k fun _ K23=>?_;refine z0g ?_;refine srR g0_ok fun _ K25=>?_
     iterate 2 refine zr1 ?_
     refine s_n K25 ?_;refine seq_k fun _ K26=>?_;refine srR g0_ok fun _ K28=>?_;refine zr1 ?_;refine s_n K28 ?_;refine z0g ?_;refine z10 (α:=Nat×Nat×Nat) (fun k=>[(0,.c (.ds l.length (.u8s l))),(2,.c (.ptr 0 0)),(3,.c (.int .i64 (machN l))),(6,.c (.ptr 1 0)),(7,.c (.int .i64 s.1)),(8,.c (.slice 4 0 (min k.1 3) k.2.1)),(9,.c (.int .i64 k.1))]) (fun k=>[(0,.own 65 (.cells [.nils,.nils,.nils]) 3),(1,.own 65 (.cells [.ds 3 (.u64s mcls),.slice 2 0 s.1 s.2.1,.slice 3 0 (if k.1=4 then s.1+1 else s.1) k.2.2]) 3),(2,.own 41 (.cells (rowsC (z8i l (machN l) s.1))) s.2.1),(3,.own 4 (.bools (machA l s.1 k.1)) k.2.2),(4,.own 3 (.ints .i64 (z2q l (machN l) s.1 k.1)) k.2.1)]) 5 (fun k=>k.1≤4) (fun k=>4 - k.1) ?_ ?_
     ·refine dnS [] id (0,0,s.2.2) (Nat.zero_le _) [0,1,2,3,4] uCb_1 uCb_1 uCb_1 uCb_1
     ·intro k hk
      refine seq_k fun _ K29=>?_;refine srR g0_ok fun _ K31=>?_
      iterate 2 refine zr1 ?_
      refine s_n K31 ?_;refine z08 (b:=_) rfl (fun h_t42=>?_) (fun h_t42=>?_)
      ·try simp only[dQ,reduceIte]at h_t42
       refine z0l ?_;apply K29;refine seq_k fun _ K32=>?_;refine z0g ?_;refine srR g0_ok fun _ K34=>?_;refine zr1 ?_;refine s_n K34 ?_;refine z27 (α:=Unit) (fun _=>[(0,.c (.ds l.length (.u8s l))),(2,.c (.ptr 0 0)),(3,.c (.int .i64 (machN l))),(6,.c (.ptr 1 0)),(7,.c (.int .i64 s.1)),(8,.c (.slice 4 0 (min k.1 3) k.2.1)),(9,.c (.int .i64 k.1)),(10,.c (.int .i64 (machK l s.1 k.1)))]) (fun _=>[(0,.own 65 (.cells [.nils,.nils,.nils]) 3),(1,.own 65 (.cells [.ds 3 (.u64s mcls),.slice 2 0 s.1 s.2.1,.slice 3 0 (if k.1=4 then s.1+1 else s.1) k.2.2]) 3),(2,.own 41 (.cells (rowsC (z8i l (machN l) s.1))) s.2.1),(3,.own 4 (.bools (machA l s.1 k.1)) k.2.2),(4,.own 3 (.ints .i64 (z2q l (machN l) s.1 k.1)) k.2.1)]) 5 (fun _=>True) ?_ ?_
       ·refine srR g0_ok fun _ K36=>?_
        iterate 8 refine zr1 ?_
        refine s_n K36 ?_;refine z08 (b:=_) rfl (fun h_t52=>?_) (fun h_t52=>?_)
        ·try simp only[dQ,reduceIte]at h_t52
         refine z04 g0_ok fun _ K37=>?_
         iterate 10 refine zr1 ?_
         refine s_n K37 ?_
         have hidx:(1+4*(s.1:Int)+(k.1:Int)).toNat*1=1+4*s.1+k.1:=by omega
         refine dnS [] id () trivial [0,1,2,3,4] uCb_2 uCb_1 uCb_1 uCb_1
        ·try simp only[dQ,reduceIte]at h_t52
         refine z0l ?_;refine dnS [] id () trivial [0,1,2,3,4] uCb_2 uCb_1 uCb_1 uCb_1
       ·intro _ _
        refine srR g0_ok fun _ K39=>?_
        iterate 2 refine zr1 ?_
        refine s_n K39 ?_;refine z08 (b:=_) rfl (fun h_t63=>?_) (fun h_t63=>?_)
        ·try simp only[dQ,reduceIte]at h_t63
         have hc3:k.1< 3:=by omega
         have hkl:=machK_lt l s.1 k.1
         refine z04 g0_ok fun _ K40=>?_
         iterate 5 refine sXCb_9 ?_
         refine sXECb_16 ?_;intro cap5 hcap5;refine exI ?_;refine sXCb_9 ?_;refine s_n K40 ?_
         have hrow:z2q l (machN l) s.1 k.1++([]++[((machK l s.1 k.1:Nat):Int)%((machN l:Nat):Int)])=z2q l (machN l) s.1 (k.1+1):=by rw[List.nil_append, ←zis l _ s.1 hc3];congr 2
         refine z07 ?_;apply K32;refine z04 g0_ok fun _ K41=>?_
         iterate 3 refine zr1 ?_
         refine s_n K41 ?_;refine dnS [] (fun i=>if i=4 then 6 else i) (k.1+1,cap5,k.2.2) ⟨by omega,by omega⟩ [0,1,2,3,6] uCb_1 uCb_1 uCb_1 uCb_1
        ·try simp only[dQ,reduceIte]at h_t63
         have hc3:k.1=3:=by omega
         refine z04 g0_ok fun _ K42=>?_
         iterate 6 refine zt4 ?_
         refine sXECb_17 ?_;intro cap6 hcap6;refine exI ?_;refine zt4 ?_;refine sX0Cb_12 ?_;refine s_n K42 ?_
         have hacc:machA l s.1 k.1++([]++[decide (((machK l s.1 k.1:Nat):Int)%3=1)])=machA l s.1 (k.1+1):=by rw[hc3,List.nil_append,show(decide (((machK l s.1 3:Nat):Int)%3=1))=decide (machK l s.1 3%3=1) from decide_eq_decide.2 (by omega),z5x]
         have hrow2:z2q l (machN l) s.1 k.1=z2q l (machN l) s.1 (k.1+1):=by rw[hc3];rfl
         refine z07 ?_;apply K32;refine z04 g0_ok fun _ K43=>?_
         iterate 3 refine zr1 ?_
         refine s_n K43 ?_;refine dnS [] (fun i=>if i=3 then 6 else i) (k.1+1,k.2.1,cap6) ⟨by omega,by omega⟩ [0,1,2,6,4] uCb_1 uCb_1 uCb_1 uCb_1
      ·try simp only[dQ,reduceIte]at h_t42
       refine z0v ?_;refine z02 ?_;refine z02 ?_;refine z0s ?_;apply K26;refine z04 g0_ok fun _ K44=>?_
       iterate 4 refine zt6 ?_
       refine sXECb_18 ?_;intro cap4 hcap4;refine exI ?_;refine zt6 ?_;refine sX0Cb_15 ?_;refine s_n K44 ?_;refine z07 ?_;apply K23;refine z04 g0_ok fun _ K45=>?_
       iterate 3 refine zr1 ?_
       refine s_n K45 ?_
       have hk4:k.1=4:=by omega
       refine dnS [4] (fun i=>if i=2 then 6 else i) (s.1+1,cap4,k.2.2) ⟨by omega,by omega⟩ [0,1,6,3] ?_ ?_ ?_ ?_
       ·repeat' (first|exact trivial|refine aI ?_ ?_|exact cC0|refine low_cons' ?_ ?_|exact cC1|fail)
        all_goals first|omega|(rw[hk4];rfl)|exact z6e _|exact z4m _|(show(_:List Bool)=_;first|exact hacc|exact z5x _ _|exact z75 _ _ hc3|rfl|(simp[machA,z74];done))|(show(_:List Int)=_;first|rfl|exact hrow2|exact hrow|exact z5b _ _ _|(simp[z2q];done))|(simp;done)|(simp<;>omega)|(dsimp only;(repeat' split)<;>omega)|skip
       ·repeat' (first|exact trivial|refine aI ?_ ?_|exact cC0|refine low_cons' ?_ ?_|exact cC1|fail)
        all_goals first|omega|(rw[hk4];rfl)|(show Cell.to1 _ _ _ _ _ _;exact True.elim)|(show allTo _ (rowsC _++_) (rowsC _);rw[←zky, ←zi4];exact allTo_app' (z4m _) ⟨⟨List.mem_singleton.2 rfl,trivial,by simp,Nat.one_pos,by simp;omega,by rw[hk4,if_pos ⟨rfl,by simp⟩];rfl⟩,trivial⟩)|(show(_:List Bool)=_;rw[hk4];simp[machA];done)|exact z6e _|exact z4m _|(show(_:List Bool)=_;first|exact hacc|exact z5x _ _|exact z75 _ _ hc3|rfl|(simp[machA,z74];done))|(show(_:List Int)=_;first|rfl|exact hrow2|exact hrow|exact z5b _ _ _|(simp[z2q];done))|(simp;done)|(simp<;>omega)|(dsimp only;(repeat' split)<;>omega)|skip
       ·exact uCb_1
       ·exact uCb_1
    ·try simp only[dQ,reduceIte]at h_t37
     refine z0v ?_;refine z02 ?_;refine z02 ?_;refine z0s ?_;apply K17;obtain⟨s,cN,cA⟩:=s
     obtain rfl:s=machN l:=by have:=hs;simp at h_t37 this;omega
     refine srR g0_ok fun _ K47=>?_;refine zr1 ?_;refine zkw ?_;refine s_n K47 ?_;refine z0j (z13 g0_ok (fun _ _ h=>h) (low_cons' trivial (low_cons' trivial (low_cons' trivial low_nil'))) [2,3] [.cell 2 65] rfl ?_)
     repeat' (first|exact trivial|refine aI ?_ ?_|exact cC0|refine low_cons' ?_ ?_|exact cC1|fail)
     all_goals first|omega|exact zhv _|(simp[machL];done)|(simp[machL]<;>omega)|skip


end Go.Proofs.YtegdcifghaldoaaDoor

namespace Go.Proofs.YtegdcifghaldoaaDoor
set_option linter.all false
open Go.Ab Go.RowKit

section
variable {a b:Prop}
theorem qCc0(h:a:=by first|exact vcA|(simp<;>omega)|exact Nat.le_of_ble_eq_true rfl|(refine⟨by omega,by omega,?_⟩;exact And.intro trivial trivial)|exact⟨by omega,by omega⟩|exact z34.mpr ⟨by omega,by omega⟩|(rw[z1p];omega)|exact vcB):a:=h
theorem qCc1(h:a:=by first|(left;omega)|(right;omega)|(left;have:=getD_out (ws:=ws) (i:=s.1) (by omega);omega)):a:=h
theorem uCc_0(h:a:=by
    repeat' (first|exact z00.low (z0d _)|exact z00.low (z1a _ _)|exact z00.to (z1a _ _)|exact z00.isD (z1a _ _)|exact z00.isD (z0c _)|exact z00.isD (z0d _)|exact z00.to (z0b _)|exact z00.low (z0b _)|exact z00.to (z0e _)|exact z00.low (z0e _)|exact z00.to (z0c _)|exact z00.low (z0c _)|exact z00.to (z06 _)|exact z00.low (z06 _)|exact z00.to (z0m _)|exact z00.low (z0m _)|exact z00.to (z0d _)|exact z00.low (z0d _)|exact z00.to (z0f _ _)|exact z00.low (z0f _ _)|exact z00.to (z01 itmR _)|exact z00.low (z01 itmR _)|exact z00.to (z01 movR _)|exact z00.low (z01 movR _)|exact z00.to (z01 pceR _)|exact z00.low (z01 pceR _)|exact z00.to (z01 fndR _)|exact z00.low (z01 fndR _)|exact z00.to (z01 atmR _)|exact z00.low (z01 atmR _)|exact z00.to (z01 litR _)|exact z00.low (z01 litR _)|exact z00.to (z01 mdlR _)|exact z00.low (z01 mdlR _)|exact z0t (z0k z0p z05)|exact z0o (z0k z0p z05)|exact z0t z05|exact z0o z05|exact trivial|refine aI ?_ ?_|exact cC0|refine low_cons' ?_ ?_|exact cC1|fail)
    all_goals first|omega|(show(_:Cont)=_;rw[hse,if_pos ⟨rfl,by show(lists _).length=_*1;simp[lists]⟩];done)|(show allTo _ [] (lists (wrdsK _ _ 0));rw[zoz];trivial)|(show(_:List Int)=numsK _ _ 0;rw[zp0];done)|(show(_:List UInt8)=wrdK _ _ 0;rw[zt8];done)|(show(_:List UInt8)=_;rw[hsucc];simp;done)|(show(_:List Int)=_;rw[zoy];first|rfl|(simp;done))|(exact wrds_to rfl (List.mem_singleton.2 rfl) rfl hkl0 hwe)|(simp[wrdsK,lists];done)|(unfold wrdsK;rfl)|(unfold wrdK;rfl)|(unfold numsK;rfl)|(rw[zae (by omega)];done)|(show allTo _ _ _;exact z00.to (z0d _))|(simp[-List.reduceReplicate];done)|(simp[-List.reduceReplicate]<;>omega)|skip):a:=h
theorem DCc_0(kZ:b)(h:HidB b→a:=by intro kZ;(repeat first|refine aI qCc0 ?_|refine z0h qCc0 ?_|refine z0a qCc0 ?_|refine z0q qCc0 ?_|refine z0i ?_);exact kZ.out):a:=h ⟨kZ⟩
theorem z2p(kZ:b)(h:HidB b→a:=by intro kZ;refine sX ?_;refine DCc_0 ?_;refine exI ?_;exact kZ.out):a:=h ⟨kZ⟩
theorem ze4(kZ:b)(h:HidB b→a:=by intro kZ;refine sX0 ?_;refine DCc_0 ?_;refine exI ?_;exact kZ.out):a:=h ⟨kZ⟩
theorem zbc(kZ:b)(h:HidB b→a:=by intro kZ;refine sXT ?_;refine DCc_0 ?_;refine exI ?_;exact kZ.out):a:=h ⟨kZ⟩
theorem z6i(kZ:b)(h:HidB b→a:=by intro kZ;refine dX ?_;refine DCc_0 ?_;refine exI ?_;exact kZ.out):a:=h ⟨kZ⟩
theorem gXCc_5(kZ:b)(h:HidB b→a:=by intro kZ;refine gX ?_;refine DCc_0 ?_;refine exI ?_;exact kZ.out):a:=h ⟨kZ⟩
theorem gX0Cc_6(kZ:b)(h:HidB b→a:=by intro kZ;refine gX0 ?_;refine DCc_0 ?_;refine exI ?_;exact kZ.out):a:=h ⟨kZ⟩
theorem z7s(kZ:b)(h:HidB b→a:=by intro kZ;refine sX ?_;refine DCc_0 ?_;exact kZ.out):a:=h ⟨kZ⟩
theorem zcd(kZ:b)(h:HidB b→a:=by intro kZ;refine sXT ?_;refine DCc_0 ?_;exact kZ.out):a:=h ⟨kZ⟩
theorem z6m(kZ:b)(h:HidB b→a:=by intro kZ;refine dX ?_;refine DCc_0 ?_;exact kZ.out):a:=h ⟨kZ⟩
theorem zgi(kZ:b)(h:HidB b→a:=by intro kZ;refine gX ?_;refine DCc_0 ?_;exact kZ.out):a:=h ⟨kZ⟩
end
open Go.Aut
def wrdK(q:Prb)(x:List UInt8)(k:Nat):List UInt8:=(x.take k).map fun b=>q.alph.getD (b.toNat%q.alph.length) 0
def wrdQ(q:Prb)(ws:List (List UInt8))(i:Nat):List UInt8:=wrdK q (ws.getD i []) (q.most.getD i 0).toNat
def wrdsK(q:Prb)(ws:List (List UInt8))(i:Nat):List (List UInt8):=(List.range i).map (wrdQ q ws)
def numQ(q:Prb)(n:List UInt8)(j:Nat):Int:=(((n.getD j 0).toNat:Nat):Int)%(q.top.getD j 0+1)
def numsK(q:Prb)(n:List UInt8)(j:Nat):List Int:=(List.range j).map (numQ q n)
def madeM(q:Prb)(ws:List (List UInt8))(n:List UInt8):Mdl:=⟨wrdsK q ws q.most.length,numsK q n q.top.length⟩
def vlsL(ws:List (List UInt8))(n:List UInt8):List Cell:=[.ds ws.length (.cells (lists ws)),.ds n.length (.u8s n)]
theorem z1a(ws:List (List UInt8))(n:List UInt8):z00 (vlsL ws n):=pl2 rfl rfl
@[simp] theorem wrdsK_len{q:Prb}{ws:List (List UInt8)}{i:Nat}:(wrdsK q ws i).length=i:=by simp[wrdsK]
@[simp] theorem numsK_len{q:Prb}{n:List UInt8}{i:Nat}:(numsK q n i).length=i:=by simp[numsK]
theorem zae{q:Prb}{x:List UInt8}{k:Nat}(h:k≤x.length):(wrdK q x k).length=k:=by simp[wrdK];omega
theorem zt7{q:Prb}{x:List UInt8}{k:Nat}{b:UInt8}(h:x[k]? =some b):wrdK q x (k+1)=wrdK q x k++[q.alph.getD (b.toNat%q.alph.length) 0]:=by
  rw[wrdK,wrdK,List.take_add_one,h];simp
theorem getD_out{ws:List (List UInt8)}{i:Nat}(h:ws.length≤i):(ws.getD i []).length=0:=by
  rw[List.getD_eq_getElem?_getD,List.getElem?_eq_none h];rfl
theorem zgj{q:Prb}{ws:List (List UInt8)}{i k:Nat}(h1:k≤(ws.getD i []).length)(h2:k≤(q.most.getD i 0).toNat)(h:k=(ws.getD i []).length∨q.most.getD i 0≤(k:Int)):wrdK q (ws.getD i []) k=wrdQ q ws i:=by
  rw[wrdQ,wrdK,wrdK]
  rcases h with h|h
  · rw[List.take_of_length_le (by omega),List.take_of_length_le (by omega)]
  · rw[show k=(q.most.getD i 0).toNat by omega]
theorem zox{q:Prb}{ws:List (List UInt8)}{i:Nat}:lists (wrdsK q ws (i+1))=lists (wrdsK q ws i)++[.ds (wrdQ q ws i).length (.u8s (wrdQ q ws i))]:=by
  rw[wrdsK,List.range_succ,List.map_append];simp[lists,wrdsK]
theorem zoy{q:Prb}{n:List UInt8}{i:Nat}:numsK q n (i+1)=numsK q n i++[numQ q n i]:=by
  rw[numsK,List.range_succ,List.map_append];rfl
theorem zoz{q:Prb}{ws:List (List UInt8)}:lists (wrdsK q ws 0)=[]:=rfl
theorem zp0{q:Prb}{n:List UInt8}:numsK q n 0=[]:=rfl
theorem zt8{q:Prb}{x:List UInt8}:wrdK q x 0=[]:=rfl
theorem wrds_to{tf:Nat→Ty}{H:Heap}{is:List Nat}{ρ:Nat→Nat}{q:Prb}{ws:List (List UInt8)}{i k c j t cap:Nat}{x:List UInt8}(hg:H.get j=some (.own t (.u8s (wrdK q x k)) cap))(hj:j∈is)(ht:(tf t).size=1)(hl:(wrdK q x k).length=k)(hx:wrdK q x k=wrdQ q ws i):allTo (Cell.to tf H is ρ) (lists (wrdsK q ws i)++([]++[.slice j 0 k c])) (lists (wrdsK q ws (i+1))):=by
  rw[zox, ←hx];refine allTo_app' (z00.to (z0d _)) ⟨?_,trivial⟩
  show zlo tf H is j 0 k _ _
  unfold zlo;rw[hg];exact⟨hj,trivial,by show 0+k*_≤(wrdK q x k).length;rw[ht,hl];omega,by rw[ht];decide,hl.symm,by rw[if_pos ⟨rfl,by show(wrdK q x k).length=_;rw[ht,hl];omega⟩]⟩
attribute [local irreducible] wrdK wrdsK numsK
noncomputable def cmm:Ctx:={ P:=Tryd.prog,ty:=ty,glob:=gl,fs:=[(35,.flat atBS)] }
theorem z3v:cmm.OK:=⟨tyOK,⟨⟨z09 Tryd.func35 kQf rfl,zni⟩,trivial⟩,mixed⟩
@[simp] theorem cmm_ty:cmm.ty=ty:=rfl

def zt9:QSpec:=fun vs K=>∃ (q:Prb) (ws:List (List UInt8)) (n:List UInt8),vs=[prbV q,.agg (.cells (vlsL ws n))]∧(q.alph.length≤1048576∧0< q.alph.length∧q.most.length≤1048576∧q.top.length≤1048576∧ws.length≤9223372036854775807∧n.length≤9223372036854775807∧((∀ j< q.top.length,0≤q.top.getD j 0∧q.top.getD j 0≤64)∧(∀ i,(ws.getD i []).length≤9223372036854775807)∧∀ i,q.most.getD i 0≤1048576))∧K (mdlV (madeM q ws n))
theorem znk:z2s Tryd.prog gl 21 zt9:=by
 refine z2b (Γ:=cmm) (N:=95) Tryd.func21 rfl rfl fun vs K h=>?_;obtain⟨q,ws,n,rfl,⟨hA,hA1,hM,hT,hW,hN,ht,hwl,hmo⟩,h⟩:=h;refine⟨_,h,z00.low (z06 _),by simp,fun w I=>?_⟩;refine srR z3v fun _ K2=>?_
 iterate 3 refine z2p ?_
 refine s_n K2 ?_;refine srR z3v fun _ K4=>?_
 iterate 2 refine z2p ?_
 refine ze4 ?_;refine s_n K4 ?_;refine seq_k fun _ K5=>?_;refine srR z3v fun _ K7=>?_;refine z2p ?_;refine s_n K7 ?_;refine z0g ?_;refine z5r 3 0 28 (.cells []) rfl rfl rfl low_nil' ?_;refine z10 (α:=Nat×Nat) (fun s=>[(2,.c (.dp (.cells (prbL q)) 0)),(3,.c (.dp (.cells (vlsL ws n)) 0)),(4,.c (.ptr 0 0)),(5,.c (.ptr 1 0)),(6,.c (.int .i64 (s.1:Nat)))]) (fun s=>[(0,.own 43 (.cells [.nils,.nils]) 2),(1,.own 43 (.cells [.slice 2 0 s.1 s.2,.nils]) 2),(2,.own 28 (.cells (lists (wrdsK q ws s.1))) s.2)]) 3 (fun s=>s.1≤q.most.length) (fun s=>q.most.length - s.1) ?_ ?_
 ·refine dnS [0,1] (fun i=>i+2) (0,0) (Nat.zero_le _) [2,3,4] uCc_0 uCc_0 uCc_0 uCc_0
 ·intro s hs
  refine seq_k fun _ K8=>?_;refine srR z3v fun _ K10=>?_
  iterate 2 refine z2p ?_
  refine z7s ?_;refine exA (.c (.ds q.most.length (.ints .i64 q.most))) (as_eq rfl) ?_
  iterate 2 refine z2p ?_
  refine s_n K10 ?_;refine z08 (b:=_) rfl (fun h_t15=>?_) (fun h_t15=>?_)
  ·try simp only[dQ,reduceIte]at h_t15
   refine z0l ?_;apply K8;refine seq_k fun _ K11=>?_;refine z0g ?_;refine srR z3v fun _ K13=>?_
   iterate 2 refine z2p ?_
   refine s_n K13 ?_;refine seq_k fun _ K14=>?_;refine srR z3v fun _ K16=>?_;refine z2p ?_;refine s_n K16 ?_;refine z0g ?_;refine z10 (α:=Nat×Nat) (fun k=>[(2,.c (.dp (.cells (prbL q)) 0)),(3,.c (.dp (.cells (vlsL ws n)) 0)),(4,.c (.ptr 0 0)),(5,.c (.ptr 1 0)),(6,.c (.int .i64 (s.1:Nat))),(7,.c (.slice 3 0 k.1 k.2)),(8,.c (.int .i64 (k.1:Nat)))]) (fun k=>[(0,.own 43 (.cells [.nils,.nils]) 2),(1,.own 43 (.cells [.slice 2 0 s.1 s.2,.nils]) 2),(2,.own 28 (.cells (lists (wrdsK q ws s.1))) s.2),(3,.own 5 (.u8s (wrdK q (ws.getD s.1 []) k.1)) k.2)]) 4 (fun k=>k.1≤(ws.getD s.1 []).length∧k.1≤(q.most.getD s.1 0).toNat) (fun k=>(ws.getD s.1 []).length - k.1) ?_ ?_
   ·refine dnS [] id (0,0) ⟨Nat.zero_le _,Nat.zero_le _⟩ [0,1,2,3] uCc_0 uCc_0 uCc_0 uCc_0
   ·intro k hk
    refine seq_k fun _ K17=>?_;refine srR z3v fun _ K19=>?_
    iterate 2 refine z2p ?_
    refine z7s ?_;refine exA (.c (.ds ws.length (.cells (lists ws)))) (as_eq rfl) ?_
    iterate 2 refine z2p ?_
    refine z7s ?_;refine exB (fun hb5=>?_) (fun hb5=>?_)
    ·try simp only[dQ,reduceIte]at hb5
     iterate 2 refine zbc ?_
     refine zcd ?_;refine exA (.c (.ds ws.length (.cells (lists ws)))) (as_eq rfl) ?_
     iterate 2 refine zbc ?_
     refine zcd ?_;refine exA (.c (.ds (ws.getD s.1 []).length (.u8s (ws.getD s.1 [])))) (as_c (zkf ⟨by omega,by omega⟩)) ?_
     iterate 2 refine zbc ?_
     refine z2p ?_;refine z7s ?_;refine exB (fun hb15=>?_) (fun hb15=>?_)
     ·try simp only[dQ,reduceIte]at hb15
      iterate 2 refine zbc ?_
      refine zcd ?_;refine exA (.c (.ds q.most.length (.ints .i64 q.most))) (as_eq rfl) ?_
      iterate 2 refine zbc ?_
      refine zcd ?_;refine exA (.c (.int .i64 (q.most.getD s.1 0))) (as_i (congrArg (fun i=>q.most.getD i 0) (by omega))) ?_;refine zbc ?_;refine z2p ?_;refine s_n K19 ?_;refine z08 (b:=_) rfl (fun h_t42=>?_) (fun h_t42=>?_)
      ·try simp only[dQ,reduceIte]at h_t42
       refine z0l ?_;apply K17;refine seq_k fun _ K20=>?_;refine z0g ?_
       have hwls:=hwl s.1
       have hmos:=hmo s.1
       have hkx:k.1< (ws.getD s.1 []).length:=by omega
       obtain⟨x,hx⟩:=hasAt hkx
       have hkl0:=zae (q:=q) hk.1
       have hmod:=Nat.mod_lt x.toNat hA1
       have hsucc:=zt7 (q:=q) hx
       refine z5z z3v [(0,true),(1,true),(2,true),(3,true),(4,true),(5,true),(6,true),(7,true),(8,true),(9,true),(10,true),(11,true),(12,true),(13,true),(14,true),(15,true),(16,true),(17,true),(18,false),(19,false),(20,true)] rfl kQf kQf fun _ K21=>?_
       iterate 2 refine z6i ?_
       refine z6m ?_;refine exA (.c (.ds q.alph.length (.u8s q.alph))) (as_eq rfl) ?_;refine z6i ?_;refine z6m ?_;refine exA (.c (.ds ws.length (.cells (lists ws)))) (as_eq rfl) ?_
       iterate 2 refine z6i ?_
       refine z6m ?_;refine exA (.c (.ds (ws.getD s.1 []).length (.u8s (ws.getD s.1 [])))) (as_c (zkf ⟨by omega,by omega⟩)) ?_
       iterate 2 refine z6i ?_
       refine z6m ?_;refine exA (.c (.u8 x)) (as_eq (congrArg (fun v=>SV.c (Cell.u8 v)) (by rw[List.getD_eq_getElem?_getD,show((k.1:Int).toNat*1)=k.1 by omega,hx];rfl))) ?_
       iterate 2 refine z6i ?_
       refine z6m ?_;refine exA (.c (.ds q.alph.length (.u8s q.alph))) (as_eq rfl) ?_;refine z6i ?_;refine z6m ?_;refine exA (.c (.int .i64 ((x.toNat%q.alph.length:Nat):Int))) (as_i (by push_cast;rfl)) ?_;refine z6i ?_;refine z6m ?_;refine exA (.c (.u8 (q.alph.getD (x.toNat%q.alph.length) 0))) (as_eq (congrArg (fun v=>SV.c (Cell.u8 v)) (congrArg (fun i=>q.alph.getD i 0) (by omega)))) ?_;refine gXCc_5 ?_;refine zgi ?_;intro cap19 hcap19;refine exI ?_;refine z6i ?_;refine d_n K21 ?_;refine z07 ?_;apply K20;refine z04 z3v fun _ K22=>?_
       iterate 3 refine z2p ?_
       refine s_n K22 ?_;refine dnS [] (fun i=>if i=3 then 5 else i) (k.1+1,cap19) ⟨⟨(by show k.1+1≤_;omega),(by show k.1+1≤_;omega)⟩,(by show _ - (k.1+1)< _;omega)⟩ [0,1,2,5] ?_ ?_ ?_ ?_
       ·exact uCc_0
       ·exact uCc_0
       ·exact uCc_0
       ·exact uCc_0
      ·try simp only[dQ,reduceIte]at h_t42
       refine z0v ?_;refine z02 ?_;refine z02 ?_;refine z0s ?_;apply K14
       have hkl0:=zae (q:=q) hk.1
       have hwe:=zgj (q:=q) (ws:=ws) (i:=s.1) hk.1 hk.2 qCc1
       refine z04 z3v fun _ K23=>?_
       iterate 4 refine z2p ?_
       refine z7s ?_;intro cap4 hcap4;refine exI ?_;refine z2p ?_;refine ze4 ?_;refine s_n K23 ?_;refine z07 ?_;apply K11;refine z04 z3v fun _ K24=>?_
       iterate 3 refine z2p ?_
       refine s_n K24 ?_;refine dnS [3] (fun i=>if i=2 then 5 else i) (s.1+1,cap4) ⟨(by show s.1+1≤_;omega),(by show _ - (s.1+1)< _;omega)⟩ [0,1,5] ?_ ?_ ?_ ?_
       ·exact uCc_0
       ·exact uCc_0
       ·exact uCc_0
       ·exact uCc_0
     ·try simp only[dQ,reduceIte]at hb15
      iterate 7 refine sN ?_
      refine z2p ?_;refine s_n K19 ?_;refine z08 (b:=_) rfl (fun h_t42=>?_) (fun _=>?_)
      ·exfalso;simp at h_t42
      refine z0v ?_;refine z02 ?_;refine z02 ?_;refine z0s ?_;apply K14
      have hkl0:=zae (q:=q) hk.1
      have hwe:=zgj (q:=q) (ws:=ws) (i:=s.1) hk.1 hk.2 qCc1
      refine z04 z3v fun _ K25=>?_
      iterate 4 refine z2p ?_
      refine z7s ?_;intro cap4 hcap4;refine exI ?_;refine z2p ?_;refine ze4 ?_;refine s_n K25 ?_;refine z07 ?_;apply K11;refine z04 z3v fun _ K26=>?_
      iterate 3 refine z2p ?_
      refine s_n K26 ?_;refine dnS [3] (fun i=>if i=2 then 5 else i) (s.1+1,cap4) ⟨(by show s.1+1≤_;omega),(by show _ - (s.1+1)< _;omega)⟩ [0,1,5] ?_ ?_ ?_ ?_
      ·exact uCc_0
      ·exact uCc_0
      ·exact uCc_0
      ·exact uCc_0
    ·try simp only[dQ,reduceIte]at hb5
     iterate 8 refine sN ?_
     refine z2p ?_;refine z7s ?_;refine exB (fun hb15=>?_) (fun hb15=>?_)
     ·exfalso;simp at hb15
     iterate 7 refine sN ?_
     refine z2p ?_;refine s_n K19 ?_;refine z08 (b:=_) rfl (fun h_t42=>?_) (fun _=>?_)
     ·exfalso;simp at h_t42
     refine z0v ?_;refine z02 ?_;refine z02 ?_;refine z0s ?_;apply K14
     have hkl0:=zae (q:=q) hk.1
     have hwe:=zgj (q:=q) (ws:=ws) (i:=s.1) hk.1 hk.2 qCc1
     refine z04 z3v fun _ K27=>?_
     iterate 4 refine z2p ?_
     refine z7s ?_;intro cap4 hcap4;refine exI ?_;refine z2p ?_;refine ze4 ?_;refine s_n K27 ?_;refine z07 ?_;apply K11;refine z04 z3v fun _ K28=>?_
     iterate 3 refine z2p ?_
     refine s_n K28 ?_;refine dnS [3] (fun i=>if i=2 then 5 else i) (s.1+1,cap4) ⟨(by show s.1+1≤_;omega),(by show _ - (s.1+1)< _;omega)⟩ [0,1,5] ?_ ?_ ?_ ?_
     ·exact uCc_0
     ·exact uCc_0
     ·exact uCc_0
     ·exact uCc_0
  ·try simp only[dQ,reduceIte]at h_t15
   refine z0v ?_;refine z02 ?_;refine z02 ?_;refine z0s ?_;apply K5;refine seq_k fun _ K29=>?_;refine srR z3v fun _ K31=>?_;refine z2p ?_;refine s_n K31 ?_;refine z0g ?_;refine z5r 1 1 3 (.ints .i64 []) rfl rfl rfl trivial ?_;refine z10 (α:=Nat×Nat) (fun g=>[(2,.c (.dp (.cells (prbL q)) 0)),(3,.c (.dp (.cells (vlsL ws n)) 0)),(4,.c (.ptr 0 0)),(5,.c (.ptr 1 0)),(9,.c (.int .i64 (g.1:Nat)))]) (fun g=>[(0,.own 43 (.cells [.nils,.nils]) 2),(1,.own 43 (.cells [.ds q.most.length (.cells (lists (wrdsK q ws q.most.length))),.slice 2 0 g.1 g.2]) 2),(2,.own 3 (.ints .i64 (numsK q n g.1)) g.2)]) 3 (fun g=>g.1≤q.top.length) (fun g=>q.top.length - g.1) ?_ ?_
   ·have hse:s.1=q.most.length:=by omega
    refine dnS [2] (fun i=>if i=2 then 3 else i) (0,0) (Nat.zero_le _) [0,1,3] uCc_0 uCc_0 uCc_0 uCc_0
   ·intro g hg
    refine seq_k fun _ K32=>?_;refine srR z3v fun _ K34=>?_
    iterate 2 refine z2p ?_
    refine z7s ?_;refine exA (.c (.ds q.top.length (.ints .i64 q.top))) (as_eq rfl) ?_
    iterate 2 refine z2p ?_
    refine s_n K34 ?_;refine z08 (b:=_) rfl (fun h_t75=>?_) (fun h_t75=>?_)
    ·try simp only[dQ,reduceIte]at h_t75
     refine z0l ?_;apply K32;refine seq_k fun _ K35=>?_;refine z0g ?_
     have hgt:g.1< q.top.length:=by omega
     have htx:=ht g.1 hgt
     refine z5z z3v [(0,true),(1,true),(2,true),(3,true),(4,true),(6,true),(7,true),(8,true),(9,true),(10,true),(11,true),(5,false),(12,true),(13,false),(14,false),(15,true),(16,false)] rfl kQf kQf fun _ K36=>?_
     iterate 3 refine z6i ?_
     refine z6m ?_;refine exA (.c (.ds n.length (.u8s n))) (as_eq rfl) ?_
     iterate 2 refine z6i ?_
     refine z6m ?_;refine exA (.c (.ds q.top.length (.ints .i64 q.top))) (as_eq rfl) ?_
     iterate 2 refine z6i ?_
     refine z6m ?_;refine exA (.c (.int .i64 (q.top.getD g.1 0))) (as_i (congrArg (fun i=>q.top.getD i 0) (by omega))) ?_;refine z6i ?_;refine zgi ?_;refine⟨n,g.1,rfl,by omega,?_⟩;refine DCc_0 ?_
     first|refine exI ?_|(intro cap5 hcap5;refine exI ?_)
     refine z6i ?_;refine gXCc_5 ?_;refine zgi ?_;intro cap14 hcap14;refine exI ?_;refine z6i ?_;refine gX0Cc_6 ?_;refine d_n K36 ?_;refine z07 ?_;apply K35;refine z04 z3v fun _ K37=>?_
     iterate 3 refine z2p ?_
     refine s_n K37 ?_;refine dnS [] (fun i=>if i=2 then 4 else i) (g.1+1,cap14) ⟨(by show g.1+1≤_;omega),(by show _ - (g.1+1)< _;omega)⟩ [0,1,4] ?_ ?_ ?_ ?_
     ·exact uCc_0
     ·exact uCc_0
     ·exact uCc_0
     ·exact uCc_0
    ·try simp only[dQ,reduceIte]at h_t75
     refine z0v ?_;refine z02 ?_;refine z02 ?_;refine z0s ?_;apply K29;refine srR z3v fun _ K39=>?_;refine z2p ?_;refine ze4 ?_;refine s_n K39 ?_
     have hge:g.1=q.top.length:=by omega
     refine z0j (z13 z3v (fun _ _ h=>h) (z00.low (z06 _)) [2] [.cell 4 43] rfl ?_)
     repeat' (first|exact z00.to (z0b _)|exact z00.low (z0b _)|exact z00.to (z0e _)|exact z00.low (z0e _)|exact z00.to (z0c _)|exact z00.low (z0c _)|exact z00.to (z06 _)|exact z00.low (z06 _)|exact z00.to (z0m _)|exact z00.low (z0m _)|exact z00.to (z0d _)|exact z00.low (z0d _)|exact z00.to (z0f _ _)|exact z00.low (z0f _ _)|exact z00.to (z01 itmR _)|exact z00.low (z01 itmR _)|exact z00.to (z01 movR _)|exact z00.low (z01 movR _)|exact z00.to (z01 pceR _)|exact z00.low (z01 pceR _)|exact z00.to (z01 fndR _)|exact z00.low (z01 fndR _)|exact z00.to (z01 atmR _)|exact z00.low (z01 atmR _)|exact z00.to (z01 litR _)|exact z00.low (z01 litR _)|exact z00.to (z01 mdlR _)|exact z00.low (z01 mdlR _)|exact z0t (z0k z0p z05)|exact z0o (z0k z0p z05)|exact z0t z05|exact z0o z05|exact trivial|refine aI ?_ ?_|exact cC0|refine low_cons' ?_ ?_|exact cC1|fail)
     all_goals first|omega|(show(_:List Int)=_;rw[hge];simp[madeM];done)|(simp[madeM,hge];done)|(simp[-List.reduceReplicate];done)|(simp[-List.reduceReplicate]<;>omega)|skip


end Go.Proofs.YtegdcifghaldoaaDoor

namespace Go.Proofs.YtegdcifghaldoaaDoor
set_option linter.all false
open Go.Ab Go.RowKit

open Go.Aut
theorem formK_at{m:List UInt8}{n k j:Nat}(hj:j< k):(formK m n k).getD j fndZ=if j=0 then⟨1,(((m.getD 0 0).toNat:Nat):Int)%(n:Nat),0⟩else nodeF n j (m.getD j 0):=by
  unfold formK
  cases j with
  |zero=>rfl
  | succ j=>
    rw[if_neg (by omega),List.getD_cons_succ,List.getD_eq_getElem?_getD,List.getElem?_map,List.getElem?_range (by omega)]
    rfl
theorem nodeF_ok{n i:Nat}(x:UInt8)(hn:1≤n)(hi:1≤i):fndOK i n (nodeF n i x)=true:=by
  have h1:((x.toNat:Nat):Int) / 4%(n:Nat)< (n:Nat):=Int.emod_lt_of_pos _ (by omega)
  have h2:0≤((x.toNat:Nat):Int) / 4%(n:Nat):=Int.emod_nonneg _ (by omega)
  have h3:((x.toNat:Nat):Int) / 4%(i:Nat)< (i:Nat):=Int.emod_lt_of_pos _ (by omega)
  have h4:0≤((x.toNat:Nat):Int) / 4%(i:Nat):=Int.emod_nonneg _ (by omega)
  unfold nodeF fndOK
  simp only
  generalize ((x.toNat:Nat):Int) / 4%(n:Nat)=a at*
  generalize ((x.toNat:Nat):Int) / 4%(i:Nat)=b at*
  have h5:0≤((x.toNat:Nat):Int)%4∧((x.toNat:Nat):Int)%4< 4:=⟨Int.emod_nonneg _ (by omega),Int.emod_lt_of_pos _ (by omega)⟩
  generalize ((x.toNat:Nat):Int)%4=c at*
  have h6:c=0∨c=1∨c=2∨c=3:=by omega
  rcases h6 with rfl|rfl|rfl|rfl<;>simp<;>omega
theorem zp1(m:List UInt8){n:Nat}(hn:1≤n):z4e (madeF m n) n=true:=by
  have hlen:(madeF m n).length=max 1 (min m.length 8):=z73 (by omega)
  rw[z4e,Bool.and_eq_true,decide_eq_true_eq,List.all_eq_true,hlen];refine⟨fun i hi=>?_,by omega⟩;rw[madeF,formK_at (List.mem_range.1 hi)]
  split
  · have h1:(((m.getD 0 0).toNat:Nat):Int)%(n:Nat)< (n:Nat):=Int.emod_lt_of_pos _ (by omega)
    have h2:0≤(((m.getD 0 0).toNat:Nat):Int)%(n:Nat):=Int.emod_nonneg _ (by omega)
    rw[fndOK,if_pos rfl]
    simp only[Bool.and_eq_true,decide_eq_true_eq,and_true]
    exact⟨h2,h1⟩
  · exact nodeF_ok _ hn (by omega)
theorem zit(m:List UInt8)(n:Nat):1≤(madeF m n).length∧(madeF m n).length≤8:=by
  rw[madeF,z73 (by omega)];omega
end Go.Proofs.YtegdcifghaldoaaDoor

namespace Go.Proofs.YtegdcifghaldoaaDoor
set_option linter.all false
open Go.Ab Go.RowKit

open Go.Aut
theorem zta(l:List UInt8):(machL l).next.all (rowOK 3 (machN l))=true:=by
  have hp:=(z8h l).1
  rw[List.all_eq_true];intro r hr;obtain⟨s,_,rfl⟩:=List.mem_map.1 hr;rw[rowOK,z95,Bool.and_eq_true,List.all_eq_true];refine⟨by decide,fun x hx=>?_⟩;obtain⟨i,_,rfl⟩:=List.mem_map.1 hx
  have:=Nat.mod_lt (machK l s i) (show 0< machN l by omega)
  rw[tgtOK,Bool.and_eq_true,decide_eq_true_eq,decide_eq_true_eq]
  omega
theorem mach_cls:clsP mcls 3=true:=by decide+kernel
theorem zp2(l:List UInt8):z3p (machL l)=true:=by
  have hp:=z8h l
  have hr:=zta l
  rw[z3p,Bool.and_eq_true,Bool.and_eq_true];refine⟨⟨?_,mach_cls⟩,?_⟩
  · rw[decide_eq_true_eq,show(machL l).next.length=machN l by simp[machL],show(machL l).acc.length=machN l by simp[machL]]
    exact⟨by omega,by omega,rfl,show 1≤3 by decide,show 3≤256 by decide⟩
  · have:(machL l).next.length=machN l:=by simp[machL]
    rw[this];exact hr
def D0:Dfa:={ cls:=[],nc:=0,next:=[],acc:=[] }
def T0:Tra:=⟨[],0,[],[],[]⟩
def Q0:Rul:=⟨0,0,0,0,false⟩
def aB(l:List UInt8)(i:Nat):Int:=((l.getD i 0).toNat:Nat)
theorem aB_r(l:List UInt8)(i:Nat):0≤aB l i∧aB l i< 256:=by
  have:=(l.getD i 0).toNat_lt
  unfold aB;omega
def kindA(l:List UInt8)(k:Nat):Int:=if aB l 0%5=4∧k=0 then 2 else 1+aB l 0%5
def mvN:Mov:=⟨-1,[]⟩
def mvS:Mov:=⟨0,[⟨true,0⟩]⟩
def traK(moves:List (List Mov))(fin:List Bool)(ends:List (List UInt8)):Tra:=⟨mcls,3,moves,fin,ends⟩
def machT(k:Nat):Tra:=match k%8 with
  |0=>traK [[mvN,mvS,mvS]] [true] [[]]
  |1=>traK [[mvN,⟨0,[⟨false,98⟩]⟩,⟨0,[⟨false,97⟩]⟩]] [true] [[]]
  |2=>traK [[mvN,⟨0,[]⟩,mvS]] [true] [[]]
  |3=>traK [[mvN,mvS,mvN]] [true] [[]]
  |4=>traK [[mvN,⟨0,[⟨true,0⟩,⟨true,0⟩]⟩,mvS]] [true] [[]]
  |5=>traK [[mvN,mvS,mvS]] [true] [[97]]
  |6=>traK [[mvN,⟨1,[]⟩,mvS],[mvN,⟨1,[]⟩,⟨0,[⟨false,97⟩,⟨true,0⟩]⟩]] [true,true] [[],[98]]
  |_=>traK [[mvN,⟨1,[⟨true,0⟩]⟩,⟨1,[⟨true,0⟩]⟩],[mvN,⟨0,[]⟩,⟨0,[]⟩]] [true,false] [[],[]]
def rowA(l:List UInt8)(i:Nat):List Int:=(List.range i).map fun j=>(aB l (2+j)%5 - 2)
def madeA (l:List UInt8) (n k:Nat):Atm:=
  if kindA l k=3 then⟨3,[],[],D0,rowA l (n+k),aB l 1%13 - 6,T0,Q0,0⟩
  else⟨kindA l k,madeT (partL l 1 (3+(l.getD 0 0).toNat / 5%2)) n 3,
    if kindA l k=2 then madeT (partL l 4 7) n 3 else if kindA l k=4 then madeT (partL l 5 7) n 3 else[],
    if kindA l k=1 then machL (partL l 4 l.length)else D0,[],0,if kindA l k=4 then machT (l.getD 4 0).toNat else T0,
    if kindA l k=5 then ruleK (l.getD 4 0).toNat else Q0,if kindA l k=5 then aB l 5%(k:Nat)else 0⟩
theorem mkI_good(n:Nat)(b:UInt8):itmOK n (mkI n b)=true:=by
  unfold mkI itmOK
  split
  · rename_i h
    have:(((b.toNat%(n+2):Nat):Nat):Int)< (n:Int):=by omega
    simp only[ne_eq,not_true_eq_false,decide_false,Bool.and_false,Bool.not_false,Bool.and_true,Bool.and_eq_true,decide_eq_true_eq]
    omega
  · simp only[Bool.and_eq_true,decide_eq_true_eq,Bool.not_eq_true',Bool.and_eq_false_iff,decide_eq_false_iff_not]
    omega
theorem zbd(l:List UInt8)(n most:Nat)(h:most≤24):z45 (madeT l n most) n=true:=by
  rw[z45,Bool.and_eq_true,decide_eq_true_eq,List.all_eq_true];refine⟨by rw[madeT,List.length_map,List.length_take];omega,fun x hx=>?_⟩;obtain⟨b,_,rfl⟩:=List.mem_map.1 hx;exact mkI_good n b
theorem nil_ok(n:Nat):z45 [] n=true:=rfl
theorem zp3(k:Nat):traOK (machT k)=true:=by
  have h:k%8< 8:=Nat.mod_lt _ (by decide)
  unfold machT
  generalize k%8=j at h
  match j,h with
  |0,_=>decide+kernel
  |1,_=>decide+kernel
  |2,_=>decide+kernel
  |3,_=>decide+kernel
  |4,_=>decide+kernel
  |5,_=>decide+kernel
  |6,_=>decide+kernel
  |7,_=>decide+kernel
theorem z7t(l:List UInt8)(k:Nat):kindA l k=1∨kindA l k=2∨kindA l k=3∨kindA l k=4∨(kindA l k=5∧1≤k):=by
  have:=aB_r l 0
  unfold kindA
  split<;>omega
theorem ztb(k:Nat):(ruleK k).okB=true:=by
  have h1:k%2=0∨k%2=1:=by omega
  have h2:k / 2%2=0∨k / 2%2=1:=by omega
  have h3:k / 4%3=0∨k / 4%3=1∨k / 4%3=2:=by omega
  unfold ruleK
  rcases h1 with e1|e1<;>rcases h2 with e2|e2<;>rcases h3 with e3|e3|e3<;>rw[e1,e2,e3]<;>decide
theorem z76(l:List UInt8)(n k:Nat):atmOK (madeA l n k) n k=true:=by
  have hT:=zbd (partL l 1 (3+(l.getD 0 0).toNat / 5%2)) n 3 (by decide)
  have hU:=zbd (partL l 4 7) n 3 (by decide)
  have hV:=zbd (partL l 5 7) n 3 (by decide)
  have hN:=nil_ok n
  rcases z7t l k with h|h|h|h|⟨h,hk⟩
  · have e:madeA l n k=⟨1,madeT (partL l 1 (3+(l.getD 0 0).toNat / 5%2)) n 3,[],machL (partL l 4 l.length),[],0,T0,Q0,0⟩:=by rw[madeA,h];rfl
    rw[e,atmOK]
    simp only[atmB1,atmB2,atmB3,atmB4,atmB5,hT,hN,zp2,if_true]
    rfl
  · have e:madeA l n k=⟨2,madeT (partL l 1 (3+(l.getD 0 0).toNat / 5%2)) n 3,madeT (partL l 4 7) n 3,D0,[],0,T0,Q0,0⟩:=by rw[madeA,h];rfl
    rw[e,atmOK]
    simp only[atmB1,atmB2,atmB3,atmB4,atmB5,hT,hU]
    rfl
  · have e:madeA l n k=⟨3,[],[],D0,rowA l (n+k),aB l 1%13 - 6,T0,Q0,0⟩:=by rw[madeA,if_pos h]
    rw[e,atmOK]
    have hr:zes (rowA l (n+k)) (aB l 1%13 - 6) (n+k)=true:=by
      have h1:=aB_r l 1
      simp only[zes,rowA,Bool.and_eq_true,decide_eq_true_eq,List.all_eq_true,List.length_map,List.length_range,z6y]
      refine⟨⟨⟨trivial,fun x hx=>?_⟩,by omega⟩,by omega⟩;obtain⟨j,_,rfl⟩:=List.mem_map.1 hx
      have h2:=aB_r l (2+j)
      omega
    simp only[atmB1,atmB2,atmB3,atmB4,atmB5,hN,hr]
    rfl
  · have e:madeA l n k=⟨4,madeT (partL l 1 (3+(l.getD 0 0).toNat / 5%2)) n 3,madeT (partL l 5 7) n 3,D0,[],0,machT (l.getD 4 0).toNat,Q0,0⟩:=by rw[madeA,h];rfl
    rw[e,atmOK]
    simp only[atmB1,atmB2,atmB3,atmB4,atmB5,hT,hV,zp3]
    rfl
  · have e:madeA l n k=⟨5,madeT (partL l 1 (3+(l.getD 0 0).toNat / 5%2)) n 3,[],D0,[],0,T0,ruleK (l.getD 4 0).toNat,aB l 5%(k:Nat)⟩:=by rw[madeA,h];rfl
    have h5:=aB_r l 5
    have h6:0≤aB l 5%(k:Nat):=Int.emod_nonneg _ (by omega)
    have h7:aB l 5%(k:Nat)< (k:Nat):=Int.emod_lt_of_pos _ (by omega)
    rw[e,atmOK]
    simp only[atmB1,atmB2,atmB3,atmB4,atmB5,hT,hN,ztb,decide_eq_true h6,decide_eq_true h7]
    rfl

end Go.Proofs.YtegdcifghaldoaaDoor

namespace Go.Proofs.YtegdcifghaldoaaDoor
set_option linter.all false
open Go.Ab Go.RowKit

open Go.Aut
def z96(l:List UInt8)(n k:Nat):Lit':=⟨madeA l n k,decide ((l.getD 0 0).toNat / 10%2=1)⟩
def mostK(s n:Nat):List Int:=(List.range n).map fun i=>1+(((s / 4+i)%3:Nat):Int)
def topK(s:Nat):List Int:=if s / 2%2=1 then[12] else[]
def z4j(ats:List Atm)(nd:List UInt8):List (List FNd):=if 0< ats.length∧0< nd.length then[madeF nd ats.length] else[]
def litsK(ls:List (List UInt8))(n k i:Nat):List Lit':=(ls.take i).map fun l=>z96 l n k
def z19(ls:List (List UInt8))(n k i:Nat):List Atm:=(ls.take i).map fun l=>madeA l n k
def madeQ(s:Nat)(ls ats:List (List UInt8))(nd:List UInt8):Prb:=
  ⟨[97,98],mostK s (1+s%2),topK s,litsK ls (1+s%2) (topK s).length 4,z19 ats (1+s%2) (topK s).length 3,z4j (z19 ats (1+s%2) (topK s).length 3) nd⟩
theorem z77(s n:Nat):(mostK s n).length=n:=by simp[mostK]
theorem zce(s:Nat):(topK s).length=s / 2%2:=by unfold topK;split<;>simp<;>omega
theorem zbe(s:Nat)(ls ats:List (List UInt8))(nd:List UInt8):(madeQ s ls ats nd).most.length=1+s%2:=z77 _ _
theorem mostK_r{s n:Nat}:∀ x∈mostK s n,1≤x∧x≤3:=fun x hx=>by
  obtain⟨i,_,rfl⟩:=List.mem_map.1 hx
  omega
theorem topK_r{s:Nat}:∀ x∈topK s,x=12:=fun x hx=>by
  unfold topK at hx
  split at hx
  · simpa using hx
  · cases hx
theorem ze5 (s:Nat) (ls ats:List (List UInt8)) (nd:List UInt8):z1n (madeQ s ls ats nd)=0:=by
  have ht:=zce s
  have hl:(litsK ls (1+s%2) (topK s).length 4).length≤4:=by rw[litsK,List.length_map,List.length_take];omega
  have ha:(z19 ats (1+s%2) (topK s).length 3).length≤3:=by rw[z19,List.length_map,List.length_take];omega
  have hb:bigQ (madeQ s ls ats nd)=false:=by
    simp only[bigQ,Bool.or_eq_false_iff,decide_eq_false_iff_not]
    refine⟨⟨⟨⟨(by decide:¬ 16< 2),?_⟩,?_⟩,?_⟩,?_⟩
    · rw[zbe];show ¬ 12< 1+s%2+(topK s).length;omega
    · show ¬ 40< (litsK ls (1+s%2) (topK s).length 4).length;omega
    · show ¬ 40< (z19 ats (1+s%2) (topK s).length 3).length;omega
    · show ¬ 40< z56 (z4j _ nd) 0
      unfold z4j
      split
      · have:=zit nd (z19 ats (1+s%2) (topK s).length 3).length
        simp only[z56]
        split<;>omega
      · simp[z56]
  have ho:okQ (madeQ s ls ats nd)=true:=by
    simp only[okQ,Bool.and_eq_true,List.all_eq_true,zbe]
    refine⟨⟨⟨⟨⟨⟨rfl,rfl⟩,fun x hx=>?_⟩,fun x hx=>?_⟩,fun l hx=>?_⟩,fun a hx=>?_⟩,fun f hx=>?_⟩
    · have:=mostK_r x hx
      rw[inI,decide_eq_true (by omega),decide_eq_true (by omega)];rfl
    · have:=topK_r x hx
      rw[inI,decide_eq_true (by omega),decide_eq_true (by omega)];rfl
    · obtain⟨y,_,rfl⟩:=List.mem_map.1 hx
      exact z76 _ _ _
    · obtain⟨y,_,rfl⟩:=List.mem_map.1 hx
      exact z76 _ _ _
    · have hx':f∈z4j (z19 ats (1+s%2) (topK s).length 3) nd:=hx
      unfold z4j at hx'
      split at hx'
      · rename_i h
        obtain rfl:f=_:=by simpa using hx'
        exact zp1 _ h.1
      · cases hx'
  rw[z1n,hb,ho];rfl
theorem z9l{α:Type}{l:List α}{i:Nat}(d:α)(h:i< l.length):l.getD i d∈l:=by
  rw[List.getD_eq_getElem?_getD,List.getElem?_eq_getElem h];exact List.getElem_mem h
theorem zp4{q:Prb}(ws:List (List UInt8))(n:List UInt8)(ha:0< q.alph.length)(hm:∀ x∈q.most,0≤x)(ht:∀ x∈q.top,0≤x):candN q (madeM q ws n)=true:=by
  have hs:(madeM q ws n).s.length=q.most.length:=by simp[madeM,wrdsK]
  have hn:(madeM q ws n).n.length=q.top.length:=by simp[madeM,numsK]
  simp only[candN,Bool.and_eq_true,decide_eq_true_eq,List.all_eq_true,List.mem_range,hs,hn,overB,inI,true_and]
  refine⟨fun i hi=>?_,fun i hi=>?_⟩
  · have e:(madeM q ws n).s.getD i []=wrdQ q ws i:=by
      rw[List.getD_eq_getElem?_getD,madeM,wrdsK,List.getElem?_map,List.getElem?_range hi];rfl
    have h0:=hm _ (z9l 0 hi)
    rw[e,wrdQ,wrdK];refine⟨by rw[List.length_map,List.length_take];omega,fun b hb=>?_⟩;obtain⟨c,_,rfl⟩:=List.mem_map.1 hb;exact List.contains_iff_mem.2 (z9l 0 (Nat.mod_lt _ ha))
  · have e:(madeM q ws n).n.getD i 0=numQ q n i:=by
      rw[List.getD_eq_getElem?_getD,madeM,numsK,List.getElem?_map,List.getElem?_range hi];rfl
    have h0:=ht _ (z9l 0 hi)
    rw[e,numQ]
    have h1:0≤((((n.getD i 0).toNat:Nat):Int))%(q.top.getD i 0+1):=Int.emod_nonneg _ (by omega)
    have h2:((((n.getD i 0).toNat:Nat):Int))%(q.top.getD i 0+1)< q.top.getD i 0+1:=Int.emod_lt_of_pos _ (by omega)
    omega

end Go.Proofs.YtegdcifghaldoaaDoor
