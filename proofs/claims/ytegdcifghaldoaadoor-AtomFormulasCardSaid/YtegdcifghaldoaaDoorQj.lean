/- Contracts of functions and plain facts, part 10. -/
import Derived.Test.YtegdcifghaldoaaDoorQf
import Derived.Test.YtegdcifghaldoaaDoorQh
set_option maxHeartbeats 4000000
namespace Go.Proofs.YtegdcifghaldoaaDoor
set_option linter.all false
open Go.Ab Go.RowKit

open Go.Aut
def atBS:QSpec:=fun vs K=>∃ (l:List UInt8) (i:Nat),vs=[.c (.ds l.length (.u8s l)),.c (.int .i64 (i:Int))]∧l.length≤9223372036854775807∧K (.c (.int .i64 (((l.getD i 0).toNat:Nat):Int)))
theorem atB_ok:z11 Tryd.prog gl 35 atBS:=by
 refine z0w (Γ:=g0) (N:=14) Tryd.func35 rfl rfl fun vs K h=>?_;obtain⟨l,i,rfl,hl,h⟩:=h;refine⟨_,h,rfl,by simp,fun w I=>?_⟩;refine srR g0_ok fun _ K2=>?_;refine znv ?_;refine s_n K2 ?_;refine seq_k fun _ K3=>?_;refine srR g0_ok fun _ K5=>?_
 iterate 4 refine znv ?_
 refine s_n K5 ?_;refine z06 (b:=_) rfl (fun h_t8=>?_) (fun h_t8=>?_)
 ·try simp only[dQ,reduceIte]at h_t8
  refine srR g0_ok fun _ K7=>?_
  iterate 3 refine znv ?_
  refine sXEUf_4 ?_;refine exA (.c (.u8 (l.getD i 0))) (as_eq (congrArg (fun v=>SV.c (Cell.u8 v)) (congrArg (fun i=>l.getD i 0) (by omega)))) ?_
  iterate 2 refine znv ?_
  refine s_n K7 ?_;refine z0c (z02 g0_ok (fun _ _ h=>h) (by first|rfl|assumption) [.tmp 4] rfl ?_);refine rtD ?_
  rfl
 ·try simp only[dQ,reduceIte]at h_t8
  refine z0j ?_;apply K3;refine srR g0_ok fun _ K9=>?_;refine znv ?_;refine s_n K9 ?_;refine z0c (z02 g0_ok (fun _ _ h=>h) (by first|rfl|assumption) [.tmp 4] rfl ?_);refine rtD ?_
  show SV.c (.int .i64 0)=_
  rw[List.getD_eq_getElem?_getD,List.getElem?_eq_none (by omega)];rfl

end Go.Proofs.YtegdcifghaldoaaDoor

namespace Go.Proofs.YtegdcifghaldoaaDoor
set_option linter.all false
open Go.Ab Go.RowKit

section
variable {a b:Prop}
theorem qBw0(h:a:=by first|exact vcA|(simp[hrl]<;>omega)|exact Nat.le_of_ble_eq_true rfl|(refine⟨by omega,by omega,?_⟩;exact z01.solid (itmR.dat _))|exact z42.mpr ⟨by omega,by omega⟩|exact⟨by omega,by omega⟩|(refine⟨by omega,by omega,?_⟩;exact pl2 rfl rfl)|(simp only[z2a];rw[hrl];omega)|(show(z0n _ _).length=_;rw[hrl])|(show _< (z0n _ _).length;first|(rw[z0v itmR (fun _ _=>trivial)];omega)|(rw[z0v fndR (fun _ _=>trivial)];omega))|(show _≤(z0n _ _).length;first|(rw[z0v itmR (fun _ _=>trivial)];omega)|(rw[z0v fndR (fun _ _=>trivial)];omega))|rfl|exact vcB):a:=h
theorem qBw1(h:a:=by rw[List.getD_eq_getElem?_getD,show(k.1:Int).toNat=k.1 by omega,hx];rfl):a:=h
theorem qBw2(h:a:=by first|exact vcA|(simp[hrl]<;>omega)|exact Nat.le_of_ble_eq_true rfl|(refine⟨by omega,by omega,?_⟩;exact z01.solid (fndR.dat _))|exact z42.mpr ⟨by omega,by omega⟩|exact⟨by omega,by omega⟩|(refine⟨by omega,by omega,?_⟩;exact pl2 rfl rfl)|(simp only[z2a];rw[hrl];omega)|(show(z0n _ _).length=_;rw[hrl])|(show _< (z0n _ _).length;first|(rw[z0v itmR (fun _ _=>trivial)];omega)|(rw[z0v fndR (fun _ _=>trivial)];omega))|(show _≤(z0n _ _).length;first|(rw[z0v itmR (fun _ _=>trivial)];omega)|(rw[z0v fndR (fun _ _=>trivial)];omega))|rfl|exact vcB):a:=h
theorem uBw_0(h:a:=by
    repeat' (first|exact zak itmR|exact z5n itmR _|exact z01.to (z0i _)|exact z01.low (z0i _)|exact z01.to (z0k _)|exact z01.low (z0k _)|exact z01.to (z0l _)|exact z01.low (z0l _)|exact z01.to (z09 _)|exact z01.low (z09 _)|exact z01.to (z0m _)|exact z01.low (z0m _)|exact z01.to (z0b _)|exact z01.low (z0b _)|exact z01.to (z0d _ _)|exact z01.low (z0d _ _)|exact z01.to (z00 itmR _)|exact z01.low (z00 itmR _)|exact z01.to (z00 movR _)|exact z01.low (z00 movR _)|exact z01.to (z00 pceR _)|exact z01.low (z00 pceR _)|exact z01.to (z00 fndR _)|exact z01.low (z00 fndR _)|exact z01.to (z00 atmR _)|exact z01.low (z00 atmR _)|exact z01.to (z00 litR _)|exact z01.low (z00 litR _)|exact z01.to (z00 mdlR _)|exact z01.low (z00 mdlR _)|exact z0t (z0h z0q z03)|exact z0p (z0h z0q z03)|exact z0t z03|exact z0p z03|exact trivial|refine aI ?_ ?_|exact cC0|refine low_cons' ?_ ?_|exact cC1|fail)
    all_goals first|omega|(refine z8s (z00 itmR _) ?_;rw[hsucc,z75];first|rfl|(simp;done))|(rw[hsucc];simp;done)|(show _=(List.map _ _).length;rw[z1f (by omega)];omega)|(rw[z1f (by omega)];omega)|exact Nat.le_refl _|(show allTo _ _ _;exact z01.to (z00 itmR _))|(simp[-List.reduceReplicate];done)|(simp[-List.reduceReplicate]<;>omega)|skip):a:=h
theorem uBw_1(h:a:=by
    repeat' (first|exact zak fndR|exact z5n fndR _|exact z01.to (z0i _)|exact z01.low (z0i _)|exact z01.to (z0k _)|exact z01.low (z0k _)|exact z01.to (z0l _)|exact z01.low (z0l _)|exact z01.to (z09 _)|exact z01.low (z09 _)|exact z01.to (z0m _)|exact z01.low (z0m _)|exact z01.to (z0b _)|exact z01.low (z0b _)|exact z01.to (z0d _ _)|exact z01.low (z0d _ _)|exact z01.to (z00 itmR _)|exact z01.low (z00 itmR _)|exact z01.to (z00 movR _)|exact z01.low (z00 movR _)|exact z01.to (z00 pceR _)|exact z01.low (z00 pceR _)|exact z01.to (z00 fndR _)|exact z01.low (z00 fndR _)|exact z01.to (z00 atmR _)|exact z01.low (z00 atmR _)|exact z01.to (z00 litR _)|exact z01.low (z00 litR _)|exact z01.to (z00 mdlR _)|exact z01.low (z00 mdlR _)|exact z0t (z0h z0q z03)|exact z0p (z0h z0q z03)|exact z0t z03|exact z0p z03|exact trivial|refine aI ?_ ?_|exact cC0|refine low_cons' ?_ ?_|exact cC1|fail)
    all_goals first|omega|(refine z8s (z00 fndR _) ?_;rw[hsucc,z75];first|rfl|(simp;done))|(rw[hsucc];simp;done)|(show _=(List.map _ _).length;rw[z1f (by omega)];omega)|(rw[z1f (by omega)];omega)|exact Nat.le_refl _|(show allTo _ _ _;exact z01.to (z00 fndR _))|(simp[-List.reduceReplicate];done)|(simp[-List.reduceReplicate]<;>omega)|skip):a:=h
theorem DBw_0(kZ:b)(h:HidB b→a:=by intro kZ;(repeat first|refine aI qBw0 ?_|refine z0f qBw0 ?_|refine z0a qBw0 ?_|refine z0r qBw0 ?_|refine z0g ?_);exact kZ.out):a:=h ⟨kZ⟩
theorem z32(kZ:b)(h:HidB b→a:=by intro kZ;refine sX ?_;refine DBw_0 ?_;refine exI ?_;exact kZ.out):a:=h ⟨kZ⟩
theorem zpu(kZ:b)(h:HidB b→a:=by intro kZ;refine sXT ?_;refine DBw_0 ?_;refine exI ?_;exact kZ.out):a:=h ⟨kZ⟩
theorem DBw_3(kZ:b)(h:HidB b→a:=by intro kZ;(repeat first|refine aI qBw2 ?_|refine z0f qBw2 ?_|refine z0a qBw2 ?_|refine z0r qBw2 ?_|refine z0g ?_);exact kZ.out):a:=h ⟨kZ⟩
theorem z7c(kZ:b)(h:HidB b→a:=by intro kZ;refine sX ?_;refine DBw_3 ?_;refine exI ?_;exact kZ.out):a:=h ⟨kZ⟩
theorem z5i(kZ:b)(h:HidB b→a:=by intro kZ;refine sX ?_;refine DBw_0 ?_;exact kZ.out):a:=h ⟨kZ⟩
theorem sXTEBw_6(kZ:b)(h:HidB b→a:=by intro kZ;refine sXT ?_;refine DBw_0 ?_;exact kZ.out):a:=h ⟨kZ⟩
theorem zel(kZ:b)(h:HidB b→a:=by intro kZ;refine sX ?_;refine DBw_3 ?_;exact kZ.out):a:=h ⟨kZ⟩
end
open Go.Aut
def itI(b:UInt8):Itm:=if b=88∨b=89 then⟨((b - 88).toNat:Nat),0⟩ else⟨-1,b⟩
def itemL(l:List UInt8):List Itm:=l.map itI
theorem z2m{α β:Type}{g:α→β}{l:List α}{k:Nat}{x:α}(hx:l[k]? =some x):(l.take (k+1)).map g=(l.take k).map g++[g x]:=by
  rw[List.take_add_one,hx];simp
theorem z1f{α β:Type}{g:α→β}{l:List α}{k:Nat}(h:k≤l.length):((l.take k).map g).length=k:=by simp;omega
def itemS:QSpec:=fun vs K=>∃ l:List UInt8,vs=[.c (.str l)]∧l.length≤1048576∧K (.c (itmsX (itemL l)))
theorem item_ok:z3s Tryd.prog gl 31 itemS:=by
 refine z3k (Γ:=g0) (N:=39) Tryd.func31 rfl rfl fun vs K h=>?_;obtain⟨l,rfl,hl,h⟩:=h;refine⟨_,h,trivial,by simp,fun w I=>?_⟩;refine srR g0_ok fun _ K2=>?_;refine z32 ?_;refine s_n K2 ?_;refine srR g0_ok fun _ K4=>?_
 iterate 2 refine z32 ?_
 refine s_n K4 ?_;refine seq_k fun _ K5=>?_;refine srR g0_ok fun _ K7=>?_;refine z32 ?_;refine s_n K7 ?_;refine z0e ?_;refine z13 (α:=Nat×Nat) (fun k=>[(0,.c (.str l)),(3,.c (.slice 0 0 ((l.take k.1).map itI).length k.2)),(4,.c (.int .i64 (k.1:Nat)))]) (fun k=>[(0,.own 27 (.cells (z0n itmL ((l.take k.1).map itI))) (k.2*2))]) 1 (fun k=>k.1≤l.length) (fun k=>l.length - k.1) ?_ ?_
 ·refine dnS [] id (0,0) (by simp) [0] uBw_0 uBw_0 uBw_0 uBw_0
 ·intro k hk
  refine seq_k fun _ K8=>?_;refine srR g0_ok fun _ K10=>?_
  iterate 4 refine z32 ?_
  refine s_n K10 ?_;refine z06 (b:=_) rfl (fun h_t9=>?_) (fun h_t9=>?_)
  ·try simp only[dQ,reduceIte]at h_t9
   refine z0j ?_;apply K8;refine seq_k fun _ K11=>?_;refine z0e ?_
   have hkl:k.1< l.length:=by omega
   obtain⟨x,hx⟩:=hasAt hkl
   have hkL:((l.take k.1).map itI).length=k.1:=z1f (by omega)
   have hrl:=z0v itmR (l:=(l.take k.1).map itI) (fun _ _=>trivial)
   refine srR g0_ok fun _ K13=>?_
   iterate 2 refine z32 ?_
   refine z5i ?_;refine exA (.c (.u8 x)) (as_eq (congrArg (fun v=>SV.c (Cell.u8 v)) qBw1)) ?_;refine z32 ?_;refine z5i ?_;refine exB (fun hb4=>?_) (fun hb4=>?_)
   ·try simp only[dQ,reduceIte]at hb4
    iterate 4 refine sN ?_
    refine z32 ?_;refine s_n K13 ?_;refine z06 (b:=_) rfl (fun _=>?_) (fun h_t21=>?_)
    rotate_left 1
    ·exfalso;simp at h_t21
    have hmk:itI x=⟨((x - 88).toNat:Nat),0⟩:=by rw[itI,if_pos (by first|exact .inl hb4|exact .inr h_t21)]
    have hxb:=(x - 88).toNat_lt
    refine z04 g0_ok fun _ K14=>?_
    iterate 3 refine z32 ?_
    refine z5i ?_;refine exA (.c (.u8 x)) (as_eq (congrArg (fun v=>SV.c (Cell.u8 v)) qBw1)) ?_
    iterate 2 refine z32 ?_
    refine z5i ?_;refine exA (.agg (.cells (itmL (itI x)))) (as_eq (by rw[hmk];rfl)) ?_;refine z32 ?_;refine z5i ?_;intro cap8 hcap8;refine exI ?_;refine z32 ?_;refine s_n K14 ?_;refine z08 ?_;apply K11;refine z04 g0_ok fun _ K15=>?_
    iterate 3 refine z32 ?_
    refine s_n K15 ?_
    have hsucc:=z2m (g:=itI) hx
    refine dnS [] (fun _=>2) (k.1+1,cap8) ⟨by first|omega|exact⟨by omega,by omega⟩,by omega⟩ [2] uBw_0 uBw_0 uBw_0 uBw_0
   ·try simp only[dQ,reduceIte]at hb4
    iterate 2 refine zpu ?_
    refine sXTEBw_6 ?_;refine exA (.c (.u8 x)) (as_eq (congrArg (fun v=>SV.c (Cell.u8 v)) qBw1)) ?_;refine zpu ?_;refine z32 ?_;refine s_n K13 ?_;refine z06 (b:=_) rfl (fun h_t21=>?_) (fun h_t21=>?_)
    ·try simp only[dQ,reduceIte]at h_t21
     have hmk:itI x=⟨((x - 88).toNat:Nat),0⟩:=by rw[itI,if_pos (by first|exact .inl hb4|exact .inr h_t21)]
     have hxb:=(x - 88).toNat_lt
     refine z04 g0_ok fun _ K16=>?_
     iterate 3 refine z32 ?_
     refine z5i ?_;refine exA (.c (.u8 x)) (as_eq (congrArg (fun v=>SV.c (Cell.u8 v)) qBw1)) ?_
     iterate 2 refine z32 ?_
     refine z5i ?_;refine exA (.agg (.cells (itmL (itI x)))) (as_eq (by rw[hmk];rfl)) ?_;refine z32 ?_;refine z5i ?_;intro cap8 hcap8;refine exI ?_;refine z32 ?_;refine s_n K16 ?_;refine z08 ?_;apply K11;refine z04 g0_ok fun _ K17=>?_
     iterate 3 refine z32 ?_
     refine s_n K17 ?_
     have hsucc:=z2m (g:=itI) hx
     refine dnS [] (fun _=>2) (k.1+1,cap8) ⟨by first|omega|exact⟨by omega,by omega⟩,by omega⟩ [2] uBw_0 uBw_0 uBw_0 uBw_0
    ·try simp only[dQ,reduceIte]at h_t21
     have hmk:itI x=⟨-1,x⟩:=by rw[itI,if_neg (by intro hh;rcases hh with hh|hh;exact hb4 hh;exact h_t21 hh)]
     refine z04 g0_ok fun _ K18=>?_
     iterate 3 refine z32 ?_
     refine z5i ?_;refine exA (.c (.u8 x)) (as_eq (congrArg (fun v=>SV.c (Cell.u8 v)) qBw1)) ?_;refine z5i ?_;refine exA (.agg (.cells (itmL (itI x)))) (as_eq (by rw[hmk];rfl)) ?_;refine z32 ?_;refine z5i ?_;intro cap6 hcap6;refine exI ?_;refine z32 ?_;refine s_n K18 ?_;refine z08 ?_;apply K11;refine z04 g0_ok fun _ K19=>?_
     iterate 3 refine z32 ?_
     refine s_n K19 ?_
     have hsucc:=z2m (g:=itI) hx
     refine dnS [] (fun _=>2) (k.1+1,cap6) ⟨by first|omega|exact⟨by omega,by omega⟩,by omega⟩ [2] uBw_0 uBw_0 uBw_0 uBw_0
  ·try simp only[dQ,reduceIte]at h_t9
   refine z0z ?_;refine z05 ?_;refine z05 ?_;refine z0s ?_;apply K5;refine srR g0_ok fun _ K21=>?_
   iterate 2 refine z32 ?_
   refine s_n K21 ?_
   have hfin:(l.take k.1).map itI=itemL l:=by rw[List.take_of_length_le (by omega)];rfl
   rw[hfin]
   have hrl:=z0v itmR (l:=itemL l) (fun _ _=>trivial)
   refine z0c (z17 g0_ok (fun _ _ h=>h) (trivial) [0] [.tmp 2] rfl ?_)
   repeat' (first|exact z5n itmR _|exact z01.to (z0i _)|exact z01.low (z0i _)|exact z01.to (z0k _)|exact z01.low (z0k _)|exact z01.to (z0l _)|exact z01.low (z0l _)|exact z01.to (z09 _)|exact z01.low (z09 _)|exact z01.to (z0m _)|exact z01.low (z0m _)|exact z01.to (z0b _)|exact z01.low (z0b _)|exact z01.to (z0d _ _)|exact z01.low (z0d _ _)|exact z01.to (z00 itmR _)|exact z01.low (z00 itmR _)|exact z01.to (z00 movR _)|exact z01.low (z00 movR _)|exact z01.to (z00 pceR _)|exact z01.low (z00 pceR _)|exact z01.to (z00 fndR _)|exact z01.low (z00 fndR _)|exact z01.to (z00 atmR _)|exact z01.low (z00 atmR _)|exact z01.to (z00 litR _)|exact z01.low (z00 litR _)|exact z01.to (z00 mdlR _)|exact z01.low (z00 mdlR _)|exact z0t (z0h z0q z03)|exact z0p (z0h z0q z03)|exact z0t z03|exact z0p z03|exact trivial|refine aI ?_ ?_|exact cC0|refine low_cons' ?_ ?_|exact cC1|fail)
   all_goals first|omega|(simp[hrl];done)|(rw[if_pos ⟨rfl,by simp[hrl]⟩];done)|(show(_:Cont)=_;rw[if_pos ⟨rfl,by simp only[z2a];rw[hrl];rfl⟩];done)|(simp only[z2a];rw[hrl];exact Nat.le_of_eq (by simp))|(simp[-List.reduceReplicate];done)|(simp[-List.reduceReplicate]<;>omega)|skip

def nodeS:QSpec:=fun vs K=>∃ (f:List FNd) (x0:FNd),vs=[.c (.ds f.length (.cells (z0n fndL f))),.agg (.cells (fndL x0))]∧f.length≤1048576∧K (.c (.ds (f++[x0]).length (.cells (z0n fndL (f++[x0])))))
theorem node_ok:z3s Tryd.prog gl 15 nodeS:=by
 refine z3k (Γ:=g0) (N:=25) Tryd.func15 rfl rfl fun vs K h=>?_;obtain⟨f,x0,rfl,hl,h⟩:=h;refine⟨_,h,trivial,by simp,fun w I=>?_⟩;refine srR g0_ok fun _ K2=>?_
 iterate 2 refine z7c ?_
 refine s_n K2 ?_;refine srR g0_ok fun _ K4=>?_
 iterate 2 refine z7c ?_
 refine s_n K4 ?_;refine seq_k fun _ K5=>?_;refine srR g0_ok fun _ K7=>?_;refine z7c ?_;refine s_n K7 ?_;refine z0e ?_;refine z13 (α:=Nat×Nat) (fun k=>[(0,.c (.ds f.length (.cells (z0n fndL f)))),(3,.c (.dp (.cells (fndL x0)) 0)),(5,.c (.slice 0 0 ((f.take k.1).map id).length k.2)),(6,.c (.int .i64 (k.1:Nat)))]) (fun k=>[(0,.own 39 (.cells (z0n fndL ((f.take k.1).map id))) (k.2*3))]) 1 (fun k=>k.1≤f.length) (fun k=>f.length - k.1) ?_ ?_
 ·refine dnS [0] (fun _=>1) (0,0) (by simp) [1] uBw_1 uBw_1 uBw_1 uBw_1
 ·intro k hk
  refine seq_k fun _ K8=>?_;refine srR g0_ok fun _ K10=>?_
  iterate 4 refine z7c ?_
  refine s_n K10 ?_;refine z06 (b:=_) rfl (fun h_t11=>?_) (fun h_t11=>?_)
  ·try simp only[dQ,reduceIte]at h_t11
   refine z0j ?_;apply K8;refine seq_k fun _ K11=>?_;refine z0e ?_
   have hkl:k.1< f.length:=by omega
   obtain⟨x,hx⟩:=hasAt hkl
   have hkL:((f.take k.1).map id).length=k.1:=z1f (by omega)
   have hrl:=z0v fndR (l:=(f.take k.1).map id) (fun _ _=>trivial)
   refine z04 g0_ok fun _ K12=>?_
   iterate 4 refine z7c ?_
   refine zel ?_;refine exA (.agg (.cells (fndL x))) (z36 fndR (fun _ _=>trivial) (i:=k.1) (by first|rfl|omega) rfl hx) ?_;refine z7c ?_;refine zel ?_;intro cap6 hcap6;refine exI ?_;refine z7c ?_;refine s_n K12 ?_;refine z08 ?_;apply K11;refine z04 g0_ok fun _ K13=>?_
   iterate 3 refine z7c ?_
   refine s_n K13 ?_
   have hsucc:=z2m (g:=id) hx
   refine dnS [] (fun _=>2) (k.1+1,cap6) ⟨by first|omega|exact⟨by omega,by omega⟩,by omega⟩ [2] uBw_1 uBw_1 uBw_1 uBw_1
  ·try simp only[dQ,reduceIte]at h_t11
   refine z0z ?_;refine z05 ?_;refine z05 ?_;refine z0s ?_;apply K5
   have hke:k.1=f.length:=by omega
   have hkL:((f.take k.1).map id).length=k.1:=z1f (by omega)
   have hrl:=z0v fndR (l:=(f.take k.1).map id) (fun _ _=>trivial)
   refine srR g0_ok fun _ K15=>?_;refine z7c ?_;refine zel ?_;refine exA (.agg (.cells (fndL x0))) (as_eq rfl) ?_;refine z7c ?_;refine zel ?_;intro cap3 hcap3;refine exI ?_;refine z7c ?_;refine s_n K15 ?_
   have hfin:z0n fndL ((f.take k.1).map id)++([]++fndL x0)=z0n fndL (f++[x0]):=by rw[hke,List.take_length,List.map_id,z75];rfl
   rw[hfin]
   have hrl2:=z0v fndR (l:=f++[x0]) (fun _ _=>trivial)
   have hsz:(ty 39).size=3:=rfl
   have hL1:((f.take k.1).map id).length=f.length:=by rw[z1f (by omega)];exact hke
   refine z0c (z17 g0_ok (fun _ _ h=>h) (trivial) [2] [.tmp 4] rfl ?_)
   repeat' (first|exact z5n fndR _|exact z01.to (z0i _)|exact z01.low (z0i _)|exact z01.to (z0k _)|exact z01.low (z0k _)|exact z01.to (z0l _)|exact z01.low (z0l _)|exact z01.to (z09 _)|exact z01.low (z09 _)|exact z01.to (z0m _)|exact z01.low (z0m _)|exact z01.to (z0b _)|exact z01.low (z0b _)|exact z01.to (z0d _ _)|exact z01.low (z0d _ _)|exact z01.to (z00 itmR _)|exact z01.low (z00 itmR _)|exact z01.to (z00 movR _)|exact z01.low (z00 movR _)|exact z01.to (z00 pceR _)|exact z01.low (z00 pceR _)|exact z01.to (z00 fndR _)|exact z01.low (z00 fndR _)|exact z01.to (z00 atmR _)|exact z01.low (z00 atmR _)|exact z01.to (z00 litR _)|exact z01.low (z00 litR _)|exact z01.to (z00 mdlR _)|exact z01.low (z00 mdlR _)|exact z0t (z0h z0q z03)|exact z0p (z0h z0q z03)|exact z0t z03|exact z0p z03|exact trivial|refine aI ?_ ?_|exact cC0|refine low_cons' ?_ ?_|exact cC1|fail)
   all_goals first|omega|(show _≤_;simp only[z2a,g0_ty,hsz,hL1];rw[hrl2];simp;done)|(rw[if_pos ⟨rfl,by simp only[z2a,g0_ty,hsz,hL1];rw[hrl2];simp⟩];done)|(simp[hL1];done)|(simp[-List.reduceReplicate];done)|(simp[-List.reduceReplicate]<;>omega)|skip


end Go.Proofs.YtegdcifghaldoaaDoor

namespace Go.Proofs.YtegdcifghaldoaaDoor
set_option linter.all false
open Go.Ab Go.RowKit

open Go.Aut
end Go.Proofs.YtegdcifghaldoaaDoor

namespace Go.Proofs.YtegdcifghaldoaaDoor
set_option linter.all false
open Go.Ab Go.RowKit

section
variable {a b:Prop}
theorem qBz0(h:a:=by first|exact vcA|(simp[hrl]<;>omega)|exact Nat.le_of_ble_eq_true rfl|(refine⟨by omega,by omega,?_⟩;exact z01.solid (fndR.dat _))|exact z42.mpr ⟨by omega,by omega⟩|exact⟨by omega,by omega⟩|(refine⟨by omega,by omega,?_⟩;exact pl2 rfl rfl)|(simp only[z2a];rw[hrl];omega)|(show(z0n _ _).length=_;rw[hrl])|(show _< (z0n _ _).length;first|(rw[z0v itmR (fun _ _=>trivial)];omega)|(rw[z0v fndR (fun _ _=>trivial)];omega))|(show _≤(z0n _ _).length;first|(rw[z0v itmR (fun _ _=>trivial)];omega)|(rw[z0v fndR (fun _ _=>trivial)];omega))|rfl|exact(by decide:List.Nodup [0,1])|exact vcB):a:=h
theorem qBz1(h:a:=by first|(rw[nodeF,if_pos (show 1+((x.toNat:Nat):Int)%4=1 by omega),if_neg (show ¬ 3≤1+((x.toNat:Nat):Int)%4 by omega)];rfl)|(rw[nodeF,if_neg (show ¬ 1+((x.toNat:Nat):Int)%4=1 by omega),if_neg (show ¬ 3≤1+((x.toNat:Nat):Int)%4 by omega)];rfl)|(rw[nodeF,if_neg (show ¬ 1+((x.toNat:Nat):Int)%4=1 by omega),if_pos (show 3≤1+((x.toNat:Nat):Int)%4 by omega)];rfl)|(exfalso;omega)):a:=h
theorem uBz_0(h:a:=by
    repeat' (first|exact zak fndR|exact z5n fndR _|exact z01.to (z0i _)|exact z01.low (z0i _)|exact z01.to (z0k _)|exact z01.low (z0k _)|exact z01.to (z0l _)|exact z01.low (z0l _)|exact z01.to (z09 _)|exact z01.low (z09 _)|exact z01.to (z0m _)|exact z01.low (z0m _)|exact z01.to (z0b _)|exact z01.low (z0b _)|exact z01.to (z0d _ _)|exact z01.low (z0d _ _)|exact z01.to (z00 itmR _)|exact z01.low (z00 itmR _)|exact z01.to (z00 movR _)|exact z01.low (z00 movR _)|exact z01.to (z00 pceR _)|exact z01.low (z00 pceR _)|exact z01.to (z00 fndR _)|exact z01.low (z00 fndR _)|exact z01.to (z00 atmR _)|exact z01.low (z00 atmR _)|exact z01.to (z00 litR _)|exact z01.low (z00 litR _)|exact z01.to (z00 mdlR _)|exact z01.low (z00 mdlR _)|exact z0t (z0h z0q z03)|exact z0p (z0h z0q z03)|exact z0t z03|exact z0p z03|exact trivial|refine aI ?_ ?_|exact cC0|refine low_cons' ?_ ?_|exact cC1|fail)
    all_goals first|omega|(refine z8s (z00 fndR _) ?_;rw[hsucc,z75];first|rfl|(simp;done))|(rw[hsucc];simp;done)|(show _=(List.map _ _).length;rw[z1f (by omega)];omega)|(rw[z1f (by omega)];omega)|exact Nat.le_refl _|(show allTo _ _ _;exact z01.to (z00 fndR _))|(refine z8s (z00 fndR _) ?_;show _=z0n fndL (formK m n 1);rw[zgi];rfl)|(show _=(formK m n 1).length;rw[zgi];rfl)|(rw[z67 (by omega)];done)|(show _=(formK _ _ _).length;rw[z67 (by omega)];omega)|(rw[z67 (by omega)];omega)|(simp[formK];done)|(simp[-List.reduceReplicate];done)|(simp[-List.reduceReplicate]<;>omega)|skip):a:=h
theorem uBz_1(h:a:=by
    repeat' (first|exact z5n fndR _|exact z01.to (z0i _)|exact z01.low (z0i _)|exact z01.to (z0k _)|exact z01.low (z0k _)|exact z01.to (z0l _)|exact z01.low (z0l _)|exact z01.to (z09 _)|exact z01.low (z09 _)|exact z01.to (z0m _)|exact z01.low (z0m _)|exact z01.to (z0b _)|exact z01.low (z0b _)|exact z01.to (z0d _ _)|exact z01.low (z0d _ _)|exact z01.to (z00 itmR _)|exact z01.low (z00 itmR _)|exact z01.to (z00 movR _)|exact z01.low (z00 movR _)|exact z01.to (z00 pceR _)|exact z01.low (z00 pceR _)|exact z01.to (z00 fndR _)|exact z01.low (z00 fndR _)|exact z01.to (z00 atmR _)|exact z01.low (z00 atmR _)|exact z01.to (z00 litR _)|exact z01.low (z00 litR _)|exact z01.to (z00 mdlR _)|exact z01.low (z00 mdlR _)|exact z0t (z0h z0q z03)|exact z0p (z0h z0q z03)|exact z0t z03|exact z0p z03|exact trivial|refine aI ?_ ?_|exact cC0|refine low_cons' ?_ ?_|exact cC1|fail)
    all_goals first|omega|(simp[hrl];done)|(rw[if_pos ⟨rfl,by simp[hrl]⟩];done)|(show(_:Cont)=_;rw[if_pos ⟨rfl,by simp only[z2a];rw[hrl];rfl⟩];done)|(simp only[z2a];rw[hrl];exact Nat.le_of_eq (by simp))|(simp[-List.reduceReplicate];done)|(simp[-List.reduceReplicate]<;>omega)|skip):a:=h
theorem DBz_0(kZ:b)(h:HidB b→a:=by intro kZ;(repeat first|refine aI qBz0 ?_|refine z0f qBz0 ?_|refine z0a qBz0 ?_|refine z0r qBz0 ?_|refine z0g ?_);exact kZ.out):a:=h ⟨kZ⟩
theorem z1u(kZ:b)(h:HidB b→a:=by intro kZ;refine sX ?_;refine DBz_0 ?_;refine exI ?_;exact kZ.out):a:=h ⟨kZ⟩
theorem sXTBz_2(kZ:b)(h:HidB b→a:=by intro kZ;refine sXT ?_;refine DBz_0 ?_;refine exI ?_;exact kZ.out):a:=h ⟨kZ⟩
theorem zem(kZ:b)(h:HidB b→a:=by intro kZ;refine sX0 ?_;refine DBz_0 ?_;refine exI ?_;exact kZ.out):a:=h ⟨kZ⟩
theorem z5j(kZ:b)(h:HidB b→a:=by intro kZ;refine sX ?_;refine DBz_0 ?_;exact kZ.out):a:=h ⟨kZ⟩
end
open Go.Aut
def nodeF(n i:Nat)(x:UInt8):FNd:=⟨1+((x.toNat:Nat):Int)%4,if 1+((x.toNat:Nat):Int)%4=1 then((x.toNat:Nat):Int) / 4%(n:Nat) else((x.toNat:Nat):Int) / 4%(i:Nat),if 3≤1+((x.toNat:Nat):Int)%4 then(i:Nat) - 1 else 0⟩
def formK(m:List UInt8)(n k:Nat):List FNd:=⟨1,(((m.getD 0 0).toNat:Nat):Int)%(n:Nat),0⟩::(List.range (k - 1)).map fun j=>nodeF n (j+1) (m.getD (j+1) 0)
def madeF(m:List UInt8)(n:Nat):List FNd:=formK m n (max 1 (min m.length 8))
theorem z67{m:List UInt8}{n k:Nat}(h:1≤k):(formK m n k).length=k:=by simp[formK];omega
theorem z7p{m:List UInt8}{n k:Nat}{x:UInt8}(h:1≤k)(hx:m[k]? =some x):formK m n (k+1)=formK m n k++[nodeF n k x]:=by
  obtain⟨j,rfl⟩:∃ j,k=j+1:=⟨k - 1,by omega⟩
  have:m.getD (j+1) 0=x:=by rw[List.getD_eq_getElem?_getD,hx];rfl
  rw[formK,formK,show j+1+1 - 1=j+1 by omega,show j+1 - 1=j by omega,List.range_succ,List.map_append,List.map_singleton,this];rfl
theorem zgi{m:List UInt8}{n:Nat}:formK m n 1=[⟨1,(((m.getD 0 0).toNat:Nat):Int)%(n:Nat),0⟩]:=rfl
attribute [local irreducible] formK
noncomputable def cmf:Ctx:={ P:=Tryd.prog,ty:=ty,glob:=gl,fs:=[(35,.flat atBS)] }
theorem z2x:cmf.OK:=⟨tyOK,⟨⟨z07 Tryd.func35 kQf rfl,atB_ok⟩,trivial⟩,mixed⟩
@[simp] theorem cmf_ty:cmf.ty=ty:=rfl

def madeFS:QSpec:=fun vs K=>∃ (m:List UInt8) (n:Nat),vs=[.c (.ds m.length (.u8s m)),.c (.int .i64 (n:Nat))]∧(m.length≤9223372036854775807∧n≤1048576∧1≤n)∧K (.c (.ds (madeF m n).length (.cells (z0n fndL (madeF m n)))))
theorem madeF_ok:z3s Tryd.prog gl 13 madeFS:=by
 refine z3k (Γ:=cmf) (N:=57) Tryd.func13 rfl rfl fun vs K h=>?_;obtain⟨m,n,rfl,⟨hl,hn,hn1⟩,h⟩:=h;refine⟨_,h,trivial,by simp,fun w I=>?_⟩;refine srR z2x fun _ K2=>?_;refine z1u ?_;refine s_n K2 ?_;refine srR z2x fun _ K4=>?_;refine z1u ?_;refine z5j ?_;refine⟨m,0,rfl,hl,?_⟩;refine DBz_0 ?_
 first|refine exI ?_|(intro cap1 hcap1;refine exI ?_)
 iterate 5 refine z1u ?_
 refine s_n K4 ?_;refine seq_k fun _ K5=>?_;refine srR z2x fun _ K7=>?_;refine z1u ?_;refine s_n K7 ?_;refine z0e ?_;refine z13 (α:=Nat×Nat) (fun k=>[(0,.c (.ds m.length (.u8s m))),(1,.c (.int .i64 (n:Nat))),(5,.c (.slice 0 0 (formK m n k.1).length k.2)),(6,.c (.int .i64 (k.1:Nat)))]) (fun k=>[(0,.own 39 (.cells (z0n fndL (formK m n k.1))) (k.2*3))]) 1 (fun k=>1≤k.1∧(k.1≤m.length∨k.1=1)∧k.1≤8) (fun k=>m.length - k.1) ?_ ?_
 ·refine dnS [] id (1,1) (by first|simp|omega) [0] uBz_0 uBz_0 uBz_0 uBz_0
 ·intro k hk
  refine seq_k fun _ K8=>?_;refine srR z2x fun _ K10=>?_
  iterate 4 refine z1u ?_
  refine z5j ?_;refine exB (fun hb4=>?_) (fun hb4=>?_)
  ·try simp only[dQ,reduceIte]at hb4
   iterate 2 refine sXTBz_2 ?_
   refine z1u ?_;refine s_n K10 ?_;refine z06 (b:=_) rfl (fun h_t22=>?_) (fun h_t22=>?_)
   ·try simp only[dQ,reduceIte]at h_t22
    refine z0j ?_;apply K8;refine seq_k fun _ K11=>?_;refine z0e ?_
    have hkl:k.1< m.length:=by omega
    obtain⟨x,hx⟩:=hasAt hkl
    have hkL:(formK m n k.1).length=k.1:=z67 hk.1
    have hrl:=z0v fndR (l:=formK m n k.1) (fun _ _=>trivial)
    have hxb:=x.toNat_lt
    refine srR z2x fun _ K13=>?_
    iterate 3 refine z1u ?_
    refine z5j ?_;refine exA (.c (.u8 x)) (as_eq (congrArg (fun v=>SV.c (Cell.u8 v)) (by rw[List.getD_eq_getElem?_getD,show((k.1:Int).toNat*1)=k.1 by omega,hx];rfl))) ?_
    iterate 2 refine z1u ?_
    refine s_n K13 ?_;refine srR z2x fun _ K15=>?_
    iterate 9 refine z1u ?_
    refine zem ?_;refine s_n K15 ?_;refine seq_k fun _ K16=>?_;refine srR z2x fun _ K18=>?_
    iterate 3 refine z1u ?_
    refine s_n K18 ?_;refine z06 (b:=_) rfl (fun h_t40=>?_) (fun h_t40=>?_)
    ·try simp only[dQ,reduceIte]at h_t40
     refine z04 z2x fun _ K19=>?_
     iterate 5 refine z1u ?_
     refine zem ?_;refine s_n K19 ?_;apply K16;refine seq_k fun _ K20=>?_;refine srR z2x fun _ K22=>?_
     iterate 3 refine z1u ?_
     refine s_n K22 ?_;refine z06 (b:=_) rfl (fun h_t48=>?_) (fun h_t48=>?_)
     ·try simp only[dQ,reduceIte]at h_t48
      refine z04 z2x fun _ K23=>?_
      iterate 3 refine z1u ?_
      refine zem ?_;refine s_n K23 ?_;apply K20;refine z04 z2x fun _ K24=>?_;refine z1u ?_;refine z5j ?_;refine exA (.agg (.cells (fndL (nodeF n k.1 x)))) (as_eq qBz1) ?_;refine z1u ?_;refine z5j ?_;intro cap3 hcap3;refine exI ?_;refine z1u ?_;refine s_n K24 ?_;refine z08 ?_;apply K11;refine z04 z2x fun _ K25=>?_
      iterate 3 refine z1u ?_
      refine s_n K25 ?_
      have hsucc:=z7p (n:=n) hk.1 hx
      refine dnS [] (fun _=>3) (k.1+1,cap3) ⟨by first|omega|exact⟨by omega,by omega⟩,by omega⟩ [3] uBz_0 uBz_0 uBz_0 uBz_0
     ·try simp only[dQ,reduceIte]at h_t48
      refine z0j ?_;apply K20;refine z04 z2x fun _ K26=>?_;refine z1u ?_;refine z5j ?_;refine exA (.agg (.cells (fndL (nodeF n k.1 x)))) (as_eq qBz1) ?_;refine z1u ?_;refine z5j ?_;intro cap3 hcap3;refine exI ?_;refine z1u ?_;refine s_n K26 ?_;refine z08 ?_;apply K11;refine z04 z2x fun _ K27=>?_
      iterate 3 refine z1u ?_
      refine s_n K27 ?_
      have hsucc:=z7p (n:=n) hk.1 hx
      refine dnS [] (fun _=>3) (k.1+1,cap3) ⟨by first|omega|exact⟨by omega,by omega⟩,by omega⟩ [3] uBz_0 uBz_0 uBz_0 uBz_0
    ·try simp only[dQ,reduceIte]at h_t40
     refine z0j ?_;apply K16;refine seq_k fun _ K28=>?_;refine srR z2x fun _ K30=>?_
     iterate 3 refine z1u ?_
     refine s_n K30 ?_;refine z06 (b:=_) rfl (fun h_t48=>?_) (fun h_t48=>?_)
     ·try simp only[dQ,reduceIte]at h_t48
      refine z04 z2x fun _ K31=>?_
      iterate 3 refine z1u ?_
      refine zem ?_;refine s_n K31 ?_;apply K28;refine z04 z2x fun _ K32=>?_;refine z1u ?_;refine z5j ?_;refine exA (.agg (.cells (fndL (nodeF n k.1 x)))) (as_eq qBz1) ?_;refine z1u ?_;refine z5j ?_;intro cap3 hcap3;refine exI ?_;refine z1u ?_;refine s_n K32 ?_;refine z08 ?_;apply K11;refine z04 z2x fun _ K33=>?_
      iterate 3 refine z1u ?_
      refine s_n K33 ?_
      have hsucc:=z7p (n:=n) hk.1 hx
      refine dnS [] (fun _=>3) (k.1+1,cap3) ⟨by first|omega|exact⟨by omega,by omega⟩,by omega⟩ [3] uBz_0 uBz_0 uBz_0 uBz_0
     ·try simp only[dQ,reduceIte]at h_t48
      refine z0j ?_;apply K28;refine z04 z2x fun _ K34=>?_;refine z1u ?_;refine z5j ?_;refine exA (.agg (.cells (fndL (nodeF n k.1 x)))) (as_eq qBz1) ?_;refine z1u ?_;refine z5j ?_;intro cap3 hcap3;refine exI ?_;refine z1u ?_;refine s_n K34 ?_;refine z08 ?_;apply K11;refine z04 z2x fun _ K35=>?_
      iterate 3 refine z1u ?_
      refine s_n K35 ?_
      have hsucc:=z7p (n:=n) hk.1 hx
      refine dnS [] (fun _=>3) (k.1+1,cap3) ⟨by first|omega|exact⟨by omega,by omega⟩,by omega⟩ [3] uBz_0 uBz_0 uBz_0 uBz_0
   ·try simp only[dQ,reduceIte]at h_t22
    refine z0z ?_;refine z05 ?_;refine z05 ?_;refine z0s ?_;apply K5;refine srR z2x fun _ K37=>?_
    iterate 2 refine z1u ?_
    refine s_n K37 ?_
    have hfin:formK m n k.1=madeF m n:=by rw[madeF,show k.1=max 1 (min m.length 8) by omega]
    rw[hfin]
    have hrl:=z0v fndR (l:=madeF m n) (fun _ _=>trivial)
    refine z0c (z17 z2x (fun _ _ h=>h) (trivial) [0] [.tmp 4] rfl ?_)
    all_goals exact uBz_1
  ·try simp only[dQ,reduceIte]at hb4
   iterate 2 refine sN ?_
   refine z1u ?_;refine s_n K10 ?_;refine z06 (b:=_) rfl (fun h_t22=>?_) (fun _=>?_)
   ·exfalso;simp at h_t22
   refine z0z ?_;refine z05 ?_;refine z05 ?_;refine z0s ?_;apply K5;refine srR z2x fun _ K39=>?_
   iterate 2 refine z1u ?_
   refine s_n K39 ?_
   have hfin:formK m n k.1=madeF m n:=by rw[madeF,show k.1=max 1 (min m.length 8) by omega]
   rw[hfin]
   have hrl:=z0v fndR (l:=madeF m n) (fun _ _=>trivial)
   refine z0c (z17 z2x (fun _ _ h=>h) (trivial) [0] [.tmp 4] rfl ?_)
   all_goals exact uBz_1


end Go.Proofs.YtegdcifghaldoaaDoor

namespace Go.Proofs.YtegdcifghaldoaaDoor
set_option linter.all false
open Go.Ab Go.RowKit

open Go.Aut
theorem zkp{m:List UInt8}{n k j:Nat}(hj:j< k):(formK m n k).getD j fndZ=if j=0 then⟨1,(((m.getD 0 0).toNat:Nat):Int)%(n:Nat),0⟩else nodeF n j (m.getD j 0):=by
  unfold formK
  cases j with
  |zero=>rfl
  | succ j=>
    rw[if_neg (by omega),List.getD_cons_succ,List.getD_eq_getElem?_getD,List.getElem?_map,List.getElem?_range (by omega)]
    rfl
theorem nodeF_ok{n i:Nat}(x:UInt8)(hn:1≤n)(hi:1≤i):fndOK i n (nodeF n i x)=true:=by
  have h1:((x.toNat:Nat):Int) / 4%(n:Nat)< (n:Nat):=Int.emod_lt_of_pos _ (by omega)
  have h2:0≤((x.toNat:Nat):Int) / 4%(n:Nat):=Int.emod_nonneg _ (by omega)
  have h3:((x.toNat:Nat):Int) / 4%(i:Nat)< (i:Nat):=Int.emod_lt_of_pos _ (by omega)
  have h4:0≤((x.toNat:Nat):Int) / 4%(i:Nat):=Int.emod_nonneg _ (by omega)
  unfold nodeF fndOK
  simp only
  generalize ((x.toNat:Nat):Int) / 4%(n:Nat)=a at*
  generalize ((x.toNat:Nat):Int) / 4%(i:Nat)=b at*
  have h5:0≤((x.toNat:Nat):Int)%4∧((x.toNat:Nat):Int)%4< 4:=⟨Int.emod_nonneg _ (by omega),Int.emod_lt_of_pos _ (by omega)⟩
  generalize ((x.toNat:Nat):Int)%4=c at*
  have h6:c=0∨c=1∨c=2∨c=3:=by omega
  rcases h6 with rfl|rfl|rfl|rfl<;>simp<;>omega
theorem zm1(m:List UInt8){n:Nat}(hn:1≤n):z1j (madeF m n) n=true:=by
  have hlen:(madeF m n).length=max 1 (min m.length 8):=z67 (by omega)
  rw[z1j,Bool.and_eq_true,decide_eq_true_eq,List.all_eq_true,hlen];refine⟨fun i hi=>?_,by omega⟩;rw[madeF,zkp (List.mem_range.1 hi)]
  split
  · have h1:(((m.getD 0 0).toNat:Nat):Int)%(n:Nat)< (n:Nat):=Int.emod_lt_of_pos _ (by omega)
    have h2:0≤(((m.getD 0 0).toNat:Nat):Int)%(n:Nat):=Int.emod_nonneg _ (by omega)
    rw[fndOK,if_pos rfl]
    simp only[Bool.and_eq_true,decide_eq_true_eq,and_true]
    exact⟨h2,h1⟩
  · exact nodeF_ok _ hn (by omega)
theorem zgj(m:List UInt8)(n:Nat):1≤(madeF m n).length∧(madeF m n).length≤8:=by
  rw[madeF,z67 (by omega)];omega
theorem z7q{α:Type}{f g:List α}{d:α}{k:Nat}(h:k< f.length):(f++g).getD k d=f.getD k d:=by
  rw[List.getD_eq_getElem?_getD,List.getD_eq_getElem?_getD,List.getElem?_append_left h]
theorem z5b{α:Type}{f:List α}{x d:α}:(f++[x]).getD f.length d=x:=by
  rw[List.getD_eq_getElem?_getD,List.getElem?_append_right (Nat.le_refl _),Nat.sub_self];rfl
theorem zcf{f g:List FNd}{l:List Bool}:∀ k,k≤f.length→nodeV (f++g) l k=nodeV f l k
  |0,_=>rfl
  |k+1,h=>by rw[z3q,z3q,zcf k (by omega),z7q (by omega)]
theorem zkq{f:List FNd}{n:Nat}{x:FNd}(h:z1j f n=true)(hx:fndOK f.length n x=true):z1j (f++[x]) n=true:=by
  rw[z1j,Bool.and_eq_true,decide_eq_true_eq,List.all_eq_true]at *;refine⟨fun i hi=>?_,by simp⟩
  have h1:=List.mem_range.1 hi
  rw[List.length_append]at h1
  by_cases h2:i< f.length
  · rw[z7q h2];exact h.1 i (List.mem_range.2 h2)
  · obtain rfl:i=f.length:=by simp at h1;omega
    rw[z5b];exact hx
theorem z95{f:List FNd}{l:List Bool}{x:FNd}(h:z1j f l.length=true)(hx:fndOK f.length l.length x=true):z1l (f++[x]) l=ndv x l (nodeV f l f.length):=by
  rw[z1l,zkq h hx,Bool.true_and,List.length_append]
  show(nodeV (f++[x]) l (f.length+1)).getD (f.length+1 - 1) false=_
  rw[z3q,zcf _ (Nat.le_refl _),z5b,show f.length+1 - 1=(nodeV f l f.length).length by simp,z5b]
theorem zgk{f:List FNd}{l:List Bool}{x:FNd}:nodeV (f++[x]) l (f++[x]).length=nodeV f l f.length++[ndv x l (nodeV f l f.length)]:=by
  rw[List.length_append]
  show nodeV (f++[x]) l (f.length+1)=_
  rw[z3q,zcf _ (Nat.le_refl _),z5b]
theorem z7r{f:List FNd}{l:List Bool}(h:z1j f l.length=true):(nodeV f l f.length).getD (f.length - 1) false=z1l f l:=by rw[z1l,h,Bool.true_and]
def notF(n:Nat):FNd:=⟨2,(n:Nat) - 1,0⟩
theorem zpv{n a:Nat}(h:0< n):fndOK n a (notF n)=true:=by
  unfold fndOK notF
  simp only[show ¬ ((2:Int)=1) by decide,if_false,if_true,Bool.and_eq_true,decide_eq_true_eq]
  exact⟨⟨by omega,by omega⟩,trivial⟩
theorem zpw{n a:Nat}{i j:Int}(h1:0≤i∧i< n)(h2:0≤j∧j< n):fndOK n a ⟨3,i,j⟩=true:=by
  unfold fndOK
  simp only[show ¬ ((3:Int)=1) by decide,show ¬ ((3:Int)=2) by decide,if_false,if_true,true_or,Bool.and_eq_true,decide_eq_true_eq]
  omega
theorem fnd_or{n a:Nat}{i j:Int}(h1:0≤i∧i< n)(h2:0≤j∧j< n):fndOK n a ⟨4,i,j⟩=true:=by
  unfold fndOK
  simp only[show ¬ ((4:Int)=1) by decide,show ¬ ((4:Int)=2) by decide,show ¬ ((4:Int)=3) by decide,if_false,if_true,or_true,Bool.and_eq_true,decide_eq_true_eq]
  omega
theorem zau{f:List FNd}{x:FNd}:(f++[x]).length=f.length+1:=by simp
theorem zgl{f:List FNd}{l:List Bool}(h:z1j f l.length=true):z1l (f++[notF f.length]) l= !z1l f l:=by
  have hp:=z6l h
  rw[z95 h (zpv hp), ←z7r h]
  show(!(nodeV f l f.length).getD ((f.length:Int) - 1).toNat false)=_
  rw[show((f.length:Int) - 1).toNat=f.length - 1 by omega]
theorem zgm{f:List FNd}{l:List Bool}(h:z1j f l.length=true):z1l (f++[⟨3,(f.length:Nat) - 1,(f.length:Nat) - 1⟩]) l=z1l f l:=by
  have hp:=z6l h
  rw[z95 h (zpw (by omega) (by omega)), ←z7r h]
  show((nodeV f l f.length).getD ((f.length:Int) - 1).toNat false&&(nodeV f l f.length).getD ((f.length:Int) - 1).toNat false)=_
  rw[show((f.length:Int) - 1).toNat=f.length - 1 by omega,Bool.and_self]
theorem not_ok{f:List FNd}{n:Nat}(h:z1j f n=true):z1j (f++[notF f.length]) n=true:=by
  have hp:=z6l h
  exact zkq h (zpv hp)
theorem zkr{f:List FNd}{l:List Bool}(h:z1j f l.length=true):z1l ((f++[notF f.length])++[⟨4,(f.length:Nat) - 1,(f.length:Nat)⟩]) l=true:=by
  have hp:=z6l h
  rw[z95 (not_ok h) (fnd_or (by rw[zau];omega) (by rw[zau];omega)),zgk]
  show((nodeV f l f.length++[_]).getD ((f.length:Int) - 1).toNat false||(nodeV f l f.length++[_]).getD (f.length:Int).toNat false)=true
  rw[show((f.length:Int) - 1).toNat=f.length - 1 by omega,show(f.length:Int).toNat=f.length by omega]
  have e1:(nodeV f l f.length++[ndv (notF f.length) l (nodeV f l f.length)]).getD f.length false=ndv (notF f.length) l (nodeV f l f.length):=by
    have:=z5b (f:=nodeV f l f.length) (x:=ndv (notF f.length) l (nodeV f l f.length)) (d:=false)
    rwa [z2h]at this
  rw[e1,z7q (by rw[z2h];omega)]
  show((nodeV f l f.length).getD (f.length - 1) false|| !(nodeV f l f.length).getD ((f.length:Int) - 1).toNat false)=true
  rw[show((f.length:Int) - 1).toNat=f.length - 1 by omega]
  cases (nodeV f l f.length).getD (f.length - 1) false<;>rfl
theorem zks{f:List FNd}{l:List Bool}(h:z1j f l.length=true):z1l ((f++[notF f.length])++[⟨3,(f.length:Nat),(f.length:Nat) - 1⟩]) l=false:=by
  have hp:=z6l h
  rw[z95 (not_ok h) (zpw (by rw[zau];omega) (by rw[zau];omega)),zgk]
  show((nodeV f l f.length++[_]).getD (f.length:Int).toNat false&&(nodeV f l f.length++[_]).getD ((f.length:Int) - 1).toNat false)=false
  rw[show((f.length:Int) - 1).toNat=f.length - 1 by omega,show(f.length:Int).toNat=f.length by omega]
  have e1:(nodeV f l f.length++[ndv (notF f.length) l (nodeV f l f.length)]).getD f.length false=ndv (notF f.length) l (nodeV f l f.length):=by
    have:=z5b (f:=nodeV f l f.length) (x:=ndv (notF f.length) l (nodeV f l f.length)) (d:=false)
    rwa [z2h]at this
  rw[e1,z7q (by rw[z2h];omega)]
  show((!(nodeV f l f.length).getD ((f.length:Int) - 1).toNat false)&&(nodeV f l f.length).getD (f.length - 1) false)=false
  rw[show((f.length:Int) - 1).toNat=f.length - 1 by omega]
  cases (nodeV f l f.length).getD (f.length - 1) false<;>rfl
def dualN(x:FNd):FNd:=⟨if x.kind=3 then 4 else if x.kind=4 then 3 else x.kind,x.l,x.r⟩
def dualF(f:List FNd):List FNd:=f.map dualN
theorem dual_fnd{i n:Nat}{x:FNd}(h:fndOK i n x=true):fndOK i n (dualN x)=true:=by
  have:=fnd_b h
  unfold fndOK dualN at*
  simp only at*
  rcases this with⟨h1,_⟩|⟨h1,_⟩|⟨h1|h1,_⟩<;>simp_all
theorem zpx{f:List FNd}{k:Nat}(h:k< f.length):(dualF f).getD k fndZ=dualN (f.getD k fndZ):=by
  rw[List.getD_eq_getElem?_getD,List.getD_eq_getElem?_getD,dualF,List.getElem?_map,List.getElem?_eq_getElem h];rfl
theorem dual_ok{f:List FNd}{n:Nat}(h:z1j f n=true):z1j (dualF f) n=true:=by
  rw[z1j,Bool.and_eq_true,decide_eq_true_eq,List.all_eq_true]at *;refine⟨fun i hi=>?_,by rw[dualF,List.length_map];exact h.2⟩;rw[dualF,List.length_map]at hi;rw[zpx (List.mem_range.1 hi)];exact dual_fnd (h.1 i hi)
theorem z6o{l:List Bool}{i:Nat}(h:i< l.length):(l.map (!·)).getD i false= !l.getD i false:=by
  rw[List.getD_eq_getElem?_getD,List.getD_eq_getElem?_getD,List.getElem?_map,List.getElem?_eq_getElem h];rfl
theorem ndv_dual{x:FNd}{l v:List Bool}(h:fndOK v.length l.length x=true):ndv (dualN x) (l.map (!·)) (v.map (!·))= !ndv x l v:=by
  have:=fnd_b h
  rcases this with⟨h1,h2,h3⟩|⟨h1,h2,h3⟩|⟨h1|h1,h2,h3,h4,h5⟩
  · simp only[ndv,dualN,h1]
    simp only[show ¬ ((1:Int)=3) by decide,show ¬ ((1:Int)=4) by decide,if_false,if_true]
    exact z6o (by omega)
  · simp only[ndv,dualN,h1]
    simp only[show ¬ ((2:Int)=3) by decide,show ¬ ((2:Int)=4) by decide,show ¬ ((2:Int)=1) by decide,if_false,if_true]
    rw[z6o (by omega)]
  · simp only[ndv,dualN,h1]
    simp only[show ¬ ((4:Int)=1) by decide,show ¬ ((4:Int)=2) by decide,show ¬ ((4:Int)=3) by decide,show ¬ ((3:Int)=1) by decide,show ¬ ((3:Int)=2) by decide,if_false,if_true]
    rw[z6o (by omega),z6o (by omega),Bool.not_and]
  · simp only[ndv,dualN,h1]
    simp only[show ¬ ((4:Int)=1) by decide,show ¬ ((4:Int)=2) by decide,show ¬ ((4:Int)=3) by decide,show ¬ ((3:Int)=1) by decide,show ¬ ((3:Int)=2) by decide,if_false,if_true]
    rw[z6o (by omega),z6o (by omega),Bool.not_or]
theorem zdb{f:List FNd}{l:List Bool}(h:z1j f l.length=true):∀ k,k≤f.length→nodeV (dualF f) (l.map (!·)) k=(nodeV f l k).map (!·)
  |0,_=>rfl
  | k +1,hk=>by
    have hx:fndOK (nodeV f l k).length l.length (f.getD k fndZ)=true:=by
      rw[z2h];rw[z1j,Bool.and_eq_true,List.all_eq_true]at h;exact h.1 k (List.mem_range.2 (by omega))
    rw[z3q,z3q,zdb h k (by omega),zpx (by omega),ndv_dual hx,List.map_append];rfl
theorem zdc{f:List FNd}{l:List Bool}(h:z1j f l.length=true):z1l (dualF f) (l.map (!·))= !z1l f l:=by
  have hp:=z6l h
  have h1:z1j (dualF f) (l.map (!·)).length=true:=by rw[List.length_map];exact dual_ok h
  rw[←z7r h1, ←z7r h,show(dualF f).length=f.length from List.length_map ..,zdb h _ (Nat.le_refl _),z6o (by rw[z2h];omega)]
theorem zm2(m:List UInt8){n:Nat}:z1j (madeF m n) 0=false:=by
  have h:=zgj m n
  have h1:fndOK 0 0 ((madeF m n).getD 0 fndZ)=false:=by
    rw[madeF,zkp (by omega),if_pos rfl,fndOK,if_pos rfl]
    simp only[Bool.and_eq_false_iff,decide_eq_false_iff_not]
    left
    omega
  rw[z1j,List.all_eq_false.2 ⟨0,List.mem_range.2 (by omega),by rw[h1];decide⟩,Bool.false_and]
theorem zgn(m:List UInt8){n:Nat}:z1l (madeF m n) []=false:=by rw[z1l,List.length_nil,zm2,Bool.false_and]
theorem zdd(l:List Bool):z1l [] l=false:=rfl

end Go.Proofs.YtegdcifghaldoaaDoor
