/- Contracts of functions and plain facts, part 10. -/
import Derived.Test.YtegdcifghaldoaaDoorTf
set_option maxHeartbeats 4000000
namespace Go.Proofs.YtegdcifghaldoaaDoor
set_option linter.all false
open Go.Ab Go.RowKit

open Go.Aut
end Go.Proofs.YtegdcifghaldoaaDoor

namespace Go.Proofs.YtegdcifghaldoaaDoor
set_option linter.all false
open Go.Ab Go.RowKit

section
variable {a b:Prop}
theorem qBw0(h:a:=by first|exact vcA|(simp[hrl]<;>omega)|exact Nat.le_of_ble_eq_true rfl|(refine⟨by omega,by omega,?_⟩;exact z01.solid (itmR.dat _))|exact z4m.mpr ⟨by omega,by omega⟩|exact⟨by omega,by omega⟩|(refine⟨by omega,by omega,?_⟩;exact pl2 rfl rfl)|(simp only[z2v];rw[hrl];omega)|(show(z0o _ _).length=_;rw[hrl])|(show _< (z0o _ _).length;first|(rw[z10 itmR (fun _ _=>trivial)];omega)|(rw[z10 fndR (fun _ _=>trivial)];omega))|(show _≤(z0o _ _).length;first|(rw[z10 itmR (fun _ _=>trivial)];omega)|(rw[z10 fndR (fun _ _=>trivial)];omega))|rfl|exact vcB):a:=h
theorem qBw1(h:a:=by rw[List.getD_eq_getElem?_getD,show(k.1:Int).toNat=k.1 by omega,hx];rfl):a:=h
theorem uBw_0(h:a:=by
    repeat' (first|exact zdf itmR|exact z8f itmR _|exact z01.to (z0i _)|exact z01.low (z0i _)|exact z01.to (z0k _)|exact z01.low (z0k _)|exact z01.to (z0l _)|exact z01.low (z0l _)|exact z01.to (z0c _)|exact z01.low (z0c _)|exact z01.to (z0m _)|exact z01.low (z0m _)|exact z01.to (z0f _)|exact z01.low (z0f _)|exact z01.to (z0h _ _)|exact z01.low (z0h _ _)|exact z01.to (z00 itmR _)|exact z01.low (z00 itmR _)|exact z01.to (z00 movR _)|exact z01.low (z00 movR _)|exact z01.to (z00 pceR _)|exact z01.low (z00 pceR _)|exact z01.to (z00 fndR _)|exact z01.low (z00 fndR _)|exact z01.to (z00 atmR _)|exact z01.low (z00 atmR _)|exact z01.to (z00 litR _)|exact z01.low (z00 litR _)|exact z01.to (z00 mdlR _)|exact z01.low (z00 mdlR _)|exact z0v (z0j z0r z05)|exact z0q (z0j z0r z05)|exact z0v z05|exact z0q z05|exact trivial|refine aI ?_ ?_|exact cC0|refine low_cons' ?_ ?_|exact cC1|fail)
    all_goals first|omega|(refine zdg (z00 itmR _) ?_;rw[hsucc,z6y];first|rfl|(simp;done))|(rw[hsucc];simp;done)|(show _=(List.map _ _).length;rw[z2f (by omega)];omega)|(rw[z2f (by omega)];omega)|exact Nat.le_refl _|(show allTo _ _ _;exact z01.to (z00 itmR _))|(simp[-List.reduceReplicate];done)|(simp[-List.reduceReplicate]<;>omega)|skip):a:=h
theorem DBw_0(kZ:b)(h:HidB b→a:=by intro kZ;(repeat first|refine aI qBw0 ?_|refine z0d qBw0 ?_|refine z09 qBw0 ?_|refine z0p qBw0 ?_|refine z0e ?_);exact kZ.out):a:=h ⟨kZ⟩
theorem z2y(kZ:b)(h:HidB b→a:=by intro kZ;refine sX ?_;refine DBw_0 ?_;refine exI ?_;exact kZ.out):a:=h ⟨kZ⟩
theorem zpc(kZ:b)(h:HidB b→a:=by intro kZ;refine sXT ?_;refine DBw_0 ?_;refine exI ?_;exact kZ.out):a:=h ⟨kZ⟩
theorem z5b(kZ:b)(h:HidB b→a:=by intro kZ;refine sX ?_;refine DBw_0 ?_;exact kZ.out):a:=h ⟨kZ⟩
theorem sXTEBw_6(kZ:b)(h:HidB b→a:=by intro kZ;refine sXT ?_;refine DBw_0 ?_;exact kZ.out):a:=h ⟨kZ⟩
end
open Go.Aut
def itI(b:UInt8):Itm:=if b=88∨b=89 then⟨((b - 88).toNat:Nat),0⟩ else⟨-1,b⟩
def itemL(l:List UInt8):List Itm:=l.map itI
def vI(n:Nat)(x:Itm):Itm:=if 0< n∧0≤x.x then⟨x.x%(n:Nat),0⟩ else⟨-1,x.b⟩
def z12(t:List Itm)(n:Nat):List Itm:=(t.take 12).map (vI n)
theorem z1m{α β:Type}{g:α→β}{l:List α}{k:Nat}{x:α}(hx:l[k]? =some x):(l.take (k+1)).map g=(l.take k).map g++[g x]:=by
  rw[List.take_add_one,hx];simp
theorem z2f{α β:Type}{g:α→β}{l:List α}{k:Nat}(h:k≤l.length):((l.take k).map g).length=k:=by simp;omega
def itemS:QSpec:=fun vs K=>∃ l:List UInt8,vs=[.c (.str l)]∧l.length≤1048576∧K (.c (itmsX (itemL l)))
theorem item_ok:z3u Tryd.prog gl 31 itemS:=by
 refine z3p (Γ:=g0) (N:=39) Tryd.func31 rfl rfl fun vs K h=>?_;obtain⟨l,rfl,hl,h⟩:=h;refine⟨_,h,trivial,by simp,fun w I=>?_⟩;refine srR g0_ok fun _ K2=>?_;refine z2y ?_;refine s_n K2 ?_;refine srR g0_ok fun _ K4=>?_
 iterate 2 refine z2y ?_
 refine s_n K4 ?_;refine seq_k fun _ K5=>?_;refine srR g0_ok fun _ K7=>?_;refine z2y ?_;refine s_n K7 ?_;refine z0a ?_;refine z13 (α:=Nat×Nat) (fun k=>[(0,.c (.str l)),(3,.c (.slice 0 0 ((l.take k.1).map itI).length k.2)),(4,.c (.int .i64 (k.1:Nat)))]) (fun k=>[(0,.own 27 (.cells (z0o itmL ((l.take k.1).map itI))) (k.2*2))]) 1 (fun k=>k.1≤l.length) (fun k=>l.length - k.1) ?_ ?_
 ·refine dnS [] id (0,0) (by simp) [0] uBw_0 uBw_0 uBw_0 uBw_0
 ·intro k hk
  refine seq_k fun _ K8=>?_;refine srR g0_ok fun _ K10=>?_
  iterate 4 refine z2y ?_
  refine s_n K10 ?_;refine z06 (b:=_) rfl (fun h_t9=>?_) (fun h_t9=>?_)
  ·try simp only[dQ,reduceIte]at h_t9
   refine z0g ?_;apply K8;refine seq_k fun _ K11=>?_;refine z0a ?_
   have hkl:k.1< l.length:=by omega
   obtain⟨x,hx⟩:=hasAt hkl
   have hkL:((l.take k.1).map itI).length=k.1:=z2f (by omega)
   have hrl:=z10 itmR (l:=(l.take k.1).map itI) (fun _ _=>trivial)
   refine srR g0_ok fun _ K13=>?_
   iterate 2 refine z2y ?_
   refine z5b ?_;refine exA (.c (.u8 x)) (as_eq (congrArg (fun v=>SV.c (Cell.u8 v)) qBw1)) ?_;refine z2y ?_;refine z5b ?_;refine exB (fun hb4=>?_) (fun hb4=>?_)
   ·try simp only[dQ,reduceIte]at hb4
    iterate 4 refine sN ?_
    refine z2y ?_;refine s_n K13 ?_;refine z06 (b:=_) rfl (fun _=>?_) (fun h_t21=>?_)
    rotate_left 1
    ·exfalso;simp at h_t21
    have hmk:itI x=⟨((x - 88).toNat:Nat),0⟩:=by rw[itI,if_pos (by first|exact .inl hb4|exact .inr h_t21)]
    have hxb:=(x - 88).toNat_lt
    refine z04 g0_ok fun _ K14=>?_
    iterate 3 refine z2y ?_
    refine z5b ?_;refine exA (.c (.u8 x)) (as_eq (congrArg (fun v=>SV.c (Cell.u8 v)) qBw1)) ?_
    iterate 2 refine z2y ?_
    refine z5b ?_;refine exA (.agg (.cells (itmL (itI x)))) (as_eq (by rw[hmk];rfl)) ?_;refine z2y ?_;refine z5b ?_;intro cap8 hcap8;refine exI ?_;refine z2y ?_;refine s_n K14 ?_;refine z08 ?_;apply K11;refine z04 g0_ok fun _ K15=>?_
    iterate 3 refine z2y ?_
    refine s_n K15 ?_
    have hsucc:=z1m (g:=itI) hx
    refine dnS [] (fun _=>2) (k.1+1,cap8) ⟨by first|omega|exact⟨by omega,by omega⟩,by omega⟩ [2] uBw_0 uBw_0 uBw_0 uBw_0
   ·try simp only[dQ,reduceIte]at hb4
    iterate 2 refine zpc ?_
    refine sXTEBw_6 ?_;refine exA (.c (.u8 x)) (as_eq (congrArg (fun v=>SV.c (Cell.u8 v)) qBw1)) ?_;refine zpc ?_;refine z2y ?_;refine s_n K13 ?_;refine z06 (b:=_) rfl (fun h_t21=>?_) (fun h_t21=>?_)
    ·try simp only[dQ,reduceIte]at h_t21
     have hmk:itI x=⟨((x - 88).toNat:Nat),0⟩:=by rw[itI,if_pos (by first|exact .inl hb4|exact .inr h_t21)]
     have hxb:=(x - 88).toNat_lt
     refine z04 g0_ok fun _ K16=>?_
     iterate 3 refine z2y ?_
     refine z5b ?_;refine exA (.c (.u8 x)) (as_eq (congrArg (fun v=>SV.c (Cell.u8 v)) qBw1)) ?_
     iterate 2 refine z2y ?_
     refine z5b ?_;refine exA (.agg (.cells (itmL (itI x)))) (as_eq (by rw[hmk];rfl)) ?_;refine z2y ?_;refine z5b ?_;intro cap8 hcap8;refine exI ?_;refine z2y ?_;refine s_n K16 ?_;refine z08 ?_;apply K11;refine z04 g0_ok fun _ K17=>?_
     iterate 3 refine z2y ?_
     refine s_n K17 ?_
     have hsucc:=z1m (g:=itI) hx
     refine dnS [] (fun _=>2) (k.1+1,cap8) ⟨by first|omega|exact⟨by omega,by omega⟩,by omega⟩ [2] uBw_0 uBw_0 uBw_0 uBw_0
    ·try simp only[dQ,reduceIte]at h_t21
     have hmk:itI x=⟨-1,x⟩:=by rw[itI,if_neg (by intro hh;rcases hh with hh|hh;exact hb4 hh;exact h_t21 hh)]
     refine z04 g0_ok fun _ K18=>?_
     iterate 3 refine z2y ?_
     refine z5b ?_;refine exA (.c (.u8 x)) (as_eq (congrArg (fun v=>SV.c (Cell.u8 v)) qBw1)) ?_;refine z5b ?_;refine exA (.agg (.cells (itmL (itI x)))) (as_eq (by rw[hmk];rfl)) ?_;refine z2y ?_;refine z5b ?_;intro cap6 hcap6;refine exI ?_;refine z2y ?_;refine s_n K18 ?_;refine z08 ?_;apply K11;refine z04 g0_ok fun _ K19=>?_
     iterate 3 refine z2y ?_
     refine s_n K19 ?_
     have hsucc:=z1m (g:=itI) hx
     refine dnS [] (fun _=>2) (k.1+1,cap6) ⟨by first|omega|exact⟨by omega,by omega⟩,by omega⟩ [2] uBw_0 uBw_0 uBw_0 uBw_0
  ·try simp only[dQ,reduceIte]at h_t9
   refine z0y ?_;refine z03 ?_;refine z03 ?_;refine z0s ?_;apply K5;refine srR g0_ok fun _ K21=>?_
   iterate 2 refine z2y ?_
   refine s_n K21 ?_
   have hfin:(l.take k.1).map itI=itemL l:=by rw[List.take_of_length_le (by omega)];rfl
   rw[hfin]
   have hrl:=z10 itmR (l:=itemL l) (fun _ _=>trivial)
   refine z0b (z19 g0_ok (fun _ _ h=>h) (trivial) [0] [.tmp 2] rfl ?_)
   repeat' (first|exact z8f itmR _|exact z01.to (z0i _)|exact z01.low (z0i _)|exact z01.to (z0k _)|exact z01.low (z0k _)|exact z01.to (z0l _)|exact z01.low (z0l _)|exact z01.to (z0c _)|exact z01.low (z0c _)|exact z01.to (z0m _)|exact z01.low (z0m _)|exact z01.to (z0f _)|exact z01.low (z0f _)|exact z01.to (z0h _ _)|exact z01.low (z0h _ _)|exact z01.to (z00 itmR _)|exact z01.low (z00 itmR _)|exact z01.to (z00 movR _)|exact z01.low (z00 movR _)|exact z01.to (z00 pceR _)|exact z01.low (z00 pceR _)|exact z01.to (z00 fndR _)|exact z01.low (z00 fndR _)|exact z01.to (z00 atmR _)|exact z01.low (z00 atmR _)|exact z01.to (z00 litR _)|exact z01.low (z00 litR _)|exact z01.to (z00 mdlR _)|exact z01.low (z00 mdlR _)|exact z0v (z0j z0r z05)|exact z0q (z0j z0r z05)|exact z0v z05|exact z0q z05|exact trivial|refine aI ?_ ?_|exact cC0|refine low_cons' ?_ ?_|exact cC1|fail)
   all_goals first|omega|(simp[hrl];done)|(rw[if_pos ⟨rfl,by simp[hrl]⟩];done)|(show(_:Cont)=_;rw[if_pos ⟨rfl,by simp only[z2v];rw[hrl];rfl⟩];done)|(simp only[z2v];rw[hrl];exact Nat.le_of_eq (by simp))|(simp[-List.reduceReplicate];done)|(simp[-List.reduceReplicate]<;>omega)|skip

end Go.Proofs.YtegdcifghaldoaaDoor

namespace Go.Proofs.YtegdcifghaldoaaDoor
set_option linter.all false
open Go.Ab Go.RowKit

theorem uBy_1{a:Prop}(h:a:=by
    repeat' (first|exact z8f itmR _|exact z01.to (z0i _)|exact z01.low (z0i _)|exact z01.to (z0k _)|exact z01.low (z0k _)|exact z01.to (z0l _)|exact z01.low (z0l _)|exact z01.to (z0c _)|exact z01.low (z0c _)|exact z01.to (z0m _)|exact z01.low (z0m _)|exact z01.to (z0f _)|exact z01.low (z0f _)|exact z01.to (z0h _ _)|exact z01.low (z0h _ _)|exact z01.to (z00 itmR _)|exact z01.low (z00 itmR _)|exact z01.to (z00 movR _)|exact z01.low (z00 movR _)|exact z01.to (z00 pceR _)|exact z01.low (z00 pceR _)|exact z01.to (z00 fndR _)|exact z01.low (z00 fndR _)|exact z01.to (z00 atmR _)|exact z01.low (z00 atmR _)|exact z01.to (z00 litR _)|exact z01.low (z00 litR _)|exact z01.to (z00 mdlR _)|exact z01.low (z00 mdlR _)|exact z0v (z0j z0r z05)|exact z0q (z0j z0r z05)|exact z0v z05|exact z0q z05|exact trivial|refine aI ?_ ?_|exact cC0|refine low_cons' ?_ ?_|exact cC1|fail)
    all_goals first|omega|(simp[hrl];done)|(rw[if_pos ⟨rfl,by simp[hrl]⟩];done)|(show(_:Cont)=_;rw[if_pos ⟨rfl,by simp only[z2v];rw[hrl];rfl⟩];done)|(simp only[z2v];rw[hrl];exact Nat.le_of_eq (by simp))|(simp[-List.reduceReplicate];done)|(simp[-List.reduceReplicate]<;>omega)|skip):a:=h
theorem zpd{a b:Prop}(kZ:b)(h:HidB b→a:=by intro kZ;refine sX0 ?_;refine DBw_0 ?_;refine exI ?_;exact kZ.out):a:=h ⟨kZ⟩
open Go.Aut
def zka:QSpec:=fun vs K=>∃ (t:List Itm) (n:Nat),vs=[.c (.ds t.length (.cells (z0o itmL t))),.c (.int .i64 (n:Nat))]∧(t.length≤1048576∧n≤1048576)∧K (.c (itmsX (z12 t n)))
theorem zlk:z3u Tryd.prog gl 11 zka:=by
 refine z3p (Γ:=g0) (N:=48) Tryd.func11 rfl rfl fun vs K h=>?_;obtain⟨t,n,rfl,⟨hl,hn⟩,h⟩:=h;refine⟨_,h,trivial,by simp,fun w I=>?_⟩;refine srR g0_ok fun _ K2=>?_;refine z2y ?_;refine s_n K2 ?_;refine srR g0_ok fun _ K4=>?_
 iterate 2 refine z2y ?_
 refine s_n K4 ?_;refine seq_k fun _ K5=>?_;refine srR g0_ok fun _ K7=>?_;refine z2y ?_;refine s_n K7 ?_;refine z0a ?_;refine z13 (α:=Nat×Nat) (fun k=>[(0,.c (.ds t.length (.cells (z0o itmL t)))),(1,.c (.int .i64 (n:Nat))),(5,.c (.slice 0 0 ((t.take k.1).map (vI n)).length k.2)),(6,.c (.int .i64 (k.1:Nat)))]) (fun k=>[(0,.own 27 (.cells (z0o itmL ((t.take k.1).map (vI n)))) (k.2*2))]) 1 (fun k=>k.1≤t.length∧k.1≤12) (fun k=>t.length - k.1) ?_ ?_
 ·refine dnS [] id (0,0) (by simp) [0] uBw_0 uBw_0 uBw_0 uBw_0
 ·intro k hk
  refine seq_k fun _ K8=>?_;refine srR g0_ok fun _ K10=>?_
  iterate 4 refine z2y ?_
  refine z5b ?_;refine exB (fun hb4=>?_) (fun hb4=>?_)
  ·try simp only[dQ,reduceIte]at hb4
   iterate 2 refine zpc ?_
   refine z2y ?_;refine s_n K10 ?_;refine z06 (b:=_) rfl (fun h_t16=>?_) (fun h_t16=>?_)
   ·try simp only[dQ,reduceIte]at h_t16
    refine z0g ?_;apply K8;refine seq_k fun _ K11=>?_;refine z0a ?_
    have hkl:k.1< t.length:=by omega
    obtain⟨x,hx⟩:=hasAt hkl
    have hkL:((t.take k.1).map (vI n)).length=k.1:=z2f (by omega)
    have hrl:=z10 itmR (l:=(t.take k.1).map (vI n)) (fun _ _=>trivial)
    refine srR g0_ok fun _ K13=>?_
    iterate 4 refine z2y ?_
    refine z5b ?_;refine exA (.c (.u8 x.b)) (z7a itmR (fun _ _=>trivial) (i:=k.1) (j:=1) (by first|rfl|omega) (by decide) hx rfl) ?_
    iterate 2 refine z2y ?_
    refine zpd ?_;refine s_n K13 ?_;refine seq_k fun _ K14=>?_;refine srR g0_ok fun _ K16=>?_
    iterate 2 refine z2y ?_
    refine z5b ?_;refine exB (fun hb2=>?_) (fun hb2=>?_)
    ·try simp only[dQ,reduceIte]at hb2
     iterate 4 refine zpc ?_
     refine sXTEBw_6 ?_;refine exA (.c (.int .i64 x.x)) (z7a itmR (fun _ _=>trivial) (i:=k.1) (j:=0) (by first|rfl|omega) (by decide) hx rfl) ?_;refine zpc ?_;refine z2y ?_;refine s_n K16 ?_;refine z06 (b:=_) rfl (fun h_t34=>?_) (fun h_t34=>?_)
     ·try simp only[dQ,reduceIte]at h_t34
      refine z04 g0_ok fun _ K17=>?_
      iterate 4 refine z2y ?_
      refine z5b ?_;refine exA (.c (.int .i64 x.x)) (z7a itmR (fun _ _=>trivial) (i:=k.1) (j:=0) (by first|rfl|omega) (by decide) hx rfl) ?_
      iterate 3 refine z2y ?_
      refine zpd ?_;refine s_n K17 ?_;apply K14;refine z04 g0_ok fun _ K18=>?_;refine z2y ?_;refine z5b ?_;refine exA (.agg (.cells (itmL (vI n x)))) (as_eq (by first|(rw[vI,if_pos ⟨by omega,by omega⟩];rfl)|(rw[vI,if_neg (by omega)];rfl))) ?_;refine z2y ?_;refine z5b ?_;intro cap3 hcap3;refine exI ?_;refine z2y ?_;refine s_n K18 ?_;refine z08 ?_;apply K11;refine z04 g0_ok fun _ K19=>?_
      iterate 3 refine z2y ?_
      refine s_n K19 ?_
      have hsucc:=z1m (g:=vI n) hx
      refine dnS [] (fun _=>3) (k.1+1,cap3) ⟨by first|omega|exact⟨by omega,by omega⟩,by omega⟩ [3] uBw_0 uBw_0 uBw_0 uBw_0
     ·try simp only[dQ,reduceIte]at h_t34
      refine z0g ?_;apply K14;refine z04 g0_ok fun _ K20=>?_;refine z2y ?_;refine z5b ?_;refine exA (.agg (.cells (itmL (vI n x)))) (as_eq (by first|(rw[vI,if_pos ⟨by omega,by omega⟩];rfl)|(rw[vI,if_neg (by omega)];rfl))) ?_;refine z2y ?_;refine z5b ?_;intro cap3 hcap3;refine exI ?_;refine z2y ?_;refine s_n K20 ?_;refine z08 ?_;apply K11;refine z04 g0_ok fun _ K21=>?_
      iterate 3 refine z2y ?_
      refine s_n K21 ?_
      have hsucc:=z1m (g:=vI n) hx
      refine dnS [] (fun _=>3) (k.1+1,cap3) ⟨by first|omega|exact⟨by omega,by omega⟩,by omega⟩ [3] uBw_0 uBw_0 uBw_0 uBw_0
    ·try simp only[dQ,reduceIte]at hb2
     iterate 6 refine sN ?_
     refine z2y ?_;refine s_n K16 ?_;refine z06 (b:=_) rfl (fun h_t34=>?_) (fun _=>?_)
     ·exfalso;simp at h_t34
     refine z0g ?_;apply K14;refine z04 g0_ok fun _ K22=>?_;refine z2y ?_;refine z5b ?_;refine exA (.agg (.cells (itmL (vI n x)))) (as_eq (by first|(rw[vI,if_pos ⟨by omega,by omega⟩];rfl)|(rw[vI,if_neg (by omega)];rfl))) ?_;refine z2y ?_;refine z5b ?_;intro cap3 hcap3;refine exI ?_;refine z2y ?_;refine s_n K22 ?_;refine z08 ?_;apply K11;refine z04 g0_ok fun _ K23=>?_
     iterate 3 refine z2y ?_
     refine s_n K23 ?_
     have hsucc:=z1m (g:=vI n) hx
     refine dnS [] (fun _=>3) (k.1+1,cap3) ⟨by first|omega|exact⟨by omega,by omega⟩,by omega⟩ [3] uBw_0 uBw_0 uBw_0 uBw_0
   ·try simp only[dQ,reduceIte]at h_t16
    refine z0y ?_;refine z03 ?_;refine z03 ?_;refine z0s ?_;apply K5;refine srR g0_ok fun _ K25=>?_
    iterate 2 refine z2y ?_
    refine s_n K25 ?_
    have hfin:(t.take k.1).map (vI n)=z12 t n:=by rw[z12,show k.1=min 12 t.length by omega, ←List.take_eq_take_min]
    rw[hfin]
    have hrl:=z10 itmR (l:=z12 t n) (fun _ _=>trivial)
    refine z0b (z19 g0_ok (fun _ _ h=>h) (trivial) [0] [.tmp 4] rfl ?_)
    all_goals exact uBy_1
  ·try simp only[dQ,reduceIte]at hb4
   iterate 2 refine sN ?_
   refine z2y ?_;refine s_n K10 ?_;refine z06 (b:=_) rfl (fun h_t16=>?_) (fun _=>?_)
   ·exfalso;simp at h_t16
   refine z0y ?_;refine z03 ?_;refine z03 ?_;refine z0s ?_;apply K5;refine srR g0_ok fun _ K27=>?_
   iterate 2 refine z2y ?_
   refine s_n K27 ?_
   have hfin:(t.take k.1).map (vI n)=z12 t n:=by rw[z12,show k.1=min 12 t.length by omega, ←List.take_eq_take_min]
   rw[hfin]
   have hrl:=z10 itmR (l:=z12 t n) (fun _ _=>trivial)
   refine z0b (z19 g0_ok (fun _ _ h=>h) (trivial) [0] [.tmp 4] rfl ?_)
   all_goals exact uBy_1


end Go.Proofs.YtegdcifghaldoaaDoor
