/- Part 6 of what the claims of this seat share: the walk's engine, the functions' contracts, plain mathematics (Ur). -/
import Derived.Test.YtppmnaoollkboaaDoorPd
import Derived.Test.YtppmnaoollkboaaDoorPb
set_option maxHeartbeats 2000000
set_option maxRecDepth 4000
namespace Go.Proofs.YtppmnaoollkboaaDoor
set_option linter.all false
open Go.Ab Go.RowKit

section
variable {a b:Prop}
theorem qUr0(h:a:=by first|exact vcA|(simp[-List.reduceReplicate]<;>omega)|exact vTh|(show _< ((z02 _ _ _ _).set _ _).length;rw[List.length_set,z00 hcl];decide)|exact⟨hcl,rfl,trivial⟩|exact zi7 _|exact⟨by omega,by omega,trivial,trivial⟩|exact zlu hcl|exact zi9 hcl|exact zl_fits2|exact zyz|exact zz0|exact zuw recS _|exact recS.solid _|(show _< (z2l encS _).length;rw[zi7];omega)|(show _≤(z2l encS _).length;rw[zi7];omega)|exact⟨by omega,by omega,trivial⟩|exact⟨by omega,by omega,recS.solid _⟩|(show _< (rowQ _ _ _ _ _).length;rw[zhs];omega)|exact vcB):a:=h
theorem uUr_0(h:a:=by
    repeat' (first|assumption|exact zl_toL|exact zyr|exact z4x z7w _ _|exact z27 z7w _|exact zs3 recS|exact z74 trivial (by show _< _;omega)|exact z74 (by show _< _;omega) (by show _< _;omega)|exact z3k hin.d1|exact z3k hin.d2|exact z91 hin.d1|exact z91 hin.d2|exact pT|exact trivial|refine aI ?_ ?_|exact cC0|refine low_cons' ?_ ?_|exact cC1|fail)
    all_goals first|omega|exact hL0|exact(z58 (f:=stepF g bytes) (nc:=bytes.length) (b0:=s0) s.1).symm|exact(zbt (f:=stepF g bytes) (nc:=bytes.length) (b0:=s0) acc s.1).symm|exact z7n|(intro x hx;rw[List.nil_append]at hx;rw[List.mem_singleton.1 hx];exact⟨rfl,rfl⟩)|exact zaj|exact z4x z7w _ _|exact z27 z7w _|(rw[hX4];exact z27 z7w _)|(show(_:List Int)=_;first|assumption|rfl)|(show(_:List Bool)=_;first|assumption|rfl)|(show(_:List (SV×SV))=_;first|assumption|rfl)|exact z91 hin.d1|exact z91 hin.d2|exact z3k hin.d1|exact z3k hin.d2|exact zs4 (zay recS _) (by first|rfl|assumption|exact hXS)|(show allTo _ _ _;first|(rw[hXR];exact z1m _)|(rw[hXR];trivial)|exact z1m _)|(show allTo _ _ _;first|(rw[zi8 hcl rfl,zo6 hcl rfl];refine z2w ?_ ?_<;>(repeat' (first|exact trivial|refine aI ?_ ?_|rfl|omega|decide|exact z3a _|(simp;done)|rw[if_pos ⟨rfl,by simp⟩])))|(refine z2w ?_ ?_<;>(repeat' (first|exact trivial|refine aI ?_ ?_|rfl|omega|decide|exact z3a _|(simp;done)|rw[if_pos ⟨rfl,by simp⟩]))))|(show(0:Nat)< (z02 _ _ _ _).length;rw[z00 hcl];decide)|(simp[-List.reduceReplicate];done)|(simp[-List.reduceReplicate]<;>omega)|skip):a:=h
theorem DUr_0(kZ:b)(h:HidB b→a:=by intro kZ;(repeat first|refine aI qUr0 ?_|refine z04 qUr0 ?_|refine z03 qUr0 ?_|refine z0m qUr0 ?_|refine z0c ?_);exact kZ.out):a:=h ⟨kZ⟩
theorem z21(kZ:b)(h:HidB b→a:=by intro kZ;refine sX ?_;refine DUr_0 ?_;refine exI ?_;exact kZ.out):a:=h ⟨kZ⟩
theorem zbx(kZ:b)(h:HidB b→a:=by intro kZ;refine sX0 ?_;refine DUr_0 ?_;refine exI ?_;exact kZ.out):a:=h ⟨kZ⟩
theorem zyx(kZ:b)(h:HidB b→a:=by intro kZ;refine dX ?_;refine DUr_0 ?_;refine exI ?_;exact kZ.out):a:=h ⟨kZ⟩
theorem gXUr_4(kZ:b)(h:HidB b→a:=by intro kZ;refine gX ?_;refine DUr_0 ?_;refine exI ?_;exact kZ.out):a:=h ⟨kZ⟩
theorem gX0Ur_5(kZ:b)(h:HidB b→a:=by intro kZ;refine gX0 ?_;refine DUr_0 ?_;refine exI ?_;exact kZ.out):a:=h ⟨kZ⟩
theorem z6k(kZ:b)(h:HidB b→a:=by intro kZ;refine sX ?_;refine DUr_0 ?_;exact kZ.out):a:=h ⟨kZ⟩
theorem zyy(kZ:b)(h:HidB b→a:=by intro kZ;refine dX ?_;refine DUr_0 ?_;exact kZ.out):a:=h ⟨kZ⟩
theorem gXEUr_8(kZ:b)(h:HidB b→a:=by intro kZ;refine gX ?_;refine DUr_0 ?_;exact kZ.out):a:=h ⟨kZ⟩
end
open Go.Aut
noncomputable def cX(f1:FuncId)(q1:QSpec)(f2:FuncId)(q2:QSpec):Ctx:={ P:=Tryd.prog,ty:=ty,glob:=gl,fs:=[(f1,.flat (eqS q1)),(f2,.flat (eqS q2))] }
theorem cX_ok{f1 f2:FuncId}{q1 q2:QSpec}(e1:z57 Tryd.prog f1)(h1:z19 Tryd.prog gl f1 q1)(e2:z57 Tryd.prog f2)(h2:z19 Tryd.prog gl f2 q2):(cX f1 q1 f2 q2).OK:=⟨tyOK,⟨⟨e1,zq6 h1⟩,⟨e2,zq6 h2⟩,trivial⟩,mixed⟩
@[simp] theorem cX_ty{f1 f2:FuncId}{q1 q2:QSpec}:(cX f1 q1 f2 q2).ty=ty:=rfl
theorem cX_look1{f1 f2:FuncId}{q1 q2:QSpec}:z30 (cX f1 q1 f2 q2).fs f1=some (.flat (eqS q1)):=if_pos rfl
theorem cX_look2{f1 f2:FuncId}{q1 q2:QSpec}(h:f1≠f2):z30 (cX f1 q1 f2 q2).fs f2=some (.flat (eqS q2)):=by
  show(if f1=f2 then _ else if f2=f2 then _ else _)=_
  rw[if_neg h,if_pos rfl]
theorem zi7(l:List Stt):(z2l encS l).length=l.length*3:=zs1 recS fun _ _=>trivial
theorem zi8{cell:List Int}{nc i:Nat}{x y z:Cell}(h:cell.length=256)(hi:i=257):(z02 cell nc x y).set i z=z02 cell nc z y:=by subst hi;exact zga h
theorem zo6{cell:List Int}{nc i:Nat}{x y z:Cell}(h:cell.length=256)(hi:i=258):(z02 cell nc x y).set i z=z02 cell nc x z:=by subst hi;exact zt4 h
theorem zl_toL{ty:Nat→Ty}{H:Heap}{is:List Nat}{ρ:Nat→Nat}:allTo (Cell.to ty H is ρ) (List.replicate 257 (Cell.int .i64 0)++List.replicate 2 Cell.nils) (z02 z12 0 (.ds 0 (.cells [])) (.ds 0 (.bools []))):=zyr
theorem zyz:(Cont.cells zl).len=(Cont.cells (List.replicate 257 (Cell.int .i64 0)++List.replicate 2 Cell.nils)).len:=by rw[zl_len'];exact z9u
theorem zi9{cell:List Int}{nc:Nat}{x y:Cell}(h:cell.length=256):(Cont.cells zl).len=(Cont.cells (z02 cell nc x y)).len:=z9u.trans (z00 h).symm
theorem zlu{cell:List Int}{nc:Nat}{x y:Cell}(h:cell.length=256):0+(Cont.cells (z02 cell nc x y)).len≤(Cont.cells zl).len:=by rw[Nat.zero_add, ←zi9 h];exact Nat.le_refl _
theorem zl_fits2:0+(Cont.cells (List.replicate 257 (Cell.int .i64 0)++List.replicate 2 Cell.nils)).len≤(Cont.cells zl).len:=by rw[Nat.zero_add,zyz];exact Nat.le_refl _
theorem zz0:(Cont.cells (List.replicate 257 (Cell.int .i64 0)++List.replicate 2 Cell.nils)).solid:=zi0 (by
  have:∀ n,z64 (List.replicate n (Cell.int .i64 0)):=fun n=>by
    induction n with
    |zero=>trivial
    |succ n ih=>exact⟨trivial,ih⟩
  exact this _) ⟨trivial,trivial,trivial⟩
theorem dv_st(a:Stt)(b:Nat):∀ x∈[stV a,.c (.int .i64 (b:Int))],dataV x:=fun x hx=>by
  rcases List.mem_cons.1 hx with rfl|hx
  · rfl
  · rw[List.mem_singleton.1 hx];exact zwq
theorem dv_st1(a:Stt):∀ x∈[stV a],dataV x:=fun x hx=>by rw[List.mem_singleton.1 hx];rfl
structure ExIn(q1 q2:QSpec)(g:Stt→Nat→Stt)(acc:Stt→Bool)(Inv:Stt→Prop)(cell:List Int)(bytes:List Nat)(s0:Stt)(c1 c2:List Cell)(most:Nat):Prop where
  clen:cell.length=256
  npos:0< bytes.length
  nmax:bytes.length≤256
  byte:∀ b∈bytes,b< 256
  mpos:0< most
  mmax:most≤1073741824
  d1:∀ x∈c1,dataC x
  d2:∀ x∈c2,dataC x
  i0:Inv s0
  iok:∀ s,Inv s→okS s
  ig:∀ (s:Stt) (b:Nat),Inv s→b< 256→Inv (g s b)
  h1:∀ (s:Stt) (b:Nat),Inv s→b< 256→q1 ([stV s,.c (.int .i64 (b:Int))]++c1.map .c) (fun v=>v=stV (g s b))
  h2:∀ s:Stt,Inv s→q2 ([stV s]++c2.map .c) (fun v=>v= .c (.bool (acc s)))
def zgb(f1:FuncId)(q1:QSpec)(f2:FuncId)(q2:QSpec):QSpec:=fun vs K=>∃ (g:Stt→Nat→Stt) (acc:Stt→Bool) (Inv:Stt→Prop) (cell:List Int) (bytes:List Nat) (s0:Stt) (c1 c2:List Cell) (most:Nat),
  vs=[.agg (.ints .i64 cell),.c (.ds bytes.length (.ints .i64 (natsI bytes))),stV s0,.c (.clo f1 c1),.c (.clo f2 c2),.c (.int .i64 (most:Int))]∧ExIn q1 q2 g acc Inv cell bytes s0 c1 c2 most∧K (exV (exR g acc cell bytes s0 most))
attribute [local irreducible] z0s z12 zl z02 z11 putB rowQ rowsQ accQ
theorem zec {f1 f2:FuncId} {q1 q2:QSpec} (e1:z57 Tryd.prog f1) (q1ok:z19 Tryd.prog gl f1 q1) (e2:z57 Tryd.prog f2) (q2ok:z19 Tryd.prog gl f2 q2) (hne:f1≠f2):z1w Tryd.prog gl 80 (zgb f1 q1 f2 q2):=by
 refine z1c (Γ:=cX f1 q1 f2 q2) (N:=100) Tryd.func80 rfl rfl fun vs K h=>?_;obtain⟨g,acc,Inv,cell,bytes,s0,c1,c2,most,rfl,hin,h⟩:=h;refine⟨_,h,zyq _,by simp,fun w I=>?_⟩
 have hcl:=hin.clen
 have hnm:=hin.nmax
 have hmm:=hin.mmax
 refine srR (cX_ok e1 q1ok e2 q2ok) fun _ K2=>?_
 iterate 4 refine z21 ?_
 refine s_n K2 ?_;refine leW [0,1] (fun _=>2) [(1,.c (.ds bytes.length (.ints .i64 (natsI bytes)))),(3,.c (.clo f1 c1)),(4,.c (.clo f2 c2)),(5,.c (.int .i64 (most:Nat))),(12,.c (.ptr 0 0)),(6,.c (.dp (.ints .i64 cell) 0)),(8,.c (.dp (.cells (encS s0)) 0))] [(0,.own 87 (.cells zl) 259)] 1 [2] uUr_0 uUr_0 uUr_0 uUr_0 ?_;refine srR (cX_ok e1 q1ok e2 q2ok) fun _ K4=>?_
 iterate 3 refine z21 ?_
 refine z6k ?_;refine exA (.agg (.cells (z02 cell bytes.length .nils .nils))) (as_eq (congrArg (fun l=>SV.agg (Cont.cells l)) (zqj _ _))) ?_;refine z21 ?_;refine zbx ?_;refine s_n K4 ?_;refine srR (cX_ok e1 q1ok e2 q2ok) fun _ K6=>?_;refine z21 ?_;refine z6k ?_;refine exA (stV s0) (SV.as_refl _) ?_;refine sX0 ?_;refine aI (zlt (hin.iok _ hin.i0)) (And.intro (fun p hp=>by cases hp) (And.intro (fun jj u hj=>by cases hj) (fun hno=>?_)));refine exI ?_
 iterate 2 refine z21 ?_
 refine s_n K6 ?_;refine srR (cX_ok e1 q1ok e2 q2ok) fun _ K8=>?_;refine z6k ?_;refine exA (stV s0) (SV.as_refl _) ?_
 iterate 2 refine z21 ?_
 refine s_n K8 ?_;refine seq_k fun _ K9=>?_;refine srR (cX_ok e1 q1ok e2 q2ok) fun _ K11=>?_;refine z21 ?_;refine s_n K11 ?_;refine z07 ?_;refine z4v 1 257 51 (.cells []) rfl (zys hcl) rfl low_nil' ?_;refine z4v 1 258 4 (.bools []) rfl (by rw[zga hcl];exact zyt hcl) rfl trivial ?_;refine z0q (α:=Nat×Nat×Nat×Nat) (fun s=>[(1,.c (.ds bytes.length (.ints .i64 (natsI bytes)))),(3,.c (.clo f1 c1)),(4,.c (.clo f2 c2)),(5,.c (.int .i64 (most:Nat))),(12,.c (.ptr 0 0)),(14,.c (.ptr 1 0)),(15,.c (.map 2)),(16,.c (.slice 3 0 (expO (stepF g bytes) bytes.length s0 (s.1*bytes.length)).length s.2.1)),(17,.c (.int .i64 (s.1:Nat)))]) (fun s=>[(0,.own 87 (.cells zl) 259),(1,.own 87 (.cells (z02 cell bytes.length (.slice 4 0 s.1 s.2.2.1) (.slice 5 0 s.1 s.2.2.2))) 259),(2,.mp 161 (mapE stV (expO (stepF g bytes) bytes.length s0 (s.1*bytes.length)))),(3,.own 95 (.cells (z2l encS (expO (stepF g bytes) bytes.length s0 (s.1*bytes.length)))) (s.2.1*3)),(4,.own 51 (.cells (rowsC (rowsQ (stepF g bytes) bytes.length s0 s.1))) s.2.2.1),(5,.own 4 (.bools (accQ (stepF g bytes) bytes.length s0 acc s.1)) s.2.2.2)]) 6 (fun s=>s.1≤most∧(∀ j,j< s.1→j< (expO (stepF g bytes) bytes.length s0 (j*bytes.length)).length)∧s.1≤(expO (stepF g bytes) bytes.length s0 (s.1*bytes.length)).length∧(expO (stepF g bytes) bytes.length s0 (s.1*bytes.length)).length≤s.2.1∧(expO (stepF g bytes) bytes.length s0 (s.1*bytes.length)).length≤most∧s.1≤s.2.2.1∧s.1≤s.2.2.2) (fun s=>most - s.1) ?_ ?_
 ·have hz:(expO (stepF g bytes) bytes.length s0 (0*bytes.length))=[s0]:=by rw[Nat.zero_mul];rfl
  have hL0:1=(expO (stepF g bytes) bytes.length s0 (0*bytes.length)).length:=by rw[hz];rfl
  have hX3:([]:List Bool)=(accQ (stepF g bytes) bytes.length s0 acc 0):=by unfold accQ;rfl
  have hXR:rowsC (rowsQ (stepF g bytes) bytes.length s0 0)=[]:=by unfold rowsQ;rfl
  have hXS:[]++encS s0=z2l encS (expO (stepF g bytes) bytes.length s0 (0*bytes.length)):=by rw[hz];rfl
  have hX4:[]++[(stV s0,.c (.int .i64 0))]=mapE stV (expO (stepF g bytes) bytes.length s0 (0*bytes.length)):=by rw[hz];rfl
  refine dnS [] id (0,1,0,0) ⟨Nat.zero_le _,fun j hj=>absurd hj (Nat.not_lt_zero j),Nat.zero_le _,by rw[hz];exact Nat.le_refl _,by rw[hz];exact hin.mpos,Nat.le_refl _,Nat.le_refl _⟩ [0,1,2,3,4,5] ?_ ?_ ?_ ?_
  ·exact uUr_0
  ·exact uUr_0
  ·exact uUr_0
  ·exact uUr_0
 ·intro s hs
  obtain⟨hs1,ha,hs3,hs4,hs5,hs6,hs7⟩:=hs;refine seq_k fun _ K12=>?_;refine srR (cX_ok e1 q1ok e2 q2ok) fun _ K14=>?_
  iterate 4 refine z21 ?_
  refine s_n K14 ?_;refine z09 (b:=_) rfl (fun h_t36=>?_) (fun h_t36=>?_)
  ·try simp only[dQ,reduceIte]at h_t36
   refine z0b ?_;apply K12;refine seq_k fun _ K15=>?_;refine z07 ?_
   have hi:s.1< (expO (stepF g bytes) bytes.length s0 (s.1*bytes.length)).length:=by omega
   have hge:=zht (f:=(stepF g bytes)) (b0:=s0) (p:=s.1*bytes.length) hi (Nat.le_refl _)
   have ha2:∀ j,j≤s.1→j< (expO (stepF g bytes) bytes.length s0 (j*bytes.length)).length:=fun j hj=>by
    rcases Nat.lt_or_ge j s.1 with h1|h1
    ·exact ha j h1
    ·obtain rfl:j=s.1:=by omega
     exact hi
   have hII:∀ k,k≤bytes.length→∀ a∈(expO (stepF g bytes) bytes.length s0 (s.1*bytes.length+k)),Inv a:=fun k hk=>zqi hin.i0 hin.ig hin.byte hin.npos (exp_hz hin.npos ha2 hk)
   have hIs:Inv (stG (stepF g bytes) bytes.length s0 s.1):=hII 0 (Nat.zero_le _) _ (List.mem_of_getElem? hge)
   refine srR (cX_ok e1 q1ok e2 q2ok) fun _ K17=>?_
   iterate 4 refine z21 ?_
   refine s_n K17 ?_;refine seq_k fun _ K18=>?_;refine srR (cX_ok e1 q1ok e2 q2ok) fun _ K20=>?_
   iterate 3 refine z21 ?_
   refine s_n K20 ?_;refine z07 ?_;refine z0q (α:=Nat×Nat) (fun k=>[(1,.c (.ds bytes.length (.ints .i64 (natsI bytes)))),(3,.c (.clo f1 c1)),(4,.c (.clo f2 c2)),(5,.c (.int .i64 (most:Nat))),(12,.c (.ptr 0 0)),(14,.c (.ptr 1 0)),(15,.c (.map 2)),(16,.c (.slice 3 0 (expO (stepF g bytes) bytes.length s0 (s.1*bytes.length+k.1)).length k.2)),(17,.c (.int .i64 (s.1:Nat))),(18,.c (.slice 6 0 bytes.length bytes.length)),(42,.c (.ds bytes.length (.ints .i64 (natsI bytes)))),(43,.c (.int .i64 (bytes.length:Nat))),(44,.c (.int .i64 (k.1:Nat)))]) (fun k=>[(0,.own 87 (.cells zl) 259),(1,.own 87 (.cells (z02 cell bytes.length (.slice 4 0 s.1 s.2.2.1) (.slice 5 0 s.1 s.2.2.2))) 259),(2,.mp 161 (mapE stV (expO (stepF g bytes) bytes.length s0 (s.1*bytes.length+k.1)))),(3,.own 95 (.cells (z2l encS (expO (stepF g bytes) bytes.length s0 (s.1*bytes.length+k.1)))) (k.2*3)),(4,.own 51 (.cells (rowsC (rowsQ (stepF g bytes) bytes.length s0 s.1))) s.2.2.1),(5,.own 4 (.bools (accQ (stepF g bytes) bytes.length s0 acc s.1)) s.2.2.2),(6,.own 3 (.ints .i64 (rowQ (stepF g bytes) bytes.length s0 s.1 k.1)) bytes.length)]) 7 (fun k=>k.1≤bytes.length∧(expO (stepF g bytes) bytes.length s0 (s.1*bytes.length+k.1)).length≤k.2∧(expO (stepF g bytes) bytes.length s0 (s.1*bytes.length+k.1)).length≤most) (fun k=>bytes.length - k.1) ?_ ?_
   ·have hX1:List.replicate bytes.length (0:Int)=(rowQ (stepF g bytes) bytes.length s0 s.1 0):=(zxk _).symm
    refine dnS [] id (0,s.2.1) ⟨Nat.zero_le _,hs4,hs5⟩ [0,1,2,3,4,5,6] uUr_0 uUr_0 uUr_0 uUr_0
   ·intro k hk0
    obtain⟨hk1,hk2,hk3⟩:=hk0;refine srR (cX_ok e1 q1ok e2 q2ok) fun _ K22=>?_;refine z21 ?_;refine s_n K22 ?_;refine seq_k fun _ K23=>?_;refine z09 (b:=_) rfl (fun h_t45=>?_) (fun h_t45=>?_)
    ·try simp only[dQ,reduceIte]at h_t45
     refine z0b ?_;apply K23;refine seq_k fun _ K24=>?_;refine z07 ?_
     have hk:k.1< bytes.length:=by omega
     have hgk:=zht (f:=(stepF g bytes)) (b0:=s0) (p:=s.1*bytes.length+k.1) hi (Nat.le_add_right _ _)
     have hbk:(bytes.getD k.1 0)< 256:=hin.byte _ (getD_mem' hk)
     have hil:s.1< (expO (stepF g bytes) bytes.length s0 (s.1*bytes.length+k.1)).length:=Nat.lt_of_lt_of_le hi (z1p (Nat.le_add_right _ _))
     refine srR (cX_ok e1 q1ok e2 q2ok) fun _ K26=>?_
     iterate 2 refine z21 ?_
     refine z6k ?_;refine exA (.c (.int .i64 ((((bytes.getD k.1 0):Nat):Int)))) (as_i ((congrArg (fun i=>(natsI bytes).getD i 0) (by omega)).trans z0r)) ?_
     iterate 2 refine z21 ?_
     refine s_n K26 ?_;refine srR (cX_ok e1 q1ok e2 q2ok) fun _ K28=>?_
     iterate 4 refine z21 ?_
     refine z6k ?_;refine exA (stV (stG (stepF g bytes) bytes.length s0 s.1)) (zs2 recS (fun _ _=>trivial) (by omega) rfl hgk) ?_;refine z21 ?_;refine sX ?_;refine zx1 (xs:=[stV (stG (stepF g bytes) bytes.length s0 s.1),.c (.int .i64 (((bytes.getD k.1 0):Nat):Int))]) cX_look1 (dv_st _ _) hin.d1 ?_;refine⟨_,hin.h1 _ _ hIs hbk,?_⟩
     first|refine exI ?_|(intro cap6 hcap6;refine exI ?_)
     refine z21 ?_;refine zbx ?_;refine s_n K28 ?_;refine srR (cX_ok e1 q1ok e2 q2ok) fun _ K30=>?_;refine z21 ?_;refine z6k ?_;refine exA (stV ((stepF g bytes) (stG (stepF g bytes) bytes.length s0 s.1) k.1)) (SV.as_refl _) ?_;refine z6k ?_;refine aI (zlt (hin.iok _ (hin.ig _ _ hIs hbk))) (And.intro (zyo fun a ha=>hin.iok _ (hII k.1 (Nat.le_of_lt hk) a ha)) (And.intro (fun jj v hj=>?_) (fun hno=>?_)))
     ·obtain⟨rfl,hin1⟩:=st_yes (z5x _) hj
      have hin1:((stepF g bytes) (stG (stepF g bytes) bytes.length s0 s.1) k.1)∈(expO (stepF g bytes) bytes.length s0 (s.1*bytes.length+k.1)):=hin1
      refine exI ?_
      iterate 5 refine z21 ?_
      refine s_n K30 ?_;refine z9s (α:=Nat) (fun y=>[(1,.c (.ds bytes.length (.ints .i64 (natsI bytes)))),(3,.c (.clo f1 c1)),(4,.c (.clo f2 c2)),(5,.c (.int .i64 (most:Nat))),(12,.c (.ptr 0 0)),(14,.c (.ptr 1 0)),(15,.c (.map 2)),(16,.c (.slice 3 0 (expO (stepF g bytes) bytes.length s0 (s.1*bytes.length+(k.1+1))).length y)),(17,.c (.int .i64 (s.1:Nat))),(18,.c (.slice 6 0 bytes.length bytes.length)),(42,.c (.ds bytes.length (.ints .i64 (natsI bytes)))),(43,.c (.int .i64 (bytes.length:Nat))),(44,.c (.int .i64 (k.1:Nat))),(19,.c (.int .i64 (k.1:Nat))),(22,.c (.int .i64 ((numQ (stepF g bytes) bytes.length s0 s.1 k.1):Nat)))]) (fun y=>[(0,.own 87 (.cells zl) 259),(1,.own 87 (.cells (z02 cell bytes.length (.slice 4 0 s.1 s.2.2.1) (.slice 5 0 s.1 s.2.2.2))) 259),(2,.mp 161 (mapE stV (expO (stepF g bytes) bytes.length s0 (s.1*bytes.length+(k.1+1))))),(3,.own 95 (.cells (z2l encS (expO (stepF g bytes) bytes.length s0 (s.1*bytes.length+(k.1+1))))) (y*3)),(4,.own 51 (.cells (rowsC (rowsQ (stepF g bytes) bytes.length s0 s.1))) s.2.2.1),(5,.own 4 (.bools (accQ (stepF g bytes) bytes.length s0 acc s.1)) s.2.2.2),(6,.own 3 (.ints .i64 (rowQ (stepF g bytes) bytes.length s0 s.1 k.1)) bytes.length)]) 7 (fun y=>(expO (stepF g bytes) bytes.length s0 (s.1*bytes.length+(k.1+1))).length≤y∧(expO (stepF g bytes) bytes.length s0 (s.1*bytes.length+(k.1+1))).length≤most) ?_ ?_
      ·refine srR (cX_ok e1 q1ok e2 q2ok) fun _ K32=>?_
       iterate 2 refine z21 ?_
       refine s_n K32 ?_;refine z09 (b:=_) rfl (fun h_t63=>?_) (fun _=>?_)
       ·exfalso;cases h_t63
       refine z0b ?_;obtain⟨hst,hnq⟩:=numQ_in hi hk hin1;rw[←hnq]
       have hst:(expO (stepF g bytes) bytes.length s0 (s.1*bytes.length+(k.1+1)))=(expO (stepF g bytes) bytes.length s0 (s.1*bytes.length+k.1)):=hst
       rw[←hst];refine dnS [] id k.2 ⟨by rw[hst];exact hk2,by rw[hst];exact hk3⟩ [0,1,2,3,4,5,6] ?_ ?_ ?_ ?_
       ·exact uUr_0
       ·exact uUr_0
       ·exact uUr_0
       ·exact uUr_0
      ·intro y hy
       obtain⟨hy1,hy2⟩:=hy;refine z06 (cX_ok e1 q1ok e2 q2ok) fun _ K33=>?_
       iterate 4 refine z21 ?_
       refine zbx ?_;refine s_n K33 ?_;refine z0a ?_;apply K24;refine z06 (cX_ok e1 q1ok e2 q2ok) fun _ K34=>?_
       iterate 2 refine z21 ?_
       refine s_n K34 ?_
       have hX1:(rowQ (stepF g bytes) bytes.length s0 s.1 k.1).set (0+((k.1:Nat):Int).toNat*1) (((numQ (stepF g bytes) bytes.length s0 s.1 k.1):Nat):Int)=(rowQ (stepF g bytes) bytes.length s0 s.1 (k.1+1)):=by rw[show 0+((k.1:Nat):Int).toNat*1=k.1 by omega];exact zsi hk
       refine dnS [] id (k.1+1,y) ⟨⟨by show k.1+1≤_;omega,hy1,hy2⟩,by show _ - (k.1+1)< _;omega⟩ [0,1,2,3,4,5,6] ?_ ?_ ?_ ?_
       ·exact uUr_0
       ·exact uUr_0
       ·exact uUr_0
       ·exact uUr_0
     ·have hnin:((stepF g bytes) (stG (stepF g bytes) bytes.length s0 s.1) k.1)∉(expO (stepF g bytes) bytes.length s0 (s.1*bytes.length+k.1)):=st_no hno
      refine exI ?_
      iterate 5 refine z21 ?_
      refine s_n K30 ?_;refine z9s (α:=Nat) (fun y=>[(1,.c (.ds bytes.length (.ints .i64 (natsI bytes)))),(3,.c (.clo f1 c1)),(4,.c (.clo f2 c2)),(5,.c (.int .i64 (most:Nat))),(12,.c (.ptr 0 0)),(14,.c (.ptr 1 0)),(15,.c (.map 2)),(16,.c (.slice 3 0 (expO (stepF g bytes) bytes.length s0 (s.1*bytes.length+(k.1+1))).length y)),(17,.c (.int .i64 (s.1:Nat))),(18,.c (.slice 6 0 bytes.length bytes.length)),(42,.c (.ds bytes.length (.ints .i64 (natsI bytes)))),(43,.c (.int .i64 (bytes.length:Nat))),(44,.c (.int .i64 (k.1:Nat))),(19,.c (.int .i64 (k.1:Nat))),(22,.c (.int .i64 ((numQ (stepF g bytes) bytes.length s0 s.1 k.1):Nat)))]) (fun y=>[(0,.own 87 (.cells zl) 259),(1,.own 87 (.cells (z02 cell bytes.length (.slice 4 0 s.1 s.2.2.1) (.slice 5 0 s.1 s.2.2.2))) 259),(2,.mp 161 (mapE stV (expO (stepF g bytes) bytes.length s0 (s.1*bytes.length+(k.1+1))))),(3,.own 95 (.cells (z2l encS (expO (stepF g bytes) bytes.length s0 (s.1*bytes.length+(k.1+1))))) (y*3)),(4,.own 51 (.cells (rowsC (rowsQ (stepF g bytes) bytes.length s0 s.1))) s.2.2.1),(5,.own 4 (.bools (accQ (stepF g bytes) bytes.length s0 acc s.1)) s.2.2.2),(6,.own 3 (.ints .i64 (rowQ (stepF g bytes) bytes.length s0 s.1 k.1)) bytes.length)]) 7 (fun y=>(expO (stepF g bytes) bytes.length s0 (s.1*bytes.length+(k.1+1))).length≤y∧(expO (stepF g bytes) bytes.length s0 (s.1*bytes.length+(k.1+1))).length≤most) ?_ ?_
      ·refine srR (cX_ok e1 q1ok e2 q2ok) fun _ K36=>?_
       iterate 2 refine z21 ?_
       refine s_n K36 ?_;refine z09 (b:=_) rfl (fun _=>?_) (fun h_t63=>?_)
       rotate_left 1
       ·exfalso;cases h_t63
       refine srR (cX_ok e1 q1ok e2 q2ok) fun _ K38=>?_
       iterate 3 refine z21 ?_
       refine s_n K38 ?_;refine seq_k fun _ K39=>?_;refine srR (cX_ok e1 q1ok e2 q2ok) fun _ K41=>?_
       iterate 3 refine z21 ?_
       refine s_n K41 ?_;refine z09 (b:=_) rfl (fun h_t68=>?_) (fun h_t68=>?_)
       ·try simp only[dQ,reduceIte]at h_t68
        refine srR (cX_ok e1 q1ok e2 q2ok) fun _ K43=>?_;refine z21 ?_;refine zbx ?_;refine z21 ?_;refine s_n K43 ?_;obtain⟨hst,hnq⟩:=zsk hi hk hnin
        have hbig:Big (stepF g bytes) bytes.length s0 most:=⟨s.1,k.1+1,ha2,by omega,by
         show most< (expO (stepF g bytes) bytes.length s0 (s.1*bytes.length+(k.1+1))).length
         rw[show(expO (stepF g bytes) bytes.length s0 (s.1*bytes.length+(k.1+1)))=_ from hst,List.length_append]
         show most< _+1
         omega⟩
        rw[exR,if_pos hbig];refine z0g (z0k (cX_ok e1 q1ok e2 q2ok) (fun _ _ h=>h) (zyq _) [] [.cell 12 87,.tmp 13] rfl ?_)
        all_goals exact uUr_0
       ·try simp only[dQ,reduceIte]at h_t68
        refine z0b ?_;apply K39;refine srR (cX_ok e1 q1ok e2 q2ok) fun _ K45=>?_;refine z21 ?_;refine z6k ?_;refine exA (stV ((stepF g bytes) (stG (stepF g bytes) bytes.length s0 s.1) k.1)) (SV.as_refl _) ?_;refine z21 ?_;refine sX0 ?_;refine aI (zlt (hin.iok _ (hin.ig _ _ hIs hbk))) (And.intro (zyo fun a ha=>hin.iok _ (hII k.1 (Nat.le_of_lt hk) a ha)) (And.intro (fun jj u hj=>absurd (st_yes (z5x _) hj).2 hnin) (fun hno2=>?_)));refine exI ?_;refine s_n K45 ?_;refine z06 (cX_ok e1 q1ok e2 q2ok) fun _ K46=>?_;refine z21 ?_;refine z6k ?_;refine exA (stV ((stepF g bytes) (stG (stepF g bytes) bytes.length s0 s.1) k.1)) (SV.as_refl _) ?_;refine z21 ?_;refine z6k ?_;intro cap3 hcap3;refine exI ?_;refine z21 ?_;refine s_n K46 ?_;obtain⟨hst,hnq⟩:=zsk hi hk hnin
        have hst:(expO (stepF g bytes) bytes.length s0 (s.1*bytes.length+(k.1+1)))=(expO (stepF g bytes) bytes.length s0 (s.1*bytes.length+k.1))++[((stepF g bytes) (stG (stepF g bytes) bytes.length s0 s.1) k.1)]:=hst
        have hL0:(expO (stepF g bytes) bytes.length s0 (s.1*bytes.length+k.1)).length+1=(expO (stepF g bytes) bytes.length s0 (s.1*bytes.length+(k.1+1))).length:=by rw[hst,List.length_append];rfl
        rw[←hnq]
        have hX4:mapE stV (expO (stepF g bytes) bytes.length s0 (s.1*bytes.length+k.1))++[(stV ((stepF g bytes) (stG (stepF g bytes) bytes.length s0 s.1) k.1),.c (.int .i64 (((numQ (stepF g bytes) bytes.length s0 s.1 k.1):Nat):Int)))]=mapE stV (expO (stepF g bytes) bytes.length s0 (s.1*bytes.length+(k.1+1))):=by rw[hst,hnq, ←zd3]
        have hXS:z2l encS (expO (stepF g bytes) bytes.length s0 (s.1*bytes.length+k.1))++encS ((stepF g bytes) (stG (stepF g bytes) bytes.length s0 s.1) k.1)=z2l encS (expO (stepF g bytes) bytes.length s0 (s.1*bytes.length+(k.1+1))):=by rw[hst,zwz]
        refine dnS [] (fun i=>if i=3 then 9 else i) cap3 ⟨by omega,by omega⟩ [0,1,2,9,4,5,6] uUr_0 uUr_0 uUr_0 uUr_0
      ·intro y hy
       obtain⟨hy1,hy2⟩:=hy;refine z06 (cX_ok e1 q1ok e2 q2ok) fun _ K47=>?_
       iterate 4 refine z21 ?_
       refine zbx ?_;refine s_n K47 ?_;refine z0a ?_;apply K24;refine z06 (cX_ok e1 q1ok e2 q2ok) fun _ K48=>?_
       iterate 2 refine z21 ?_
       refine s_n K48 ?_
       have hX1:(rowQ (stepF g bytes) bytes.length s0 s.1 k.1).set (0+((k.1:Nat):Int).toNat*1) (((numQ (stepF g bytes) bytes.length s0 s.1 k.1):Nat):Int)=(rowQ (stepF g bytes) bytes.length s0 s.1 (k.1+1)):=by rw[show 0+((k.1:Nat):Int).toNat*1=k.1 by omega];exact zsi hk
       refine dnS [] id (k.1+1,y) ⟨⟨by show k.1+1≤_;omega,hy1,hy2⟩,by show _ - (k.1+1)< _;omega⟩ [0,1,2,3,4,5,6] ?_ ?_ ?_ ?_
       ·exact uUr_0
       ·exact uUr_0
       ·exact uUr_0
       ·exact uUr_0
    ·try simp only[dQ,reduceIte]at h_t45
     refine z0o ?_;refine z01 ?_;refine z01 ?_;refine z0j ?_;apply K18
     have hke:k.1=bytes.length:=by omega
     have hpe:s.1*bytes.length+k.1=(s.1+1)*bytes.length:=by rw[hke,Nat.succ_mul]
     rw[hpe];rw[hpe]at hk2 hk3;rw[hke];refine leW [6] id [(1,.c (.ds bytes.length (.ints .i64 (natsI bytes)))),(3,.c (.clo f1 c1)),(4,.c (.clo f2 c2)),(5,.c (.int .i64 (most:Nat))),(12,.c (.ptr 0 0)),(14,.c (.ptr 1 0)),(15,.c (.map 2)),(16,.c (.slice 3 0 (expO (stepF g bytes) bytes.length s0 ((s.1+1)*bytes.length)).length k.2)),(17,.c (.int .i64 (s.1:Nat))),(18,.c (.ds bytes.length (.ints .i64 (rowQ (stepF g bytes) bytes.length s0 s.1 bytes.length))))] [(0,.own 87 (.cells zl) 259),(1,.own 87 (.cells (z02 cell bytes.length (.slice 4 0 s.1 s.2.2.1) (.slice 5 0 s.1 s.2.2.2))) 259),(2,.mp 161 (mapE stV (expO (stepF g bytes) bytes.length s0 ((s.1+1)*bytes.length)))),(3,.own 95 (.cells (z2l encS (expO (stepF g bytes) bytes.length s0 ((s.1+1)*bytes.length)))) (k.2*3)),(4,.own 51 (.cells (rowsC (rowsQ (stepF g bytes) bytes.length s0 s.1))) s.2.2.1),(5,.own 4 (.bools (accQ (stepF g bytes) bytes.length s0 acc s.1)) s.2.2.2)] 6 [0,1,2,3,4,5] uUr_0 uUr_0 uUr_0 uUr_0 ?_;refine srR (cX_ok e1 q1ok e2 q2ok) fun _ K50=>?_;refine z21 ?_;refine z6k ?_;refine exA (.c (.slice 4 0 s.1 s.2.2.1)) (as_c (tab_x hcl)) ?_
     iterate 2 refine z21 ?_
     refine z6k ?_;intro cap4 hcap4;refine exI ?_;refine z21 ?_;refine zbx ?_;refine s_n K50 ?_
     revert cap4 hcap4
     intro capA hcapA
     have hil2:s.1< (expO (stepF g bytes) bytes.length s0 ((s.1+1)*bytes.length)).length:=Nat.lt_of_lt_of_le hi (z1p (Nat.mul_le_mul_right _ (Nat.le_succ _)))
     have hge2:=zht (f:=(stepF g bytes)) (b0:=s0) (p:=(s.1+1)*bytes.length) hi (Nat.mul_le_mul_right _ (Nat.le_succ _))
     refine z5v (cX_ok e1 q1ok e2 q2ok) [(0,true),(1,true),(2,true),(3,true),(4,true),(5,true),(6,true),(7,false),(8,false),(9,false),(10,true),(11,false)] rfl kR kR fun _ K51=>?_;refine zyx ?_;refine zyy ?_;refine exA (.c (.slice 5 0 s.1 s.2.2.2)) (as_c (show(Cont.cells _).get (0+258)=_ by first|exact tab_y hcl|(rw[zi8 hcl rfl];exact tab_y hcl))) ?_
     iterate 4 refine zyx ?_
     refine zyy ?_;refine exA (stV (stG (stepF g bytes) bytes.length s0 s.1)) (zs2 recS (fun _ _=>trivial) (by omega) rfl hge2) ?_;refine gX ?_;refine zuz (xs:=[stV (stG (stepF g bytes) bytes.length s0 s.1)]) (cX_look2 hne) (dv_st1 _) hin.d2 ?_;refine⟨_,hin.h2 _ hIs,?_⟩
     first|refine exI ?_|(intro cap7 hcap7;refine exI ?_)
     refine gXUr_4 ?_;refine gXEUr_8 ?_;intro cap9 hcap9;refine exI ?_;refine zyx ?_;refine gX0Ur_5 ?_;refine d_n K51 ?_;refine z0a ?_;apply K15;refine z06 (cX_ok e1 q1ok e2 q2ok) fun _ K52=>?_
     iterate 3 refine z21 ?_
     refine s_n K52 ?_
     have hlen2:=z1p (f:=(stepF g bytes)) (nc:=bytes.length) (b0:=s0) (p:=s.1*bytes.length) (q:=(s.1+1)*bytes.length) (Nat.mul_le_mul_right _ (by omega))
     have hah:∀ j,j< s.1+1→j< (expO (stepF g bytes) bytes.length s0 (j*bytes.length)).length:=fun j hj=>ha2 j (by omega)
     have hX3:(accQ (stepF g bytes) bytes.length s0 acc s.1)++([]++[acc (stG (stepF g bytes) bytes.length s0 s.1)])=(accQ (stepF g bytes) bytes.length s0 acc (s.1+1)):=zxl acc s.1
     have hXR:rowsC (rowsQ (stepF g bytes) bytes.length s0 s.1)++([]++[.ds bytes.length (.ints .i64 (rowQ (stepF g bytes) bytes.length s0 s.1 bytes.length))])=rowsC (rowsQ (stepF g bytes) bytes.length s0 (s.1+1)):=by
      have:=z59 (rowsQ (stepF g bytes) bytes.length s0 s.1) (rowQ (stepF g bytes) bytes.length s0 s.1 bytes.length)
      rw[zhs,zva]at this;exact this
     refine dnS [] (fun i=>if i=4 then 7 else if i=5 then 9 else i) (s.1+1,k.2,capA,cap9) ⟨⟨by show s.1+1≤_;omega,hah,(by show s.1+1≤(expO (stepF g bytes) bytes.length s0 ((s.1+1)*bytes.length)).length;omega),hk2,hk3,(by show s.1+1≤capA;omega),(by show s.1+1≤cap9;omega)⟩,by show _ - (s.1+1)< _;omega⟩ [0,1,2,3,7,9] ?_ ?_ ?_ ?_
     ·exact uUr_0
     ·exact uUr_0
     ·exact uUr_0
     ·exact uUr_0
  ·try simp only[dQ,reduceIte]at h_t36
   refine z0o ?_;refine z01 ?_;refine z01 ?_;refine z0j ?_;apply K9
   have hfu:=zxm (f:=(stepF g bytes)) (b0:=s0) ha (by omega)
   refine leW [4,5] id [(1,.c (.ds bytes.length (.ints .i64 (natsI bytes)))),(3,.c (.clo f1 c1)),(4,.c (.clo f2 c2)),(5,.c (.int .i64 (most:Nat))),(12,.c (.ptr 0 0)),(14,.c (.ptr 1 0))] [(0,.own 87 (.cells zl) 259),(1,.own 87 (.cells (z02 cell bytes.length (.ds s.1 (.cells (rowsC (rowsQ (stepF g bytes) bytes.length s0 s.1)))) (.ds s.1 (.bools (accQ (stepF g bytes) bytes.length s0 acc s.1))))) 259)] 2 [0,1] uUr_0 uUr_0 uUr_0 uUr_0 ?_;refine srR (cX_ok e1 q1ok e2 q2ok) fun _ K54=>?_;refine z21 ?_;refine zbx ?_;refine z21 ?_;refine s_n K54 ?_;rw[exR,if_neg (full_big hfu hs1),zyp hfu]
   have hq1:s.1=(tabQ (stepF g bytes) acc cell bytes.length s0 s.1).next.length:=(z58 (f:=stepF g bytes) (nc:=bytes.length) (b0:=s0) s.1).symm
   have hq2:s.1=(tabQ (stepF g bytes) acc cell bytes.length s0 s.1).acc.length:=(zbt (f:=stepF g bytes) (nc:=bytes.length) (b0:=s0) acc s.1).symm
   refine z0g (z0k (cX_ok e1 q1ok e2 q2ok) (fun _ _ h=>h) (zyq _) [] [.cell 12 87,.tmp 13] rfl ?_)
   repeat first|refine aI (by first|exact trivial|rfl|omega|exact z44 trivial trivial|exact zlu hcl|(show 0+259≤(z02 _ _ _ _).length;rw[z00 hcl];decide)|(show 0< (z02 _ _ _ _).length;rw[z00 hcl];decide)) ?_|refine z03 (zi9 hcl) ?_|refine z04 (z00 hcl) ?_
   repeat' (first|assumption|exact zl_toL|exact zyr|exact z4x z7w _ _|exact z27 z7w _|exact zs3 recS|exact z74 trivial (by show _< _;omega)|exact z74 (by show _< _;omega) (by show _< _;omega)|exact z3k hin.d1|exact z3k hin.d2|exact z91 hin.d1|exact z91 hin.d2|exact pT|exact trivial|refine aI ?_ ?_|exact cC0|refine low_cons' ?_ ?_|exact cC1|fail)
   all_goals first|omega|exact hL0|exact(z58 (f:=stepF g bytes) (nc:=bytes.length) (b0:=s0) s.1).symm|exact(zbt (f:=stepF g bytes) (nc:=bytes.length) (b0:=s0) acc s.1).symm|exact z7n|(intro x hx;rw[List.nil_append]at hx;rw[List.mem_singleton.1 hx];exact⟨rfl,rfl⟩)|exact zaj|exact z4x z7w _ _|exact z27 z7w _|(rw[hX4];exact z27 z7w _)|(show(_:List Int)=_;first|assumption|rfl)|(show(_:List Bool)=_;first|assumption|rfl)|(show(_:List (SV×SV))=_;first|assumption|rfl)|exact z91 hin.d1|exact z91 hin.d2|exact z3k hin.d1|exact z3k hin.d2|exact zs4 (zay recS _) (by first|rfl|assumption|exact hXS)|(show allTo _ _ _;first|(rw[hXR];exact z1m _)|(rw[hXR];trivial)|exact z1m _)|(show allTo _ _ _;first|(rw[zi8 hcl rfl,zo6 hcl rfl];refine z2w ?_ ?_<;>(repeat' (first|exact trivial|refine aI ?_ ?_|rfl|omega|decide|exact z3a _|(simp;done)|rw[if_pos ⟨rfl,by simp⟩])))|(refine z2w ?_ ?_<;>(repeat' (first|exact trivial|refine aI ?_ ?_|rfl|omega|decide|exact z3a _|(simp;done)|rw[if_pos ⟨rfl,by simp⟩]))))|(show(0:Nat)< (z02 _ _ _ _).length;rw[z00 hcl];decide)|(simp[-List.reduceReplicate];done)|(simp[-List.reduceReplicate]<;>omega)|skip
   all_goals first|exact hq1|exact hq2

end Go.Proofs.YtppmnaoollkboaaDoor
