/- Contracts of functions and plain facts, part 16. -/
import Derived.Test.YtppmnaoollkboaaDoorQo
import Derived.Test.YtppmnaoollkboaaDoorQd
import Derived.Test.YtppmnaoollkboaaDoorQl
import Derived.Test.YtppmnaoollkboaaDoorQn
import Derived.Test.YtppmnaoollkboaaDoorQm
import Derived.Test.YtppmnaoollkboaaDoorQk
set_option maxHeartbeats 2000000
set_option maxRecDepth 4000
namespace Go.Proofs.YtppmnaoollkboaaDoor
set_option linter.all false
open Go.Ab Go.RowKit

section
variable {a b:Prop}
theorem qRn0(h:a:=by first|exact vcA|(simp<;>omega)|exact⟨by omega,by omega⟩|exact⟨by omega,by omega,trivial⟩|exact⟨by omega,by omega,trivial,trivial⟩|(simp only[z4n,z33];omega)|(simp only[z4n,zhx];omega)|(rw[z4n,z6v];done)|(simp;done)|(show 4=_;simp;done)|exact vcB):a:=h
theorem uRn_0(h:a:=by
    repeat' (first|assumption|exact zfn hin.d1|exact zbd hin.d1|exact pT|exact trivial|refine aI ?_ ?_|exact cC0|refine low_cons' ?_ ?_|exact cC1|fail)
    all_goals first|omega|(rw[if_pos ⟨rfl,(by show(g.1++_).length=(nB r+1)*4;exact hge.1)⟩];first|done|rfl)|exact z2w _|exact z1h _|exact hL0|exact zfn hin.d1|exact zbd hin.d1|(show(_:List UInt64)=_;first|assumption|rfl)|(show(_:List UInt8)=_;first|assumption|rfl)|(simp;done)|(simp<;>omega)|(show(0:Nat)< (z08 _ _ _ _).length;rw[z06 hcl];decide)|(simp[-List.reduceReplicate];done)|(simp[-List.reduceReplicate]<;>omega)|skip):a:=h
theorem DRn_0(kZ:b)(h:HidB b→a:=by intro kZ;(repeat first|refine aI qRn0 ?_|refine z0a qRn0 ?_|refine z07 qRn0 ?_|refine z0l qRn0 ?_|refine z0c ?_);exact kZ.out):a:=h ⟨kZ⟩
theorem z37(kZ:b)(h:HidB b→a:=by intro kZ;refine sX ?_;refine DRn_0 ?_;refine exI ?_;exact kZ.out):a:=h ⟨kZ⟩
theorem zrs(kZ:b)(h:HidB b→a:=by intro kZ;refine dX ?_;refine DRn_0 ?_;refine exI ?_;exact kZ.out):a:=h ⟨kZ⟩
theorem gXRn_5(kZ:b)(h:HidB b→a:=by intro kZ;refine gX ?_;refine DRn_0 ?_;refine exI ?_;exact kZ.out):a:=h ⟨kZ⟩
theorem zyl(kZ:b)(h:HidB b→a:=by intro kZ;refine gX0 ?_;refine DRn_0 ?_;refine exI ?_;exact kZ.out):a:=h ⟨kZ⟩
theorem zpg(kZ:b)(h:HidB b→a:=by intro kZ;refine sX0 ?_;refine DRn_0 ?_;refine exI ?_;exact kZ.out):a:=h ⟨kZ⟩
theorem zat(kZ:b)(h:HidB b→a:=by intro kZ;refine sX ?_;refine DRn_0 ?_;exact kZ.out):a:=h ⟨kZ⟩
theorem zep(kZ:b)(h:HidB b→a:=by intro kZ;refine gX ?_;refine DRn_0 ?_;exact kZ.out):a:=h ⟨kZ⟩
end
open Go.Aut
theorem hasW_add{s:List UInt64}(hs:s.length=4)(b:UInt8){x:Nat}(hx:x< 256):hasW (addW s b) x=(hasW s x||decide (x=b.toNat)):=by
  have h1:(b / 64).toNat=b.toNat / 64:=by rw[UInt8.toNat_div];rfl
  have h2:(b%64).toNat=b.toNat%64:=by rw[UInt8.toNat_mod];rfl
  have hb:=b.toNat_lt
  rw[addW,h1,h2,hasW,z19 (by omega),hasW]
  by_cases e:b.toNat / 64=x / 64
  · rw[if_pos e,e,UInt64.toNat_or,Nat.testBit_or]
    have:=zbw (b.toNat%64) (x%64)
    rw[zjb]at this;rw[this]
    congr 1
    rw[Bool.eq_iff_iff];simp;omega
  · rw[if_neg e]
    have:¬ x=b.toNat:=fun h=>e (by rw[h])
    simp[this]
theorem zmy{x:Nat}(hx:x< 256):∀ (l:List UInt8) (s:List UInt64),s.length=4→(hasW (l.foldl addW s) x=true↔hasW s x=true∨∃ b∈l,b.toNat=x)
  |[],s,_=>by simp
  | b ::l,s,hs=>by
    have e:(∃ c∈b::l,c.toNat=x)↔b.toNat=x∨∃ c∈l,c.toNat=x:=by simp
    rw[List.foldl_cons,zmy hx l _ (by rw[zgc];exact hs),hasW_add hs b hx,Bool.or_eq_true,decide_eq_true_eq,e,or_assoc]
    constructor
    · rintro (h|h|h)
      · exact .inl h
      · exact .inr (.inl h.symm)
      · exact .inr (.inr h)
    · rintro (h|h|h)
      · exact .inl h
      · exact .inr (.inl h.symm)
      · exact .inr (.inr h)
theorem hasW_of{l:List UInt8}{x:Nat}(hx:x< 256):hasW (ofW l) x=true↔∃ b∈l,b.toNat=x:=by
  rw[ofW,zmy hx l _ (by simp),show hasW (List.replicate 4 0) x=false from z5k x]
  simp
def digK(r:Rul)(v k:Nat):List UInt8:=((List.range k).filter fun b=>decide (z0t r.base (UInt8.ofNat b)=(v:Int))).map UInt8.ofNat
theorem zyn(r:Rul)(v:Nat):digK r v 0=[]:=rfl
theorem digK_yes{r:Rul}{v k:Nat}(h:z0t r.base (UInt8.ofNat k)=(v:Int)):digK r v k++[UInt8.ofNat k]=digK r v (k+1):=by
  rw[digK,digK,List.range_succ,List.filter_append,List.map_append]
  simp[h]
theorem digK_no{r:Rul}{v k:Nat}(h:z0t r.base (UInt8.ofNat k)≠(v:Int)):digK r v k=digK r v (k+1):=by
  rw[digK,digK,List.range_succ,List.filter_append,List.map_append]
  simp[h]
theorem zrt(r:Rul)(v k:Nat):(digK r v k).length≤k:=by
  rw[digK,List.length_map];exact Nat.le_trans (List.length_filter_le _ _) (by simp)
theorem digK_mem{r:Rul}{v x:Nat}(hx:x< 256):(∃ b∈digK r v 256,b.toNat=x)↔z0t r.base (UInt8.ofNat x)=(v:Int):=by
  constructor
  · rintro ⟨b,hb,rfl⟩
    obtain⟨y,hy,rfl⟩:=List.mem_map.1 hb;obtain⟨h1,h2⟩:=List.mem_filter.1 hy
    have h1:=List.mem_range.1 h1
    rw[UInt8.toNat_ofNat_of_lt' h1];exact of_decide_eq_true h2
  · intro h
    exact⟨UInt8.ofNat x,List.mem_map.2 ⟨x,List.mem_filter.2 ⟨List.mem_range.2 hx,decide_eq_true h⟩,rfl⟩,UInt8.toNat_ofNat_of_lt' hx⟩
structure GD(r:Rul)(v:Nat)(cw:List UInt64):Prop where
  len:cw.length=v*4
  bit:∀ c x,c< v→x< 256→(hasC cw c x=true↔z0t r.base (UInt8.ofNat x)=(c:Int))
theorem gdN_zero(r:Rul):GD r 0 []:=⟨rfl,fun _ _ h=>absurd h (Nat.not_lt_zero _)⟩
theorem zmz{a b:List UInt64}{n c x:Nat}(ha:a.length=n*4)(hc:c< n)(hx:x< 256):hasC (a++b) c x=hasC a c x:=by
  rw[hasC,hasC,List.getD_eq_getElem?_getD,List.getD_eq_getElem?_getD,List.getElem?_append_left (by omega)]
theorem zn0{a b:List UInt64}{n x:Nat}(ha:a.length=n*4):hasC (a++b) n x=hasW b x:=by
  rw[hasC,hasW,List.getD_eq_getElem?_getD,List.getD_eq_getElem?_getD,List.getElem?_append_right (by omega),ha,Nat.add_sub_cancel_left]
theorem gdN_next{r:Rul}{v:Nat}{cw:List UInt64}(h:GD r v cw):GD r (v+1) (cw++ofW (digK r v 256)):=by
  have hl:=h.len
  refine⟨by rw[List.length_append,zhx,hl];omega,fun c x hc hx=>?_⟩
  by_cases e:c< v
  · rw[zmz hl e hx];exact h.bit c x e hx
  · obtain rfl:c=v:=by omega
    rw[zn0 hl,hasW_of hx,digK_mem hx]
theorem gdN_end{r:Rul}(hr:r.ok){cw:List UInt64}(h:GD r (nB r) cw):(cw++notK (seenL cw (nB r))).length=(nB r+1)*4∧∀ c b,c< nB r+1→b< 256→(hasC (cw++notK (seenL cw (nB r))) c b=true↔digC r (UInt8.ofNat b)=c):=by
  have hl:=h.len
  have hB:=z4r hr
  have hn:(notK (seenL cw (nB r))).length=4:=z33 ..
  refine⟨by rw[List.length_append,hn,hl];omega,fun c b hc hb=>?_⟩
  have hd:=z70 hr (UInt8.ofNat b)
  by_cases e:c< nB r
  · rw[zmz hl e hb,h.bit c b e hb,digC]
    split<;>omega
  · obtain rfl:c=nB r:=by omega
    rw[zn0 hl,zjc _ hb,Bool.not_eq_true',Bool.eq_false_iff,Ne,z7q _ hb,digC]
    constructor
    · intro hh
      split
      · rfl
      · exact absurd ⟨(z0t r.base (UInt8.ofNat b)).toNat,by omega,(h.bit _ b (by omega) hb).2 (by omega)⟩ hh
    · rintro hh ⟨x,hx,e2⟩
      have:=(h.bit x b hx hb).1 e2
      rw[if_neg (by omega)]at hh
      omega
theorem zru{f:FuncId}:∀ {l:List Cell},(∀ x∈l,x.pureB=true)→SV.ids (.c (.clo f l))=[]
  |[],_=>rfl
  | x::l,h=>by
    have h2:=zru (f:=f) fun y hy=>h y (List.mem_cons_of_mem _ hy)
    have hx:=h x List.mem_cons_self
    cases x<;>first|exact h2|(simp[Cell.pureB]at hx;done)
theorem zyo{f:FuncId}{c:List Cell}{a b:SV}(ha:SV.ids a=[])(hb:SV.ids b=[])(h:∀ x∈c,x.pureB=true):List.flatMap SV.ids [a,b,.c (.clo f c)]=[]:=by
  rw[List.flatMap_cons,List.flatMap_cons,List.flatMap_cons,ha,hb,zru h];rfl
structure BdIn(r:Rul)(P:Int×Bool→Bool)(q1:QSpec)(c1:List Cell):Prop where
  ok:r.ok
  p0:P (0,false)=false
  d1:∀ x∈c1,dataC x
  d2:∀ x∈c1,x.pureB=true∧∀ g l,x≠Cell.clo g l
  h1:∀ s:Sta,s.ok→q1 ([staV s]++c1.map .c) (fun v=>v= .c (.bool (P (z24 r s))))
def bldS(f1:FuncId)(q1:QSpec):QSpec:=fun vs K=>∃ (r:Rul) (P:Int×Bool→Bool) (c1:List Cell),vs=[rulV r,.c (.clo f1 c1)]∧BdIn r P q1 c1∧K (resV (canD (langN r P),0))
noncomputable def cB(f1:FuncId)(q1:QSpec):Ctx:={ P:=Tryd.prog,ty:=ty,glob:=gl,fs:=[(111,.flat zp7),(155,.flat ofBS),(107,.flat zqx),(108,.flat notCS),(156,.data (asmS f1 q1))] }
theorem cB_ok{f1:FuncId}{q1:QSpec}(e1:z67 Tryd.prog f1)(h1:z1s Tryd.prog gl f1 q1)(hne:112≠f1∧168≠f1∧169≠f1):(cB f1 q1).OK:=⟨tyOK,⟨⟨z0b Tryd.func111 kR rfl,zml⟩,⟨z0b Tryd.func155 kR rfl,ofB_ok⟩,⟨z0b Tryd.func107 kR rfl,zj9⟩,⟨z0b Tryd.func108 kR rfl,zw5⟩,⟨z0b Tryd.func156 kR rfl,asm_ok e1 h1 hne⟩,trivial⟩,mixed⟩
@[simp] theorem cB_ty{f1:FuncId}{q1:QSpec}:(cB f1 q1).ty=ty:=rfl
attribute [local irreducible] z0o z0y zl z08 z0v putB canD digK
theorem zyp{f1:FuncId}{q1:QSpec}(e1:z67 Tryd.prog f1)(q1ok:z1s Tryd.prog gl f1 q1)(hne:112≠f1∧168≠f1∧169≠f1):z1x Tryd.prog gl 114 (bldS f1 q1):=by
 refine z1c (Γ:=cB f1 q1) (N:=66) Tryd.func114 rfl rfl fun vs K h=>?_;obtain⟨r,P,c1,rfl,hin,h⟩:=h;refine⟨_,h,z1h _,by simp,fun w I=>?_⟩
 have hr:=hin.ok
 have hB:=z4r hr
 refine srR (cB_ok e1 q1ok hne) fun _ K2=>?_
 iterate 3 refine z37 ?_
 refine s_n K2 ?_;refine srR (cB_ok e1 q1ok hne) fun _ K4=>?_;refine z37 ?_;refine s_n K4 ?_;refine seq_k fun _ K5=>?_;refine leW [0] (fun i=>i+1) [(1,.c (.clo f1 c1)),(2,.c (.dp (rulC r) 0)),(4,.c (.ptr 0 0)),(6,.c (.ptr 1 0))] [(0,.own 30 (.cells [.nils,.nils,.nils]) 3),(1,.own 30 (.cells [.nils,.nils,.nils]) 3)] 2 [1,2] uRn_0 uRn_0 uRn_0 uRn_0 ?_;refine srR (cB_ok e1 q1ok hne) fun _ K7=>?_;refine z37 ?_;refine zat ?_;refine exA (.c (.int .i64 (((nB r:Nat):Int)))) (as_i (hB.1.symm)) ?_;refine z37 ?_;refine s_n K7 ?_;refine z03 ?_;refine z5g 1 0 50 (.u64s []) rfl rfl rfl trivial ?_;refine z0m (α:=List UInt64×Nat×Nat) (fun g=>[(1,.c (.clo f1 c1)),(2,.c (.dp (rulC r) 0)),(4,.c (.ptr 0 0)),(6,.c (.ptr 1 0)),(14,.c (.int .i64 (nB r:Nat))),(15,.c (.int .i64 (g.2.1:Nat)))]) (fun g=>[(0,.own 30 (.cells [.nils,.nils,.nils]) 3),(1,.own 30 (.cells [.slice 2 0 g.2.1 g.2.2,.nils,.nils]) 3),(2,.own 50 (.u64s g.1) (g.2.2*4))]) 3 (fun g=>g.2.1≤nB r∧GD r g.2.1 g.1∧g.2.1≤g.2.2) (fun g=>nB r - g.2.1) ?_ ?_
 ·refine dnS [] id ([],0,0) ⟨Nat.zero_le _,gdN_zero r,Nat.le_refl _⟩ [0,1,2] uRn_0 uRn_0 uRn_0 uRn_0
 ·intro g hg
  obtain⟨hg1,hgd,hg3⟩:=hg
  have hgl:=hgd.len
  refine srR (cB_ok e1 q1ok hne) fun _ K9=>?_;refine z37 ?_;refine s_n K9 ?_;refine seq_k fun _ K10=>?_;refine z04 (b:=_) rfl (fun h_t16=>?_) (fun h_t16=>?_)
  ·try simp only[dQ,reduceIte]at h_t16
   refine z09 ?_;apply K10;refine seq_k fun _ K11=>?_;refine z03 ?_;refine srR (cB_ok e1 q1ok hne) fun _ K13=>?_
   iterate 2 refine z37 ?_
   refine s_n K13 ?_;refine srR (cB_ok e1 q1ok hne) fun _ K15=>?_;refine z37 ?_;refine s_n K15 ?_;refine seq_k fun _ K16=>?_;refine srR (cB_ok e1 q1ok hne) fun _ K18=>?_;refine z37 ?_;refine s_n K18 ?_;refine z03 ?_;refine zqb 8 5 (.u8s []) rfl rfl trivial ?_;refine z0m (α:=Nat×Nat) (fun k=>[(1,.c (.clo f1 c1)),(2,.c (.dp (rulC r) 0)),(4,.c (.ptr 0 0)),(6,.c (.ptr 1 0)),(14,.c (.int .i64 (nB r:Nat))),(15,.c (.int .i64 (g.2.1:Nat))),(7,.c (.int .i64 (g.2.1:Nat))),(8,.c (.slice 3 0 (digK r g.2.1 k.1).length k.2)),(18,.c (.int .i64 (k.1:Nat)))]) (fun k=>[(0,.own 30 (.cells [.nils,.nils,.nils]) 3),(1,.own 30 (.cells [.slice 2 0 g.2.1 g.2.2,.nils,.nils]) 3),(2,.own 50 (.u64s g.1) (g.2.2*4)),(3,.own 5 (.u8s (digK r g.2.1 k.1)) k.2)]) 4 (fun k=>k.1≤256∧(digK r g.2.1 k.1).length≤k.2) (fun k=>256 - k.1) ?_ ?_
   ·have hX0:[]=(digK r g.2.1 0):=(zyn r g.2.1).symm
    have hL0:0=(digK r g.2.1 0).length:=by rw[←hX0];rfl
    refine dnS [] id (0,0) ⟨Nat.zero_le _,Nat.le_of_eq hL0.symm⟩ [0,1,2,3] uRn_0 uRn_0 uRn_0 uRn_0
   ·intro k hk
    obtain⟨hk1,hk2⟩:=hk
    have hdl:=zrt r g.2.1 k.1
    refine srR (cB_ok e1 q1ok hne) fun _ K20=>?_;refine z37 ?_;refine s_n K20 ?_;refine seq_k fun _ K21=>?_;refine z04 (b:=_) rfl (fun h_t19=>?_) (fun h_t19=>?_)
    ·try simp only[dQ,reduceIte]at h_t19
     refine z09 ?_;apply K21;refine seq_k fun _ K22=>?_;refine z03 ?_;refine srR (cB_ok e1 q1ok hne) fun _ K24=>?_
     iterate 2 refine z37 ?_
     refine s_n K24 ?_
     have hk256:k.1< 256:=by omega
     refine srR (cB_ok e1 q1ok hne) fun _ K26=>?_
     iterate 3 refine z37 ?_
     refine zat ?_;refine exA (.c (.u8 (UInt8.ofNat k.1))) (as_eq (congrArg (fun v=>SV.c (Cell.u8 v)) (z2y _))) ?_;refine zat ?_;refine⟨r.base,UInt8.ofNat k.1,rfl,?_⟩;refine DRn_0 ?_
     first|refine exI ?_|(intro cap4 hcap4;refine exI ?_)
     iterate 2 refine z37 ?_
     refine s_n K26 ?_;refine z04 (b:=_) rfl (fun h_t27=>?_) (fun h_t27=>?_)
     ·try simp only[dQ,reduceIte]at h_t27
      refine z01 (cB_ok e1 q1ok hne) fun _ K27=>?_
      iterate 2 refine zmu ?_
      refine zpe ?_;refine exA (.c (.u8 (UInt8.ofNat k.1))) (as_eq (congrArg (fun v=>SV.c (Cell.u8 v)) (z2y _))) ?_;refine zmu ?_;refine zpe ?_;intro cap4 hcap4;refine exI ?_;refine zmu ?_;refine s_n K27 ?_;refine z05 ?_;apply K22;refine z01 (cB_ok e1 q1ok hne) fun _ K28=>?_
      iterate 2 refine z37 ?_
      refine s_n K28 ?_
      have hX0:(digK r g.2.1 k.1)++([]++[UInt8.ofNat k.1])=(digK r g.2.1 (k.1+1)):=digK_yes (by first|assumption|omega)
      have hL0:(digK r g.2.1 k.1).length+1=(digK r g.2.1 (k.1+1)).length:=by rw[←hX0,List.length_append];rfl
      refine dnS [] (fun i=>if i=3 then 5 else i) (k.1+1,cap4) ⟨⟨by show k.1+1≤256;omega,(by rw[←hL0];omega)⟩,(by show 256 - (k.1+1)< _;omega)⟩ [0,1,2,5] ?_ ?_ ?_ ?_
      ·exact uRn_0
      ·exact uRn_0
      ·exact uRn_0
      ·exact uRn_0
     ·try simp only[dQ,reduceIte]at h_t27
      refine z09 ?_;refine z05 ?_;apply K22;refine z01 (cB_ok e1 q1ok hne) fun _ K29=>?_
      iterate 2 refine z37 ?_
      refine s_n K29 ?_
      have hX0:(digK r g.2.1 k.1)=(digK r g.2.1 (k.1+1)):=digK_no (by first|assumption|omega)
      have hL0:(digK r g.2.1 k.1).length=(digK r g.2.1 (k.1+1)).length:=by rw[←hX0]
      refine dnS [] id (k.1+1,k.2) ⟨⟨by show k.1+1≤256;omega,(by rw[←hL0];exact hk2)⟩,(by show 256 - (k.1+1)< _;omega)⟩ [0,1,2,3] ?_ ?_ ?_ ?_
      ·exact uRn_0
      ·exact uRn_0
      ·exact uRn_0
      ·exact uRn_0
    ·try simp only[dQ,reduceIte]at h_t19
     refine z0i ?_;refine z00 ?_;refine z00 ?_;refine z0f ?_;apply K16
     obtain hk6:k.1=256:=by omega
     have hdl:=zrt r g.2.1 256
     rw[hk6];rw[hk6]at hk2;refine leW [3] id [(1,.c (.clo f1 c1)),(2,.c (.dp (rulC r) 0)),(4,.c (.ptr 0 0)),(6,.c (.ptr 1 0)),(14,.c (.int .i64 (nB r:Nat))),(15,.c (.int .i64 (g.2.1:Nat))),(8,.c (.ds (digK r g.2.1 256).length (.u8s (digK r g.2.1 256))))] [(0,.own 30 (.cells [.nils,.nils,.nils]) 3),(1,.own 30 (.cells [.slice 2 0 g.2.1 g.2.2,.nils,.nils]) 3),(2,.own 50 (.u64s g.1) (g.2.2*4))] 3 [0,1,2] uRn_0 uRn_0 uRn_0 uRn_0 ?_;refine z69 (cB_ok e1 q1ok hne) [(0,true),(1,true),(2,true),(3,false),(4,false),(5,false),(6,true),(7,false)] rfl kR kR fun _ K30=>?_
     iterate 3 refine zrs ?_
     refine zep ?_;refine⟨(digK r g.2.1 256),rfl,by omega,?_⟩;refine DRn_0 ?_
     first|refine exI ?_|(intro cap3 hcap3;refine exI ?_)
     refine gXRn_5 ?_;refine zep ?_;intro cap5 hcap5;refine exI ?_;refine zrs ?_;refine zyl ?_;refine d_n K30 ?_;refine z05 ?_;apply K11;refine z01 (cB_ok e1 q1ok hne) fun _ K31=>?_
     iterate 2 refine z37 ?_
     refine s_n K31 ?_;refine dnS [] (fun i=>if i=2 then 4 else i) (g.1++ofW (digK r g.2.1 256),g.2.1+1,cap5) ⟨⟨by show g.2.1+1≤_;omega,gdN_next hgd,(by show g.2.1+1≤cap5;omega)⟩,(by show _ - (g.2.1+1)< _;omega)⟩ [0,1,4] ?_ ?_ ?_ ?_
     ·exact uRn_0
     ·exact uRn_0
     ·exact uRn_0
     ·exact uRn_0
  ·try simp only[dQ,reduceIte]at h_t16
   refine z0i ?_;refine z00 ?_;refine z00 ?_;refine z0f ?_;apply K5
   have hv9:g.2.1=nB r:=by omega
   rw[hv9];rw[hv9]at hgd hg3
   have hgl:=hgd.len
   refine srR (cB_ok e1 q1ok hne) fun _ K33=>?_;refine z37 ?_;refine s_n K33 ?_;refine seq_k fun _ K34=>?_;refine srR (cB_ok e1 q1ok hne) fun _ K36=>?_
   iterate 4 refine z37 ?_
   refine s_n K36 ?_;refine z03 ?_;refine z0m (α:=Nat) (fun i=>[(1,.c (.clo f1 c1)),(2,.c (.dp (rulC r) 0)),(4,.c (.ptr 0 0)),(6,.c (.ptr 1 0)),(10,.c (.ptr 3 0)),(43,.c (.slice 2 0 (nB r) g.2.2)),(44,.c (.int .i64 (nB r:Nat))),(45,.c (.int .i64 (i:Nat)))]) (fun i=>[(0,.own 30 (.cells [.nils,.nils,.nils]) 3),(1,.own 30 (.cells [.slice 2 0 (nB r) g.2.2,.nils,.nils]) 3),(2,.own 50 (.u64s g.1) (g.2.2*4)),(3,.own 50 (.u64s (seenL g.1 i)) 4)]) 4 (fun i=>i≤nB r) (fun i=>nB r - i) ?_ ?_
   ·refine dnS [] id 0 (Nat.zero_le _) [0,1,2,3] uRn_0 uRn_0 uRn_0 uRn_0
   ·intro i hi
    refine srR (cB_ok e1 q1ok hne) fun _ K38=>?_;refine z37 ?_;refine s_n K38 ?_;refine seq_k fun _ K39=>?_;refine z04 (b:=_) rfl (fun h_t46=>?_) (fun h_t46=>?_)
    ·try simp only[dQ,reduceIte]at h_t46
     refine z09 ?_;apply K39;refine seq_k fun _ K40=>?_;refine z03 ?_
     have hil:i< nB r:=by omega
     have hca:(clsAt g.1 i).length=4:=z2s hgl hil
     refine srR (cB_ok e1 q1ok hne) fun _ K42=>?_;refine z37 ?_;refine zat ?_;refine exA (.agg (.u64s (clsAt g.1 i))) (as_eq (congrArg (fun j=>SV.agg ((Cont.u64s g.1).sub j 4)) (by omega))) ?_;refine z37 ?_;refine zpg ?_;refine s_n K42 ?_;refine z01 (cB_ok e1 q1ok hne) fun _ K43=>?_;refine z37 ?_;refine zat ?_;refine exA (.agg (.u64s (clsAt g.1 i))) (SV.as_refl _) ?_;refine zat ?_;refine⟨seenL g.1 i,clsAt g.1 i,rfl,⟨by simp,hca⟩,?_⟩;refine DRn_0 ?_
     first|refine exI ?_|(intro cap2 hcap2;refine exI ?_)
     refine zpg ?_;refine s_n K43 ?_;refine z05 ?_;apply K40;refine z01 (cB_ok e1 q1ok hne) fun _ K44=>?_
     iterate 2 refine z37 ?_
     refine s_n K44 ?_;refine dnS [] id (i+1) ⟨by omega,by omega⟩ [0,1,2,3] uRn_0 uRn_0 uRn_0 uRn_0
    ·try simp only[dQ,reduceIte]at h_t46
     refine z0i ?_;refine z00 ?_;refine z00 ?_;refine z0f ?_;apply K34
     obtain hi9:i=nB r:=by omega
     rw[hi9];refine srD (cB_ok e1 q1ok hne) [(0,true),(1,true),(2,true),(3,false),(4,false),(5,false),(6,true),(7,false)] rfl kR kR fun _ K46=>?_
     iterate 3 refine zrs ?_
     refine zep ?_;refine⟨seenL g.1 (nB r),rfl,by simp,?_⟩;refine DRn_0 ?_
     first|refine exI ?_|(intro cap3 hcap3;refine exI ?_)
     refine gXRn_5 ?_;refine zep ?_;intro cap5 hcap5;refine exI ?_;refine zrs ?_;refine zyl ?_;refine d_n K46 ?_
     revert cap5 hcap5
     intro capA hcapA
     have hge:=gdN_end hr hgd
     have hnl:(notK (seenL g.1 (nB r))).length=4:=z33 ..
     refine leW [5] id [(1,.c (.clo f1 c1)),(2,.c (.dp (rulC r) 0)),(4,.c (.ptr 0 0)),(6,.c (.ptr 1 0))] [(0,.own 30 (.cells [.nils,.nils,.nils]) 3),(1,.own 30 (.cells [.ds (nB r+1) (.u64s (g.1++notK (seenL g.1 (nB r)))),.nils,.nils]) 3)] 2 [0,1] uRn_0 uRn_0 uRn_0 uRn_0 ?_;refine srR (cB_ok e1 q1ok hne) fun _ K48=>?_
     iterate 3 refine z37 ?_
     refine zat ?_;refine aI (fun x hx=>(hin.d2 x hx).2) ?_;refine z9v (fun x hx=>(hin.d2 x hx).1) ?_;refine⟨r,P,(g.1++notK (seenL g.1 (nB r))),c1,rfl,⟨hr,hge.1,hge.2,hin.p0,hin.d1,hin.h1⟩,?_⟩;rw[zyo rfl rfl fun x hx=>(hin.d2 x hx).1];refine DRn_0 ?_
     first|refine exI ?_|(intro cap3 hcap3;refine exI ?_)
     iterate 2 refine z37 ?_
     refine zpg ?_;refine z37 ?_;refine s_n K48 ?_;refine z0e (z0g (cB_ok e1 q1ok hne) (fun _ _ h=>h) (z1h _) [] [.cell 4 30,.tmp 5] rfl ?_)
     all_goals exact uRn_0

end Go.Proofs.YtppmnaoollkboaaDoor

namespace Go.Proofs.YtppmnaoollkboaaDoor
set_option linter.all false
open Go.Ab Go.RowKit

open Go.Aut
theorem zrv:∀ (n:Nat) (d:Dfa),d.next.length≤n→d.ok→d.next.length≤65536→∃ e g,Hom d e g∧Slim e∧e.next.length≤d.next.length
  |0,d,h,ok,_=>absurd ok.npos (by omega)
  | n +1,d,h,ok,h6=>by
    by_cases he:(keysO (kR d) (allS d)).length=d.next.length
    · exact⟨d,id,zqu ok,zvv ok h6 he,Nat.le_refl _⟩
    · have hlt:=rdc_lt he
      have hh:=zvu ok h6
      obtain⟨e,g,h1,h2,h3⟩:=zrv n (rdc d) (by omega) hh.ok (by omega);exact⟨e,_,zlz hh h1 ok,h2,by omega⟩
def CanOK(L:List Nat→Bool):Prop:=(canD L).good∧∀ w,Bytes w→langD (canD L) w=L w
theorem red_good{d:Dfa}(h:RedIn d):CanOK (langD d):=by
  obtain⟨e,g,h1,h2,_⟩:=zrv d.next.length d (Nat.le_refl _) h.ok h.len
  have h64:=h.few e g h1 h2
  obtain⟨c1,c2,c3⟩:=canD_dfa h1.ok
  have e1:canD (langD e)=canD (langD d):=z55 fun w hw=>zj7 h1 h.ok hw
  unfold CanOK;rw[←e1];exact⟨⟨c1,by omega⟩,fun w hw=>by rw[zvh c2 hw,zj7 h1 h.ok hw]⟩
theorem zph{L M:List Nat→Bool}(e:∀ w,Bytes w→L w=M w)(h:CanOK L):CanOK M:=by
  have e1:=z55 e
  exact⟨by rw[←e1];exact h.1,fun w hw=>by rw[←e1,h.2 w hw,e w hw]⟩
def decK(i:Nat):Ky:=if i=0 then .st else if i=1 then .dd else if i=2 then .sa else if i< 54 then .wr ((i - 3:Nat):Int)else .nm (((i - 54) / 51:Nat):Int) (((i - 54)%51:Nat):Int)
theorem dec_num{r:Rul}(hr:r.ok){k:Ky}(h:KOK r k):decK (numKy k)=k:=by
  have h1:=hr.t2
  cases k with
  |st=>rfl
  |dd=>rfl
  |sa=>rfl
  | wr m=>
    obtain⟨a,b,c⟩:=h;rw[decK,numKy,if_neg (by omega),if_neg (by omega),if_neg (by omega),if_pos (by omega)]
    congr 1;omega
  | nm d n=>
    obtain⟨a,b,c,e,_⟩:=h;rw[decK,numKy,if_neg (by omega),if_neg (by omega),if_neg (by omega),if_neg (by omega)]
    congr 1<;>omega
open Classical in
noncomputable def keyA(r:Rul)(i:Nat):Ky:=if KOK r (decK i)then decK i else .dd
noncomputable def allK(r:Rul):List Ky:=keysO (keyA r) (List.range 411)
theorem keyA_ok(r:Rul)(i:Nat):KOK r (keyA r i):=by
  unfold keyA
  split
  · assumption
  · trivial
theorem zrw{r:Rul}(hr:r.ok){k:Ky}(h:KOK r k):k∈allK r:=by
  refine(z1z _ _).2 ⟨numKy k,List.mem_range.2 (zrm hr h),?_⟩;rw[keyA,dec_num hr h,if_pos h]
theorem ztr(r:Rul):Grown r (allK r):=by
  have e:List.range 411=[0,1]++(List.range 409).map (· +2):=by
    rw[show(411:Nat)=409+1+1 from rfl,List.range_succ_eq_map,List.range_succ_eq_map]
    simp
  obtain⟨x,hx⟩:=z8t (key:=keyA r) [0,1] ((List.range 409).map (· +2))
  have h0:keyA r 0= .st:=by rw[keyA,if_pos (by trivial)];rfl
  have h1:keyA r 1= .dd:=by rw[keyA,if_pos (by trivial)];rfl
  have h2:keysO (keyA r) [0,1]=[.st,.dd]:=by
    show addK (addK [] (keyA r 0)) (keyA r 1)=_
    rw[h0,h1];rfl
  rw[←e,h2]at hx;refine⟨z31 _,fun k hk=>?_,?_,?_⟩
  · obtain⟨i,_,rfl⟩:=(z1z _ _).1 hk
    exact keyA_ok r i
  · rw[allK,hx];rfl
  · rw[allK,hx];rfl
attribute [local irreducible] allK
noncomputable def rowA(r:Rul)(k:Ky):List Int:=(List.range (nB r+1)).map fun c=>((idxK (allK r) (if c< nB r then stepK r k (c:Nat)else .dd):Nat):Int)
theorem rowA_ok{r:Rul}(hr:r.ok){k:Ky}(hk:KOK r k):RowOK r (allK r) k (nB r) (rowA r k):=by
  refine⟨by simp[rowA],fun c hc=>⟨_,z0j hc,zbh ?_⟩⟩
  split
  · exact zrw hr (zpb hr hk (by omega))
  · exact zrw hr trivial
theorem num_tab{r:Rul}(hr:r.ok)(P:Int×Bool→Bool):∃ d,TabOK r P d (allK r):=by
  obtain⟨cls,h1,h2⟩:=zqo (nB r+1) fun c b=>decide (digC r (UInt8.ofNat b)=c)
  have hg:=ztr r
  refine⟨⟨cls,nB r+1,(allK r).map (rowA r),(allK r).map fun k=>P (valK r k)⟩,hg,rfl,h1,fun c b hc hb=>by rw[h2 c b hc hb,decide_eq_true_eq],List.length_map _,fun i k hi=>?_,List.length_map _,fun i k hi=>?_⟩
  · have:((allK r).map (rowA r)).getD i []=rowA r k:=z78 (by rw[List.getElem?_map,hi];rfl)
    rw[this];exact rowA_ok hr (hg.ok k (List.mem_of_getElem? hi))
  · exact z78 (by rw[List.getElem?_map,hi];rfl)
theorem tab_red{r:Rul}(hr:r.ok){P:Int×Bool→Bool}{d:Dfa}{ks:List Ky}(h:TabOK r P d ks):RedIn d:=by
  have h1:=zmq hr h.gr
  have h2:=h.nlen
  have h3:=h.ncE
  have h4:=z4r hr
  exact⟨zjz hr h,by omega,by omega,zmt hr h⟩
theorem zc9{r:Rul}(hr:r.ok)(P:Int×Bool→Bool):CanOK (langN r P):=by
  obtain⟨d,hd⟩:=num_tab hr P;exact zph (fun w hw=>zi5 hr hd hw) (red_good (tab_red hr hd))
def okT(r:Rul)(n:Int):Bool:=r.okB&&decide (0≤n)&&decide (n≤r.top)
theorem zau{r:Rul}{n:Int}:okT r n=true↔r.ok∧0≤n∧n≤r.top:=by
  rw[okT,Bool.and_eq_true,Bool.and_eq_true,z57,decide_eq_true_eq,decide_eq_true_eq,and_assoc]
def Pn(n:Int)(v:Int×Bool):Bool:=v.2&&decide (v.1=n)
def Pa(v:Int×Bool):Bool:=v.2
noncomputable def z97(r:Rul)(n:Int):Dfa×Nat:=if okT r n=true then(canD (langN r (Pn n)),0) else(noD,1)
noncomputable def allR(r:Rul):Dfa×Nat:=if r.okB=true then(canD (langN r Pa),0) else(noD,1)
noncomputable def z5n(r:Rul)(n:Int):Option (List Nat):=if okT r n=true then z42 (langN r (Pn n))else none
theorem lst_num{r:Rul}(hr:r.ok)(P:Int×Bool→Bool):lstR (canD (langN r P))=z42 (langN r P):=by
  have h:=zc9 hr P
  rw[lstR,if_pos (zda h.1)];exact z8v h.2
theorem z59{r:Rul}:z6h r=0↔r.okB=true:=by
  rw[z6h]
  split<;>simp_all
theorem okT_a{r:Rul}{n:Int}(h:¬ z6h r=0):okT r n=false:=by
  rw[Bool.eq_false_iff];exact fun hh=>h (z59.2 (z57.2 (zau.1 hh).1))
theorem okT_b{r:Rul}{n:Int}(h:n< 0):okT r n=false:=by
  rw[Bool.eq_false_iff];intro hh
  have:=(zau.1 hh).2.1
  omega
theorem okT_c{r:Rul}{n:Int}(h:z6h r=0)(h0:¬ n< 0):decide (r.top< n)= !okT r n:=by
  rw[okT,z59.1 h,decide_eq_true (by omega:0≤n),Bool.true_and,Bool.true_and]
  by_cases e:n≤r.top
  · rw[decide_eq_true e,decide_eq_false (by omega)];rfl
  · rw[decide_eq_false e,decide_eq_true (by omega)];rfl

end Go.Proofs.YtppmnaoollkboaaDoor

namespace Go.Proofs.YtppmnaoollkboaaDoor
set_option linter.all false
open Go.Ab Go.RowKit

theorem uRp_0{a:Prop}(h:a:=by
    repeat' (first|exact pT|exact trivial|refine aI ?_ ?_|exact cC0|refine low_cons' ?_ ?_|exact cC1|fail)
    all_goals first|omega|exact z2w _|exact z1h _|exact z6g _|(show(_:Bool)= !okT r n;first|(rw[okT_a (r:=r) (n:=n) hb3];rfl)|(rw[okT_b (r:=r) (n:=n) hb7];rfl)|exact okT_c (r:=r) (n:=n) hb3 hb7|exact okT_c (r:=r) (n:=n) hb3 (Int.not_lt.2 hb7))|(simp;done)|(show(0:Nat)< (z08 _ _ _ _).length;rw[z06 hcl];decide)|(simp[-List.reduceReplicate];done)|(simp[-List.reduceReplicate]<;>omega)|skip):a:=h
open Go.Aut
attribute [local irreducible] z0o z0y zl z08 z0v putB canD
def alB(r:Rul)(s:Sta):Bool:=(z24 r s).2
def la1S:QSpec:=fun vs K=>∃ (r:Rul) (s:Sta),vs=[staV s,.c (dpR r)]∧K (.c (.bool (alB r s)))
theorem la1_ok:z1s Tryd.prog gl 119 la1S:=by
 refine z1r (Γ:=gh8) (N:=13) Tryd.func119 rfl rfl fun vs K h=>?_;obtain⟨r,s,rfl,h⟩:=h;refine⟨_,h,rfl,by simp,fun w I=>?_⟩;refine srR z6y fun _ K2=>?_
 iterate 2 refine zby ?_
 refine s_n K2 ?_;refine srR z6y fun _ K4=>?_
 iterate 2 refine zby ?_
 refine sXEUf_12 ?_;refine⟨r,s,rfl,?_⟩;refine DUf_0 ?_
 first|refine exI ?_|(intro cap2 hcap2;refine exI ?_)
 iterate 5 refine zby ?_
 refine s_n K4 ?_;refine srR z6y fun _ K6=>?_
 iterate 2 refine zby ?_
 refine s_n K6 ?_;refine z0e (z0d z6y (fun _ _ h=>h) (by first|rfl|assumption) [.tmp 3] rfl ?_);refine rtD ?_
 show SV.c (.bool _)=_
 rfl

theorem zgx{c:Cont}{o:Nat}:(Cell.dp c o).pureB=true∧∀ g l,Cell.dp c o≠Cell.clo g l:=⟨rfl,fun g l e=>by cases e⟩
theorem bd_all{r:Rul}(h:r.ok):BdIn r Pa la1S [dpR r]:=⟨h,rfl,z52 zbe z7h,fun x hx=>by rw[List.mem_singleton.1 hx];exact zgx,fun s _=>⟨r,s,rfl,rfl⟩⟩
theorem bd_tx{r:Rul}{n:Int}(h:r.ok):BdIn r (Pn n) tx1S [dpR r,dpI n]:=⟨h,rfl,z52 zbe (z52 zbe z7h),fun x hx=>by
  rcases List.mem_cons.1 hx with rfl|hx
  · exact zgx
  · rw[List.mem_singleton.1 hx];exact zgx,fun s _=>⟨r,n,s,rfl,rfl⟩⟩
theorem bd_wr{r:Rul}{n:Int}(h:r.ok):BdIn r (Pn n) wr1S [dpR r,dpI n]:=⟨h,rfl,z52 zbe (z52 zbe z7h),fun x hx=>by
  rcases List.mem_cons.1 hx with rfl|hx
  · exact zgx
  · rw[List.mem_singleton.1 hx];exact zgx,fun s _=>⟨r,n,s,rfl,rfl⟩⟩
theorem can_wf{r:Rul}(h:r.ok)(P:Int×Bool→Bool):(canD (langN r P)).wf:=zjd (zc9 h P).1
noncomputable def gnq1:Ctx:={ P:=Tryd.prog,ty:=ty,glob:=gl,fs:=[(64,.flat zar),(114,.data (bldS 119 la1S))] }
theorem zdl:gnq1.OK:=⟨tyOK,⟨⟨z0b Tryd.func64 kR rfl,z7v⟩,⟨z0b Tryd.func114 kR rfl,(zyp (z0b Tryd.func119 kR rfl) la1_ok (by decide))⟩,trivial⟩,mixed⟩
@[simp] theorem gnq1_ty:gnq1.ty=ty:=rfl

noncomputable def gnq2:Ctx:={ P:=Tryd.prog,ty:=ty,glob:=gl,fs:=[(64,.flat zar),(114,.data (bldS 121 tx1S))] }
theorem zdm:gnq2.OK:=⟨tyOK,⟨⟨z0b Tryd.func64 kR rfl,z7v⟩,⟨z0b Tryd.func114 kR rfl,(zyp (z0b Tryd.func121 kR rfl) tx1_ok (by decide))⟩,trivial⟩,mixed⟩
@[simp] theorem gnq2_ty:gnq2.ty=ty:=rfl

noncomputable def gnq3:Ctx:={ P:=Tryd.prog,ty:=ty,glob:=gl,fs:=[(64,.flat zar),(114,.data (bldS 115 wr1S)),(29,.data zxl)] }
theorem z98:gnq3.OK:=⟨tyOK,⟨⟨z0b Tryd.func64 kR rfl,z7v⟩,⟨z0b Tryd.func114 kR rfl,(zyp (z0b Tryd.func115 kR rfl) wr1_ok (by decide))⟩,⟨z0b Tryd.func29 kR rfl,zxm⟩,trivial⟩,mixed⟩
@[simp] theorem gnq3_ty:gnq3.ty=ty:=rfl

def zi7:QSpec:=fun vs K=>∃ r:Rul,vs=[rulV r]∧K (resV (allR r))
theorem zn1:z1x Tryd.prog gl 60 zi7:=by
 refine z1c (Γ:=gnq1) (N:=13) Tryd.func60 rfl rfl fun vs K h=>?_;obtain⟨r,rfl,h⟩:=h;refine⟨_,h,z1h _,by simp,fun w I=>?_⟩;refine srR zdl fun _ K2=>?_
 iterate 3 refine zby ?_
 refine s_n K2 ?_;refine seq_k fun _ K3=>?_;refine leW [0] (fun _=>1) [(1,.c (.dp (rulC r) 0)),(2,.c (.ptr 0 0))] [(0,.own 30 (.cells [.nils,.nils,.nils]) 3)] 1 [1] uRp_0 uRp_0 uRp_0 uRp_0 ?_;refine srR zdl fun _ K5=>?_;refine zby ?_;refine sXEUf_12 ?_;refine⟨r,rfl,?_⟩;refine DUf_0 ?_
 first|refine exI ?_|(intro cap1 hcap1;refine exI ?_)
 refine zby ?_;refine s_n K5 ?_;refine z04 (b:=_) rfl (fun h_t6=>?_) (fun h_t6=>?_)
 ·try simp only[dQ,reduceIte]at h_t6
  refine srR zdl fun _ K7=>?_;refine zby ?_;refine z95 ?_;refine zby ?_;refine s_n K7 ?_;rw[allR,if_neg (fun e=>absurd (z59.2 e) (by first|assumption|omega))];refine z0e (z0g zdl (fun _ _ h=>h) (z1h _) [] [.cell 2 30,.tmp 3] rfl ?_)
  all_goals exact uRp_0
 ·try simp only[dQ,reduceIte]at h_t6
  refine z09 ?_;apply K3
  have hok:r.okB=true:=z59.1 (by first|assumption|omega)
  have hr:=z57.1 hok
  refine srR zdl fun _ K9=>?_
  iterate 2 refine zby ?_
  refine sXEUf_12 ?_;refine⟨r,Pa,[dpR r],rfl,bd_all hr,?_⟩;refine DUf_0 ?_
  first|refine exI ?_|(intro cap2 hcap2;refine exI ?_)
  iterate 2 refine zby ?_
  refine z95 ?_;refine zby ?_;refine s_n K9 ?_;rw[allR,if_pos hok];refine z0e (z0g zdl (fun _ _ h=>h) (z1h _) [] [.cell 2 30,.tmp 3] rfl ?_)
  all_goals exact uRp_0

def zpi:QSpec:=fun vs K=>∃ (r:Rul) (n:Int),vs=[rulV r,.c (.int .i64 n)]∧K (resV (z97 r n))
theorem zn2:z1x Tryd.prog gl 62 zpi:=by
 refine z1c (Γ:=gnq2) (N:=25) Tryd.func62 rfl rfl fun vs K h=>?_;obtain⟨r,n,rfl,h⟩:=h;refine⟨_,h,z1h _,by simp,fun w I=>?_⟩;refine srR zdm fun _ K2=>?_
 iterate 4 refine zby ?_
 refine s_n K2 ?_;refine seq_k fun _ K3=>?_;refine z27 (α:=Unit) (fun _=>[(2,.c (.dp (rulC r) 0)),(3,.c (.dp (.ints .i64 [n]) 0)),(4,.c (.ptr 0 0)),(18,.c (.bool (!okT r n)))]) (fun _=>[(0,.own 30 (.cells [.nils,.nils,.nils]) 3)]) 1 (fun _=>True) ?_ ?_
 ·refine leW [0,1] (fun _=>2) [(2,.c (.dp (rulC r) 0)),(3,.c (.dp (.ints .i64 [n]) 0)),(4,.c (.ptr 0 0))] [(0,.own 30 (.cells [.nils,.nils,.nils]) 3)] 1 [2] uRp_0 uRp_0 uRp_0 uRp_0 ?_
  refine z01 zdm fun _ K4=>?_;refine zby ?_;refine sXEUf_12 ?_;refine⟨r,rfl,?_⟩;refine DUf_0 ?_
  first|refine exI ?_|(intro cap1 hcap1;refine exI ?_)
  refine zby ?_;refine sXEUf_12 ?_;refine exB (fun hb3=>?_) (fun hb3=>?_)
  ·try simp only[dQ,reduceIte]at hb3
   iterate 2 refine sN ?_
   refine zby ?_;refine sXEUf_12 ?_;refine exB (fun hb7=>?_) (fun hb7=>?_)
   rotate_left 1
   ·exfalso;simp at hb7
   iterate 4 refine sN ?_
   refine zby ?_;refine s_n K4 ?_;refine dnS [] id () trivial [0] uRp_0 uRp_0 uRp_0 uRp_0
  ·try simp only[dQ,reduceIte]at hb3
   iterate 2 refine sXTVa_17 ?_
   refine zby ?_;refine sXEUf_12 ?_;refine exB (fun hb7=>?_) (fun hb7=>?_)
   ·try simp only[dQ,reduceIte]at hb7
    iterate 4 refine sN ?_
    refine zby ?_;refine s_n K4 ?_;refine dnS [] id () trivial [0] uRp_0 uRp_0 uRp_0 uRp_0
   ·try simp only[dQ,reduceIte]at hb7
    iterate 4 refine sXTVa_17 ?_
    refine zby ?_;refine s_n K4 ?_;refine dnS [] id () trivial [0] uRp_0 uRp_0 uRp_0 uRp_0
 ·intro u hu
  clear hu;refine z04 (b:=_) rfl (fun h_t18=>?_) (fun h_t18=>?_)
  ·refine srR zdm fun _ K6=>?_
   refine zby ?_;refine z95 ?_;refine zby ?_;refine s_n K6 ?_
   have hok:okT r n=false:=by first|assumption|(simpa using h_t18)
   rw[z97,if_neg (by rw[hok];decide)];refine z0e (z0g zdm (fun _ _ h=>h) (z1h _) [] [.cell 4 30,.tmp 5] rfl ?_)
   all_goals exact uRp_0
  ·refine z09 ?_;apply K3
   have hok:okT r n=true:=by first|assumption|(simpa using h_t18)
   obtain⟨hr,hn0,hnt⟩:=zau.1 hok;refine srR zdm fun _ K8=>?_
   iterate 2 refine zby ?_
   refine sXEUf_12 ?_
   try refine aI (fun x hx=>(bd_tx (n:=n) hr).d2 x hx |>.2) ?_
   refine⟨r,Pn n,[dpR r,dpI n],rfl,bd_tx hr,?_⟩;refine DUf_0 ?_
   first|refine exI ?_|(intro cap2 hcap2;refine exI ?_)
   iterate 2 refine zby ?_
   refine z95 ?_;refine zby ?_;refine s_n K8 ?_;rw[z97,if_pos hok];refine z0e (z0g zdm (fun _ _ h=>h) (z1h _) [] [.cell 4 30,.tmp 5] rfl ?_)
   all_goals exact uRp_0

def zpj:QSpec:=fun vs K=>∃ (r:Rul) (n:Int),vs=[rulV r,.c (.int .i64 n)]∧K (lsV (z5n r n))
theorem zn3:z1x Tryd.prog gl 57 zpj:=by
 refine z1c (Γ:=gnq3) (N:=33) Tryd.func57 rfl rfl fun vs K h=>?_;obtain⟨r,n,rfl,h⟩:=h;refine⟨_,h,z6g _,by simp,fun w I=>?_⟩;refine srR z98 fun _ K2=>?_
 iterate 4 refine zby ?_
 refine s_n K2 ?_;refine seq_k fun _ K3=>?_;refine z27 (α:=Unit) (fun _=>[(2,.c (.dp (rulC r) 0)),(3,.c (.dp (.ints .i64 [n]) 0)),(20,.c (.bool (!okT r n)))]) (fun _=>[]) 0 (fun _=>True) ?_ ?_
 ·refine leW [0,1] id [(2,.c (.dp (rulC r) 0)),(3,.c (.dp (.ints .i64 [n]) 0))] [] 0 [] uRp_0 uRp_0 uRp_0 uRp_0 ?_
  refine z01 z98 fun _ K4=>?_;refine zby ?_;refine sXEUf_12 ?_;refine⟨r,rfl,?_⟩;refine DUf_0 ?_
  first|refine exI ?_|(intro cap1 hcap1;refine exI ?_)
  refine zby ?_;refine sXEUf_12 ?_;refine exB (fun hb3=>?_) (fun hb3=>?_)
  ·try simp only[dQ,reduceIte]at hb3
   iterate 2 refine sN ?_
   refine zby ?_;refine sXEUf_12 ?_;refine exB (fun hb7=>?_) (fun hb7=>?_)
   rotate_left 1
   ·exfalso;simp at hb7
   iterate 4 refine sN ?_
   refine zby ?_;refine s_n K4 ?_;refine dnS [] id () trivial [] uRp_0 uRp_0 uRp_0 uRp_0
  ·try simp only[dQ,reduceIte]at hb3
   iterate 2 refine sXTVa_17 ?_
   refine zby ?_;refine sXEUf_12 ?_;refine exB (fun hb7=>?_) (fun hb7=>?_)
   ·try simp only[dQ,reduceIte]at hb7
    iterate 4 refine sN ?_
    refine zby ?_;refine s_n K4 ?_;refine dnS [] id () trivial [] uRp_0 uRp_0 uRp_0 uRp_0
   ·try simp only[dQ,reduceIte]at hb7
    iterate 4 refine sXTVa_17 ?_
    refine zby ?_;refine s_n K4 ?_;refine dnS [] id () trivial [] uRp_0 uRp_0 uRp_0 uRp_0
 ·intro u hu
  clear hu;refine z04 (b:=_) rfl (fun h_t20=>?_) (fun h_t20=>?_)
  ·refine srR z98 fun _ K6=>?_
   iterate 2 refine zby ?_
   refine s_n K6 ?_
   have hok:okT r n=false:=by first|assumption|(simpa using h_t20)
   rw[z5n,if_neg (by rw[hok];decide)];refine z0e (z0g z98 (fun _ _ h=>h) (z6g _) [] [.tmp 4,.tmp 5] rfl ?_)
   all_goals exact uRp_0
  ·refine z09 ?_;apply K3
   have hok:okT r n=true:=by first|assumption|(simpa using h_t20)
   obtain⟨hr,hn0,hnt⟩:=zau.1 hok;refine srR z98 fun _ K8=>?_
   iterate 2 refine zby ?_
   refine sXEUf_12 ?_
   try refine aI (fun x hx=>(bd_wr (n:=n) hr).d2 x hx |>.2) ?_
   refine⟨r,Pn n,[dpR r,dpI n],rfl,bd_wr hr,?_⟩;refine DUf_0 ?_
   first|refine exI ?_|(intro cap2 hcap2;refine exI ?_)
   iterate 4 refine zby ?_
   refine z95 ?_;refine zby ?_;refine s_n K8 ?_;refine seq_k fun _ K9=>?_;refine srR z98 fun _ K11=>?_
   iterate 2 refine zby ?_
   refine s_n K11 ?_;refine z04 (b:=_) rfl (fun h_t28=>?_) (fun _=>?_)
   ·exfalso;first|(simp at h_t28;done)|exact absurd h_t28 (by decide)
   refine z09 ?_;apply K9;refine srR z98 fun _ K13=>?_;refine zby ?_;refine sXEUf_12 ?_;refine⟨canD (langN r (Pn n)),rfl,can_wf hr _,?_⟩;rw[lst_num hr];refine DUf_0 ?_
   first|refine exI ?_|(intro cap1 hcap1;refine exI ?_)
   iterate 4 refine zby ?_
   refine s_n K13 ?_;rw[z5n,if_pos hok];refine z0e (z0g z98 (fun _ _ h=>h) (z6g _) [] [.tmp 4,.tmp 5] rfl ?_)
   all_goals exact uRp_0


end Go.Proofs.YtppmnaoollkboaaDoor

namespace Go.Proofs.YtppmnaoollkboaaDoor
set_option linter.all false
open Go.Ab Go.RowKit

section
variable {a b:Prop}
theorem qRq0(h:a:=by first|exact vcA|(simp<;>omega)|decide|(show _< _;decide)|exact vcB):a:=h
theorem DRq_0(kZ:b)(h:HidB b→a:=by intro kZ;(repeat first|refine aI qRq0 ?_|refine z0a qRq0 ?_|refine z07 qRq0 ?_|refine z0l qRq0 ?_|refine z0c ?_);exact kZ.out):a:=h ⟨kZ⟩
theorem z1v(kZ:b)(h:HidB b→a:=by intro kZ;refine sX ?_;refine DRq_0 ?_;refine exI ?_;exact kZ.out):a:=h ⟨kZ⟩
theorem z6j(kZ:b)(h:HidB b→a:=by intro kZ;refine sX0 ?_;refine DRq_0 ?_;refine exI ?_;exact kZ.out):a:=h ⟨kZ⟩
theorem z99(kZ:b)(h:HidB b→a:=by intro kZ;refine sXT ?_;refine DRq_0 ?_;refine exI ?_;exact kZ.out):a:=h ⟨kZ⟩
theorem z1e(kZ:b)(h:HidB b→a:=by intro kZ;refine sX ?_;refine DRq_0 ?_;exact kZ.out):a:=h ⟨kZ⟩
theorem z16(kZ:b)(h:HidB b→a:=by intro kZ;refine sXT ?_;refine DRq_0 ?_;exact kZ.out):a:=h ⟨kZ⟩
end
open Go.Aut
def rA:Rul:=⟨10,2,20,0,false⟩
def rS:Rul:=⟨10,2,20,1,false⟩
def rW:Rul:=⟨10,2,20,2,false⟩
def rZ:Rul:=⟨10,2,20,2,true⟩
def rX:Rul:=⟨16,2,20,2,true⟩
def r1:Rul:=⟨10,1,20,0,false⟩
def r1s:Rul:=⟨10,1,20,1,false⟩
theorem rX_ok:rX.ok:=z57.1 (by decide)
theorem r1_ok:r1.ok:=z57.1 (by decide)
theorem r1s_ok:r1s.ok:=z57.1 (by decide)
theorem zca{r:Rul}(hr:r.ok){n:Int}{w:List Nat}:langN r (Pn n) w=true↔valK r (wordK r (w.map UInt8.ofNat))=(n,true):=by
  rw[langN,z6z hr,Pn,Bool.and_eq_true,decide_eq_true_eq]
  constructor
  · rintro ⟨h1,h2⟩;exact Prod.ext h2 h1
  · intro h;rw[h];exact⟨rfl,rfl⟩
theorem one_X:∀ b,b< 256→valK rX (wordK rX [UInt8.ofNat b])=(10,true)→65≤b:=by decide+kernel
theorem write_X:z5n rX 10=some [65]:=by
  rw[z5n,if_pos (by decide)];refine z4a ⟨by unfold Bytes;decide,(zca rX_ok).2 (by decide+kernel),fun v hv h=>?_⟩
  have h:=(zca rX_ok).1 h
  match v,hv,h with
  |[],_,h=>exact absurd h (by decide+kernel)
  | [b],hv,h=>
    have h1:=one_X b (hv b List.mem_cons_self) h
    rcases Nat.lt_or_ge 65 b with h2|h2
    · exact .inr (.inr ⟨rfl,.inl h2⟩)
    · obtain rfl:b=65:=by omega
      exact .inl rfl
  |_::_::_,_,_=>exact .inr (.inl (by simp))
theorem one_1:∀ b,b< 256→byteK r1 .st (UInt8.ofNat b)= .dd∨byteK r1 .st (UInt8.ofNat b)= .nm 1 ((b:Int) - 48)∧48≤b∧b≤57:=by decide+kernel
theorem one_1s:∀ b,b< 256→byteK r1s .st (UInt8.ofNat b)= .dd∨byteK r1s .st (UInt8.ofNat b)= .nm 1 ((b:Int) - 48)∧48≤b∧b≤57:=by decide+kernel
theorem digit_r{r:Rul}(h:r.base=10):∀ b,b< 256→0≤z0t r.base (UInt8.ofNat b)→48≤b:=by
  rw[h];exact(by decide+kernel:∀ b,b< 256→0≤z0t 10 (UInt8.ofNat b)→48≤b)
theorem write_1:z5n r1 10=none:=by
  rw[z5n,if_pos (by decide)];refine zam fun v hv=>?_;rw[Bool.eq_false_iff];intro h
  have h:=(zca r1_ok).1 h
  match v,hv,h with
  |[],_,h=>exact absurd h (by decide+kernel)
  | [b],hv,h=>
    have h1:=one_1 b (hv b List.mem_cons_self)
    have h:valK r1 (byteK r1 .st (UInt8.ofNat b))=(10,true):=h
    rcases h1 with e|⟨e,h2,h3⟩
    · rw[e]at h;cases h
    · rw[e]at h
      have:=congrArg Prod.fst h
      have:(b:Int) - 48=10:=this
      omega
  | a ::b::l,hv,h=>
    have h1:=one_1 a (hv a List.mem_cons_self)
    have e2:byteK r1 (byteK r1 .st (UInt8.ofNat a)) (UInt8.ofNat b)= .dd:=by
      rcases h1 with e|⟨e,h2,h3⟩
      · rw[e];exact z9z r1 [UInt8.ofNat b]
      · rw[e,byteK]
        split
        · rfl
        · show(if(a:Int) - 48=0∧r1.zeros=false then Ky.dd else numK r1 (1+1) _)=_
          split
          · rfl
          · rw[numK,if_pos (.inl (by decide))];exact if_pos rfl
    have h:valK r1 ((l.map UInt8.ofNat).foldl (byteK r1) (byteK r1 (byteK r1 .st (UInt8.ofNat a)) (UInt8.ofNat b)))=(10,true):=h
    rw[e2,z9z]at h;cases h
theorem write_1s:z5n r1s 20=some [49,48]:=by
  rw[z5n,if_pos (by decide)];refine z4a ⟨by unfold Bytes;decide,(zca r1s_ok).2 (by decide+kernel),fun v hv h=>?_⟩
  have h:=(zca r1s_ok).1 h
  match v,hv,h with
  |[],_,h=>exact absurd h (by decide+kernel)
  | [b],hv,h=>
    have h1:=one_1s b (hv b List.mem_cons_self)
    have h:valK r1s (byteK r1s .st (UInt8.ofNat b))=(20,true):=h
    rcases h1 with e|⟨e,h2,h3⟩
    · rw[e]at h;cases h
    · rw[e]at h
      have:=congrArg Prod.fst h
      have:(b:Int) - 48=20:=this
      omega
  | [a, b],hv,h=>
    have h1:=one_1s a (hv a List.mem_cons_self)
    have hb:=hv b (List.mem_cons_of_mem _ List.mem_cons_self)
    have h:valK r1s (byteK r1s (byteK r1s .st (UInt8.ofNat a)) (UInt8.ofNat b))=(20,true):=h
    by_cases hd:z0t r1s.base (UInt8.ofNat b)< 0
    · rw[byteK,if_pos hd]at h;cases h
    have hb48:=digit_r (r:=r1s) rfl b hb (by omega)
    rcases h1 with e|⟨e,h2,h3⟩
    · rw[e,byteK,if_neg hd]at h;cases h
    · have h49:a≠48:=by
        rintro rfl
        rw[e,byteK,if_neg hd]at h;cases h
      rcases Nat.lt_or_ge 49 a with h4|h4
      · exact .inr (.inr ⟨rfl,.inl h4⟩)
      · obtain rfl:a=49:=by omega
        rcases Nat.lt_or_ge 48 b with h5|h5
        · exact .inr (.inr ⟨rfl,.inr ⟨rfl,.inl h5⟩⟩)
        · obtain rfl:b=48:=by omega
          exact .inl rfl
  |_::_::_::_,_,_=>exact .inr (.inl (by simp))
theorem texts_A:z97 rA 21=(noD,1):=by rw[z97,if_neg (by decide)]
noncomputable def gnq4:Ctx:={ P:=Tryd.prog,ty:=ty,glob:=gl,fs:=[(110,.flat zy2),(64,.flat zar),(57,.data zpj),(62,.data zpi)] }
theorem z34:gnq4.OK:=⟨tyOK,⟨⟨z0b Tryd.func110 kR rfl,zy3⟩,⟨z0b Tryd.func64 kR rfl,z7v⟩,⟨z0b Tryd.func57 kR rfl,zn3⟩,⟨z0b Tryd.func62 kR rfl,zn2⟩,trivial⟩,mixed⟩
@[simp] theorem gnq4_ty:gnq4.ty=ty:=rfl

def zrx:QSpec:=fun vs K=>vs=[]∧K (.c (.bool true))
theorem zts:z1s Tryd.prog gl 53 zrx:=by
 refine z1r (Γ:=gnq4) (N:=144) Tryd.func53 rfl rfl fun vs K h=>?_;obtain⟨rfl,h⟩:=h;refine⟨_,h,rfl,by simp,fun w I=>?_⟩;refine srR z34 fun _ K2=>?_;refine z1v ?_;refine s_n K2 ?_;refine srR z34 fun _ K4=>?_
 iterate 2 refine z1v ?_
 refine z6j ?_;refine s_n K4 ?_;refine srR z34 fun _ K6=>?_
 iterate 2 refine z1v ?_
 refine z6j ?_;refine s_n K6 ?_;refine srR z34 fun _ K8=>?_;refine z1v ?_;refine z6j ?_;refine s_n K8 ?_;refine srR z34 fun _ K10=>?_
 iterate 2 refine z1v ?_
 refine z6j ?_;refine s_n K10 ?_;refine srR z34 fun _ K12=>?_;refine z1v ?_;refine z6j ?_;refine s_n K12 ?_;refine srR z34 fun _ K14=>?_
 iterate 2 refine z1v ?_
 refine z6j ?_;refine s_n K14 ?_;refine srR z34 fun _ K16=>?_;refine z1v ?_;refine z6j ?_;refine s_n K16 ?_;refine srR z34 fun _ K18=>?_;refine z1e ?_;refine exA (rulV rA) (SV.as_refl _) ?_;refine z1e ?_;refine⟨rA,[55],7,rfl,by decide,?_⟩;rw[show z3x rA [55] (7)=true by decide+kernel];refine DRq_0 ?_
 first|refine exI ?_|(intro cap1 hcap1;refine exI ?_)
 refine z1e ?_;refine exB (fun hb2=>?_) (fun hb2=>?_)
 rotate_left 1
 ·exfalso;first|exact absurd hb2 (by decide)|exact hb2 rfl|(simp at hb2;done)|omega
 refine z16 ?_;refine exA (rulV rA) (SV.as_refl _) ?_;refine z16 ?_;refine⟨rA,[50,48],20,rfl,by decide,?_⟩;rw[show z3x rA [50,48] (20)=true by decide+kernel];refine DRq_0 ?_
 first|refine exI ?_|(intro cap4 hcap4;refine exI ?_)
 refine z1v ?_;refine z1e ?_;refine exB (fun hb6=>?_) (fun hb6=>?_)
 rotate_left 1
 ·exfalso;first|exact absurd hb6 (by decide)|exact hb6 rfl|(simp at hb6;done)|omega
 refine z16 ?_;refine exA (rulV rA) (SV.as_refl _) ?_;refine z16 ?_;refine⟨rA,[50,49],-1,rfl,by decide,?_⟩;rw[show z3x rA [50,49] (-1)=true by decide+kernel];refine DRq_0 ?_
 first|refine exI ?_|(intro cap8 hcap8;refine exI ?_)
 refine z1v ?_;refine z1e ?_;refine exB (fun hb10=>?_) (fun hb10=>?_)
 rotate_left 1
 ·exfalso;first|exact absurd hb10 (by decide)|exact hb10 rfl|(simp at hb10;done)|omega
 refine z16 ?_;refine exA (rulV rA) (SV.as_refl _) ?_;refine z16 ?_;refine⟨rA,[48,48,55],-1,rfl,by decide,?_⟩;rw[show z3x rA [48,48,55] (-1)=true by decide+kernel];refine DRq_0 ?_
 first|refine exI ?_|(intro cap12 hcap12;refine exI ?_)
 refine z1v ?_;refine z1e ?_;refine exB (fun hb14=>?_) (fun hb14=>?_)
 rotate_left 1
 ·exfalso;first|exact absurd hb14 (by decide)|exact hb14 rfl|(simp at hb14;done)|omega
 refine z16 ?_;refine exA (rulV rA) (SV.as_refl _) ?_;refine z16 ?_;refine⟨rA,[48,55],-1,rfl,by decide,?_⟩;rw[show z3x rA [48,55] (-1)=true by decide+kernel];refine DRq_0 ?_
 first|refine exI ?_|(intro cap16 hcap16;refine exI ?_)
 refine z1v ?_;refine z1e ?_;refine exB (fun hb18=>?_) (fun hb18=>?_)
 rotate_left 1
 ·exfalso;first|exact absurd hb18 (by decide)|exact hb18 rfl|(simp at hb18;done)|omega
 refine z16 ?_;refine exA (rulV rA) (SV.as_refl _) ?_;refine z16 ?_;refine⟨rA,[],-1,rfl,by decide,?_⟩;rw[show z3x rA [] (-1)=true by decide+kernel];refine DRq_0 ?_
 first|refine exI ?_|(intro cap20 hcap20;refine exI ?_)
 refine z1v ?_;refine z1e ?_;refine exB (fun hb22=>?_) (fun hb22=>?_)
 rotate_left 1
 ·exfalso;first|exact absurd hb22 (by decide)|exact hb22 rfl|(simp at hb22;done)|omega
 refine z16 ?_;refine exA (rulV rA) (SV.as_refl _) ?_;refine z16 ?_;refine⟨rA,[50,97],-1,rfl,by decide,?_⟩;rw[show z3x rA [50,97] (-1)=true by decide+kernel];refine DRq_0 ?_
 first|refine exI ?_|(intro cap24 hcap24;refine exI ?_)
 iterate 2 refine z1v ?_
 refine s_n K18 ?_;refine srR z34 fun _ K20=>?_;refine z1e ?_;refine exA (rulV rS) (SV.as_refl _) ?_;refine z1e ?_;refine⟨rS,[50,49],20,rfl,by decide,?_⟩;rw[show z3x rS [50,49] (20)=true by decide+kernel];refine DRq_0 ?_
 first|refine exI ?_|(intro cap1 hcap1;refine exI ?_)
 refine z1e ?_;refine exB (fun hb2=>?_) (fun hb2=>?_)
 rotate_left 1
 ·exfalso;first|exact absurd hb2 (by decide)|exact hb2 rfl|(simp at hb2;done)|omega
 refine z16 ?_;refine exA (rulV rS) (SV.as_refl _) ?_;refine z16 ?_;refine⟨rS,[49,48,48],20,rfl,by decide,?_⟩;rw[show z3x rS [49,48,48] (20)=true by decide+kernel];refine DRq_0 ?_
 first|refine exI ?_|(intro cap4 hcap4;refine exI ?_)
 refine z1v ?_;refine z1e ?_;refine exB (fun hb6=>?_) (fun hb6=>?_)
 rotate_left 1
 ·exfalso;first|exact absurd hb6 (by decide)|exact hb6 rfl|(simp at hb6;done)|omega
 refine z16 ?_;refine exA (rulV rW) (SV.as_refl _) ?_;refine z16 ?_;refine⟨rW,[50,49],0,rfl,by decide,?_⟩;rw[show z3x rW [50,49] (0)=true by decide+kernel];refine DRq_0 ?_
 first|refine exI ?_|(intro cap8 hcap8;refine exI ?_)
 refine z1v ?_;refine z1e ?_;refine exB (fun hb10=>?_) (fun hb10=>?_)
 rotate_left 1
 ·exfalso;first|exact absurd hb10 (by decide)|exact hb10 rfl|(simp at hb10;done)|omega
 refine z16 ?_;refine exA (rulV rW) (SV.as_refl _) ?_;refine z16 ?_;refine⟨rW,[50,53],4,rfl,by decide,?_⟩;rw[show z3x rW [50,53] (4)=true by decide+kernel];refine DRq_0 ?_
 first|refine exI ?_|(intro cap12 hcap12;refine exI ?_)
 refine z1v ?_;refine z1e ?_;refine exB (fun hb14=>?_) (fun hb14=>?_)
 rotate_left 1
 ·exfalso;first|exact absurd hb14 (by decide)|exact hb14 rfl|(simp at hb14;done)|omega
 refine z16 ?_;refine exA (rulV rW) (SV.as_refl _) ?_;refine z16 ?_;refine⟨rW,[49,48,48],16,rfl,by decide,?_⟩;rw[show z3x rW [49,48,48] (16)=true by decide+kernel];refine DRq_0 ?_
 first|refine exI ?_|(intro cap16 hcap16;refine exI ?_)
 refine z1v ?_;refine z1e ?_;refine exB (fun hb18=>?_) (fun hb18=>?_)
 rotate_left 1
 ·exfalso;first|exact absurd hb18 (by decide)|exact hb18 rfl|(simp at hb18;done)|omega
 refine z16 ?_;refine exA (rulV rZ) (SV.as_refl _) ?_;refine z16 ?_;refine⟨rZ,[48,55],7,rfl,by decide,?_⟩;rw[show z3x rZ [48,55] (7)=true by decide+kernel];refine DRq_0 ?_
 first|refine exI ?_|(intro cap20 hcap20;refine exI ?_)
 refine z1v ?_;refine z1e ?_;refine exB (fun hb22=>?_) (fun hb22=>?_)
 rotate_left 1
 ·exfalso;first|exact absurd hb22 (by decide)|exact hb22 rfl|(simp at hb22;done)|omega
 refine z16 ?_;refine exA (rulV rZ) (SV.as_refl _) ?_;refine z16 ?_;refine⟨rZ,[48,48,55],7,rfl,by decide,?_⟩;rw[show z3x rZ [48,48,55] (7)=true by decide+kernel];refine DRq_0 ?_
 first|refine exI ?_|(intro cap24 hcap24;refine exI ?_)
 iterate 2 refine z1v ?_
 refine s_n K20 ?_;refine srR z34 fun _ K22=>?_
 iterate 2 refine z1v ?_
 refine z6j ?_;refine s_n K22 ?_;refine srR z34 fun _ K24=>?_;refine z1e ?_;refine exA (rulV rX) (SV.as_refl _) ?_;refine z1e ?_;refine⟨rX,10,rfl,?_⟩;rw[write_X];refine DRq_0 ?_
 first|refine exI ?_|(intro cap1 hcap1;refine exI ?_)
 iterate 5 refine z1v ?_
 refine s_n K24 ?_;refine srR z34 fun _ K26=>?_
 iterate 2 refine z1v ?_
 refine z6j ?_;refine s_n K26 ?_;refine srR z34 fun _ K28=>?_;refine z1e ?_;refine exA (rulV r1) (SV.as_refl _) ?_;refine z1e ?_;refine⟨r1,10,rfl,?_⟩;rw[write_1];refine DRq_0 ?_
 first|refine exI ?_|(intro cap1 hcap1;refine exI ?_)
 iterate 5 refine z1v ?_
 refine s_n K28 ?_;refine srR z34 fun _ K30=>?_;refine z1v ?_;refine z6j ?_;refine s_n K30 ?_;refine srR z34 fun _ K32=>?_;refine z1e ?_;refine exA (rulV r1s) (SV.as_refl _) ?_;refine z1e ?_;refine⟨r1s,20,rfl,?_⟩;rw[write_1s];refine DRq_0 ?_
 first|refine exI ?_|(intro cap1 hcap1;refine exI ?_)
 iterate 5 refine z1v ?_
 refine s_n K32 ?_;refine srR z34 fun _ K34=>?_;refine z1e ?_;refine exA (rulV rA) (SV.as_refl _) ?_;refine z1e ?_;refine⟨rA,21,rfl,?_⟩;rw[texts_A];refine DRq_0 ?_
 first|refine exI ?_|(intro cap1 hcap1;refine exI ?_)
 iterate 4 refine z1v ?_
 refine z6j ?_;refine z1v ?_;refine s_n K34 ?_;refine srR z34 fun _ K36=>?_;refine z1v ?_;refine z1e ?_;refine exB (fun hb1=>?_) (fun hb1=>?_)
 rotate_left 1
 ·exfalso;first|exact absurd hb1 (by decide)|exact hb1 rfl|(simp at hb1;done)|omega
 refine z99 ?_;refine z1v ?_;refine z1e ?_;refine exB (fun hb4=>?_) (fun hb4=>?_)
 rotate_left 1
 ·exfalso;first|exact absurd hb4 (by decide)|exact hb4 rfl|(simp at hb4;done)|omega
 refine z16 ?_;refine exA (rulV rX) (SV.as_refl _) ?_;refine z16 ?_;refine⟨rX,[49,52],20,rfl,by decide,?_⟩;rw[show z3x rX [49,52] (20)=true by decide+kernel];refine DRq_0 ?_
 first|refine exI ?_|(intro cap6 hcap6;refine exI ?_)
 refine z1v ?_;refine z1e ?_;refine exB (fun hb8=>?_) (fun hb8=>?_)
 rotate_left 1
 ·exfalso;first|exact absurd hb8 (by decide)|exact hb8 rfl|(simp at hb8;done)|omega
 refine z16 ?_;refine exA (rulV rX) (SV.as_refl _) ?_;refine z16 ?_;refine⟨rX,[48,48,49,52],20,rfl,by decide,?_⟩;rw[show z3x rX [48,48,49,52] (20)=true by decide+kernel];refine DRq_0 ?_
 first|refine exI ?_|(intro cap10 hcap10;refine exI ?_)
 refine z1v ?_;refine z1e ?_;refine exB (fun hb12=>?_) (fun hb12=>?_)
 rotate_left 1
 ·exfalso;first|exact absurd hb12 (by decide)|exact hb12 rfl|(simp at hb12;done)|omega
 refine z16 ?_;refine exA (rulV rX) (SV.as_refl _) ?_;refine z16 ?_;refine⟨rX,[97],10,rfl,by decide,?_⟩;rw[show z3x rX [97] (10)=true by decide+kernel];refine DRq_0 ?_
 first|refine exI ?_|(intro cap14 hcap14;refine exI ?_)
 refine z1v ?_;refine z1e ?_;refine exB (fun hb16=>?_) (fun hb16=>?_)
 rotate_left 1
 ·exfalso;first|exact absurd hb16 (by decide)|exact hb16 rfl|(simp at hb16;done)|omega
 refine z99 ?_;refine z1v ?_;refine z1e ?_;refine exB (fun hb19=>?_) (fun hb19=>?_)
 rotate_left 1
 ·exfalso;first|exact absurd hb19 (by decide)|exact hb19 rfl|(simp at hb19;done)|omega
 iterate 3 refine z99 ?_
 refine z1v ?_;refine z1e ?_;refine exB (fun hb24=>?_) (fun hb24=>?_)
 rotate_left 1
 ·exfalso;first|exact absurd hb24 (by decide)|exact hb24 rfl|(simp at hb24;done)|omega
 iterate 2 refine z99 ?_
 refine z1v ?_;refine z1e ?_;refine exB (fun hb28=>?_) (fun hb28=>?_)
 rotate_left 1
 ·exfalso;first|exact absurd hb28 (by decide)|exact hb28 rfl|(simp at hb28;done)|omega
 refine z99 ?_;refine z1v ?_;refine z1e ?_;refine exB (fun hb31=>?_) (fun hb31=>?_)
 rotate_left 1
 ·exfalso;first|exact absurd hb31 (by decide)|exact hb31 rfl|(simp at hb31;done)|omega
 iterate 3 refine z99 ?_
 refine z1v ?_;refine z1e ?_;refine exB (fun hb36=>?_) (fun hb36=>?_)
 rotate_left 1
 ·exfalso;first|exact absurd hb36 (by decide)|exact hb36 rfl|(simp at hb36;done)|omega
 iterate 2 refine z99 ?_
 refine z1v ?_;refine z1e ?_;refine exB (fun hb40=>?_) (fun hb40=>?_)
 rotate_left 1
 ·exfalso;first|exact absurd hb40 (by decide)|exact hb40 rfl|(simp at hb40;done)|omega
 refine z16 ?_;refine exA (rulV rA) (SV.as_refl _) ?_;refine z16 ?_;refine⟨rA,rfl,?_⟩;rw[show z6h rA=0 by decide];refine DRq_0 ?_
 first|refine exI ?_|(intro cap42 hcap42;refine exI ?_)
 refine z99 ?_
 iterate 2 refine z1v ?_
 refine s_n K36 ?_;refine z0e (z0d z34 (fun _ _ h=>h) (by first|rfl|assumption) [.tmp 0] rfl ?_);refine rtD ?_
 rfl


end Go.Proofs.YtppmnaoollkboaaDoor

namespace Go.Proofs.YtppmnaoollkboaaDoor
set_option linter.all false
open Go.Ab Go.RowKit

open Go.Aut
theorem zk6{r:Rul}(hr:r.ok):∀ (l:List UInt8) (k:Ky),KOK r k→KOK r (l.foldl (byteK r) k)
  |[],_,h=>h
  | b::l,k,h=>by
    refine zk6 hr l _ ?_;rw[byteK]
    split
    · trivial
    · exact zpb hr h (by omega)
theorem zi8{r:Rul}(hr:r.ok)(l:List UInt8):(readN r l).2=true→0≤(readN r l).1∧(readN r l).1≤r.top:=by
  have h:=zk6 hr l .st trivial
  have ht:=hr.t1
  rw[z6z hr]
  show(valK r (l.foldl (byteK r) .st)).2=true→0≤(valK r (l.foldl (byteK r) .st)).1∧(valK r (l.foldl (byteK r) .st)).1≤r.top
  cases hk:l.foldl (byteK r) .st<;>rw[hk]at h<;>simp only[valK,KOK]at h ⊢ <;>intro hh<;>first|omega|(exact absurd hh (by decide))|(exact hh.elim)|(cases hh;done)
def bD(m:Int):UInt8:=UInt8.ofNat (if m< 10 then 48+m.toNat else 55+m.toNat)
theorem bD10:∀ m:Nat,m< 10→z0t 10 (UInt8.ofNat (if(m:Int)< 10 then 48+(m:Int).toNat else 55+(m:Int).toNat))=(m:Nat):=by decide+kernel
theorem bD16:∀ m:Nat,m< 16→z0t 16 (UInt8.ofNat (if(m:Int)< 10 then 48+(m:Int).toNat else 55+(m:Int).toNat))=(m:Nat):=by decide+kernel
theorem digit_bD{r:Rul}(hr:r.ok){m:Int}(h0:0≤m)(h:m< r.base):z0t r.base (bD m)=m:=by
  obtain⟨n,rfl⟩:=Int.eq_ofNat_of_zero_le h0
  rcases hr.base with e|e<;>rw[e]at h ⊢
  · exact bD10 n (by omega)
  · exact bD16 n (by omega)
theorem zk7{r:Rul}(hr:r.ok){m:Int}(h0:0≤m)(h:m< r.base)(k:Ky):byteK r k (bD m)=stepK r k m:=by
  rw[byteK,digit_bD hr h0 h,if_neg (by omega)]
theorem has_text {r:Rul} (hr:r.ok) {m:Int} (h0:0≤m) (h1:m≤r.top) (h:m< r.base∨1< r.digits∨r.over=2∨m=r.top∧r.over≠0):∃ l:List UInt8,readN r l=(m,true)∧(l.length=1∨l.length=2):=by
  have hd1:=hr.d1
  have ho1:=hr.o1
  have ho2:=hr.o2
  have ht2:=hr.t2
  by_cases hm:m< r.base
  · refine⟨[bD m],?_,.inl rfl⟩
    rw[z6z hr]
    show valK r (byteK r .st (bD m))=_
    rw[zk7 hr h0 hm]
    show valK r (numK r 1 m)=_
    rw[numK,if_neg (by omega)];rfl
  · have hq:0≤m / r.base∧m / r.base< r.base∧1≤m / r.base∧m / r.base≤m∧0≤m%r.base∧m%r.base< r.base∧m / r.base*r.base+m%r.base=m:=by
      rcases hr.base with e|e<;>rw[e]at hm ⊢ <;>omega
    obtain⟨q1,q2,q3,q4,q5,q6,q7⟩:=hq;refine⟨[bD (m / r.base),bD (m%r.base)],?_,.inr rfl⟩;rw[z6z hr]
    show valK r (byteK r (byteK r .st (bD (m / r.base))) (bD (m%r.base)))=_
    rw[zk7 hr q1 q2,zk7 hr q5 q6]
    show valK r (stepK r (numK r 1 (m / r.base)) (m%r.base))=_
    rw[numK,if_neg (by omega)]
    show valK r (if m / r.base=0∧r.zeros=false then Ky.dd else numK r (1+1) (m / r.base*r.base+m%r.base))=_
    rw[if_neg (by omega),q7,numK]
    by_cases hd:r.digits< 1+1∨r.top< m
    · rw[if_pos hd]
      by_cases e0:r.over=0
      · omega
      · rw[if_neg e0]
        by_cases e1:r.over=1
        · rw[if_pos e1]
          show(r.top,true)=(m,true)
          rw[show r.top=m by omega]
        · rw[if_neg e1,Int.emod_eq_of_lt h0 (by omega)];rfl
    · rw[if_neg hd];rfl
end Go.Proofs.YtppmnaoollkboaaDoor
