/- Part 22 of what the claims of this seat share: the walk's engine, the functions' contracts, plain mathematics (Jr, Js). -/
import Derived.Test.YtppmnaoollkboaaDoorPu
import Derived.Test.YtppmnaoollkboaaDoorPj
import Derived.Test.YtppmnaoollkboaaDoorPl
set_option maxHeartbeats 4000000
set_option maxRecDepth 4000
namespace Go.Proofs.YtppmnaoollkboaaDoor
set_option linter.all false
open Go.Ab Go.RowKit

section
variable {a b:Prop}
theorem qJr0(h:a:=by first|exact vcA|(simp[-List.reduceReplicate]<;>omega)|exact vRh|(simp only[z0e];omega)|(simp only[z0v,z0e];omega)|(rw[z0e];omega)|(simp only[z17,z2c];omega)|(show _< (wsC _).length;rw[zvs];omega)|exact⟨by omega,by omega,trivial⟩|exact⟨by omega,by omega,trivial,trivial⟩|(simp;omega)|exact vcB):a:=h
theorem uJr_0(h:a:=by
    repeat' (first|exact hXW2|exact pJ|exact pT|exact trivial|refine aI ?_ ?_|exact cC0|refine low_cons' ?_ ?_|exact cC1|fail)
    all_goals first|omega|(show(0:Nat)< (rt _ _ _).length;rw[z05 hcl];decide)|(show Cont.low _ (Cont.cells (List.replicate 256 _++_));exact z3v)|exact hL0|exact hL1|exact low_ws _|(show(_:List Bool)=_;first|assumption|rfl)|(show(_:List Int)=_;first|assumption|rfl)|(show(_:List UInt8)=_;first|assumption|rfl)|(show allTo _ _ _;first|exact zdi _|(rw[hXW];exact zdi _))|(show allTo _ _ (wsC (wB t (0*256)));rw[hXW];(repeat' (first|exact trivial|refine aI ?_ ?_|rfl|omega|decide|(simp;done)|rw[if_pos ⟨rfl,by simp⟩])))|(simp;done)|(show(0:Nat)< (z02 _ _ _ _).length;rw[z00 hcl];decide)|(simp[-List.reduceReplicate];done)|(simp[-List.reduceReplicate]<;>omega)|skip):a:=h
theorem DJr_0(kZ:b)(h:HidB b→a:=by intro kZ;(repeat first|refine aI qJr0 ?_|refine z04 qJr0 ?_|refine z03 qJr0 ?_|refine z0m qJr0 ?_|refine z0c ?_);exact kZ.out):a:=h ⟨kZ⟩
theorem z3e(kZ:b)(h:HidB b→a:=by intro kZ;refine sX ?_;refine DJr_0 ?_;refine exI ?_;exact kZ.out):a:=h ⟨kZ⟩
theorem y20(kZ:b)(h:HidB b→a:=by intro kZ;refine sX0 ?_;refine DJr_0 ?_;refine exI ?_;exact kZ.out):a:=h ⟨kZ⟩
theorem zdh(kZ:b)(h:HidB b→a:=by intro kZ;refine qX ?_;refine DJr_0 ?_;refine exI ?_;exact kZ.out):a:=h ⟨kZ⟩
theorem z9o(kZ:b)(h:HidB b→a:=by intro kZ;refine sX ?_;refine DJr_0 ?_;exact kZ.out):a:=h ⟨kZ⟩
theorem zau(kZ:b)(h:HidB b→a:=by intro kZ;refine qX ?_;refine DJr_0 ?_;exact kZ.out):a:=h ⟨kZ⟩
end
open Go.Aut
def wsC(l:List (List Nat)):List Cell:=l.map fun w=>.ds w.length (.u8s (w.map UInt8.ofNat))
@[simp] theorem zvs(l:List (List Nat)):(wsC l).length=l.length:=by simp[wsC]
theorem y21{l:List (List Nat)}{i j:Nat}(h:j=i)(hi:i< l.length):(Cont.cells (wsC l)).get j= .ds (l.getD i []).length (.u8s ((l.getD i []).map UInt8.ofNat)):=by
  subst h
  show(wsC l).getD j .nils=_
  rw[wsC,List.getD_eq_getElem?_getD,List.getElem?_map,at_of (d:=[]) hi];rfl
theorem wsC_snoc(l:List (List Nat))(w:List Nat):wsC l++([]++[.ds w.length (.u8s (w.map UInt8.ofNat))])=wsC (l++[w]):=by simp[wsC]
theorem zdi{ty:Nat→Ty}{H:Heap}{is:List Nat}{ρ:Nat→Nat}(l:List (List Nat)):allTo (Cell.to ty H is ρ) (wsC l) (wsC l):=by
  induction l with
  |nil=>trivial
  |cons w l ih=>exact⟨⟨rfl,rfl⟩,ih⟩
theorem low_ws(l:List (List Nat)){n:Nat}:(Cont.cells (wsC l)).low n:=fun z hz=>by
  obtain⟨w,_,rfl⟩:=List.mem_map.1 hz;trivial
theorem wB_at{t:Tab}{i b:Nat}(hi:i< (oB t (i*256)).length):(wB t (i*256+b)).getD i []=(wB t (i*256)).getD i []:=z66 (Nat.le_add_right _ _) hi
theorem wB_mem{l:List (List Nat)}{i:Nat}(h:i< l.length):l.getD i []∈l:=by rw[List.getD_eq_getElem?_getD,List.getElem?_eq_getElem h];exact List.getElem_mem h
theorem y22(t:Tab)(p:Nat):(wB t p).length=(oB t p).length:=z96 p
attribute [local irreducible] z0s z12 zl z02 z11 putB rt rzl cbK wsC wrdO expO z39
def y23:QSpec:=fun vs K=>∃ t:Tab,vs=[rtV t]∧t.fit∧K (lsV (z39 ((tblT t).lang 0)))
theorem y24:z1w Tryd.prog gl 104 y23:=by
 refine z1c (Γ:=g0) (N:=82) Tryd.func104 rfl rfl fun vs K h=>?_;obtain⟨t,rfl,ht,h⟩:=h;refine⟨_,h,z6q _,by simp,fun w I=>?_⟩
 have ht0:=ht
 obtain⟨hok,hlen,hnc⟩:=ht0
 have hcl:=hok.clen
 refine srR g0_ok fun _ K2=>?_
 iterate 3 refine z3e ?_
 refine s_n K2 ?_;refine leW [0] id [(1,.c (.dp (rtC t) 0))] [] 0 [] uJr_0 uJr_0 uJr_0 uJr_0 ?_;refine srR g0_ok fun _ K4=>?_;refine z3e ?_;refine z9o ?_;refine exA (.c (.ds t.next.length (.cells (rowsC t.next)))) (as_c (rt_nx hcl)) ?_
 iterate 3 refine z3e ?_
 refine s_n K4 ?_
 have hnp:=hok.npos
 refine leW [] id [(1,.c (.dp (rtC t) 0)),(4,.c (.slice 0 0 t.next.length t.next.length))] [(0,.own 4 (.bools (List.replicate t.next.length false)) t.next.length)] 1 [0] uJr_0 uJr_0 uJr_0 uJr_0 ?_;refine srR g0_ok fun _ K6=>?_
 iterate 2 refine z3e ?_
 refine y20 ?_;refine s_n K6 ?_;refine srR g0_ok fun _ K8=>?_
 iterate 2 refine z3e ?_
 refine s_n K8 ?_;refine srR g0_ok fun _ K10=>?_
 iterate 3 refine z3e ?_
 refine s_n K10 ?_;refine seq_k fun _ K11=>?_;refine srR g0_ok fun _ K13=>?_;refine z3e ?_;refine s_n K13 ?_;refine z07 ?_;refine z0q (α:=Nat×Nat×Nat) (fun g=>[(1,.c (.dp (rtC t) 0)),(4,.c (.slice 0 0 t.next.length t.next.length)),(5,.c (.slice 1 0 (oB t (g.1*256)).length g.2.1)),(6,.c (.slice 2 0 (wB t (g.1*256)).length g.2.2)),(7,.c (.int .i64 (g.1:Nat)))]) (fun g=>[(0,.own 4 (.bools (seenB (oB t (g.1*256)) t.next.length)) t.next.length),(1,.own 3 (.ints .i64 (natsI (oB t (g.1*256)))) g.2.1),(2,.own 22 (.cells (wsC (wB t (g.1*256)))) g.2.2)]) 3 (fun g=>g.1≤t.next.length∧(∀ j,j< g.1→j< (oB t (j*256)).length)∧g.1≤(oB t (g.1*256)).length∧(oB t (g.1*256)).length≤g.2.1∧(wB t (g.1*256)).length≤g.2.2∧(∀ w∈(wB t (g.1*256)),w.length≤g.1)∧(∀ j,j< g.1→t.acc.getD ((oB t (g.1*256)).getD j 0) false=false)) (fun g=>t.next.length - g.1) ?_ ?_
 ·have hz:oB t (0*256)=[0]:=by unfold oB;rw[Nat.zero_mul];unfold expO;rfl
  have hzw:wB t (0*256)=[[]]:=by unfold wB;rw[Nat.zero_mul];unfold wrdO;rfl
  have hL0:1=(oB t (0*256)).length:=by rw[hz];rfl
  have hL1:1=(wB t (0*256)).length:=by rw[hzw];rfl
  have hS1:(List.replicate t.next.length false).set 0 true=seenB (oB t (0*256)) t.next.length:=by rw[hz];exact ze4 _
  have hX2:([]++[0]:List Int)=natsI (oB t (0*256)):=by rw[hz];rfl
  have hXW:wsC (wB t (0*256))=[.ds 0 (.u8s [])]:=by rw[hzw];unfold wsC;rfl
  refine dnS [2] (fun i=>if i=2 then 3 else i) (0,1,1) ⟨Nat.zero_le _,fun j hj=>absurd hj (Nat.not_lt_zero j),Nat.zero_le _,(by show(oB t (0*256)).length≤1;rw[hz];exact Nat.le_refl _),(by show(wB t (0*256)).length≤1;rw[hzw];exact Nat.le_refl _),(by show ∀ w∈wB t (0*256),w.length≤0;rw[hzw];intro w hw;rw[List.mem_singleton.1 hw];exact Nat.le_refl _),fun j hj=>absurd hj (Nat.not_lt_zero j)⟩ [0,1,3] ?_ ?_ ?_ ?_
  ·exact uJr_0
  ·exact uJr_0
  ·exact uJr_0
  ·exact uJr_0
 ·intro g hg
  obtain⟨hg1,hga,hg3,hg4,hg5,hwd,hna⟩:=hg;refine seq_k fun _ K14=>?_;refine srR g0_ok fun _ K16=>?_
  iterate 4 refine z3e ?_
  refine s_n K16 ?_;refine z09 (b:=_) rfl (fun h_t23=>?_) (fun h_t23=>?_)
  ·try simp only[dQ,reduceIte]at h_t23
   refine z0b ?_;apply K14;refine seq_k fun _ K17=>?_;refine z07 ?_;refine seq_k fun _ K18=>?_
   have hi:g.1< (oB t (g.1*256)).length:=by omega
   have hsl:=oB_lt hok _ _ (getD_mem' hi)
   have hal:=hok.alen
   have hrw:=z5a hok hsl
   have hole:=oB_le hok (g.1*256)
   have hwl:=y22 t (g.1*256)
   refine srQ g0_ok kR fun _ K20=>?_;refine zdh ?_;refine zau ?_;refine exA (.c (.ds t.acc.length (.bools t.acc))) (as_c (rt_ac hcl)) ?_
   iterate 3 refine zdh ?_
   refine zau ?_;refine exA (.c (.int .i64 (((((oB t (g.1*256)).getD g.1 0):Nat):Int)))) (as_i ((congrArg (fun i=>(natsI (oB t (g.1*256))).getD i 0) (by omega)).trans (z0r.trans (congrArg Nat.cast rfl)))) ?_;refine zdh ?_;refine zau ?_;refine exA (.c (.bool (t.acc.getD ((oB t (g.1*256)).getD g.1 0) false))) (as_b (congrArg (fun i=>t.acc.getD i false) (by omega))) ?_;refine q_n K20 ?_;refine z09 (b:=_) rfl (fun h_t33=>?_) (fun h_t33=>?_)
   ·refine srR g0_ok fun _ K22=>?_
    iterate 3 refine z3e ?_
    refine z9o ?_;refine exA (.c (.ds ((wB t (g.1*256)).getD g.1 []).length (.u8s (((wB t (g.1*256)).getD g.1 []).map UInt8.ofNat)))) (as_c (y21 (by omega) (by omega))) ?_
    iterate 2 refine z3e ?_
    refine s_n K22 ?_;rw[ztg hga hi hna (by simpa using h_t33)];refine z0g (z0k g0_ok (fun _ _ h=>h) (z6q _) [] [.tmp 2,.tmp 3] rfl ?_)
    repeat' (first|exact hXW2|exact pJ|exact pT|exact trivial|refine aI ?_ ?_|exact cC0|refine low_cons' ?_ ?_|exact cC1|fail)
    all_goals first|omega|(show _=(lsB (some _)).length;rw[zgf,List.length_map])|(rw[zgf];done)|(show(0:Nat)< (rt _ _ _).length;rw[z05 hcl];decide)|(show Cont.low _ (Cont.cells (List.replicate 256 _++_));exact z3v)|exact hL0|exact hL1|exact low_ws _|(show(_:List Bool)=_;first|assumption|rfl)|(show(_:List Int)=_;first|assumption|rfl)|(show(_:List UInt8)=_;first|assumption|rfl)|(show allTo _ _ _;first|exact zdi _|(rw[hXW];exact zdi _))|(show allTo _ _ (wsC (wB t (0*256)));rw[hXW];(repeat' (first|exact trivial|refine aI ?_ ?_|rfl|omega|decide|(simp;done)|rw[if_pos ⟨rfl,by simp⟩])))|(simp;done)|(show(0:Nat)< (z02 _ _ _ _).length;rw[z00 hcl];decide)|(simp[-List.reduceReplicate];done)|(simp[-List.reduceReplicate]<;>omega)|skip
   ·refine z0b ?_;apply K18
    refine srR g0_ok fun _ K24=>?_;refine z3e ?_;refine s_n K24 ?_;refine z07 ?_;refine z0q (α:=Nat×Nat×Nat) (fun z=>[(1,.c (.dp (rtC t) 0)),(4,.c (.slice 0 0 t.next.length t.next.length)),(5,.c (.slice 1 0 (oB t (g.1*256+z.1)).length z.2.1)),(6,.c (.slice 2 0 (wB t (g.1*256+z.1)).length z.2.2)),(7,.c (.int .i64 (g.1:Nat))),(8,.c (.int .i64 (z.1:Nat)))]) (fun z=>[(0,.own 4 (.bools (seenB (oB t (g.1*256+z.1)) t.next.length)) t.next.length),(1,.own 3 (.ints .i64 (natsI (oB t (g.1*256+z.1)))) z.2.1),(2,.own 22 (.cells (wsC (wB t (g.1*256+z.1)))) z.2.2)]) 3 (fun z=>z.1≤256∧(oB t (g.1*256+z.1)).length≤z.2.1∧(wB t (g.1*256+z.1)).length≤z.2.2∧(∀ w∈(wB t (g.1*256+z.1)),w.length≤g.1+1)) (fun z=>256 - z.1) ?_ ?_
    ·refine dnS [] id (0,g.2.1,g.2.2) ⟨Nat.zero_le _,hg4,hg5,fun w hw=>Nat.le_succ_of_le (hwd w hw)⟩ [0,1,2] uJr_0 uJr_0 uJr_0 uJr_0
    ·intro z hz
     obtain⟨hz1,hz4,hz5,hzd⟩:=hz;refine seq_k fun _ K25=>?_;refine srR g0_ok fun _ K27=>?_
     iterate 2 refine z3e ?_
     refine s_n K27 ?_;refine z09 (b:=_) rfl (fun h_t39=>?_) (fun h_t39=>?_)
     ·try simp only[dQ,reduceIte]at h_t39
      refine z0b ?_;apply K25;refine seq_k fun _ K28=>?_;refine z07 ?_
      have hb256:z.1< 256:=by omega
      have hiz:g.1< (oB t (g.1*256+z.1)).length:=Nat.lt_of_lt_of_le hi (z1p (Nat.le_add_right _ _))
      have hgz:(oB t (g.1*256+z.1)).getD g.1 0=((oB t (g.1*256)).getD g.1 0):=z6b (Nat.le_add_right _ _) hi
      have hcb:=cellN hok hb256
      have hx:=nextN hok hsl hcb.1
      have htl:(bF1 t ((oB t (g.1*256)).getD g.1 0) z.1)< t.next.length:=hx.1
      have holz:=oB_le hok (g.1*256+z.1)
      have hwz:=y22 t (g.1*256+z.1)
      have hwa:(wB t (g.1*256+z.1)).getD g.1 []=((wB t (g.1*256)).getD g.1 []):=wB_at hi
      have hwm:((wB t (g.1*256)).getD g.1 []).length≤g.1:=hwd _ (wB_mem (show g.1< (wB t (g.1*256)).length by omega))
      refine srQ g0_ok kR fun _ K30=>?_;refine zdh ?_;refine zau ?_;refine exA (.c (.ds t.next.length (.cells (rowsC t.next)))) (as_c (rt_nx hcl)) ?_
      iterate 3 refine zdh ?_
      refine zau ?_;refine exA (.c (.int .i64 (((((oB t (g.1*256)).getD g.1 0):Nat):Int)))) (as_i ((congrArg (fun i=>(natsI (oB t (g.1*256+z.1))).getD i 0) (by omega)).trans (z0r.trans (congrArg Nat.cast hgz)))) ?_;refine zdh ?_;refine zau ?_;refine exA (.c (.ds (t.next.getD ((oB t (g.1*256)).getD g.1 0) []).length (.ints .i64 (t.next.getD ((oB t (g.1*256)).getD g.1 0) [])))) (as_c (z4n ⟨hsl,by omega⟩)) ?_
      iterate 3 refine zdh ?_
      refine zau ?_;refine exA (.c (.int .i64 (((tblT t).cell z.1:Nat):Int))) (as_c ((z54 hcl (by first|omega|(simp;done)) hb256).trans (congrArg (Cell.int IntKind.i64) (cellN hok hb256).2))) ?_;refine zdh ?_;refine zau ?_;refine exA (.c (.int .i64 ((((bF1 t ((oB t (g.1*256)).getD g.1 0) z.1):Nat):Int)))) (as_i ((congrArg (fun i=>(t.next.getD ((oB t (g.1*256)).getD g.1 0) []).getD i 0) (by omega)).trans hx.2)) ?_;refine zdh ?_;refine q_n K30 ?_;refine seq_k fun _ K31=>?_;refine srR g0_ok fun _ K33=>?_
      iterate 3 refine z3e ?_
      refine z9o ?_;refine exA (.c (.bool (decide ((bF1 t ((oB t (g.1*256)).getD g.1 0) z.1)∈(oB t (g.1*256+z.1)))))) (as_b (by rw[←za8 htl];congr 1;omega)) ?_;refine s_n K33 ?_;refine z09 (b:=_) rfl (fun h_t59=>?_) (fun h_t59=>?_)
      ·refine z0o ?_;refine z01 ?_
       refine z0j ?_;apply K28;refine z06 g0_ok fun _ K34=>?_
       iterate 3 refine z3e ?_
       refine s_n K34 ?_
       have hin:(bF1 t ((oB t (g.1*256)).getD g.1 0) z.1)∈(oB t (g.1*256+z.1)):=by simpa using h_t59
       have hst:(oB t (g.1*256+(z.1+1)))=(oB t (g.1*256+z.1)):=by
        have:=zej hb256 hiz
        rw[hgz,addG,if_pos hin]at this;exact this
       have hwst:(wB t (g.1*256+(z.1+1)))=(wB t (g.1*256+z.1)):=by
        have:=zm2 (t:=t) (i:=g.1) hb256
        rw[hgz,if_pos hin]at this;exact this
       rw[←hst, ←hwst];refine dnS [] id (z.1+1,z.2.1,z.2.2) ⟨⟨by show z.1+1≤256;omega,(by rw[hst];exact hz4),(by rw[hwst];exact hz5),(by rw[hwst];exact hzd)⟩,by show 256 - (z.1+1)< _;omega⟩ [0,1,2] ?_ ?_ ?_ ?_
       ·exact uJr_0
       ·exact uJr_0
       ·exact uJr_0
       ·exact uJr_0
      ·refine z0b ?_;apply K31
       refine srR g0_ok fun _ K36=>?_
       iterate 3 refine z3e ?_
       refine y20 ?_;refine s_n K36 ?_;refine srR g0_ok fun _ K38=>?_
       iterate 3 refine z3e ?_
       refine z9o ?_;intro cap3 hcap3;refine exI ?_;refine z3e ?_;refine s_n K38 ?_
       revert cap3 hcap3
       intro capA hcapA;refine srR g0_ok fun _ K40=>?_
       iterate 4 refine z3e ?_
       refine z9o ?_;refine exA (.c (.ds ((wB t (g.1*256)).getD g.1 []).length (.u8s (((wB t (g.1*256)).getD g.1 []).map UInt8.ofNat)))) (as_c ((y21 (l:=(wB t (g.1*256+z.1))) (i:=g.1) (by omega) (by omega)).trans (congrArg (fun l=>Cell.ds l.length (.u8s (l.map UInt8.ofNat))) hwa))) ?_;refine z9o ?_;intro cap5 hcap5;refine exI ?_;refine z3e ?_;refine s_n K40 ?_;refine srR g0_ok fun _ K42=>?_
       iterate 2 refine z3e ?_
       refine z9o ?_;refine exA (.c (.u8 (UInt8.ofNat z.1))) (as_eq (congrArg (fun v=>SV.c (Cell.u8 v)) (zcx _))) ?_;refine z3e ?_;refine z9o ?_;intro cap4 hcap4;refine exI ?_;refine z3e ?_;refine s_n K42 ?_
       have hnin:(bF1 t ((oB t (g.1*256)).getD g.1 0) z.1)∉(oB t (g.1*256+z.1)):=by simpa using h_t59
       have hst:(oB t (g.1*256+(z.1+1)))=(oB t (g.1*256+z.1))++[(bF1 t ((oB t (g.1*256)).getD g.1 0) z.1)]:=by
        have:=zej hb256 hiz
        rw[hgz,addG,if_neg hnin]at this;exact this
       have hwst:(wB t (g.1*256+(z.1+1)))=(wB t (g.1*256+z.1))++[(((wB t (g.1*256)).getD g.1 [])++[z.1])]:=by
        have:=zm2 (t:=t) (i:=g.1) hb256
        rw[hgz,if_neg hnin,hwa]at this;exact this
       have hX7:(([]:List UInt8)++((wB t (g.1*256)).getD g.1 []).map UInt8.ofNat)++([]++[UInt8.ofNat z.1])=(((wB t (g.1*256)).getD g.1 [])++[z.1]).map UInt8.ofNat:=by rw[List.map_append];rfl
       have hX1:(seenB (oB t (g.1*256+z.1)) t.next.length).set (0+(((bF1 t ((oB t (g.1*256)).getD g.1 0) z.1):Nat):Int).toNat*1) true=seenB (oB t (g.1*256+(z.1+1))) t.next.length:=by rw[hst, ←zco];congr 1;omega
       have hX2:natsI (oB t (g.1*256+z.1))++([]++[(((bF1 t ((oB t (g.1*256)).getD g.1 0) z.1):Nat):Int)])=natsI (oB t (g.1*256+(z.1+1))):=by rw[hst,List.nil_append,z2r]
       have hL0:(oB t (g.1*256+z.1)).length+1=(oB t (g.1*256+(z.1+1))).length:=by rw[hst,List.length_append];rfl
       have hL1:(wB t (g.1*256+z.1)).length+1=(wB t (g.1*256+(z.1+1))).length:=by rw[hwst,List.length_append];rfl
       have hXW:wsC (wB t (g.1*256+(z.1+1)))=wsC (wB t (g.1*256+z.1))++([]++[.ds (((wB t (g.1*256)).getD g.1 []).length+1) (.u8s ((((wB t (g.1*256)).getD g.1 [])++[z.1]).map UInt8.ofNat))]):=by
        rw[hwst, ←wsC_snoc,List.length_append];rfl
       have hXW2:∀ {ty:Nat→Ty} {H:Heap} {is:List Nat} {ρ:Nat→Nat},Cont.to ty H is ρ (.cells (wsC (wB t (g.1*256+z.1))++([]++[.ds (((wB t (g.1*256)).getD g.1 []).length+1) (.u8s ((((wB t (g.1*256)).getD g.1 [])++[z.1]).map UInt8.ofNat))]))) (.cells (wsC (wB t (g.1*256+(z.1+1))))):=by
        intro ty H is ρ;rw[←hXW];exact zdi _
       have hzd2:∀ w∈(wB t (g.1*256+(z.1+1))),w.length≤g.1+1:=fun w hw=>by
        rw[hwst]at hw
        rcases List.mem_append.1 hw with hw|hw
        ·exact hzd w hw
        ·rw[List.mem_singleton.1 hw,List.length_append];show _+1≤_;omega
       refine leW [8] (fun i=>if i=1 then 4 else i) [(1,.c (.dp (rtC t) 0)),(4,.c (.slice 0 0 t.next.length t.next.length)),(5,.c (.slice 1 0 (oB t (g.1*256+(z.1+1))).length capA)),(6,.c (.slice 2 0 (wB t (g.1*256+z.1)).length z.2.2)),(7,.c (.int .i64 (g.1:Nat))),(8,.c (.int .i64 (z.1:Nat))),(10,.c (.ds (((wB t (g.1*256)).getD g.1 []).length+1) (.u8s ((((wB t (g.1*256)).getD g.1 [])++[z.1]).map UInt8.ofNat))))] [(0,.own 4 (.bools (seenB (oB t (g.1*256+(z.1+1))) t.next.length)) t.next.length),(1,.own 3 (.ints .i64 (natsI (oB t (g.1*256+(z.1+1))))) capA),(2,.own 22 (.cells (wsC (wB t (g.1*256+z.1)))) z.2.2)] 3 [0,4,2] uJr_0 uJr_0 uJr_0 uJr_0 ?_;refine z06 g0_ok fun _ K43=>?_
       iterate 3 refine z3e ?_
       refine z9o ?_;intro cap3 hcap3;refine exI ?_;refine z3e ?_;refine s_n K43 ?_;refine z0a ?_;apply K28;refine z06 g0_ok fun _ K44=>?_
       iterate 3 refine z3e ?_
       refine s_n K44 ?_;refine dnS [] (fun i=>if i=2 then 4 else i) (z.1+1,capA,cap3) ⟨⟨by show z.1+1≤256;omega,(by show(oB t (g.1*256+(z.1+1))).length≤capA;omega),(by show(wB t (g.1*256+(z.1+1))).length≤cap3;omega),hzd2⟩,by show 256 - (z.1+1)< _;omega⟩ [0,1,4] ?_ ?_ ?_ ?_
       ·exact uJr_0
       ·exact uJr_0
       ·exact uJr_0
       ·exact uJr_0
     ·try simp only[dQ,reduceIte]at h_t39
      refine z0o ?_;refine z01 ?_;refine z01 ?_;refine z0j ?_;refine z0a ?_;apply K17;refine z06 g0_ok fun _ K45=>?_
      iterate 3 refine z3e ?_
      refine s_n K45 ?_
      have hze:z.1=256:=by omega
      have hpe:g.1*256+z.1=(g.1+1)*256:=by omega
      rw[hpe];rw[hpe]at hz4 hz5 hzd
      have hlen2:(oB t (g.1*256)).length≤(oB t ((g.1+1)*256)).length:=z1p (by omega)
      have hah:∀ j,j< g.1+1→j< (oB t (j*256)).length:=fun j hj=>by
       rcases Nat.lt_or_ge j g.1 with h1|h1
       ·exact hga j h1
       ·obtain rfl:j=g.1:=by omega
        exact hi
      have hna2:∀ j,j< g.1+1→t.acc.getD ((oB t ((g.1+1)*256)).getD j 0) false=false:=fun j hj=>by
       have hjl:j< (oB t (g.1*256)).length:=Nat.lt_of_le_of_lt (by omega) hi
       have e:(oB t ((g.1+1)*256)).getD j 0=(oB t (g.1*256)).getD j 0:=z6b (by omega) hjl
       rw[e]
       rcases Nat.lt_or_ge j g.1 with h1|h1
       ·exact hna j h1
       ·obtain rfl:j=g.1:=by omega
        simpa using h_t33
      refine dnS [] id (g.1+1,z.2.1,z.2.2) ⟨⟨by show g.1+1≤_;omega,hah,(by show g.1+1≤(oB t ((g.1+1)*256)).length;omega),hz4,hz5,hzd,hna2⟩,by show _ - (g.1+1)< _;omega⟩ [0,1,2] ?_ ?_ ?_ ?_
      ·exact uJr_0
      ·exact uJr_0
      ·exact uJr_0
      ·exact uJr_0
  ·try simp only[dQ,reduceIte]at h_t23
   refine z0o ?_;refine z01 ?_;refine z01 ?_;refine z0j ?_;apply K11;refine srR g0_ok fun _ K47=>?_
   iterate 2 refine z3e ?_
   refine s_n K47 ?_;rw[zzi hga (by omega) hna];refine z0g (z0k g0_ok (fun _ _ h=>h) (z6q _) [] [.tmp 2,.tmp 3] rfl ?_)
   all_goals exact uJr_0


end Go.Proofs.YtppmnaoollkboaaDoor

namespace Go.Proofs.YtppmnaoollkboaaDoor
set_option linter.all false
open Go.Ab Go.RowKit

open Go.Aut
attribute [local irreducible] z0s z12 zl z02 z11 putB rt rzl cbK canD prR z39
noncomputable def gjb:Ctx:={ P:=Tryd.prog,ty:=ty,glob:=gl,fs:=[(32,.flat zba),(96,.data ofRS),(105,.data zj5),(104,.data y23)] }
theorem zkk:gjb.OK:=⟨tyOK,⟨⟨z08 Tryd.func32 kR rfl,z8p⟩,⟨z08 Tryd.func96 kR rfl,zty⟩,⟨z08 Tryd.func105 kR rfl,zj6⟩,⟨z08 Tryd.func104 kR rfl,y24⟩,trivial⟩,mixed⟩
@[simp] theorem gjb_ty:gjb.ty=ty:=rfl

def zu6:QSpec:=fun vs K=>∃ d:Dfa,vs=[dfaV d]∧d.wf∧K (lsV (lstR d))
theorem zvt:z1w Tryd.prog gl 49 zu6:=by
 refine z1c (Γ:=gjb) (N:=12) Tryd.func49 rfl rfl fun vs K h=>?_;obtain⟨d,rfl,hw,h⟩:=h;refine⟨_,h,z6q _,by simp,fun w I=>?_⟩;refine srR zkk fun _ K2=>?_
 iterate 3 refine zdd ?_
 refine s_n K2 ?_;refine seq_k fun _ K3=>?_;refine srR zkk fun _ K5=>?_;refine zdd ?_;refine sXEJd_5 ?_;refine⟨d,rfl,hw,?_⟩;refine DJd_0 ?_
 first|refine exI ?_|(intro cap1 hcap1;refine exI ?_)
 refine zdd ?_;refine s_n K5 ?_;refine z09 (b:=_) rfl (fun h_t6=>?_) (fun h_t6=>?_)
 ·try simp only[dQ,reduceIte]at h_t6
  refine srR zkk fun _ K7=>?_
  iterate 2 refine zdd ?_
  refine s_n K7 ?_;rw[lstR, ←z2m hw,if_neg (by simpa using h_t6)];refine z0g (z0k zkk (fun _ _ h=>h) (z6q _) [] [.tmp 2,.tmp 3] rfl ?_)
  all_goals exact zoi
 ·try simp only[dQ,reduceIte]at h_t6
  refine z0b ?_;apply K3
  have hv:z0w d=true:=(z2m hw).symm.trans (by simpa using h_t6)
  have hg:=(z1e hw).1 hv
  have hcl:=(z26 hg.1).clen
  refine srR zkk fun _ K9=>?_;refine zdd ?_;refine sXEJd_5 ?_;refine⟨d,rfl,hg.1,?_⟩;refine DJd_0 ?_
  first|refine exI ?_|(intro cap1 hcap1;refine exI ?_)
  refine sXEJd_5 ?_;refine aI (z33 (tabD d)) ?_;refine z48 (tabD d) ?_;refine⟨tabD d,rfl,z14 hg,?_⟩;rw[zts];refine DJd_0 ?_
  first|refine exI ?_|(intro cap2 hcap2;refine exI ?_)
  iterate 4 refine zdd ?_
  refine s_n K9 ?_;rw[lstR,if_pos hv];refine z0g (z0k zkk (fun _ _ h=>h) (z6q _) [] [.tmp 2,.tmp 3] rfl ?_)
  all_goals exact zoi

end Go.Proofs.YtppmnaoollkboaaDoor
