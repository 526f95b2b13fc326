/- Part 21 of what the claims of this seat share: the walk's engine, the functions' contracts, plain mathematics (Jp, Jq). -/
import Derived.Test.YtppmnaoollkboaaDoorPt
set_option maxHeartbeats 4000000
set_option maxRecDepth 4000
namespace Go.Proofs.YtppmnaoollkboaaDoor
set_option linter.all false
open Go.Ab Go.RowKit

section
variable {a b:Prop}
theorem qJp0(h:a:=by first|exact vcA|(simp[-List.reduceReplicate]<;>omega)|exact vRa|exact vRb|exact vRj|(simp only[z0e];omega)|(simp only[z0v,z0e];omega)|exact hmI|exact And.intro hjl trivial|(show(List.replicate 256 (0:Int)).length=(jL _ _ _).length;rw[z0h,List.length_replicate])|(show 256=(jL _ _ _).length;rw[z0h])|(show 0< (jL _ _ _).length;rw[z0h];decide)|(show 0+(jL _ _ _).length≤(List.replicate 256 (0:Int)).length;rw[z0h,List.length_replicate];decide)|(show 0+256*1≤(jL _ _ _).length;rw[z0h];decide)|(show 0+256≤(jL _ _ _).length;rw[z0h];decide)|(show(jL _ _ _).length=256*1;rw[z0h])|(show(jL _ _ _).length=256;rw[z0h])|(simp only[z0v,z8r hk1];omega)|exact⟨by omega,by omega,trivial,trivial⟩|exact⟨by omega,by omega,trivial⟩|exact vcB):a:=h
theorem uJp_0(h:a:=by
    repeat' (first|exact pJ|exact pT|exact trivial|refine aI ?_ ?_|exact cC0|refine low_cons' ?_ ?_|exact cC1|fail)
    all_goals first|omega|(show(0:Nat)< (rt _ _ _).length;rw[z05 hjl];decide)|(show Cont.low _ (Cont.cells (List.replicate 256 _++_));exact z3v)|(show(0:Nat)< (rt _ _ _).length;rw[z05 ha.1.clen];decide)|(show(0:Nat)< (rt _ _ _).length;rw[z05 hb.1.clen];decide)|exact zor trivial (by show(2:Nat)< _;decide)|exact zor (by show(2:Nat)< _;decide) (by show(3:Nat)< _;decide)|exact hpr1|exact hpr2|(show(_:List Int)=_;first|assumption|rfl)|(show(_:List Bool)=_;first|assumption|rfl)|(show Cont.to _ _ _ _ _ _;exact z69 trivial trivial)|(show allTo _ _ _;first|(rw[hXR];exact z1m _)|(rw[hXR];trivial)|exact z1m _)|(show allTo _ _ _;(try rw[zmi hjl rfl]);(try rw[zrf hjl rfl]);refine z69 ?_ ?_<;>(repeat' (first|exact trivial|refine aI ?_ ?_|rfl|omega|decide|exact z3a _|(simp;done)|rw[if_pos ⟨rfl,by simp⟩])))|(show 0+_*1≤(prRow _ _ _ _).length;rw[z8r (Nat.le_refl _)];omega)|exact(if_pos ⟨rfl,by show(prRow _ _ _ _).length=_*1;rw[z8r (Nat.le_refl _)];omega⟩).symm|(simp[-List.reduceReplicate];done)|(show(0:Nat)< (z02 _ _ _ _).length;rw[z00 hcl];decide)|(simp[-List.reduceReplicate];done)|(simp[-List.reduceReplicate]<;>omega)|skip):a:=h
theorem DJp_0(kZ:b)(h:HidB b→a:=by intro kZ;(repeat first|refine aI qJp0 ?_|refine z04 qJp0 ?_|refine z03 qJp0 ?_|refine z0m qJp0 ?_|refine z0c ?_);exact kZ.out):a:=h ⟨kZ⟩
theorem z4p(kZ:b)(h:HidB b→a:=by intro kZ;refine sX ?_;refine DJp_0 ?_;refine exI ?_;exact kZ.out):a:=h ⟨kZ⟩
theorem zmm(kZ:b)(h:HidB b→a:=by intro kZ;refine sX0 ?_;refine DJp_0 ?_;refine exI ?_;exact kZ.out):a:=h ⟨kZ⟩
theorem z5r(kZ:b)(h:HidB b→a:=by intro kZ;refine dX ?_;refine DJp_0 ?_;refine exI ?_;exact kZ.out):a:=h ⟨kZ⟩
theorem gXJp_4(kZ:b)(h:HidB b→a:=by intro kZ;refine gX ?_;refine DJp_0 ?_;refine exI ?_;exact kZ.out):a:=h ⟨kZ⟩
theorem gX0Jp_5(kZ:b)(h:HidB b→a:=by intro kZ;refine gX0 ?_;refine DJp_0 ?_;refine exI ?_;exact kZ.out):a:=h ⟨kZ⟩
theorem zat(kZ:b)(h:HidB b→a:=by intro kZ;refine sX ?_;refine DJp_0 ?_;exact kZ.out):a:=h ⟨kZ⟩
theorem z4b(kZ:b)(h:HidB b→a:=by intro kZ;refine dX ?_;refine DJp_0 ?_;exact kZ.out):a:=h ⟨kZ⟩
theorem zrh(kZ:b)(h:HidB b→a:=by intro kZ;refine gX ?_;refine DJp_0 ?_;exact kZ.out):a:=h ⟨kZ⟩
end
open Go.Aut
theorem zvq{l:List Int}(h:l.length=256):(l.map (Cell.int .i64)++((Cont.cells (List.replicate 256 (Cell.int .i64 0)++List.replicate 2 .nils)).sub 256 2).list)=rt l .nils .nils:=by
  rw[rt]
  congr 1
theorem rt_at1{cell:List Int}{x y:Cell}(h:cell.length=256):(rt cell x y)[257]? =some y:=by
  rw[rt,List.getElem?_append_right (by simp[h])]
  simp[h]
theorem rt_y{cell:List Int}{x y:Cell}(h:cell.length=256):(Cont.cells (rt cell x y)).get (0+257)=y:=by rw[Nat.zero_add,zma h 1];rfl
theorem zvr(a b:Tab)(p:Nat):([]:List Int)=prRow a b p 0:=by unfold prRow;rfl
attribute [local irreducible] z0s z12 zl z02 z11 putB rt rzl cbK jL jrep jcell prRow z4u prAcc
noncomputable def gj8:Ctx:={ P:=Tryd.prog,ty:=ty,glob:=gl,fs:=[(98,.data y17),(150,.flat y14)] }
theorem z5n:gj8.OK:=⟨tyOK,⟨⟨z08 Tryd.func98 kR rfl,y18⟩,⟨z08 Tryd.func150 kR rfl,y15⟩,trivial⟩,mixed⟩
@[simp] theorem gj8_ty:gj8.ty=ty:=rfl

def zj5:QSpec:=fun vs K=>∃ (op:Int) (a b:Tab),vs=[rtV a,rtV b,.c (.int .i64 op)]∧(a.fit∧b.fit∧a.next.length≤64∧b.next.length≤64)∧K (rtV (prR (z3y op) a b))
theorem zj6:z1w Tryd.prog gl 105 zj5:=by
 refine z1c (Γ:=gj8) (N:=103) Tryd.func105 rfl rfl fun vs K h=>?_;obtain⟨op,a,b,rfl,⟨ha,hb,h64⟩,h⟩:=h;refine⟨_,h,zkf _,by simp,fun w I=>?_⟩
 have hjl:(jL a b 256).length=256:=z0h a b 256
 refine srR z5n fun _ K2=>?_
 iterate 3 refine z4p ?_
 refine s_n K2 ?_;refine srR z5n fun _ K4=>?_;refine zat ?_;refine exA (rtV a) (SV.as_refl _) ?_;refine zat ?_;refine exA (rtV b) (SV.as_refl _) ?_;refine zat ?_;refine aI (z33 a) ?_;refine z48 a ?_;refine aI (z33 b) ?_;refine z48 b ?_;refine⟨a,b,rfl,⟨ha,hb⟩,?_⟩;rw[zzf]
 simp only[z6o]
 refine DJp_0 ?_
 first|refine exI ?_|(intro cap2 hcap2;refine exI ?_)
 iterate 4 refine z4p ?_
 refine zmm ?_;refine z4p ?_;refine s_n K4 ?_;refine srR z5n fun _ K6=>?_;refine z4p ?_;refine zat ?_;refine exA (.agg (.cells (rt (jL a b 256) .nils .nils))) (as_eq (congrArg (fun l=>SV.agg (Cont.cells l)) (zvq hjl))) ?_;refine z4p ?_;refine zmm ?_;refine s_n K6 ?_;refine leW [0,1] (fun i=>if i=0 then 2 else 4) [(2,.c (.int .i64 op)),(3,.c (.dp (rtC a) 0)),(4,.c (.dp (rtC b) 0)),(6,.c (.ptr 0 0)),(8,.c (.ds (jrep (cN a) (cN b)).length (.ints .i64 (natsI (jrep (cN a) (cN b)))))),(9,.c (.ptr 1 0))] [(0,.own 111 (.cells rzl) 258),(1,.own 111 (.cells (rt (jL a b 256) .nils .nils)) 258)] 2 [2,4] uJp_0 uJp_0 uJp_0 uJp_0 ?_;refine srR z5n fun _ K8=>?_;refine z4p ?_;refine zat ?_;refine exA (.c (.ds b.next.length (.cells (rowsC b.next)))) (as_c (rt_nx hb.1.clen)) ?_
 iterate 2 refine z4p ?_
 refine s_n K8 ?_;refine seq_k fun _ K9=>?_;refine srR z5n fun _ K11=>?_;refine z4p ?_;refine s_n K11 ?_;refine z07 ?_;refine z4v 1 256 51 (.cells []) rfl (rt_at0 hjl) rfl low_nil' ?_;rw[zmi hjl rfl];refine z4v 1 257 4 (.bools []) rfl (rt_at1 hjl) rfl trivial ?_;rw[zrf hjl rfl];refine z0q (α:=Nat×Nat×Nat) (fun g=>[(2,.c (.int .i64 op)),(3,.c (.dp (rtC a) 0)),(4,.c (.dp (rtC b) 0)),(6,.c (.ptr 0 0)),(8,.c (.ds (jrep (cN a) (cN b)).length (.ints .i64 (natsI (jrep (cN a) (cN b)))))),(9,.c (.ptr 1 0)),(10,.c (.int .i64 (b.next.length:Nat))),(11,.c (.int .i64 (g.1:Nat)))]) (fun g=>[(0,.own 111 (.cells rzl) 258),(1,.own 111 (.cells (rt (jL a b 256) (.slice 2 0 (g.1*b.next.length) g.2.1) (.slice 3 0 (g.1*b.next.length) g.2.2))) 258),(2,.own 51 (.cells (rowsC (z4u a b (g.1*b.next.length)))) g.2.1),(3,.own 4 (.bools (prAcc (z3y op) a b (g.1*b.next.length))) g.2.2)]) 4 (fun g=>g.1≤a.next.length∧(g.1*b.next.length)≤g.2.1∧(g.1*b.next.length)≤g.2.2) (fun g=>a.next.length - g.1) ?_ ?_
 ·have hz:0*b.next.length=0:=Nat.zero_mul _
  have hXR:rowsC (z4u a b (0*b.next.length))=[]:=by rw[hz];unfold z4u;rfl
  have hX3:([]:List Bool)=prAcc (z3y op) a b (0*b.next.length):=by rw[hz];unfold prAcc;rfl
  refine dnS [] id (0,0,0) ⟨Nat.zero_le _,by rw[hz];exact Nat.le_refl _,by rw[hz];exact Nat.le_refl _⟩ [0,1,2,3] ?_ ?_ ?_ ?_
  ·exact uJp_0
  ·exact uJp_0
  ·exact uJp_0
  ·exact uJp_0
 ·intro g hg
  obtain⟨hg1,hg2,hg3⟩:=hg;refine seq_k fun _ K12=>?_;refine srR z5n fun _ K14=>?_
  iterate 2 refine z4p ?_
  refine zat ?_;refine exA (.c (.ds a.next.length (.cells (rowsC a.next)))) (as_c (rt_nx ha.1.clen)) ?_
  iterate 2 refine z4p ?_
  refine s_n K14 ?_;refine z09 (b:=_) rfl (fun h_t30=>?_) (fun h_t30=>?_)
  ·try simp only[dQ,reduceIte]at h_t30
   refine z0b ?_;apply K12;refine seq_k fun _ K15=>?_;refine z07 ?_
   have hgi:g.1< a.next.length:=by omega
   have hrwa:=z5a ha.1 hgi
   refine srR z5n fun _ K17=>?_;refine z4p ?_;refine s_n K17 ?_;refine z07 ?_;refine z0q (α:=Nat×Nat×Nat) (fun q=>[(2,.c (.int .i64 op)),(3,.c (.dp (rtC a) 0)),(4,.c (.dp (rtC b) 0)),(6,.c (.ptr 0 0)),(8,.c (.ds (jrep (cN a) (cN b)).length (.ints .i64 (natsI (jrep (cN a) (cN b)))))),(9,.c (.ptr 1 0)),(10,.c (.int .i64 (b.next.length:Nat))),(11,.c (.int .i64 (g.1:Nat))),(12,.c (.int .i64 (q.1:Nat)))]) (fun q=>[(0,.own 111 (.cells rzl) 258),(1,.own 111 (.cells (rt (jL a b 256) (.slice 2 0 (g.1*b.next.length+q.1) q.2.1) (.slice 3 0 (g.1*b.next.length+q.1) q.2.2))) 258),(2,.own 51 (.cells (rowsC (z4u a b (g.1*b.next.length+q.1)))) q.2.1),(3,.own 4 (.bools (prAcc (z3y op) a b (g.1*b.next.length+q.1))) q.2.2)]) 4 (fun q=>q.1≤b.next.length∧(g.1*b.next.length+q.1)≤q.2.1∧(g.1*b.next.length+q.1)≤q.2.2) (fun q=>b.next.length - q.1) ?_ ?_
   ·refine dnS [] id (0,g.2.1,g.2.2) ⟨Nat.zero_le _,hg2,hg3⟩ [0,1,2,3] uJp_0 uJp_0 uJp_0 uJp_0
   ·intro q hq
    obtain⟨hq1,hq2,hq3⟩:=hq;refine seq_k fun _ K18=>?_;refine srR z5n fun _ K20=>?_
    iterate 3 refine z4p ?_
    refine s_n K20 ?_;refine z09 (b:=_) rfl (fun h_t35=>?_) (fun h_t35=>?_)
    ·try simp only[dQ,reduceIte]at h_t35
     refine z0b ?_;apply K18;refine seq_k fun _ K21=>?_;refine z07 ?_
     have hqj:q.1< b.next.length:=by omega
     have hrwb:=z5a hb.1 hqj
     have hplt:=pr_lt hgi hqj
     have hpmx:=pr_max h64.1 h64.2
     refine srR z5n fun _ K23=>?_
     iterate 2 refine z4p ?_
     refine s_n K23 ?_;refine seq_k fun _ K24=>?_;refine srR z5n fun _ K26=>?_;refine z4p ?_;refine s_n K26 ?_;refine z07 ?_;refine z0q (α:=Nat×Nat) (fun k=>[(2,.c (.int .i64 op)),(3,.c (.dp (rtC a) 0)),(4,.c (.dp (rtC b) 0)),(6,.c (.ptr 0 0)),(8,.c (.ds (jrep (cN a) (cN b)).length (.ints .i64 (natsI (jrep (cN a) (cN b)))))),(9,.c (.ptr 1 0)),(10,.c (.int .i64 (b.next.length:Nat))),(11,.c (.int .i64 (g.1:Nat))),(12,.c (.int .i64 (q.1:Nat))),(13,.c (.slice 4 0 k.1 k.2)),(14,.c (.int .i64 (k.1:Nat)))]) (fun k=>[(0,.own 111 (.cells rzl) 258),(1,.own 111 (.cells (rt (jL a b 256) (.slice 2 0 (g.1*b.next.length+q.1) q.2.1) (.slice 3 0 (g.1*b.next.length+q.1) q.2.2))) 258),(2,.own 51 (.cells (rowsC (z4u a b (g.1*b.next.length+q.1)))) q.2.1),(3,.own 4 (.bools (prAcc (z3y op) a b (g.1*b.next.length+q.1))) q.2.2),(4,.own 3 (.ints .i64 (prRow a b (g.1*b.next.length+q.1) k.1)) k.2)]) 5 (fun k=>k.1≤(jrep (cN a) (cN b)).length∧k.1≤k.2) (fun k=>(jrep (cN a) (cN b)).length - k.1) ?_ ?_
     ·have hX1:=zvr a b (g.1*b.next.length+q.1)
      refine dnS [] id (0,0) ⟨Nat.zero_le _,Nat.le_refl _⟩ [0,1,2,3,4] uJp_0 uJp_0 uJp_0 uJp_0
     ·intro k hk
      obtain⟨hk1,hk2⟩:=hk
      have hjm9:=(j_in a b).max
      have hrl9:=z8r (a:=a) (b:=b) (p:=(g.1*b.next.length+q.1)) hk1
      refine seq_k fun _ K27=>?_;refine srR z5n fun _ K29=>?_
      iterate 4 refine z4p ?_
      refine s_n K29 ?_;refine z09 (b:=_) rfl (fun h_t42=>?_) (fun h_t42=>?_)
      ·try simp only[dQ,reduceIte]at h_t42
       refine z0b ?_;apply K27;refine seq_k fun _ K30=>?_;refine z07 ?_
       have hkl:k.1< (jrep (cN a) (cN b)).length:=by omega
       have hx256:((jrep (cN a) (cN b)).getD k.1 0)< 256:=(j_in a b).byte _ (getD_mem' hkl)
       have hxa:=nextN ha.1 hgi (cellN ha.1 hx256).1
       have hxb:=nextN hb.1 hqj (cellN hb.1 hx256).1
       have hxa2:(a.next.getD g.1 []).getD (cN a ((jrep (cN a) (cN b)).getD k.1 0)) 0=((((tblT a).δ g.1 (cN a ((jrep (cN a) (cN b)).getD k.1 0))):Nat):Int):=hxa.2
       have hxb2:(b.next.getD q.1 []).getD (cN b ((jrep (cN a) (cN b)).getD k.1 0)) 0=((((tblT b).δ q.1 (cN b ((jrep (cN a) (cN b)).getD k.1 0))):Nat):Int):=hxb.2
       have hca:=(cellN ha.1 hx256).1
       have hcb:=(cellN hb.1 hx256).1
       have hca:cN a ((jrep (cN a) (cN b)).getD k.1 0)< a.nc:=hca
       have hcb:cN b ((jrep (cN a) (cN b)).getD k.1 0)< b.nc:=hcb
       have hlt2:((tblT a).δ g.1 (cN a ((jrep (cN a) (cN b)).getD k.1 0)))*b.next.length+((tblT b).δ q.1 (cN b ((jrep (cN a) (cN b)).getD k.1 0)))< a.next.length*b.next.length:=pr_lt hxa.1 hxb.1
       have hjm:=(j_in a b).max
       have hmI:inR .i64 (((((tblT a).δ g.1 (cN a ((jrep (cN a) (cN b)).getD k.1 0))):Nat):Int)*((b.next.length:Nat):Int)):=by
        rw[←Int.natCast_mul]
        have hz9:((tblT a).δ g.1 (cN a ((jrep (cN a) (cN b)).getD k.1 0)))*b.next.length≤4096:=by omega
        generalize ((tblT a).δ g.1 (cN a ((jrep (cN a) (cN b)).getD k.1 0)))*b.next.length=z9 at hz9
        exact And.intro (by show(-9223372036854775808:Int)≤_;omega) (by show _≤(9223372036854775807:Int);omega)
       refine z5v z5n [(0,true),(1,true),(2,true),(3,true),(4,true),(5,true),(6,true),(7,true),(8,true),(9,true),(10,true),(11,true),(12,true),(13,true),(14,true),(15,true),(16,true),(17,true),(18,true),(19,true),(20,true),(21,true),(22,true),(23,true),(24,true),(25,true),(26,true),(27,true),(28,true),(29,true),(30,true),(31,true),(32,false),(33,false),(34,true)] rfl kR kR fun _ K31=>?_
       iterate 2 refine z5r ?_
       refine z4b ?_;refine exA (.c (.ds a.next.length (.cells (rowsC a.next)))) (as_c (rt_nx ha.1.clen)) ?_
       iterate 2 refine z5r ?_
       refine z4b ?_;refine exA (.c (.ds (a.next.getD g.1 []).length (.ints .i64 (a.next.getD g.1 [])))) (as_c (z4n ⟨hgi,by omega⟩)) ?_
       iterate 3 refine z5r ?_
       refine z4b ?_;refine exA (.c (.int .i64 (((((jrep (cN a) (cN b)).getD k.1 0):Nat):Int)))) (as_i ((congrArg (fun i=>(natsI (jrep (cN a) (cN b))).getD i 0) (by omega)).trans z0r)) ?_
       iterate 2 refine z5r ?_
       refine z4b ?_;refine exA (.c (.int .i64 ((cN a ((jrep (cN a) (cN b)).getD k.1 0):Nat):Int))) (as_c ((z54 ha.1.clen (by first|omega|(simp;done)) hx256).trans (congrArg (Cell.int IntKind.i64) (cellN ha.1 hx256).2))) ?_;refine z5r ?_;refine z4b ?_;refine exA (.c (.int .i64 (((((tblT a).δ g.1 (cN a ((jrep (cN a) (cN b)).getD k.1 0))):Nat):Int)))) (as_i ((congrArg (fun i=>(a.next.getD g.1 []).getD i 0) (by omega)).trans hxa2)) ?_;refine z5r ?_;refine z4b ?_;refine exA (.c (.int .i64 (((((tblT a).δ g.1 (cN a ((jrep (cN a) (cN b)).getD k.1 0)))*b.next.length:Nat):Int)))) (as_i (Int.natCast_mul _ _ |>.symm)) ?_;refine z5r ?_;refine z4b ?_;refine exA (.c (.ds b.next.length (.cells (rowsC b.next)))) (as_c (rt_nx hb.1.clen)) ?_
       iterate 2 refine z5r ?_
       refine z4b ?_;refine exA (.c (.ds (b.next.getD q.1 []).length (.ints .i64 (b.next.getD q.1 [])))) (as_c (z4n ⟨hqj,by omega⟩)) ?_
       iterate 3 refine z5r ?_
       refine z4b ?_;refine exA (.c (.int .i64 (((((jrep (cN a) (cN b)).getD k.1 0):Nat):Int)))) (as_i ((congrArg (fun i=>(natsI (jrep (cN a) (cN b))).getD i 0) (by omega)).trans z0r)) ?_
       iterate 2 refine z5r ?_
       refine z4b ?_;refine exA (.c (.int .i64 ((cN b ((jrep (cN a) (cN b)).getD k.1 0):Nat):Int))) (as_c ((z54 hb.1.clen (by first|omega|(simp;done)) hx256).trans (congrArg (Cell.int IntKind.i64) (cellN hb.1 hx256).2))) ?_;refine z5r ?_;refine z4b ?_;refine exA (.c (.int .i64 (((((tblT b).δ q.1 (cN b ((jrep (cN a) (cN b)).getD k.1 0))):Nat):Int)))) (as_i ((congrArg (fun i=>(b.next.getD q.1 []).getD i 0) (by omega)).trans hxb2)) ?_;refine z4b ?_;refine exA (.c (.int .i64 (((((tblT a).δ g.1 (cN a ((jrep (cN a) (cN b)).getD k.1 0)))*b.next.length+((tblT b).δ q.1 (cN b ((jrep (cN a) (cN b)).getD k.1 0))):Nat):Int)))) (as_i (Int.natCast_add _ _ |>.symm)) ?_;refine gXJp_4 ?_;refine zrh ?_;intro cap33 hcap33;refine exI ?_;refine z5r ?_;refine d_n K31 ?_;refine z0a ?_;apply K30;refine z06 z5n fun _ K32=>?_
       iterate 3 refine z4p ?_
       refine s_n K32 ?_
       have hX1:=zvp (a:=a) (i:=g.1) hqj hkl
       refine dnS [] (fun i=>if i=4 then 6 else i) (k.1+1,cap33) ⟨⟨by show k.1+1≤_;omega,by show k.1+1≤cap33;omega⟩,by show _ - (k.1+1)< _;omega⟩ [0,1,2,3,6] ?_ ?_ ?_ ?_
       ·exact uJp_0
       ·exact uJp_0
       ·exact uJp_0
       ·exact uJp_0
      ·try simp only[dQ,reduceIte]at h_t42
       refine z0o ?_;refine z01 ?_;refine z01 ?_;refine z0j ?_;apply K24
       have hke:k.1=(jrep (cN a) (cN b)).length:=by omega
       rw[hke];refine leW [4] id [(2,.c (.int .i64 op)),(3,.c (.dp (rtC a) 0)),(4,.c (.dp (rtC b) 0)),(6,.c (.ptr 0 0)),(8,.c (.ds (jrep (cN a) (cN b)).length (.ints .i64 (natsI (jrep (cN a) (cN b)))))),(9,.c (.ptr 1 0)),(10,.c (.int .i64 (b.next.length:Nat))),(11,.c (.int .i64 (g.1:Nat))),(12,.c (.int .i64 (q.1:Nat))),(13,.c (.ds (jrep (cN a) (cN b)).length (.ints .i64 (prRow a b (g.1*b.next.length+q.1) (jrep (cN a) (cN b)).length))))] [(0,.own 111 (.cells rzl) 258),(1,.own 111 (.cells (rt (jL a b 256) (.slice 2 0 (g.1*b.next.length+q.1) q.2.1) (.slice 3 0 (g.1*b.next.length+q.1) q.2.2))) 258),(2,.own 51 (.cells (rowsC (z4u a b (g.1*b.next.length+q.1)))) q.2.1),(3,.own 4 (.bools (prAcc (z3y op) a b (g.1*b.next.length+q.1))) q.2.2)] 4 [0,1,2,3] uJp_0 uJp_0 uJp_0 uJp_0 ?_;refine srR z5n fun _ K34=>?_;refine z4p ?_;refine zat ?_;refine exA (.c (.slice 2 0 (g.1*b.next.length+q.1) q.2.1)) (as_c (rt_x hjl)) ?_
       iterate 2 refine z4p ?_
       refine zat ?_;intro cap4 hcap4;refine exI ?_;refine z4p ?_;refine zmm ?_;refine s_n K34 ?_
       have hXR:rowsC (z4u a b (g.1*b.next.length+q.1))++([]++[.ds (jrep (cN a) (cN b)).length (.ints .i64 (prRow a b (g.1*b.next.length+q.1) (jrep (cN a) (cN b)).length))])=rowsC (z4u a b (g.1*b.next.length+(q.1+1))):=by
        have:=z59 (z4u a b (g.1*b.next.length+q.1)) (prRow a b (g.1*b.next.length+q.1) (jrep (cN a) (cN b)).length)
        rw[z8r (Nat.le_refl _),zrg]at this;exact this
       refine leW [] (fun i=>if i=2 then 5 else i) [(2,.c (.int .i64 op)),(3,.c (.dp (rtC a) 0)),(4,.c (.dp (rtC b) 0)),(6,.c (.ptr 0 0)),(8,.c (.ds (jrep (cN a) (cN b)).length (.ints .i64 (natsI (jrep (cN a) (cN b)))))),(9,.c (.ptr 1 0)),(10,.c (.int .i64 (b.next.length:Nat))),(11,.c (.int .i64 (g.1:Nat))),(12,.c (.int .i64 (q.1:Nat)))] [(0,.own 111 (.cells rzl) 258),(1,.own 111 (.cells (rt (jL a b 256) (.slice 2 0 (g.1*b.next.length+(q.1+1)) cap4) (.slice 3 0 (g.1*b.next.length+q.1) q.2.2))) 258),(2,.own 51 (.cells (rowsC (z4u a b (g.1*b.next.length+(q.1+1))))) cap4),(3,.own 4 (.bools (prAcc (z3y op) a b (g.1*b.next.length+q.1))) q.2.2)] 4 [0,1,5,3] uJp_0 uJp_0 uJp_0 uJp_0 ?_
       have hala:=ha.1.alen
       have halb:=hb.1.alen
       refine z5v z5n [(0,true),(1,true),(2,true),(3,true),(4,true),(5,true),(6,true),(7,true),(8,true),(9,true),(10,true),(11,true),(12,true),(13,false),(14,false),(15,false),(16,true),(17,false)] rfl kR kR fun _ K35=>?_;refine z5r ?_;refine z4b ?_;refine exA (.c (.slice 3 0 (g.1*b.next.length+q.1) q.2.2)) (as_c (rt_y hjl)) ?_
       iterate 2 refine z5r ?_
       refine z4b ?_;refine exA (.c (.ds a.acc.length (.bools a.acc))) (as_c (rt_ac ha.1.clen)) ?_
       iterate 2 refine z5r ?_
       refine z4b ?_;refine exA (.c (.bool (a.acc.getD g.1 false))) (as_b (congrArg (fun i=>a.acc.getD i false) (by omega))) ?_;refine z5r ?_;refine z4b ?_;refine exA (.c (.ds b.acc.length (.bools b.acc))) (as_c (rt_ac hb.1.clen)) ?_
       iterate 2 refine z5r ?_
       refine z4b ?_;refine exA (.c (.bool (b.acc.getD q.1 false))) (as_b (congrArg (fun i=>b.acc.getD i false) (by omega))) ?_;refine zrh ?_;refine⟨op,a.acc.getD g.1 false,b.acc.getD q.1 false,rfl,?_⟩;refine DJp_0 ?_
       first|refine exI ?_|(intro cap13 hcap13;refine exI ?_)
       refine gXJp_4 ?_;refine zrh ?_;intro cap15 hcap15;refine exI ?_;refine z5r ?_;refine gX0Jp_5 ?_;refine d_n K35 ?_;refine z0a ?_;apply K21;refine z06 z5n fun _ K36=>?_
       iterate 3 refine z4p ?_
       refine s_n K36 ?_
       have hX3:=zvo (op:=(z3y op)) (a:=a) (i:=g.1) hqj
       refine dnS [] (fun i=>if i=3 then 5 else i) (q.1+1,cap4,cap15) ⟨⟨by show q.1+1≤_;omega,by show(g.1*b.next.length+(q.1+1))≤cap4;omega,by show(g.1*b.next.length+(q.1+1))≤cap15;omega⟩,by show _ - (q.1+1)< _;omega⟩ [0,1,2,5] ?_ ?_ ?_ ?_
       ·exact uJp_0
       ·exact uJp_0
       ·exact uJp_0
       ·exact uJp_0
    ·try simp only[dQ,reduceIte]at h_t35
     refine z0o ?_;refine z01 ?_;refine z01 ?_;refine z0j ?_;refine z0a ?_;apply K15;refine z06 z5n fun _ K37=>?_
     iterate 3 refine z4p ?_
     refine s_n K37 ?_
     have hqe:q.1=b.next.length:=by omega
     have hpe:g.1*b.next.length+q.1=(g.1+1)*b.next.length:=by rw[hqe,Nat.succ_mul]
     rw[hpe]at hq2 hq3;rw[hpe];refine dnS [] id (g.1+1,q.2.1,q.2.2) ⟨⟨by show g.1+1≤_;omega,hq2,hq3⟩,by show _ - (g.1+1)< _;omega⟩ [0,1,2,3] ?_ ?_ ?_ ?_
     ·exact uJp_0
     ·exact uJp_0
     ·exact uJp_0
     ·exact uJp_0
  ·try simp only[dQ,reduceIte]at h_t30
   refine z0o ?_;refine z01 ?_;refine z01 ?_;refine z0j ?_;apply K9
   have hge:g.1=a.next.length:=by omega
   rw[hge]
   have hpr1:a.next.length*b.next.length=(prR (z3y op) a b).next.length:=(z9n _ _ _).symm
   have hpr2:a.next.length*b.next.length=(prR (z3y op) a b).acc.length:=(zfp _ _ _ _).symm
   refine leW [2,3] id [(6,.c (.ptr 0 0)),(9,.c (.ptr 1 0))] [(0,.own 111 (.cells rzl) 258),(1,.own 111 (.cells (rt (jL a b 256) (.ds (a.next.length*b.next.length) (.cells (rowsC (z4u a b (a.next.length*b.next.length))))) (.ds (a.next.length*b.next.length) (.bools (prAcc (z3y op) a b (a.next.length*b.next.length)))))) 258)] 2 [0,1] uJp_0 uJp_0 uJp_0 uJp_0 ?_;refine srR z5n fun _ K39=>?_;refine z4p ?_;refine zmm ?_;refine s_n K39 ?_;refine z0g (z0k z5n (fun _ _ h=>h) (zkf _) [] [.cell 6 111] rfl ?_)
   repeat first|refine aI (by first|omega|exact trivial|rfl|exact vRj) ?_|refine z04 (z05 hjl) ?_|refine z03 (by rw[z13];exact(z05 hjl).symm) ?_
   all_goals exact uJp_0


end Go.Proofs.YtppmnaoollkboaaDoor

namespace Go.Proofs.YtppmnaoollkboaaDoor
set_option linter.all false
open Go.Ab Go.RowKit

section
variable {a b:Prop}
theorem qJq0(h:a:=by first|exact vcA|(simp[-List.reduceReplicate]<;>omega)|exact vRd|exact vRe|exact vRp|exact vcB):a:=h
theorem qJq1(h:a:=by first|exact vcA|(simp[-List.reduceReplicate]<;>omega)|exact vRz|exact vcB):a:=h
theorem uJq_0(h:a:=by
    repeat' (first|exact pJ|exact pT|exact trivial|refine aI ?_ ?_|exact cC0|refine low_cons' ?_ ?_|exact cC1|fail)
    all_goals first|omega|(show(0:Nat)< (rt _ _ _).length;rw[z05 (z26 hge.1).clen];decide)|(show Cont.low _ (Cont.cells (List.replicate 256 _++_));exact z3v)|exact z1b _|(show(0:Nat)< (z02 _ _ _ _).length;rw[z00 hcl];decide)|(simp[-List.reduceReplicate];done)|(simp[-List.reduceReplicate]<;>omega)|skip):a:=h
theorem DJq_0(kZ:b)(h:HidB b→a:=by intro kZ;(repeat first|refine aI qJq0 ?_|refine z04 qJq0 ?_|refine z03 qJq0 ?_|refine z0m qJq0 ?_|refine z0c ?_);exact kZ.out):a:=h ⟨kZ⟩
theorem zdg(kZ:b)(h:HidB b→a:=by intro kZ;refine sX ?_;refine DJq_0 ?_;refine exI ?_;exact kZ.out):a:=h ⟨kZ⟩
theorem y1u(kZ:b)(h:HidB b→a:=by intro kZ;refine sX0 ?_;refine DJq_0 ?_;refine exI ?_;exact kZ.out):a:=h ⟨kZ⟩
theorem y1v(kZ:b)(h:HidB b→a:=by intro kZ;refine sXT ?_;refine DJq_0 ?_;refine exI ?_;exact kZ.out):a:=h ⟨kZ⟩
theorem y1w(kZ:b)(h:HidB b→a:=by intro kZ;refine dX ?_;refine DJq_0 ?_;refine exI ?_;exact kZ.out):a:=h ⟨kZ⟩
theorem gX0Jq_5(kZ:b)(h:HidB b→a:=by intro kZ;refine gX0 ?_;refine DJq_0 ?_;refine exI ?_;exact kZ.out):a:=h ⟨kZ⟩
theorem DJq_6(kZ:b)(h:HidB b→a:=by intro kZ;(repeat first|refine aI qJq1 ?_|refine z04 qJq1 ?_|refine z03 qJq1 ?_|refine z0m qJq1 ?_|refine z0c ?_);exact kZ.out):a:=h ⟨kZ⟩
theorem zu5(kZ:b)(h:HidB b→a:=by intro kZ;refine sX ?_;refine DJq_6 ?_;refine exI ?_;exact kZ.out):a:=h ⟨kZ⟩
theorem sX0Jq_8(kZ:b)(h:HidB b→a:=by intro kZ;refine sX0 ?_;refine DJq_6 ?_;refine exI ?_;exact kZ.out):a:=h ⟨kZ⟩
theorem y1x(kZ:b)(h:HidB b→a:=by intro kZ;refine sX ?_;refine DJq_0 ?_;exact kZ.out):a:=h ⟨kZ⟩
theorem y1y(kZ:b)(h:HidB b→a:=by intro kZ;refine sXT ?_;refine DJq_0 ?_;exact kZ.out):a:=h ⟨kZ⟩
theorem zgl(kZ:b)(h:HidB b→a:=by intro kZ;refine gX ?_;refine DJq_0 ?_;exact kZ.out):a:=h ⟨kZ⟩
theorem sXEJq_12(kZ:b)(h:HidB b→a:=by intro kZ;refine sX ?_;refine DJq_6 ?_;exact kZ.out):a:=h ⟨kZ⟩
end
open Go.Aut
theorem prR_can{op:Bool→Bool→Bool}{d e:Dfa}(hd:d.good)(he:e.good):canD ((tblT (prR op (tabD d) (tabD e))).lang 0)=canD (combB op d e):=z37 fun w hw=>by
  rw[prR_lang (z26 hd.1) (z26 he.1) hw,z38 d 0 hw,z38 e 0 hw];rfl
theorem holds_0:z3y 0=fun x y=>x&&y:=by funext x y;rfl
attribute [local irreducible] z0s z12 zl z02 z11 putB rt rzl cbK canD prR z39
noncomputable def gj9:Ctx:={ P:=Tryd.prog,ty:=ty,glob:=gl,fs:=[(32,.flat zba),(96,.data ofRS),(105,.data zj5),(103,.data y1r)] }
theorem zfq:gj9.OK:=⟨tyOK,⟨⟨z08 Tryd.func32 kR rfl,z8p⟩,⟨z08 Tryd.func96 kR rfl,zty⟩,⟨z08 Tryd.func105 kR rfl,zj6⟩,⟨z08 Tryd.func103 kR rfl,y1s⟩,trivial⟩,mixed⟩
@[simp] theorem gj9_ty:gj9.ty=ty:=rfl

def zoz:QSpec:=fun vs K=>∃ (op:Int) (d e:Dfa),vs=[dfaV d,dfaV e,.c (.int .i64 op)]∧(d.wf∧e.wf)∧K (resV (combR (z3y op) d e))
theorem zri:z1w Tryd.prog gl 93 zoz:=by
 refine z1c (Γ:=gj9) (N:=26) Tryd.func93 rfl rfl fun vs K h=>?_;obtain⟨op,d,e,rfl,⟨hd,he⟩,h⟩:=h;refine⟨_,h,z10 _,by simp,fun w I=>?_⟩;refine srR zfq fun _ K2=>?_
 iterate 4 refine zdg ?_
 refine s_n K2 ?_;refine seq_k fun _ K3=>?_;refine srR zfq fun _ K5=>?_;refine zdg ?_;refine y1x ?_;refine⟨d,rfl,hd,?_⟩;refine DJq_0 ?_
 first|refine exI ?_|(intro cap1 hcap1;refine exI ?_)
 refine zdg ?_;refine y1x ?_;refine exB (fun hb3=>?_) (fun hb3=>?_)
 ·try simp only[dQ,reduceIte]at hb3
  iterate 3 refine sN ?_
  refine zdg ?_;refine s_n K5 ?_;refine z09 (b:=_) rfl (fun _=>?_) (fun h_t15=>?_)
  rotate_left 1
  ·exfalso;simp at h_t15
  refine srR zfq fun _ K7=>?_;refine zdg ?_;refine y1u ?_;refine zdg ?_;refine s_n K7 ?_
  have hno:¬ (z0w d=true∧z0w e=true):=by
   rw[←z2m hd, ←z2m he];intro hh;simp_all
  rw[combR,if_neg hno];refine z0g (z0k zfq (fun _ _ h=>h) (z10 _) [] [.cell 6 30,.tmp 7] rfl ?_)
  repeat first|refine aI (by first|exact trivial|rfl|exact⟨rfl,rfl⟩|decide) ?_|refine z04 (by first|rfl|decide) ?_|refine z03 (by first|rfl|decide) ?_
  all_goals exact uJq_0
 ·try simp only[dQ,reduceIte]at hb3
  refine y1v ?_;refine y1y ?_;refine⟨e,rfl,he,?_⟩;refine DJq_0 ?_
  first|refine exI ?_|(intro cap5 hcap5;refine exI ?_)
  refine y1v ?_;refine zdg ?_;refine s_n K5 ?_;refine z09 (b:=_) rfl (fun h_t15=>?_) (fun h_t15=>?_)
  ·try simp only[dQ,reduceIte]at h_t15
   refine srR zfq fun _ K9=>?_;refine zdg ?_;refine y1u ?_;refine zdg ?_;refine s_n K9 ?_
   have hno:¬ (z0w d=true∧z0w e=true):=by
    rw[←z2m hd, ←z2m he];intro hh;simp_all
   rw[combR,if_neg hno];refine z0g (z0k zfq (fun _ _ h=>h) (z10 _) [] [.cell 6 30,.tmp 7] rfl ?_)
   repeat first|refine aI (by first|exact trivial|rfl|exact⟨rfl,rfl⟩|decide) ?_|refine z04 (by first|rfl|decide) ?_|refine z03 (by first|rfl|decide) ?_
   all_goals exact uJq_0
  ·try simp only[dQ,reduceIte]at h_t15
   refine z0b ?_;apply K3
   have hvd:z0w d=true:=(z2m hd).symm.trans (by simp_all)
   have hve:z0w e=true:=(z2m he).symm.trans (by simp_all)
   have hgd:=(z1e hd).1 hvd
   have hge:=(z1e he).1 hve
   have hfd:=z14 hgd
   have hfe:=z14 hge
   have hpf:=prR_fit (op:=z3y op) hfd hfe ⟨hgd.2,hge.2⟩
   refine srD zfq [(0,true),(2,true),(4,true),(1,false),(3,false),(5,false),(6,false),(7,true),(8,true),(9,false),(10,true)] rfl kR kR fun _ K11=>?_
   iterate 3 refine y1w ?_
   refine zgl ?_;refine⟨d,rfl,hgd.1,?_⟩;refine DJq_0 ?_
   first|refine exI ?_|(intro cap1 hcap1;refine exI ?_)
   refine zgl ?_;refine⟨e,rfl,hge.1,?_⟩;refine DJq_0 ?_
   first|refine exI ?_|(intro cap3 hcap3;refine exI ?_)
   refine zgl ?_;refine aI (z33 (tabD d)) ?_;refine z48 (tabD d) ?_;refine aI (z33 (tabD e)) ?_;refine z48 (tabD e) ?_;refine⟨op,tabD d,tabD e,rfl,⟨hfd,hfe,hgd.2,hge.2⟩,?_⟩
   simp only[z6o]
   refine DJq_0 ?_
   first|refine exI ?_|(intro cap5 hcap5;refine exI ?_)
   refine zgl ?_;refine aI (z33 (prR (z3y op) (tabD d) (tabD e))) ?_;refine z48 (prR (z3y op) (tabD d) (tabD e)) ?_;refine⟨_,rfl,hpf,?_⟩;rw[prR_can hgd hge]
   simp only[z6o]
   refine DJq_0 ?_
   first|refine exI ?_|(intro cap6 hcap6;refine exI ?_)
   iterate 2 refine y1w ?_
   refine gX0Jq_5 ?_;refine y1w ?_;refine d_n K11 ?_
   have hyes:z0w d=true∧z0w e=true:=⟨hvd,hve⟩
   rw[combR,if_pos hyes];refine z0g (z0k zfq (fun _ _ h=>h) (z10 _) [] [.cell 6 30,.tmp 7] rfl ?_)
   repeat first|refine aI (by first|exact trivial|rfl|exact⟨rfl,rfl⟩|decide) ?_|refine z04 (by first|rfl|decide) ?_|refine z03 (by first|rfl|decide) ?_
   all_goals exact uJq_0

noncomputable def gja:Ctx:={ P:=Tryd.prog,ty:=ty,glob:=gl,fs:=[(93,.data zoz)] }
theorem y1z:gja.OK:=⟨tyOK,⟨⟨z08 Tryd.func93 kR rfl,zri⟩,trivial⟩,mixed⟩
@[simp] theorem gja_ty:gja.ty=ty:=rfl

def andR3S:QSpec:=fun vs K=>∃ d e:Dfa,vs=[dfaV d,dfaV e]∧(d.wf∧e.wf)∧K (resV (combR (fun x y=>x&&y) d e))
theorem andR3_ok:z1w Tryd.prog gl 37 andR3S:=by
 refine z1c (Γ:=gja) (N:=11) Tryd.func37 rfl rfl fun vs K h=>?_;obtain⟨d,e,rfl,⟨hd,he⟩,h⟩:=h;refine⟨_,h,z10 _,by simp,fun w I=>?_⟩;refine srR y1z fun _ K2=>?_
 iterate 4 refine zu5 ?_
 refine s_n K2 ?_;refine srR y1z fun _ K4=>?_
 iterate 2 refine zu5 ?_
 refine sXEJq_12 ?_;refine⟨0,d,e,rfl,⟨hd,he⟩,?_⟩;rw[holds_0];refine DJq_6 ?_
 first|refine exI ?_|(intro cap2 hcap2;refine exI ?_)
 iterate 2 refine zu5 ?_
 refine sX0Jq_8 ?_;refine zu5 ?_;refine s_n K4 ?_;refine z0g (z0k y1z (fun _ _ h=>h) (z10 _) [] [.cell 4 30,.tmp 5] rfl ?_)
 repeat first|refine aI (by first|exact trivial|rfl|exact⟨rfl,rfl⟩|decide) ?_|refine z04 (by first|rfl|decide) ?_|refine z03 (by first|rfl|decide) ?_
 all_goals exact uJq_0

end Go.Proofs.YtppmnaoollkboaaDoor
