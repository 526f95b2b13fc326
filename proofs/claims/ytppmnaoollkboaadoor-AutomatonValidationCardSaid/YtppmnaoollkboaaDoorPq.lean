/- Part 17 of what the claims of this seat share: the walk's engine, the functions' contracts, plain mathematics (Je, Jf). -/
import Derived.Test.YtppmnaoollkboaaDoorPp
import Derived.Test.YtppmnaoollkboaaDoorPl
import Derived.Test.YtppmnaoollkboaaDoorPj
set_option maxHeartbeats 2000000
set_option maxRecDepth 4000
namespace Go.Proofs.YtppmnaoollkboaaDoor
set_option linter.all false
open Go.Ab Go.RowKit

open Go.Aut
def z3y(k:Int)(x y:Bool):Bool:=if k=0 then x&&y else if k=1 then x||y else if k=2 then x&& !y else x !=y
attribute [local irreducible] z0s z12 zl z02 z11 putB rt rzl cbK
def y14:QSpec:=fun vs K=>∃ (k:Int) (x y:Bool),vs=[.c (.int .i64 k),.c (.bool x),.c (.bool y)]∧K (.c (.bool (z3y k x y)))
theorem y15:z19 Tryd.prog gl 150 y14:=by
 refine z1d (Γ:=g0) (N:=30) Tryd.func150 rfl rfl fun vs K h=>?_;obtain⟨k,x,y,rfl,h⟩:=h;refine⟨_,h,rfl,by simp,fun w I=>?_⟩;refine srR g0_ok fun _ K2=>?_;refine zcz ?_;refine s_n K2 ?_;refine seq_k fun _ K3=>?_;refine srR g0_ok fun _ K5=>?_;refine zcz ?_;refine s_n K5 ?_;refine z07 ?_;refine srR g0_ok fun _ K7=>?_
 iterate 2 refine zcz ?_
 refine s_n K7 ?_;refine z09 (b:=_) rfl (fun h_t8=>?_) (fun h_t8=>?_)
 ·try simp only[dQ,reduceIte]at h_t8
  refine srR g0_ok fun _ K9=>?_;refine zcz ?_;refine sXEUf_12 ?_;refine exB (fun hb1=>?_) (fun hb1=>?_)
  ·try simp only[dQ,reduceIte]at hb1
   refine sXTUtc_2 ?_
   iterate 2 refine zcz ?_
   refine s_n K9 ?_;refine z0g (z0d g0_ok (fun _ _ h=>h) (by first|rfl|assumption) [.tmp 6] rfl ?_);refine rtD ?_
   show SV.c (.bool _)=_
   rw[z3y,if_pos h_t8]
   first|rfl|(rw[hb1];rfl)|(simp[hb1];done)|(cases x<;>cases y<;>rfl)
  ·try simp only[dQ,reduceIte]at hb1
   refine sN ?_
   iterate 2 refine zcz ?_
   refine s_n K9 ?_;refine z0g (z0d g0_ok (fun _ _ h=>h) (by first|rfl|assumption) [.tmp 6] rfl ?_);refine rtD ?_
   show SV.c (.bool _)=_
   rw[z3y,if_pos h_t8]
   first|rfl|(rw[hb1];rfl)|(simp[hb1];done)|(cases x<;>cases y<;>rfl)
 ·try simp only[dQ,reduceIte]at h_t8
  refine srR g0_ok fun _ K11=>?_
  iterate 2 refine zcz ?_
  refine s_n K11 ?_;refine z09 (b:=_) rfl (fun h_t14=>?_) (fun h_t14=>?_)
  ·try simp only[dQ,reduceIte]at h_t14
   refine srR g0_ok fun _ K13=>?_;refine zcz ?_;refine sXEUf_12 ?_;refine exB (fun hb1=>?_) (fun hb1=>?_)
   ·try simp only[dQ,reduceIte]at hb1
    refine sN ?_
    iterate 2 refine zcz ?_
    refine s_n K13 ?_;refine z0g (z0d g0_ok (fun _ _ h=>h) (by first|rfl|assumption) [.tmp 6] rfl ?_);refine rtD ?_
    show SV.c (.bool _)=_
    rw[z3y,if_neg h_t8,if_pos h_t14]
    first|rfl|(rw[hb1];rfl)|(simp[hb1];done)|(cases x<;>cases y<;>rfl)
   ·try simp only[dQ,reduceIte]at hb1
    refine sXTUtc_2 ?_
    iterate 2 refine zcz ?_
    refine s_n K13 ?_;refine z0g (z0d g0_ok (fun _ _ h=>h) (by first|rfl|assumption) [.tmp 6] rfl ?_);refine rtD ?_
    show SV.c (.bool _)=_
    rw[z3y,if_neg h_t8,if_pos h_t14]
    first|rfl|(rw[hb1];rfl)|(simp[hb1];done)|(cases x<;>cases y<;>rfl)
  ·try simp only[dQ,reduceIte]at h_t14
   refine srR g0_ok fun _ K15=>?_
   iterate 2 refine zcz ?_
   refine s_n K15 ?_;refine z09 (b:=_) rfl (fun h_t20=>?_) (fun h_t20=>?_)
   ·try simp only[dQ,reduceIte]at h_t20
    refine srR g0_ok fun _ K17=>?_;refine zcz ?_;refine sXEUf_12 ?_;refine exB (fun hb1=>?_) (fun hb1=>?_)
    ·try simp only[dQ,reduceIte]at hb1
     iterate 2 refine sXTUtc_2 ?_
     iterate 2 refine zcz ?_
     refine s_n K17 ?_;refine z0g (z0d g0_ok (fun _ _ h=>h) (by first|rfl|assumption) [.tmp 6] rfl ?_);refine rtD ?_
     show SV.c (.bool _)=_
     rw[z3y,if_neg h_t8,if_neg h_t14,if_pos h_t20]
     first|rfl|(rw[hb1];rfl)|(simp[hb1];done)|(cases x<;>cases y<;>rfl)
    ·try simp only[dQ,reduceIte]at hb1
     iterate 2 refine sN ?_
     iterate 2 refine zcz ?_
     refine s_n K17 ?_;refine z0g (z0d g0_ok (fun _ _ h=>h) (by first|rfl|assumption) [.tmp 6] rfl ?_);refine rtD ?_
     show SV.c (.bool _)=_
     rw[z3y,if_neg h_t8,if_neg h_t14,if_pos h_t20]
     first|rfl|(rw[hb1];rfl)|(simp[hb1];done)|(cases x<;>cases y<;>rfl)
   ·try simp only[dQ,reduceIte]at h_t20
    refine z0b ?_;refine z0a ?_;apply K3;refine srR g0_ok fun _ K19=>?_
    iterate 4 refine zcz ?_
    refine s_n K19 ?_;refine z0g (z0d g0_ok (fun _ _ h=>h) (by first|rfl|assumption) [.tmp 6] rfl ?_);refine rtD ?_
    show SV.c (.bool _)=_
    rw[z3y,if_neg h_t8,if_neg h_t14,if_neg h_t20]
    first|rfl|(rw[hb1];rfl)|(simp[hb1];done)|(cases x<;>cases y<;>rfl)

end Go.Proofs.YtppmnaoollkboaaDoor

namespace Go.Proofs.YtppmnaoollkboaaDoor
set_option linter.all false
open Go.Ab Go.RowKit

section
variable {a b:Prop}
theorem qJf0(h:a:=by first|exact vcA|(simp[-List.reduceReplicate]<;>omega)|exact vRa|exact vRb|(simp only[z0e];omega)|(simp only[z0v,z0e];omega)|(simp only[z0v,z0h];omega)|exact⟨by omega,by omega,trivial,trivial⟩|(show(List.replicate 256 (0:Int)).length=(jL _ _ _).length;rw[z0h,List.length_replicate])|(show 256=(jL _ _ _).length;rw[z0h])|(show 0< (jL _ _ _).length;rw[z0h];decide)|(show 0+(jL _ _ _).length≤(List.replicate 256 (0:Int)).length;rw[z0h,List.length_replicate];decide)|(show 0+256*1≤(jL _ _ _).length;rw[z0h];decide)|(show(jL _ _ _).length=256*1;rw[z0h])|exact vcB):a:=h
theorem uJf_0(h:a:=by
    repeat' (first|exact pJ|exact pT|exact trivial|refine aI ?_ ?_|exact cC0|refine low_cons' ?_ ?_|exact cC1|fail)
    all_goals first|omega|(show(0:Nat)< (rt _ _ _).length;rw[z05 ha.1.clen];decide)|(show Cont.low _ (Cont.cells (List.replicate 256 _++_));exact z3v)|(show(0:Nat)< (rt _ _ _).length;rw[z05 hb.1.clen];decide)|(show(_:List Int)=_;exact(zze a b))|(show(_:List Int)=_;exact hX1)|(show(_:List Int)=_;exact hX2)|(show(_:List Int)=_;rw[hX2];done)|exact hXL|(rw[hXL];done)|(rw[z0h];done)|(show _=(jL _ _ _).length;rw[z0h])|(show(natsI _).length=_;rw[z0e];omega)|(show(_:List Int)=natsI _;rfl)|(simp[-List.reduceReplicate];done)|(show(0:Nat)< (z02 _ _ _ _).length;rw[z00 hcl];decide)|(simp[-List.reduceReplicate];done)|(simp[-List.reduceReplicate]<;>omega)|skip):a:=h
theorem DJf_0(kZ:b)(h:HidB b→a:=by intro kZ;(repeat first|refine aI qJf0 ?_|refine z04 qJf0 ?_|refine z03 qJf0 ?_|refine z0m qJf0 ?_|refine z0c ?_);exact kZ.out):a:=h ⟨kZ⟩
theorem z49(kZ:b)(h:HidB b→a:=by intro kZ;refine sX ?_;refine DJf_0 ?_;refine exI ?_;exact kZ.out):a:=h ⟨kZ⟩
theorem zmd(kZ:b)(h:HidB b→a:=by intro kZ;refine sX0 ?_;refine DJf_0 ?_;refine exI ?_;exact kZ.out):a:=h ⟨kZ⟩
theorem sXTJf_3(kZ:b)(h:HidB b→a:=by intro kZ;refine sXT ?_;refine DJf_0 ?_;refine exI ?_;exact kZ.out):a:=h ⟨kZ⟩
theorem zki(kZ:b)(h:HidB b→a:=by intro kZ;refine qX ?_;refine DJf_0 ?_;refine exI ?_;exact kZ.out):a:=h ⟨kZ⟩
theorem zme(kZ:b)(h:HidB b→a:=by intro kZ;refine qXT ?_;refine DJf_0 ?_;refine exI ?_;exact kZ.out):a:=h ⟨kZ⟩
theorem y16(kZ:b)(h:HidB b→a:=by intro kZ;refine sX ?_;refine DJf_0 ?_;exact kZ.out):a:=h ⟨kZ⟩
theorem zmf(kZ:b)(h:HidB b→a:=by intro kZ;refine qX ?_;refine DJf_0 ?_;exact kZ.out):a:=h ⟨kZ⟩
theorem zmg(kZ:b)(h:HidB b→a:=by intro kZ;refine qXT ?_;refine DJf_0 ?_;exact kZ.out):a:=h ⟨kZ⟩
end
open Go.Aut
def jInv(a b:Tab)(x i id:Nat):Prop:=(id=(jR a b x).length∧i≤(jR a b x).length∧∀ j,j< i→jk a b ((jR a b x).getD j 0)≠jk a b x)∨(id< (jR a b x).length∧i≤(jR a b x).length∧jk a b ((jR a b x).getD id 0)=jk a b x)
theorem low_jr(a b:Tab):SV.low 0 (.tup [.agg (.ints .i64 (jL a b 256)),.c (.ds (jR a b 256).length (.ints .i64 (natsI (jR a b 256))))]):=List.forall_mem_cons.2 ⟨trivial,List.forall_mem_cons.2 ⟨trivial,fun _ h=>by cases h⟩⟩
theorem jR_lt{a b:Tab}{x j:Nat}(hj:j< (jR a b x).length):(jR a b x).getD j 0< x:=by
  have:=z8c (key:=jk a b) (l:=List.range x) (x:=(jR a b x).getD j 0) (getD_mem' hj)
  exact List.mem_range.1 this
theorem jK_map(a b:Tab)(x:Nat):(jR a b x).map (jk a b)=jK a b x:=z5y _
theorem jInv_no{a b:Tab}{x i id:Nat}(hx:x< 256)(h:jInv a b x i id)(he:id=(jR a b x).length)(hi:(jR a b x).length≤i):jk a b x∉jK a b x:=by
  rcases h with⟨_,_,h⟩|⟨h,_⟩
  · intro hm
    rw[←jK_map]at hm;obtain⟨y,hy,e⟩:=List.mem_map.1 hm;obtain⟨j,hj,e2⟩:=List.getElem_of_mem hy;refine h j (by omega) ?_;rw[z43 hj,e2];exact e
  · omega
theorem jInv_yes{a b:Tab}{x i id:Nat}(hx:x< 256)(h:jInv a b x i id)(he:id< (jR a b x).length):jk a b x∈jK a b x∧idxK (jK a b x) (jk a b x)=id:=by
  rcases h with⟨h,_⟩|⟨_,_,h⟩
  · omega
  · have hg:(jK a b x)[id]? =some (jk a b x):=by
      rw[←jK_map,List.getElem?_map,List.getElem?_eq_getElem he, ←h,z43 he];rfl
    exact⟨List.mem_of_getElem? hg,zbs (z3l _) hg⟩
attribute [local irreducible] z0s z12 zl z02 z11 putB rt rzl cbK jL jcell jrep
def y17:QSpec:=fun vs K=>∃ a b:Tab,vs=[rtV a,rtV b]∧(a.fit∧b.fit)∧K (.tup [.agg (.ints .i64 (jL a b 256)),.c (.ds (jR a b 256).length (.ints .i64 (natsI (jR a b 256))))])
theorem y18 :z1w Tryd.prog gl 98 y17:=by
 refine z1c (Γ:=g0) (N:=71) Tryd.func98 rfl rfl fun vs K h=>?_;obtain⟨a,b,rfl,⟨ha,hb⟩,h⟩:=h;refine⟨_,h,low_jr a b,by simp,fun w I=>?_⟩;refine srR g0_ok fun _ K2=>?_
 iterate 4 refine z49 ?_
 refine s_n K2 ?_;refine srR g0_ok fun _ K4=>?_
 iterate 2 refine z49 ?_
 refine zmd ?_;refine s_n K4 ?_;refine srR g0_ok fun _ K6=>?_
 iterate 2 refine z49 ?_
 refine s_n K6 ?_;refine seq_k fun _ K7=>?_;refine srR g0_ok fun _ K9=>?_;refine z49 ?_;refine s_n K9 ?_;refine z07 ?_;refine z0q (α:=Nat×Nat) (fun q=>[(2,.c (.dp (rtC a) 0)),(3,.c (.dp (rtC b) 0)),(4,.c (.ptr 0 0)),(6,.c (.ptr 1 0)),(7,.c (.slice 2 0 (jR a b q.1).length q.2)),(8,.c (.int .i64 (q.1:Nat)))]) (fun q=>[(0,.own 85 (.ints .i64 (List.replicate 256 0)) 256),(1,.own 85 (.ints .i64 (jL a b q.1)) 256),(2,.own 3 (.ints .i64 (natsI (jR a b q.1))) q.2)]) 3 (fun q=>q.1≤256∧(jR a b q.1).length≤q.2) (fun q=>256 - q.1) ?_ ?_
 ·refine dnS [0,1] (fun i=>i+2) (0,0) ⟨Nat.zero_le _,Nat.le_refl _⟩ [2,3,4] uJf_0 uJf_0 uJf_0 uJf_0
 ·intro q hq
  refine seq_k fun _ K10=>?_;refine srR g0_ok fun _ K12=>?_
  iterate 2 refine z49 ?_
  refine s_n K12 ?_;refine z09 (b:=_) rfl (fun h_t14=>?_) (fun h_t14=>?_)
  ·try simp only[dQ,reduceIte]at h_t14
   refine z0b ?_;apply K10;refine seq_k fun _ K13=>?_;refine z07 ?_;refine srR g0_ok fun _ K15=>?_
   iterate 3 refine z49 ?_
   refine s_n K15 ?_;refine z9s (α:=Nat×Nat) (fun p=>[(2,.c (.dp (rtC a) 0)),(3,.c (.dp (rtC b) 0)),(4,.c (.ptr 0 0)),(6,.c (.ptr 1 0)),(7,.c (.slice 2 0 (jR a b q.1).length q.2)),(8,.c (.int .i64 (q.1:Nat))),(9,.c (.int .i64 (p.2:Nat))),(10,.c (.int .i64 (p.1:Nat)))]) (fun p=>[(0,.own 85 (.ints .i64 (List.replicate 256 0)) 256),(1,.own 85 (.ints .i64 (jL a b q.1)) 256),(2,.own 3 (.ints .i64 (natsI (jR a b q.1))) q.2)]) 3 (fun p=>jInv a b q.1 p.1 p.2∧(p.2=(jR a b q.1).length→(jR a b q.1).length≤p.1)) ?_ ?_
   ·refine srR g0_ok fun _ K17=>?_
    refine z49 ?_;refine s_n K17 ?_;refine z07 ?_;refine z0q (α:=Nat×Nat) (fun p=>[(2,.c (.dp (rtC a) 0)),(3,.c (.dp (rtC b) 0)),(4,.c (.ptr 0 0)),(6,.c (.ptr 1 0)),(7,.c (.slice 2 0 (jR a b q.1).length q.2)),(8,.c (.int .i64 (q.1:Nat))),(9,.c (.int .i64 (p.2:Nat))),(10,.c (.int .i64 (p.1:Nat)))]) (fun p=>[(0,.own 85 (.ints .i64 (List.replicate 256 0)) 256),(1,.own 85 (.ints .i64 (jL a b q.1)) 256),(2,.own 3 (.ints .i64 (natsI (jR a b q.1))) q.2)]) 3 (fun p=>jInv a b q.1 p.1 p.2) (fun p=>(jR a b q.1).length - p.1) ?_ ?_
    ·refine dnS [] id (0,(jR a b q.1).length) (.inl ⟨rfl,Nat.zero_le _,fun j hj=>absurd hj (Nat.not_lt_zero j)⟩) [0,1,2] uJf_0 uJf_0 uJf_0 uJf_0
    ·intro p hp
     refine seq_k fun _ K18=>?_;refine srR g0_ok fun _ K20=>?_
     iterate 4 refine z49 ?_
     refine y16 ?_;refine exB (fun hb4=>?_) (fun hb4=>?_)
     ·try simp only[dQ,reduceIte]at hb4
      iterate 4 refine sXTJf_3 ?_
      refine z49 ?_;refine s_n K20 ?_;refine z09 (b:=_) rfl (fun h_t28=>?_) (fun h_t28=>?_)
      ·try simp only[dQ,reduceIte]at h_t28
       refine z0b ?_;apply K18;refine seq_k fun _ K21=>?_;refine z07 ?_
       have hpi:p.1< (jR a b q.1).length:=by omega
       have hpl:=jR_lt hpi
       have hq256:q.1< 256:=by omega
       have hp256:(jR a b q.1).getD p.1 0< 256:=by omega
       have hrl9:=zte a b q.1
       refine srQ g0_ok kR fun _ K23=>?_
       iterate 3 refine zki ?_
       refine zmf ?_;refine exA (.c (.int .i64 ((cN a q.1:Nat):Int))) (as_c ((z54 ha.1.clen (by first|omega|(simp;done)) hq256).trans (congrArg (Cell.int IntKind.i64) (cellN ha.1 hq256).2))) ?_
       iterate 3 refine zki ?_
       refine zmf ?_;refine exA (.c (.int .i64 ((((jR a b q.1).getD p.1 0:Nat):Int)))) (as_i ((congrArg (fun i=>(natsI (jR a b q.1)).getD i 0) (by omega)).trans z0r)) ?_
       iterate 2 refine zki ?_
       refine zmf ?_;refine exA (.c (.int .i64 ((cN a ((jR a b q.1).getD p.1 0):Nat):Int))) (as_c ((z54 ha.1.clen (by first|omega|(simp;done)) hp256).trans (congrArg (Cell.int IntKind.i64) (cellN ha.1 hp256).2))) ?_;refine zki ?_;refine zmf ?_;refine exB (fun hb12=>?_) (fun hb12=>?_)
       ·try simp only[dQ,reduceIte]at hb12
        iterate 3 refine zme ?_
        refine zmg ?_;refine exA (.c (.int .i64 ((cN b q.1:Nat):Int))) (as_c ((z54 hb.1.clen (by first|omega|(simp;done)) hq256).trans (congrArg (Cell.int IntKind.i64) (cellN hb.1 hq256).2))) ?_
        iterate 3 refine zme ?_
        refine zmg ?_;refine exA (.c (.int .i64 ((((jR a b q.1).getD p.1 0:Nat):Int)))) (as_i ((congrArg (fun i=>(natsI (jR a b q.1)).getD i 0) (by omega)).trans z0r)) ?_
        iterate 2 refine zme ?_
        refine zmg ?_;refine exA (.c (.int .i64 ((cN b ((jR a b q.1).getD p.1 0):Nat):Int))) (as_c ((z54 hb.1.clen (by first|omega|(simp;done)) hp256).trans (congrArg (Cell.int IntKind.i64) (cellN hb.1 hp256).2))) ?_;refine zme ?_;refine zki ?_;refine q_n K23 ?_;refine z09 (b:=_) rfl (fun h_t56=>?_) (fun h_t56=>?_)
        ·try simp only[dQ,reduceIte]at h_t56
         refine z06 g0_ok fun _ K24=>?_
         iterate 2 refine z49 ?_
         refine s_n K24 ?_;refine z0a ?_;apply K21;refine z06 g0_ok fun _ K25=>?_
         iterate 3 refine z49 ?_
         refine s_n K25 ?_
         have hhit:jk a b ((jR a b q.1).getD p.1 0)=jk a b q.1:=by
          have e1:cN a q.1=cN a ((jR a b q.1).getD p.1 0):=by omega
          have e2:cN b q.1=cN b ((jR a b q.1).getD p.1 0):=by first|omega|(simp[hb12]at h_t56;omega)
          exact Prod.ext e1.symm e2.symm
         refine dnS [] id (p.1+1,p.1) ⟨.inr ⟨hpi,by omega,hhit⟩,by omega⟩ [0,1,2] uJf_0 uJf_0 uJf_0 uJf_0
        ·try simp only[dQ,reduceIte]at h_t56
         refine z0b ?_;refine z0a ?_;apply K21;refine z06 g0_ok fun _ K26=>?_
         iterate 3 refine z49 ?_
         refine s_n K26 ?_
         have hmiss:jInv a b q.1 (p.1+1) p.2:=by
          rcases hp with⟨e,hi,hno⟩|⟨e,_⟩
          ·refine .inl ⟨e,by omega,fun j hj=>?_⟩
           rcases Nat.lt_succ_iff_lt_or_eq.1 hj with h1|h1
           ·exact hno j h1
           ·subst h1
            intro hk
            have e1:cN a ((jR a b q.1).getD p.1 0)=cN a q.1:=congrArg Prod.fst hk
            have e2:cN b ((jR a b q.1).getD p.1 0)=cN b q.1:=congrArg Prod.snd hk
            first|omega|(simp[hb12]at h_t56;omega)
          ·omega
         refine dnS [] id (p.1+1,p.2) ⟨hmiss,by omega⟩ [0,1,2] uJf_0 uJf_0 uJf_0 uJf_0
       ·try simp only[dQ,reduceIte]at hb12
        iterate 12 refine qN ?_
        refine zki ?_;refine q_n K23 ?_;refine z09 (b:=_) rfl (fun h_t56=>?_) (fun _=>?_)
        ·exfalso;simp at h_t56
        refine z0b ?_;refine z0a ?_;apply K21;refine z06 g0_ok fun _ K27=>?_
        iterate 3 refine z49 ?_
        refine s_n K27 ?_
        have hmiss:jInv a b q.1 (p.1+1) p.2:=by
         rcases hp with⟨e,hi,hno⟩|⟨e,_⟩
         ·refine .inl ⟨e,by omega,fun j hj=>?_⟩
          rcases Nat.lt_succ_iff_lt_or_eq.1 hj with h1|h1
          ·exact hno j h1
          ·subst h1
           intro hk
           have e1:cN a ((jR a b q.1).getD p.1 0)=cN a q.1:=congrArg Prod.fst hk
           have e2:cN b ((jR a b q.1).getD p.1 0)=cN b q.1:=congrArg Prod.snd hk
           first|omega|(simp[hb12]at h_t56;omega)
         ·omega
        refine dnS [] id (p.1+1,p.2) ⟨hmiss,by omega⟩ [0,1,2] uJf_0 uJf_0 uJf_0 uJf_0
      ·try simp only[dQ,reduceIte]at h_t28
       refine z0o ?_;refine z01 ?_;refine z01 ?_;refine z0j ?_;refine dnS [] id p ⟨hp,fun e=>by omega⟩ [0,1,2] uJf_0 uJf_0 uJf_0 uJf_0
     ·try simp only[dQ,reduceIte]at hb4
      iterate 4 refine sN ?_
      refine z49 ?_;refine s_n K20 ?_;refine z09 (b:=_) rfl (fun h_t28=>?_) (fun _=>?_)
      ·exfalso;simp at h_t28
      refine z0o ?_;refine z01 ?_;refine z01 ?_;refine z0j ?_;refine dnS [] id p ⟨hp,fun e=>by omega⟩ [0,1,2] uJf_0 uJf_0 uJf_0 uJf_0
   ·intro p hp0
    obtain⟨hp,hpe⟩:=hp0;refine seq_k fun _ K28=>?_
    have hq256:q.1< 256:=by omega
    have hrl:=zte a b q.1
    refine srR g0_ok fun _ K30=>?_
    iterate 4 refine z49 ?_
    refine s_n K30 ?_;refine z09 (b:=_) rfl (fun h_t61=>?_) (fun h_t61=>?_)
    ·try simp only[dQ,reduceIte]at h_t61
     refine z06 g0_ok fun _ K31=>?_
     iterate 3 refine z49 ?_
     refine y16 ?_;intro cap3 hcap3;refine exI ?_;refine z49 ?_;refine s_n K31 ?_;apply K28
     have hset:(0+((q.1:Nat):Int).toNat*1)=q.1:=by omega
     refine z06 g0_ok fun _ K32=>?_
     iterate 3 refine z49 ?_
     refine zmd ?_;refine s_n K32 ?_;refine z0a ?_;apply K13;refine z06 g0_ok fun _ K33=>?_
     iterate 3 refine z49 ?_
     refine s_n K33 ?_
     have he9:p.2=(jR a b q.1).length:=by omega
     have hno:=jInv_no hq256 hp he9 (hpe he9)
     obtain⟨_,hR,hC⟩:=j_no hq256 hno
     have hX1:(jL a b q.1).set (0+((q.1:Nat):Int).toNat*1) ((p.2:Nat):Int)=jL a b (q.1+1):=by rw[hset,show p.2=jcell (cN a) (cN b) q.1 by rw[hC];omega];exact ztc hq256
     have hX2:natsI (jR a b q.1)++([]++[((q.1:Nat):Int)])=natsI (jR a b (q.1+1)):=by rw[hR,List.nil_append];exact z2r _ _
     have hXL:(jR a b q.1).length+1=(jR a b (q.1+1)).length:=by rw[hR,List.length_append];rfl
     refine dnS [] (fun i=>if i=2 then 4 else i) (q.1+1,cap3) ⟨⟨by omega,by rw[←hXL];omega⟩,by omega⟩ [0,1,4] ?_ ?_ ?_ ?_
     ·exact uJf_0
     ·exact uJf_0
     ·exact uJf_0
     ·exact uJf_0
    ·try simp only[dQ,reduceIte]at h_t61
     refine z0b ?_;apply K28
     have hset:(0+((q.1:Nat):Int).toNat*1)=q.1:=by omega
     refine z06 g0_ok fun _ K34=>?_
     iterate 3 refine z49 ?_
     refine zmd ?_;refine s_n K34 ?_;refine z0a ?_;apply K13;refine z06 g0_ok fun _ K35=>?_
     iterate 3 refine z49 ?_
     refine s_n K35 ?_
     have hlt9:p.2< (jR a b q.1).length:=by rcases hp with⟨e,_⟩|⟨e,_⟩<;>omega
     obtain⟨hyes,hid⟩:=jInv_yes hq256 hp hlt9;obtain⟨_,hR,hC⟩:=j_yes hq256 hyes
     have hX1:(jL a b q.1).set (0+((q.1:Nat):Int).toNat*1) ((p.2:Nat):Int)=jL a b (q.1+1):=by rw[hset,show p.2=jcell (cN a) (cN b) q.1 by rw[hC,hid]];exact ztc hq256
     have hX2:natsI (jR a b q.1)=natsI (jR a b (q.1+1)):=by rw[hR]
     have hXL:(jR a b q.1).length=(jR a b (q.1+1)).length:=by rw[hR]
     refine dnS [] id (q.1+1,q.2) ⟨⟨by omega,by rw[←hXL];omega⟩,by omega⟩ [0,1,2] ?_ ?_ ?_ ?_
     ·exact uJf_0
     ·exact uJf_0
     ·exact uJf_0
     ·exact uJf_0
  ·try simp only[dQ,reduceIte]at h_t14
   refine z0o ?_;refine z01 ?_;refine z01 ?_;refine z0j ?_;apply K7;refine srR g0_ok fun _ K37=>?_
   iterate 2 refine z49 ?_
   refine zmd ?_;refine z49 ?_;refine s_n K37 ?_
   obtain hq9:q.1=256:=by omega
   rw[hq9];refine z0g (z0k g0_ok (fun _ _ h=>h) (low_jr a b) [2] [.cell 4 85,.tmp 5] rfl ?_)
   generalize jR a b 256=J9
   repeat first|refine aI (by first|exact trivial|(show 0+256*1≤(jL _ _ _).length;rw[z0h];decide)|(show(0:Nat)< 256;decide)|omega|exact vRa|exact vRb|(simp only[z0e];omega)|(simp only[z0v,z0e];omega)|(simp only[z0v,z0h];omega)|exact⟨by omega,by omega,trivial,trivial⟩|(show(List.replicate 256 (0:Int)).length=(jL _ _ _).length;rw[z0h,List.length_replicate])|(show 256=(jL _ _ _).length;rw[z0h])|(show 0< (jL _ _ _).length;rw[z0h];decide)|(show 0+(jL _ _ _).length≤(List.replicate 256 (0:Int)).length;rw[z0h,List.length_replicate];decide)|(show 0+256*1≤(jL _ _ _).length;rw[z0h];decide)|(show(jL _ _ _).length=256*1;rw[z0h])) ?_|refine z04 (by show(jL _ _ _).length=256*1;rw[z0h]) ?_
   all_goals exact uJf_0


end Go.Proofs.YtppmnaoollkboaaDoor
