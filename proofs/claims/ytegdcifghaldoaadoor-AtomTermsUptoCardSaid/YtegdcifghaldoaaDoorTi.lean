/- Contracts of functions and plain facts, part 9. -/
import Derived.Test.YtegdcifghaldoaaDoorTg
import Derived.Test.YtegdcifghaldoaaDoorTh
import Derived.Test.YtegdcifghaldoaaDoorTb
set_option maxHeartbeats 4000000
set_option maxRecDepth 4000
namespace Go.Proofs.YtegdcifghaldoaaDoor
set_option linter.all false
open Go.Ab Go.RowKit

section
variable {a b:Prop}
theorem qBu0(h:a:=by first|exact vcA|(simp<;>omega)|exact Nat.le_of_ble_eq_true rfl|(show _< (z0o _ _).length;first|(rw[z10 litR (fun _ _=>trivial)];omega)|(rw[z10 atmR (fun _ _=>trivial)];omega))|(show _≤(z0o _ _).length;first|(rw[z10 litR (fun _ _=>trivial)];omega)|(rw[z10 atmR (fun _ _=>trivial)];omega))|(show _< (recss _ _).length;rw[z3l];omega)|exact⟨rfl,rfl⟩|exact vcB):a:=h
theorem uBu_0(h:a:=by
    repeat' (first|exact z01.to (z0i _)|exact z01.low (z0i _)|exact z01.to (z0k _)|exact z01.low (z0k _)|exact z01.to (z0l _)|exact z01.low (z0l _)|exact z01.to (z0c _)|exact z01.low (z0c _)|exact z01.to (z0m _)|exact z01.low (z0m _)|exact z01.to (z0f _)|exact z01.low (z0f _)|exact z01.to (z0h _ _)|exact z01.low (z0h _ _)|exact z01.to (z00 itmR _)|exact z01.low (z00 itmR _)|exact z01.to (z00 movR _)|exact z01.low (z00 movR _)|exact z01.to (z00 pceR _)|exact z01.low (z00 pceR _)|exact z01.to (z00 fndR _)|exact z01.low (z00 fndR _)|exact z01.to (z00 atmR _)|exact z01.low (z00 atmR _)|exact z01.to (z00 litR _)|exact z01.low (z00 litR _)|exact z01.to (z00 mdlR _)|exact z01.low (z00 mdlR _)|exact z0v (z0j z0r z05)|exact z0q (z0j z0r z05)|exact z0v z05|exact z0q z05|exact trivial|refine aI ?_ ?_|exact cC0|refine low_cons' ?_ ?_|exact cC1|fail)
    all_goals first|omega|(show(_:Bool)=_;rw[z7h hx, ←Bool.and_assoc,hb1];first|rfl|(rw[Bool.true_and];done))|(show(_:Bool)=_;rw[show g+1 - 1=g - 1+1 by omega,zk3, ←Bool.and_assoc,hb1,show g - 1+1=g by omega];first|rfl|(rw[Bool.true_and];done))|(show(_:Bool)=(_&&_);simp;done)|(show(_:Int)=_;omega)|(show(_:Bool)=_;exact hfin)|(simp[-List.reduceReplicate];done)|(simp[-List.reduceReplicate]<;>omega)|skip):a:=h
theorem DBu_0(kZ:b)(h:HidB b→a:=by intro kZ;(repeat first|refine aI qBu0 ?_|refine z0d qBu0 ?_|refine z09 qBu0 ?_|refine z0p qBu0 ?_|refine z0e ?_);exact kZ.out):a:=h ⟨kZ⟩
theorem z0w(kZ:b)(h:HidB b→a:=by intro kZ;refine sX ?_;refine DBu_0 ?_;refine exI ?_;exact kZ.out):a:=h ⟨kZ⟩
theorem zd1(kZ:b)(h:HidB b→a:=by intro kZ;refine qX ?_;refine DBu_0 ?_;refine exI ?_;exact kZ.out):a:=h ⟨kZ⟩
theorem z4s(kZ:b)(h:HidB b→a:=by intro kZ;refine sXT ?_;refine DBu_0 ?_;refine exI ?_;exact kZ.out):a:=h ⟨kZ⟩
theorem zc6(kZ:b)(h:HidB b→a:=by intro kZ;refine qXT ?_;refine DBu_0 ?_;refine exI ?_;exact kZ.out):a:=h ⟨kZ⟩
theorem zoz(kZ:b)(h:HidB b→a:=by intro kZ;refine sX0 ?_;refine DBu_0 ?_;refine exI ?_;exact kZ.out):a:=h ⟨kZ⟩
theorem zi0(kZ:b)(h:HidB b→a:=by intro kZ;refine qX ?_;refine DBu_0 ?_;exact kZ.out):a:=h ⟨kZ⟩
theorem z1p(kZ:b)(h:HidB b→a:=by intro kZ;refine sX ?_;refine DBu_0 ?_;exact kZ.out):a:=h ⟨kZ⟩
theorem z4a(kZ:b)(h:HidB b→a:=by intro kZ;refine sXT ?_;refine DBu_0 ?_;exact kZ.out):a:=h ⟨kZ⟩
theorem zak(kZ:b)(h:HidB b→a:=by intro kZ;refine qXT ?_;refine DBu_0 ?_;exact kZ.out):a:=h ⟨kZ⟩
end
open Go.Aut
theorem z7h{α:Type}{p:α→Bool}{l:List α}{k:Nat}{x:α}(hx:l[k]? =some x):(l.take (k+1)).all p=((l.take k).all p&&p x):=by
  rw[List.take_add_one,List.all_append,hx];simp
theorem zi1{α:Type}{enc:α→List Cell}{l:List (List α)}{i j:Nat}{x:List α}(h:l[i]? =some x)(hj:j=i):(Cont.cells (recss enc l)).get j= .ds x.length (.cells (z0o enc x)):=by
  have hi:i< l.length:=(List.getElem?_eq_some_iff.1 h).1
  rw[hj,zfp hi,List.getD_eq_getElem?_getD,h];rfl
theorem zlg{fs:List (List FNd)}{k n:Nat}{x:List FNd}(hx:fs[k]? =some x):z5v (fs.drop k) n=if 40< n+x.length then n+x.length else z5v (fs.drop (k+1)) (n+x.length):=by
  obtain⟨hk,rfl⟩:=List.getElem?_eq_some_iff.1 hx;rw[List.drop_eq_getElem_cons hk];rfl
theorem zk3{l:List UInt8}{i:Nat}:(List.range (i+1)).all (fun i=>decide (l.getD i 0< l.getD (i+1) 0))=((List.range i).all (fun i=>decide (l.getD i 0< l.getD (i+1) 0))&&decide (l.getD i 0< l.getD (i+1) 0)):=by
  rw[List.range_succ,List.all_append];simp
def xqA(q:Prb):Bool:=decide (0< q.alph.length)&&ascB q.alph
def xqM(q:Prb):Bool:=xqA q&&q.most.all (inI 0 8)
def xqT(q:Prb):Bool:=xqM q&&q.top.all (inI 0 64)
def aOK(q:Prb)(a:Atm):Bool:=atmOK a q.most.length q.top.length
def xqL(q:Prb):Bool:=xqT q&&q.lits.all fun l=>aOK q l.a
def xqN(q:Prb):Bool:=xqL q&&q.atoms.all (aOK q)
def Prb.wfS(q:Prb):Prop:=q.wf∧(∀ l∈q.lits,l.a.wfS)∧(∀ a∈q.atoms,a.wfS)∧∀ f∈q.forms,f.length≤1152921504606846976
theorem zg2(q:Prb):bigQ q=(decide (16< q.alph.length)||decide (12< q.most.length+q.top.length)||decide (40< max (max q.lits.length q.atoms.length) (z5v q.forms 0))):=by
  unfold bigQ;rw[Bool.eq_iff_iff]
  simp only[Bool.or_eq_true,decide_eq_true_eq]
  omega
noncomputable def cqv:Ctx:={ P:=Tryd.prog,ty:=ty,glob:=gl,fs:=[(49,.flat zod),(36,.flat zhv),(52,.flat z9e)] }
theorem z16:cqv.OK:=⟨tyOK,⟨⟨z07 Tryd.func49 kQf rfl,zjq⟩,⟨z07 Tryd.func36 kQf rfl,zg0⟩,⟨z07 Tryd.func52 kQf rfl,z72⟩,trivial⟩,mixed⟩
@[simp] theorem cqv_ty:cqv.ty=ty:=rfl

def ze7:QSpec:=fun vs K=>∃ q:Prb,vs=[prbV q]∧q.wfS∧K (.c (.int .i64 (z1y q)))
theorem zc7 : z11 Tryd.prog gl 30 ze7:=by
 refine z0u (Γ:=cqv) (N:=166) Tryd.func30 rfl rfl fun vs K h=>?_;obtain⟨q,rfl,⟨hw,hL,hA,hF⟩,h⟩:=h;refine⟨_,h,rfl,by simp,fun w I=>?_⟩
 have hq1:=hw.1
 have hq2:=hw.2.1
 have hq3:=hw.2.2.1
 have hq4:=hw.2.2.2.1
 have hq5:=hw.2.2.2.2.1
 have hq6:=hw.2.2.2.2.2.1
 refine srR z16 fun _ K2=>?_
 iterate 2 refine z0w ?_
 refine s_n K2 ?_;refine srQ z16 kQf fun _ K4=>?_;refine zd1 ?_;refine zi0 ?_;refine exA (.c (.ds q.most.length (.ints .i64 q.most))) (as_eq rfl) ?_
 iterate 2 refine zd1 ?_
 refine zi0 ?_;refine exA (.c (.ds q.top.length (.ints .i64 q.top))) (as_eq rfl) ?_
 iterate 4 refine zd1 ?_
 refine q_n K4 ?_;refine z3a (α:=Unit) (fun _=>[(1,.c (.dp (.cells (prbL q)) 0)),(3,.c (.int .i64 (q.most.length:Nat))),(4,.c (.int .i64 (q.top.length:Nat))),(5,.c (.int .i64 ((z5v q.forms 0:Nat):Int)))]) (fun _=>[]) 0 (fun _=>True) ?_ ?_
 ·refine srR z16 fun _ K6=>?_
  refine z0w ?_;refine z1p ?_;refine exA (.c (.ds q.forms.length (.cells (recss fndL q.forms)))) (as_eq rfl) ?_
  iterate 2 refine z0w ?_
  refine s_n K6 ?_;refine z0a ?_;refine z13 (α:=Nat×Nat) (fun g=>[(1,.c (.dp (.cells (prbL q)) 0)),(3,.c (.int .i64 (q.most.length:Nat))),(4,.c (.int .i64 (q.top.length:Nat))),(5,.c (.int .i64 (g.2:Nat))),(27,.c (.ds q.forms.length (.cells (recss fndL q.forms)))),(28,.c (.int .i64 (q.forms.length:Nat))),(29,.c (.int .i64 (g.1:Nat)))]) (fun g=>[]) 0 (fun g=>g.1≤q.forms.length∧g.2≤40∧z5v q.forms 0=z5v (q.forms.drop g.1) g.2) (fun g=>q.forms.length - g.1) ?_ ?_
  ·refine dnS [0] id (0,0) ⟨Nat.zero_le _,by decide,rfl⟩ [] uBu_0 uBu_0 uBu_0 uBu_0
  ·intro g hg
   refine srR z16 fun _ K8=>?_;refine z0w ?_;refine s_n K8 ?_;refine seq_k fun _ K9=>?_;refine z06 (b:=_) rfl (fun h_t30=>?_) (fun h_t30=>?_)
   ·try simp only[dQ,reduceIte]at h_t30
    refine z0g ?_;apply K9;refine seq_k fun _ K10=>?_;refine z0a ?_
    have hkl:g.1< q.forms.length:=by omega
    obtain⟨x,hx⟩:=hasAt hkl
    have hxl:=hF x (List.mem_of_getElem? hx)
    have hnd:=zlg (n:=g.2) hx
    refine srR z16 fun _ K12=>?_;refine z0w ?_;refine z1p ?_;refine exA (.c (.ds x.length (.cells (z0o fndL x)))) (as_c (zi1 hx (by omega))) ?_;refine z0w ?_;refine s_n K12 ?_;refine srR z16 fun _ K14=>?_
    iterate 5 refine z0w ?_
    refine s_n K14 ?_;refine srR z16 fun _ K16=>?_
    iterate 2 refine z0w ?_
    refine s_n K16 ?_;refine z06 (b:=_) rfl (fun h_t38=>?_) (fun h_t38=>?_)
    ·try simp only[dQ,reduceIte]at h_t38
     have hnq:z5v q.forms 0=g.2+x.length:=by rw[hg.2.2,hnd,if_pos (by omega)]
     refine z0y ?_;refine z5q (by decide) ?_;refine z03 ?_;refine z03 ?_;refine z0s ?_;refine dnS [] id () trivial [] uBu_0 uBu_0 uBu_0 uBu_0
    ·try simp only[dQ,reduceIte]at h_t38
     refine z0g ?_;refine z08 ?_;apply K10;refine z04 z16 fun _ K17=>?_
     iterate 2 refine z0w ?_
     refine s_n K17 ?_;refine dnS [] id (g.1+1,g.2+x.length) ⟨⟨(by show g.1+1≤_;omega),(by show g.2+x.length≤40;omega),(by rw[hg.2.2,hnd,if_neg (by omega)])⟩,(by show _ - (g.1+1)< _;omega)⟩ [] ?_ ?_ ?_ ?_
     ·exact uBu_0
     ·exact uBu_0
     ·exact uBu_0
     ·exact uBu_0
   ·try simp only[dQ,reduceIte]at h_t30
    have hnq:z5v q.forms 0=g.2:=by rw[hg.2.2,List.drop_of_length_le (by omega)];rfl
    refine z0y ?_;refine z03 ?_;refine z03 ?_;refine z0s ?_;refine dnS [] id () trivial [] uBu_0 uBu_0 uBu_0 uBu_0
 ·intro u hu
  refine seq_k fun _ K18=>?_
  have hw1:=hw.1
  have hw2:=hw.2.1
  have hw3:=hw.2.2.1
  refine srR z16 fun _ K20=>?_;refine z0w ?_;refine z1p ?_;refine exA (.c (.ds q.alph.length (.u8s q.alph))) (as_eq rfl) ?_
  iterate 2 refine z0w ?_
  refine z1p ?_;refine exB (fun hb4=>?_) (fun hb4=>?_)
  ·try simp only[dQ,reduceIte]at hb4
   iterate 2 refine sN ?_
   refine z0w ?_;refine z1p ?_;refine exB (fun hb8=>?_) (fun hb8=>?_)
   rotate_left 1
   ·exfalso;simp at hb8
   iterate 4 refine sN ?_
   refine z0w ?_;refine z1p ?_;refine exB (fun hb14=>?_) (fun hb14=>?_)
   rotate_left 1
   ·exfalso;simp at hb14
   iterate 9 refine sN ?_
   refine z0w ?_;refine s_n K20 ?_;refine z06 (b:=_) rfl (fun _=>?_) (fun h_t64=>?_)
   rotate_left 1
   ·exfalso;simp at h_t64
   have hbig:bigQ q=true:=by rw[zg2];simp only[Bool.or_eq_true,decide_eq_true_eq];omega
   refine srR z16 fun _ K22=>?_;refine z0w ?_;refine s_n K22 ?_;refine z0b (z02 z16 (fun _ _ h=>h) (by first|rfl|assumption) [.tmp 2] rfl ?_);refine rtD ?_
   show SV.c (.int .i64 _)=_
   first|(rw[z1y,if_pos hbig];done)|(rw[z1y,hbig,show okQ q=false by simpa using h_t165];rfl)|(rw[z1y,hbig,show okQ q=true by simpa using h_t165];rfl)
  ·try simp only[dQ,reduceIte]at hb4
   iterate 2 refine z4s ?_
   refine z0w ?_;refine z1p ?_;refine exB (fun hb8=>?_) (fun hb8=>?_)
   ·try simp only[dQ,reduceIte]at hb8
    iterate 4 refine sN ?_
    refine z0w ?_;refine z1p ?_;refine exB (fun hb14=>?_) (fun hb14=>?_)
    rotate_left 1
    ·exfalso;simp at hb14
    iterate 9 refine sN ?_
    refine z0w ?_;refine s_n K20 ?_;refine z06 (b:=_) rfl (fun _=>?_) (fun h_t64=>?_)
    rotate_left 1
    ·exfalso;simp at h_t64
    have hbig:bigQ q=true:=by rw[zg2];simp only[Bool.or_eq_true,decide_eq_true_eq];omega
    refine srR z16 fun _ K24=>?_;refine z0w ?_;refine s_n K24 ?_;refine z0b (z02 z16 (fun _ _ h=>h) (by first|rfl|assumption) [.tmp 2] rfl ?_);refine rtD ?_
    show SV.c (.int .i64 _)=_
    first|(rw[z1y,if_pos hbig];done)|(rw[z1y,hbig,show okQ q=false by simpa using h_t165];rfl)|(rw[z1y,hbig,show okQ q=true by simpa using h_t165];rfl)
   ·try simp only[dQ,reduceIte]at hb8
    iterate 4 refine z4s ?_
    refine z0w ?_;refine z1p ?_;refine exB (fun hb14=>?_) (fun hb14=>?_)
    ·try simp only[dQ,reduceIte]at hb14
     iterate 9 refine sN ?_
     refine z0w ?_;refine s_n K20 ?_;refine z06 (b:=_) rfl (fun _=>?_) (fun h_t64=>?_)
     rotate_left 1
     ·exfalso;simp at h_t64
     have hbig:bigQ q=true:=by rw[zg2];simp only[Bool.or_eq_true,decide_eq_true_eq];omega
     refine srR z16 fun _ K26=>?_;refine z0w ?_;refine s_n K26 ?_;refine z0b (z02 z16 (fun _ _ h=>h) (by first|rfl|assumption) [.tmp 2] rfl ?_);refine rtD ?_
     show SV.c (.int .i64 _)=_
     first|(rw[z1y,if_pos hbig];done)|(rw[z1y,hbig,show okQ q=false by simpa using h_t165];rfl)|(rw[z1y,hbig,show okQ q=true by simpa using h_t165];rfl)
    ·try simp only[dQ,reduceIte]at hb14
     refine z4s ?_;refine z4a ?_;refine exA (.c (.ds q.lits.length (.cells (z0o litL q.lits)))) (as_eq rfl) ?_
     iterate 2 refine z4s ?_
     refine z4a ?_;refine exA (.c (.ds q.atoms.length (.cells (z0o atmL q.atoms)))) (as_eq rfl) ?_
     iterate 4 refine z4s ?_
     refine z0w ?_;refine s_n K20 ?_;refine z06 (b:=_) rfl (fun h_t64=>?_) (fun h_t64=>?_)
     ·try simp only[dQ,reduceIte]at h_t64
      have hbig:bigQ q=true:=by rw[zg2];simp only[Bool.or_eq_true,decide_eq_true_eq];omega
      refine srR z16 fun _ K28=>?_;refine z0w ?_;refine s_n K28 ?_;refine z0b (z02 z16 (fun _ _ h=>h) (by first|rfl|assumption) [.tmp 2] rfl ?_);refine rtD ?_
      show SV.c (.int .i64 _)=_
      first|(rw[z1y,if_pos hbig];done)|(rw[z1y,hbig,show okQ q=false by simpa using h_t165];rfl)|(rw[z1y,hbig,show okQ q=true by simpa using h_t165];rfl)
     ·try simp only[dQ,reduceIte]at h_t64
      refine z0g ?_;apply K18
      have hbig:bigQ q=false:=by rw[zg2];simp only[Bool.or_eq_false_iff,decide_eq_false_iff_not];omega
      have hn12:q.most.length+q.top.length≤12:=by omega
      have ha16:q.alph.length≤16:=by omega
      refine srR z16 fun _ K30=>?_;refine z0w ?_;refine z1p ?_;refine exA (.c (.ds q.alph.length (.u8s q.alph))) (as_eq rfl) ?_
      iterate 3 refine z0w ?_
      refine s_n K30 ?_;refine z3a (α:=Unit) (fun _=>[(1,.c (.dp (.cells (prbL q)) 0)),(3,.c (.int .i64 (q.most.length:Nat))),(4,.c (.int .i64 (q.top.length:Nat))),(8,.c (.bool (xqA q)))]) (fun _=>[]) 0 (fun _=>True) ?_ ?_
      ·refine srR z16 fun _ K32=>?_
       refine z0w ?_;refine s_n K32 ?_;refine z0a ?_;refine z13 (α:=Nat) (fun g=>[(1,.c (.dp (.cells (prbL q)) 0)),(3,.c (.int .i64 (q.most.length:Nat))),(4,.c (.int .i64 (q.top.length:Nat))),(8,.c (.bool (decide (0< q.alph.length)&&(List.range (g - 1)).all (fun i=>decide (q.alph.getD i 0< q.alph.getD (i+1) 0))))),(9,.c (.int .i64 (g:Nat)))]) (fun g=>[]) 0 (fun g=>1≤g∧(g≤q.alph.length∨g=1)) (fun g=>q.alph.length - g) ?_ ?_
       ·refine dnS [] id 1 ⟨Nat.le_refl _,.inr rfl⟩ [] uBu_0 uBu_0 uBu_0 uBu_0
       ·intro g hg
        refine seq_k fun _ K33=>?_;refine srR z16 fun _ K35=>?_
        iterate 2 refine z0w ?_
        refine z1p ?_;refine exA (.c (.ds q.alph.length (.u8s q.alph))) (as_eq rfl) ?_
        iterate 2 refine z0w ?_
        refine s_n K35 ?_;refine z06 (b:=_) rfl (fun h_t73=>?_) (fun h_t73=>?_)
        ·try simp only[dQ,reduceIte]at h_t73
         refine z0g ?_;apply K33;refine seq_k fun _ K36=>?_;refine z0a ?_
         have hgl:g< q.alph.length:=by omega
         have hasc:=zk3 (l:=q.alph) (i:=g - 1)
         have hg1:g - 1+1=g:=by omega
         refine zgz z16 kQf fun _ K37=>?_;refine zd1 ?_;refine zi0 ?_;refine exB (fun hb1=>?_) (fun hb1=>?_)
         ·try simp only[dQ,reduceIte]at hb1
          refine zc6 ?_;refine zak ?_;refine exA (.c (.ds q.alph.length (.u8s q.alph))) (as_eq rfl) ?_
          iterate 3 refine zc6 ?_
          refine zak ?_;refine exA (.c (.u8 (q.alph.getD (g - 1) 0))) (as_eq (congrArg (fun v=>SV.c (Cell.u8 v)) (congrArg (fun i=>q.alph.getD i 0) (by omega)))) ?_;refine zc6 ?_;refine zak ?_;refine exA (.c (.ds q.alph.length (.u8s q.alph))) (as_eq rfl) ?_
          iterate 2 refine zc6 ?_
          refine zak ?_;refine exA (.c (.u8 (q.alph.getD (g) 0))) (as_eq (congrArg (fun v=>SV.c (Cell.u8 v)) (congrArg (fun i=>q.alph.getD i 0) (by omega)))) ?_;refine zc6 ?_
          iterate 2 refine zd1 ?_
          refine q_n K37 ?_;refine z08 ?_;apply K36;refine z04 z16 fun _ K38=>?_
          iterate 3 refine z0w ?_
          refine s_n K38 ?_;refine dnS [] id (g+1) ⟨⟨by omega,.inl (by omega)⟩,by omega⟩ [] uBu_0 uBu_0 uBu_0 uBu_0
         ·try simp only[dQ,reduceIte]at hb1
          iterate 12 refine qN ?_
          iterate 2 refine zd1 ?_
          refine q_n K37 ?_;refine z08 ?_;apply K36;refine z04 z16 fun _ K39=>?_
          iterate 3 refine z0w ?_
          refine s_n K39 ?_;refine dnS [] id (g+1) ⟨⟨by omega,.inl (by omega)⟩,by omega⟩ [] uBu_0 uBu_0 uBu_0 uBu_0
        ·try simp only[dQ,reduceIte]at h_t73
         refine z0y ?_;refine z03 ?_;refine z03 ?_;refine z0s ?_
         have hfin:(decide (0< q.alph.length)&&(List.range (g - 1)).all (fun i=>decide (q.alph.getD i 0< q.alph.getD (i+1) 0)))=xqA q:=by rw[show g - 1=q.alph.length - 1 by omega];rfl
         refine dnS [] id () trivial [] uBu_0 uBu_0 uBu_0 uBu_0
      ·intro u hu
       refine z3a (α:=Unit) (fun _=>[(1,.c (.dp (.cells (prbL q)) 0)),(3,.c (.int .i64 (q.most.length:Nat))),(4,.c (.int .i64 (q.top.length:Nat))),(8,.c (.bool (xqM q)))]) (fun _=>[]) 0 (fun _=>True) ?_ ?_
       ·refine srR z16 fun _ K41=>?_
        refine z0w ?_;refine z1p ?_;refine exA (.c (.ds q.most.length (.ints .i64 q.most))) (as_eq rfl) ?_
        iterate 2 refine z0w ?_
        refine s_n K41 ?_;refine z0a ?_;refine z13 (α:=Nat) (fun k=>[(1,.c (.dp (.cells (prbL q)) 0)),(3,.c (.int .i64 (q.most.length:Nat))),(4,.c (.int .i64 (q.top.length:Nat))),(8,.c (.bool (xqA q&&(q.most.take k).all (inI 0 8)))),(92,.c (.ds q.most.length (.ints .i64 q.most))),(93,.c (.int .i64 (q.most.length:Nat))),(94,.c (.int .i64 (k:Nat)))]) (fun k=>[]) 0 (fun k=>k≤q.most.length) (fun k=>q.most.length - k) ?_ ?_
        ·refine dnS [] id 0 (Nat.zero_le _) [] uBu_0 uBu_0 uBu_0 uBu_0
        ·intro k hk
         refine srR z16 fun _ K43=>?_;refine z0w ?_;refine s_n K43 ?_;refine seq_k fun _ K44=>?_;refine z06 (b:=_) rfl (fun h_t95=>?_) (fun h_t95=>?_)
         ·try simp only[dQ,reduceIte]at h_t95
          refine z0g ?_;apply K44;refine seq_k fun _ K45=>?_;refine z0a ?_
          have hkl:k< q.most.length:=by omega
          obtain⟨x,hx⟩:=hasAt hkl;refine srR z16 fun _ K47=>?_;refine z0w ?_;refine z1p ?_;refine exA (.c (.int .i64 x)) (as_i (by rw[List.getD_eq_getElem?_getD,show((k:Int).toNat*1)=k by omega,hx];rfl)) ?_;refine z0w ?_;refine s_n K47 ?_;refine z04 z16 fun _ K48=>?_;refine z0w ?_;refine z1p ?_;refine exB (fun hb1=>?_) (fun hb1=>?_)
          ·try simp only[dQ,reduceIte]at hb1
           refine z4s ?_;refine z4a ?_;refine⟨x,0,8,rfl,?_⟩;refine DBu_0 ?_
           first|refine exI ?_|(intro cap3 hcap3;refine exI ?_)
           iterate 2 refine z0w ?_
           refine s_n K48 ?_;refine z08 ?_;apply K45;refine z04 z16 fun _ K49=>?_
           iterate 2 refine z0w ?_
           refine s_n K49 ?_;refine dnS [] id (k+1) ⟨by omega,by omega⟩ [] uBu_0 uBu_0 uBu_0 uBu_0
          ·try simp only[dQ,reduceIte]at hb1
           iterate 2 refine sN ?_
           iterate 2 refine z0w ?_
           refine s_n K48 ?_;refine z08 ?_;apply K45;refine z04 z16 fun _ K50=>?_
           iterate 2 refine z0w ?_
           refine s_n K50 ?_;refine dnS [] id (k+1) ⟨by omega,by omega⟩ [] uBu_0 uBu_0 uBu_0 uBu_0
         ·try simp only[dQ,reduceIte]at h_t95
          refine z0y ?_;refine z03 ?_;refine z03 ?_;refine z0s ?_
          have hfin:(xqA q&&(q.most.take k).all (inI 0 8))=xqM q:=by rw[List.take_of_length_le (by omega)];rfl
          refine dnS [] id () trivial [] uBu_0 uBu_0 uBu_0 uBu_0
       ·intro u hu
        refine z3a (α:=Unit) (fun _=>[(1,.c (.dp (.cells (prbL q)) 0)),(3,.c (.int .i64 (q.most.length:Nat))),(4,.c (.int .i64 (q.top.length:Nat))),(8,.c (.bool (xqT q)))]) (fun _=>[]) 0 (fun _=>True) ?_ ?_
        ·refine srR z16 fun _ K52=>?_
         refine z0w ?_;refine z1p ?_;refine exA (.c (.ds q.top.length (.ints .i64 q.top))) (as_eq rfl) ?_
         iterate 2 refine z0w ?_
         refine s_n K52 ?_;refine z0a ?_;refine z13 (α:=Nat) (fun k=>[(1,.c (.dp (.cells (prbL q)) 0)),(3,.c (.int .i64 (q.most.length:Nat))),(4,.c (.int .i64 (q.top.length:Nat))),(8,.c (.bool (xqM q&&(q.top.take k).all (inI 0 64)))),(105,.c (.ds q.top.length (.ints .i64 q.top))),(106,.c (.int .i64 (q.top.length:Nat))),(107,.c (.int .i64 (k:Nat)))]) (fun k=>[]) 0 (fun k=>k≤q.top.length) (fun k=>q.top.length - k) ?_ ?_
         ·refine dnS [] id 0 (Nat.zero_le _) [] uBu_0 uBu_0 uBu_0 uBu_0
         ·intro k hk
          refine srR z16 fun _ K54=>?_;refine z0w ?_;refine s_n K54 ?_;refine seq_k fun _ K55=>?_;refine z06 (b:=_) rfl (fun h_t108=>?_) (fun h_t108=>?_)
          ·try simp only[dQ,reduceIte]at h_t108
           refine z0g ?_;apply K55;refine seq_k fun _ K56=>?_;refine z0a ?_
           have hkl:k< q.top.length:=by omega
           obtain⟨x,hx⟩:=hasAt hkl;refine srR z16 fun _ K58=>?_;refine z0w ?_;refine z1p ?_;refine exA (.c (.int .i64 x)) (as_i (by rw[List.getD_eq_getElem?_getD,show((k:Int).toNat*1)=k by omega,hx];rfl)) ?_;refine z0w ?_;refine s_n K58 ?_;refine z04 z16 fun _ K59=>?_;refine z0w ?_;refine z1p ?_;refine exB (fun hb1=>?_) (fun hb1=>?_)
           ·try simp only[dQ,reduceIte]at hb1
            refine z4s ?_;refine z4a ?_;refine⟨x,0,64,rfl,?_⟩;refine DBu_0 ?_
            first|refine exI ?_|(intro cap3 hcap3;refine exI ?_)
            iterate 2 refine z0w ?_
            refine s_n K59 ?_;refine z08 ?_;apply K56;refine z04 z16 fun _ K60=>?_
            iterate 2 refine z0w ?_
            refine s_n K60 ?_;refine dnS [] id (k+1) ⟨by omega,by omega⟩ [] uBu_0 uBu_0 uBu_0 uBu_0
           ·try simp only[dQ,reduceIte]at hb1
            iterate 2 refine sN ?_
            iterate 2 refine z0w ?_
            refine s_n K59 ?_;refine z08 ?_;apply K56;refine z04 z16 fun _ K61=>?_
            iterate 2 refine z0w ?_
            refine s_n K61 ?_;refine dnS [] id (k+1) ⟨by omega,by omega⟩ [] uBu_0 uBu_0 uBu_0 uBu_0
          ·try simp only[dQ,reduceIte]at h_t108
           refine z0y ?_;refine z03 ?_;refine z03 ?_;refine z0s ?_
           have hfin:(xqM q&&(q.top.take k).all (inI 0 64))=xqT q:=by rw[List.take_of_length_le (by omega)];rfl
           refine dnS [] id () trivial [] uBu_0 uBu_0 uBu_0 uBu_0
        ·intro u hu
         refine z3a (α:=Unit) (fun _=>[(1,.c (.dp (.cells (prbL q)) 0)),(3,.c (.int .i64 (q.most.length:Nat))),(4,.c (.int .i64 (q.top.length:Nat))),(8,.c (.bool (xqL q)))]) (fun _=>[]) 0 (fun _=>True) ?_ ?_
         ·refine srR z16 fun _ K63=>?_
          refine z0w ?_;refine z1p ?_;refine exA (.c (.ds q.lits.length (.cells (z0o litL q.lits)))) (as_eq rfl) ?_
          iterate 2 refine z0w ?_
          refine s_n K63 ?_;refine z0a ?_;refine z13 (α:=Nat) (fun k=>[(1,.c (.dp (.cells (prbL q)) 0)),(3,.c (.int .i64 (q.most.length:Nat))),(4,.c (.int .i64 (q.top.length:Nat))),(8,.c (.bool (xqT q&&(q.lits.take k).all (fun l=>aOK q l.a)))),(118,.c (.ds q.lits.length (.cells (z0o litL q.lits)))),(119,.c (.int .i64 (q.lits.length:Nat))),(120,.c (.int .i64 (k:Nat)))]) (fun k=>[]) 0 (fun k=>k≤q.lits.length) (fun k=>q.lits.length - k) ?_ ?_
          ·refine dnS [] id 0 (Nat.zero_le _) [] uBu_0 uBu_0 uBu_0 uBu_0
          ·intro k hk
           refine srR z16 fun _ K65=>?_;refine z0w ?_;refine s_n K65 ?_;refine seq_k fun _ K66=>?_;refine z06 (b:=_) rfl (fun h_t121=>?_) (fun h_t121=>?_)
           ·try simp only[dQ,reduceIte]at h_t121
            refine z0g ?_;apply K66;refine seq_k fun _ K67=>?_;refine z0a ?_
            have hkl:k< q.lits.length:=by omega
            obtain⟨x,hx⟩:=hasAt hkl
            have hx2:=hL x (List.mem_of_getElem? hx)
            refine srR z16 fun _ K69=>?_;refine z0w ?_;refine z1p ?_;refine exA (.agg (.cells (litL x))) (z31 litR (fun _ _=>trivial) (i:=k) (by first|rfl|omega) rfl hx) ?_;refine z0w ?_;refine zoz ?_;refine s_n K69 ?_;refine z04 z16 fun _ K70=>?_;refine z0w ?_;refine z1p ?_;refine exB (fun hb1=>?_) (fun hb1=>?_)
            ·try simp only[dQ,reduceIte]at hb1
             refine z4s ?_;refine z4a ?_;refine exA (atmV x.a) (as_eq rfl) ?_
             iterate 2 refine z4s ?_
             refine z4a ?_
             try refine aI (z01.noclo (z0i x.a)) ?_
             refine⟨x.a,q.most.length,q.top.length,rfl,⟨hx2.1,hx2.2.1,hx2.2.2.1,by omega,by omega,hx2.2.2.2⟩,?_⟩;refine DBu_0 ?_
             first|refine exI ?_|(intro cap6 hcap6;refine exI ?_)
             iterate 2 refine z0w ?_
             refine s_n K70 ?_;refine z08 ?_;apply K67;refine z04 z16 fun _ K71=>?_
             iterate 2 refine z0w ?_
             refine s_n K71 ?_;refine dnS [] id (k+1) ⟨by omega,by omega⟩ [] uBu_0 uBu_0 uBu_0 uBu_0
            ·try simp only[dQ,reduceIte]at hb1
             iterate 5 refine sN ?_
             iterate 2 refine z0w ?_
             refine s_n K70 ?_;refine z08 ?_;apply K67;refine z04 z16 fun _ K72=>?_
             iterate 2 refine z0w ?_
             refine s_n K72 ?_;refine dnS [] id (k+1) ⟨by omega,by omega⟩ [] uBu_0 uBu_0 uBu_0 uBu_0
           ·try simp only[dQ,reduceIte]at h_t121
            refine z0y ?_;refine z03 ?_;refine z03 ?_;refine z0s ?_
            have hfin:(xqT q&&(q.lits.take k).all (fun l=>aOK q l.a))=xqL q:=by rw[List.take_of_length_le (by omega)];rfl
            refine dnS [] id () trivial [] uBu_0 uBu_0 uBu_0 uBu_0
         ·intro u hu
          refine z3a (α:=Unit) (fun _=>[(1,.c (.dp (.cells (prbL q)) 0)),(3,.c (.int .i64 (q.most.length:Nat))),(4,.c (.int .i64 (q.top.length:Nat))),(8,.c (.bool (xqN q)))]) (fun _=>[]) 0 (fun _=>True) ?_ ?_
          ·refine srR z16 fun _ K74=>?_
           refine z0w ?_;refine z1p ?_;refine exA (.c (.ds q.atoms.length (.cells (z0o atmL q.atoms)))) (as_eq rfl) ?_
           iterate 2 refine z0w ?_
           refine s_n K74 ?_;refine z0a ?_;refine z13 (α:=Nat) (fun k=>[(1,.c (.dp (.cells (prbL q)) 0)),(3,.c (.int .i64 (q.most.length:Nat))),(4,.c (.int .i64 (q.top.length:Nat))),(8,.c (.bool (xqL q&&(q.atoms.take k).all (aOK q)))),(134,.c (.ds q.atoms.length (.cells (z0o atmL q.atoms)))),(135,.c (.int .i64 (q.atoms.length:Nat))),(136,.c (.int .i64 (k:Nat)))]) (fun k=>[]) 0 (fun k=>k≤q.atoms.length) (fun k=>q.atoms.length - k) ?_ ?_
           ·refine dnS [] id 0 (Nat.zero_le _) [] uBu_0 uBu_0 uBu_0 uBu_0
           ·intro k hk
            refine srR z16 fun _ K76=>?_;refine z0w ?_;refine s_n K76 ?_;refine seq_k fun _ K77=>?_;refine z06 (b:=_) rfl (fun h_t137=>?_) (fun h_t137=>?_)
            ·try simp only[dQ,reduceIte]at h_t137
             refine z0g ?_;apply K77;refine seq_k fun _ K78=>?_;refine z0a ?_
             have hkl:k< q.atoms.length:=by omega
             obtain⟨x,hx⟩:=hasAt hkl
             have hx2:=hA x (List.mem_of_getElem? hx)
             refine srR z16 fun _ K80=>?_;refine z0w ?_;refine z1p ?_;refine exA (.agg (.cells (atmL x))) (z31 atmR (fun _ _=>trivial) (i:=k) (by first|rfl|omega) rfl hx) ?_;refine z0w ?_;refine zoz ?_;refine s_n K80 ?_;refine z04 z16 fun _ K81=>?_;refine z0w ?_;refine z1p ?_;refine exB (fun hb1=>?_) (fun hb1=>?_)
             ·try simp only[dQ,reduceIte]at hb1
              refine z4a ?_;refine exA (atmV x) (as_eq rfl) ?_
              iterate 2 refine z4s ?_
              refine z4a ?_
              try refine aI (z01.noclo (z0i x)) ?_
              refine⟨x,q.most.length,q.top.length,rfl,⟨hx2.1,hx2.2.1,hx2.2.2.1,by omega,by omega,hx2.2.2.2⟩,?_⟩;refine DBu_0 ?_
              first|refine exI ?_|(intro cap5 hcap5;refine exI ?_)
              iterate 2 refine z0w ?_
              refine s_n K81 ?_;refine z08 ?_;apply K78;refine z04 z16 fun _ K82=>?_
              iterate 2 refine z0w ?_
              refine s_n K82 ?_;refine dnS [] id (k+1) ⟨by omega,by omega⟩ [] uBu_0 uBu_0 uBu_0 uBu_0
             ·try simp only[dQ,reduceIte]at hb1
              iterate 4 refine sN ?_
              iterate 2 refine z0w ?_
              refine s_n K81 ?_;refine z08 ?_;apply K78;refine z04 z16 fun _ K83=>?_
              iterate 2 refine z0w ?_
              refine s_n K83 ?_;refine dnS [] id (k+1) ⟨by omega,by omega⟩ [] uBu_0 uBu_0 uBu_0 uBu_0
            ·try simp only[dQ,reduceIte]at h_t137
             refine z0y ?_;refine z03 ?_;refine z03 ?_;refine z0s ?_
             have hfin:(xqL q&&(q.atoms.take k).all (aOK q))=xqN q:=by rw[List.take_of_length_le (by omega)];rfl
             refine dnS [] id () trivial [] uBu_0 uBu_0 uBu_0 uBu_0
          ·intro u hu
           refine seq_k fun _ K84=>?_;refine srR z16 fun _ K86=>?_;refine z0w ?_;refine z1p ?_;refine exA (.c (.ds q.forms.length (.cells (recss fndL q.forms)))) (as_eq rfl) ?_
           iterate 2 refine z0w ?_
           refine s_n K86 ?_;refine z0a ?_;refine z13 (α:=Nat) (fun k=>[(1,.c (.dp (.cells (prbL q)) 0)),(3,.c (.int .i64 (q.most.length:Nat))),(4,.c (.int .i64 (q.top.length:Nat))),(8,.c (.bool (xqN q&&(q.forms.take k).all (fun f=>z4w f q.atoms.length)))),(149,.c (.ds q.forms.length (.cells (recss fndL q.forms)))),(150,.c (.int .i64 (q.forms.length:Nat))),(151,.c (.int .i64 (k:Nat)))]) (fun k=>[]) 0 (fun k=>k≤q.forms.length) (fun k=>q.forms.length - k) ?_ ?_
           ·refine dnS [] id 0 (Nat.zero_le _) [] uBu_0 uBu_0 uBu_0 uBu_0
           ·intro k hk
            refine srR z16 fun _ K88=>?_;refine z0w ?_;refine s_n K88 ?_;refine seq_k fun _ K89=>?_;refine z06 (b:=_) rfl (fun h_t152=>?_) (fun h_t152=>?_)
            ·try simp only[dQ,reduceIte]at h_t152
             refine z0g ?_;apply K89;refine seq_k fun _ K90=>?_;refine z0a ?_
             have hkl:k< q.forms.length:=by omega
             obtain⟨x,hx⟩:=hasAt hkl
             have hx2:=hF x (List.mem_of_getElem? hx)
             have hal:=hw.2.2.2.2.1
             refine srR z16 fun _ K92=>?_;refine z0w ?_;refine z1p ?_;refine exA (.c (.ds x.length (.cells (z0o fndL x)))) (as_c (zi1 hx (by omega))) ?_;refine z0w ?_;refine s_n K92 ?_;refine z04 z16 fun _ K93=>?_;refine z0w ?_;refine z1p ?_;refine exB (fun hb1=>?_) (fun hb1=>?_)
             ·try simp only[dQ,reduceIte]at hb1
              iterate 2 refine z4s ?_
              refine z4a ?_;refine exA (.c (.ds q.atoms.length (.cells (z0o atmL q.atoms)))) (as_eq rfl) ?_;refine z4s ?_;refine z4a ?_;refine⟨x,q.atoms.length,rfl,⟨by omega,hal⟩,?_⟩;refine DBu_0 ?_
              first|refine exI ?_|(intro cap6 hcap6;refine exI ?_)
              iterate 2 refine z0w ?_
              refine s_n K93 ?_;refine z08 ?_;apply K90;refine z04 z16 fun _ K94=>?_
              iterate 2 refine z0w ?_
              refine s_n K94 ?_;refine dnS [] id (k+1) ⟨by omega,by omega⟩ [] uBu_0 uBu_0 uBu_0 uBu_0
             ·try simp only[dQ,reduceIte]at hb1
              iterate 5 refine sN ?_
              iterate 2 refine z0w ?_
              refine s_n K93 ?_;refine z08 ?_;apply K90;refine z04 z16 fun _ K95=>?_
              iterate 2 refine z0w ?_
              refine s_n K95 ?_;refine dnS [] id (k+1) ⟨by omega,by omega⟩ [] uBu_0 uBu_0 uBu_0 uBu_0
            ·try simp only[dQ,reduceIte]at h_t152
             refine z0y ?_;refine z03 ?_;refine z03 ?_;refine z0s ?_;apply K84;refine seq_k fun _ K96=>?_
             have hfin:(xqN q&&(q.forms.take k).all (fun f=>z4w f q.atoms.length))=okQ q:=by rw[List.take_of_length_le (by omega)];rfl
             rw[hfin];refine srR z16 fun _ K98=>?_
             iterate 2 refine z0w ?_
             refine s_n K98 ?_;refine z06 (b:=_) rfl (fun h_t165=>?_) (fun h_t165=>?_)
             ·try simp only[dQ,reduceIte]at h_t165
              refine srR z16 fun _ K100=>?_;refine z0w ?_;refine s_n K100 ?_;refine z0b (z02 z16 (fun _ _ h=>h) (by first|rfl|assumption) [.tmp 2] rfl ?_);refine rtD ?_
              show SV.c (.int .i64 _)=_
              first|(rw[z1y,if_pos hbig];done)|(rw[z1y,hbig,show okQ q=false by simpa using h_t165];rfl)|(rw[z1y,hbig,show okQ q=true by simpa using h_t165];rfl)
             ·try simp only[dQ,reduceIte]at h_t165
              refine z0g ?_;apply K96;refine srR z16 fun _ K102=>?_;refine z0w ?_;refine s_n K102 ?_;refine z0b (z02 z16 (fun _ _ h=>h) (by first|rfl|assumption) [.tmp 2] rfl ?_);refine rtD ?_
              show SV.c (.int .i64 _)=_
              first|(rw[z1y,if_pos hbig];done)|(rw[z1y,hbig,show okQ q=false by simpa using h_t165];rfl)|(rw[z1y,hbig,show okQ q=true by simpa using h_t165];rfl)


end Go.Proofs.YtegdcifghaldoaaDoor

namespace Go.Proofs.YtegdcifghaldoaaDoor
set_option linter.all false
open Go.Ab Go.RowKit

section
variable {a b:Prop}
theorem qBx1(h:a:=by first|exact vcA|(simp<;>omega)|exact Nat.le_of_ble_eq_true rfl|exact z01.solid (z0k _)|exact vcB):a:=h
theorem DBx_4(kZ:b)(h:HidB b→a:=by intro kZ;(repeat first|refine aI qBx1 ?_|refine z0d qBx1 ?_|refine z09 qBx1 ?_|refine z0p qBx1 ?_|refine z0e ?_);exact kZ.out):a:=h ⟨kZ⟩
theorem zk4(kZ:b)(h:HidB b→a:=by intro kZ;refine sX ?_;refine DBx_4 ?_;refine exI ?_;exact kZ.out):a:=h ⟨kZ⟩
theorem zp1(kZ:b)(h:HidB b→a:=by intro kZ;refine sX0 ?_;refine DBx_4 ?_;refine exI ?_;exact kZ.out):a:=h ⟨kZ⟩
theorem sXEBx_11(kZ:b)(h:HidB b→a:=by intro kZ;refine sX ?_;refine DBx_4 ?_;exact kZ.out):a:=h ⟨kZ⟩
end
open Go.Aut
structure Mdl.sm(m:Mdl):Prop where
  s:m.s.length≤1099511627776
  n:m.n.length≤1099511627776
  w:∀ p∈m.s,p.length≤274877906944
  t:(m.s.map List.length).sum≤1125899906842624
theorem sm_small{m:Mdl}(h:m.sm)(hv:m.n.all (inI 0 64)=true):m.small:=⟨h.s,h.n,h.w,h.t,fun x hx=>by
  have:=List.all_eq_true.1 hv x hx
  rw[inI,Bool.and_eq_true,decide_eq_true_eq,decide_eq_true_eq]at this
  exact this⟩
theorem all_any{α:Type}{p:α→Bool}{l:List α}(h:(l.any fun x=> !p x)=false):l.all p=true:=by
  rw[List.all_eq_not_any_not,h];rfl
theorem all_any'{α:Type}{p:α→Bool}{l:List α}(h:(l.any fun x=> !p x)=true):l.all p=false:=by
  rw[List.all_eq_not_any_not,h];rfl
noncomputable def cho:Ctx:={ P:=Tryd.prog,ty:=ty,glob:=gl,fs:=[(49,.flat zod),(50,.flat hasHCS),(47,.flat zoy)] }
theorem za6:cho.OK:=⟨tyOK,⟨⟨z07 Tryd.func49 kQf rfl,zjq⟩,⟨z07 Tryd.func50 kQf rfl,hasHC_ok⟩,⟨z07 Tryd.func47 kQf rfl,zk2⟩,trivial⟩,mixed⟩
@[simp] theorem cho_ty:cho.ty=ty:=rfl

def holdsS:QSpec:=fun vs K=>∃ (l:Lit') (m:Mdl),vs=[litV l,mdlV m]∧(l.a.wfS∧m.sm)∧K (.c (.bool (z4x l m)))
theorem holds_ok:z11 Tryd.prog gl 25 holdsS:=by
 refine z0u (Γ:=cho) (N:=28) Tryd.func25 rfl rfl fun vs K h=>?_;obtain⟨l,m,rfl,⟨hl,hm⟩,h⟩:=h;refine⟨_,h,rfl,by simp,fun w I=>?_⟩
 have hms:=hm.s
 have hmn:=hm.n
 refine srR za6 fun _ K2=>?_
 iterate 3 refine sXBd_4 ?_
 refine s_n K2 ?_;refine seq_k fun _ K3=>?_;refine srR za6 fun _ K5=>?_;refine sXBd_4 ?_;refine z1e ?_;refine exA (atmV l.a) (as_eq rfl) ?_;refine sXBd_4 ?_;refine z1e ?_;refine exA (.c (.ds m.s.length (.cells (lists m.s)))) (as_eq rfl) ?_
 iterate 2 refine sXBd_4 ?_
 refine z1e ?_;refine exA (.c (.ds m.n.length (.ints .i64 m.n))) (as_eq rfl) ?_;refine sXBd_4 ?_;refine z1e ?_
 try refine aI (z01.noclo (z0i l.a)) ?_
 refine⟨l.a,m.s.length,m.n.length,rfl,⟨hl.1,hl.2.1,hl.2.2.1,by omega,by omega,hl.2.2.2⟩,?_⟩;refine DBd_3 ?_
 first|refine exI ?_|(intro cap8 hcap8;refine exI ?_)
 refine sXBd_4 ?_;refine z1e ?_;refine exB (fun hb10=>?_) (fun hb10=>?_)
 ·try simp only[dQ,reduceIte]at hb10
  iterate 3 refine sN ?_
  refine sXBd_4 ?_;refine s_n K5 ?_;refine z06 (b:=_) rfl (fun _=>?_) (fun h_t19=>?_)
  rotate_left 1
  ·exfalso;simp at h_t19
  have hno:z4x l m=false:=by
   rw[z4x,fitsN]
   first|(rw[show atmOK l.a m.s.length m.n.length=false by simpa using hb10];rfl)|(rw[all_any' (show(m.n.any fun x=> !inI 0 64 x)=true by simpa using h_t19),Bool.and_false];rfl)
  refine srR za6 fun _ K7=>?_;refine sXBd_4 ?_;refine s_n K7 ?_;refine z0b (z02 za6 (fun _ _ h=>h) (by first|rfl|assumption) [.tmp 4] rfl ?_);refine rtD ?_
  show SV.c (.bool _)=_
  first|(rw[hno];done)|(rw[z4x,fitsN,hok,hall];done)|(rw[z4x,fitsN,hok,hall];congr 2<;>(cases evN l.a m<;>cases l.neg<;>rfl))
 ·try simp only[dQ,reduceIte]at hb10
  refine z21 ?_;refine z1u ?_;refine exA (.c (.ds m.n.length (.ints .i64 m.n))) (as_eq rfl) ?_;refine z1u ?_;refine⟨m.n,rfl,⟨by omega,trivial⟩,?_⟩;refine DBd_3 ?_
  first|refine exI ?_|(intro cap13 hcap13;refine exI ?_)
  refine sXBd_4 ?_;refine s_n K5 ?_;refine z06 (b:=_) rfl (fun h_t19=>?_) (fun h_t19=>?_)
  ·try simp only[dQ,reduceIte]at h_t19
   have hno:z4x l m=false:=by
    rw[z4x,fitsN]
    first|(rw[show atmOK l.a m.s.length m.n.length=false by simpa using hb10];rfl)|(rw[all_any' (show(m.n.any fun x=> !inI 0 64 x)=true by simpa using h_t19),Bool.and_false];rfl)
   refine srR za6 fun _ K9=>?_;refine sXBd_4 ?_;refine s_n K9 ?_;refine z0b (z02 za6 (fun _ _ h=>h) (by first|rfl|assumption) [.tmp 4] rfl ?_);refine rtD ?_
   show SV.c (.bool _)=_
   first|(rw[hno];done)|(rw[z4x,fitsN,hok,hall];done)|(rw[z4x,fitsN,hok,hall];congr 2<;>(cases evN l.a m<;>cases l.neg<;>rfl))
  ·try simp only[dQ,reduceIte]at h_t19
   refine z0g ?_;apply K3
   have hok:atmOK l.a m.s.length m.n.length=true:=by simpa using hb10
   have hall:=all_any (show(m.n.any fun x=> !inI 0 64 x)=false by simpa using h_t19)
   have hsm:=sm_small hm hall
   refine srD za6 [(0,true),(1,true),(2,true),(3,true),(5,true),(6,true),(4,false),(7,true),(8,true)] rfl kQf kQf fun _ K11=>?_;refine zai ?_;refine exA (mdlV m) (as_eq rfl) ?_;refine zai ?_;refine exA (mdlV m) (as_eq rfl) ?_;refine zfz ?_;refine zai ?_;refine exA (atmV l.a) (as_eq rfl) ?_;refine zfz ?_;refine zai ?_;refine exA (.c (.bool l.neg)) (as_eq rfl) ?_;refine ze1 ?_
   first|refine aI (z01.noclo (z0c m)) ?_|refine aI (z01.noclo (z0i l.a)) ?_
   try refine aI (z01.noclo (z0i l.a)) ?_
   refine⟨m,l.a,rfl,⟨hl.1,hsm,hok⟩,?_⟩;refine DBd_3 ?_
   first|refine exI ?_|(intro cap4 hcap4;refine exI ?_)
   iterate 2 refine zfz ?_
   refine d_n K11 ?_;refine z0b (z02 za6 (fun _ _ h=>h) (by first|rfl|assumption) [.tmp 4] rfl ?_);refine rtD ?_
   show SV.c (.bool _)=_
   first|(rw[hno];done)|(rw[z4x,fitsN,hok,hall];done)|(rw[z4x,fitsN,hok,hall];congr 2<;>(cases evN l.a m<;>cases l.neg<;>rfl))

def negL(l:Lit'):Lit':={ l with neg:= !l.neg }
def negS:QSpec:=fun vs K=>∃ l:Lit',vs=[litV l]∧K (litV (negL l))
theorem neg_ok:z3u Tryd.prog gl 32 negS:=by
 refine z3p (Γ:=g0) (N:=8) Tryd.func32 rfl rfl fun vs K h=>?_;obtain⟨l,rfl,h⟩:=h;refine⟨_,h,z01.low (z0k _),by simp,fun w I=>?_⟩;refine srR g0_ok fun _ K2=>?_
 iterate 2 refine zk4 ?_
 refine s_n K2 ?_;refine srR g0_ok fun _ K4=>?_;refine zk4 ?_;refine sXEBx_11 ?_;refine exA (.c (.bool l.neg)) (as_eq rfl) ?_
 iterate 2 refine zk4 ?_
 refine zp1 ?_;refine s_n K4 ?_;refine srR g0_ok fun _ K6=>?_;refine zk4 ?_;refine zp1 ?_;refine s_n K6 ?_;refine z0b (z19 g0_ok (fun _ _ h=>h) (z01.low (z0k _)) [] [.cell 2 76] rfl ?_)
 repeat' (first|exact z01.to (z0i _)|exact z01.low (z0i _)|exact z01.to (z0k _)|exact z01.low (z0k _)|exact z01.to (z0l _)|exact z01.low (z0l _)|exact z01.to (z0c _)|exact z01.low (z0c _)|exact z01.to (z0m _)|exact z01.low (z0m _)|exact z01.to (z0f _)|exact z01.low (z0f _)|exact z01.to (z0h _ _)|exact z01.low (z0h _ _)|exact z01.to (z00 itmR _)|exact z01.low (z00 itmR _)|exact z01.to (z00 movR _)|exact z01.low (z00 movR _)|exact z01.to (z00 pceR _)|exact z01.low (z00 pceR _)|exact z01.to (z00 fndR _)|exact z01.low (z00 fndR _)|exact z01.to (z00 atmR _)|exact z01.low (z00 atmR _)|exact z01.to (z00 litR _)|exact z01.low (z00 litR _)|exact z01.to (z00 mdlR _)|exact z01.low (z00 mdlR _)|exact z0v (z0j z0r z05)|exact z0q (z0j z0r z05)|exact z0v z05|exact z0q z05|exact trivial|refine aI ?_ ?_|exact cC0|refine low_cons' ?_ ?_|exact cC1|fail)
 all_goals first|omega|(show allTo _ _ _;exact z01.to (z0k _))|(simp[-List.reduceReplicate];done)|(simp[-List.reduceReplicate]<;>omega)|skip


end Go.Proofs.YtegdcifghaldoaaDoor

namespace Go.Proofs.YtegdcifghaldoaaDoor
set_option linter.all false
open Go.Ab Go.RowKit

section
variable {a b:Prop}
theorem qCd0(h:a:=by first|exact vcA|(simp[htl]<;>omega)|exact Nat.le_of_ble_eq_true rfl|(show _< (z0o _ _).length;first|(rw[z10 litR (fun _ _=>trivial)];omega)|(rw[z10 atmR (fun _ _=>trivial)];omega))|(show _≤(z0o _ _).length;first|(rw[z10 litR (fun _ _=>trivial)];omega)|(rw[z10 atmR (fun _ _=>trivial)];omega))|(show _< (recss _ _).length;rw[z3l];omega)|exact⟨rfl,rfl⟩|exact(by decide:List.Nodup [0])|(show _< (atvK _ _ _).length;rw[htl];omega)|exact vcB):a:=h
theorem uCd_0(h:a:=by
    repeat' (first|exact z01.to (z0i _)|exact z01.low (z0i _)|exact z01.to (z0k _)|exact z01.low (z0k _)|exact z01.to (z0l _)|exact z01.low (z0l _)|exact z01.to (z0c _)|exact z01.low (z0c _)|exact z01.to (z0m _)|exact z01.low (z0m _)|exact z01.to (z0f _)|exact z01.low (z0f _)|exact z01.to (z0h _ _)|exact z01.low (z0h _ _)|exact z01.to (z00 itmR _)|exact z01.low (z00 itmR _)|exact z01.to (z00 movR _)|exact z01.low (z00 movR _)|exact z01.to (z00 pceR _)|exact z01.low (z00 pceR _)|exact z01.to (z00 fndR _)|exact z01.low (z00 fndR _)|exact z01.to (z00 atmR _)|exact z01.low (z00 atmR _)|exact z01.to (z00 litR _)|exact z01.low (z00 litR _)|exact z01.to (z00 mdlR _)|exact z01.low (z00 mdlR _)|exact z0v (z0j z0r z05)|exact z0q (z0j z0r z05)|exact z0v z05|exact z0q z05|exact trivial|refine aI ?_ ?_|exact cC0|refine low_cons' ?_ ?_|exact cC1|fail)
    all_goals first|omega|(show(_:Bool)=true;rw[z7h hx,hk.2];first|(simpa using hxx)|(simp[hxx];done))|(show(_:List Bool)=atvK _ _ (_+1);exact zp4 hx (by omega))|(show(_:List Bool)=atvK q m 0;rw[zg3];rfl)|(rw[zg3];simp;done)|(show(_:List Bool)=List.map _ _;rw[←zk8];first|rfl|(congr 1;omega))|(rw[htl];done)|(show(_:Cont)=_;rw[if_pos ⟨rfl,by show(atvK q m k).length=q.atoms.length*1;rw[htl];omega⟩];first|rfl|(rw[←zk8,show k=q.atoms.length by omega];done))|(simp;done)|(simp[-List.reduceReplicate];done)|(simp[-List.reduceReplicate]<;>omega)|skip):a:=h
theorem DCd_0(kZ:b)(h:HidB b→a:=by intro kZ;(repeat first|refine aI qCd0 ?_|refine z0d qCd0 ?_|refine z09 qCd0 ?_|refine z0p qCd0 ?_|refine z0e ?_);exact kZ.out):a:=h ⟨kZ⟩
theorem z1s(kZ:b)(h:HidB b→a:=by intro kZ;refine sX ?_;refine DCd_0 ?_;refine exI ?_;exact kZ.out):a:=h ⟨kZ⟩
theorem sXTCd_2(kZ:b)(h:HidB b→a:=by intro kZ;refine sXT ?_;refine DCd_0 ?_;refine exI ?_;exact kZ.out):a:=h ⟨kZ⟩
theorem ze9(kZ:b)(h:HidB b→a:=by intro kZ;refine sX0 ?_;refine DCd_0 ?_;refine exI ?_;exact kZ.out):a:=h ⟨kZ⟩
theorem zp2(kZ:b)(h:HidB b→a:=by intro kZ;refine qX ?_;refine DCd_0 ?_;refine exI ?_;exact kZ.out):a:=h ⟨kZ⟩
theorem z38(kZ:b)(h:HidB b→a:=by intro kZ;refine sX ?_;refine DCd_0 ?_;exact kZ.out):a:=h ⟨kZ⟩
theorem zea(kZ:b)(h:HidB b→a:=by intro kZ;refine sXT ?_;refine DCd_0 ?_;exact kZ.out):a:=h ⟨kZ⟩
theorem zeb(kZ:b)(h:HidB b→a:=by intro kZ;refine qX ?_;refine DCd_0 ?_;exact kZ.out):a:=h ⟨kZ⟩
end
open Go.Aut
theorem valid_ok{q:Prb}(h:z1y q=0):bigQ q=false∧okQ q=true:=by
 unfold z1y at h
 split at h
 ·cases h
 ·rename_i h1
  split at h
  ·rename_i h2
   exact⟨by simpa using h1,h2⟩
  ·cases h
theorem zk6:∀ (fs:List (List FNd)) (n:Nat),z5v fs n≤40→∀ f∈fs,f.length≤40
  |[],_,_=>fun f hf=>by cases hf
  | g ::fs,n,h=>fun f hf=>by
    rw[z5v]at h
    split at h
    · omega
    · rcases List.mem_cons.1 hf with rfl|hf
      · omega
      · exact zk6 fs _ h f hf
structure OkQ(q:Prb):Prop where
  a:q.alph.length≤16
  a0:0< q.alph.length
  mt:q.most.length+q.top.length≤12
  nl:q.lits.length≤40
  na:q.atoms.length≤40
  nn:z5v q.forms 0≤40
  most:∀ x∈q.most,0≤x∧x≤8
  top:∀ x∈q.top,0≤x∧x≤64
  lits:∀ l∈q.lits,atmOK l.a q.most.length q.top.length=true
  atoms:∀ a∈q.atoms,atmOK a q.most.length q.top.length=true
  forms:∀ f∈q.forms,z4w f q.atoms.length=true
theorem okQ_of{q:Prb}(h:z1y q=0):OkQ q:=by
  obtain⟨h1,h2⟩:=valid_ok h
  simp only[bigQ,Bool.or_eq_false_iff,decide_eq_false_iff_not]at h1
  simp only[okQ,Bool.and_eq_true,List.all_eq_true,decide_eq_true_eq,inI]at h2
  obtain⟨⟨⟨⟨g1,g2⟩,g3⟩,g4⟩,g5⟩:=h1;obtain⟨⟨⟨⟨⟨⟨k1,_⟩,k2⟩,k3⟩,k4⟩,k5⟩,k6⟩:=h2;exact⟨by omega,k1,by omega,by omega,by omega,by omega,k2,k3,k4,k5,k6⟩
theorem OkQ.node{q:Prb}(h:OkQ q):∀ f∈q.forms,f.length≤40:=zk6 _ _ h.nn
theorem zd2:∀ (l:List (List UInt8)) (b:Nat),(∀ p∈l,p.length≤b)→(l.map List.length).sum≤l.length*b
  |[],_,_=>by simp
  | x::l,b,h=>by
    have h1:=zd2 l b fun p hp=>h p (List.mem_cons_of_mem _ hp)
    have h2:=h x (List.mem_cons_self ..)
    rw[List.map_cons,List.sum_cons,List.length_cons,Nat.succ_mul];omega
structure CandM(q:Prb)(m:Mdl):Prop where
  s:m.s.length=q.most.length
  n:m.n.length=q.top.length
  w:∀ p∈m.s,p.length≤8
  v:∀ x∈m.n,0≤x∧x≤64
theorem zp3{α:Type}{l:List α}{x d:α}(h:x∈l):∃ i,i< l.length∧l.getD i d=x:=by
  obtain⟨i,hi,rfl⟩:=List.getElem_of_mem h;exact⟨i,hi,by rw[List.getD_eq_getElem?_getD,List.getElem?_eq_getElem hi];rfl⟩
theorem zk7{P:Int→Prop}{l:List Int}(h:∀ x∈l,P x){i:Nat}(hi:i< l.length):P (l.getD i 0):=by
  rw[List.getD_eq_getElem?_getD,List.getElem?_eq_getElem hi];exact h _ (List.getElem_mem hi)
theorem cand_of{q:Prb}{m:Mdl}(h:OkQ q)(hc:candN q m=true):CandM q m:=by
  simp only[candN,Bool.and_eq_true,decide_eq_true_eq,List.all_eq_true,List.mem_range,overB,inI]at hc
  obtain⟨⟨⟨h1,h2⟩,h3⟩,h4⟩:=hc;refine⟨h1,h2,fun p hp=>?_,fun x hx=>?_⟩
  · obtain⟨i,hi,rfl⟩:=zp3 (d:=[]) hp
    have:=(h3 i hi).1
    have:=zk7 h.most (i:=i) (by omega)
    omega
  · obtain⟨i,hi,rfl⟩:=zp3 (d:=0) hx
    have:=h4 i hi
    have:=zk7 h.top (i:=i) (by omega)
    omega
theorem CandM.small{q:Prb}{m:Mdl}(h:OkQ q)(hc:CandM q m):m.small:=by
  have h1:=zd2 m.s 8 hc.w
  have h2:=h.mt
  have h3:=hc.s
  have h4:=hc.n
  refine⟨by omega,by omega,fun p hp=>?_,by omega,hc.v⟩
  have:=hc.w p hp
  omega
theorem zd3{q:Prb}{m:Mdl}(h:¬ z1y q=0):z2j q m=false:=by rw[z2j,decide_eq_false h];rfl
theorem zd4{q:Prb}{m:Mdl}(h:candN q m=false):z2j q m=false:=by rw[z2j,h,Bool.and_false];rfl
theorem zlh{q:Prb}{m:Mdl}{k:Nat}{x:Lit'}(hx:q.lits[k]? =some x)(h:evN x.a m=x.neg):z2j q m=false:=by
  have:q.lits.all (fun l=>evN l.a m !=l.neg)=false:=List.all_eq_false.2 ⟨x,List.mem_of_getElem? hx,by rw[h];simp⟩
  rw[z2j,this,Bool.and_false];rfl
theorem zi2{q:Prb}{m:Mdl}{k:Nat}{x:List FNd}(hx:q.forms[k]? =some x)(h:z5w x (q.atoms.map fun a=>evN a m)=false):z2j q m=false:=by
  have:q.forms.all (fun f=>z5w f (q.atoms.map fun a=>evN a m))=false:=List.all_eq_false.2 ⟨x,List.mem_of_getElem? hx,by rw[h];decide⟩
  rw[z2j,this,Bool.and_false]
theorem zli{q:Prb}{m:Mdl}(h1:z1y q=0)(h2:candN q m=true)(h3:q.lits.all (fun l=>evN l.a m !=l.neg)=true)(h4:q.forms.all (fun f=>z5w f (q.atoms.map fun a=>evN a m))=true):z2j q m=true:=by
  rw[z2j,decide_eq_true h1,h2,h3,h4];rfl
def atvK(q:Prb)(m:Mdl)(k:Nat):List Bool:=(q.atoms.take k).map (fun a=>evN a m)++List.replicate (q.atoms.length - k) false
theorem atvK_len{q:Prb}{m:Mdl}{k:Nat}(h:k≤q.atoms.length):(atvK q m k).length=q.atoms.length:=by simp[atvK];omega
theorem zg3(q:Prb)(m:Mdl):atvK q m 0=List.replicate q.atoms.length false:=by simp[atvK]
theorem zk8(q:Prb)(m:Mdl):atvK q m q.atoms.length=q.atoms.map fun a=>evN a m:=by simp[atvK]
theorem zp4{q:Prb}{m:Mdl}{k j:Nat}{x:Atm}(hx:q.atoms[k]? =some x)(hj:j=k):(atvK q m k).set j (evN x m)=atvK q m (k+1):=by
  have hk:k< q.atoms.length:=(List.getElem?_eq_some_iff.1 hx).1
  subst hj
  have e:q.atoms.length - j=(q.atoms.length - (j+1))+1:=by omega
  rw[atvK,atvK,e,List.replicate_succ,List.set_append_right _ _ (by simp;omega),List.take_add_one,hx,List.map_append,List.append_assoc]
  have:((q.atoms.take j).map fun a=>evN a m).length=j:=by simp;omega
  rw[this,Nat.sub_self,List.set_cons_zero];rfl
attribute [local irreducible] atvK
noncomputable def cmd:Ctx:={ P:=Tryd.prog,ty:=ty,glob:=gl,fs:=[(30,.flat ze7),(46,.flat candS),(47,.flat zoy),(14,.flat zoq)] }
theorem z2a:cmd.OK:=⟨tyOK,⟨⟨z07 Tryd.func30 kQf rfl,zc7⟩,⟨z07 Tryd.func46 kQf rfl,cand_ok⟩,⟨z07 Tryd.func47 kQf rfl,zk2⟩,⟨z07 Tryd.func14 kQf rfl,zjy⟩,trivial⟩,mixed⟩
@[simp] theorem cmd_ty:cmd.ty=ty:=rfl

def zp5:QSpec:=fun vs K=>∃ (q:Prb) (m:Mdl),vs=[prbV q,mdlV m]∧(q.wfS∧m.s.length≤9223372036854775807∧m.n.length≤9223372036854775807∧∀ p∈m.s,p.length≤9223372036854775807)∧K (.c (.bool (z2j q m)))
theorem zp6:z11 Tryd.prog gl 20 zp5:=by
 refine z0u (Γ:=cmd) (N:=70) Tryd.func20 rfl rfl fun vs K h=>?_;obtain⟨q,m,rfl,⟨hq,hs,hn,hsl⟩,h⟩:=h;refine⟨_,h,rfl,by simp,fun w I=>?_⟩;refine srR z2a fun _ K2=>?_
 iterate 3 refine z1s ?_
 refine s_n K2 ?_;refine seq_k fun _ K3=>?_;refine srR z2a fun _ K5=>?_;refine z38 ?_;refine exA (prbV q) (as_eq rfl) ?_;refine z38 ?_
 try refine aI (z01.noclo (z0l q)) ?_
 refine⟨q,rfl,hq,?_⟩;refine DCd_0 ?_
 first|refine exI ?_|(intro cap1 hcap1;refine exI ?_)
 refine z1s ?_;refine z38 ?_;refine exB (fun hb3=>?_) (fun hb3=>?_)
 ·try simp only[dQ,reduceIte]at hb3
  iterate 4 refine sN ?_
  refine z1s ?_;refine s_n K5 ?_;refine z06 (b:=_) rfl (fun _=>?_) (fun h_t21=>?_)
  rotate_left 1
  ·exfalso;simp at h_t21
  have hno:z2j q m=false:=by
   first|exact zd3 hb3|exact zd4 (by simpa using h_t21)
  refine srR z2a fun _ K7=>?_;refine z1s ?_;refine s_n K7 ?_;refine z0b (z02 z2a (fun _ _ h=>h) (by first|rfl|assumption) [.tmp 4] rfl ?_);refine rtD ?_
  show SV.c (.bool _)=_
  first|(rw[hno];done)|(rw[hyes];done)
 ·try simp only[dQ,reduceIte]at hb3
  refine zea ?_;refine exA (prbV q) (as_eq rfl) ?_;refine zea ?_;refine exA (mdlV m) (as_eq rfl) ?_;refine zea ?_
  try refine aI (z01.noclo (z0l q)) ?_
  try refine aI (z01.noclo (z0c m)) ?_
  refine⟨q,m,rfl,⟨hs,hn,hsl⟩,?_⟩;refine DCd_0 ?_
  first|refine exI ?_|(intro cap6 hcap6;refine exI ?_)
  refine sXTCd_2 ?_;refine z1s ?_;refine s_n K5 ?_;refine z06 (b:=_) rfl (fun h_t21=>?_) (fun h_t21=>?_)
  ·try simp only[dQ,reduceIte]at h_t21
   have hno:z2j q m=false:=by
    first|exact zd3 hb3|exact zd4 (by simpa using h_t21)
   refine srR z2a fun _ K9=>?_;refine z1s ?_;refine s_n K9 ?_;refine z0b (z02 z2a (fun _ _ h=>h) (by first|rfl|assumption) [.tmp 4] rfl ?_);refine rtD ?_
   show SV.c (.bool _)=_
   first|(rw[hno];done)|(rw[hyes];done)
  ·try simp only[dQ,reduceIte]at h_t21
   refine z0g ?_;apply K3
   have hq6:=hq.1.2.2.2.2.2.1
   have hv0:z1y q=0:=by omega
   have hcd:candN q m=true:=by simpa using h_t21
   have hok:=okQ_of hv0
   have hcm:=cand_of hok hcd
   have hsm:=hcm.small hok
   have hwl:=hq.2.1
   have hwa:=hq.2.2.1
   have hqa:=hok.na
   have hql:=hok.nl
   have hs1:=hcm.s
   have hn1:=hcm.n
   refine srR z2a fun _ K11=>?_;refine z38 ?_;refine exA (mdlV m) (as_eq rfl) ?_;refine z38 ?_;refine exA (mdlV m) (as_eq rfl) ?_;refine z1s ?_;refine ze9 ?_;refine s_n K11 ?_;refine seq_k fun _ K12=>?_;refine srR z2a fun _ K14=>?_;refine z1s ?_;refine z38 ?_;refine exA (.c (.ds q.lits.length (.cells (z0o litL q.lits)))) (as_eq rfl) ?_
   iterate 2 refine z1s ?_
   refine s_n K14 ?_;refine z0a ?_;refine z13 (α:=Nat) (fun k=>[(2,.c (.dp (.cells (prbL q)) 0)),(3,.c (.dp (.cells (mdlL m)) 0)),(5,.c (.dp (.cells (mdlL m)) 0)),(25,.c (.ds q.lits.length (.cells (z0o litL q.lits)))),(26,.c (.int .i64 (q.lits.length:Nat))),(27,.c (.int .i64 (k:Nat)))]) (fun k=>[]) 0 (fun k=>k≤q.lits.length∧(q.lits.take k).all (fun l:Lit'=>evN l.a m !=l.neg)=true) (fun k=>q.lits.length - k) ?_ ?_
   ·refine dnS [0,1,2] id 0 ⟨Nat.zero_le _,rfl⟩ [] uCd_0 uCd_0 uCd_0 uCd_0
   ·intro k hk
    refine srR z2a fun _ K16=>?_;refine z1s ?_;refine s_n K16 ?_;refine seq_k fun _ K17=>?_;refine z06 (b:=_) rfl (fun h_t28=>?_) (fun h_t28=>?_)
    ·try simp only[dQ,reduceIte]at h_t28
     refine z0g ?_;apply K17;refine seq_k fun _ K18=>?_;refine z0a ?_
     have hkl:k< q.lits.length:=by omega
     obtain⟨x,hx⟩:=hasAt hkl
     have hx2:=hwl x (List.mem_of_getElem? hx)
     have hx3:=hok.lits x (List.mem_of_getElem? hx)
     refine srR z2a fun _ K20=>?_;refine z1s ?_;refine z38 ?_;refine exA (.agg (.cells (litL x))) (z31 litR (fun _ _=>trivial) (i:=k) (by first|rfl|omega) rfl hx) ?_;refine z1s ?_;refine ze9 ?_;refine s_n K20 ?_;refine srQ z2a kQf fun _ K22=>?_;refine zeb ?_;refine exA (mdlV m) (as_eq rfl) ?_;refine zp2 ?_;refine zeb ?_;refine exA (atmV x.a) (as_eq rfl) ?_;refine zeb ?_
     try refine aI (z01.noclo (z0c m)) ?_
     try refine aI (z01.noclo (z0i x.a)) ?_
     refine⟨m,x.a,rfl,⟨hx2.1,hsm,by rw[hs1,hn1];exact hx3⟩,?_⟩;refine DCd_0 ?_
     first|refine exI ?_|(intro cap3 hcap3;refine exI ?_)
     refine zp2 ?_;refine zeb ?_;refine exA (.c (.bool x.neg)) (as_eq rfl) ?_;refine zp2 ?_;refine q_n K22 ?_;refine z06 (b:=_) rfl (fun h_t37=>?_) (fun h_t37=>?_)
     ·try simp only[dQ,reduceIte]at h_t37
      have hno:z2j q m=false:=zlh hx (by simpa using h_t37)
      refine srR z2a fun _ K24=>?_;refine z1s ?_;refine s_n K24 ?_;refine z0b (z02 z2a (fun _ _ h=>h) (by first|rfl|assumption) [.tmp 4] rfl ?_);refine rtD ?_
      show SV.c (.bool _)=_
      first|(rw[hno];done)|(rw[hyes];done)
     ·try simp only[dQ,reduceIte]at h_t37
      refine z0g ?_;refine z08 ?_;apply K18
      have hxx:(evN x.a m !=x.neg)=true:=by simpa using h_t37
      refine z04 z2a fun _ K25=>?_
      iterate 2 refine z1s ?_
      refine s_n K25 ?_;refine dnS [] id (k+1) ⟨⟨by omega,by rw[z7h hx,hk.2];exact hxx⟩,by omega⟩ [] ?_ ?_ ?_ ?_
      ·exact uCd_0
      ·exact uCd_0
      ·exact uCd_0
      ·exact uCd_0
    ·try simp only[dQ,reduceIte]at h_t28
     refine z0y ?_;refine z03 ?_;refine z03 ?_;refine z0s ?_;apply K12
     have hall:q.lits.all (fun l:Lit'=>evN l.a m !=l.neg)=true:=by have:=hk.2;rwa [List.take_of_length_le (by omega)]at this
     refine srR z2a fun _ K27=>?_;refine z1s ?_;refine z38 ?_;refine exA (.c (.ds q.atoms.length (.cells (z0o atmL q.atoms)))) (as_eq rfl) ?_
     iterate 3 refine z1s ?_
     refine s_n K27 ?_;refine seq_k fun _ K28=>?_;refine srR z2a fun _ K30=>?_;refine z1s ?_;refine z38 ?_;refine exA (.c (.ds q.atoms.length (.cells (z0o atmL q.atoms)))) (as_eq rfl) ?_
     iterate 2 refine z1s ?_
     refine s_n K30 ?_;refine z0a ?_;refine z13 (α:=Nat) (fun k=>[(2,.c (.dp (.cells (prbL q)) 0)),(3,.c (.dp (.cells (mdlL m)) 0)),(5,.c (.dp (.cells (mdlL m)) 0)),(44,.c (.ds q.atoms.length (.cells (z0o atmL q.atoms)))),(45,.c (.int .i64 (q.atoms.length:Nat))),(46,.c (.int .i64 (k:Nat))),(8,.c (.slice 0 0 q.atoms.length q.atoms.length))]) (fun k=>[(0,.own 4 (.bools (atvK q m k)) q.atoms.length)]) 1 (fun k=>k≤q.atoms.length) (fun k=>q.atoms.length - k) ?_ ?_
     ·refine dnS [] id 0 (Nat.zero_le _) [0] uCd_0 uCd_0 uCd_0 uCd_0
     ·intro k hk
      have htl:=atvK_len (m:=m) hk
      refine srR z2a fun _ K32=>?_;refine z1s ?_;refine s_n K32 ?_;refine seq_k fun _ K33=>?_;refine z06 (b:=_) rfl (fun h_t47=>?_) (fun h_t47=>?_)
      ·try simp only[dQ,reduceIte]at h_t47
       refine z0g ?_;apply K33;refine seq_k fun _ K34=>?_;refine z0a ?_
       have hkl:k< q.atoms.length:=by omega
       obtain⟨x,hx⟩:=hasAt hkl
       have hx2:=hwa x (List.mem_of_getElem? hx)
       have hx3:=hok.atoms x (List.mem_of_getElem? hx)
       refine srR z2a fun _ K36=>?_
       iterate 2 refine z1s ?_
       refine z38 ?_;refine exA (.agg (.cells (atmL x))) (z31 atmR (fun _ _=>trivial) (i:=k) (by first|rfl|omega) rfl hx) ?_
       iterate 2 refine z1s ?_
       refine ze9 ?_;refine s_n K36 ?_;refine z04 z2a fun _ K37=>?_
       iterate 2 refine z1s ?_
       refine z38 ?_;refine exA (mdlV m) (as_eq rfl) ?_;refine z38 ?_;refine exA (atmV x) (as_eq rfl) ?_;refine z38 ?_
       try refine aI (z01.noclo (z0c m)) ?_
       try refine aI (z01.noclo (z0i x)) ?_
       refine⟨m,x,rfl,⟨hx2.1,hsm,by rw[hs1,hn1];exact hx3⟩,?_⟩;refine DCd_0 ?_
       first|refine exI ?_|(intro cap4 hcap4;refine exI ?_)
       refine z1s ?_;refine ze9 ?_;refine s_n K37 ?_;refine z08 ?_;apply K34;refine z04 z2a fun _ K38=>?_
       iterate 2 refine z1s ?_
       refine s_n K38 ?_;refine dnS [] id (k+1) ⟨by omega,by omega⟩ [0] uCd_0 uCd_0 uCd_0 uCd_0
      ·try simp only[dQ,reduceIte]at h_t47
       refine z0y ?_;refine z03 ?_;refine z03 ?_;refine z0s ?_;apply K28;refine seq_k fun _ K39=>?_;refine srR z2a fun _ K41=>?_;refine z1s ?_;refine z38 ?_;refine exA (.c (.ds q.forms.length (.cells (recss fndL q.forms)))) (as_eq rfl) ?_
       iterate 2 refine z1s ?_
       refine s_n K41 ?_;refine z0a ?_;refine z13 (α:=Nat) (fun k=>[(2,.c (.dp (.cells (prbL q)) 0)),(3,.c (.dp (.cells (mdlL m)) 0)),(5,.c (.dp (.cells (mdlL m)) 0)),(59,.c (.ds q.forms.length (.cells (recss fndL q.forms)))),(60,.c (.int .i64 (q.forms.length:Nat))),(61,.c (.int .i64 (k:Nat))),(8,.c (.ds q.atoms.length (.bools (q.atoms.map fun a=>evN a m))))]) (fun k=>[]) 0 (fun k=>k≤q.forms.length∧(q.forms.take k).all (fun f=>z5w f (q.atoms.map fun a=>evN a m))=true) (fun k=>q.forms.length - k) ?_ ?_
       ·refine dnS [0] id 0 ⟨Nat.zero_le _,rfl⟩ [] uCd_0 uCd_0 uCd_0 uCd_0
       ·intro k hk
        refine srR z2a fun _ K43=>?_;refine z1s ?_;refine s_n K43 ?_;refine seq_k fun _ K44=>?_;refine z06 (b:=_) rfl (fun h_t62=>?_) (fun h_t62=>?_)
        ·try simp only[dQ,reduceIte]at h_t62
         refine z0g ?_;apply K44;refine seq_k fun _ K45=>?_;refine z0a ?_
         have hkl:k< q.forms.length:=by omega
         obtain⟨x,hx⟩:=hasAt hkl
         have hx2:=hok.node x (List.mem_of_getElem? hx)
         refine srR z2a fun _ K47=>?_;refine z1s ?_;refine z38 ?_;refine exA (.c (.ds x.length (.cells (z0o fndL x)))) (as_c (zi1 hx (by omega))) ?_;refine z1s ?_;refine s_n K47 ?_;refine srR z2a fun _ K49=>?_
         iterate 2 refine z1s ?_
         refine z38 ?_;refine⟨x,(q.atoms.map fun a=>evN a m),(by rw[List.length_map]),⟨by omega,by rw[List.length_map];omega⟩,?_⟩;refine DCd_0 ?_
         first|refine exI ?_|(intro cap2 hcap2;refine exI ?_)
         refine z1s ?_;refine s_n K49 ?_;refine z06 (b:=_) rfl (fun h_t68=>?_) (fun h_t68=>?_)
         ·try simp only[dQ,reduceIte]at h_t68
          have hno:z2j q m=false:=zi2 hx (by simpa using h_t68)
          refine srR z2a fun _ K51=>?_;refine z1s ?_;refine s_n K51 ?_;refine z0b (z02 z2a (fun _ _ h=>h) (by first|rfl|assumption) [.tmp 4] rfl ?_);refine rtD ?_
          show SV.c (.bool _)=_
          first|(rw[hno];done)|(rw[hyes];done)
         ·try simp only[dQ,reduceIte]at h_t68
          refine z0g ?_;refine z08 ?_;apply K45
          have hxx:z5w x (q.atoms.map fun a=>evN a m)=true:=by simpa using h_t68
          refine z04 z2a fun _ K52=>?_
          iterate 2 refine z1s ?_
          refine s_n K52 ?_;refine dnS [] id (k+1) ⟨⟨by omega,by rw[z7h hx,hk.2];exact hxx⟩,by omega⟩ [] ?_ ?_ ?_ ?_
          ·exact uCd_0
          ·exact uCd_0
          ·exact uCd_0
          ·exact uCd_0
        ·try simp only[dQ,reduceIte]at h_t62
         refine z0y ?_;refine z03 ?_;refine z03 ?_;refine z0s ?_;apply K39
         have hyes:z2j q m=true:=zli hv0 hcd hall (by have:=hk.2;rwa [List.take_of_length_le (by omega)]at this)
         refine srR z2a fun _ K54=>?_;refine z1s ?_;refine s_n K54 ?_;refine z0b (z02 z2a (fun _ _ h=>h) (by first|rfl|assumption) [.tmp 4] rfl ?_);refine rtD ?_
         show SV.c (.bool _)=_
         first|(rw[hno];done)|(rw[hyes];done)


end Go.Proofs.YtegdcifghaldoaaDoor

namespace Go.Proofs.YtegdcifghaldoaaDoor
set_option linter.all false
open Go.Ab Go.RowKit

section
variable {a b:Prop}
theorem uCe_0(h:a:=by
    repeat' (first|exact z01.to (z0i _)|exact z01.low (z0i _)|exact z01.to (z0k _)|exact z01.low (z0k _)|exact z01.to (z0l _)|exact z01.low (z0l _)|exact z01.to (z0c _)|exact z01.low (z0c _)|exact z01.to (z0m _)|exact z01.low (z0m _)|exact z01.to (z0f _)|exact z01.low (z0f _)|exact z01.to (z0h _ _)|exact z01.low (z0h _ _)|exact z01.to (z00 itmR _)|exact z01.low (z00 itmR _)|exact z01.to (z00 movR _)|exact z01.low (z00 movR _)|exact z01.to (z00 pceR _)|exact z01.low (z00 pceR _)|exact z01.to (z00 fndR _)|exact z01.low (z00 fndR _)|exact z01.to (z00 atmR _)|exact z01.low (z00 atmR _)|exact z01.to (z00 litR _)|exact z01.low (z00 litR _)|exact z01.to (z00 mdlR _)|exact z01.low (z00 mdlR _)|exact z0v (z0j z0r z05)|exact z0q (z0j z0r z05)|exact z0v z05|exact z0q z05|exact trivial|refine aI ?_ ?_|exact cC0|refine low_cons' ?_ ?_|exact cC1|fail)
    all_goals first|omega|(show ∀ x∈[Cell.ptr 0 0],Cell.low1 1 x;intro x hx;obtain rfl:=List.mem_singleton.1 hx;exact Nat.one_pos)|(show(_:List Int)=[_];first|rfl|(rw[hsucc];done)|(rw[sMQ_zero];rfl)|(rw[sTQ_zero];done))|(show(_:Int)=_;first|rfl|omega|(push_cast;rfl)|(rw[zpa];rfl)|(rw[zpb];push_cast;omega)|(rw[Nat.pow_succ];push_cast;rfl))|(simp[-List.reduceReplicate];done)|(simp[-List.reduceReplicate]<;>omega)|skip):a:=h
theorem zi3(kZ:b)(h:HidB b→a:=by intro kZ;refine sX0 ?_;refine DUf_0 ?_;refine exI ?_;exact kZ.out):a:=h ⟨kZ⟩
theorem sX0Ce_5(kZ:b)(h:HidB b→a:=by intro kZ;refine sX0 ?_;refine DBd_3 ?_;refine exI ?_;exact kZ.out):a:=h ⟨kZ⟩
end
open Go.Aut
theorem zg4{α β:Type}{g:β→α→β}{b:β}{l:List α}{k:Nat}{x:α}(hx:l[k]? =some x):(l.take (k+1)).foldl g b=g ((l.take k).foldl g b) x:=by
  rw[List.take_add_one,List.foldl_append,hx];rfl
def sMQ(q:Prb)(k:Nat):Nat:=(q.most.take k).foldl (fun o m=>prodQ o (powS q.alph.length (m.toNat+1))) 1
def sTQ(q:Prb)(k:Nat):Nat:=(q.top.take k).foldl (fun o t=>prodQ o (t.toNat+1)) (sMQ q q.most.length)
theorem size_eq{q:Prb}(h:z1y q=0):sizeN q=sTQ q q.top.length:=by
  rw[sizeN,if_pos h,sTQ,sMQ,List.take_length,List.take_length]
theorem zp8{o n:Nat}(h:1≤o)(h2:1≤n):1≤prodQ o n∧prodQ o n≤1099511627776:=by
  have:=Nat.mul_le_mul h h2
  unfold prodQ;omega
theorem zk9{a k:Nat}(h:1≤a):1≤powS a (k+1):=by
  have:=Nat.pow_pos (n:=k) (show 0< a by omega)
  rw[powS];omega
theorem zec{a k:Nat}(h:a≤16)(hk:k≤9):a ^ k≤68719476736:=Nat.le_trans (Nat.pow_le_pow_left h k) (Nat.le_trans (Nat.pow_le_pow_right (by decide) hk) (by decide))
theorem zi4{a:Nat}(h:a≤16):∀ k,k≤9→powS a k≤68719476736*k
  |0,_=>Nat.le_refl _
  | k+1,hk=>by
    have h1:=zi4 h k (by omega)
    have h2:=zec (k:=k) h (by omega)
    rw[powS];omega
theorem zp9{α:Type}{g:Nat→α→Nat}(hg:∀ o x,1≤o→1≤g o x∧g o x≤1099511627776):∀ (l:List α) (b:Nat),1≤b∧b≤1099511627776→1≤l.foldl g b∧l.foldl g b≤1099511627776
  |[],_,h=>h
  |x::l,b,h=>zp9 hg l _ (hg b x h.1)
theorem sM_r{q:Prb}(ha:1≤q.alph.length)(k:Nat):1≤sMQ q k∧sMQ q k≤1099511627776:=zp9 (fun o x h=>zp8 h (zk9 ha)) _ _ ⟨by decide,by decide⟩
theorem sT_r{q:Prb}(ha:1≤q.alph.length)(k:Nat):1≤sTQ q k∧sTQ q k≤1099511627776:=zp9 (fun o x h=>zp8 h (by omega)) _ _ (sM_r ha _)
theorem prod_big{o n:Nat}(ho:1≤o)(h:1099511627776 / o< n):prodQ o n=1099511627776:=by
  have:=(Nat.div_lt_iff_lt_mul (show 0< o by omega)).1 h
  rw[Nat.mul_comm]at this;unfold prodQ;omega
theorem zlj{o n:Nat}(ho:1≤o)(h:n≤1099511627776 / o):o*n≤1099511627776∧prodQ o n=o*n:=by
  have:=(Nat.le_div_iff_mul_le (show 0< o by omega)).1 h
  rw[Nat.mul_comm]at this;unfold prodQ;omega
theorem zpa(a:Nat):powS a 0=0:=rfl
theorem zpb(a k:Nat):powS a (k+1)=powS a k+a ^ k:=rfl
theorem sMQ_zero(q:Prb):sMQ q 0=1:=rfl
theorem sTQ_zero(q:Prb):sTQ q 0=sMQ q q.most.length:=rfl
attribute [local irreducible] sMQ sTQ powS prodQ
def tmsP:PSpec:=fun te c cap off vs K=>∃ o n:Nat,(c= .ints .i64 [(o:Int)]∧te=3∧cap=1∧off=0∧vs=[.c (.int .i64 (n:Int))])∧(1≤o∧o≤1099511627776∧1≤n∧n≤1099511627776)∧K (.ints .i64 [((prodQ o n:Nat):Int)]) z39
theorem tms_ok:zmo Tryd.prog gl 48 tmsP:=by
 refine ptr2_of (Γ:=g0) (N:=12) Tryd.func48 rfl rfl fun te c cap off vs K h=>?_;obtain⟨o,n,⟨rfl,rfl,rfl,rfl,rfl⟩,⟨ho1,ho2,hn1,hn2⟩,h⟩:=h;refine⟨_,_,h,rfl,rfl,by simp,fun w I b=>?_⟩;refine srR g0_ok fun _ K2=>?_;refine sXEUf_4 ?_;refine exA (.c (.int .i64 (o:Int))) (as_eq rfl) ?_;refine sXEUf_4 ?_;refine exA (.c (.int .i64 (o:Int))) (as_i (by split<;>omega)) ?_;refine zi3 ?_;refine s_n K2 ?_;refine srR g0_ok fun _ K4=>?_;refine zng ?_;refine sXEUf_4 ?_;refine exA (.c (.int .i64 (o:Int))) (as_eq rfl) ?_;refine sXEUf_4 ?_;refine exA (.c (.int .i64 ((1099511627776 / o:Nat):Int))) (as_i (by first|rfl|exact(Int.ofNat_tdiv _ _).symm|(simp;done))) ?_;refine zng ?_;refine s_n K4 ?_;refine z06 (b:=_) rfl (fun h_t8=>?_) (fun h_t8=>?_)
 ·try simp only[dQ,reduceIte]at h_t8
  have hpr:=prod_big (n:=n) ho1 (by omega)
  refine z04 g0_ok fun _ K5=>?_;refine zi3 ?_;refine s_n K5 ?_;refine zez g0_ok (fun _ _ h=>h) rfl ?_
  first|(rw[hpr];rfl)|(rw[hpr.2];rfl)
 ·try simp only[dQ,reduceIte]at h_t8
  have hpr:=zlj (n:=n) ho1 (by omega)
  have hmul:(o:Int)*(n:Int)=((o*n:Nat):Int):=by push_cast;rfl
  refine z04 g0_ok fun _ K6=>?_;refine sXEUf_4 ?_;refine exA (.c (.int .i64 (o:Int))) (as_eq rfl) ?_;refine zng ?_;refine sXEUf_4 ?_;refine exA (.c (.int .i64 ((o*n:Nat):Int))) (as_i (by rw[hmul])) ?_;refine zi3 ?_;refine s_n K6 ?_;refine zez g0_ok (fun _ _ h=>h) rfl ?_
  first|(rw[hpr];rfl)|(rw[hpr.2];rfl)

noncomputable def cszq:Ctx:={ P:=Tryd.prog,ty:=ty,glob:=gl,fs:=[(30,.flat ze7),(48,.gen (ptr2S tmsP))] }
theorem z1v:cszq.OK:=⟨tyOK,⟨⟨z07 Tryd.func30 kQf rfl,zc7⟩,⟨z07 Tryd.func48 kQf rfl,(gen_ptr2 tms_ok)⟩,trivial⟩,mixed⟩
@[simp] theorem cszq_ty:cszq.ty=ty:=rfl

def sizeQS:QSpec:=fun vs K=>∃ q:Prb,vs=[prbV q]∧q.wfS∧K (.c (.int .i64 ((sizeN q:Nat):Int)))
theorem sizeQ_ok:z11 Tryd.prog gl 22 sizeQS:=by
 refine z0u (Γ:=cszq) (N:=53) Tryd.func22 rfl rfl fun vs K h=>?_;obtain⟨q,rfl,hq,h⟩:=h;refine⟨_,h,rfl,by simp,fun w I=>?_⟩;refine srR z1v fun _ K2=>?_
 iterate 2 refine sXBd_4 ?_
 refine s_n K2 ?_;refine seq_k fun _ K3=>?_;refine srR z1v fun _ K5=>?_;refine z1e ?_;refine exA (prbV q) (as_eq rfl) ?_;refine z1e ?_
 try refine aI (z01.noclo (z0l q)) ?_
 refine⟨q,rfl,hq,?_⟩;refine DBd_3 ?_
 first|refine exI ?_|(intro cap1 hcap1;refine exI ?_)
 refine sXBd_4 ?_;refine s_n K5 ?_;refine z06 (b:=_) rfl (fun h_t13=>?_) (fun h_t13=>?_)
 ·try simp only[dQ,reduceIte]at h_t13
  have hno:sizeN q=0:=by rw[sizeN,if_neg (by omega)]
  refine srR z1v fun _ K7=>?_;refine sXBd_4 ?_;refine s_n K7 ?_;refine z0b (z02 z1v (fun _ _ h=>h) (by first|rfl|assumption) [.tmp 2] rfl ?_);refine rtD ?_
  first|(show SV.c (.int .i64 0)=_;rw[hno];rfl)|rfl
 ·try simp only[dQ,reduceIte]at h_t13
  refine z0g ?_;apply K3
  have hv0:z1y q=0:=by omega
  have hok:=okQ_of hv0
  have hmt:=hok.mt
  have ha0:=hok.a0
  have ha16:=hok.a
  have hsz:=size_eq hv0
  refine srR z1v fun _ K9=>?_;refine sXBd_4 ?_;refine sX0Ce_5 ?_;refine s_n K9 ?_;refine srR z1v fun _ K11=>?_
  iterate 2 refine sXBd_4 ?_
  refine s_n K11 ?_;refine seq_k fun _ K12=>?_;refine srR z1v fun _ K14=>?_;refine sXBd_4 ?_;refine z1e ?_;refine exA (.c (.ds q.most.length (.ints .i64 q.most))) (as_eq rfl) ?_
  iterate 2 refine sXBd_4 ?_
  refine s_n K14 ?_;refine z0a ?_;refine z13 (α:=Nat) (fun k=>[(1,.c (.dp (.cells (prbL q)) 0)),(3,.c (.ptr 0 0)),(4,.c (.clo 48 [.ptr 0 0])),(16,.c (.ds q.most.length (.ints .i64 q.most))),(17,.c (.int .i64 (q.most.length:Nat))),(18,.c (.int .i64 (k:Nat)))]) (fun k=>[(0,.own 3 (.ints .i64 [((sMQ q k:Nat):Int)]) 1)]) 1 (fun k=>k≤q.most.length) (fun k=>q.most.length - k) ?_ ?_
  ·refine dnS [0] (fun _=>1) 0 (Nat.zero_le _) [1] uCe_0 uCe_0 uCe_0 uCe_0
  ·intro k hk
   refine srR z1v fun _ K16=>?_;refine sXBd_4 ?_;refine s_n K16 ?_;refine seq_k fun _ K17=>?_;refine z06 (b:=_) rfl (fun h_t19=>?_) (fun h_t19=>?_)
   ·try simp only[dQ,reduceIte]at h_t19
    refine z0g ?_;apply K17;refine seq_k fun _ K18=>?_;refine z0a ?_
    have hkl:k< q.most.length:=by omega
    obtain⟨x,hx⟩:=hasAt hkl
    have hxr:=hok.most x (List.mem_of_getElem? hx)
    have hsM:=sM_r (q:=q) ha0 k
    refine srR z1v fun _ K20=>?_;refine sXBd_4 ?_;refine z1e ?_;refine exA (.c (.int .i64 x)) (as_i (by rw[List.getD_eq_getElem?_getD,show((k:Int).toNat*1)=k by omega,hx];rfl)) ?_;refine sXBd_4 ?_;refine s_n K20 ?_;refine srR z1v fun _ K22=>?_
    iterate 2 refine sXBd_4 ?_
    refine s_n K22 ?_;refine seq_k fun _ K23=>?_;refine srR z1v fun _ K25=>?_
    iterate 3 refine sXBd_4 ?_
    refine s_n K25 ?_;refine z0a ?_;refine z13 (α:=Nat) (fun j=>[(1,.c (.dp (.cells (prbL q)) 0)),(3,.c (.ptr 0 0)),(4,.c (.clo 48 [.ptr 0 0])),(16,.c (.ds q.most.length (.ints .i64 q.most))),(17,.c (.int .i64 (q.most.length:Nat))),(18,.c (.int .i64 (k:Nat))),(6,.c (.int .i64 x)),(7,.c (.int .i64 ((powS q.alph.length j:Nat):Int))),(8,.c (.int .i64 ((q.alph.length ^ j:Nat):Int))),(23,.c (.int .i64 (x+1))),(24,.c (.int .i64 (j:Nat)))]) (fun j=>[(0,.own 3 (.ints .i64 [((sMQ q k:Nat):Int)]) 1)]) 1 (fun j=>(j:Int)≤x+1) (fun j=>(x+1).toNat - j) ?_ ?_
    ·refine dnS [] id 0 (by omega) [0] uCe_0 uCe_0 uCe_0 uCe_0
    ·intro j hj
     refine srR z1v fun _ K27=>?_;refine sXBd_4 ?_;refine s_n K27 ?_;refine seq_k fun _ K28=>?_;refine z06 (b:=_) rfl (fun h_t25=>?_) (fun h_t25=>?_)
     ·try simp only[dQ,reduceIte]at h_t25
      refine z0g ?_;apply K28;refine seq_k fun _ K29=>?_;refine z0a ?_
      have hj9:j≤8:=by omega
      have hpw:=zec (a:=q.alph.length) (k:=j) ha16 (by omega)
      have hps:=zi4 (a:=q.alph.length) ha16 j (by omega)
      refine srR z1v fun _ K31=>?_
      iterate 4 refine sXBd_4 ?_
      refine s_n K31 ?_
      have hpw2:=zec (a:=q.alph.length) (k:=j+1) ha16 (by omega)
      have hmul:((q.alph.length ^ j:Nat):Int)*((q.alph.length:Nat):Int)=((q.alph.length ^ (j+1):Nat):Int):=by rw[Nat.pow_succ];push_cast;rfl
      refine z04 z1v fun _ K32=>?_
      iterate 2 refine sXBd_4 ?_
      refine z1e ?_;refine exA (.c (.ds q.alph.length (.u8s q.alph))) (as_eq rfl) ?_;refine sXBd_4 ?_;refine z1e ?_;refine exA (.c (.int .i64 ((q.alph.length ^ (j+1):Nat):Int))) (as_i (by rw[hmul])) ?_;refine sXBd_4 ?_;refine s_n K32 ?_;refine z08 ?_;apply K29;refine z04 z1v fun _ K33=>?_
      iterate 2 refine sXBd_4 ?_
      refine s_n K33 ?_;refine dnS [] id (j+1) ⟨by omega,by omega⟩ [0] uCe_0 uCe_0 uCe_0 uCe_0
     ·try simp only[dQ,reduceIte]at h_t25
      refine z0y ?_;refine z03 ?_;refine z03 ?_;refine z0s ?_;apply K23
      have hje:j=x.toNat+1:=by omega
      have hps:=zi4 (a:=q.alph.length) ha16 j (by omega)
      have hpp:=zk9 (a:=q.alph.length) (k:=x.toNat) ha0
      refine z04 z1v fun _ K34=>?_
      iterate 2 refine sXBd_4 ?_
      refine z1e ?_;refine aI ⟨rfl,Nat.one_pos,trivial⟩ ?_;refine⟨sMQ q k,powS q.alph.length j,⟨rfl,rfl,rfl,rfl,rfl⟩,⟨hsM.1,hsM.2,by rw[hje];exact hpp,by omega⟩,?_⟩;refine DBd_3 ?_
      first|refine exI ?_|(intro cap2 hcap2;refine exI ?_)
      refine s_n K34 ?_;refine z08 ?_;apply K18
      have hsucc:sMQ q (k+1)=prodQ (sMQ q k) (powS q.alph.length j):=by unfold sMQ;rw[zg4 hx,hje]
      refine z04 z1v fun _ K35=>?_
      iterate 2 refine sXBd_4 ?_
      refine s_n K35 ?_;refine dnS [] id (k+1) ⟨by omega,by omega⟩ [0] uCe_0 uCe_0 uCe_0 uCe_0
   ·try simp only[dQ,reduceIte]at h_t19
    refine z0y ?_;refine z03 ?_;refine z03 ?_;refine z0s ?_;apply K12;refine seq_k fun _ K36=>?_
    obtain rfl:k=q.most.length:=by omega
    refine srR z1v fun _ K38=>?_;refine sXBd_4 ?_;refine z1e ?_;refine exA (.c (.ds q.top.length (.ints .i64 q.top))) (as_eq rfl) ?_
    iterate 2 refine sXBd_4 ?_
    refine s_n K38 ?_;refine z0a ?_;refine z13 (α:=Nat) (fun k=>[(1,.c (.dp (.cells (prbL q)) 0)),(3,.c (.ptr 0 0)),(4,.c (.clo 48 [.ptr 0 0])),(40,.c (.ds q.top.length (.ints .i64 q.top))),(41,.c (.int .i64 (q.top.length:Nat))),(42,.c (.int .i64 (k:Nat)))]) (fun k=>[(0,.own 3 (.ints .i64 [((sTQ q k:Nat):Int)]) 1)]) 1 (fun k=>k≤q.top.length) (fun k=>q.top.length - k) ?_ ?_
    ·refine dnS [] id 0 (Nat.zero_le _) [0] uCe_0 uCe_0 uCe_0 uCe_0
    ·intro k hk
     refine srR z1v fun _ K40=>?_;refine sXBd_4 ?_;refine s_n K40 ?_;refine seq_k fun _ K41=>?_;refine z06 (b:=_) rfl (fun h_t43=>?_) (fun h_t43=>?_)
     ·try simp only[dQ,reduceIte]at h_t43
      refine z0g ?_;apply K41;refine seq_k fun _ K42=>?_;refine z0a ?_
      have hkl:k< q.top.length:=by omega
      obtain⟨x,hx⟩:=hasAt hkl
      have hxr:=hok.top x (List.mem_of_getElem? hx)
      have hsT:=sT_r (q:=q) ha0 k
      refine srR z1v fun _ K44=>?_;refine sXBd_4 ?_;refine z1e ?_;refine exA (.c (.int .i64 x)) (as_i (by rw[List.getD_eq_getElem?_getD,show((k:Int).toNat*1)=k by omega,hx];rfl)) ?_;refine sXBd_4 ?_;refine s_n K44 ?_;refine z04 z1v fun _ K45=>?_
      iterate 2 refine sXBd_4 ?_
      refine z1e ?_;refine exA (.c (.int .i64 ((x.toNat+1:Nat):Int))) (as_i (by omega)) ?_;refine z1e ?_;refine aI ⟨rfl,Nat.one_pos,trivial⟩ ?_;refine⟨sTQ q k,x.toNat+1,⟨rfl,rfl,rfl,rfl,rfl⟩,⟨hsT.1,hsT.2,by omega,by omega⟩,?_⟩;refine DBd_3 ?_
      first|refine exI ?_|(intro cap3 hcap3;refine exI ?_)
      refine s_n K45 ?_;refine z08 ?_;apply K42
      have hsucc:sTQ q (k+1)=prodQ (sTQ q k) (x.toNat+1):=by unfold sTQ;rw[zg4 hx]
      refine z04 z1v fun _ K46=>?_
      iterate 2 refine sXBd_4 ?_
      refine s_n K46 ?_;refine dnS [] id (k+1) ⟨by omega,by omega⟩ [0] uCe_0 uCe_0 uCe_0 uCe_0
     ·try simp only[dQ,reduceIte]at h_t43
      refine z0y ?_;refine z03 ?_;refine z03 ?_;refine z0s ?_;apply K36
      have hke:k=q.top.length:=by omega
      have hsT:=sT_r (q:=q) ha0 k
      refine srR z1v fun _ K48=>?_;refine z1e ?_;refine exA (.c (.int .i64 ((sTQ q k:Nat):Int))) (as_eq rfl) ?_;refine z1e ?_;refine exA (.c (.int .i64 ((sizeN q:Nat):Int))) (as_i (by rw[hsz, ←hke];split<;>first|rfl|omega)) ?_;refine sXBd_4 ?_;refine s_n K48 ?_;refine z0b (z02 z1v (fun _ _ h=>h) (by first|rfl|assumption) [.tmp 2] rfl ?_);refine rtD ?_
      first|(show SV.c (.int .i64 0)=_;rw[hno];rfl)|rfl


end Go.Proofs.YtegdcifghaldoaaDoor
