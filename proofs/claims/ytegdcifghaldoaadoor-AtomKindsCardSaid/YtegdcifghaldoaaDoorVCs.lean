/- The law AtomConjunction. -/
import Derived.Test.YtegdcifghaldoaaDoorSl
import Derived.Test.YtegdcifghaldoaaDoorSj
import Derived.Test.YtegdcifghaldoaaDoorSk
set_option maxHeartbeats 4000000
set_option maxRecDepth 4000
namespace Go.Proofs.YtegdcifghaldoaaDoor
set_option linter.all false
open Go.Ab Go.RowKit

section
variable {a b:Prop}
theorem uCs_0(h:a:=by
    repeat' (first|exact z00.low (z0c _)|exact z00.low (z1b _ _ _ _)|exact z00.low (z1a _ _)|exact z00.low (z06 _)|exact z00.low (z0e _)|exact z00.to (z0c _)|exact z00.to (z1b _ _ _ _)|exact z00.to (z1a _ _)|exact z00.to (z06 _)|exact z00.to (z0e _)|exact z00.isD (z0c _)|exact z00.isD (z1b _ _ _ _)|exact z00.isD (z1a _ _)|exact z00.isD (z06 _)|exact z00.isD (z0e _)|exact z00.isD (z0b _)|exact z00.low (z0b _)|exact z00.to (z0b _)|exact trivial|refine aI ?_ ?_|exact cC0|refine low_cons' ?_ ?_|exact cC1|fail)
    all_goals first|omega|(simp[-List.reduceReplicate];done)|skip):a:=h
theorem ztp(kZ:b)(h:HidB b→a:=by intro kZ;refine dXT ?_;refine DBd_3 ?_;refine exI ?_;exact kZ.out):a:=h ⟨kZ⟩
theorem z6k(kZ:b)(h:HidB b→a:=by intro kZ;refine dXT ?_;refine DBd_3 ?_;exact kZ.out):a:=h ⟨kZ⟩
theorem zch(kZ:b)(h:HidB b→a:=by intro kZ;refine gXT ?_;refine DBd_3 ?_;exact kZ.out):a:=h ⟨kZ⟩
end
open Go.Aut
theorem getD_le{l:List Int}{c:Int}(h:∀ x∈l,x≤c)(h0:0≤c)(i:Nat):l.getD i 0≤c:=by
  rw[List.getD_eq_getElem?_getD]
  cases e:l[i]? with
  |none=>exact h0
  |some x=>exact h x (List.mem_of_getElem? e)
theorem zci{l:List (List UInt8)}{c:Nat}(h:∀ x∈l,x.length≤c)(i:Nat):(l.getD i []).length≤c:=by
  rw[List.getD_eq_getElem?_getD]
  cases e:l[i]? with
  |none=>exact Nat.zero_le _
  |some x=>exact h x (List.mem_of_getElem? e)
structure QOK(q:Prb):Prop where
  v:z1n q=0
  w:q.wfS
  l:q.lits.length≤4
  ok:OkQ q
theorem ziz(s:Nat)(ws vs:List (List UInt8))(nd:List UInt8):QOK (madeQ s ws vs nd):=
  ⟨ze5 s ws vs nd,ztm s ws vs nd,by show(litsK _ _ _ _).length≤4;rw[litsK,List.length_map,List.length_take];omega,zne (ze5 s ws vs nd)⟩
theorem QOK.cand{q:Prb}(h:QOK q)(us:List (List UInt8))(n:List UInt8):candN q (madeM q us n)=true:=zp4 us n h.ok.a0 (fun x hx=>(h.ok.most x hx).1) (fun x hx=>(h.ok.top x hx).1)
theorem QOK.tp{q:Prb}(h:QOK q):∀ j< q.top.length,0≤q.top.getD j 0∧q.top.getD j 0≤64:=fun j hj=>zgd h.ok.top hj
theorem QOK.mo{q:Prb}(h:QOK q)(i:Nat):q.most.getD i 0≤1048576:=getD_le (fun x hx=>by have:=h.ok.most x hx;omega) (by decide) i
attribute [local irreducible] madeQ madeM z96 z1r z2u withQ
noncomputable def ccj:Ctx:={ P:=Tryd.prog,ty:=ty,glob:=gl,fs:=[(10,.flat zl0),(18,.data ztl),(21,.data zt9),(23,.data zl1),(24,.data withQS),(20,.flat zkt),(25,.flat znb)] }
theorem zbz:ccj.OK:=⟨tyOK,⟨⟨z09 Tryd.func10 kQf rfl,ziu⟩,⟨z09 Tryd.func18 kQf rfl,znq⟩,⟨z09 Tryd.func21 kQf rfl,znk⟩,⟨z09 Tryd.func23 kQf rfl,ziw⟩,⟨z09 Tryd.func24 kQf rfl,withQ_ok⟩,⟨z09 Tryd.func20 kQf rfl,zin⟩,⟨z09 Tryd.func25 kQf rfl,zg9⟩,trivial⟩,mixed⟩
@[simp] theorem ccj_ty:ccj.ty=ty:=rfl

def lawConjS:QSpec:=fun vs0 K=>∃ (s:UInt8) (ws vs:List (List UInt8)) (nd l:List UInt8) (us:List (List UInt8)) (n:List UInt8),vs0=[.agg (.cells (rawL s ws vs nd)),.c (.ds l.length (.u8s l)),.agg (.cells (vlsL us n))]∧((ws.length≤9223372036854775807∧vs.length≤9223372036854775807∧nd.length≤9223372036854775807∧(∀ p∈ws,p.length≤9223372036854775807)∧∀ p∈vs,p.length≤9223372036854775807)∧l.length≤9223372036854775807∧us.length≤9223372036854775807∧n.length≤9223372036854775807∧∀ p∈us,p.length≤9223372036854775807)∧K (.c (.bool true))
theorem zpb:z12 Tryd.prog gl 7 lawConjS:=by
 refine z0x (Γ:=ccj) (N:=42) Tryd.func7 rfl rfl fun vs0 K h=>?_;obtain⟨s,ws,vs,nd,l,us,n,rfl,⟨⟨hw,hv,hn,hwl,hvl⟩,hl,hu,hnn,hul⟩,h⟩:=h;refine⟨_,h,rfl,by simp,fun w I=>?_⟩;refine srR zbz fun _ K2=>?_
 iterate 3 refine sXBd_4 ?_
 refine s_n K2 ?_;refine leW [0,1] id [(1,.c (.ds l.length (.u8s l))),(3,.c (.dp (.cells (rawL s ws vs nd)) 0)),(5,.c (.dp (.cells (vlsL us n)) 0)),(6,.c (.bool false))] [] 0 [] uCs_0 uCs_0 uCs_0 uCs_0 ?_;refine srR zbz fun _ K4=>?_
 iterate 2 refine sXBd_4 ?_
 refine s_n K4 ?_;obtain⟨q,hq⟩:∃ q,q=madeQ s.toNat ws vs nd:=⟨_,rfl⟩
 have hqo:QOK q:=hq▸ziz _ _ _ _
 have hok:=hqo.ok
 have hmt:=hok.mt
 refine srR zbz fun _ K6=>?_;refine z1h ?_;refine exA (.agg (.cells (rawL s ws vs nd))) (as_eq rfl) ?_;refine z1h ?_
 try refine aI (z00.noclo (z1b _ _ _ _)) ?_
 refine⟨s,ws,vs,nd,rfl,⟨hw,hv,hn,hwl,hvl⟩,?_⟩;refine DBd_3 ?_
 first|refine exA (prbV q) (as_eq (by rw[hq])) ?_|(intro cap1 hcap1;refine exA (prbV q) (as_eq (by rw[hq])) ?_)
 refine sXBd_4 ?_;refine sX0Ce_5 ?_;refine s_n K6 ?_;refine leW [0] id [(1,.c (.ds l.length (.u8s l))),(3,.c (.dp (.cells (rawL s ws vs nd)) 0)),(5,.c (.dp (.cells (vlsL us n)) 0)),(6,.c (.bool false)),(7,.c (.bool true)),(8,.c (.dp (.cells (prbL q)) 0))] [] 0 [] uCs_0 uCs_0 uCs_0 uCs_0 ?_;obtain⟨m,hm⟩:∃ m,m=madeM q us n:=⟨_,rfl⟩
 have hcd:candN q m=true:=hm▸hqo.cand us n
 have hcm:=zge hok hcd
 have hsm:=ztn hok hcm
 have hs1:=hcm.s
 have hn1:=hcm.n
 have hmw:∀ p∈m.s,p.length≤9223372036854775807:=fun p hp=>by have:=hcm.w p hp;omega
 have ha16:=hok.a
 refine srR zbz fun _ K8=>?_;refine z1h ?_;refine exA (prbV q) (as_eq rfl) ?_;refine z1h ?_;refine exA (.agg (.cells (vlsL us n))) (as_eq rfl) ?_;refine z1h ?_
 try refine aI (z00.noclo (z0c _)) ?_
 try refine aI (z00.noclo (z1a _ _)) ?_
 refine⟨q,us,n,rfl,⟨by omega,hok.a0,by omega,by omega,hu,hnn,hqo.tp,zci hul,hqo.mo⟩,?_⟩;refine DBd_3 ?_
 first|refine exA (mdlV m) (as_eq (by rw[hm])) ?_|(intro cap2 hcap2;refine exA (mdlV m) (as_eq (by rw[hm])) ?_)
 refine sXBd_4 ?_;refine sX0Ce_5 ?_;refine s_n K8 ?_;refine leW [0] id [(1,.c (.ds l.length (.u8s l))),(3,.c (.dp (.cells (rawL s ws vs nd)) 0)),(5,.c (.dp (.cells (vlsL us n)) 0)),(6,.c (.bool false)),(7,.c (.bool true)),(8,.c (.dp (.cells (prbL q)) 0)),(9,.c (.dp (.cells (mdlL m)) 0))] [] 0 [] uCs_0 uCs_0 uCs_0 uCs_0 ?_;obtain⟨lt,hlt⟩:∃ lt,lt=z96 l q.most.length q.top.length:=⟨_,rfl⟩
 have hla:atmOK lt.a q.most.length q.top.length=true:=by rw[hlt];unfold z96;exact z76 _ _ _
 have hlw:lt.a.wfS:=by rw[hlt];unfold z96;exact zai _ (by omega) (by omega)
 have hl4:=hqo.l
 have hwv:=zl6 hqo.v (show q.lits.length< 40 by omega) hcd hla
 have hww:=with_wfS hqo.w (show q.lits.length< 40 by omega) hlw
 refine srR zbz fun _ K10=>?_
 iterate 2 refine sXBd_4 ?_
 refine z1h ?_;refine exA (.c (.ds q.most.length (.ints .i64 q.most))) (as_eq rfl) ?_
 iterate 2 refine sXBd_4 ?_
 refine z1h ?_;refine exA (.c (.ds q.top.length (.ints .i64 q.top))) (as_eq rfl) ?_;refine sXBd_4 ?_;refine z1h ?_;refine⟨l,q.most.length,q.top.length,rfl,⟨hl,by omega,by omega⟩,?_⟩;refine DBd_3 ?_
 first|refine exA (litV lt) (as_eq (by rw[hlt])) ?_|(intro cap7 hcap7;refine exA (litV lt) (as_eq (by rw[hlt])) ?_)
 refine sXBd_4 ?_;refine sX0Ce_5 ?_;refine s_n K10 ?_;refine leW [0] id [(1,.c (.ds l.length (.u8s l))),(3,.c (.dp (.cells (rawL s ws vs nd)) 0)),(5,.c (.dp (.cells (vlsL us n)) 0)),(6,.c (.bool false)),(7,.c (.bool true)),(8,.c (.dp (.cells (prbL q)) 0)),(9,.c (.dp (.cells (mdlL m)) 0)),(10,.c (.dp (.cells (litL lt)) 0))] [] 0 [] uCs_0 uCs_0 uCs_0 uCs_0 ?_;refine srD zbz [(0,true),(1,true),(2,true),(3,true),(5,true),(7,true),(8,true),(4,false),(6,false),(9,false),(10,true),(11,true),(12,true),(13,false),(14,true),(15,true),(16,true),(17,true)] rfl kQf kQf fun _ K12=>?_;refine zii ?_;refine zca ?_;refine exB (fun hb1=>?_) (fun hb1=>?_)
 rotate_left 1
 ·exfalso;first|exact absurd hb1 (by decide)|exact hb1 rfl|(simp at hb1;done)|omega
 refine z6k ?_;refine exA (prbV q) (as_eq rfl) ?_;refine z6k ?_;refine exA (litV lt) (as_eq rfl) ?_;refine z6k ?_;refine exA (mdlV m) (as_eq rfl) ?_;refine z6k ?_;refine exA (prbV q) (as_eq rfl) ?_;refine z6k ?_;refine exA (mdlV m) (as_eq rfl) ?_;refine zch ?_
 try refine aI (z00.noclo (z0c _)) ?_
 try refine aI (z00.noclo (z0e _)) ?_
 refine⟨q,lt,rfl,by omega,?_⟩;refine DBd_3 ?_
 first|refine exI ?_|(intro cap4 hcap4;refine exI ?_)
 refine zch ?_
 try refine aI (z00.noclo (z0c _)) ?_
 try refine aI (z00.noclo (z06 _)) ?_
 refine⟨withQ q lt,m,rfl,⟨hww,by omega,by omega,hmw⟩,?_⟩;refine DBd_3 ?_
 first|refine exA (.c (.bool (z1r q m&&z2u lt m))) (as_b (hwv)) ?_|(intro cap6 hcap6;refine exA (.c (.bool (z1r q m&&z2u lt m))) (as_b (hwv)) ?_)
 refine zch ?_
 try refine aI (z00.noclo (z0c _)) ?_
 try refine aI (z00.noclo (z06 _)) ?_
 refine⟨q,m,rfl,⟨hqo.w,by omega,by omega,hmw⟩,?_⟩;refine DBd_3 ?_
 first|refine exI ?_|(intro cap9 hcap9;refine exI ?_)
 refine z6k ?_;refine exB (fun hb10=>?_) (fun hb10=>?_)
 ·try simp only[dQ,reduceIte]at hb10
  refine z6k ?_;refine exA (litV lt) (as_eq rfl) ?_;refine z6k ?_;refine exA (mdlV m) (as_eq rfl) ?_;refine zch ?_
  try refine aI (z00.noclo (z0e _)) ?_
  try refine aI (z00.noclo (z06 _)) ?_
  refine⟨lt,m,rfl,⟨hlw,hsm⟩,?_⟩;refine DBd_3 ?_
  first|refine exI ?_|(intro cap13 hcap13;refine exI ?_)
  iterate 2 refine ztp ?_
  iterate 2 refine zii ?_
  refine d_n K12 ?_;refine z0j (z03 zbz (fun _ _ h=>h) (by first|rfl|assumption) [.tmp 6] rfl ?_);refine rtD ?_
  show SV.c (.bool _)=SV.c (.bool true)
  exact congrArg (fun v=>SV.c (Cell.bool v)) (by first|rfl|(simp_all;done)|(cases z1r q m<;>cases z2u lt m<;>simp_all))
 ·try simp only[dQ,reduceIte]at hb10
  iterate 3 refine gN ?_
  iterate 2 refine ztp ?_
  iterate 2 refine zii ?_
  refine d_n K12 ?_;refine z0j (z03 zbz (fun _ _ h=>h) (by first|rfl|assumption) [.tmp 6] rfl ?_);refine rtD ?_
  show SV.c (.bool _)=SV.c (.bool true)
  exact congrArg (fun v=>SV.c (Cell.bool v)) (by first|rfl|(simp_all;done)|(cases z1r q m<;>cases z2u lt m<;>simp_all))


end Go.Proofs.YtegdcifghaldoaaDoor
