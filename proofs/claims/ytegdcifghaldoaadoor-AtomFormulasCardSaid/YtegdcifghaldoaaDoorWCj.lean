/- The law AtomFormulas. -/
import Derived.Test.YtegdcifghaldoaaDoorQk
import Derived.Test.YtegdcifghaldoaaDoorQj
set_option maxHeartbeats 4000000
namespace Go.Proofs.YtegdcifghaldoaaDoor
set_option linter.all false
open Go.Ab Go.RowKit

section
variable {a b:Prop}
theorem qCj0(h:a:=by first|exact vcA|(simp[hrl]<;>omega)|exact Nat.le_of_ble_eq_true rfl|(refine⟨by omega,by omega,?_⟩;exact z01.solid (fndR.dat _))|exact z42.mpr ⟨by omega,by omega⟩|exact⟨by omega,by omega⟩|(refine⟨by omega,by omega,?_⟩;exact pl2 rfl rfl)|(simp only[z2a];rw[hrl];omega)|(show(z0n _ _).length=_;rw[hrl])|(show _< (z0n _ _).length;first|(rw[z0v itmR (fun _ _=>trivial)];omega)|(rw[z0v fndR (fun _ _=>trivial)];omega))|(show _≤(z0n _ _).length;first|(rw[z0v itmR (fun _ _=>trivial)];omega)|(rw[z0v fndR (fun _ _=>trivial)];omega))|rfl|exact(by decide:List.Nodup [0,1])|exact(by decide:List.Nodup [0,1,2])|exact vcB):a:=h
theorem qCj1(h:a:=by first|(rw[dual3 h_t38];done)|(rw[dual3 h_t38];rfl)|(rw[dual4 h_t38 h_t41];done)|(rw[dual4 h_t38 h_t41];rfl)|(rw[dual0 h_t38 h_t41];done)|(rw[dual0 h_t38 h_t41];rfl)):a:=h
theorem uCj_2(h:a:=by
    repeat' (first|exact z5n fndR _|exact z01.to (z0i _)|exact z01.low (z0i _)|exact z01.to (z0k _)|exact z01.low (z0k _)|exact z01.to (z0l _)|exact z01.low (z0l _)|exact z01.to (z09 _)|exact z01.low (z09 _)|exact z01.to (z0m _)|exact z01.low (z0m _)|exact z01.to (z0b _)|exact z01.low (z0b _)|exact z01.to (z0d _ _)|exact z01.low (z0d _ _)|exact z01.to (z00 itmR _)|exact z01.low (z00 itmR _)|exact z01.to (z00 movR _)|exact z01.low (z00 movR _)|exact z01.to (z00 pceR _)|exact z01.low (z00 pceR _)|exact z01.to (z00 fndR _)|exact z01.low (z00 fndR _)|exact z01.to (z00 atmR _)|exact z01.low (z00 atmR _)|exact z01.to (z00 litR _)|exact z01.low (z00 litR _)|exact z01.to (z00 mdlR _)|exact z01.low (z00 mdlR _)|exact z0t (z0h z0q z03)|exact z0p (z0h z0q z03)|exact z0t z03|exact z0p z03|exact trivial|refine aI ?_ ?_|exact cC0|refine low_cons' ?_ ?_|exact cC1|fail)
    all_goals first|omega|(rw[hdl];exact hke)|(show(_:Nat)=_;rw[hdl];omega)|(simp[hrl];done)|(rw[if_pos ⟨rfl,by simp[hrl,hdl]⟩];done)|(show(_:Cont)=_;rw[if_pos ⟨rfl,by simp only[z2a];rw[hrl,hdl];rfl⟩];done)|(simp only[z2a];rw[hrl];exact Nat.le_of_eq (by simp))|(simp[-List.reduceReplicate];done)|(simp[-List.reduceReplicate]<;>omega)|skip):a:=h
theorem DCj_0(kZ:b)(h:HidB b→a:=by intro kZ;(repeat first|refine aI qCj0 ?_|refine z0f qCj0 ?_|refine z0a qCj0 ?_|refine z0r qCj0 ?_|refine z0g ?_);exact kZ.out):a:=h ⟨kZ⟩
theorem z21(kZ:b)(h:HidB b→a:=by intro kZ;refine sX ?_;refine DCj_0 ?_;refine exI ?_;exact kZ.out):a:=h ⟨kZ⟩
theorem zil(kZ:b)(h:HidB b→a:=by intro kZ;refine sX0 ?_;refine DCj_0 ?_;refine exI ?_;exact kZ.out):a:=h ⟨kZ⟩
theorem zaf(kZ:b)(h:HidB b→a:=by intro kZ;refine dX ?_;refine DCj_0 ?_;refine exI ?_;exact kZ.out):a:=h ⟨kZ⟩
theorem z3x(kZ:b)(h:HidB b→a:=by intro kZ;refine dXT ?_;refine DCj_0 ?_;refine exI ?_;exact kZ.out):a:=h ⟨kZ⟩
theorem gXTCj_5(kZ:b)(h:HidB b→a:=by intro kZ;refine gXT ?_;refine DCj_0 ?_;refine exI ?_;exact kZ.out):a:=h ⟨kZ⟩
theorem z3y(kZ:b)(h:HidB b→a:=by intro kZ;refine sX ?_;refine DCj_0 ?_;exact kZ.out):a:=h ⟨kZ⟩
theorem z8a(kZ:b)(h:HidB b→a:=by intro kZ;refine dX ?_;refine DCj_0 ?_;exact kZ.out):a:=h ⟨kZ⟩
theorem z2y(kZ:b)(h:HidB b→a:=by intro kZ;refine dXT ?_;refine DCj_0 ?_;exact kZ.out):a:=h ⟨kZ⟩
theorem z4g(kZ:b)(h:HidB b→a:=by intro kZ;refine gXT ?_;refine DCj_0 ?_;exact kZ.out):a:=h ⟨kZ⟩
end
open Go.Aut
def nilTo:List SV→List SV→Prop
  |[],[]=>True
  |v::vs,u::us=>(v=u∨v= .c .nils∧∃ c,u= .c (.ds 0 c)∧c.len=0∧c.low 0)∧nilTo vs us
  |_,_=>False
theorem zgo:∀ {vs us:List SV},nilTo vs us→vs.length=us.length
  |[],[],_=>rfl
  |_::_,_::_,h=>by simp[zgo h.2]
  |[],_::_,h=>h.elim
  |_::_,[],h=>h.elim
theorem zgp:∀ {vs us:List SV} {j:Nat} {u:SV},nilTo vs us→us[j]? =some u→∃ v,vs[j]? =some v∧(v=u∨v= .c .nils∧∃ c,u= .c (.ds 0 c)∧c.len=0∧c.low 0)
  |[],[],j,u,_,h=>by simp at h
  | v::vs,u'::us,0,u,hn,h=>by
    simp only[List.getElem?_cons_zero,Option.some.injEq]at h
    subst h;exact⟨v,rfl,hn.1⟩
  | v::vs,u'::us,j+1,u,hn,h=>by
    simp only[List.getElem?_cons_succ]at h ⊢
    exact zgp hn.2 h
  |[],_::_,_,_,h,_=>h.elim
  |_::_,[],_,_,h,_=>h.elim
def orNil(q:QSpec):QSpec:=fun vs K=>∃ us,nilTo vs us∧q us K
theorem flat_nil{P:Program}{glob:Nat→Option Cont}{f:FuncId}{q:QSpec}(h:z11 P glob f q):z11 P glob f (orNil q):=by
  rintro vs K ⟨us,hn,hq⟩
  obtain⟨v,hK,hf,hc⟩:=h us K hq;refine⟨v,hK,hf,fun I w xs hG hlt hA=>hc I w xs hG hlt ⟨hA.1.trans (zgo hn),fun j u hu=>?_⟩⟩;obtain⟨v',hv',hor⟩:=zgp hn hu;obtain⟨x,hx,hr,hl⟩:=hA.2 j v' hv'
  rcases hor with rfl|⟨rfl,c,rfl,hc0,hcl⟩
  · exact⟨x,hx,hr,hl⟩
  · have hx':=(SV.rel_flat (x:=.c .nils) rfl).1 hr
    subst hx';exact⟨_,hx,CellD.ds0 c _ _ hc0,trivial⟩
def vB(a b c:Bool):List Bool:=[a,b,c]
def nF(m:List UInt8):Nat:=(madeF m 3).length
theorem dual3{x:FNd}(h:x.kind=3):dualN x=⟨4,x.l,x.r⟩:=by rw[dualN,if_pos h]
theorem dual4{x:FNd}(h1:¬ x.kind=3)(h:x.kind=4):dualN x=⟨3,x.l,x.r⟩:=by rw[dualN,if_neg h1,if_pos h]
theorem dual0{x:FNd}(h1:¬ x.kind=3)(h:¬ x.kind=4):dualN x=x:=by rw[dualN,if_neg h1,if_neg h]
attribute [local irreducible] madeF z1l
noncomputable def cfo:Ctx:={ P:=Tryd.prog,ty:=ty,glob:=gl,fs:=[(10,.flat zq1),(13,.data madeFS),(14,.flat (orNil zkd)),(15,.data nodeS)] }
theorem z34:cfo.OK:=⟨tyOK,⟨⟨z07 Tryd.func10 kQf rfl,zq2⟩,⟨z07 Tryd.func13 kQf rfl,madeF_ok⟩,⟨z07 Tryd.func14 kQf rfl,(flat_nil zea)⟩,⟨z07 Tryd.func15 kQf rfl,node_ok⟩,trivial⟩,mixed⟩
@[simp] theorem cfo_ty:cfo.ty=ty:=rfl

def zgq:QSpec:=fun vs K=>∃ (m:List UInt8) (v0 v1 v2:Bool),vs=[.c (.ds m.length (.u8s m)),.agg (.bools [v0,v1,v2])]∧m.length≤9223372036854775807∧K (.c (.bool true))
theorem zcl:z11 Tryd.prog gl 4 zgq:=by
 refine z0w (Γ:=cfo) (N:=118) Tryd.func4 rfl rfl fun vs K h=>?_;obtain⟨m,v0,v1,v2,rfl,hm,h⟩:=h;refine⟨_,h,rfl,by simp,fun w I=>?_⟩
 have hok:z1j (madeF m 3) (vB v0 v1 v2).length=true:=zm1 m (by decide)
 have hfl:=zgj m 3
 have hnf:nF m=(madeF m 3).length:=rfl
 refine srR z34 fun _ K2=>?_
 iterate 2 refine z21 ?_
 refine s_n K2 ?_;refine srR z34 fun _ K4=>?_
 iterate 2 refine z21 ?_
 refine s_n K4 ?_;refine leW [0] id [(0,.c (.ds m.length (.u8s m))),(3,.c (.dp (.bools (vB v0 v1 v2)) 0)),(4,.c (.bool false)),(5,.c (.bool true))] [] 0 [] uBc_0 uBc_0 uBc_0 uBc_0 ?_;refine srR z34 fun _ K6=>?_;refine z21 ?_;refine z3y ?_;refine⟨m,3,rfl,⟨hm,by decide,by decide⟩,?_⟩;refine DCj_0 ?_
 first|refine exI ?_|(intro cap1 hcap1;refine exI ?_)
 refine z21 ?_;refine s_n K6 ?_;refine srR z34 fun _ K8=>?_;refine z21 ?_;refine z3y ?_;refine exA (.c (.ds (vB v0 v1 v2).length (.bools (vB v0 v1 v2)))) (as_eq rfl) ?_;refine z3y ?_;refine⟨[.c (.ds (madeF m 3).length (.cells (z0n fndL (madeF m 3)))),.c (.ds (vB v0 v1 v2).length (.bools (vB v0 v1 v2)))],⟨.inl (by first|rfl|(simp[nF];done)),.inl rfl,trivial⟩,(madeF m 3),(vB v0 v1 v2),rfl,⟨by first|omega|(simp;omega),(by show 3≤_;decide)⟩,?_⟩;refine DCj_0 ?_
 first|refine exI ?_|(intro cap2 hcap2;refine exI ?_)
 refine z21 ?_;refine s_n K8 ?_;refine srR z34 fun _ K10=>?_;refine z21 ?_;refine z3y ?_;refine exA (.c (.int .i64 ((nF m:Nat):Int))) (as_eq rfl) ?_;refine z21 ?_;refine s_n K10 ?_;refine srR z34 fun _ K12=>?_
 iterate 3 refine z21 ?_
 refine z3y ?_;refine exA (.agg (.cells (fndL (notF (nF m))))) (as_eq rfl) ?_;refine z3y ?_
 try refine aI (z01.noclo (fndR.dat _)) ?_
 refine⟨(madeF m 3),notF (nF m),by first|rfl|(simp[nF];done),by first|omega|(simp;omega),?_⟩;refine DCj_0 ?_
 first|refine exI ?_|(intro cap4 hcap4;refine exI ?_)
 refine z21 ?_;refine s_n K12 ?_;refine srR z34 fun _ K14=>?_
 iterate 2 refine z21 ?_
 refine s_n K14 ?_;refine seq_k fun _ K15=>?_;refine srR z34 fun _ K17=>?_;refine z21 ?_;refine s_n K17 ?_;refine z0e ?_;refine z13 (α:=Nat×Nat) (fun k=>[(3,.c (.dp (.bools (vB v0 v1 v2)) 0)),(5,.c (.bool true)),(6,.c (.ds (madeF m 3).length (.cells (z0n fndL (madeF m 3))))),(7,.c (.bool (z1l (madeF m 3) (vB v0 v1 v2)))),(8,.c (.int .i64 ((nF m:Nat):Int))),(9,.c (.ds (madeF m 3++[notF (nF m)]).length (.cells (z0n fndL (madeF m 3++[notF (nF m)]))))),(10,.c (.slice 0 0 (((madeF m 3).take k.1).map dualN).length k.2)),(11,.c (.int .i64 (k.1:Nat)))]) (fun k=>[(0,.own 39 (.cells (z0n fndL (((madeF m 3).take k.1).map dualN))) (k.2*3))]) 1 (fun k=>k.1≤nF m) (fun k=>(madeF m 3).length - k.1) ?_ ?_
 ·refine dnS [] id (0,0) (by simp) [0] uBw_1 uBw_1 uBw_1 uBw_1
 ·intro k hk
  refine seq_k fun _ K18=>?_;refine srR z34 fun _ K20=>?_
  iterate 3 refine z21 ?_
  refine s_n K20 ?_;refine z06 (b:=_) rfl (fun h_t29=>?_) (fun h_t29=>?_)
  ·try simp only[dQ,reduceIte]at h_t29
   refine z0j ?_;apply K18;refine seq_k fun _ K21=>?_;refine z0e ?_
   have hkl:k.1< (madeF m 3).length:=by omega
   obtain⟨x,hx⟩:=hasAt hkl
   have hkL:(((madeF m 3).take k.1).map dualN).length=k.1:=z1f (by omega)
   have hrl:=z0v fndR (l:=((madeF m 3).take k.1).map dualN) (fun _ _=>trivial)
   refine srR z34 fun _ K23=>?_
   iterate 3 refine z21 ?_
   refine z3y ?_;refine exA (.agg (.cells (fndL x))) (z36 fndR (fun _ _=>trivial) (i:=k.1) (by first|rfl|omega) rfl hx) ?_;refine z21 ?_;refine zil ?_;refine s_n K23 ?_;refine seq_k fun _ K24=>?_;refine srR z34 fun _ K26=>?_;refine z21 ?_;refine z3y ?_;refine exA (.c (.int .i64 x.kind)) (as_eq rfl) ?_;refine s_n K26 ?_;refine z0e ?_;refine srR z34 fun _ K28=>?_
   iterate 2 refine z21 ?_
   refine s_n K28 ?_;refine z06 (b:=_) rfl (fun h_t38=>?_) (fun h_t38=>?_)
   ·try simp only[dQ,reduceIte]at h_t38
    refine z04 z34 fun _ K29=>?_;refine z21 ?_;refine zil ?_;refine s_n K29 ?_;refine z08 ?_;apply K24;refine z04 z34 fun _ K30=>?_;refine z21 ?_;refine z3y ?_;refine exA (.agg (.cells (fndL (dualN x)))) (as_eq qCj1) ?_;refine z21 ?_;refine z3y ?_;intro cap3 hcap3;refine exI ?_;refine z21 ?_;refine s_n K30 ?_;refine z08 ?_;apply K21;refine z04 z34 fun _ K31=>?_
    iterate 3 refine z21 ?_
    refine s_n K31 ?_
    have hsucc:=z2m (g:=dualN) hx
    refine dnS [] (fun _=>3) (k.1+1,cap3) ⟨by first|omega|exact⟨by omega,by omega⟩,by omega⟩ [3] uBw_1 uBw_1 uBw_1 uBw_1
   ·try simp only[dQ,reduceIte]at h_t38
    refine srR z34 fun _ K33=>?_
    iterate 2 refine z21 ?_
    refine s_n K33 ?_;refine z06 (b:=_) rfl (fun h_t41=>?_) (fun h_t41=>?_)
    ·try simp only[dQ,reduceIte]at h_t41
     refine z04 z34 fun _ K34=>?_;refine z21 ?_;refine zil ?_;refine s_n K34 ?_;refine z08 ?_;apply K24;refine z04 z34 fun _ K35=>?_;refine z21 ?_;refine z3y ?_;refine exA (.agg (.cells (fndL (dualN x)))) (as_eq qCj1) ?_;refine z21 ?_;refine z3y ?_;intro cap3 hcap3;refine exI ?_;refine z21 ?_;refine s_n K35 ?_;refine z08 ?_;apply K21;refine z04 z34 fun _ K36=>?_
     iterate 3 refine z21 ?_
     refine s_n K36 ?_
     have hsucc:=z2m (g:=dualN) hx
     refine dnS [] (fun _=>3) (k.1+1,cap3) ⟨by first|omega|exact⟨by omega,by omega⟩,by omega⟩ [3] uBw_1 uBw_1 uBw_1 uBw_1
    ·try simp only[dQ,reduceIte]at h_t41
     refine z0j ?_;refine z08 ?_;apply K24;refine z04 z34 fun _ K37=>?_;refine z21 ?_;refine z3y ?_;refine exA (.agg (.cells (fndL (dualN x)))) (as_eq qCj1) ?_;refine z21 ?_;refine z3y ?_;intro cap3 hcap3;refine exI ?_;refine z21 ?_;refine s_n K37 ?_;refine z08 ?_;apply K21;refine z04 z34 fun _ K38=>?_
     iterate 3 refine z21 ?_
     refine s_n K38 ?_
     have hsucc:=z2m (g:=dualN) hx
     refine dnS [] (fun _=>3) (k.1+1,cap3) ⟨by first|omega|exact⟨by omega,by omega⟩,by omega⟩ [3] uBw_1 uBw_1 uBw_1 uBw_1
  ·try simp only[dQ,reduceIte]at h_t29
   refine z0z ?_;refine z05 ?_;refine z05 ?_;refine z0s ?_;apply K15;refine seq_k fun _ K39=>?_
   have hke:k.1=nF m:=by omega
   have hfin:((madeF m 3).take k.1).map dualN=dualF (madeF m 3):=by rw[hke,nF,List.take_length];rfl
   have hrl:=z0v fndR (l:=dualF (madeF m 3)) (fun _ _=>trivial)
   have hdl:(dualF (madeF m 3)).length=nF m:=List.length_map ..
   rw[hfin];refine leW [0] id [(3,.c (.dp (.bools (vB v0 v1 v2)) 0)),(5,.c (.bool true)),(6,.c (.ds (madeF m 3).length (.cells (z0n fndL (madeF m 3))))),(7,.c (.bool (z1l (madeF m 3) (vB v0 v1 v2)))),(8,.c (.int .i64 ((nF m:Nat):Int))),(9,.c (.ds (madeF m 3++[notF (nF m)]).length (.cells (z0n fndL (madeF m 3++[notF (nF m)]))))),(10,.c (.ds (dualF (madeF m 3)).length (.cells (z0n fndL (dualF (madeF m 3))))))] [] 0 [] uCj_2 uCj_2 uCj_2 uCj_2 ?_;refine zj3 z34 ((0,true)::(1,true)::(2,true)::(3,true)::(5,true)::(6,true)::(4,false)::(7,true)::(8,true)::(9,true)::(10,true)::(11,true)::(12,true)::(13,true)::(14,true)::(15,true)::(17,true)::(19,true)::(16,false)::(18,false)::(20,true)::(21,true)::(22,true)::(23,true)::(24,true)::(25,true)::(26,true)::(27,true)::(29,true)::(28,false)::(30,false)::(31,true)::(32,true)::(33,true)::(34,true)::(35,true)::(36,true)::(37,true)::(39,true)::(38,false)::(40,false)::(41,true)::(42,true)::(43,true)::(44,true)::(45,true)::(46,true)::(47,true)::(48,true)::(49,true)::(50,true)::(51,true)::(52,true)::(53,true)::(56,true)::(57,true)::(54,false)::(55,false)::(58,true)::(59,true)::(60,true)::(61,true)::(62,false)::(63,true)::(64,true)::(65,true)::(66,true)::(67,false)::(68,true)::(69,true)::(70,true)::[]) rfl kQf kQf fun _ K40=>?_;refine zaf ?_;refine z8a ?_;refine exB (fun hb1=>?_) (fun hb1=>?_)
   rotate_left 1
   ·exfalso;first|exact absurd hb1 (by decide)|exact hb1 rfl|(simp at hb1;done)|omega
   refine z3x ?_;refine z2y ?_;refine exA (.c (.ds (vB v0 v1 v2).length (.bools (vB v0 v1 v2)))) (as_eq rfl) ?_
   iterate 2 refine z3x ?_
   refine z4g ?_;refine⟨[.c (.ds (madeF m 3++[notF (nF m)]).length (.cells (z0n fndL (madeF m 3++[notF (nF m)])))),.c (.ds (vB v0 v1 v2).length (.bools (vB v0 v1 v2)))],⟨.inl (by first|rfl|(simp[nF];done)),.inl rfl,trivial⟩,(madeF m 3++[notF (nF m)]),(vB v0 v1 v2),rfl,⟨by first|omega|(simp;omega),(by show 3≤_;decide)⟩,?_⟩;refine DCj_0 ?_
   first|refine exA (.c (.bool (!z1l (madeF m 3) (vB v0 v1 v2)))) (as_b (zgl hok)) ?_|(intro cap4 hcap4;refine exA (.c (.bool (!z1l (madeF m 3) (vB v0 v1 v2)))) (as_b (zgl hok)) ?_)
   refine z2y ?_;refine exA (.c (.bool (true))) (as_b (by simp)) ?_;refine zaf ?_;refine z8a ?_;refine exB (fun hb9=>?_) (fun hb9=>?_)
   rotate_left 1
   ·exfalso;first|exact absurd hb9 (by decide)|exact hb9 rfl|(simp at hb9;done)|omega
   iterate 5 refine z3x ?_
   refine z2y ?_;refine exA (.agg (.cells (fndL ⟨3,((nF m:Nat):Int) - 1,((nF m:Nat):Int) - 1⟩))) (as_eq rfl) ?_;refine z2y ?_;refine exA (.c (.ds (vB v0 v1 v2).length (.bools (vB v0 v1 v2)))) (as_eq rfl) ?_;refine z3x ?_;refine z4g ?_
   try refine aI (z01.noclo (fndR.dat _)) ?_
   refine⟨(madeF m 3),(FNd.mk 3 (((nF m:Nat):Int) - 1) (((nF m:Nat):Int) - 1)),by first|rfl|(simp[nF];done),by first|omega|(simp;omega),?_⟩;refine DCj_0 ?_
   first|refine exI ?_|(intro cap16 hcap16;refine exI ?_)
   refine z4g ?_;refine⟨[.c (.ds ((madeF m 3)++[FNd.mk 3 (((nF m:Nat):Int) - 1) (((nF m:Nat):Int) - 1)]).length (.cells (z0n fndL ((madeF m 3)++[FNd.mk 3 (((nF m:Nat):Int) - 1) (((nF m:Nat):Int) - 1)])))),.c (.ds (vB v0 v1 v2).length (.bools (vB v0 v1 v2)))],⟨.inl (by first|rfl|(simp[nF];done)),.inl rfl,trivial⟩,((madeF m 3)++[FNd.mk 3 (((nF m:Nat):Int) - 1) (((nF m:Nat):Int) - 1)]),(vB v0 v1 v2),rfl,⟨by first|omega|(simp;omega),(by show 3≤_;decide)⟩,?_⟩;refine DCj_0 ?_
   first|refine exA (.c (.bool (z1l (madeF m 3) (vB v0 v1 v2)))) (as_b (zgm hok)) ?_|(intro cap18 hcap18;refine exA (.c (.bool (z1l (madeF m 3) (vB v0 v1 v2)))) (as_b (zgm hok)) ?_)
   refine z2y ?_;refine exA (.c (.bool (true))) (as_b (by simp)) ?_;refine zaf ?_;refine z8a ?_;refine exB (fun hb22=>?_) (fun hb22=>?_)
   rotate_left 1
   ·exfalso;first|exact absurd hb22 (by decide)|exact hb22 rfl|(simp at hb22;done)|omega
   iterate 4 refine z3x ?_
   refine z2y ?_;refine exA (.agg (.cells (fndL ⟨4,((nF m:Nat):Int) - 1,((nF m:Nat):Int)⟩))) (as_eq rfl) ?_;refine z2y ?_;refine exA (.c (.ds (vB v0 v1 v2).length (.bools (vB v0 v1 v2)))) (as_eq rfl) ?_;refine z4g ?_
   try refine aI (z01.noclo (fndR.dat _)) ?_
   refine⟨(madeF m 3++[notF (nF m)]),(FNd.mk 4 (((nF m:Nat):Int) - 1) (((nF m:Nat):Int))),by first|rfl|(simp[nF];done),by first|omega|(simp;omega),?_⟩;refine DCj_0 ?_
   first|refine exI ?_|(intro cap28 hcap28;refine exI ?_)
   refine z4g ?_;refine⟨[.c (.ds ((madeF m 3++[notF (nF m)])++[FNd.mk 4 (((nF m:Nat):Int) - 1) (((nF m:Nat):Int))]).length (.cells (z0n fndL ((madeF m 3++[notF (nF m)])++[FNd.mk 4 (((nF m:Nat):Int) - 1) (((nF m:Nat):Int))])))),.c (.ds (vB v0 v1 v2).length (.bools (vB v0 v1 v2)))],⟨.inl (by first|rfl|(simp[nF];done)),.inl rfl,trivial⟩,((madeF m 3++[notF (nF m)])++[FNd.mk 4 (((nF m:Nat):Int) - 1) (((nF m:Nat):Int))]),(vB v0 v1 v2),rfl,⟨by first|omega|(simp;omega),(by show 3≤_;decide)⟩,?_⟩;refine DCj_0 ?_
   first|refine exA (.c (.bool (true))) (as_b (zkr hok)) ?_|(intro cap30 hcap30;refine exA (.c (.bool (true))) (as_b (zkr hok)) ?_)
   refine zaf ?_;refine z8a ?_;refine exB (fun hb32=>?_) (fun hb32=>?_)
   rotate_left 1
   ·exfalso;first|exact absurd hb32 (by decide)|exact hb32 rfl|(simp at hb32;done)|omega
   iterate 4 refine z3x ?_
   refine z2y ?_;refine exA (.agg (.cells (fndL ⟨3,((nF m:Nat):Int),((nF m:Nat):Int) - 1⟩))) (as_eq rfl) ?_;refine z2y ?_;refine exA (.c (.ds (vB v0 v1 v2).length (.bools (vB v0 v1 v2)))) (as_eq rfl) ?_;refine z4g ?_
   try refine aI (z01.noclo (fndR.dat _)) ?_
   refine⟨(madeF m 3++[notF (nF m)]),(FNd.mk 3 (((nF m:Nat):Int)) (((nF m:Nat):Int) - 1)),by first|rfl|(simp[nF];done),by first|omega|(simp;omega),?_⟩;refine DCj_0 ?_
   first|refine exI ?_|(intro cap38 hcap38;refine exI ?_)
   refine z4g ?_;refine⟨[.c (.ds ((madeF m 3++[notF (nF m)])++[FNd.mk 3 (((nF m:Nat):Int)) (((nF m:Nat):Int) - 1)]).length (.cells (z0n fndL ((madeF m 3++[notF (nF m)])++[FNd.mk 3 (((nF m:Nat):Int)) (((nF m:Nat):Int) - 1)])))),.c (.ds (vB v0 v1 v2).length (.bools (vB v0 v1 v2)))],⟨.inl (by first|rfl|(simp[nF];done)),.inl rfl,trivial⟩,((madeF m 3++[notF (nF m)])++[FNd.mk 3 (((nF m:Nat):Int)) (((nF m:Nat):Int) - 1)]),(vB v0 v1 v2),rfl,⟨by first|omega|(simp;omega),(by show 3≤_;decide)⟩,?_⟩;refine DCj_0 ?_
   first|refine exA (.c (.bool (false))) (as_b (zks hok)) ?_|(intro cap40 hcap40;refine exA (.c (.bool (false))) (as_b (zks hok)) ?_)
   refine z3x ?_;refine zaf ?_;refine z8a ?_;refine exB (fun hb43=>?_) (fun hb43=>?_)
   rotate_left 1
   ·exfalso;first|exact absurd hb43 (by decide)|exact hb43 rfl|(simp at hb43;done)|omega
   iterate 2 refine z3x ?_
   refine z2y ?_;refine exA (.c (.bool (v0))) (as_b (rfl)) ?_
   iterate 2 refine z3x ?_
   refine z2y ?_;refine exA (.c (.bool (v1))) (as_b (rfl)) ?_
   iterate 2 refine z3x ?_
   refine z2y ?_;refine exA (.c (.bool (v2))) (as_b (rfl)) ?_
   iterate 3 refine z3x ?_
   refine gXTCj_5 ?_;refine z4g ?_;refine⟨[.c (.ds (dualF (madeF m 3)).length (.cells (z0n fndL (dualF (madeF m 3))))),.c (.ds ((vB v0 v1 v2).map (!·)).length (.bools ((vB v0 v1 v2).map (!·))))],⟨.inl (by first|rfl|(simp[nF];done)),.inl rfl,trivial⟩,(dualF (madeF m 3)),((vB v0 v1 v2).map (!·)),rfl,⟨by first|omega|(simp;omega),(by show 3≤_;decide)⟩,?_⟩;refine DCj_0 ?_
   first|refine exA (.c (.bool (!z1l (madeF m 3) (vB v0 v1 v2)))) (as_b (zdc hok)) ?_|(intro cap55 hcap55;refine exA (.c (.bool (!z1l (madeF m 3) (vB v0 v1 v2)))) (as_b (zdc hok)) ?_)
   refine z2y ?_;refine exA (.c (.bool (true))) (as_b (by simp)) ?_;refine zaf ?_;refine z8a ?_;refine exB (fun hb60=>?_) (fun hb60=>?_)
   rotate_left 1
   ·exfalso;first|exact absurd hb60 (by decide)|exact hb60 rfl|(simp at hb60;done)|omega
   refine z3x ?_;refine z4g ?_;refine⟨[.c (.ds (madeF m 3).length (.cells (z0n fndL (madeF m 3)))),.c (.ds 0 (.bools []))],⟨.inl rfl,.inr ⟨rfl,.bools [],rfl,rfl,trivial⟩,trivial⟩,(madeF m 3),[],rfl,⟨by omega,by decide⟩,?_⟩;refine DCj_0 ?_
   first|refine exA (.c (.bool (false))) (as_b (zgn m)) ?_|(intro cap62 hcap62;refine exA (.c (.bool (false))) (as_b (zgn m)) ?_)
   refine z3x ?_;refine zaf ?_;refine z8a ?_;refine exB (fun hb65=>?_) (fun hb65=>?_)
   rotate_left 1
   ·exfalso;first|exact absurd hb65 (by decide)|exact hb65 rfl|(simp at hb65;done)|omega
   refine z2y ?_;refine exA (.c (.ds (vB v0 v1 v2).length (.bools (vB v0 v1 v2)))) (as_eq rfl) ?_;refine z4g ?_;refine⟨[.c (.ds 0 (.cells [])),.c (.ds (vB v0 v1 v2).length (.bools (vB v0 v1 v2)))],⟨.inr ⟨rfl,.cells [],rfl,rfl,fun _ h=>by cases h⟩,.inl rfl,trivial⟩,[],(vB v0 v1 v2),rfl,⟨by decide,(by show 3≤_;decide)⟩,?_⟩;refine DCj_0 ?_
   first|refine exA (.c (.bool (false))) (as_b (zdd _)) ?_|(intro cap67 hcap67;refine exA (.c (.bool (false))) (as_b (zdd _)) ?_)
   refine z3x ?_
   iterate 2 refine zaf ?_
   refine d_n K40 ?_;apply K39;refine z0c (z02 z34 (fun _ _ h=>h) (by first|rfl|assumption) [.tmp 4] rfl ?_);refine rtD ?_
   rfl


end Go.Proofs.YtegdcifghaldoaaDoor
