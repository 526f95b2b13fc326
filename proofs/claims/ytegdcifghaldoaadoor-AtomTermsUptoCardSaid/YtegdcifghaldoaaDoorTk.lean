/- Contracts of functions and plain facts, part 11. -/
import Derived.Test.YtegdcifghaldoaaDoorTi
import Derived.Test.YtegdcifghaldoaaDoorTj
import Derived.Test.YtegdcifghaldoaaDoorTh
import Derived.Test.YtegdcifghaldoaaDoorTb
set_option maxHeartbeats 4000000
set_option maxRecDepth 4000
namespace Go.Proofs.YtegdcifghaldoaaDoor
set_option linter.all false
open Go.Ab Go.RowKit

section
variable {a b:Prop}
theorem qCf0(h:a:=by first|exact vcA|(simp<;>omega)|exact Nat.le_of_ble_eq_true rfl|exact⟨rfl,rfl,rfl,rfl,by decide⟩|exact(by decide:List.Nodup [0])|exact(by decide:List.Nodup [0,1])|exact(by decide:List.Nodup [0,4])|exact(by decide:List.Nodup [0,1,2,3])|exact(by decide:List.Nodup [0,1,2])|exact vcB):a:=h
theorem DCf_0(kZ:b)(h:HidB b→a:=by intro kZ;(repeat first|refine aI qCf0 ?_|refine z0d qCf0 ?_|refine z09 qCf0 ?_|refine z0p qCf0 ?_|refine z0e ?_);exact kZ.out):a:=h ⟨kZ⟩
theorem z6n(kZ:b)(h:HidB b→a:=by intro kZ;refine sX ?_;refine DCf_0 ?_;refine exI ?_;exact kZ.out):a:=h ⟨kZ⟩
theorem z75(kZ:b)(h:HidB b→a:=by intro kZ;refine sX0 ?_;refine DCf_0 ?_;refine exI ?_;exact kZ.out):a:=h ⟨kZ⟩
theorem z4j(kZ:b)(h:HidB b→a:=by intro kZ;refine dX ?_;refine DCf_0 ?_;refine exI ?_;exact kZ.out):a:=h ⟨kZ⟩
theorem z4t(kZ:b)(h:HidB b→a:=by intro kZ;refine dXT ?_;refine DCf_0 ?_;refine exI ?_;exact kZ.out):a:=h ⟨kZ⟩
theorem zi6(kZ:b)(h:HidB b→a:=by intro kZ;refine gXT ?_;refine DCf_0 ?_;refine exI ?_;exact kZ.out):a:=h ⟨kZ⟩
theorem zpe(kZ:b)(h:HidB b→a:=by intro kZ;refine sX ?_;refine DCf_0 ?_;exact kZ.out):a:=h ⟨kZ⟩
theorem z2z(kZ:b)(h:HidB b→a:=by intro kZ;refine dX ?_;refine DCf_0 ?_;exact kZ.out):a:=h ⟨kZ⟩
theorem zpf(kZ:b)(h:HidB b→a:=by intro kZ;refine gX ?_;refine DCf_0 ?_;exact kZ.out):a:=h ⟨kZ⟩
theorem z1n(kZ:b)(h:HidB b→a:=by intro kZ;refine dXT ?_;refine DCf_0 ?_;exact kZ.out):a:=h ⟨kZ⟩
theorem z1q(kZ:b)(h:HidB b→a:=by intro kZ;refine gXT ?_;refine DCf_0 ?_;exact kZ.out):a:=h ⟨kZ⟩
end
open Go.Aut
theorem as_nilsL{l m:List Cell}(hl:l.length=m.length)(h:∀ j,j< l.length→l.getD j .nils=m.getD j .nils∨(l.getD j .nils= .nils∧∃ c:Cont,c.len=0∧m.getD j .nils= .ds 0 c)):SV.as (.agg (.cells l)) (.agg (.cells m)):=by
  intro β I w x n hr hlow;obtain⟨vs,rfl,hlen,hc⟩:=hr;refine⟨⟨vs,rfl,hlen.trans hl,fun j hj=>?_⟩,fun y hy=>?_⟩
  · have hj':j< l.length:=hl▸hj
    obtain⟨v,hv,hr⟩:=hc j hj';refine⟨v,hv,?_⟩
    show(m.getD j .nils).rel β I w v
    have hr':(l.getD j .nils).rel β I w v:=hr
    rcases h j hj' with e|⟨e,c,hcl,e2⟩
    · rw[←e];exact hr'
    · rw[e]at hr'
      rw[e2]
      have hv:v= .slice none 0 0:=CellD.of_flat rfl hr'
      rw[hv];exact CellD.ds0 c none 0 hcl
  · obtain⟨j,hj,rfl⟩:=List.getElem_of_mem hy
    have e1:m.getD j .nils=m[j]:=by rw[List.getD_eq_getElem?_getD,List.getElem?_eq_getElem hj];rfl
    have hj':j< l.length:=hl▸hj
    have e3:l.getD j .nils=l[j]:=by rw[List.getD_eq_getElem?_getD,List.getElem?_eq_getElem hj'];rfl
    rcases h j hj' with e|⟨_,c,_,e2⟩
    · rw[←e1, ←e,e3];exact hlow _ (List.getElem_mem hj')
    · rw[←e1,e2];trivial
def zD:Dfa:={ cls:=[],nc:=0,next:=[],acc:=[] }
def zT:Tra:=⟨[],0,[],[],[]⟩
def zQ:Rul:=⟨0,0,0,0,false⟩
def sRow:Lit':=⟨⟨3,[],[],zD,[2,-1,1],-3,zT,zQ,0⟩,false⟩
def sGood:Mdl:=⟨[[97],[97,98]],[3]⟩
def sBad:Mdl:=⟨[[97],[97,98]],[2]⟩
def sPrb:Prb:=⟨[97,98],[1,2],[4],[sRow],[],[]⟩
def sPr0:Prb:=⟨[],[],[],[],[],[]⟩
def sFrm:List FNd:=[⟨1,1,0⟩,⟨2,0,0⟩,⟨1,0,0⟩,⟨3,1,2⟩]
def sSh:Mdl:=⟨[[98]],[]⟩
def sLg:Mdl:=⟨[[97,97]],[]⟩
def sFi:Mdl:=⟨[[97]],[5]⟩
def sSi:Mdl:=⟨[[97]],[6]⟩
theorem zD_wf:zD.wf:=⟨rfl,by decide,by decide,by decide,fun r hr=>(by cases hr)⟩
theorem zT_wf:zT.wf:=⟨rfl,by decide,by decide,by decide,by decide,fun r hr=>(by cases hr),fun r hr=>(by cases hr)⟩
theorem zQ_inr:zQ.inr:=by unfold Rul.inr zQ;refine⟨?_,?_,?_,?_⟩<;>exact z4m.mpr ⟨by decide,by decide⟩
theorem z8s:sRow.a.wfS:=⟨⟨by decide,by decide,zD_wf,by decide,zT_wf⟩,⟨by decide,by decide,by decide⟩,⟨by decide,by decide,by decide,by decide⟩,zQ_inr⟩
theorem zkb:(negL sRow).a.wfS:=z8s
theorem sGood_sm:sGood.sm:=⟨by decide,by decide,by decide,by decide⟩
theorem zpg:sBad.sm:=⟨by decide,by decide,by decide,by decide⟩
theorem sSh_sm:sSh.sm:=⟨by decide,by decide,by decide,by decide⟩
theorem zal:sPrb.wfS:=by
  refine⟨⟨by decide,by decide,by decide,by decide,by decide,by decide,fun l hl=>?_,fun a ha=>(by cases ha),fun f hf=>(by cases hf)⟩,fun l hl=>?_,fun a ha=>(by cases ha),fun f hf=>(by cases hf)⟩
  · obtain rfl:=List.mem_singleton.1 hl;exact z8s.1
  · obtain rfl:=List.mem_singleton.1 hl;exact z8s
theorem sPr0_wfS:sPr0.wfS:=⟨⟨by decide,by decide,by decide,by decide,by decide,by decide,fun l hl=>(by cases hl),fun a ha=>(by cases ha),fun f hf=>(by cases hf)⟩,fun l hl=>(by cases hl),fun a ha=>(by cases ha),fun f hf=>(by cases hf)⟩
theorem sn0:(itemL [88,98,88]).length≤9223372036854775807:=by decide
theorem sn1:wordN (itemL [88,98,88]) sGood.s=[97,98,97]:=by decide+kernel
theorem sn2:z4x sRow sGood=true:=by decide+kernel
theorem sn3:z4x sRow sBad=false:=by decide+kernel
theorem sn4:z4x (negL sRow) sBad=true:=by decide+kernel
theorem sn5:z4x (negL sRow) sSh=false:=by decide+kernel
theorem sn6:z1y sPrb=0:=by decide+kernel
theorem sn7:sizeN sPrb=105:=by decide+kernel
theorem sn8:z2j sPrb sGood=true:=by decide+kernel
theorem sn9:z2j sPrb sBad=false:=by decide+kernel
theorem sn10:z5w sFrm [true,false]=true:=by decide+kernel
theorem sn11:z5w sFrm [true,true]=false:=by decide+kernel
theorem sn12:z5w sFrm [true]=false:=by decide+kernel
theorem sn13:lessN sSh sLg=true:=by decide+kernel
theorem sn14:lessN sLg sSh=false:=by decide+kernel
theorem sn15:lessN sFi sSi=true:=by decide+kernel
theorem sn16:z1y sPr0=1:=by decide+kernel
theorem sPr0_as:SV.as (.agg (.cells [.nils,.nils,.nils,.nils,.nils,.nils])) (prbV sPr0):=as_nilsL rfl fun j hj=>by
  right
  match j,hj with
  |0,_=>exact⟨rfl,.u8s [],rfl,rfl⟩
  |1,_=>exact⟨rfl,.ints .i64 [],rfl,rfl⟩
  |2,_=>exact⟨rfl,.ints .i64 [],rfl,rfl⟩
  |3,_=>exact⟨rfl,.cells [],rfl,rfl⟩
  |4,_=>exact⟨rfl,.cells [],rfl,rfl⟩
  |5,_=>exact⟨rfl,.cells [],rfl,rfl⟩
attribute [local irreducible] z4x z2j z1y sizeN z5w lessN wordN itemL negL
noncomputable def csn:Ctx:={ P:=Tryd.prog,ty:=ty,glob:=gl,fs:=[(31,.data itemS),(12,.data wordS),(25,.flat holdsS),(32,.data negS),(30,.flat ze7),(22,.flat sizeQS),(20,.flat zp5),(14,.flat zoq),(16,.flat lessS)] }
theorem z6o:csn.OK:=⟨tyOK,⟨⟨z07 Tryd.func31 kQf rfl,item_ok⟩,⟨z07 Tryd.func12 kQf rfl,zhp⟩,⟨z07 Tryd.func25 kQf rfl,holds_ok⟩,⟨z07 Tryd.func32 kQf rfl,neg_ok⟩,⟨z07 Tryd.func30 kQf rfl,zc7⟩,⟨z07 Tryd.func22 kQf rfl,sizeQ_ok⟩,⟨z07 Tryd.func20 kQf rfl,zp6⟩,⟨z07 Tryd.func14 kQf rfl,zjy⟩,⟨z07 Tryd.func16 kQf rfl,less_ok⟩,trivial⟩,mixed⟩
@[simp] theorem csn_ty:csn.ty=ty:=rfl

def zph:QSpec:=fun vs K=>vs=[]∧K (.c (.bool true))
theorem zpi:z11 Tryd.prog gl 10 zph:=by
 refine z0u (Γ:=csn) (N:=144) Tryd.func10 rfl rfl fun vs K h=>?_;obtain⟨rfl,h⟩:=h;refine⟨_,h,rfl,by simp,fun w I=>?_⟩;refine srR z6o fun _ K2=>?_;refine z6n ?_;refine s_n K2 ?_;refine srR z6o fun _ K4=>?_
 iterate 5 refine z6n ?_
 refine z75 ?_;refine s_n K4 ?_;refine leW [0] (fun _=>1) [(1,.c (.ptr 0 0))] [(0,.own 76 (.cells (litL sRow)) 19)] 1 [1] uBc_0 uBc_0 uBc_0 uBc_0 ?_;refine leW [0] id [(1,.c (.dp (.cells (litL sRow)) 0))] [] 0 [] uBc_0 uBc_0 uBc_0 uBc_0 ?_;refine srR z6o fun _ K6=>?_
 iterate 8 refine z6n ?_
 refine z75 ?_;refine s_n K6 ?_;refine leW [2,3] (fun _=>4) [(1,.c (.dp (.cells (litL sRow)) 0)),(2,.c (.ptr 0 0))] [(0,.own 43 (.cells (mdlL sGood)) 2)] 1 [4] uBc_0 uBc_0 uBc_0 uBc_0 ?_;refine leW [0] id [(1,.c (.dp (.cells (litL sRow)) 0)),(2,.c (.dp (.cells (mdlL sGood)) 0))] [] 0 [] uBc_0 uBc_0 uBc_0 uBc_0 ?_;refine srR z6o fun _ K8=>?_;refine z6n ?_;refine zpe ?_;refine exA (.c (.ds 2 (.cells (lists sGood.s)))) (as_eq rfl) ?_
 iterate 3 refine z6n ?_
 refine z75 ?_;refine s_n K8 ?_;refine leW [0] (fun _=>1) [(1,.c (.dp (.cells (litL sRow)) 0)),(2,.c (.dp (.cells (mdlL sGood)) 0)),(3,.c (.ptr 0 0))] [(0,.own 43 (.cells (mdlL sBad)) 2)] 1 [1] uBc_0 uBc_0 uBc_0 uBc_0 ?_;refine leW [0] id [(1,.c (.dp (.cells (litL sRow)) 0)),(2,.c (.dp (.cells (mdlL sGood)) 0)),(3,.c (.dp (.cells (mdlL sBad)) 0))] [] 0 [] uBc_0 uBc_0 uBc_0 uBc_0 ?_;refine srR z6o fun _ K10=>?_
 iterate 4 refine z6n ?_
 refine zpe ?_;refine exA (litV sRow) (as_eq rfl) ?_
 iterate 3 refine z6n ?_
 refine z75 ?_;refine s_n K10 ?_;refine leW [1,2,3] (fun _=>4) [(1,.c (.dp (.cells (litL sRow)) 0)),(2,.c (.dp (.cells (mdlL sGood)) 0)),(3,.c (.dp (.cells (mdlL sBad)) 0)),(4,.c (.ptr 0 0))] [(0,.own 52 (.cells (prbL sPrb)) 6)] 1 [4] uBc_0 uBc_0 uBc_0 uBc_0 ?_;refine leW [0] id [(1,.c (.dp (.cells (litL sRow)) 0)),(2,.c (.dp (.cells (mdlL sGood)) 0)),(3,.c (.dp (.cells (mdlL sBad)) 0)),(4,.c (.dp (.cells (prbL sPrb)) 0))] [] 0 [] uBc_0 uBc_0 uBc_0 uBc_0 ?_;refine srR z6o fun _ K12=>?_
 iterate 6 refine z6n ?_
 refine s_n K12 ?_;refine leW [0] id [(1,.c (.dp (.cells (litL sRow)) 0)),(2,.c (.dp (.cells (mdlL sGood)) 0)),(3,.c (.dp (.cells (mdlL sBad)) 0)),(4,.c (.dp (.cells (prbL sPrb)) 0)),(5,.c (.ds 4 (.cells (z0o fndL sFrm))))] [] 0 [] uBc_0 uBc_0 uBc_0 uBc_0 ?_;refine srR z6o fun _ K14=>?_
 iterate 5 refine z6n ?_
 refine z75 ?_;refine s_n K14 ?_;refine leW [1] (fun _=>2) [(1,.c (.dp (.cells (litL sRow)) 0)),(2,.c (.dp (.cells (mdlL sGood)) 0)),(3,.c (.dp (.cells (mdlL sBad)) 0)),(4,.c (.dp (.cells (prbL sPrb)) 0)),(5,.c (.ds 4 (.cells (z0o fndL sFrm)))),(6,.c (.ptr 0 0))] [(0,.own 43 (.cells (mdlL sSh)) 2)] 1 [2] uBc_0 uBc_0 uBc_0 uBc_0 ?_;refine leW [0] id [(1,.c (.dp (.cells (litL sRow)) 0)),(2,.c (.dp (.cells (mdlL sGood)) 0)),(3,.c (.dp (.cells (mdlL sBad)) 0)),(4,.c (.dp (.cells (prbL sPrb)) 0)),(5,.c (.ds 4 (.cells (z0o fndL sFrm)))),(6,.c (.dp (.cells (mdlL sSh)) 0))] [] 0 [] uBc_0 uBc_0 uBc_0 uBc_0 ?_;refine srR z6o fun _ K16=>?_
 iterate 5 refine z6n ?_
 refine z75 ?_;refine s_n K16 ?_;refine leW [1] (fun _=>2) [(1,.c (.dp (.cells (litL sRow)) 0)),(2,.c (.dp (.cells (mdlL sGood)) 0)),(3,.c (.dp (.cells (mdlL sBad)) 0)),(4,.c (.dp (.cells (prbL sPrb)) 0)),(5,.c (.ds 4 (.cells (z0o fndL sFrm)))),(6,.c (.dp (.cells (mdlL sSh)) 0)),(7,.c (.ptr 0 0))] [(0,.own 43 (.cells (mdlL sLg)) 2)] 1 [2] uBc_0 uBc_0 uBc_0 uBc_0 ?_;refine leW [0] id [(1,.c (.dp (.cells (litL sRow)) 0)),(2,.c (.dp (.cells (mdlL sGood)) 0)),(3,.c (.dp (.cells (mdlL sBad)) 0)),(4,.c (.dp (.cells (prbL sPrb)) 0)),(5,.c (.ds 4 (.cells (z0o fndL sFrm)))),(6,.c (.dp (.cells (mdlL sSh)) 0)),(7,.c (.dp (.cells (mdlL sLg)) 0))] [] 0 [] uBc_0 uBc_0 uBc_0 uBc_0 ?_;refine srR z6o fun _ K18=>?_
 iterate 6 refine z6n ?_
 refine z75 ?_;refine s_n K18 ?_;refine leW [1,2] (fun _=>3) [(1,.c (.dp (.cells (litL sRow)) 0)),(2,.c (.dp (.cells (mdlL sGood)) 0)),(3,.c (.dp (.cells (mdlL sBad)) 0)),(4,.c (.dp (.cells (prbL sPrb)) 0)),(5,.c (.ds 4 (.cells (z0o fndL sFrm)))),(6,.c (.dp (.cells (mdlL sSh)) 0)),(7,.c (.dp (.cells (mdlL sLg)) 0)),(8,.c (.ptr 0 0))] [(0,.own 43 (.cells (mdlL sFi)) 2)] 1 [3] uBc_0 uBc_0 uBc_0 uBc_0 ?_;refine leW [0] id [(1,.c (.dp (.cells (litL sRow)) 0)),(2,.c (.dp (.cells (mdlL sGood)) 0)),(3,.c (.dp (.cells (mdlL sBad)) 0)),(4,.c (.dp (.cells (prbL sPrb)) 0)),(5,.c (.ds 4 (.cells (z0o fndL sFrm)))),(6,.c (.dp (.cells (mdlL sSh)) 0)),(7,.c (.dp (.cells (mdlL sLg)) 0)),(8,.c (.dp (.cells (mdlL sFi)) 0))] [] 0 [] uBc_0 uBc_0 uBc_0 uBc_0 ?_;refine srR z6o fun _ K20=>?_
 iterate 6 refine z6n ?_
 refine z75 ?_;refine s_n K20 ?_;refine seq_k fun _ K21=>?_;refine leW [1,2] (fun _=>3) [(1,.c (.dp (.cells (litL sRow)) 0)),(2,.c (.dp (.cells (mdlL sGood)) 0)),(3,.c (.dp (.cells (mdlL sBad)) 0)),(4,.c (.dp (.cells (prbL sPrb)) 0)),(5,.c (.ds 4 (.cells (z0o fndL sFrm)))),(6,.c (.dp (.cells (mdlL sSh)) 0)),(7,.c (.dp (.cells (mdlL sLg)) 0)),(8,.c (.dp (.cells (mdlL sFi)) 0)),(9,.c (.ptr 0 0))] [(0,.own 43 (.cells (mdlL sSi)) 2)] 1 [3] uBc_0 uBc_0 uBc_0 uBc_0 ?_;refine leW [0] id [(1,.c (.dp (.cells (litL sRow)) 0)),(2,.c (.dp (.cells (mdlL sGood)) 0)),(3,.c (.dp (.cells (mdlL sBad)) 0)),(4,.c (.dp (.cells (prbL sPrb)) 0)),(5,.c (.ds 4 (.cells (z0o fndL sFrm)))),(6,.c (.dp (.cells (mdlL sSh)) 0)),(7,.c (.dp (.cells (mdlL sLg)) 0)),(8,.c (.dp (.cells (mdlL sFi)) 0)),(9,.c (.dp (.cells (mdlL sSi)) 0))] [] 0 [] uBc_0 uBc_0 uBc_0 uBc_0 ?_;refine schedF_k z6o ((1,true)::(2,true)::(0,false)::(3,false)::(4,true)::(5,true)::(6,true)::(7,true)::(8,true)::(9,false)::(10,true)::(11,true)::(12,true)::(13,true)::(14,false)::(15,true)::(16,true)::(17,true)::(18,true)::(20,true)::(19,false)::(21,false)::(22,true)::(23,true)::(24,true)::(26,true)::(25,false)::(27,false)::(28,true)::(29,true)::(30,true)::(31,true)::(32,false)::(33,true)::(34,true)::(35,true)::(36,true)::(37,false)::(38,true)::(39,true)::(40,true)::(41,true)::(42,true)::(43,false)::(44,true)::(45,true)::(46,true)::(47,true)::(48,false)::(49,true)::(50,true)::(51,true)::(52,true)::(53,false)::(54,false)::(55,true)::(56,true)::(57,true)::(58,false)::(59,false)::(60,true)::(61,true)::(62,true)::(63,true)::(64,false)::(65,false)::(66,true)::(67,true)::(68,true)::(69,true)::(70,true)::(71,false)::(72,true)::(73,true)::(74,true)::(75,true)::(76,false)::(77,true)::(78,true)::(79,true)::(80,true)::(81,true)::(82,false)::(83,true)::(84,true)::(85,true)::(86,false)::(87,true)::(88,true)::(89,true)::[]) rfl kQf kQf fun _ K22=>?_;refine z4j ?_;refine z2z ?_;refine exA (.c (.ds 2 (.cells (lists sGood.s)))) (as_eq rfl) ?_;refine zpf ?_;refine⟨[88,98,88],rfl,by decide,?_⟩;refine DCf_0 ?_
 first|refine exI ?_|(intro cap0 hcap0;refine exI ?_)
 refine zpf ?_;refine⟨itemL [88,98,88],sGood.s,rfl,⟨sn0,by decide,by decide⟩,?_⟩;refine DCf_0 ?_
 first|refine exI ?_|(intro cap3 hcap3;refine exI ?_)
 refine z2z ?_;refine exA (.c (.str [97,98,97])) (as_eq (congrArg (fun v=>SV.c (Cell.str v)) sn1)) ?_;refine z4j ?_;refine z2z ?_;refine exB (fun hb6=>?_) (fun hb6=>?_)
 rotate_left 1
 ·exfalso;first|exact absurd hb6 (by decide)|exact hb6 rfl|(simp at hb6;done)|omega
 refine z1n ?_;refine exA (litV sRow) (as_eq rfl) ?_;refine z1n ?_;refine exA (mdlV sGood) (as_eq rfl) ?_;refine z1q ?_
 try refine aI (z01.noclo (z0k _)) ?_
 try refine aI (z01.noclo (z0c _)) ?_
 refine⟨sRow,sGood,rfl,⟨z8s,sGood_sm⟩,?_⟩;refine DCf_0 ?_
 first|refine exA (.c (.bool (true))) (as_b (sn2)) ?_|(intro cap9 hcap9;refine exA (.c (.bool (true))) (as_b (sn2)) ?_)
 refine z4j ?_;refine z2z ?_;refine exB (fun hb11=>?_) (fun hb11=>?_)
 rotate_left 1
 ·exfalso;first|exact absurd hb11 (by decide)|exact hb11 rfl|(simp at hb11;done)|omega
 refine z1n ?_;refine exA (litV sRow) (as_eq rfl) ?_;refine z1n ?_;refine exA (mdlV sBad) (as_eq rfl) ?_;refine z1q ?_
 try refine aI (z01.noclo (z0k _)) ?_
 try refine aI (z01.noclo (z0c _)) ?_
 refine⟨sRow,sBad,rfl,⟨z8s,zpg⟩,?_⟩;refine DCf_0 ?_
 first|refine exA (.c (.bool (false))) (as_b (sn3)) ?_|(intro cap14 hcap14;refine exA (.c (.bool (false))) (as_b (sn3)) ?_)
 refine z4t ?_;refine z4j ?_;refine z2z ?_;refine exB (fun hb17=>?_) (fun hb17=>?_)
 rotate_left 1
 ·exfalso;first|exact absurd hb17 (by decide)|exact hb17 rfl|(simp at hb17;done)|omega
 refine z1n ?_;refine exA (litV sRow) (as_eq rfl) ?_;refine z1n ?_;refine exA (mdlV sBad) (as_eq rfl) ?_;refine z1q ?_
 try refine aI (z01.noclo (z0k _)) ?_
 refine⟨sRow,rfl,?_⟩;refine DCf_0 ?_
 first|refine exI ?_|(intro cap19 hcap19;refine exI ?_)
 refine z1q ?_
 try refine aI (z01.noclo (z0k _)) ?_
 try refine aI (z01.noclo (z0c _)) ?_
 refine⟨negL sRow,sBad,rfl,⟨zkb,zpg⟩,?_⟩;refine DCf_0 ?_
 first|refine exA (.c (.bool (true))) (as_b (sn4)) ?_|(intro cap21 hcap21;refine exA (.c (.bool (true))) (as_b (sn4)) ?_)
 refine z4j ?_;refine z2z ?_;refine exB (fun hb23=>?_) (fun hb23=>?_)
 rotate_left 1
 ·exfalso;first|exact absurd hb23 (by decide)|exact hb23 rfl|(simp at hb23;done)|omega
 refine z1n ?_;refine exA (litV sRow) (as_eq rfl) ?_;refine z1n ?_;refine exA (mdlV sSh) (as_eq rfl) ?_;refine z1q ?_
 try refine aI (z01.noclo (z0k _)) ?_
 refine⟨sRow,rfl,?_⟩;refine DCf_0 ?_
 first|refine exI ?_|(intro cap25 hcap25;refine exI ?_)
 refine z1q ?_
 try refine aI (z01.noclo (z0k _)) ?_
 try refine aI (z01.noclo (z0c _)) ?_
 refine⟨negL sRow,sSh,rfl,⟨zkb,sSh_sm⟩,?_⟩;refine DCf_0 ?_
 first|refine exA (.c (.bool (false))) (as_b (sn5)) ?_|(intro cap27 hcap27;refine exA (.c (.bool (false))) (as_b (sn5)) ?_)
 refine z4t ?_;refine z4j ?_;refine z2z ?_;refine exB (fun hb30=>?_) (fun hb30=>?_)
 rotate_left 1
 ·exfalso;first|exact absurd hb30 (by decide)|exact hb30 rfl|(simp at hb30;done)|omega
 refine z1n ?_;refine exA (prbV sPrb) (as_eq rfl) ?_;refine z1q ?_
 try refine aI (z01.noclo (z0l _)) ?_
 refine⟨sPrb,rfl,zal,?_⟩;refine DCf_0 ?_
 first|refine exA (.c (.int .i64 0)) (as_i (sn6)) ?_|(intro cap32 hcap32;refine exA (.c (.int .i64 0)) (as_i (sn6)) ?_)
 refine z4t ?_;refine z4j ?_;refine z2z ?_;refine exB (fun hb35=>?_) (fun hb35=>?_)
 rotate_left 1
 ·exfalso;first|exact absurd hb35 (by decide)|exact hb35 rfl|(simp at hb35;done)|omega
 refine z1n ?_;refine exA (prbV sPrb) (as_eq rfl) ?_;refine z1q ?_
 try refine aI (z01.noclo (z0l _)) ?_
 refine⟨sPrb,rfl,zal,?_⟩;refine DCf_0 ?_
 first|refine exA (.c (.int .i64 105)) (as_i (by rw[sn7];rfl)) ?_|(intro cap37 hcap37;refine exA (.c (.int .i64 105)) (as_i (by rw[sn7];rfl)) ?_)
 refine z4t ?_;refine z4j ?_;refine z2z ?_;refine exB (fun hb40=>?_) (fun hb40=>?_)
 rotate_left 1
 ·exfalso;first|exact absurd hb40 (by decide)|exact hb40 rfl|(simp at hb40;done)|omega
 refine z1n ?_;refine exA (prbV sPrb) (as_eq rfl) ?_;refine z1n ?_;refine exA (mdlV sGood) (as_eq rfl) ?_;refine z1q ?_
 try refine aI (z01.noclo (z0l _)) ?_
 try refine aI (z01.noclo (z0c _)) ?_
 refine⟨sPrb,sGood,rfl,⟨zal,by decide,by decide,by decide⟩,?_⟩;refine DCf_0 ?_
 first|refine exA (.c (.bool (true))) (as_b (sn8)) ?_|(intro cap43 hcap43;refine exA (.c (.bool (true))) (as_b (sn8)) ?_)
 refine z4j ?_;refine z2z ?_;refine exB (fun hb45=>?_) (fun hb45=>?_)
 rotate_left 1
 ·exfalso;first|exact absurd hb45 (by decide)|exact hb45 rfl|(simp at hb45;done)|omega
 refine z1n ?_;refine exA (prbV sPrb) (as_eq rfl) ?_;refine z1n ?_;refine exA (mdlV sBad) (as_eq rfl) ?_;refine z1q ?_
 try refine aI (z01.noclo (z0l _)) ?_
 try refine aI (z01.noclo (z0c _)) ?_
 refine⟨sPrb,sBad,rfl,⟨zal,by decide,by decide,by decide⟩,?_⟩;refine DCf_0 ?_
 first|refine exA (.c (.bool (false))) (as_b (sn9)) ?_|(intro cap48 hcap48;refine exA (.c (.bool (false))) (as_b (sn9)) ?_)
 refine z4t ?_;refine z4j ?_;refine z2z ?_;refine exB (fun hb51=>?_) (fun hb51=>?_)
 rotate_left 1
 ·exfalso;first|exact absurd hb51 (by decide)|exact hb51 rfl|(simp at hb51;done)|omega
 refine z4t ?_;refine zi6 ?_;refine z1q ?_;refine⟨sFrm,[true,false],rfl,⟨by decide,by decide⟩,?_⟩;refine DCf_0 ?_
 first|refine exA (.c (.bool (true))) (as_b (sn10)) ?_|(intro cap54 hcap54;refine exA (.c (.bool (true))) (as_b (sn10)) ?_)
 refine z4j ?_;refine z2z ?_;refine exB (fun hb56=>?_) (fun hb56=>?_)
 rotate_left 1
 ·exfalso;first|exact absurd hb56 (by decide)|exact hb56 rfl|(simp at hb56;done)|omega
 refine z4t ?_;refine zi6 ?_;refine z1q ?_;refine⟨sFrm,[true,true],rfl,⟨by decide,by decide⟩,?_⟩;refine DCf_0 ?_
 first|refine exA (.c (.bool (false))) (as_b (sn11)) ?_|(intro cap59 hcap59;refine exA (.c (.bool (false))) (as_b (sn11)) ?_)
 refine z4t ?_;refine z4j ?_;refine z2z ?_;refine exB (fun hb62=>?_) (fun hb62=>?_)
 rotate_left 1
 ·exfalso;first|exact absurd hb62 (by decide)|exact hb62 rfl|(simp at hb62;done)|omega
 refine z4t ?_;refine zi6 ?_;refine z1q ?_;refine⟨sFrm,[true],rfl,⟨by decide,by decide⟩,?_⟩;refine DCf_0 ?_
 first|refine exA (.c (.bool (false))) (as_b (sn12)) ?_|(intro cap65 hcap65;refine exA (.c (.bool (false))) (as_b (sn12)) ?_)
 refine z4t ?_;refine z4j ?_;refine z2z ?_;refine exB (fun hb68=>?_) (fun hb68=>?_)
 rotate_left 1
 ·exfalso;first|exact absurd hb68 (by decide)|exact hb68 rfl|(simp at hb68;done)|omega
 refine z1n ?_;refine exA (mdlV sSh) (as_eq rfl) ?_;refine z1n ?_;refine exA (mdlV sLg) (as_eq rfl) ?_;refine z1q ?_
 try refine aI (z01.noclo (z0c _)) ?_
 try refine aI (z01.noclo (z0c _)) ?_
 refine⟨sSh,sLg,rfl,⟨by decide,by decide,by decide,by decide⟩,?_⟩;refine DCf_0 ?_
 first|refine exA (.c (.bool (true))) (as_b (sn13)) ?_|(intro cap71 hcap71;refine exA (.c (.bool (true))) (as_b (sn13)) ?_)
 refine z4j ?_;refine z2z ?_;refine exB (fun hb73=>?_) (fun hb73=>?_)
 rotate_left 1
 ·exfalso;first|exact absurd hb73 (by decide)|exact hb73 rfl|(simp at hb73;done)|omega
 refine z1n ?_;refine exA (mdlV sLg) (as_eq rfl) ?_;refine z1n ?_;refine exA (mdlV sSh) (as_eq rfl) ?_;refine z1q ?_
 try refine aI (z01.noclo (z0c _)) ?_
 try refine aI (z01.noclo (z0c _)) ?_
 refine⟨sLg,sSh,rfl,⟨by decide,by decide,by decide,by decide⟩,?_⟩;refine DCf_0 ?_
 first|refine exA (.c (.bool (false))) (as_b (sn14)) ?_|(intro cap76 hcap76;refine exA (.c (.bool (false))) (as_b (sn14)) ?_)
 refine z4t ?_;refine z4j ?_;refine z2z ?_;refine exB (fun hb79=>?_) (fun hb79=>?_)
 rotate_left 1
 ·exfalso;first|exact absurd hb79 (by decide)|exact hb79 rfl|(simp at hb79;done)|omega
 refine z1n ?_;refine exA (mdlV sFi) (as_eq rfl) ?_;refine z1n ?_;refine exA (mdlV sSi) (as_eq rfl) ?_;refine z1q ?_
 try refine aI (z01.noclo (z0c _)) ?_
 try refine aI (z01.noclo (z0c _)) ?_
 refine⟨sFi,sSi,rfl,⟨by decide,by decide,by decide,by decide⟩,?_⟩;refine DCf_0 ?_
 first|refine exA (.c (.bool (true))) (as_b (sn15)) ?_|(intro cap82 hcap82;refine exA (.c (.bool (true))) (as_b (sn15)) ?_)
 refine z4j ?_;refine z2z ?_;refine exB (fun hb84=>?_) (fun hb84=>?_)
 rotate_left 1
 ·exfalso;first|exact absurd hb84 (by decide)|exact hb84 rfl|(simp at hb84;done)|omega
 refine z1n ?_;refine exA (prbV sPr0) (sPr0_as) ?_;refine z1q ?_
 try refine aI (z01.noclo (z0l _)) ?_
 refine⟨sPr0,rfl,sPr0_wfS,?_⟩;refine DCf_0 ?_
 first|refine exA (.c (.int .i64 1)) (as_i (sn16)) ?_|(intro cap86 hcap86;refine exA (.c (.int .i64 1)) (as_i (sn16)) ?_)
 refine z4t ?_
 iterate 2 refine z4j ?_
 refine d_n K22 ?_;apply K21;refine z0b (z02 z6o (fun _ _ h=>h) (by first|rfl|assumption) [.tmp 0] rfl ?_);refine rtD ?_
 rfl


end Go.Proofs.YtegdcifghaldoaaDoor
