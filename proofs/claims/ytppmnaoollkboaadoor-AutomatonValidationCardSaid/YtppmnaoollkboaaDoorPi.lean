/- Part 9 of what the claims of this seat share: the walk's engine, the functions' contracts, plain mathematics (Us). -/
import Derived.Test.YtppmnaoollkboaaDoorPh
import Derived.Test.YtppmnaoollkboaaDoorPd
import Derived.Test.YtppmnaoollkboaaDoorPc
set_option maxHeartbeats 2000000
set_option maxRecDepth 4000
namespace Go.Proofs.YtppmnaoollkboaaDoor
set_option linter.all false
open Go.Ab Go.RowKit

section
variable {a b:Prop}
theorem qUs0(h:a:=by first|exact vcA|(simp[-List.reduceReplicate]<;>omega)|exact vTh|exact⟨by omega,by omega,trivial⟩|exact⟨by omega,by omega,trivial,trivial⟩|exact⟨rfl,trivial⟩|(show _< (fillN _ _ _).length;rw[z3g];omega)|(show _< ((z02 _ _ _ _).set _ _).length;rw[List.length_set,z00 hcl];decide)|exact vcB):a:=h
theorem qUs1(h:a:=by first|exact vcA|(simp[-List.reduceReplicate]<;>omega)|exact vTh|(show 0+259≤(z02 (idL 256) _ _ _).length;rw[z00 hcl];decide)|exact z00 hcl|exact vcB):a:=h
theorem uUs_0(h:a:=by
    repeat' (first|assumption|exact z74 trivial (by show _< _;omega)|exact z74 (by show _< _;omega) (by show _< _;omega)|exact pT|exact trivial|refine aI ?_ ?_|exact cC0|refine low_cons' ?_ ?_|exact cC1|fail)
    all_goals first|omega|exact hL0|exact(z1y x _).symm|exact(z3m x _).symm|(show(_:List Int)=_;first|assumption|rfl)|(show(_:List Bool)=_;first|assumption|rfl)|(show allTo _ _ _;first|(rw[hXR];exact z1m _)|(rw[hXR];trivial)|exact z1m _)|(show allTo _ _ _;first|(rw[zif hcl rfl,zoa hcl rfl];refine z2w ?_ ?_<;>(repeat' (first|exact trivial|refine aI ?_ ?_|rfl|omega|decide|exact(z1y x _).symm|exact(z3m x _).symm|exact z3a _|(simp;done)|rw[if_pos ⟨rfl,by simp⟩])))|(refine zqe hcl hset.1 hset.2 ?_ ?_<;>(repeat' (first|exact trivial|refine aI ?_ ?_|rfl|omega|decide|exact(z1y x _).symm|exact(z3m x _).symm|exact z3a _|(simp;done)|rw[if_pos ⟨rfl,by simp⟩])))|(refine z2w ?_ ?_<;>(repeat' (first|exact trivial|refine aI ?_ ?_|rfl|omega|decide|exact(z1y x _).symm|exact(z3m x _).symm|exact z3a _|(simp;done)|rw[if_pos ⟨rfl,by simp⟩]))))|(show(0:Nat)< (z02 _ _ _ _).length;rw[z00 hcl];decide)|(simp[-List.reduceReplicate];done)|(simp[-List.reduceReplicate]<;>omega)|skip):a:=h
theorem DUs_0(kZ:b)(h:HidB b→a:=by intro kZ;(repeat first|refine aI qUs0 ?_|refine z04 qUs0 ?_|refine z03 qUs0 ?_|refine z0m qUs0 ?_|refine z0c ?_);exact kZ.out):a:=h ⟨kZ⟩
theorem z32(kZ:b)(h:HidB b→a:=by intro kZ;refine sX ?_;refine DUs_0 ?_;refine exI ?_;exact kZ.out):a:=h ⟨kZ⟩
theorem zc0(kZ:b)(h:HidB b→a:=by intro kZ;refine sX0 ?_;refine DUs_0 ?_;refine exI ?_;exact kZ.out):a:=h ⟨kZ⟩
theorem DUs_3(kZ:b)(h:HidB b→a:=by intro kZ;(repeat first|refine aI qUs1 ?_|refine z04 qUs1 ?_|refine z03 qUs1 ?_|refine z0m qUs1 ?_|refine z0c ?_);exact kZ.out):a:=h ⟨kZ⟩
theorem sX0Us_4(kZ:b)(h:HidB b→a:=by intro kZ;refine sX0 ?_;refine DUs_3 ?_;refine exI ?_;exact kZ.out):a:=h ⟨kZ⟩
theorem sXUs_5(kZ:b)(h:HidB b→a:=by intro kZ;refine sX ?_;refine DUs_3 ?_;refine exI ?_;exact kZ.out):a:=h ⟨kZ⟩
theorem zie(kZ:b)(h:HidB b→a:=by intro kZ;refine sX ?_;refine DUs_0 ?_;exact kZ.out):a:=h ⟨kZ⟩
theorem zz9(kZ:b)(h:HidB b→a:=by intro kZ;refine sX ?_;refine DUs_3 ?_;exact kZ.out):a:=h ⟨kZ⟩
end
open Go.Aut
def idL(k:Nat):List Int:=(List.range 256).map fun i=>if i< k then(i:Int)else 0
theorem z1t(k:Nat):(idL k).length=256:=by simp[idL]
theorem idL_zero:z12=idL 0:=by simp[idL,z12,List.map_const']
theorem idL_set{k:Nat}(h:k< 256):(idL k).set k (k:Int)=idL (k+1):=by
  refine z1z 0 (by rw[List.length_set,z1t,z1t]) fun i hi=>?_
  have hi:i< 256:=by rw[List.length_set,z1t]at hi;exact hi
  rw[z1i (by rw[z1t];exact hi),idL,idL,z0i hi,z0i hi]
  by_cases e:k=i
  · subst e;rw[if_pos rfl,if_pos (by omega)]
  · rw[if_neg e]
    by_cases h2:i< k
    · rw[if_pos h2,if_pos (by omega)]
    · rw[if_neg h2,if_neg (by omega)]
theorem idL_get{b:Nat}(h:b< 256):(idL 256).getD b 0=(b:Int):=by rw[idL,z0i h,if_pos h]
def rowW(x:List UInt8)(s:Nat):List Int:=(List.range 256).map fun b=>if s< x.length∧b=(x.getD s 0).toNat then((s:Int)+1) else((x.length:Int)+1)
def rowsW(x:List UInt8)(k:Nat):List (List Int):=(List.range k).map (rowW x)
def accW(x:List UInt8)(k:Nat):List Bool:=(List.range k).map fun s:Nat=>decide ((s:Int)=(x.length:Int))
theorem z52(x:List UInt8)(s:Nat):(rowW x s).length=256:=by simp[rowW]
@[simp] theorem z1y(x:List UInt8)(k:Nat):(rowsW x k).length=k:=by simp[rowsW]
@[simp] theorem z3m(x:List UInt8)(k:Nat):(accW x k).length=k:=by simp[accW]
theorem zvh(x:List UInt8)(k:Nat):rowsW x k++[rowW x k]=rowsW x (k+1):=by simp[rowsW,List.range_succ]
theorem zza(x:List UInt8)(k:Nat):accW x k++[decide ((k:Int)=(x.length:Int))]=accW x (k+1):=by simp[accW,List.range_succ]
theorem rowW_no{x:List UInt8}{s:Nat}(h:¬ s< x.length):fillN 256 ((x.length:Int)+1) 256=rowW x s:=by
  refine List.map_congr_left fun b hb=>?_;rw[if_pos (List.mem_range.1 hb),if_neg fun hh=>h hh.1]
theorem rowW_yes{x:List UInt8}{s:Nat}(h:s< x.length):(fillN 256 ((x.length:Int)+1) 256).set (x.getD s 0).toNat ((s:Int)+1)=rowW x s:=by
  refine z1z 0 (by rw[List.length_set,z3g,z52]) fun i hi=>?_
  have hi:i< 256:=by rw[List.length_set,z3g]at hi;exact hi
  rw[z1i (by rw[z3g];exact hi),fillN,rowW,z0i hi,z0i hi,if_pos hi]
  by_cases e:(x.getD s 0).toNat=i
  · rw[if_pos e,if_pos ⟨h,e.symm⟩]
  · rw[if_neg e,if_neg fun hh=>e hh.2.symm]
def wordT(x:List UInt8):Tab:={ cell:=idL 256,nc:=256,next:=rowsW x (x.length+2),acc:=accW x (x.length+2) }
theorem zeg(x:List UInt8){b:Nat}(h:b< 256):(tblT (wordT x)).cell b=b:=by
  show((idL 256).getD b 0).toNat=b
  rw[idL_get h];rfl
theorem zk5(x:List UInt8){s b:Nat}(hs:s< x.length+2)(hb:b< 256):(tblT (wordT x)).δ s b=if s< x.length∧b=(x.getD s 0).toNat then s+1 else x.length+1:=by
  show(((rowsW x (x.length+2)).getD s []).getD b 0).toNat=_
  rw[rowsW,z0i hs,rowW,z0i hb]
  split<;>omega
theorem zo9{x:List UInt8}(h:x.length≤62):(wordT x).fit:=by
  refine⟨⟨z1t 256,fun y hy=>?_,?_,?_,fun r hr=>?_,fun c hc=>⟨c,hc,zeg x hc⟩⟩,?_,Nat.le_refl _⟩
  · obtain⟨b,hb,rfl⟩:=List.mem_map.1 hy
    have hb:=List.mem_range.1 hb
    rw[if_pos hb]
    show 0≤_∧_< ((256:Nat):Int)
    omega
  · show 0< (rowsW x (x.length+2)).length
    rw[z1y];omega
  · show(accW x (x.length+2)).length=(rowsW x (x.length+2)).length
    rw[z1y,z3m]
  · obtain⟨s,hs,rfl⟩:=List.mem_map.1 hr
    have hs:=List.mem_range.1 hs
    refine⟨z52 x s,fun y hy=>?_⟩;obtain⟨b,hb,rfl⟩:=List.mem_map.1 hy
    show 0≤_∧_< (((rowsW x (x.length+2)).length:Nat):Int)
    rw[z1y]
    split<;>omega
  · show(rowsW x (x.length+2)).length≤65535
    rw[z1y];omega
theorem zeh(x:List UInt8):∀ (w:List Nat),Bytes w→(tblT (wordT x)).lang (x.length+1) w=false
  | [],_=>by
    show(accW x (x.length+2)).getD (x.length+1) false=false
    rw[accW,z0i (by omega)];exact decide_eq_false (by omega)
  | b ::w,hw=>by
    have hb:=hw b List.mem_cons_self
    have e:(tblT (wordT x)).δ (x.length+1) ((tblT (wordT x)).cell b)=x.length+1:=by
      rw[zeg x hb,zk5 x (by omega) hb,if_neg (by omega)]
    rw[z6c,e];exact zeh x w fun y hy=>hw y (List.mem_cons_of_mem _ hy)
theorem zei (x:List UInt8):∀ (w:List Nat) (s:Nat),Bytes w→s≤x.length→(tblT (wordT x)).lang s w=decide (w=(wN x).drop s)
  | [],s,_,hs=>by
    show(accW x (x.length+2)).getD s false=_
    rw[accW,z0i (by omega)]
    have hl:(wN x).length=x.length:=by simp[wN]
    rw[decide_eq_decide]
    constructor
    · intro h
      rw[List.drop_of_length_le (by omega)]
    · intro h
      have:=congrArg List.length h
      rw[List.length_drop,hl]at this
      simp at this;omega
  | b ::w,s,hw,hs=>by
    have hb:=hw b List.mem_cons_self
    have hw':Bytes w:=fun y hy=>hw y (List.mem_cons_of_mem _ hy)
    have hl:(wN x).length=x.length:=by simp[wN]
    rw[z6c,zeg x hb,zk5 x (by omega) hb]
    by_cases h:s< x.length
    · have hd:(wN x).drop s=(x.getD s 0).toNat::(wN x).drop (s+1):=by
        rw[List.drop_eq_getElem_cons (by omega)]
        congr 1
        rw[z43 h];simp[wN]
      rw[hd]
      by_cases e:b=(x.getD s 0).toNat
      · rw[if_pos ⟨h,e⟩,zei x w (s+1) hw' h,e];simp
      · rw[if_neg fun hh=>e hh.2,zeh x w hw']
        exact(decide_eq_false fun hh=>e (by injection hh)).symm
    · rw[if_neg fun hh=>h hh.1,zeh x w hw',List.drop_of_length_le (by omega)];simp
theorem zt8(x:List UInt8):canD ((tblT (wordT x)).lang 0)=canD (langW (wN x)):=z37 fun w hw=>by
  rw[zei x w 0 hw (Nat.zero_le _),List.drop_zero];rfl
noncomputable def wordR(x:List UInt8):Dfa×Nat:=if 62< x.length then(noD,2) else(canD (langW (wN x)),0)
theorem zqq(nc:Nat):((Cont.cells (List.replicate 257 (Cell.int .i64 0)++List.replicate 2 Cell.nils)).sub 0 256).list++([.int .i64 nc]++(((Cont.cells (List.replicate 257 (Cell.int .i64 0)++List.replicate 2 Cell.nils)).sub 257 1).list++(((Cont.cells (List.replicate 257 (Cell.int .i64 0)++List.replicate 2 Cell.nils)).sub 258 1).list++[])))=z02 (idL 0) nc .nils .nils:=by
  have h1:=zk0 nc .nils .nils
  rw[←idL_zero, ←h1]
  have e:∀ i,i< 2→((List.replicate 257 (Cell.int .i64 0)++List.replicate 2 Cell.nils).drop (257+i)).take 1=[Cell.nils]:=fun i hi=>by
    rw[List.drop_append,List.length_replicate,Nat.add_sub_cancel_left,List.drop_of_length_le (by rw[List.length_replicate];omega)]
    match i,hi with
    |0,_=>rfl
    |1,_=>rfl
  congr 2
theorem zif{cell:List Int}{nc i:Nat}{x y z:Cell}(h:cell.length=256)(hi:i=257):(z02 cell nc x y).set i z=z02 cell nc z y:=by subst hi;exact zga h
theorem zoa{cell:List Int}{nc i:Nat}{x y z:Cell}(h:cell.length=256)(hi:i=258):(z02 cell nc x y).set i z=z02 cell nc x z:=by subst hi;exact zt4 h
attribute [local irreducible] z0s z12 zl z02 z11 putB fillN canD idL rowsW accW rowW
noncomputable def gw1:Ctx:={ P:=Tryd.prog,ty:=ty,glob:=gl,fs:=[(75,.data z8k)] }
theorem z3d:gw1.OK:=⟨tyOK,⟨⟨z08 Tryd.func75 kR rfl,z7o⟩,trivial⟩,mixed⟩
@[simp] theorem gw1_ty:gw1.ty=ty:=rfl

def wordS:QSpec:=fun vs K=>∃ x:List UInt8,vs=[.c (.ds x.length (.u8s x))]∧x.length≤9223372036854775807∧K (resV (wordR x))
theorem word_ok:z1w Tryd.prog gl 27 wordS:=by
 refine z1c (Γ:=gw1) (N:=69) Tryd.func27 rfl rfl fun vs K h=>?_;obtain⟨x,rfl,hxl,h⟩:=h;refine⟨_,h,z10 _,by simp,fun w I=>?_⟩;refine srR z3d fun _ K2=>?_
 iterate 2 refine z32 ?_
 refine s_n K2 ?_;refine srR z3d fun _ K4=>?_
 iterate 3 refine z32 ?_
 refine s_n K4 ?_;refine seq_k fun _ K5=>?_;refine srR z3d fun _ K7=>?_
 iterate 2 refine z32 ?_
 refine s_n K7 ?_;refine z09 (b:=_) rfl (fun h_t13=>?_) (fun h_t13=>?_)
 ·try simp only[dQ,reduceIte]at h_t13
  refine srR z3d fun _ K9=>?_;refine z32 ?_;refine zc0 ?_;refine z32 ?_;refine s_n K9 ?_;rw[wordR,if_pos (by omega)];refine z0g (z0k z3d (fun _ _ h=>h) (z10 _) [] [.cell 2 30,.tmp 3] rfl ?_)
  repeat first|refine aI (by first|exact trivial|rfl|exact⟨rfl,rfl⟩|decide) ?_|refine z04 (by first|rfl|decide) ?_|refine z03 (by first|rfl|decide) ?_
  all_goals exact uUs_0
 ·try simp only[dQ,reduceIte]at h_t13
  refine z0b ?_;apply K5
  have hn62:x.length≤62:=by omega
  have hcl:(idL 0).length=256:=z1t 0
  refine leW [] id [(0,.c (.ds x.length (.u8s x))),(2,.c (.ptr 0 0)),(4,.c (.int .i64 (x.length:Nat)))] [(0,.own 30 (.cells [.nils,.nils,.nils]) 3)] 1 [0] uUs_0 uUs_0 uUs_0 uUs_0 ?_;refine srR z3d fun _ K11=>?_;refine zie ?_;refine exA (.agg (.cells (z02 (idL 0) 256 .nils .nils))) (as_eq (congrArg (fun l=>SV.agg (Cont.cells l)) (zqq 256))) ?_;refine z32 ?_;refine zc0 ?_;refine s_n K11 ?_;refine seq_k fun _ K12=>?_;refine srR z3d fun _ K14=>?_;refine z32 ?_;refine s_n K14 ?_;refine z07 ?_;refine z0q (α:=Nat) (fun b=>[(0,.c (.ds x.length (.u8s x))),(2,.c (.ptr 0 0)),(4,.c (.int .i64 (x.length:Nat))),(5,.c (.ptr 1 0)),(16,.c (.int .i64 (b:Nat)))]) (fun b=>[(0,.own 30 (.cells [.nils,.nils,.nils]) 3),(1,.own 87 (.cells (z02 (idL b) 256 .nils .nils)) 259)]) 2 (fun b=>b≤256) (fun b=>256 - b) ?_ ?_
  ·refine dnS [] id 0 (Nat.zero_le _) [0,1] uUs_0 uUs_0 uUs_0 uUs_0
  ·intro b hb
   refine srR z3d fun _ K16=>?_;refine z32 ?_;refine s_n K16 ?_;refine seq_k fun _ K17=>?_;refine z09 (b:=_) rfl (fun h_t17=>?_) (fun h_t17=>?_)
   ·try simp only[dQ,reduceIte]at h_t17
    refine z0b ?_;apply K17;refine seq_k fun _ K18=>?_;refine z07 ?_
    have hcl:(idL b).length=256:=z1t b
    have hb256:b< 256:=by omega
    refine srR z3d fun _ K20=>?_
    iterate 2 refine z32 ?_
    refine s_n K20 ?_;refine z06 z3d fun _ K21=>?_
    iterate 4 refine z32 ?_
    refine zc0 ?_;refine s_n K21 ?_;refine z0a ?_;apply K18;refine z06 z3d fun _ K22=>?_
    iterate 2 refine z32 ?_
    refine s_n K22 ?_
    have hset:0+0+((b:Nat):Int).toNat*1< 256∧(idL b).set (0+0+((b:Nat):Int).toNat*1) (b:Nat)=idL (b+1):=by
     rw[show 0+0+((b:Nat):Int).toNat*1=b by omega];exact⟨hb256,idL_set hb256⟩
    refine dnS [] id (b+1) ⟨by omega,by omega⟩ [0,1] uUs_0 uUs_0 uUs_0 uUs_0
   ·try simp only[dQ,reduceIte]at h_t17
    refine z0o ?_;refine z01 ?_;refine z01 ?_;refine z0j ?_;apply K12;refine seq_k fun _ K23=>?_
    obtain rfl:b=256:=by omega
    have hcl:(idL 256).length=256:=z1t 256
    refine srR z3d fun _ K25=>?_
    iterate 3 refine z32 ?_
    refine s_n K25 ?_;refine z07 ?_;refine z4v 1 257 51 (.cells []) rfl (zys hcl) rfl low_nil' ?_;refine z4v 1 258 4 (.bools []) rfl (by rw[zga hcl];exact zyt hcl) rfl trivial ?_;refine z0q (α:=Nat×Nat×Nat) (fun s=>[(0,.c (.ds x.length (.u8s x))),(2,.c (.ptr 0 0)),(4,.c (.int .i64 (x.length:Nat))),(5,.c (.ptr 1 0)),(25,.c (.int .i64 ((x.length:Int)+2))),(26,.c (.int .i64 (s.1:Nat)))]) (fun s=>[(0,.own 30 (.cells [.nils,.nils,.nils]) 3),(1,.own 87 (.cells (z02 (idL 256) 256 (.slice 2 0 s.1 s.2.1) (.slice 3 0 s.1 s.2.2))) 259),(2,.own 51 (.cells (rowsC (rowsW x s.1))) s.2.1),(3,.own 4 (.bools (accW x s.1)) s.2.2)]) 4 (fun s=>s.1≤x.length+2∧s.1≤s.2.1∧s.1≤s.2.2) (fun s=>x.length+2 - s.1) ?_ ?_
    ·have hX3:([]:List Bool)=accW x 0:=by unfold accW;rfl
     have hXR:rowsC (rowsW x 0)=[]:=by unfold rowsW;rfl
     refine dnS [] id (0,0,0) ⟨Nat.zero_le _,Nat.le_refl _,Nat.le_refl _⟩ [0,1,2,3] uUs_0 uUs_0 uUs_0 uUs_0
    ·intro s hs
     obtain⟨hs1,hs2,hs3⟩:=hs;refine srR z3d fun _ K27=>?_;refine z32 ?_;refine s_n K27 ?_;refine seq_k fun _ K28=>?_;refine z09 (b:=_) rfl (fun h_t27=>?_) (fun h_t27=>?_)
     ·try simp only[dQ,reduceIte]at h_t27
      refine z0b ?_;apply K28;refine seq_k fun _ K29=>?_;refine z07 ?_
      have hcl:(idL 256).length=256:=z1t 256
      refine srR z3d fun _ K31=>?_
      iterate 2 refine z32 ?_
      refine s_n K31 ?_;refine srR z3d fun _ K33=>?_
      iterate 2 refine z32 ?_
      refine s_n K33 ?_;refine seq_k fun _ K34=>?_;refine srR z3d fun _ K36=>?_
      iterate 3 refine z32 ?_
      refine s_n K36 ?_;refine z07 ?_;refine z0q (α:=Nat) (fun b=>[(0,.c (.ds x.length (.u8s x))),(2,.c (.ptr 0 0)),(4,.c (.int .i64 (x.length:Nat))),(5,.c (.ptr 1 0)),(25,.c (.int .i64 ((x.length:Int)+2))),(26,.c (.int .i64 (s.1:Nat))),(7,.c (.int .i64 (s.1:Nat))),(8,.c (.slice 4 0 256 256)),(31,.c (.int .i64 256)),(32,.c (.int .i64 (b:Nat)))]) (fun b=>[(0,.own 30 (.cells [.nils,.nils,.nils]) 3),(1,.own 87 (.cells (z02 (idL 256) 256 (.slice 2 0 s.1 s.2.1) (.slice 3 0 s.1 s.2.2))) 259),(2,.own 51 (.cells (rowsC (rowsW x s.1))) s.2.1),(3,.own 4 (.bools (accW x s.1)) s.2.2),(4,.own 3 (.ints .i64 (fillN 256 ((x.length:Int)+1) b)) 256)]) 5 (fun b=>b≤256) (fun b=>256 - b) ?_ ?_
      ·have hX1:List.replicate 256 (0:Int)=(fillN 256 ((x.length:Int)+1) 0):=(z8j _ _).symm
       refine dnS [] id 0 (Nat.zero_le _) [0,1,2,3,4] uUs_0 uUs_0 uUs_0 uUs_0
      ·intro b hb
       refine srR z3d fun _ K38=>?_;refine z32 ?_;refine s_n K38 ?_;refine seq_k fun _ K39=>?_;refine z09 (b:=_) rfl (fun h_t33=>?_) (fun h_t33=>?_)
       ·try simp only[dQ,reduceIte]at h_t33
        refine z0b ?_;apply K39;refine seq_k fun _ K40=>?_;refine z07 ?_
        have hb256:b< 256:=by omega
        refine srR z3d fun _ K42=>?_
        iterate 2 refine z32 ?_
        refine s_n K42 ?_;refine z06 z3d fun _ K43=>?_
        iterate 5 refine z32 ?_
        refine zc0 ?_;refine s_n K43 ?_;refine z0a ?_;apply K40;refine z06 z3d fun _ K44=>?_
        iterate 2 refine z32 ?_
        refine s_n K44 ?_
        have hX1:(fillN 256 ((x.length:Int)+1) b).set (0+((b:Nat):Int).toNat*1) ((x.length:Int)+1)=(fillN 256 ((x.length:Int)+1) (b+1)):=by rw[show 0+((b:Nat):Int).toNat*1=b by omega];exact zak _ hb256
        refine dnS [] id (b+1) ⟨by omega,by omega⟩ [0,1,2,3,4] uUs_0 uUs_0 uUs_0 uUs_0
       ·try simp only[dQ,reduceIte]at h_t33
        refine z0o ?_;refine z01 ?_;refine z01 ?_;refine z0j ?_;apply K34;refine z9s (α:=Unit) (fun _=>[(0,.c (.ds x.length (.u8s x))),(2,.c (.ptr 0 0)),(4,.c (.int .i64 (x.length:Nat))),(5,.c (.ptr 1 0)),(25,.c (.int .i64 ((x.length:Int)+2))),(26,.c (.int .i64 (s.1:Nat))),(7,.c (.int .i64 (s.1:Nat))),(8,.c (.slice 4 0 256 256))]) (fun _=>[(0,.own 30 (.cells [.nils,.nils,.nils]) 3),(1,.own 87 (.cells (z02 (idL 256) 256 (.slice 2 0 s.1 s.2.1) (.slice 3 0 s.1 s.2.2))) 259),(2,.own 51 (.cells (rowsC (rowsW x s.1))) s.2.1),(3,.own 4 (.bools (accW x s.1)) s.2.2),(4,.own 3 (.ints .i64 (rowW x s.1)) 256)]) 5 (fun _=>True) ?_ ?_
        ·obtain rfl:b=256:=by omega
         refine srR z3d fun _ K46=>?_
         iterate 3 refine z32 ?_
         refine s_n K46 ?_;refine z09 (b:=_) rfl (fun h_t43=>?_) (fun h_t43=>?_)
         ·try simp only[dQ,reduceIte]at h_t43
          have hsl:s.1< x.length:=by omega
          have hbt:(x.getD ((s.1:Int).toNat*1) 0).toNat< 256:=UInt8.toNat_lt _
          refine z06 z3d fun _ K47=>?_
          iterate 8 refine z32 ?_
          refine zc0 ?_;refine s_n K47 ?_
          have hrow:(fillN 256 ((x.length:Int)+1) 256).set (0+(((x.getD ((s.1:Int).toNat*1) 0).toNat:Nat):Int).toNat*1) ((s.1:Int)+1)=rowW x s.1:=by
           rw[Int.toNat_natCast,Int.toNat_natCast,Nat.mul_one,Nat.mul_one,Nat.zero_add];exact rowW_yes (by omega)
          refine dnS [] id () trivial [0,1,2,3,4] uUs_0 uUs_0 uUs_0 uUs_0
         ·try simp only[dQ,reduceIte]at h_t43
          refine z0b ?_
          have hrow:(fillN 256 ((x.length:Int)+1) 256)=rowW x s.1:=rowW_no (by omega)
          refine dnS [] id () trivial [0,1,2,3,4] uUs_0 uUs_0 uUs_0 uUs_0
        ·intro _ _
         refine leW [4] id [(0,.c (.ds x.length (.u8s x))),(2,.c (.ptr 0 0)),(4,.c (.int .i64 (x.length:Nat))),(5,.c (.ptr 1 0)),(25,.c (.int .i64 ((x.length:Int)+2))),(26,.c (.int .i64 (s.1:Nat))),(7,.c (.int .i64 (s.1:Nat))),(8,.c (.ds 256 (.ints .i64 (rowW x s.1))))] [(0,.own 30 (.cells [.nils,.nils,.nils]) 3),(1,.own 87 (.cells (z02 (idL 256) 256 (.slice 2 0 s.1 s.2.1) (.slice 3 0 s.1 s.2.2))) 259),(2,.own 51 (.cells (rowsC (rowsW x s.1))) s.2.1),(3,.own 4 (.bools (accW x s.1)) s.2.2)] 4 [0,1,2,3] ?_ ?_ ?_ ?_ ?_
         ·repeat' (first|assumption|exact z74 trivial (by show _< _;omega)|exact z74 (by show _< _;omega) (by show _< _;omega)|exact pT|exact trivial|refine aI ?_ ?_|exact cC0|refine low_cons' ?_ ?_|exact cC1|fail)
          all_goals first|omega|exact hL0|exact(z52 x s.1).symm|exact z52 x s.1|(rw[if_pos ⟨rfl,by show(rowW x s.1).length=_;rw[z52];rfl⟩])|(show _≤(rowW x s.1).length;rw[z52];decide)|exact(z1y x _).symm|exact(z3m x _).symm|(show(_:List Int)=_;first|assumption|rfl)|(show(_:List Bool)=_;first|assumption|rfl)|(show allTo _ _ _;first|(rw[hXR];exact z1m _)|(rw[hXR];trivial)|exact z1m _)|(show allTo _ _ _;first|(rw[zif hcl rfl,zoa hcl rfl];refine z2w ?_ ?_<;>(repeat' (first|exact trivial|refine aI ?_ ?_|rfl|omega|decide|exact(z1y x _).symm|exact(z3m x _).symm|exact z3a _|(simp;done)|rw[if_pos ⟨rfl,by simp⟩])))|(refine zqe hcl hset.1 hset.2 ?_ ?_<;>(repeat' (first|exact trivial|refine aI ?_ ?_|rfl|omega|decide|exact(z1y x _).symm|exact(z3m x _).symm|exact z3a _|(simp;done)|rw[if_pos ⟨rfl,by simp⟩])))|(refine z2w ?_ ?_<;>(repeat' (first|exact trivial|refine aI ?_ ?_|rfl|omega|decide|exact(z1y x _).symm|exact(z3m x _).symm|exact z3a _|(simp;done)|rw[if_pos ⟨rfl,by simp⟩]))))|(show(0:Nat)< (z02 _ _ _ _).length;rw[z00 hcl];decide)|(simp[-List.reduceReplicate];done)|(simp[-List.reduceReplicate]<;>omega)|skip
         ·exact uUs_0
         ·exact uUs_0
         ·exact uUs_0
         refine srR z3d fun _ K49=>?_;refine z32 ?_;refine zie ?_;refine exA (.c (.slice 2 0 s.1 s.2.1)) (as_c (tab_x hcl)) ?_
         iterate 2 refine z32 ?_
         refine zie ?_;intro cap4 hcap4;refine exI ?_;refine z32 ?_;refine zc0 ?_;refine s_n K49 ?_
         revert cap4 hcap4
         intro capA hcapA;refine z06 z3d fun _ K50=>?_;refine z32 ?_;refine zie ?_;refine exA (.c (.slice 3 0 s.1 s.2.2)) (as_c (show(Cont.cells _).get (0+258)=_ by rw[zif hcl rfl];exact tab_y hcl)) ?_
         iterate 4 refine z32 ?_
         refine zie ?_;intro cap6 hcap6;refine exI ?_;refine z32 ?_;refine zc0 ?_;refine s_n K50 ?_;refine z0a ?_;apply K29;refine z06 z3d fun _ K51=>?_
         iterate 2 refine z32 ?_
         refine s_n K51 ?_
         have hX3:accW x s.1++([]++[decide ((s.1:Int)=(x.length:Int))])=accW x (s.1+1):=zza x s.1
         have hXR:rowsC (rowsW x s.1)++([]++[.ds 256 (.ints .i64 (rowW x s.1))])=rowsC (rowsW x (s.1+1)):=by
          have:=z59 (rowsW x s.1) (rowW x s.1)
          rw[z52,zvh]at this;exact this
         refine dnS [] (fun i=>if i=2 then 5 else if i=3 then 7 else i) (s.1+1,capA,cap6) ⟨⟨by show s.1+1≤_;omega,(by show s.1+1≤capA;omega),(by show s.1+1≤cap6;omega)⟩,by show _ - (s.1+1)< _;omega⟩ [0,1,5,7] ?_ ?_ ?_ ?_
         ·exact uUs_0
         ·exact uUs_0
         ·exact uUs_0
         ·exact uUs_0
     ·try simp only[dQ,reduceIte]at h_t27
      refine z0o ?_;refine z01 ?_;refine z01 ?_;refine z0j ?_;apply K23
      have hse:s.1=x.length+2:=by omega
      rw[hse];refine leW [2,3] id [(2,.c (.ptr 0 0)),(5,.c (.ptr 1 0))] [(0,.own 30 (.cells [.nils,.nils,.nils]) 3),(1,.own 87 (tabC (wordT x)) 259)] 2 [0,1] uUs_0 uUs_0 uUs_0 uUs_0 ?_;refine srR z3d fun _ K53=>?_;refine zz9 ?_;refine exA (tabV (wordT x)) (SV.as_refl _) ?_;refine zz9 ?_;refine aI (z0x _) ?_;refine z15 _ ?_;refine⟨wordT x,rfl,zo9 hn62,?_⟩;rw[zt8]
      simp only[z28]
      refine DUs_3 ?_
      first|refine exI ?_|(intro cap1 hcap1;refine exI ?_)
      refine sX0Us_4 ?_;refine sXUs_5 ?_;refine s_n K53 ?_;rw[wordR,if_neg (by omega)];refine z0g (z0k z3d (fun _ _ h=>h) (z10 _) [] [.cell 2 30,.tmp 3] rfl ?_)
      repeat first|refine aI (by first|exact trivial|rfl|exact⟨rfl,rfl⟩|decide) ?_|refine z04 (by first|rfl|decide) ?_|refine z03 (by first|rfl|decide) ?_
      all_goals exact uUs_0


end Go.Proofs.YtppmnaoollkboaaDoor
