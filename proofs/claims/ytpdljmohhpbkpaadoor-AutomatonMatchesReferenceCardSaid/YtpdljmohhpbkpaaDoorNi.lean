/- Contracts of functions and plain facts, part 9. -/
import Derived.Test.YtpdljmohhpbkpaaDoorNh
import Derived.Test.YtpdljmohhpbkpaaDoorNd
import Derived.Test.YtpdljmohhpbkpaaDoorNc
set_option linter.all false
set_option maxHeartbeats 2000000
set_option maxRecDepth 4000
namespace Go.Proofs.YtpdljmohhpbkpaaDoor
open Go.Ab Go.RowKit

section
variable {a b:Prop}
theorem FP(h:a:=by first|exact gG|(simp[-List.reduceReplicate]<;>omega)|exact vV|exact⟨by omega,by omega,trivial⟩|exact⟨by omega,by omega,trivial,trivial⟩|exact⟨rfl,trivial⟩|(show _< (bM _ _ _).length;rw[z37];omega)|(show _< ((au _ _ _ _).set _ _).length;rw[List.length_set,dJ hcl];decide)|exact gH):a:=h
theorem FQ(h:a:=by first|exact gG|(simp[-List.reduceReplicate]<;>omega)|exact vV|(show 0+259<=(au (kH 256) _ _ _).length;rw[dJ hcl];decide)|exact dJ hcl|exact gH):a:=h
theorem bi(h:a:=by
    repeat' (first|assumption|exact Bp trivial (by show _< _;omega)|exact Bp (by show _< _;omega) (by show _< _;omega)|exact pT|exact trivial|refine aI ?_ ?_|exact iM|refine low_cons' ?_ ?_|exact iN|fail)
    all_goals first|omega|exact hL0|exact(sZ x _).symm|exact(Bi x _).symm|(show(_:List Int)=_;first|assumption|rfl)|(show(_:List Bool)=_;first|assumption|rfl)|(show bR _ _ _;first|(rw[hXR];exact nI _)|(rw[hXR];trivial)|exact nI _)|(show bR _ _ _;first|(rw[Xq hcl rfl,zqo hcl rfl];refine sj ?_ ?_<;>(repeat' (first|exact trivial|refine aI ?_ ?_|rfl|omega|decide|exact(sZ x _).symm|exact(Bi x _).symm|exact z31 _|(simp;done)|rw[if_pos ⟨rfl,by simp⟩])))|(refine ZI hcl hset.1 hset.2 ?_ ?_<;>(repeat' (first|exact trivial|refine aI ?_ ?_|rfl|omega|decide|exact(sZ x _).symm|exact(Bi x _).symm|exact z31 _|(simp;done)|rw[if_pos ⟨rfl,by simp⟩])))|(refine sj ?_ ?_<;>(repeat' (first|exact trivial|refine aI ?_ ?_|rfl|omega|decide|exact(sZ x _).symm|exact(Bi x _).symm|exact z31 _|(simp;done)|rw[if_pos ⟨rfl,by simp⟩]))))|(show(0:Nat)< (au _ _ _ _).length;rw[dJ hcl];decide)|(simp[-List.reduceReplicate];done)|(simp[-List.reduceReplicate]<;>omega)|skip):a:=h
theorem wP(kZ:b)(h:aK b->a:=by intro kZ;(repeat first|refine aI FP ?_|refine bW FP ?_|refine dC FP ?_|refine fT FP ?_|refine fA ?_);exact kZ.out):a:=h ⟨kZ⟩
theorem mi(kZ:b)(h:aK b->a:=by intro kZ;refine sX ?_;refine wP ?_;refine aL ?_;exact kZ.out):a:=h ⟨kZ⟩
theorem MI(kZ:b)(h:aK b->a:=by intro kZ;refine jl ?_;refine wP ?_;refine aL ?_;exact kZ.out):a:=h ⟨kZ⟩
theorem tT(kZ:b)(h:aK b->a:=by intro kZ;(repeat first|refine aI FQ ?_|refine bW FQ ?_|refine dC FQ ?_|refine fT FQ ?_|refine fA ?_);exact kZ.out):a:=h ⟨kZ⟩
theorem GA(kZ:b)(h:aK b->a:=by intro kZ;refine jl ?_;refine tT ?_;refine aL ?_;exact kZ.out):a:=h ⟨kZ⟩
theorem LC(kZ:b)(h:aK b->a:=by intro kZ;refine sX ?_;refine tT ?_;refine aL ?_;exact kZ.out):a:=h ⟨kZ⟩
theorem QE(kZ:b)(h:aK b->a:=by intro kZ;refine sX ?_;refine wP ?_;exact kZ.out):a:=h ⟨kZ⟩
theorem y20(kZ:b)(h:aK b->a:=by intro kZ;refine sX ?_;refine tT ?_;exact kZ.out):a:=h ⟨kZ⟩
end
open Go.Aut
def kH(k:Nat):List Int:=(List.range 256).map fun i=>if i< k then(i:Int)else 0
theorem pV(k:Nat):(kH k).length=256:=by simp[kH]
theorem Y8:z12=kH 0:=by simp[kH,z12,List.map_const']
theorem y21{k:Nat}(h:k< 256):(kH k).set k (k:Int)=kH (k+1):=by
  refine o9 0 (by rw[List.length_set,pV,pV]) fun i hi=>?_
  have hi:i< 256:=by rw[List.length_set,pV]at hi;exact hi
  rw[my (by rw[pV];exact hi),kH,kH,iy hi,iy hi]
  by_cases e:k=i
  · subst e;rw[if_pos rfl,if_pos (by omega)]
  · rw[if_neg e]
    by_cases h2:i< k
    · rw[if_pos h2,if_pos (by omega)]
    · rw[if_neg h2,if_neg (by omega)]
theorem Dz{b:Nat}(h:b< 256):(kH 256).getD b 0=(b:Int):=by rw[kH,iy h,if_pos h]
def jS(x:List UInt8)(s:Nat):List Int:=(List.range 256).map fun b=>if s< x.length/\b=(x.getD s 0).toNat then((s:Int)+1) else((x.length:Int)+1)
def dE(x:List UInt8)(k:Nat):List (List Int):=(List.range k).map (jS x)
def iB(x:List UInt8)(k:Nat):List Bool:=(List.range k).map fun s:Nat=>decide ((s:Int)=(x.length:Int))
theorem CG(x:List UInt8)(s:Nat):(jS x s).length=256:=by simp[jS]
@[simp] theorem sZ(x:List UInt8)(k:Nat):(dE x k).length=k:=by simp[dE]
@[simp] theorem Bi(x:List UInt8)(k:Nat):(iB x k).length=k:=by simp[iB]
theorem zlt(x:List UInt8)(k:Nat):dE x k++[jS x k]=dE x (k+1):=by simp[dE,List.range_succ]
theorem zqn(x:List UInt8)(k:Nat):iB x k++[decide ((k:Int)=(x.length:Int))]=iB x (k+1):=by simp[iB,List.range_succ]
theorem y22{x:List UInt8}{s:Nat}(h:¬ s< x.length):bM 256 ((x.length:Int)+1) 256=jS x s:=by
  refine List.map_congr_left fun b hb=>?_;rw[if_pos (List.mem_range.1 hb),if_neg fun hh=>h hh.1]
theorem zvs{x:List UInt8}{s:Nat}(h:s< x.length):(bM 256 ((x.length:Int)+1) 256).set (x.getD s 0).toNat ((s:Int)+1)=jS x s:=by
  refine o9 0 (by rw[List.length_set,z37,CG]) fun i hi=>?_
  have hi:i< 256:=by rw[List.length_set,z37]at hi;exact hi
  rw[my (by rw[z37];exact hi),bM,jS,iy hi,iy hi,if_pos hi]
  by_cases e:(x.getD s 0).toNat=i
  · rw[if_pos e,if_pos ⟨h,e.symm⟩]
  · rw[if_neg e,if_neg fun hh=>e hh.2.symm]
def jU(x:List UInt8):Tab:={ cell:=kH 256,nc:=256,next:=dE x (x.length+2),acc:=iB x (x.length+2) }
theorem XT(x:List UInt8){b:Nat}(h:b< 256):(aD (jU x)).cell b=b:=by
  show((kH 256).getD b 0).toNat=b
  rw[Dz h];rfl
theorem zlu(x:List UInt8){s b:Nat}(hs:s< x.length+2)(hb:b< 256):(aD (jU x)).δ s b=if s< x.length/\b=(x.getD s 0).toNat then s+1 else x.length+1:=by
  show(((dE x (x.length+2)).getD s []).getD b 0).toNat=_
  rw[dE,iy hs,jS,iy hb]
  split<;>omega
theorem Xp{x:List UInt8}(h:x.length<=62):(jU x).fit:=by
  refine⟨⟨pV 256,fun y hy=>?_,?_,?_,fun r hr=>?_,fun c hc=>⟨c,hc,XT x hc⟩⟩,?_,Nat.le_refl _⟩
  · obtain⟨b,hb,rfl⟩:=List.mem_map.1 hy
    have hb:=List.mem_range.1 hb
    rw[if_pos hb]
    show 0<=_/\_< ((256:Nat):Int)
    omega
  · show 0< (dE x (x.length+2)).length
    rw[sZ];omega
  · show(iB x (x.length+2)).length=(dE x (x.length+2)).length
    rw[sZ,Bi]
  · obtain⟨s,hs,rfl⟩:=List.mem_map.1 hr
    have hs:=List.mem_range.1 hs
    refine⟨CG x s,fun y hy=>?_⟩;obtain⟨b,hb,rfl⟩:=List.mem_map.1 hy
    show 0<=_/\_< (((dE x (x.length+2)).length:Nat):Int)
    rw[sZ]
    split<;>omega
  · show(dE x (x.length+2)).length<=65535
    rw[sZ];omega
theorem XU(x:List UInt8):∀ (w:List Nat),Bytes w->(aD (jU x)).lang (x.length+1) w=false
  | [],_=>by
    show(iB x (x.length+2)).getD (x.length+1) false=false
    rw[iB,iy (by omega)];exact decide_eq_false (by omega)
  | b ::w,hw=>by
    have hb:=hw b List.mem_cons_self
    have e:(aD (jU x)).δ (x.length+1) ((aD (jU x)).cell b)=x.length+1:=by
      rw[XT x hb,zlu x (by omega) hb,if_neg (by omega)]
    rw[Iu,e];exact XU x w fun y hy=>hw y (List.mem_cons_of_mem _ hy)
theorem XV (x:List UInt8):∀ (w:List Nat) (s:Nat),Bytes w->s<=x.length->(aD (jU x)).lang s w=decide (w=(wN x).drop s)
  | [],s,_,hs=>by
    show(iB x (x.length+2)).getD s false=_
    rw[iB,iy (by omega)]
    have hl:(wN x).length=x.length:=by simp[wN]
    rw[decide_eq_decide]
    constructor
    · intro h
      rw[List.drop_of_length_le (by omega)]
    · intro h
      have:=congrArg List.length h
      rw[List.length_drop,hl]at this
      simp at this;omega
  | b ::w,s,hw,hs=>by
    have hb:=hw b List.mem_cons_self
    have hw':Bytes w:=fun y hy=>hw y (List.mem_cons_of_mem _ hy)
    have hl:(wN x).length=x.length:=by simp[wN]
    rw[Iu,XT x hb,zlu x (by omega) hb]
    by_cases h:s< x.length
    · have hd:(wN x).drop s=(x.getD s 0).toNat::(wN x).drop (s+1):=by
        rw[List.drop_eq_getElem_cons (by omega)]
        congr 1
        rw[qb h];simp[wN]
      rw[hd]
      by_cases e:b=(x.getD s 0).toNat
      · rw[if_pos ⟨h,e⟩,XV x w (s+1) hw' h,e];simp
      · rw[if_neg fun hh=>e hh.2,XU x w hw']
        exact(decide_eq_false fun hh=>e (by injection hh)).symm
    · rw[if_neg fun hh=>h hh.1,XU x w hw',List.drop_of_length_le (by omega)];simp
theorem Y9(x:List UInt8):af ((aD (jU x)).lang 0)=af (fP (wN x)):=CK fun w hw=>by
  rw[XV x w 0 hw (Nat.zero_le _),List.drop_zero];rfl
noncomputable def jb(x:List UInt8):Dfa×Nat:=if 62< x.length then(uA,2) else(af (fP (wN x)),0)
theorem zta(nc:Nat):((aB.cells (List.replicate 257 (Cell.int .i64 0)++List.replicate 2 Cell.nils)).sub 0 256).list++([.int .i64 nc]++(((aB.cells (List.replicate 257 (Cell.int .i64 0)++List.replicate 2 Cell.nils)).sub 257 1).list++(((aB.cells (List.replicate 257 (Cell.int .i64 0)++List.replicate 2 Cell.nils)).sub 258 1).list++[])))=au (kH 0) nc .nils .nils:=by
  have h1:=zlo nc .nils .nils
  rw[<-Y8, <-h1]
  have e:∀ i,i< 2->((List.replicate 257 (Cell.int .i64 0)++List.replicate 2 Cell.nils).drop (257+i)).take 1=[Cell.nils]:=fun i hi=>by
    rw[List.drop_append,List.length_replicate,Nat.add_sub_cancel_left,List.drop_of_length_le (by rw[List.length_replicate];omega)]
    match i,hi with
    |0,_=>rfl
    |1,_=>rfl
  congr 2
theorem Xq{cell:List Int}{nc i:Nat}{x y z:Cell}(h:cell.length=256)(hi:i=257):(au cell nc x y).set i z=au cell nc z y:=by subst hi;exact TH h
theorem zqo{cell:List Int}{nc i:Nat}{x y z:Cell}(h:cell.length=256)(hi:i=258):(au cell nc x y).set i z=au cell nc x z:=by subst hi;exact zvp h
attribute [local irreducible] eG z12 zl au gz cr bM af kH dE iB jS
noncomputable def V3:Ctx:={ P:=Tryd.prog,ty:=ty,glob:=gl,fs:=[(33,.data PY)] }
theorem z43:V3.OK:=⟨dS,⟨⟨bX Tryd.func33 aN rfl,Re⟩,trivial⟩,mixed⟩
@[simp] theorem V4:V3.ty=ty:=rfl

def B5:aW:=fun vs K=>∃ x:List UInt8,vs=[.c (.ds x.length (.u8s x))]/\x.length<=9223372036854775807/\K (lX (jb x))
theorem y23:jr Tryd.prog gl 18 B5:=by
 refine kJ (Γ:=V3) (N:=69) Tryd.func18 rfl rfl fun vs K h=>?_;obtain⟨x,rfl,hxl,h⟩:=h;refine⟨_,h,ib _,by simp,fun w I=>?_⟩;refine aO z43 fun _ K2=>?_
 iterate 2 refine mi ?_
 refine aJ K2 (aO z43 fun _ K4=>?_)
 iterate 3 refine mi ?_
 refine aJ K4 (aH fun _ K5=>aO z43 fun _ K7=>?_)
 iterate 2 refine mi ?_
 refine aJ K7 (bC (b:=_) rfl (fun h_t13=>?_) (fun h_t13=>?_))
 ·try simp only[dQ,reduceIte]at h_t13
  refine aO z43 fun _ K9=>mi ?_;refine MI ?_;refine mi ?_;refine aJ K9 ?_;rw[jb,if_pos (by omega)];refine bQ (gT z43 (fun _ _ h=>h) (ib _) [] [.cell 2 30,.tmp 3] rfl ?_)
  repeat first|refine aI (by first|exact trivial|rfl|exact⟨rfl,rfl⟩|decide) ?_|refine bW (by first|rfl|decide) ?_|refine dC (by first|rfl|decide) ?_
  all_goals exact bi
 ·try simp only[dQ,reduceIte]at h_t13
  refine bK (K5 _ _ _ ?_)
  have hn62:x.length<=62:=by omega
  have hcl:(kH 0).length=256:=pV 0
  refine fQ [] id [(0,.c (.ds x.length (.u8s x))),(2,.c (.ptr 0 0)),(4,.c (.int .i64 (x.length:Nat)))] [(0,.own 30 (.cells [.nils,.nils,.nils]) 3)] 1 [0] bi bi bi bi (aO z43 fun _ K11=>QE ?_);refine aU (.agg (.cells (au (kH 0) 256 .nils .nils))) (bq (congrArg (fun l=>SV.agg (aB.cells l)) (zta 256))) (mi ?_);refine MI ?_;refine aJ K11 (aH fun _ K12=>aO z43 fun _ K14=>mi ?_);refine aJ K14 (bO (fM (α:=Nat) (fun b=>[(0,.c (.ds x.length (.u8s x))),(2,.c (.ptr 0 0)),(4,.c (.int .i64 (x.length:Nat))),(5,.c (.ptr 1 0)),(16,.c (.int .i64 (b:Nat)))]) (fun b=>[(0,.own 30 (.cells [.nils,.nils,.nils]) 3),(1,.own 56 (.cells (au (kH b) 256 .nils .nils)) 259)]) 2 (fun b=>b<=256) (fun b=>256 - b) ?_ ?_))
  ·refine ai [] id 0 (Nat.zero_le _) [0,1] bi bi bi bi
  ·intro b hb;refine aO z43 fun _ K16=>mi ?_;refine aJ K16 (aH fun _ K17=>bC (b:=_) rfl (fun h_t17=>?_) (fun h_t17=>?_))
   ·try simp only[dQ,reduceIte]at h_t17
    refine bK (K17 _ _ _ (aH fun _ K18=>bO ?_))
    have hcl:(kH b).length=256:=pV b
    have hb256:b< 256:=by omega
    refine aO z43 fun _ K20=>?_
    iterate 2 refine mi ?_
    refine aJ K20 (bB z43 fun _ K21=>?_)
    iterate 4 refine mi ?_
    refine MI ?_;refine aJ K21 (dD (K18 _ _ _ (bB z43 fun _ K22=>?_)))
    iterate 2 refine mi ?_
    refine aJ K22 ?_
    have hset:0+0+((b:Nat):Int).toNat*1< 256/\(kH b).set (0+0+((b:Nat):Int).toNat*1) (b:Nat)=kH (b+1):=by
     rw[show 0+0+((b:Nat):Int).toNat*1=b by omega];exact⟨hb256,y21 hb256⟩
    refine ai [] id (b+1) ⟨by omega,by omega⟩ [0,1] bi bi bi bi
   ·try simp only[dQ,reduceIte]at h_t17
    refine eY (bJ (bJ (eX (K12 _ _ _ (aH fun _ K23=>?_)))))
    obtain rfl:b=256:=by omega
    have hcl:(kH 256).length=256:=pV 256
    refine aO z43 fun _ K25=>?_
    iterate 3 refine mi ?_
    refine aJ K25 (bO (z30 1 257 44 (.cells []) rfl (y1k hcl) rfl low_nil' (z30 1 258 4 (.bools []) rfl (by rw[TH hcl];exact y1l hcl) rfl trivial (fM (α:=Nat×Nat×Nat) (fun s=>[(0,.c (.ds x.length (.u8s x))),(2,.c (.ptr 0 0)),(4,.c (.int .i64 (x.length:Nat))),(5,.c (.ptr 1 0)),(25,.c (.int .i64 ((x.length:Int)+2))),(26,.c (.int .i64 (s.1:Nat)))]) (fun s=>[(0,.own 30 (.cells [.nils,.nils,.nils]) 3),(1,.own 56 (.cells (au (kH 256) 256 (.slice 2 0 s.1 s.2.1) (.slice 3 0 s.1 s.2.2))) 259),(2,.own 44 (.cells (aS (dE x s.1))) s.2.1),(3,.own 4 (.bools (iB x s.1)) s.2.2)]) 4 (fun s=>s.1<=x.length+2/\s.1<=s.2.1/\s.1<=s.2.2) (fun s=>x.length+2 - s.1) ?_ ?_))))
    ·have hX3:([]:List Bool)=iB x 0:=by unfold iB;rfl
     have hXR:aS (dE x 0)=[]:=by unfold dE;rfl
     refine ai [] id (0,0,0) ⟨Nat.zero_le _,Nat.le_refl _,Nat.le_refl _⟩ [0,1,2,3] bi bi bi bi
    ·intro s hs
     obtain⟨hs1,hs2,hs3⟩:=hs;refine aO z43 fun _ K27=>mi ?_;refine aJ K27 (aH fun _ K28=>bC (b:=_) rfl (fun h_t27=>?_) (fun h_t27=>?_))
     ·try simp only[dQ,reduceIte]at h_t27
      refine bK (K28 _ _ _ (aH fun _ K29=>bO ?_))
      have hcl:(kH 256).length=256:=pV 256
      refine aO z43 fun _ K31=>?_
      iterate 2 refine mi ?_
      refine aJ K31 (aO z43 fun _ K33=>?_)
      iterate 2 refine mi ?_
      refine aJ K33 (aH fun _ K34=>aO z43 fun _ K36=>?_)
      iterate 3 refine mi ?_
      refine aJ K36 (bO (fM (α:=Nat) (fun b=>[(0,.c (.ds x.length (.u8s x))),(2,.c (.ptr 0 0)),(4,.c (.int .i64 (x.length:Nat))),(5,.c (.ptr 1 0)),(25,.c (.int .i64 ((x.length:Int)+2))),(26,.c (.int .i64 (s.1:Nat))),(7,.c (.int .i64 (s.1:Nat))),(8,.c (.slice 4 0 256 256)),(31,.c (.int .i64 256)),(32,.c (.int .i64 (b:Nat)))]) (fun b=>[(0,.own 30 (.cells [.nils,.nils,.nils]) 3),(1,.own 56 (.cells (au (kH 256) 256 (.slice 2 0 s.1 s.2.1) (.slice 3 0 s.1 s.2.2))) 259),(2,.own 44 (.cells (aS (dE x s.1))) s.2.1),(3,.own 4 (.bools (iB x s.1)) s.2.2),(4,.own 3 (.ints .i64 (bM 256 ((x.length:Int)+1) b)) 256)]) 5 (fun b=>b<=256) (fun b=>256 - b) ?_ ?_))
      ·have hX1:List.replicate 256 (0:Int)=(bM 256 ((x.length:Int)+1) 0):=(Mk _ _).symm
       refine ai [] id 0 (Nat.zero_le _) [0,1,2,3,4] bi bi bi bi
      ·intro b hb;refine aO z43 fun _ K38=>mi ?_;refine aJ K38 (aH fun _ K39=>bC (b:=_) rfl (fun h_t33=>?_) (fun h_t33=>?_))
       ·try simp only[dQ,reduceIte]at h_t33
        refine bK (K39 _ _ _ (aH fun _ K40=>bO ?_))
        have hb256:b< 256:=by omega
        refine aO z43 fun _ K42=>?_
        iterate 2 refine mi ?_
        refine aJ K42 (bB z43 fun _ K43=>?_)
        iterate 5 refine mi ?_
        refine MI ?_;refine aJ K43 (dD (K40 _ _ _ (bB z43 fun _ K44=>?_)))
        iterate 2 refine mi ?_
        refine aJ K44 ?_
        have hX1:(bM 256 ((x.length:Int)+1) b).set (0+((b:Nat):Int).toNat*1) ((x.length:Int)+1)=(bM 256 ((x.length:Int)+1) (b+1)):=by rw[show 0+((b:Nat):Int).toNat*1=b by omega];exact Mv _ hb256
        refine ai [] id (b+1) ⟨by omega,by omega⟩ [0,1,2,3,4] bi bi bi bi
       ·try simp only[dQ,reduceIte]at h_t33
        refine eY (bJ (bJ (eX (K34 _ _ _ (qf (α:=Unit) (fun _=>[(0,.c (.ds x.length (.u8s x))),(2,.c (.ptr 0 0)),(4,.c (.int .i64 (x.length:Nat))),(5,.c (.ptr 1 0)),(25,.c (.int .i64 ((x.length:Int)+2))),(26,.c (.int .i64 (s.1:Nat))),(7,.c (.int .i64 (s.1:Nat))),(8,.c (.slice 4 0 256 256))]) (fun _=>[(0,.own 30 (.cells [.nils,.nils,.nils]) 3),(1,.own 56 (.cells (au (kH 256) 256 (.slice 2 0 s.1 s.2.1) (.slice 3 0 s.1 s.2.2))) 259),(2,.own 44 (.cells (aS (dE x s.1))) s.2.1),(3,.own 4 (.bools (iB x s.1)) s.2.2),(4,.own 3 (.ints .i64 (jS x s.1)) 256)]) 5 (fun _=>True) ?_ ?_)))))
        ·obtain rfl:b=256:=by omega
         refine aO z43 fun _ K46=>?_
         iterate 3 refine mi ?_
         refine aJ K46 (bC (b:=_) rfl (fun h_t43=>?_) (fun h_t43=>?_))
         ·try simp only[dQ,reduceIte]at h_t43
          have hsl:s.1< x.length:=by omega
          have hbt:(x.getD ((s.1:Int).toNat*1) 0).toNat< 256:=UInt8.toNat_lt _
          refine bB z43 fun _ K47=>?_
          iterate 8 refine mi ?_
          refine MI ?_;refine aJ K47 ?_
          have hrow:(bM 256 ((x.length:Int)+1) 256).set (0+(((x.getD ((s.1:Int).toNat*1) 0).toNat:Nat):Int).toNat*1) ((s.1:Int)+1)=jS x s.1:=by
           rw[Int.toNat_natCast,Int.toNat_natCast,Nat.mul_one,Nat.mul_one,Nat.zero_add];exact zvs (by omega)
          refine ai [] id () trivial [0,1,2,3,4] bi bi bi bi
         ·try simp only[dQ,reduceIte]at h_t43
          refine bK ?_
          have hrow:(bM 256 ((x.length:Int)+1) 256)=jS x s.1:=y22 (by omega)
          refine ai [] id () trivial [0,1,2,3,4] bi bi bi bi
        ·intro _ _;refine fQ [4] id [(0,.c (.ds x.length (.u8s x))),(2,.c (.ptr 0 0)),(4,.c (.int .i64 (x.length:Nat))),(5,.c (.ptr 1 0)),(25,.c (.int .i64 ((x.length:Int)+2))),(26,.c (.int .i64 (s.1:Nat))),(7,.c (.int .i64 (s.1:Nat))),(8,.c (.ds 256 (.ints .i64 (jS x s.1))))] [(0,.own 30 (.cells [.nils,.nils,.nils]) 3),(1,.own 56 (.cells (au (kH 256) 256 (.slice 2 0 s.1 s.2.1) (.slice 3 0 s.1 s.2.2))) 259),(2,.own 44 (.cells (aS (dE x s.1))) s.2.1),(3,.own 4 (.bools (iB x s.1)) s.2.2)] 4 [0,1,2,3] ?_ ?_ ?_ ?_ ?_
         ·repeat' (first|assumption|exact Bp trivial (by show _< _;omega)|exact Bp (by show _< _;omega) (by show _< _;omega)|exact pT|exact trivial|refine aI ?_ ?_|exact iM|refine low_cons' ?_ ?_|exact iN|fail)
          all_goals first|omega|exact hL0|exact(CG x s.1).symm|exact CG x s.1|(rw[if_pos ⟨rfl,by show(jS x s.1).length=_;rw[CG];rfl⟩])|(show _<=(jS x s.1).length;rw[CG];decide)|exact(sZ x _).symm|exact(Bi x _).symm|(show(_:List Int)=_;first|assumption|rfl)|(show(_:List Bool)=_;first|assumption|rfl)|(show bR _ _ _;first|(rw[hXR];exact nI _)|(rw[hXR];trivial)|exact nI _)|(show bR _ _ _;first|(rw[Xq hcl rfl,zqo hcl rfl];refine sj ?_ ?_<;>(repeat' (first|exact trivial|refine aI ?_ ?_|rfl|omega|decide|exact(sZ x _).symm|exact(Bi x _).symm|exact z31 _|(simp;done)|rw[if_pos ⟨rfl,by simp⟩])))|(refine ZI hcl hset.1 hset.2 ?_ ?_<;>(repeat' (first|exact trivial|refine aI ?_ ?_|rfl|omega|decide|exact(sZ x _).symm|exact(Bi x _).symm|exact z31 _|(simp;done)|rw[if_pos ⟨rfl,by simp⟩])))|(refine sj ?_ ?_<;>(repeat' (first|exact trivial|refine aI ?_ ?_|rfl|omega|decide|exact(sZ x _).symm|exact(Bi x _).symm|exact z31 _|(simp;done)|rw[if_pos ⟨rfl,by simp⟩]))))|(show(0:Nat)< (au _ _ _ _).length;rw[dJ hcl];decide)|(simp[-List.reduceReplicate];done)|(simp[-List.reduceReplicate]<;>omega)|skip
         ·exact bi
         ·exact bi
         ·exact bi
         refine aO z43 fun _ K49=>mi ?_;refine QE ?_;refine aU (.c (.slice 2 0 s.1 s.2.1)) (ak (Ih hcl)) ?_
         iterate 2 refine mi ?_
         refine QE ?_;intro cap4 hcap4;refine aL (mi ?_);refine MI ?_;refine aJ K49 ?_
         revert cap4 hcap4
         intro capA hcapA;refine bB z43 fun _ K50=>mi ?_;refine QE ?_;refine aU (.c (.slice 3 0 s.1 s.2.2)) (ak (show(aB.cells _).get (0+258)=_ by rw[Xq hcl rfl];exact BR hcl)) ?_
         iterate 4 refine mi ?_
         refine QE ?_;intro cap6 hcap6;refine aL (mi ?_);refine MI ?_;refine aJ K50 (dD (K29 _ _ _ (bB z43 fun _ K51=>?_)))
         iterate 2 refine mi ?_
         refine aJ K51 ?_
         have hX3:iB x s.1++([]++[decide ((s.1:Int)=(x.length:Int))])=iB x (s.1+1):=zqn x s.1
         have hXR:aS (dE x s.1)++([]++[.ds 256 (.ints .i64 (jS x s.1))])=aS (dE x (s.1+1)):=by
          have:=Gg (dE x s.1) (jS x s.1)
          rw[CG,zlt]at this;exact this
         refine ai [] (fun i=>if i=2 then 5 else if i=3 then 7 else i) (s.1+1,capA,cap6) ⟨⟨by show s.1+1<=_;omega,(by show s.1+1<=capA;omega),(by show s.1+1<=cap6;omega)⟩,by show _ - (s.1+1)< _;omega⟩ [0,1,5,7] ?_ ?_ ?_ ?_
         ·exact bi
         ·exact bi
         ·exact bi
         ·exact bi
     ·try simp only[dQ,reduceIte]at h_t27
      refine eY (bJ (bJ (eX (K23 _ _ _ ?_))))
      have hse:s.1=x.length+2:=by omega
      rw[hse];refine fQ [2,3] id [(2,.c (.ptr 0 0)),(5,.c (.ptr 1 0))] [(0,.own 30 (.cells [.nils,.nils,.nils]) 3),(1,.own 56 (dP (jU x)) 259)] 2 [0,1] bi bi bi bi (aO z43 fun _ K53=>y20 ?_);refine aU (bu (jU x)) (SV.as_refl _) (y20 ?_);refine aI (lu _) (lz _ ⟨jU x,rfl,Xp hn62,?_⟩);rw[Y9]
      simp only[pW]
      refine tT ?_
      first|refine aL ?_|(intro cap1 hcap1;refine aL ?_)
      refine GA ?_;refine LC ?_;refine aJ K53 ?_;rw[jb,if_neg (by omega)];refine bQ (gT z43 (fun _ _ h=>h) (ib _) [] [.cell 2 30,.tmp 3] rfl ?_)
      repeat first|refine aI (by first|exact trivial|rfl|exact⟨rfl,rfl⟩|decide) ?_|refine bW (by first|rfl|decide) ?_|refine dC (by first|rfl|decide) ?_
      all_goals exact bi


end Go.Proofs.YtpdljmohhpbkpaaDoor
