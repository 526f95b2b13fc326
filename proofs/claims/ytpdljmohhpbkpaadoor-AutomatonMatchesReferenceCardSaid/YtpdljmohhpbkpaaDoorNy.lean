/- Contracts of functions and plain facts, part 25. -/
import Derived.Test.YtpdljmohhpbkpaaDoorNx
import Derived.Test.YtpdljmohhpbkpaaDoorNn
import Derived.Test.YtpdljmohhpbkpaaDoorNl
set_option linter.all false
set_option maxHeartbeats 4000000
set_option maxRecDepth 4000
namespace Go.Proofs.YtpdljmohhpbkpaaDoor
open Go.Ab Go.RowKit

section
variable {a b:Prop}
theorem Ep(h:a:=by first|exact gG|(simp[-List.reduceReplicate]<;>omega)|exact PG|exact rX trivial trivial|(show _< (rt _ _ _).length;rw[bG hxc];omega)|(show _<=(rt _ _ _).length;rw[bG hxc];omega)|(show(rt _ _ _).length=258;exact bG hxc)|(show 258=(rt _ _ _).length;exact(bG hxc).symm)|(show 0+(rt _ _ _).length<=(List.replicate 256 _++List.replicate 2 _).length;rw[bG hxc];simp)|(show(List.replicate 256 _++List.replicate 2 _).length=(rt _ _ _).length;rw[bG hxc];simp)|(show dz.length=(rt _ _ _).length;rw[jA,bG hxc])|(show 0+(rt _ _ _).length<=dz.length;rw[jA,bG hxc];decide)|(show(rt _ _ _).length=dz.length;rw[jA,bG hxc])|(show _< (aS _).length;rw[nH];omega)|(simp only[jI];omega)|(simp only[z17];omega)|exact rX trivial trivial|(show _< (rt _ _ _).length;rw[bG hxc];omega)|(show _<=(rt _ _ _).length;rw[bG hxc];omega)|(show(rt _ _ _).length=258;exact bG hxc)|(show 258=(rt _ _ _).length;exact(bG hxc).symm)|(show 0+(rt _ _ _).length<=(List.replicate 256 _++List.replicate 2 _).length;rw[bG hxc];simp)|(show(List.replicate 256 _++List.replicate 2 _).length=(rt _ _ _).length;rw[bG hxc];simp)|(show dz.length=(rt _ _ _).length;rw[jA,bG hxc])|(show 0+(rt _ _ _).length<=dz.length;rw[jA,bG hxc];decide)|(show(rt _ _ _).length=dz.length;rw[jA,bG hxc])|(show _< (aS _).length;rw[nH];omega)|(simp only[jI];omega)|(simp only[z17];omega)|(simp only[jH];omega)|(simp only[jI,jH];omega)|exact And.intro hjl trivial|(show(List.replicate 256 (0:Int)).length=(jL _ _ _).length;rw[fI,List.length_replicate])|(show 256=(jL _ _ _).length;rw[fI])|(show 0< (jL _ _ _).length;rw[fI];decide)|(show 0+(jL _ _ _).length<=_;rw[fI];simp)|exact⟨by omega,by omega,trivial⟩|exact⟨by omega,by omega,trivial,trivial⟩|exact Ru jh _|exact jh.solid _|exact(Iq jh _).isD|(show _< (iA fE _).length;rw[su];omega)|(show _<=(iA fE _).length;rw[su];omega)|(show 0+_*2<=(iA fE _).length;rw[su];omega)|exact⟨by omega,by omega,jh.solid _⟩|exact⟨rfl,su _⟩|exact su _|(rw[su];done)|(show _< (dL _ _ _ _ _).length;rw[Lc];omega)|exact And.intro (by rw[List.length_map];exact hxc) trivial|(show(List.map _ _).length=256;rw[List.length_map];exact hxc)|(show(aB.cells (List.map _ _)).len=_;show(List.map _ _).length=_;rw[List.length_map];exact hxc)|exact Rt _|exact gH):a:=h
theorem bS(h:a:=by
    repeat' (first|exact pJ|exact pT|exact trivial|refine aI ?_ ?_|exact iM|refine low_cons' ?_ ?_|exact iN|fail)
    all_goals first|omega|(show(0:Nat)< (rt _ _ _).length;rw[bG hjl];decide)|(show aB.low _ (aB.cells (List.replicate 256 _++_));exact ou)|(show 0< (rt _ _ _).length;rw[bG hxc];decide)|(show 0< (rt _ _ _).length;rw[bG hxc];decide)|exact hL0|exact(vY _).symm|exact(Im _ _).symm|exact vY _|exact Im _ _|exact Bv trivial (by show(_:Nat)< _;omega)|exact Bv (by show(_:Nat)< _;omega) (by show(_:Nat)< _;omega)|exact lw _|exact ib _|exact Sn (Iq jh _) (by first|rfl|assumption|exact hXS)|exact Sm jh|(show(_:List Int)=_;first|assumption|rfl)|(show(_:List Bool)=_;first|assumption|rfl)|(show aB.to _ _ _ _ _ _;exact rY trivial trivial)|(show bR _ _ _;first|(rw[hXR];exact nI _)|(rw[hXR];trivial)|exact nI _)|(show bR _ _ _;(try rw[Ca hjl rfl]);(try rw[Gv hjl rfl]);refine rY ?_ ?_<;>(repeat' (first|exact trivial|refine aI ?_ ?_|rfl|omega|decide|exact z31 _|exact hL0|(simp;done)|rw[if_pos ⟨rfl,by simp⟩])))|(simp[-List.reduceReplicate];done)|(show(0:Nat)< (au _ _ _ _).length;rw[dJ hcl];decide)|(simp[-List.reduceReplicate];done)|(simp[-List.reduceReplicate]<;>omega)|skip):a:=h
theorem gI(kZ:b)(h:aK b->a:=by intro kZ;(repeat first|refine aI Ep ?_|refine bW Ep ?_|refine dC Ep ?_|refine fT Ep ?_|refine fA ?_);exact kZ.out):a:=h ⟨kZ⟩
theorem ku(kZ:b)(h:aK b->a:=by intro kZ;refine sX ?_;refine gI ?_;refine aL ?_;exact kZ.out):a:=h ⟨kZ⟩
theorem JO(kZ:b)(h:aK b->a:=by intro kZ;refine jl ?_;refine gI ?_;refine aL ?_;exact kZ.out):a:=h ⟨kZ⟩
theorem WS(kZ:b)(h:aK b->a:=by intro kZ;refine qX ?_;refine gI ?_;refine aL ?_;exact kZ.out):a:=h ⟨kZ⟩
theorem Qa(kZ:b)(h:aK b->a:=by intro kZ;refine dX ?_;refine gI ?_;refine aL ?_;exact kZ.out):a:=h ⟨kZ⟩
theorem yQ(kZ:b)(h:aK b->a:=by intro kZ;refine gX ?_;refine gI ?_;refine aL ?_;exact kZ.out):a:=h ⟨kZ⟩
theorem y5k(kZ:b)(h:aK b->a:=by intro kZ;refine pu ?_;refine gI ?_;refine aL ?_;exact kZ.out):a:=h ⟨kZ⟩
theorem D5(kZ:b)(h:aK b->a:=by intro kZ;refine Zz ?_;refine gI ?_;refine aL ?_;exact kZ.out):a:=h ⟨kZ⟩
theorem ow(kZ:b)(h:aK b->a:=by intro kZ;refine sX ?_;refine gI ?_;exact kZ.out):a:=h ⟨kZ⟩
theorem Tx(kZ:b)(h:aK b->a:=by intro kZ;refine qX ?_;refine gI ?_;exact kZ.out):a:=h ⟨kZ⟩
theorem Ps(kZ:b)(h:aK b->a:=by intro kZ;refine dX ?_;refine gI ?_;exact kZ.out):a:=h ⟨kZ⟩
theorem zx0(kZ:b)(h:aK b->a:=by intro kZ;refine gX ?_;refine gI ?_;exact kZ.out):a:=h ⟨kZ⟩
theorem zrk(kZ:b)(h:aK b->a:=by intro kZ;refine Zz ?_;refine gI ?_;exact kZ.out):a:=h ⟨kZ⟩
theorem y5l(kZ:b)(h:aK b->a:=by intro kZ;refine gXT ?_;refine gI ?_;exact kZ.out):a:=h ⟨kZ⟩
end
open Go.Aut
theorem Zl {f:Nat->Nat} (hf:∀ b,b< 256->∀ k,k< f b->∃ x,x< b/\f x=k):∀ b,b<=256->∃ m,aY (qL f f) (List.range b)=(List.range m).map (fun k=>(k,k))/\∀ k,k< m↔∃ x,x< b/\f x=k
  |0,_=>⟨0,rfl,fun k=>⟨fun h=>absurd h (Nat.not_lt_zero _),fun⟨x,h,_⟩=>absurd h (Nat.not_lt_zero _)⟩⟩
  | b + 1,hb=>by
    obtain⟨m,h1,h2⟩:=Zl hf b (by omega)
    have hmem:qL f f b∈(List.range m).map (fun k=>(k,k))↔f b< m:=by
      rw[List.mem_map]
      constructor
      · rintro ⟨k,hk,e⟩
        have:k=f b:=congrArg Prod.fst e
        rw[<-this];exact List.mem_range.1 hk
      · exact fun h=>⟨f b,List.mem_range.2 h,rfl⟩
    rw[List.range_succ,z41,h1,fZ]
    by_cases e:f b< m
    · rw[if_pos (hmem.2 e)]
      refine⟨m,rfl,fun k=>⟨fun h=>?_,fun⟨x,hx,hk⟩=>?_⟩⟩
      · obtain⟨x,hx,hk⟩:=(h2 k).1 h
        exact⟨x,by omega,hk⟩
      · rcases Nat.lt_succ_iff_lt_or_eq.1 hx with h3|h3
        · exact(h2 k).2 ⟨x,h3,hk⟩
        · subst h3;rw[<-hk];exact e
    · have em:f b=m:=by
        rcases Nat.lt_or_ge m (f b)with h3|h3
        · obtain⟨x,hx,hk⟩:=hf b (by omega) m h3
          exact absurd ((h2 m).2 ⟨x,hx,hk⟩) (Nat.lt_irrefl m)
        · omega
      rw[if_neg (fun h=>e (hmem.1 h))];refine⟨m+1,?_,fun k=>⟨fun h=>?_,fun⟨x,hx,hk⟩=>?_⟩⟩
      · rw[List.range_succ,List.map_append]
        show _++[(f b,f b)]=_++[(m,m)]
        rw[em]
      · rcases Nat.lt_succ_iff_lt_or_eq.1 h with h3|h3
        · obtain⟨x,hx,hk⟩:=(h2 k).1 h3
          exact⟨x,by omega,hk⟩
        · exact⟨b,by omega,by rw[em,h3]⟩
      · rcases Nat.lt_succ_iff_lt_or_eq.1 hx with h3|h3
        · exact Nat.lt_succ_of_lt ((h2 k).2 ⟨x,h3,hk⟩)
        · subst h3;omega
theorem y5m(m:Nat):((List.range m).map fun k=>(k,k)).Nodup:=by
  rw[List.nodup_iff_pairwise_ne,List.pairwise_map];exact List.Pairwise.imp (fun h e=>h (congrArg Prod.fst e)) (List.nodup_iff_pairwise_ne.1 List.nodup_range)
theorem Ff{f:Nat->Nat}(hf:∀ b,b< 256->∀ k,k< f b->∃ x,x< b/\f x=k){b:Nat}(hb:b< 256):iR f f b=f b:=by
  obtain⟨m,h1,h2⟩:=Zl hf 256 (Nat.le_refl _)
  have hm:f b< m:=(h2 _).2 ⟨b,hb,rfl⟩
  show jq (aY (qL f f) (List.range 256)) (qL f f b)=f b
  rw[h1];exact y00 (y5m m) (by rw[List.getElem?_map,List.getElem?_range hm];rfl)
theorem Ku{f:Nat->Nat}(hf:∀ b,b< 256->∀ k,k< f b->∃ x,x< b/\f x=k){k:Nat}(hk:k< (aA f f).length):f ((aA f f).getD k 0)=k:=by
  obtain⟨m,h1,_⟩:=Zl hf 256 (Nat.le_refl _)
  have h3:(aA f f).map (qL f f)=(List.range m).map fun k=>(k,k):=(Lb _).trans h1
  have h4:=congrArg (fun l=>l[k]?) h3
  simp only[List.getElem?_map,List.getElem?_eq_getElem hk,Option.map_some]at h4
  have hkm:k< m:=by
    have:=congrArg List.length h3
    simp only[List.length_map,List.length_range]at this
    omega
  rw[List.getElem?_range hkm]at h4;rw[qb hk];exact congrArg Prod.fst (Option.some.inj h4)
theorem y5n{d:Dfa}(hd:d.good):∀ b,b< 256->∀ k,k< cN (ag (af (aT d))) b->∃ x,x< b/\cN (ag (af (aT d))) x=k:=fun b hb k hk=>by
  have hc:aj (lV (af (aT d))) (aT d):=(zuz hd.1).2.1
  have hcell:∀ y,y< 256->cN (ag (af (aT d))) y=eO (af (aT d)) y:=fun y hy=>SQ hy
  rw[hcell b hb]at hk;obtain⟨x,hx,e⟩:=hc.cfirst b hb k hk;exact⟨x,hx,by rw[hcell x (by omega)];exact e⟩
theorem DV{x:Tab}(hx:x.ok)(hf:∀ b,b< 256->∀ k,k< cN x b->∃ y,y< b/\cN x y=k):x.cell=jL x x 256:=by
  refine o9 0 (by rw[hx.clen,fI]) fun b hb=>?_
  have hb:b< 256:=by rw[hx.clen]at hb;exact hb
  rw[(av hx hb).2,jL,iy hb,if_pos hb,Ff hf hb];rfl
theorem Fp{cell:List Int}{a b:Cell}(h:cell.length=256):(aB.cells (rt cell a b)).sub (0+0) (256*1)= .cells (cell.map (Cell.int .i64)):=by
  show aB.cells (((rt cell a b).drop 0).take 256)=_
  rw[List.drop_zero,rt,List.take_append_of_le_length (by simp[h]),List.take_of_length_le (by simp[h])]
open Classical in
theorem Oz{d:Dfa}(h:eQ d=true):kI d=(if Big (aC (ae (ag (af (aT d)))) (aA (cN (ag (af (aT d)))) (cN (ag (af (aT d)))))) (aA (cN (ag (af (aT d)))) (cN (ag (af (aT d))))).length (1,0,1) 4096 then(uA,2)else lU (af (iL (aT d)))):=by rw[kI,if_pos h]
theorem zx1{s:ah}(hs:sV s):I5 s:=⟨by have:=hs.1;omega,hs.2⟩
theorem BK(x:Tab)(s:ah)(c:Nat):ae x s c=(0,0,(ae x s c).2.2):=rfl
theorem LU{x:Tab}{s:ah}{c:Nat}(h:iV x (iO x s.2.2 c)=true):(ae x s c).2.2=iO x s.2.2 c ||| UInt64.ofNat (Int.toNat 1):=(if_pos h:(ae x s c).2.2=iO x s.2.2 c ||| 1)
theorem LQ{x:Tab}{s:ah}{c:Nat}(h:iV x (iO x s.2.2 c)=false):(ae x s c).2.2=iO x s.2.2 c:=if_neg (by rw[h];decide)
attribute [local irreducible] eG z12 zl rt dz au gz cr af jL aA iR dL bP dZ ae fG
noncomputable def VH:Ctx:={ P:=Tryd.prog,ty:=ty,glob:=gl,fs:=[(42,.flat NK),(43,.data um),(44,.data Pg),(45,.data Tn),(47,.flat YA),(49,.flat WO),(48,.flat Zj),(50,.data Tu)] }
theorem mP:VH.OK:=⟨dS,⟨⟨bX Tryd.func42 aN rfl,PZ⟩,⟨bX Tryd.func43 aN rfl,Q6⟩,⟨bX Tryd.func44 aN rfl,Rp⟩,⟨bX Tryd.func45 aN rfl,YB⟩,⟨bX Tryd.func47 aN rfl,zkg⟩,⟨bX Tryd.func49 aN rfl,zwo⟩,⟨bX Tryd.func48 aN rfl,zrh⟩,⟨bX Tryd.func50 aN rfl,YD⟩,trivial⟩,mixed⟩
@[simp] theorem VI:VH.ty=ty:=rfl

def y5o:aW:=fun vs K=>∃ d:Dfa,vs=[df d]/\d.wf/\K (lX (kI d))
theorem y5p:jr Tryd.prog gl 17 y5o:=by
 refine kJ (Γ:=VH) (N:=121) Tryd.func17 rfl rfl fun vs K h=>?_;obtain⟨d,rfl,hd,h⟩:=h;refine⟨_,h,ib _,by simp,fun w I=>?_⟩;refine aO mP fun _ K2=>?_
 iterate 3 refine ku ?_
 refine aJ K2 (aH fun _ K3=>fQ [0] (fun _=>1) [(1,.c (.dp (eB d) 0)),(2,.c (.ptr 0 0))] [(0,.own 30 (.cells [.nils,.nils,.nils]) 3)] 1 [1] j5 j5 j5 j5 (aO mP fun _ K5=>ku ?_));refine ow ?_;refine⟨d,rfl,hd,gI ?_⟩
 first|refine aL ?_|(intro cap1 hcap1;refine aL ?_)
 refine ku ?_;refine aJ K5 (bC (b:=_) rfl (fun h_t16=>?_) (fun h_t16=>?_))
 ·try simp only[dQ,reduceIte]at h_t16
  refine aO mP fun _ K7=>ku ?_;refine JO ?_;refine ku ?_;refine aJ K7 ?_;rw[kI,if_neg (by rw[<-qI hd];simpa using h_t16)];refine bQ (gT mP (fun _ _ h=>h) (ib _) [] [.cell 2 30,.tmp 3] rfl ?_)
  repeat' (first|exact pT|exact trivial|refine aI ?_ ?_|exact iM|refine low_cons' ?_ ?_|exact iN|fail)
  all_goals first|omega|exact lw _|exact ib _|(simp;done)|(show(0:Nat)< (au _ _ _ _).length;rw[dJ hcl];decide)|(simp[-List.reduceReplicate];done)|(simp[-List.reduceReplicate]<;>omega)|skip
 ·try simp only[dQ,reduceIte]at h_t16
  refine bK (K3 _ _ _ ?_)
  have hvd:eQ d=true:=(qI hd).symm.trans (by simpa using h_t16)
  have hgd:=(z22 hd).1 hvd
  have hcd:=(Bn hgd).1
  have hfi:=y5n hgd
  obtain⟨x,hxE⟩:∃ x,ag (af (aT d))=x:=⟨_,rfl⟩
  have hx:x.fit:=hxE▸kS hcd
  have hx64:x.next.length<=64:=by rw[<-hxE];exact hcd.2
  have hcon:=Oz hvd
  rw[hxE]at hcon hfi
  have hxj:=DV hx.1 hfi
  have hjl:(jL x x 256).length=256:=fI x x 256
  have hjm:=(gF x x).max
  have hnp:=IK x x
  have hxc:=hx.1.clen
  have hxa:=hx.1.alen
  refine aO mP fun _ K9=>ku ?_;refine ow ?_;refine⟨d,rfl,hgd.1,gI ?_⟩
  first|refine aL ?_|(intro cap1 hcap1;refine aL ?_)
  refine ow ?_;refine aI (lI (ag d)) (lJ (ag d) ⟨ag d,rfl,kS hgd,?_⟩);rw[vg]
  simp only[q8]
  refine gI ?_
  first|refine aL ?_|(intro cap2 hcap2;refine aL ?_)
  refine ow ?_;refine⟨af (aT d),rfl,hcd.1,?_⟩;rw[hxE];refine gI ?_
  first|refine aL ?_|(intro cap3 hcap3;refine aL ?_)
  refine ku ?_;refine JO ?_;refine aJ K9 (aO mP fun _ K11=>ow ?_);refine aU (jw x) (SV.as_refl _) (ow ?_);refine aU (jw x) (SV.as_refl _) (ow ?_);refine aI (lI x) (lJ x (aI (lI x) (lJ x ⟨x,x,rfl,⟨hx,hx⟩,?_⟩)));rw[Q4]
  simp only[q8]
  refine gI ?_
  first|refine aL ?_|(intro cap2 hcap2;refine aL ?_)
  iterate 4 refine ku ?_
  refine JO ?_;refine ku ?_;refine aJ K11 (aO mP fun _ K13=>ku ?_);refine ow ?_;refine aU (.agg (.cells (x.cell.map (Cell.int .i64)))) (bq (congrArg SV.agg (Fp hxc))) (ow ?_);refine aI (And.intro (by show(List.map _ _).length=256;rw[List.length_map];exact hxc) trivial) (gI ?_);refine aU (.agg (.cells (rt (jL x x 256) .nils .nils))) (bq (congrArg (fun l=>SV.agg (aB.cells l)) ((XZ hxc).trans (by rw[hxj])))) (ku ?_);refine JO ?_;refine aJ K13 (fQ [1,2] (fun i=>if i=0 then 0 else 3) [(2,.c (.ptr 0 0)),(4,.c (.dp (eT x) 0)),(6,.c (.ds (aA (cN x) (cN x)).length (.ints .i64 (aG (aA (cN x) (cN x)))))),(7,.c (.ptr 1 0))] [(0,.own 30 (.cells [.nils,.nils,.nils]) 3),(1,.own 74 (.cells (rt (jL x x 256) .nils .nils)) 258)] 2 [0,3] bS bS bS bS (aO mP fun _ K15=>ow ?_));refine aU (uq ((1,0,1):ah)) (SV.as_refl _) ?_
  iterate 2 refine ku ?_
  refine aJ K15 (aH fun _ K16=>aO mP fun _ K18=>ku ?_);refine aJ K18 (bO (z30 1 256 44 (.cells []) rfl (Q9 hjl) rfl low_nil' ?_));rw[Ca hjl rfl];refine z30 1 257 4 (.bools []) rfl (UT hjl) rfl trivial ?_;rw[Gv hjl rfl];refine fM (α:=Nat×Nat×Nat×Nat) (fun s=>[(2,.c (.ptr 0 0)),(4,.c (.dp (eT x) 0)),(6,.c (.ds (aA (cN x) (cN x)).length (.ints .i64 (aG (aA (cN x) (cN x)))))),(7,.c (.ptr 1 0)),(8,.c (.slice 2 0 (aR (aC (ae x) (aA (cN x) (cN x))) (aA (cN x) (cN x)).length ((1,0,1):ah) (s.1*(aA (cN x) (cN x)).length)).length s.2.1)),(9,.c (.int .i64 (s.1:Nat)))]) (fun s=>[(0,.own 30 (.cells [.nils,.nils,.nils]) 3),(1,.own 74 (.cells (rt (jL x x 256) (.slice 3 0 s.1 s.2.2.1) (.slice 4 0 s.1 s.2.2.2))) 258),(2,.own 80 (.cells (iA fE (aR (aC (ae x) (aA (cN x) (cN x))) (aA (cN x) (cN x)).length ((1,0,1):ah) (s.1*(aA (cN x) (cN x)).length)))) (s.2.1*2)),(3,.own 44 (.cells (aS (bP (aC (ae x) (aA (cN x) (cN x))) (aA (cN x) (cN x)).length ((1,0,1):ah) s.1))) s.2.2.1),(4,.own 4 (.bools (dZ (aC (ae x) (aA (cN x) (cN x))) (aA (cN x) (cN x)).length ((1,0,1):ah) (fG x) s.1)) s.2.2.2)]) 5 (fun s=>s.1<=4096/\(∀ j,j< s.1->j< (aR (aC (ae x) (aA (cN x) (cN x))) (aA (cN x) (cN x)).length ((1,0,1):ah) (j*(aA (cN x) (cN x)).length)).length)/\s.1<=(aR (aC (ae x) (aA (cN x) (cN x))) (aA (cN x) (cN x)).length ((1,0,1):ah) (s.1*(aA (cN x) (cN x)).length)).length/\(aR (aC (ae x) (aA (cN x) (cN x))) (aA (cN x) (cN x)).length ((1,0,1):ah) (s.1*(aA (cN x) (cN x)).length)).length<=s.2.1/\(aR (aC (ae x) (aA (cN x) (cN x))) (aA (cN x) (cN x)).length ((1,0,1):ah) (s.1*(aA (cN x) (cN x)).length)).length<=4096/\s.1<=s.2.2.1/\s.1<=s.2.2.2) (fun s=>4096 - s.1) ?_ ?_
  ·have hz:(aR (aC (ae x) (aA (cN x) (cN x))) (aA (cN x) (cN x)).length ((1,0,1):ah) (0*(aA (cN x) (cN x)).length))=[((1,0,1):ah)]:=by rw[Nat.zero_mul];rfl
   have hL0:1=(aR (aC (ae x) (aA (cN x) (cN x))) (aA (cN x) (cN x)).length ((1,0,1):ah) (0*(aA (cN x) (cN x)).length)).length:=by rw[hz];rfl
   have hX3:([]:List Bool)=(dZ (aC (ae x) (aA (cN x) (cN x))) (aA (cN x) (cN x)).length ((1,0,1):ah) (fG x) 0):=by unfold dZ;rfl
   have hXR:aS (bP (aC (ae x) (aA (cN x) (cN x))) (aA (cN x) (cN x)).length ((1,0,1):ah) 0)=[]:=by unfold bP;rfl
   have hXS:[]++fE ((1,0,1):ah)=iA fE (aR (aC (ae x) (aA (cN x) (cN x))) (aA (cN x) (cN x)).length ((1,0,1):ah) (0*(aA (cN x) (cN x)).length)):=by rw[hz];rfl
   refine ai [] id (0,1,0,0) ⟨Nat.zero_le _,fun j hj=>absurd hj (Nat.not_lt_zero j),Nat.zero_le _,by rw[hz];exact Nat.le_refl _,by rw[hz];show 1<=4096;decide,Nat.le_refl _,Nat.le_refl _⟩ [0,1,2,3,4] ?_ ?_ ?_ ?_
   ·exact bS
   ·exact bS
   ·exact bS
   ·exact bS
  ·intro s hs
   obtain⟨hs1,ha,hs3,hs4,hs5,hs6,hs7⟩:=hs;refine aH fun _ K19=>aO mP fun _ K21=>?_
   iterate 4 refine ku ?_
   refine aJ K21 (bC (b:=_) rfl (fun h_t36=>?_) (fun h_t36=>?_))
   ·try simp only[dQ,reduceIte]at h_t36
    refine bK (K19 _ _ _ (aH fun _ K22=>bO ?_))
    have hi:s.1< (aR (aC (ae x) (aA (cN x) (cN x))) (aA (cN x) (cN x)).length ((1,0,1):ah) (s.1*(aA (cN x) (cN x)).length)).length:=by omega
    have hge9:=uY (f:=(aC (ae x) (aA (cN x) (cN x)))) (b0:=((1,0,1):ah)) (p:=s.1*(aA (cN x) (cN x)).length) hi (Nat.le_refl _)
    have ha2:∀ j,j<=s.1->j< (aR (aC (ae x) (aA (cN x) (cN x))) (aA (cN x) (cN x)).length ((1,0,1):ah) (j*(aA (cN x) (cN x)).length)).length:=fun j hj=>by
     rcases Nat.lt_or_ge j s.1 with h1|h1
     ·exact ha j h1
     ·obtain rfl:j=s.1:=by omega
      exact hi
    have hII:∀ k,k<=(aA (cN x) (cN x)).length->∀ a∈(aR (aC (ae x) (aA (cN x) (cN x))) (aA (cN x) (cN x)).length ((1,0,1):ah) (s.1*(aA (cN x) (cN x)).length+k)),sV a:=fun k hk=>QD ⟨Nat.le_refl _,rfl⟩ (fun s b hs hb=>WG _ _ _) (fun b hb=>(gF x x).byte b hb) hnp (UH hnp ha2 hk)
    refine aO mP fun _ K24=>?_
    iterate 4 refine ku ?_
    refine aJ K24 (aH fun _ K25=>aO mP fun _ K27=>ku ?_);refine aJ K27 (bO (fM (α:=Nat×Nat) (fun k=>[(2,.c (.ptr 0 0)),(4,.c (.dp (eT x) 0)),(6,.c (.ds (aA (cN x) (cN x)).length (.ints .i64 (aG (aA (cN x) (cN x)))))),(7,.c (.ptr 1 0)),(8,.c (.slice 2 0 (aR (aC (ae x) (aA (cN x) (cN x))) (aA (cN x) (cN x)).length ((1,0,1):ah) (s.1*(aA (cN x) (cN x)).length+k.1)).length k.2)),(9,.c (.int .i64 (s.1:Nat))),(10,.c (.slice 5 0 (aA (cN x) (cN x)).length (aA (cN x) (cN x)).length)),(11,.c (.int .i64 (k.1:Nat)))]) (fun k=>[(0,.own 30 (.cells [.nils,.nils,.nils]) 3),(1,.own 74 (.cells (rt (jL x x 256) (.slice 3 0 s.1 s.2.2.1) (.slice 4 0 s.1 s.2.2.2))) 258),(2,.own 80 (.cells (iA fE (aR (aC (ae x) (aA (cN x) (cN x))) (aA (cN x) (cN x)).length ((1,0,1):ah) (s.1*(aA (cN x) (cN x)).length+k.1)))) (k.2*2)),(3,.own 44 (.cells (aS (bP (aC (ae x) (aA (cN x) (cN x))) (aA (cN x) (cN x)).length ((1,0,1):ah) s.1))) s.2.2.1),(4,.own 4 (.bools (dZ (aC (ae x) (aA (cN x) (cN x))) (aA (cN x) (cN x)).length ((1,0,1):ah) (fG x) s.1)) s.2.2.2),(5,.own 3 (.ints .i64 (dL (aC (ae x) (aA (cN x) (cN x))) (aA (cN x) (cN x)).length ((1,0,1):ah) s.1 k.1)) (aA (cN x) (cN x)).length)]) 6 (fun k=>k.1<=(aA (cN x) (cN x)).length/\(aR (aC (ae x) (aA (cN x) (cN x))) (aA (cN x) (cN x)).length ((1,0,1):ah) (s.1*(aA (cN x) (cN x)).length+k.1)).length<=k.2) (fun k=>(aA (cN x) (cN x)).length - k.1) ?_ ?_))
    ·have hX1:List.replicate (aA (cN x) (cN x)).length (0:Int)=(dL (aC (ae x) (aA (cN x) (cN x))) (aA (cN x) (cN x)).length ((1,0,1):ah) s.1 0):=(zq9 _).symm
     refine ai [] id (0,s.2.1) ⟨Nat.zero_le _,hs4⟩ [0,1,2,3,4,5] bS bS bS bS
    ·intro k hk0
     obtain⟨hk1,hk2⟩:=hk0
     have hol:(aR (aC (ae x) (aA (cN x) (cN x))) (aA (cN x) (cN x)).length ((1,0,1):ah) (s.1*(aA (cN x) (cN x)).length+k.1)).length<=4096+(aA (cN x) (cN x)).length:=by
      have:=Wd (f:=(aC (ae x) (aA (cN x) (cN x)))) (nc:=(aA (cN x) (cN x)).length) (b0:=((1,0,1):ah)) (p:=s.1*(aA (cN x) (cN x)).length) (q:=k.1)
      omega
     refine aH fun _ K28=>aO mP fun _ K30=>?_
     iterate 4 refine ku ?_
     refine aJ K30 (bC (b:=_) rfl (fun h_t45=>?_) (fun h_t45=>?_))
     ·try simp only[dQ,reduceIte]at h_t45
      refine bK (K28 _ _ _ (aH fun _ K31=>bO ?_))
      have hkl:k.1< (aA (cN x) (cN x)).length:=by omega
      have hil:s.1< (aR (aC (ae x) (aA (cN x) (cN x))) (aA (cN x) (cN x)).length ((1,0,1):ah) (s.1*(aA (cN x) (cN x)).length+k.1)).length:=Nat.lt_of_lt_of_le hi (pR (Nat.le_add_right _ _))
      have hgk:=uY (f:=(aC (ae x) (aA (cN x) (cN x)))) (b0:=((1,0,1):ah)) (p:=s.1*(aA (cN x) (cN x)).length+k.1) hi (Nat.le_add_right _ _)
      have hbk:((aA (cN x) (cN x)).getD k.1 0)< 256:=(gF x x).byte _ (getD_mem' hkl)
      have hoy:I5 ((aC (ae x) (aA (cN x) (cN x))) (dn (aC (ae x) (aA (cN x) (cN x))) (aA (cN x) (cN x)).length ((1,0,1):ah) s.1) k.1):=zx1 (WG _ _ _)
      have hrk:cN x ((aA (cN x) (cN x)).getD k.1 0)=k.1:=Ku hfi hkl
      refine qB mP aN fun _ K33=>Tx ?_;refine aU (jw x) (SV.as_refl _) ?_
      iterate 4 refine WS ?_
      refine Tx ?_;refine aU (.c (.u64 (dn (aC (ae x) (aA (cN x) (cN x))) (aA (cN x) (cN x)).length ((1,0,1):ah) s.1).2.2)) (NB jh (fun _ _=>trivial) (j:=1) (by omega) (by decide) hgk rfl) ?_
      iterate 3 refine WS ?_
      refine Tx ?_;refine aU (.c (.int .i64 (((((aA (cN x) (cN x)).getD k.1 0):Nat):Int)))) (az ((congrArg (fun i=>(aG (aA (cN x) (cN x))).getD i 0) (by omega)).trans jd)) (Tx ?_);refine aI (lI x) (lJ x ⟨x,(dn (aC (ae x) (aA (cN x) (cN x))) (aA (cN x) (cN x)).length ((1,0,1):ah) s.1).2.2,((aA (cN x) (cN x)).getD k.1 0),rfl,⟨hx.1,hx64,hbk⟩,gI ?_⟩)
      first|refine aL ?_|(intro cap10 hcap10;refine aL ?_)
      refine WS ?_;refine nG K33 (qf (α:=Unit) (fun u=>[(2,.c (.ptr 0 0)),(4,.c (.dp (eT x) 0)),(6,.c (.ds (aA (cN x) (cN x)).length (.ints .i64 (aG (aA (cN x) (cN x)))))),(7,.c (.ptr 1 0)),(8,.c (.slice 2 0 (aR (aC (ae x) (aA (cN x) (cN x))) (aA (cN x) (cN x)).length ((1,0,1):ah) (s.1*(aA (cN x) (cN x)).length+k.1)).length k.2)),(9,.c (.int .i64 (s.1:Nat))),(10,.c (.slice 5 0 (aA (cN x) (cN x)).length (aA (cN x) (cN x)).length)),(11,.c (.int .i64 (k.1:Nat))),(12,.c (.u64 ((aC (ae x) (aA (cN x) (cN x))) (dn (aC (ae x) (aA (cN x) (cN x))) (aA (cN x) (cN x)).length ((1,0,1):ah) s.1) k.1).2.2))]) (fun u=>[(0,.own 30 (.cells [.nils,.nils,.nils]) 3),(1,.own 74 (.cells (rt (jL x x 256) (.slice 3 0 s.1 s.2.2.1) (.slice 4 0 s.1 s.2.2.2))) 258),(2,.own 80 (.cells (iA fE (aR (aC (ae x) (aA (cN x) (cN x))) (aA (cN x) (cN x)).length ((1,0,1):ah) (s.1*(aA (cN x) (cN x)).length+k.1)))) (k.2*2)),(3,.own 44 (.cells (aS (bP (aC (ae x) (aA (cN x) (cN x))) (aA (cN x) (cN x)).length ((1,0,1):ah) s.1))) s.2.2.1),(4,.own 4 (.bools (dZ (aC (ae x) (aA (cN x) (cN x))) (aA (cN x) (cN x)).length ((1,0,1):ah) (fG x) s.1)) s.2.2.2),(5,.own 3 (.ints .i64 (dL (aC (ae x) (aA (cN x) (cN x))) (aA (cN x) (cN x)).length ((1,0,1):ah) s.1 k.1)) (aA (cN x) (cN x)).length)]) 6 (fun u=>True) ?_ ?_)
      ·refine aO mP fun _ K35=>ow ?_;refine aU (jw x) (SV.as_refl _) (ku ?_);refine ow ?_;refine aI (lI x) (lJ x ⟨x,iO x (dn (aC (ae x) (aA (cN x) (cN x))) (aA (cN x) (cN x)).length ((1,0,1):ah) s.1).2.2 ((aA (cN x) (cN x)).getD k.1 0),rfl,⟨hx.1,hx64⟩,gI ?_⟩)
       first|refine aL ?_|(intro cap2 hcap2;refine aL ?_)
       refine aJ K35 (bC (b:=_) rfl (fun h_t61=>?_) (fun h_t61=>?_))
       ·try simp only[dQ,reduceIte]at h_t61
        refine bB mP fun _ K36=>?_
        iterate 3 refine ku ?_
        refine aJ K36 ?_
        have hsx:((aC (ae x) (aA (cN x) (cN x))) (dn (aC (ae x) (aA (cN x) (cN x))) (aA (cN x) (cN x)).length ((1,0,1):ah) s.1) k.1).2.2=_:=LU h_t61
        rw[<-hsx];refine ai [] id () trivial [0,1,2,3,4,5] bS bS bS bS
       ·try simp only[dQ,reduceIte]at h_t61
        refine bK ?_
        have hsx:((aC (ae x) (aA (cN x) (cN x))) (dn (aC (ae x) (aA (cN x) (cN x))) (aA (cN x) (cN x)).length ((1,0,1):ah) s.1) k.1).2.2=_:=LQ h_t61
        rw[<-hsx];refine ai [] id () trivial [0,1,2,3,4,5] bS bS bS bS
      ·intro u hu
       clear hu;refine aO mP fun _ K38=>?_
       iterate 2 refine ku ?_
       refine ow ?_;refine aU (uq ((aC (ae x) (aA (cN x) (cN x))) (dn (aC (ae x) (aA (cN x) (cN x))) (aA (cN x) (cN x)).length ((1,0,1):ah) s.1) k.1)) (bq (congrArg uq (BK x (dn (aC (ae x) (aA (cN x) (cN x))) (aA (cN x) (cN x)).length ((1,0,1):ah) s.1) ((aA (cN x) (cN x)).getD k.1 0)).symm)) (ow ?_);refine zlb (jh.dat _) ⟨(aR (aC (ae x) (aA (cN x) (cN x))) (aA (cN x) (cN x)).length ((1,0,1):ah) (s.1*(aA (cN x) (cN x)).length+k.1)),((aC (ae x) (aA (cN x) (cN x))) (dn (aC (ae x) (aA (cN x) (cN x))) (aA (cN x) (cN x)).length ((1,0,1):ah) s.1) k.1),rfl,⟨by omega,fun z hz=>zx1 (hII k.1 (by omega) z hz),hoy⟩,gI ?_⟩
       first|refine aL ?_|(intro cap3 hcap3;refine aL ?_)
       refine ku ?_;refine aJ K38 (qf (α:=Nat) (fun z=>[(2,.c (.ptr 0 0)),(4,.c (.dp (eT x) 0)),(6,.c (.ds (aA (cN x) (cN x)).length (.ints .i64 (aG (aA (cN x) (cN x)))))),(7,.c (.ptr 1 0)),(8,.c (.slice 2 0 (aR (aC (ae x) (aA (cN x) (cN x))) (aA (cN x) (cN x)).length ((1,0,1):ah) (s.1*(aA (cN x) (cN x)).length+(k.1+1))).length z)),(9,.c (.int .i64 (s.1:Nat))),(10,.c (.slice 5 0 (aA (cN x) (cN x)).length (aA (cN x) (cN x)).length)),(11,.c (.int .i64 (k.1:Nat))),(13,.c (.int .i64 ((kN (aC (ae x) (aA (cN x) (cN x))) (aA (cN x) (cN x)).length ((1,0,1):ah) s.1 k.1):Nat)))]) (fun z=>[(0,.own 30 (.cells [.nils,.nils,.nils]) 3),(1,.own 74 (.cells (rt (jL x x 256) (.slice 3 0 s.1 s.2.2.1) (.slice 4 0 s.1 s.2.2.2))) 258),(2,.own 80 (.cells (iA fE (aR (aC (ae x) (aA (cN x) (cN x))) (aA (cN x) (cN x)).length ((1,0,1):ah) (s.1*(aA (cN x) (cN x)).length+(k.1+1))))) (z*2)),(3,.own 44 (.cells (aS (bP (aC (ae x) (aA (cN x) (cN x))) (aA (cN x) (cN x)).length ((1,0,1):ah) s.1))) s.2.2.1),(4,.own 4 (.bools (dZ (aC (ae x) (aA (cN x) (cN x))) (aA (cN x) (cN x)).length ((1,0,1):ah) (fG x) s.1)) s.2.2.2),(5,.own 3 (.ints .i64 (dL (aC (ae x) (aA (cN x) (cN x))) (aA (cN x) (cN x)).length ((1,0,1):ah) s.1 k.1)) (aA (cN x) (cN x)).length)]) 6 (fun z=>(aR (aC (ae x) (aA (cN x) (cN x))) (aA (cN x) (cN x)).length ((1,0,1):ah) (s.1*(aA (cN x) (cN x)).length+(k.1+1))).length<=z) ?_ ?_)
       ·refine aO mP fun _ K40=>?_
        iterate 4 refine ku ?_
        refine aJ K40 (bC (b:=_) rfl (fun h_t71=>?_) (fun h_t71=>?_))
        ·try simp only[dQ,reduceIte]at h_t71
         refine bB mP fun _ K41=>?_
         iterate 2 refine ku ?_
         refine ow ?_;refine aU (uq ((aC (ae x) (aA (cN x) (cN x))) (dn (aC (ae x) (aA (cN x) (cN x))) (aA (cN x) (cN x)).length ((1,0,1):ah) s.1) k.1)) (bq (congrArg uq (BK x (dn (aC (ae x) (aA (cN x) (cN x))) (aA (cN x) (cN x)).length ((1,0,1):ah) s.1) ((aA (cN x) (cN x)).getD k.1 0)).symm)) (ku ?_);refine ow ?_;intro cap4 hcap4;refine aL (ku ?_);refine aJ K41 ?_
         have hnin:¬ ((aC (ae x) (aA (cN x) (cN x))) (dn (aC (ae x) (aA (cN x) (cN x))) (aA (cN x) (cN x)).length ((1,0,1):ah) s.1) k.1)∈(aR (aC (ae x) (aA (cN x) (cN x))) (aA (cN x) (cN x)).length ((1,0,1):ah) (s.1*(aA (cN x) (cN x)).length+k.1)):=fun hm=>by have:=Pz hm;omega
         obtain⟨hst,hnq⟩:=TA hi hkl hnin
         have hst:(aR (aC (ae x) (aA (cN x) (cN x))) (aA (cN x) (cN x)).length ((1,0,1):ah) (s.1*(aA (cN x) (cN x)).length+(k.1+1)))=(aR (aC (ae x) (aA (cN x) (cN x))) (aA (cN x) (cN x)).length ((1,0,1):ah) (s.1*(aA (cN x) (cN x)).length+k.1))++[((aC (ae x) (aA (cN x) (cN x))) (dn (aC (ae x) (aA (cN x) (cN x))) (aA (cN x) (cN x)).length ((1,0,1):ah) s.1) k.1)]:=hst
         have hL0:(aR (aC (ae x) (aA (cN x) (cN x))) (aA (cN x) (cN x)).length ((1,0,1):ah) (s.1*(aA (cN x) (cN x)).length+k.1)).length+1=(aR (aC (ae x) (aA (cN x) (cN x))) (aA (cN x) (cN x)).length ((1,0,1):ah) (s.1*(aA (cN x) (cN x)).length+(k.1+1))).length:=by rw[hst,List.length_append];rfl
         have hnq2:jq (aR (aC (ae x) (aA (cN x) (cN x))) (aA (cN x) (cN x)).length ((1,0,1):ah) (s.1*(aA (cN x) (cN x)).length+k.1)) ((aC (ae x) (aA (cN x) (cN x))) (dn (aC (ae x) (aA (cN x) (cN x))) (aA (cN x) (cN x)).length ((1,0,1):ah) s.1) k.1)=(kN (aC (ae x) (aA (cN x) (cN x))) (aA (cN x) (cN x)).length ((1,0,1):ah) s.1 k.1):=by rw[hnq];omega
         rw[hnq2]
         have hXS:iA fE (aR (aC (ae x) (aA (cN x) (cN x))) (aA (cN x) (cN x)).length ((1,0,1):ah) (s.1*(aA (cN x) (cN x)).length+k.1))++fE ((aC (ae x) (aA (cN x) (cN x))) (dn (aC (ae x) (aA (cN x) (cN x))) (aA (cN x) (cN x)).length ((1,0,1):ah) s.1) k.1)=iA fE (aR (aC (ae x) (aA (cN x) (cN x))) (aA (cN x) (cN x)).length ((1,0,1):ah) (s.1*(aA (cN x) (cN x)).length+(k.1+1))):=by rw[hst,X9]
         refine ai [] (fun i=>if i=2 then 7 else i) cap4 (by omega) [0,1,7,3,4,5] bS bS bS bS
        ·try simp only[dQ,reduceIte]at h_t71
         refine bK ?_
         have hin1:((aC (ae x) (aA (cN x) (cN x))) (dn (aC (ae x) (aA (cN x) (cN x))) (aA (cN x) (cN x)).length ((1,0,1):ah) s.1) k.1)∈(aR (aC (ae x) (aA (cN x) (cN x))) (aA (cN x) (cN x)).length ((1,0,1):ah) (s.1*(aA (cN x) (cN x)).length+k.1)):=by
          rcases Decidable.em (((aC (ae x) (aA (cN x) (cN x))) (dn (aC (ae x) (aA (cN x) (cN x))) (aA (cN x) (cN x)).length ((1,0,1):ah) s.1) k.1)∈(aR (aC (ae x) (aA (cN x) (cN x))) (aA (cN x) (cN x)).length ((1,0,1):ah) (s.1*(aA (cN x) (cN x)).length+k.1)))with hm|hm
          ·exact hm
          ·exact absurd (Yq hm) (by omega)
         obtain⟨hst,hnq⟩:=ZC hi hkl hin1;rw[<-hnq]
         have hst:(aR (aC (ae x) (aA (cN x) (cN x))) (aA (cN x) (cN x)).length ((1,0,1):ah) (s.1*(aA (cN x) (cN x)).length+(k.1+1)))=(aR (aC (ae x) (aA (cN x) (cN x))) (aA (cN x) (cN x)).length ((1,0,1):ah) (s.1*(aA (cN x) (cN x)).length+k.1)):=hst
         rw[<-hst];refine ai [] id k.2 (by rw[hst];exact hk2) [0,1,2,3,4,5] ?_ ?_ ?_ ?_
         ·exact bS
         ·exact bS
         ·exact bS
         ·exact bS
       ·intro z hz1;refine bB mP fun _ K42=>?_
        iterate 4 refine ku ?_
        refine ow ?_;refine aU (.c (.int .i64 (((((aA (cN x) (cN x)).getD k.1 0):Nat):Int)))) (az ((congrArg (fun i=>(aG (aA (cN x) (cN x))).getD i 0) (by omega)).trans jd)) ?_
        iterate 2 refine ku ?_
        refine ow ?_;refine aU (.c (.int .i64 ((k.1:Nat):Int))) (ak (((z52 hx.1.clen (by first|omega|(simp;done)) hbk).trans (congrArg (Cell.int IntKind.i64) (av hx.1 hbk).2)).trans (congrArg (fun n:Nat=>Cell.int IntKind.i64 (n:Int)) hrk))) ?_
        iterate 2 refine ku ?_
        refine JO ?_;refine aJ K42 (dD (K31 _ _ _ (bB mP fun _ K43=>?_)))
        iterate 3 refine ku ?_
        refine aJ K43 ?_
        have hX1:(dL (aC (ae x) (aA (cN x) (cN x))) (aA (cN x) (cN x)).length ((1,0,1):ah) s.1 k.1).set (0+((k.1:Nat):Int).toNat*1) (((kN (aC (ae x) (aA (cN x) (cN x))) (aA (cN x) (cN x)).length ((1,0,1):ah) s.1 k.1):Nat):Int)=(dL (aC (ae x) (aA (cN x) (cN x))) (aA (cN x) (cN x)).length ((1,0,1):ah) s.1 (k.1+1)):=by rw[show 0+((k.1:Nat):Int).toNat*1=k.1 by omega];exact Y2 hkl
        refine ai [] id (k.1+1,z) ⟨⟨by show k.1+1<=_;omega,hz1⟩,by show _ - (k.1+1)< _;omega⟩ [0,1,2,3,4,5] ?_ ?_ ?_ ?_
        ·exact bS
        ·exact bS
        ·exact bS
        ·exact bS
     ·try simp only[dQ,reduceIte]at h_t45
      refine eY (bJ (bJ (eX (K25 _ _ _ (aH fun _ K44=>?_)))))
      have hke:k.1=(aA (cN x) (cN x)).length:=by omega
      have hpe:s.1*(aA (cN x) (cN x)).length+k.1=(s.1+1)*(aA (cN x) (cN x)).length:=by rw[hke,Nat.succ_mul]
      rw[hpe];rw[hpe]at hk2;rw[hke];refine fQ [5] id [(2,.c (.ptr 0 0)),(4,.c (.dp (eT x) 0)),(6,.c (.ds (aA (cN x) (cN x)).length (.ints .i64 (aG (aA (cN x) (cN x)))))),(7,.c (.ptr 1 0)),(8,.c (.slice 2 0 (aR (aC (ae x) (aA (cN x) (cN x))) (aA (cN x) (cN x)).length ((1,0,1):ah) ((s.1+1)*(aA (cN x) (cN x)).length)).length k.2)),(9,.c (.int .i64 (s.1:Nat))),(10,.c (.ds (aA (cN x) (cN x)).length (.ints .i64 (dL (aC (ae x) (aA (cN x) (cN x))) (aA (cN x) (cN x)).length ((1,0,1):ah) s.1 (aA (cN x) (cN x)).length))))] [(0,.own 30 (.cells [.nils,.nils,.nils]) 3),(1,.own 74 (.cells (rt (jL x x 256) (.slice 3 0 s.1 s.2.2.1) (.slice 4 0 s.1 s.2.2.2))) 258),(2,.own 80 (.cells (iA fE (aR (aC (ae x) (aA (cN x) (cN x))) (aA (cN x) (cN x)).length ((1,0,1):ah) ((s.1+1)*(aA (cN x) (cN x)).length)))) (k.2*2)),(3,.own 44 (.cells (aS (bP (aC (ae x) (aA (cN x) (cN x))) (aA (cN x) (cN x)).length ((1,0,1):ah) s.1))) s.2.2.1),(4,.own 4 (.bools (dZ (aC (ae x) (aA (cN x) (cN x))) (aA (cN x) (cN x)).length ((1,0,1):ah) (fG x) s.1)) s.2.2.2)] 5 [0,1,2,3,4] bS bS bS bS (aO mP fun _ K46=>?_)
      iterate 3 refine ku ?_
      refine aJ K46 (bC (b:=_) rfl (fun h_t89=>?_) (fun h_t89=>?_))
      ·try simp only[dQ,reduceIte]at h_t89
       refine aO mP fun _ K48=>ku ?_;refine JO ?_;refine ku ?_;refine aJ K48 ?_;rw[hcon,if_pos (xE ha2 (by omega))];refine bQ (gT mP (fun _ _ h=>h) (ib _) [] [.cell 2 30,.tmp 3] rfl ?_)
       repeat first|refine aI (by first|exact trivial|rfl|exact⟨rfl,rfl⟩|decide) ?_|refine bW (by first|rfl|decide) ?_|refine dC (by first|rfl|decide) ?_
       all_goals exact bS
      ·try simp only[dQ,reduceIte]at h_t89
       refine bK (K44 _ _ _ (aO mP fun _ K50=>ku ?_));refine ow ?_;refine aU (.c (.slice 3 0 s.1 s.2.2.1)) (ak (AX hjl)) ?_
       iterate 2 refine ku ?_
       refine ow ?_;intro cap4 hcap4;refine aL (ku ?_);refine JO ?_;refine aJ K50 ?_
       have hXR:aS (bP (aC (ae x) (aA (cN x) (cN x))) (aA (cN x) (cN x)).length ((1,0,1):ah) s.1)++([]++[.ds (aA (cN x) (cN x)).length (.ints .i64 (dL (aC (ae x) (aA (cN x) (cN x))) (aA (cN x) (cN x)).length ((1,0,1):ah) s.1 (aA (cN x) (cN x)).length))])=aS (bP (aC (ae x) (aA (cN x) (cN x))) (aA (cN x) (cN x)).length ((1,0,1):ah) (s.1+1)):=by
        have:=Gg (bP (aC (ae x) (aA (cN x) (cN x))) (aA (cN x) (cN x)).length ((1,0,1):ah) s.1) (dL (aC (ae x) (aA (cN x) (cN x))) (aA (cN x) (cN x)).length ((1,0,1):ah) s.1 (aA (cN x) (cN x)).length)
        rw[Lc,XL]at this;exact this
       refine fQ [] (fun i=>if i=3 then 6 else i) [(2,.c (.ptr 0 0)),(4,.c (.dp (eT x) 0)),(6,.c (.ds (aA (cN x) (cN x)).length (.ints .i64 (aG (aA (cN x) (cN x)))))),(7,.c (.ptr 1 0)),(8,.c (.slice 2 0 (aR (aC (ae x) (aA (cN x) (cN x))) (aA (cN x) (cN x)).length ((1,0,1):ah) ((s.1+1)*(aA (cN x) (cN x)).length)).length k.2)),(9,.c (.int .i64 (s.1:Nat)))] [(0,.own 30 (.cells [.nils,.nils,.nils]) 3),(1,.own 74 (.cells (rt (jL x x 256) (.slice 3 0 (s.1+1) cap4) (.slice 4 0 s.1 s.2.2.2))) 258),(2,.own 80 (.cells (iA fE (aR (aC (ae x) (aA (cN x) (cN x))) (aA (cN x) (cN x)).length ((1,0,1):ah) ((s.1+1)*(aA (cN x) (cN x)).length)))) (k.2*2)),(3,.own 44 (.cells (aS (bP (aC (ae x) (aA (cN x) (cN x))) (aA (cN x) (cN x)).length ((1,0,1):ah) (s.1+1)))) cap4),(4,.own 4 (.bools (dZ (aC (ae x) (aA (cN x) (cN x))) (aA (cN x) (cN x)).length ((1,0,1):ah) (fG x) s.1)) s.2.2.2)] 5 [0,1,2,6,4] bS bS bS bS ?_
       have hge2:=uY (f:=(aC (ae x) (aA (cN x) (cN x)))) (b0:=((1,0,1):ah)) (p:=(s.1+1)*(aA (cN x) (cN x)).length) hi (Nat.mul_le_mul_right _ (Nat.le_succ _))
       have hil2:s.1< (aR (aC (ae x) (aA (cN x) (cN x))) (aA (cN x) (cN x)).length ((1,0,1):ah) ((s.1+1)*(aA (cN x) (cN x)).length)).length:=Nat.lt_of_lt_of_le hi (pR (Nat.mul_le_mul_right _ (Nat.le_succ _)))
       refine ry mP [(0,true),(1,true),(2,true),(3,true),(4,true),(5,true),(6,true),(7,true),(8,true),(9,true),(10,true),(11,true),(12,true),(13,true),(14,true),(15,false),(16,true),(17,false),(18,false),(19,true),(20,false)] rfl aN aN fun _ K51=>Qa ?_;refine Ps ?_;refine aU (.c (.slice 4 0 s.1 s.2.2.2)) (ak (Fq hjl)) ?_
       iterate 4 refine Qa ?_
       refine Ps ?_;refine aU (.c (.int .i64 (((dn (aC (ae x) (aA (cN x) (cN x))) (aA (cN x) (cN x)).length ((1,0,1):ah) s.1).1:Nat):Int))) (NB jh (fun _ _=>trivial) (j:=0) (by omega) (by decide) hge2 rfl) (Qa ?_);refine Ps ?_;refine fO (fun hb8=>?_) (fun hb8=>?_)
       ·try simp only[dQ,reduceIte]at hb8
        iterate 7 refine gN ?_
        refine Ps ?_;refine aU (.c (.bool (fG x (dn (aC (ae x) (aA (cN x) (cN x))) (aA (cN x) (cN x)).length ((1,0,1):ah) s.1)))) (dN (by unfold fG;first|(rw[decide_eq_true (by omega)];rfl)|(rw[decide_eq_false (by omega)];rfl))) (yQ ?_);refine zx0 ?_;intro cap18 hcap18;refine aL (Qa ?_);refine y5k ?_;refine iF K51 (dD (K22 _ _ _ (bB mP fun _ K52=>?_)))
        iterate 3 refine ku ?_
        refine aJ K52 ?_
        have hah:∀ j,j< s.1+1->j< (aR (aC (ae x) (aA (cN x) (cN x))) (aA (cN x) (cN x)).length ((1,0,1):ah) (j*(aA (cN x) (cN x)).length)).length:=fun j hj=>ha2 j (by omega)
        have hX3:(dZ (aC (ae x) (aA (cN x) (cN x))) (aA (cN x) (cN x)).length ((1,0,1):ah) (fG x) s.1)++([]++[fG x (dn (aC (ae x) (aA (cN x) (cN x))) (aA (cN x) (cN x)).length ((1,0,1):ah) s.1)])=(dZ (aC (ae x) (aA (cN x) (cN x))) (aA (cN x) (cN x)).length ((1,0,1):ah) (fG x) (s.1+1)):=S9 (fG x) s.1
        refine ai [] (fun i=>if i=4 then 6 else i) (s.1+1,k.2,cap4,cap18) ⟨⟨by show s.1+1<=_;omega,hah,(by show s.1+1<=(aR (aC (ae x) (aA (cN x) (cN x))) (aA (cN x) (cN x)).length ((1,0,1):ah) ((s.1+1)*(aA (cN x) (cN x)).length)).length;omega),hk2,(by show(aR (aC (ae x) (aA (cN x) (cN x))) (aA (cN x) (cN x)).length ((1,0,1):ah) ((s.1+1)*(aA (cN x) (cN x)).length)).length<=4096;omega),(by show s.1+1<=cap4;omega),(by show s.1+1<=cap18;omega)⟩,by show _ - (s.1+1)< _;omega⟩ [0,1,2,3,6] ?_ ?_ ?_ ?_
        ·exact bS
        ·exact bS
        ·exact bS
        ·exact bS
       ·try simp only[dQ,reduceIte]at hb8
        refine zrk ?_;refine aU (jw x) (SV.as_refl _) ?_
        iterate 4 refine D5 ?_
        refine zrk ?_;refine aU (.c (.u64 (dn (aC (ae x) (aA (cN x) (cN x))) (aA (cN x) (cN x)).length ((1,0,1):ah) s.1).2.2)) (NB jh (fun _ _=>trivial) (j:=1) (by omega) (by decide) hge2 rfl) (y5l ?_);refine aI (lI x) (lJ x ⟨x,(dn (aC (ae x) (aA (cN x) (cN x))) (aA (cN x) (cN x)).length ((1,0,1):ah) s.1).2.2,rfl,⟨hx.1,hx64⟩,gI ?_⟩)
        first|refine aL ?_|(intro cap15 hcap15;refine aL ?_)
        refine Ps ?_;refine aU (.c (.bool (fG x (dn (aC (ae x) (aA (cN x) (cN x))) (aA (cN x) (cN x)).length ((1,0,1):ah) s.1)))) (dN (by unfold fG;first|(rw[decide_eq_true (by omega)];rfl)|(rw[decide_eq_false (by omega)];rfl))) (yQ ?_);refine zx0 ?_;intro cap18 hcap18;refine aL (Qa ?_);refine y5k ?_;refine iF K51 (dD (K22 _ _ _ (bB mP fun _ K53=>?_)))
        iterate 3 refine ku ?_
        refine aJ K53 ?_
        have hah:∀ j,j< s.1+1->j< (aR (aC (ae x) (aA (cN x) (cN x))) (aA (cN x) (cN x)).length ((1,0,1):ah) (j*(aA (cN x) (cN x)).length)).length:=fun j hj=>ha2 j (by omega)
        have hX3:(dZ (aC (ae x) (aA (cN x) (cN x))) (aA (cN x) (cN x)).length ((1,0,1):ah) (fG x) s.1)++([]++[fG x (dn (aC (ae x) (aA (cN x) (cN x))) (aA (cN x) (cN x)).length ((1,0,1):ah) s.1)])=(dZ (aC (ae x) (aA (cN x) (cN x))) (aA (cN x) (cN x)).length ((1,0,1):ah) (fG x) (s.1+1)):=S9 (fG x) s.1
        refine ai [] (fun i=>if i=4 then 6 else i) (s.1+1,k.2,cap4,cap18) ⟨⟨by show s.1+1<=_;omega,hah,(by show s.1+1<=(aR (aC (ae x) (aA (cN x) (cN x))) (aA (cN x) (cN x)).length ((1,0,1):ah) ((s.1+1)*(aA (cN x) (cN x)).length)).length;omega),hk2,(by show(aR (aC (ae x) (aA (cN x) (cN x))) (aA (cN x) (cN x)).length ((1,0,1):ah) ((s.1+1)*(aA (cN x) (cN x)).length)).length<=4096;omega),(by show s.1+1<=cap4;omega),(by show s.1+1<=cap18;omega)⟩,by show _ - (s.1+1)< _;omega⟩ [0,1,2,3,6] ?_ ?_ ?_ ?_
        ·exact bS
        ·exact bS
        ·exact bS
        ·exact bS
   ·try simp only[dQ,reduceIte]at h_t36
    refine eY (bJ (bJ (eX (K16 _ _ _ ?_))))
    have hfu:=TZ (f:=(aC (ae x) (aA (cN x) (cN x)))) (b0:=((1,0,1):ah)) ha (by omega)
    have hnb:=Y3 hfu hs1
    rw[if_neg hnb]at hcon;obtain⟨hf1,_,hf3⟩:=Iz (L:=iL (aT d)) (acc:=fG (ag (af (aT d)))) (m:=4096) (by decide) (fun s x hx9=>Xu s hx9) (fun w hw=>Z0 hgd hw) (by rw[hxE];exact hnb);rw[hxE]at hf1 hf3;rw[jf,if_neg hnb,Nl hfu]at hf1 hf3;refine fQ [3,4] id [(2,.c (.ptr 0 0)),(7,.c (.ptr 1 0))] [(0,.own 30 (.cells [.nils,.nils,.nils]) 3),(1,.own 74 (.cells (rt (jL x x 256) (.ds s.1 (.cells (aS (bP (aC (ae x) (aA (cN x) (cN x))) (aA (cN x) (cN x)).length ((1,0,1):ah) s.1)))) (.ds s.1 (.bools (dZ (aC (ae x) (aA (cN x) (cN x))) (aA (cN x) (cN x)).length ((1,0,1):ah) (fG x) s.1))))) 258)] 2 [0,1] bS bS bS bS (aO mP fun _ K55=>ow ?_);refine aU (jw (iw (aC (ae x) (aA (cN x) (cN x))) (fG x) (jL x x 256) (aA (cN x) (cN x)).length ((1,0,1):ah) s.1)) (bq (Ig _ _ _ _ _ _)) (ow ?_);refine aI (lI (iw (aC (ae x) (aA (cN x) (cN x))) (fG x) (jL x x 256) (aA (cN x) (cN x)).length ((1,0,1):ah) s.1)) (lJ (iw (aC (ae x) (aA (cN x) (cN x))) (fG x) (jL x x 256) (aA (cN x) (cN x)).length ((1,0,1):ah) s.1) ⟨(iw (aC (ae x) (aA (cN x) (cN x))) (fG x) (jL x x 256) (aA (cN x) (cN x)).length ((1,0,1):ah) s.1),rfl,hf1,?_⟩);rw[hf3]
    simp only[q8]
    refine gI ?_
    first|refine aL ?_|(intro cap1 hcap1;refine aL ?_)
    iterate 2 refine ku ?_
    refine JO ?_;refine ku ?_;refine aJ K55 ?_;rw[hcon];refine bQ (gT mP (fun _ _ h=>h) (ib _) [] [.cell 2 30,.tmp 3] rfl ?_)
    repeat first|refine aI (by first|exact trivial|rfl|exact⟨rfl,rfl⟩|decide) ?_|refine bW (by first|rfl|decide) ?_|refine dC (by first|rfl|decide) ?_
    all_goals exact bS


end Go.Proofs.YtpdljmohhpbkpaaDoor
