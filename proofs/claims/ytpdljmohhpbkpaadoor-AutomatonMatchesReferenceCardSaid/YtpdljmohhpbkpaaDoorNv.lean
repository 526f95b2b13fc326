/- Contracts of functions and plain facts, part 22. -/
import Derived.Test.YtpdljmohhpbkpaaDoorNu
import Derived.Test.YtpdljmohhpbkpaaDoorNj
import Derived.Test.YtpdljmohhpbkpaaDoorNl
set_option linter.all false
set_option maxHeartbeats 4000000
set_option maxRecDepth 4000
namespace Go.Proofs.YtpdljmohhpbkpaaDoor
open Go.Ab Go.RowKit

section
variable {a b:Prop}
theorem El(h:a:=by first|exact gG|(simp[-List.reduceReplicate]<;>omega)|exact vU|(simp only[jH];omega)|(simp only[jI,jH];omega)|(rw[jH];omega)|(simp only[z17,vX];omega)|(show _< (nz _).length;rw[zyj];omega)|exact⟨by omega,by omega,trivial⟩|exact⟨by omega,by omega,trivial,trivial⟩|(simp;omega)|exact gH):a:=h
theorem dV(h:a:=by
    repeat' (first|exact hXW2|exact pJ|exact pT|exact trivial|refine aI ?_ ?_|exact iM|refine low_cons' ?_ ?_|exact iN|fail)
    all_goals first|omega|(show(0:Nat)< (rt _ _ _).length;rw[bG hcl];decide)|(show aB.low _ (aB.cells (List.replicate 256 _++_));exact ou)|exact hL0|exact hL1|exact zH _|(show(_:List Bool)=_;first|assumption|rfl)|(show(_:List Int)=_;first|assumption|rfl)|(show(_:List UInt8)=_;first|assumption|rfl)|(show bR _ _ _;first|exact Pp _|(rw[hXW];exact Pp _))|(show bR _ _ (nz (wB t (0*256)));rw[hXW];(repeat' (first|exact trivial|refine aI ?_ ?_|rfl|omega|decide|(simp;done)|rw[if_pos ⟨rfl,by simp⟩])))|(simp;done)|(show(0:Nat)< (au _ _ _ _).length;rw[dJ hcl];decide)|(simp[-List.reduceReplicate];done)|(simp[-List.reduceReplicate]<;>omega)|skip):a:=h
theorem ql(kZ:b)(h:aK b->a:=by intro kZ;(repeat first|refine aI El ?_|refine bW El ?_|refine dC El ?_|refine fT El ?_|refine fA ?_);exact kZ.out):a:=h ⟨kZ⟩
theorem z45(kZ:b)(h:aK b->a:=by intro kZ;refine sX ?_;refine ql ?_;refine aL ?_;exact kZ.out):a:=h ⟨kZ⟩
theorem y52(kZ:b)(h:aK b->a:=by intro kZ;refine jl ?_;refine ql ?_;refine aL ?_;exact kZ.out):a:=h ⟨kZ⟩
theorem Hd(kZ:b)(h:aK b->a:=by intro kZ;refine qX ?_;refine ql ?_;refine aL ?_;exact kZ.out):a:=h ⟨kZ⟩
theorem Gw(kZ:b)(h:aK b->a:=by intro kZ;refine sX ?_;refine ql ?_;exact kZ.out):a:=h ⟨kZ⟩
theorem JM(kZ:b)(h:aK b->a:=by intro kZ;refine qX ?_;refine ql ?_;exact kZ.out):a:=h ⟨kZ⟩
end
open Go.Aut
def nz(l:List (List Nat)):List Cell:=l.map fun w=>.ds w.length (.u8s (w.map UInt8.ofNat))
@[simp] theorem zyj(l:List (List Nat)):(nz l).length=l.length:=by simp[nz]
theorem y53{l:List (List Nat)}{i j:Nat}(h:j=i)(hi:i< l.length):(aB.cells (nz l)).get j= .ds (l.getD i []).length (.u8s ((l.getD i []).map UInt8.ofNat)):=by
  subst h
  show(nz l).getD j .nils=_
  rw[nz,List.getD_eq_getElem?_getD,List.getElem?_map,jB (d:=[]) hi];rfl
theorem Bb(l:List (List Nat))(w:List Nat):nz l++([]++[.ds w.length (.u8s (w.map UInt8.ofNat))])=nz (l++[w]):=by simp[nz]
theorem Pp{ty:Nat->Ty}{H:Heap}{is:List Nat}{ρ:Nat->Nat}(l:List (List Nat)):bR (Cell.to ty H is ρ) (nz l) (nz l):=by
  induction l with
  |nil=>trivial
  |cons w l ih=>exact⟨⟨rfl,rfl⟩,ih⟩
theorem zH(l:List (List Nat)){n:Nat}:(aB.cells (nz l)).low n:=fun z hz=>by
  obtain⟨w,_,rfl⟩:=List.mem_map.1 hz;trivial
theorem PH{t:Tab}{i b:Nat}(hi:i< (oB t (i*256)).length):(wB t (i*256+b)).getD i []=(wB t (i*256)).getD i []:=CR (Nat.le_add_right _ _) hi
theorem LZ{l:List (List Nat)}{i:Nat}(h:i< l.length):l.getD i []∈l:=by rw[List.getD_eq_getElem?_getD,List.getElem?_eq_getElem h];exact List.getElem_mem h
theorem y54(t:Tab)(p:Nat):(wB t p).length=(oB t p).length:=Lp p
attribute [local irreducible] eG z12 zl au gz cr rt dz lc nz eF aR mh
def y55:aW:=fun vs K=>∃ t:Tab,vs=[jw t]/\t.fit/\K (M9 (mh ((aD t).lang 0)))
theorem y56:jr Tryd.prog gl 56 y55:=by
 refine kJ (Γ:=g0) (N:=82) Tryd.func56 rfl rfl fun vs K h=>?_;obtain⟨t,rfl,ht,h⟩:=h;refine⟨_,h,z71 _,by simp,fun w I=>?_⟩
 have ht0:=ht
 obtain⟨hok,hlen,hnc⟩:=ht0
 have hcl:=hok.clen
 refine aO aF fun _ K2=>?_
 iterate 3 refine z45 ?_
 refine aJ K2 (fQ [0] id [(1,.c (.dp (eT t) 0))] [] 0 [] dV dV dV dV (aO aF fun _ K4=>z45 ?_));refine Gw ?_;refine aU (.c (.ds t.next.length (.cells (aS t.next)))) (ak (iC hcl)) ?_
 iterate 3 refine z45 ?_
 refine aJ K4 ?_
 have hnp:=hok.npos
 refine fQ [] id [(1,.c (.dp (eT t) 0)),(4,.c (.slice 0 0 t.next.length t.next.length))] [(0,.own 4 (.bools (List.replicate t.next.length false)) t.next.length)] 1 [0] dV dV dV dV (aO aF fun _ K6=>?_)
 iterate 2 refine z45 ?_
 refine y52 ?_;refine aJ K6 (aO aF fun _ K8=>?_)
 iterate 2 refine z45 ?_
 refine aJ K8 (aO aF fun _ K10=>?_)
 iterate 3 refine z45 ?_
 refine aJ K10 (aH fun _ K11=>aO aF fun _ K13=>z45 ?_);refine aJ K13 (bO (fM (α:=Nat×Nat×Nat) (fun g=>[(1,.c (.dp (eT t) 0)),(4,.c (.slice 0 0 t.next.length t.next.length)),(5,.c (.slice 1 0 (oB t (g.1*256)).length g.2.1)),(6,.c (.slice 2 0 (wB t (g.1*256)).length g.2.2)),(7,.c (.int .i64 (g.1:Nat)))]) (fun g=>[(0,.own 4 (.bools (fw (oB t (g.1*256)) t.next.length)) t.next.length),(1,.own 3 (.ints .i64 (aG (oB t (g.1*256)))) g.2.1),(2,.own 22 (.cells (nz (wB t (g.1*256)))) g.2.2)]) 3 (fun g=>g.1<=t.next.length/\(∀ j,j< g.1->j< (oB t (j*256)).length)/\g.1<=(oB t (g.1*256)).length/\(oB t (g.1*256)).length<=g.2.1/\(wB t (g.1*256)).length<=g.2.2/\(∀ w∈(wB t (g.1*256)),w.length<=g.1)/\(∀ j,j< g.1->t.acc.getD ((oB t (g.1*256)).getD j 0) false=false)) (fun g=>t.next.length - g.1) ?_ ?_))
 ·have hz:oB t (0*256)=[0]:=by unfold oB;rw[Nat.zero_mul];unfold aR;rfl
  have hzw:wB t (0*256)=[[]]:=by unfold wB;rw[Nat.zero_mul];unfold eF;rfl
  have hL0:1=(oB t (0*256)).length:=by rw[hz];rfl
  have hL1:1=(wB t (0*256)).length:=by rw[hzw];rfl
  have hS1:(List.replicate t.next.length false).set 0 true=fw (oB t (0*256)) t.next.length:=by rw[hz];exact XJ _
  have hX2:([]++[0]:List Int)=aG (oB t (0*256)):=by rw[hz];rfl
  have hXW:nz (wB t (0*256))=[.ds 0 (.u8s [])]:=by rw[hzw];unfold nz;rfl
  refine ai [2] (fun i=>if i=2 then 3 else i) (0,1,1) ⟨Nat.zero_le _,fun j hj=>absurd hj (Nat.not_lt_zero j),Nat.zero_le _,(by show(oB t (0*256)).length<=1;rw[hz];exact Nat.le_refl _),(by show(wB t (0*256)).length<=1;rw[hzw];exact Nat.le_refl _),(by show ∀ w∈wB t (0*256),w.length<=0;rw[hzw];intro w hw;rw[List.mem_singleton.1 hw];exact Nat.le_refl _),fun j hj=>absurd hj (Nat.not_lt_zero j)⟩ [0,1,3] ?_ ?_ ?_ ?_
  ·exact dV
  ·exact dV
  ·exact dV
  ·exact dV
 ·intro g hg
  obtain⟨hg1,hga,hg3,hg4,hg5,hwd,hna⟩:=hg;refine aH fun _ K14=>aO aF fun _ K16=>?_
  iterate 4 refine z45 ?_
  refine aJ K16 (bC (b:=_) rfl (fun h_t23=>?_) (fun h_t23=>?_))
  ·try simp only[dQ,reduceIte]at h_t23
   refine bK (K14 _ _ _ (aH fun _ K17=>bO (aH fun _ K18=>?_)))
   have hi:g.1< (oB t (g.1*256)).length:=by omega
   have hsl:=mW hok _ _ (getD_mem' hi)
   have hal:=hok.alen
   have hrw:=oz hok hsl
   have hole:=uB hok (g.1*256)
   have hwl:=y54 t (g.1*256)
   refine qB aF aN fun _ K20=>Hd ?_;refine JM ?_;refine aU (.c (.ds t.acc.length (.bools t.acc))) (ak (nW hcl)) ?_
   iterate 3 refine Hd ?_
   refine JM ?_;refine aU (.c (.int .i64 (((((oB t (g.1*256)).getD g.1 0):Nat):Int)))) (az ((congrArg (fun i=>(aG (oB t (g.1*256))).getD i 0) (by omega)).trans (jd.trans (congrArg Nat.cast rfl)))) (Hd ?_);refine JM ?_;refine aU (.c (.bool (t.acc.getD ((oB t (g.1*256)).getD g.1 0) false))) (dN (congrArg (fun i=>t.acc.getD i false) (by omega))) (nG K20 (bC (b:=_) rfl (fun h_t33=>?_) (fun h_t33=>?_)))
   ·refine aO aF fun _ K22=>?_
    iterate 3 refine z45 ?_
    refine Gw ?_;refine aU (.c (.ds ((wB t (g.1*256)).getD g.1 []).length (.u8s (((wB t (g.1*256)).getD g.1 []).map UInt8.ofNat)))) (ak (y53 (by omega) (by omega))) ?_
    iterate 2 refine z45 ?_
    refine aJ K22 ?_;rw[zw0 hga hi hna (by simpa using h_t33)];refine bQ (gT aF (fun _ _ h=>h) (z71 _) [] [.tmp 2,.tmp 3] rfl ?_)
    repeat' (first|exact hXW2|exact pJ|exact pT|exact trivial|refine aI ?_ ?_|exact iM|refine low_cons' ?_ ?_|exact iN|fail)
    all_goals first|omega|(show _=(lsB (some _)).length;rw[TM,List.length_map])|(rw[TM];done)|(show(0:Nat)< (rt _ _ _).length;rw[bG hcl];decide)|(show aB.low _ (aB.cells (List.replicate 256 _++_));exact ou)|exact hL0|exact hL1|exact zH _|(show(_:List Bool)=_;first|assumption|rfl)|(show(_:List Int)=_;first|assumption|rfl)|(show(_:List UInt8)=_;first|assumption|rfl)|(show bR _ _ _;first|exact Pp _|(rw[hXW];exact Pp _))|(show bR _ _ (nz (wB t (0*256)));rw[hXW];(repeat' (first|exact trivial|refine aI ?_ ?_|rfl|omega|decide|(simp;done)|rw[if_pos ⟨rfl,by simp⟩])))|(simp;done)|(show(0:Nat)< (au _ _ _ _).length;rw[dJ hcl];decide)|(simp[-List.reduceReplicate];done)|(simp[-List.reduceReplicate]<;>omega)|skip
   ·refine bK (K18 _ _ _ (aO aF fun _ K24=>z45 ?_));refine aJ K24 (bO (fM (α:=Nat×Nat×Nat) (fun z=>[(1,.c (.dp (eT t) 0)),(4,.c (.slice 0 0 t.next.length t.next.length)),(5,.c (.slice 1 0 (oB t (g.1*256+z.1)).length z.2.1)),(6,.c (.slice 2 0 (wB t (g.1*256+z.1)).length z.2.2)),(7,.c (.int .i64 (g.1:Nat))),(8,.c (.int .i64 (z.1:Nat)))]) (fun z=>[(0,.own 4 (.bools (fw (oB t (g.1*256+z.1)) t.next.length)) t.next.length),(1,.own 3 (.ints .i64 (aG (oB t (g.1*256+z.1)))) z.2.1),(2,.own 22 (.cells (nz (wB t (g.1*256+z.1)))) z.2.2)]) 3 (fun z=>z.1<=256/\(oB t (g.1*256+z.1)).length<=z.2.1/\(wB t (g.1*256+z.1)).length<=z.2.2/\(∀ w∈(wB t (g.1*256+z.1)),w.length<=g.1+1)) (fun z=>256 - z.1) ?_ ?_))
    ·refine ai [] id (0,g.2.1,g.2.2) ⟨Nat.zero_le _,hg4,hg5,fun w hw=>Nat.le_succ_of_le (hwd w hw)⟩ [0,1,2] dV dV dV dV
    ·intro z hz
     obtain⟨hz1,hz4,hz5,hzd⟩:=hz;refine aH fun _ K25=>aO aF fun _ K27=>?_
     iterate 2 refine z45 ?_
     refine aJ K27 (bC (b:=_) rfl (fun h_t39=>?_) (fun h_t39=>?_))
     ·try simp only[dQ,reduceIte]at h_t39
      refine bK (K25 _ _ _ (aH fun _ K28=>bO ?_))
      have hb256:z.1< 256:=by omega
      have hiz:g.1< (oB t (g.1*256+z.1)).length:=Nat.lt_of_lt_of_le hi (pR (Nat.le_add_right _ _))
      have hgz:(oB t (g.1*256+z.1)).getD g.1 0=((oB t (g.1*256)).getD g.1 0):=Ir (Nat.le_add_right _ _) hi
      have hcb:=av hok hb256
      have hx:=bz hok hsl hcb.1
      have htl:(lG t ((oB t (g.1*256)).getD g.1 0) z.1)< t.next.length:=hx.1
      have holz:=uB hok (g.1*256+z.1)
      have hwz:=y54 t (g.1*256+z.1)
      have hwa:(wB t (g.1*256+z.1)).getD g.1 []=((wB t (g.1*256)).getD g.1 []):=PH hi
      have hwm:((wB t (g.1*256)).getD g.1 []).length<=g.1:=hwd _ (LZ (show g.1< (wB t (g.1*256)).length by omega))
      refine qB aF aN fun _ K30=>Hd ?_;refine JM ?_;refine aU (.c (.ds t.next.length (.cells (aS t.next)))) (ak (iC hcl)) ?_
      iterate 3 refine Hd ?_
      refine JM ?_;refine aU (.c (.int .i64 (((((oB t (g.1*256)).getD g.1 0):Nat):Int)))) (az ((congrArg (fun i=>(aG (oB t (g.1*256+z.1))).getD i 0) (by omega)).trans (jd.trans (congrArg Nat.cast hgz)))) (Hd ?_);refine JM ?_;refine aU (.c (.ds (t.next.getD ((oB t (g.1*256)).getD g.1 0) []).length (.ints .i64 (t.next.getD ((oB t (g.1*256)).getD g.1 0) [])))) (ak (oh ⟨hsl,by omega⟩)) ?_
      iterate 3 refine Hd ?_
      refine JM ?_;refine aU (.c (.int .i64 (((aD t).cell z.1:Nat):Int))) (ak ((z52 hcl (by first|omega|(simp;done)) hb256).trans (congrArg (Cell.int IntKind.i64) (av hok hb256).2))) (Hd ?_);refine JM ?_;refine aU (.c (.int .i64 ((((lG t ((oB t (g.1*256)).getD g.1 0) z.1):Nat):Int)))) (az ((congrArg (fun i=>(t.next.getD ((oB t (g.1*256)).getD g.1 0) []).getD i 0) (by omega)).trans hx.2)) (Hd ?_);refine nG K30 (aH fun _ K31=>aO aF fun _ K33=>?_)
      iterate 3 refine z45 ?_
      refine Gw ?_;refine aU (.c (.bool (decide ((lG t ((oB t (g.1*256)).getD g.1 0) z.1)∈(oB t (g.1*256+z.1)))))) (dN (by rw[<-P8 htl];congr 1;omega)) (aJ K33 (bC (b:=_) rfl (fun h_t59=>?_) (fun h_t59=>?_)))
      ·refine eY (bJ (eX (K28 _ _ _ (bB aF fun _ K34=>?_))))
       iterate 3 refine z45 ?_
       refine aJ K34 ?_
       have hin:(lG t ((oB t (g.1*256)).getD g.1 0) z.1)∈(oB t (g.1*256+z.1)):=by simpa using h_t59
       have hst:(oB t (g.1*256+(z.1+1)))=(oB t (g.1*256+z.1)):=by
        have:=NW hb256 hiz
        rw[hgz,iq,if_pos hin]at this;exact this
       have hwst:(wB t (g.1*256+(z.1+1)))=(wB t (g.1*256+z.1)):=by
        have:=Te (t:=t) (i:=g.1) hb256
        rw[hgz,if_pos hin]at this;exact this
       rw[<-hst, <-hwst];refine ai [] id (z.1+1,z.2.1,z.2.2) ⟨⟨by show z.1+1<=256;omega,(by rw[hst];exact hz4),(by rw[hwst];exact hz5),(by rw[hwst];exact hzd)⟩,by show 256 - (z.1+1)< _;omega⟩ [0,1,2] ?_ ?_ ?_ ?_
       ·exact dV
       ·exact dV
       ·exact dV
       ·exact dV
      ·refine bK (K31 _ _ _ (aO aF fun _ K36=>?_))
       iterate 3 refine z45 ?_
       refine y52 ?_;refine aJ K36 (aO aF fun _ K38=>?_)
       iterate 3 refine z45 ?_
       refine Gw ?_;intro cap3 hcap3;refine aL (z45 ?_);refine aJ K38 ?_
       revert cap3 hcap3
       intro capA hcapA;refine aO aF fun _ K40=>?_
       iterate 4 refine z45 ?_
       refine Gw ?_;refine aU (.c (.ds ((wB t (g.1*256)).getD g.1 []).length (.u8s (((wB t (g.1*256)).getD g.1 []).map UInt8.ofNat)))) (ak ((y53 (l:=(wB t (g.1*256+z.1))) (i:=g.1) (by omega) (by omega)).trans (congrArg (fun l=>Cell.ds l.length (.u8s (l.map UInt8.ofNat))) hwa))) (Gw ?_);intro cap5 hcap5;refine aL (z45 ?_);refine aJ K40 (aO aF fun _ K42=>?_)
       iterate 2 refine z45 ?_
       refine Gw ?_;refine aU (.c (.u8 (UInt8.ofNat z.1))) (bq (congrArg (fun v=>SV.c (Cell.u8 v)) (Sb _))) (z45 ?_);refine Gw ?_;intro cap4 hcap4;refine aL (z45 ?_);refine aJ K42 ?_
       have hnin:(lG t ((oB t (g.1*256)).getD g.1 0) z.1)∉(oB t (g.1*256+z.1)):=by simpa using h_t59
       have hst:(oB t (g.1*256+(z.1+1)))=(oB t (g.1*256+z.1))++[(lG t ((oB t (g.1*256)).getD g.1 0) z.1)]:=by
        have:=NW hb256 hiz
        rw[hgz,iq,if_neg hnin]at this;exact this
       have hwst:(wB t (g.1*256+(z.1+1)))=(wB t (g.1*256+z.1))++[(((wB t (g.1*256)).getD g.1 [])++[z.1])]:=by
        have:=Te (t:=t) (i:=g.1) hb256
        rw[hgz,if_neg hnin,hwa]at this;exact this
       have hX7:(([]:List UInt8)++((wB t (g.1*256)).getD g.1 []).map UInt8.ofNat)++([]++[UInt8.ofNat z.1])=(((wB t (g.1*256)).getD g.1 [])++[z.1]).map UInt8.ofNat:=by rw[List.map_append];rfl
       have hX1:(fw (oB t (g.1*256+z.1)) t.next.length).set (0+(((lG t ((oB t (g.1*256)).getD g.1 0) z.1):Nat):Int).toNat*1) true=fw (oB t (g.1*256+(z.1+1))) t.next.length:=by rw[hst, <-SS];congr 1;omega
       have hX2:aG (oB t (g.1*256+z.1))++([]++[(((lG t ((oB t (g.1*256)).getD g.1 0) z.1):Nat):Int)])=aG (oB t (g.1*256+(z.1+1))):=by rw[hst,List.nil_append,z39]
       have hL0:(oB t (g.1*256+z.1)).length+1=(oB t (g.1*256+(z.1+1))).length:=by rw[hst,List.length_append];rfl
       have hL1:(wB t (g.1*256+z.1)).length+1=(wB t (g.1*256+(z.1+1))).length:=by rw[hwst,List.length_append];rfl
       have hXW:nz (wB t (g.1*256+(z.1+1)))=nz (wB t (g.1*256+z.1))++([]++[.ds (((wB t (g.1*256)).getD g.1 []).length+1) (.u8s ((((wB t (g.1*256)).getD g.1 [])++[z.1]).map UInt8.ofNat))]):=by
        rw[hwst, <-Bb,List.length_append];rfl
       have hXW2:∀ {ty:Nat->Ty} {H:Heap} {is:List Nat} {ρ:Nat->Nat},aB.to ty H is ρ (.cells (nz (wB t (g.1*256+z.1))++([]++[.ds (((wB t (g.1*256)).getD g.1 []).length+1) (.u8s ((((wB t (g.1*256)).getD g.1 [])++[z.1]).map UInt8.ofNat))]))) (.cells (nz (wB t (g.1*256+(z.1+1))))):=by
        intro ty H is ρ;rw[<-hXW];exact Pp _
       have hzd2:∀ w∈(wB t (g.1*256+(z.1+1))),w.length<=g.1+1:=fun w hw=>by
        rw[hwst]at hw
        rcases List.mem_append.1 hw with hw|hw
        ·exact hzd w hw
        ·rw[List.mem_singleton.1 hw,List.length_append];show _+1<=_;omega
       refine fQ [8] (fun i=>if i=1 then 4 else i) [(1,.c (.dp (eT t) 0)),(4,.c (.slice 0 0 t.next.length t.next.length)),(5,.c (.slice 1 0 (oB t (g.1*256+(z.1+1))).length capA)),(6,.c (.slice 2 0 (wB t (g.1*256+z.1)).length z.2.2)),(7,.c (.int .i64 (g.1:Nat))),(8,.c (.int .i64 (z.1:Nat))),(10,.c (.ds (((wB t (g.1*256)).getD g.1 []).length+1) (.u8s ((((wB t (g.1*256)).getD g.1 [])++[z.1]).map UInt8.ofNat))))] [(0,.own 4 (.bools (fw (oB t (g.1*256+(z.1+1))) t.next.length)) t.next.length),(1,.own 3 (.ints .i64 (aG (oB t (g.1*256+(z.1+1))))) capA),(2,.own 22 (.cells (nz (wB t (g.1*256+z.1)))) z.2.2)] 3 [0,4,2] dV dV dV dV (bB aF fun _ K43=>?_)
       iterate 3 refine z45 ?_
       refine Gw ?_;intro cap3 hcap3;refine aL (z45 ?_);refine aJ K43 (dD (K28 _ _ _ (bB aF fun _ K44=>?_)))
       iterate 3 refine z45 ?_
       refine aJ K44 (ai [] (fun i=>if i=2 then 4 else i) (z.1+1,capA,cap3) ⟨⟨by show z.1+1<=256;omega,(by show(oB t (g.1*256+(z.1+1))).length<=capA;omega),(by show(wB t (g.1*256+(z.1+1))).length<=cap3;omega),hzd2⟩,by show 256 - (z.1+1)< _;omega⟩ [0,1,4] ?_ ?_ ?_ ?_)
       ·exact dV
       ·exact dV
       ·exact dV
       ·exact dV
     ·try simp only[dQ,reduceIte]at h_t39
      refine eY (bJ (bJ (eX (dD (K17 _ _ _ (bB aF fun _ K45=>?_))))))
      iterate 3 refine z45 ?_
      refine aJ K45 ?_
      have hze:z.1=256:=by omega
      have hpe:g.1*256+z.1=(g.1+1)*256:=by omega
      rw[hpe];rw[hpe]at hz4 hz5 hzd
      have hlen2:(oB t (g.1*256)).length<=(oB t ((g.1+1)*256)).length:=pR (by omega)
      have hah:∀ j,j< g.1+1->j< (oB t (j*256)).length:=fun j hj=>by
       rcases Nat.lt_or_ge j g.1 with h1|h1
       ·exact hga j h1
       ·obtain rfl:j=g.1:=by omega
        exact hi
      have hna2:∀ j,j< g.1+1->t.acc.getD ((oB t ((g.1+1)*256)).getD j 0) false=false:=fun j hj=>by
       have hjl:j< (oB t (g.1*256)).length:=Nat.lt_of_le_of_lt (by omega) hi
       have e:(oB t ((g.1+1)*256)).getD j 0=(oB t (g.1*256)).getD j 0:=Ir (by omega) hjl
       rw[e]
       rcases Nat.lt_or_ge j g.1 with h1|h1
       ·exact hna j h1
       ·obtain rfl:j=g.1:=by omega
        simpa using h_t33
      refine ai [] id (g.1+1,z.2.1,z.2.2) ⟨⟨by show g.1+1<=_;omega,hah,(by show g.1+1<=(oB t ((g.1+1)*256)).length;omega),hz4,hz5,hzd,hna2⟩,by show _ - (g.1+1)< _;omega⟩ [0,1,2] ?_ ?_ ?_ ?_
      ·exact dV
      ·exact dV
      ·exact dV
      ·exact dV
  ·try simp only[dQ,reduceIte]at h_t23
   refine eY (bJ (bJ (eX (K11 _ _ _ (aO aF fun _ K47=>?_)))))
   iterate 2 refine z45 ?_
   refine aJ K47 ?_;rw[y2a hga (by omega) hna];refine bQ (gT aF (fun _ _ h=>h) (z71 _) [] [.tmp 2,.tmp 3] rfl ?_)
   all_goals exact dV


end Go.Proofs.YtpdljmohhpbkpaaDoor

namespace Go.Proofs.YtpdljmohhpbkpaaDoor
open Go.Ab Go.RowKit

open Go.Aut
attribute [local irreducible] eG z12 zl au gz cr rt dz lc af oW mh
noncomputable def VB:Ctx:={ P:=Tryd.prog,ty:=ty,glob:=gl,fs:=[(42,.flat NK),(43,.data um),(57,.data YE),(56,.data y55)] }
theorem Jg:VB.OK:=⟨dS,⟨⟨bX Tryd.func42 aN rfl,PZ⟩,⟨bX Tryd.func43 aN rfl,Q6⟩,⟨bX Tryd.func57 aN rfl,zkr⟩,⟨bX Tryd.func56 aN rfl,y56⟩,trivial⟩,mixed⟩
@[simp] theorem VC:VB.ty=ty:=rfl

def zwy:aW:=fun vs K=>∃ d e:Dfa,vs=[df d,df e]/\(d.wf/\e.wf)/\K (M9 (oO d e))
theorem zyk:jr Tryd.prog gl 21 zwy:=by
 refine kJ (Γ:=VB) (N:=22) Tryd.func21 rfl rfl fun vs K h=>?_;obtain⟨d,e,rfl,⟨hd,he⟩,h⟩:=h;refine⟨_,h,z71 _,by simp,fun w I=>?_⟩;refine aO Jg fun _ K2=>?_
 iterate 4 refine sF ?_
 refine aJ K2 (aH fun _ K3=>aO Jg fun _ K5=>sF ?_);refine R4 ?_;refine⟨d,rfl,hd,iH ?_⟩
 first|refine aL ?_|(intro cap1 hcap1;refine aL ?_)
 refine sF ?_;refine R4 ?_;refine fO (fun hb3=>?_) (fun hb3=>?_)
 ·try simp only[dQ,reduceIte]at hb3
  iterate 3 refine sN ?_
  refine sF ?_;refine aJ K5 (bC (b:=_) rfl (fun _=>?_) (fun h_t13=>?_))
  rotate_left 1
  ·exfalso;simp at h_t13
  refine aO Jg fun _ K7=>?_
  iterate 2 refine sF ?_
  refine aJ K7 ?_
  have hno:¬ (eQ d=true/\eQ e=true):=by
   rw[<-qI hd, <-qI he];intro hh;simp_all
  rw[oO,if_neg hno];refine bQ (gT Jg (fun _ _ h=>h) (z71 _) [] [.tmp 4,.tmp 5] rfl ?_)
  all_goals exact Ji
 ·try simp only[dQ,reduceIte]at hb3
  refine R3 ?_;refine y51 ?_;refine⟨e,rfl,he,iH ?_⟩
  first|refine aL ?_|(intro cap5 hcap5;refine aL ?_)
  refine R3 ?_;refine sF ?_;refine aJ K5 (bC (b:=_) rfl (fun h_t13=>?_) (fun h_t13=>?_))
  ·try simp only[dQ,reduceIte]at h_t13
   refine aO Jg fun _ K9=>?_
   iterate 2 refine sF ?_
   refine aJ K9 ?_
   have hno:¬ (eQ d=true/\eQ e=true):=by
    rw[<-qI hd, <-qI he];intro hh;simp_all
   rw[oO,if_neg hno];refine bQ (gT Jg (fun _ _ h=>h) (z71 _) [] [.tmp 4,.tmp 5] rfl ?_)
   all_goals exact Ji
  ·try simp only[dQ,reduceIte]at h_t13
   refine bK (K3 _ _ _ ?_)
   have hvd:eQ d=true:=(qI hd).symm.trans (by simp_all)
   have hve:eQ e=true:=(qI he).symm.trans (by simp_all)
   have hgd:=(z22 hd).1 hvd
   have hge:=(z22 he).1 hve
   have hfd:=kS hgd
   have hfe:=kS hge
   have hpf:=y4v (op:=mJ 3) hfd hfe ⟨hgd.2,hge.2⟩
   refine vR Jg [(0,true),(2,true),(1,false),(3,false),(4,false),(5,false),(6,true),(7,true),(8,true),(9,true)] rfl aN aN fun _ K11=>?_
   iterate 2 refine PK ?_
   refine Jh ?_;refine⟨d,rfl,hgd.1,iH ?_⟩
   first|refine aL ?_|(intro cap1 hcap1;refine aL ?_)
   refine Jh ?_;refine⟨e,rfl,hge.1,iH ?_⟩
   first|refine aL ?_|(intro cap3 hcap3;refine aL ?_)
   refine Jh ?_;refine aI (lI (ag d)) (lJ (ag d) (aI (lI (ag e)) (lJ (ag e) ⟨3,ag d,ag e,rfl,⟨hfd,hfe,hgd.2,hge.2⟩,?_⟩)))
   simp only[q8]
   refine iH ?_
   first|refine aL ?_|(intro cap4 hcap4;refine aL ?_)
   refine Jh ?_;refine aI (lI (oW (mJ 3) (ag d) (ag e))) (lJ (oW (mJ 3) (ag d) (ag e)) ⟨_,rfl,hpf,?_⟩);rw[EL hgd hge,Dy];refine iH ?_
   first|refine aL ?_|(intro cap5 hcap5;refine aL ?_)
   iterate 4 refine PK ?_
   refine iF K11 ?_
   have hyes:eQ d=true/\eQ e=true:=⟨hvd,hve⟩
   rw[oO,if_pos hyes];refine bQ (gT Jg (fun _ _ h=>h) (z71 _) [] [.tmp 4,.tmp 5] rfl ?_)
   all_goals exact Ji


end Go.Proofs.YtpdljmohhpbkpaaDoor
