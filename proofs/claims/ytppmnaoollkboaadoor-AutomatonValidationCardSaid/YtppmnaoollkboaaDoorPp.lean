/- Part 16 of what the claims of this seat share: the walk's engine, the functions' contracts, plain mathematics (Ja, Jb, Jc, Jd). -/
import Derived.Test.YtppmnaoollkboaaDoorPn
import Derived.Test.YtppmnaoollkboaaDoorPd
import Derived.Test.YtppmnaoollkboaaDoorPh
set_option maxHeartbeats 1000000
set_option maxRecDepth 4000
namespace Go.Proofs.YtppmnaoollkboaaDoor
set_option linter.all false
open Go.Ab Go.RowKit

section
variable {a b:Prop}
theorem qJa0(h:a:=by first|exact vcA|(simp<;>omega)|exact⟨by omega,by omega⟩|(simp only[z7g];omega)|(show(clsAt _ _).length=4;exact hcd)|exact hcd|exact vcB):a:=h
theorem uJa_0(h:a:=by
    repeat' (first|exact pT|exact trivial|refine aI ?_ ?_|exact cC0|refine low_cons' ?_ ?_|exact cC1|fail)
    all_goals first|omega|exact z1b _|(simp;done)|(show(0:Nat)< (z02 _ _ _ _).length;rw[z00 hcl];decide)|(simp[-List.reduceReplicate];done)|(simp[-List.reduceReplicate]<;>omega)|skip):a:=h
theorem DJa_0(kZ:b)(h:HidB b→a:=by intro kZ;(repeat first|refine aI qJa0 ?_|refine z04 qJa0 ?_|refine z03 qJa0 ?_|refine z0m qJa0 ?_|refine z0c ?_);exact kZ.out):a:=h ⟨kZ⟩
theorem zfl(kZ:b)(h:HidB b→a:=by intro kZ;refine sX ?_;refine DJa_0 ?_;refine exI ?_;exact kZ.out):a:=h ⟨kZ⟩
theorem y0t(kZ:b)(h:HidB b→a:=by intro kZ;refine sX ?_;refine DJa_0 ?_;exact kZ.out):a:=h ⟨kZ⟩
end
open Go.Aut
attribute [local irreducible] z0s z12 zl z02 z11 putB
noncomputable def gj1:Ctx:={ P:=Tryd.prog,ty:=ty,glob:=gl,fs:=[(34,.flat zr2)] }
theorem zfm:gj1.OK:=⟨tyOK,⟨⟨z08 Tryd.func34 kR rfl,zom⟩,trivial⟩,mixed⟩
@[simp] theorem gj1_ty:gj1.ty=ty:=rfl

def y0u:QSpec:=fun vs K=>∃ (d:Dfa) (b:Nat),vs=[.c (.ds d.nc (.u64s d.cls)),.c (.int .i64 (b:Nat))]∧(d.ok∧b< 256)∧K (.c (.int .i64 (cellD d b:Nat)))
theorem y0v:z19 Tryd.prog gl 145 y0u:=by
 refine z1d (Γ:=gj1) (N:=19) Tryd.func145 rfl rfl fun vs K h=>?_;obtain⟨d,b,rfl,⟨hok,hb⟩,h⟩:=h;refine⟨_,h,rfl,by simp,fun w I=>?_⟩
 have hnc:=hok.cmax
 have hcl4:=hok.clen
 refine srR zfm fun _ K2=>?_;refine zfl ?_;refine s_n K2 ?_;refine seq_k fun _ K3=>?_;refine srR zfm fun _ K5=>?_;refine zfl ?_;refine s_n K5 ?_;refine z07 ?_;refine z0q (α:=Nat) (fun i=>[(0,.c (.ds d.nc (.u64s d.cls))),(1,.c (.int .i64 (b:Nat))),(5,.c (.int .i64 (i:Nat)))]) (fun i=>[]) 0 (fun i=>i≤d.nc∧∀ x,x< i→hasC d.cls x b=false) (fun i=>d.nc - i) ?_ ?_
 ·refine dnS [] id 0 ⟨Nat.zero_le _,fun x hx=>absurd hx (Nat.not_lt_zero x)⟩ [] uJa_0 uJa_0 uJa_0 uJa_0
 ·intro i hi
  refine seq_k fun _ K6=>?_;refine srR zfm fun _ K8=>?_
  iterate 4 refine zfl ?_
  refine s_n K8 ?_;refine z09 (b:=_) rfl (fun h_t9=>?_) (fun h_t9=>?_)
  ·try simp only[dQ,reduceIte]at h_t9
   refine z0b ?_;apply K6;refine seq_k fun _ K9=>?_;refine z07 ?_
   have hin:i< d.nc:=by omega
   have hcd:=z31 hok.clen hin
   refine srR zfm fun _ K11=>?_
   iterate 3 refine zfl ?_
   refine y0t ?_;refine exA (.agg (.u64s (clsAt d.cls i))) (as_eq rfl) ?_;refine zfl ?_;refine y0t ?_;refine⟨clsAt d.cls i,b,rfl,⟨hcd,hb⟩,?_⟩;refine DJa_0 ?_
   first|refine exA (.c (.bool (hasC d.cls i b))) (as_b (zbb hb)) ?_|(intro cap5 hcap5;refine exA (.c (.bool (hasC d.cls i b))) (as_b (zbb hb)) ?_)
   refine s_n K11 ?_;refine z09 (b:=_) rfl (fun h_t17=>?_) (fun h_t17=>?_)
   ·refine srR zfm fun _ K13=>?_
    iterate 2 refine zfl ?_
    refine s_n K13 ?_;refine z0g (z0d zfm (fun _ _ h=>h) (by first|rfl|assumption) [.tmp 4] rfl ?_);refine rtD ?_
    show SV.c (.int .i64 _)=_
    rw[(zg0 hok hb hin).2 h_t17]
   ·refine z0b ?_;refine z0a ?_;apply K9;refine z06 zfm fun _ K14=>?_
    iterate 3 refine zfl ?_
    refine s_n K14 ?_;refine dnS [] id (i+1) ⟨⟨by omega,fun x hx=>(Nat.lt_succ_iff_lt_or_eq.1 hx).elim (hi.2 x) fun e=>by rw[e];simpa using h_t17⟩,by omega⟩ [] ?_ ?_ ?_ ?_
    ·exact uJa_0
    ·exact uJa_0
    ·exact uJa_0
    ·exact uJa_0
  ·try simp only[dQ,reduceIte]at h_t9
   refine z0o ?_;refine z01 ?_;refine z01 ?_;refine z0j ?_;apply K3;refine srR zfm fun _ K16=>?_;refine zfl ?_;refine s_n K16 ?_
   exfalso
   obtain⟨x,hx,hxx⟩:=hok.part b hb
   have h1:=(hxx x hx).2 rfl
   have h2:=hi.2 x (by omega)
   rw[h2]at h1;cases h1


end Go.Proofs.YtppmnaoollkboaaDoor

namespace Go.Proofs.YtppmnaoollkboaaDoor
set_option linter.all false
open Go.Ab Go.RowKit

open Go.Aut
def rt(cell:List Int)(x y:Cell):List Cell:=cell.map (Cell.int .i64)++[x,y]
abbrev rtC(t:Tab):Cont:=.cells (rt t.cell (.ds t.next.length (.cells (rowsC t.next))) (.ds t.acc.length (.bools t.acc)))
abbrev rtV(t:Tab):SV:=.agg (rtC t)
theorem z05{cell:List Int}{x y:Cell}(h:cell.length=256):(rt cell x y).length=258:=by simp[rt,h]
theorem z54{cell:List Int}{x y:Cell}(h:cell.length=256){b i:Nat}(hi:i=b)(hb:b< 256):(Cont.cells (rt cell x y)).get i= .int .i64 (cell.getD b 0):=by
  subst hi
  show(rt cell x y).getD i .nils=_
  rw[rt,List.getD_eq_getElem?_getD,List.getElem?_append_left (by simpa [h]using hb),List.getElem?_map,at_of (d:=0) (by omega)];rfl
theorem zma{cell:List Int}{x y:Cell}(h:cell.length=256)(j:Nat):(Cont.cells (rt cell x y)).get (256+j)=[x,y].getD j .nils:=by
  show(rt cell x y).getD (256+j) .nils=_
  rw[rt,List.getD_eq_getElem?_getD,List.getElem?_append_right (by simp[h]),List.getD_eq_getElem?_getD]
  congr 2;simp[h]
theorem rt_nx{t:Tab}(h:t.cell.length=256):(rtC t).get (0+256)= .ds t.next.length (.cells (rowsC t.next)):=by rw[Nat.zero_add,zma h 0];rfl
theorem rt_ac{t:Tab}(h:t.cell.length=256):(rtC t).get (0+257)= .ds t.acc.length (.bools t.acc):=by rw[Nat.zero_add,zma h 1];rfl
theorem rt_set{cell:List Int}{x y:Cell}(h:cell.length=256){b:Nat}(hb:b< 256)(v:Int):(rt cell x y).set b (.int .i64 v)=rt (cell.set b v) x y:=by
  rw[rt,rt,List.set_append_left _ _ (by simpa [h]using hb),List.map_set]
theorem zor{cell:List Int}{n:Nat}{x y:Cell}(hx:x.low n)(hy:y.low n):(Cont.cells (rt cell x y)).low n:=fun z hz=>by
  rcases List.mem_append.1 hz with hz|hz
  · obtain⟨v,_,rfl⟩:=List.mem_map.1 hz;trivial
  · rcases List.mem_cons.1 hz with rfl|hz
    · exact hx
    · rw[List.mem_singleton.1 hz];exact hy
theorem zkf(t:Tab){n:Nat}:(rtC t).low n:=zor trivial trivial
theorem z4j{cell:List Int}{x y:Cell}(hx:x.solid)(hy:y.solid):z64 (rt cell x y):=zi0 (zdw _) ⟨hx,hy,trivial⟩
theorem allD_rt(t:Tab):allD (rt t.cell (.ds t.next.length (.cells (rowsC t.next))) (.ds t.acc.length (.bools t.acc))):=zsx (zo2 _) ⟨trivial,trivial,trivial⟩
theorem z69{ty:Nat→Ty}{H:Heap}{is:List Nat}{ρ:Nat→Nat}{cell:List Int}{x y x' y':Cell}(hx:Cell.to ty H is ρ x x')(hy:Cell.to ty H is ρ y y'):allTo (Cell.to ty H is ρ) (rt cell x y) (rt cell x' y'):=
  z8f (zjz _) ⟨hx,hy,trivial⟩
theorem rt_toE{ty:Nat→Ty}{H:Heap}{is:List Nat}{ρ:Nat→Nat}{cell cell':List Int}{x y x' y':Cell}{n:Nat}{v:Int}(hc:cell.length=256)(hn:n< 256)(e:cell.set n v=cell')(hx:Cell.to ty H is ρ x x')(hy:Cell.to ty H is ρ y y'):allTo (Cell.to ty H is ρ) ((rt cell x y).set n (.int .i64 v)) (rt cell' x' y'):=by
  rw[rt_set hc hn,e];exact z69 hx hy
def rzl:List Cell:=List.replicate 256 (Cell.int .i64 0)++List.replicate 2 .nils
theorem z13:rzl.length=258:=by rw[rzl,List.length_append,List.length_replicate,List.length_replicate]
theorem y0w{ty:Nat→Ty}{H:Heap}{is:List Nat}{ρ:Nat→Nat}:allTo (Cell.to ty H is ρ) (List.replicate 256 (Cell.int .i64 0)++List.replicate 2 .nils) rzl:=z8f (zaf (x:=.int .i64 0) ⟨rfl,rfl⟩ _) (zaf (x:=.nils) (by first|exact trivial|exact⟨rfl,rfl⟩|exact rfl) _)
theorem rzl_to{ty:Nat→Ty}{H:Heap}{is:List Nat}{ρ:Nat→Nat}:allTo (Cell.to ty H is ρ) rzl rzl:=y0w
theorem z3v{n:Nat}:(Cont.cells rzl).low n:=fun x hx=>by
  rcases List.mem_append.1 hx with h|h
  · rw[(List.mem_replicate.1 h).2];trivial
  · rw[(List.mem_replicate.1 h).2];trivial
theorem rt0_eq(x y:Cell):List.replicate 256 (Cell.int .i64 0)++[x,y]=rt z12 x y:=by rw[rt,z12,List.map_replicate]
theorem y0x(x y:Cell):((Cont.cells (List.replicate 256 (Cell.int .i64 0)++List.replicate 2 .nils)).sub 0 256).list++([x]++([y]++[]))=rt z12 x y:=by
  rw[←rt0_eq]
  show List.take 256 (List.drop 0 (List.replicate 256 _++List.replicate 2 _))++_=_
  rw[List.drop_zero,List.take_append_of_le_length (by rw[List.length_replicate];decide),List.take_replicate]
  rfl
def cbK(d:Dfa)(k:Nat):List Int:=(List.range 256).map fun b=>if b< k then(cellD d b:Int)else 0
theorem z2a(d:Dfa)(k:Nat):(cbK d k).length=256:=by simp[cbK]
theorem cbK_zero(d:Dfa):z12=cbK d 0:=by simp[cbK,z12,List.map_const']
theorem cbK_set(d:Dfa){k:Nat}(h:k< 256):(cbK d k).set k (cellD d k:Int)=cbK d (k+1):=by
  refine z1z 0 (by simp[cbK]) fun i hi=>?_
  have hi:i< 256:=by simpa [cbK]using hi
  rw[z1i (by rw[z2a];exact hi),cbK,cbK,z0i hi,z0i hi]
  by_cases e:k=i
  · subst e;rw[if_pos rfl,if_pos (Nat.lt_succ_self k)]
  · rw[if_neg e]
    by_cases h2:i< k
    · rw[if_pos h2,if_pos (by omega)]
    · rw[if_neg h2,if_neg (by omega)]
theorem cbK_all{d:Dfa}(h:d.ok):cbK d 256=(tabD d).cell:=by
  refine z1z 0 (by rw[z2a];exact(z26 h).clen.symm) fun i hi=>?_
  have hi:i< 256:=by simpa [cbK]using hi
  have h1:=(cellN (z26 h) hi).2
  rw[zhq hi]at h1;rw[h1,cbK,z0i hi,if_pos hi]

end Go.Proofs.YtppmnaoollkboaaDoor

namespace Go.Proofs.YtppmnaoollkboaaDoor
set_option linter.all false
open Go.Ab Go.RowKit

section
variable {a b:Prop}
theorem qJc0(h:a:=by first|exact vcA|(simp[-List.reduceReplicate]<;>omega)|exact vRk|exact vRc|exact vcB):a:=h
theorem uJc_0(h:a:=by
    repeat' (first|exact pJ|exact pT|exact trivial|refine aI ?_ ?_|exact cC0|refine low_cons' ?_ ?_|exact cC1|fail)
    all_goals first|omega|(show(0:Nat)< (rt _ _ _).length;rw[z05 (z2a _ _)];decide)|(show Cont.low _ (Cont.cells (List.replicate 256 _++_));exact z3v)|exact z1b _|(show Cont.to _ _ _ _ _ _;rw[cbK_zero d];exact z69 ⟨rfl,rfl⟩ ⟨rfl,rfl⟩)|(show Cont.to _ _ _ _ _ _;exact rt_toE (z2a _ _) hset.1 hset.2 ⟨rfl,rfl⟩ ⟨rfl,rfl⟩)|(show(0:Nat)< (z02 _ _ _ _).length;rw[z00 hcl];decide)|(simp[-List.reduceReplicate];done)|(simp[-List.reduceReplicate]<;>omega)|skip):a:=h
theorem DJc_0(kZ:b)(h:HidB b→a:=by intro kZ;(repeat first|refine aI qJc0 ?_|refine z04 qJc0 ?_|refine z03 qJc0 ?_|refine z0m qJc0 ?_|refine z0c ?_);exact kZ.out):a:=h ⟨kZ⟩
theorem zdc(kZ:b)(h:HidB b→a:=by intro kZ;refine sX ?_;refine DJc_0 ?_;refine exI ?_;exact kZ.out):a:=h ⟨kZ⟩
theorem zr5(kZ:b)(h:HidB b→a:=by intro kZ;refine sX0 ?_;refine DJc_0 ?_;refine exI ?_;exact kZ.out):a:=h ⟨kZ⟩
theorem y0y(kZ:b)(h:HidB b→a:=by intro kZ;refine sX ?_;refine DJc_0 ?_;exact kZ.out):a:=h ⟨kZ⟩
end
open Go.Aut
attribute [local irreducible] z0s z12 zl z02 z11 putB rt rzl cbK
noncomputable def gj2:Ctx:={ P:=Tryd.prog,ty:=ty,glob:=gl,fs:=[(145,.flat y0u)] }
theorem zfn:gj2.OK:=⟨tyOK,⟨⟨z08 Tryd.func145 kR rfl,y0v⟩,trivial⟩,mixed⟩
@[simp] theorem gj2_ty:gj2.ty=ty:=rfl

def ofRS:QSpec:=fun vs K=>∃ d:Dfa,vs=[dfaV d]∧d.ok∧K (rtV (tabD d))
theorem zty:z1w Tryd.prog gl 96 ofRS:=by
 refine z1c (Γ:=gj2) (N:=22) Tryd.func96 rfl rfl fun vs K h=>?_;obtain⟨d,rfl,hok,h⟩:=h;refine⟨_,h,zkf _,by simp,fun w I=>?_⟩
 have hclen:=hok.clen
 have hc256:=hok.cmax
 refine srR zfn fun _ K2=>?_
 iterate 2 refine zdc ?_
 refine s_n K2 ?_;refine srR zfn fun _ K4=>?_
 iterate 4 refine zdc ?_
 refine y0y ?_;refine exA (.agg (.cells (rt z12 (.ds d.next.length (.cells (rowsC d.next))) (.ds d.acc.length (.bools d.acc))))) (as_eq (congrArg (fun l=>SV.agg (Cont.cells l)) (y0x _ _))) ?_;refine zdc ?_;refine zr5 ?_;refine s_n K4 ?_;refine seq_k fun _ K5=>?_;refine srR zfn fun _ K7=>?_;refine zdc ?_;refine s_n K7 ?_;refine z07 ?_;refine z0q (α:=Nat) (fun k=>[(1,.c (.dp (dfaC d) 0)),(2,.c (.ptr 0 0)),(3,.c (.ptr 1 0)),(4,.c (.int .i64 (k:Nat)))]) (fun k=>[(0,.own 111 (.cells rzl) 258),(1,.own 111 (.cells (rt (cbK d k) (.ds d.next.length (.cells (rowsC d.next))) (.ds d.acc.length (.bools d.acc)))) 258)]) 2 (fun k=>k≤256) (fun k=>256 - k) ?_ ?_
 ·refine dnS [0] (fun i=>i+1) 0 (Nat.zero_le _) [1,2] uJc_0 uJc_0 uJc_0 uJc_0
 ·intro k hk
  refine seq_k fun _ K8=>?_;refine srR zfn fun _ K10=>?_
  iterate 2 refine zdc ?_
  refine s_n K10 ?_;refine z09 (b:=_) rfl (fun h_t11=>?_) (fun h_t11=>?_)
  ·try simp only[dQ,reduceIte]at h_t11
   refine z0b ?_;apply K8;refine seq_k fun _ K11=>?_;refine z07 ?_
   have hk256:k< 256:=by omega
   have hset:(0+0+((k:Nat):Int).toNat*1)< 256∧(cbK d k).set (0+0+((k:Nat):Int).toNat*1) (cellD d k:Nat)=cbK d (k+1):=by
    have e:(0+0+((k:Nat):Int).toNat*1)=k:=by omega
    rw[e];exact⟨hk256,cbK_set d hk256⟩
   refine z06 zfn fun _ K12=>?_
   iterate 4 refine zdc ?_
   refine y0y ?_;refine⟨d,k,rfl,⟨hok,hk256⟩,?_⟩;refine DJc_0 ?_
   first|refine exI ?_|(intro cap4 hcap4;refine exI ?_)
   iterate 2 refine zdc ?_
   refine zr5 ?_;refine s_n K12 ?_;refine z0a ?_;apply K11;refine z06 zfn fun _ K13=>?_
   iterate 3 refine zdc ?_
   refine s_n K13 ?_;refine dnS [] id (k+1) ⟨by omega,by omega⟩ [0,1] uJc_0 uJc_0 uJc_0 uJc_0
  ·try simp only[dQ,reduceIte]at h_t11
   refine z0o ?_;refine z01 ?_;refine z01 ?_;refine z0j ?_;apply K5;refine srR zfn fun _ K15=>?_;refine zdc ?_;refine zr5 ?_;refine s_n K15 ?_
   obtain rfl:k=256:=by omega
   have hca:=cbK_all hok
   refine z0g (z0k zfn (fun _ _ h=>h) (zkf _) [] [.cell 2 111] rfl ?_)
   repeat first|refine aI (by first|omega|exact trivial|rfl|exact vRk) ?_|refine z04 (z05 (z2a _ _)) ?_|refine z03 (by rw[z13];exact(z05 (z2a _ _)).symm) ?_
   repeat' (first|exact pJ|exact pT|exact trivial|refine aI ?_ ?_|exact cC0|refine low_cons' ?_ ?_|exact cC1|fail)
   all_goals first|omega|(show(0:Nat)< (rt _ _ _).length;rw[z05 (z2a _ _)];decide)|(show Cont.low _ (Cont.cells (List.replicate 256 _++_));exact z3v)|(show allTo _ _ _;rw[hca];exact z69 ⟨rfl,rfl⟩ ⟨rfl,rfl⟩)|(rw[hca];exact z69 ⟨rfl,rfl⟩ ⟨rfl,rfl⟩)|(show(0:Nat)< (z02 _ _ _ _).length;rw[z00 hcl];decide)|(simp[-List.reduceReplicate];done)|(simp[-List.reduceReplicate]<;>omega)|skip


end Go.Proofs.YtppmnaoollkboaaDoor

namespace Go.Proofs.YtppmnaoollkboaaDoor
set_option linter.all false
open Go.Ab Go.RowKit

section
variable {a b:Prop}
theorem qJd0(h:a:=by first|exact vcA|(simp[-List.reduceReplicate]<;>omega)|exact vRh|exact vcB):a:=h
theorem uJd_0(h:a:=by
    repeat' (first|exact pJ|exact pT|exact trivial|refine aI ?_ ?_|exact cC0|refine low_cons' ?_ ?_|exact cC1|fail)
    all_goals first|omega|(show(0:Nat)< (rt _ _ _).length;rw[z05 hcl];decide)|(show Cont.low _ (Cont.cells (List.replicate 256 _++_));exact z3v)|(show(_:Int)=_;rw[zah t hkl];done)|(simp;done)|(show(0:Nat)< (z02 _ _ _ _).length;rw[z00 hcl];decide)|(simp[-List.reduceReplicate];done)|(simp[-List.reduceReplicate]<;>omega)|skip):a:=h
theorem DJd_0(kZ:b)(h:HidB b→a:=by intro kZ;(repeat first|refine aI qJd0 ?_|refine z04 qJd0 ?_|refine z03 qJd0 ?_|refine z0m qJd0 ?_|refine z0c ?_);exact kZ.out):a:=h ⟨kZ⟩
theorem zdd(kZ:b)(h:HidB b→a:=by intro kZ;refine sX ?_;refine DJd_0 ?_;refine exI ?_;exact kZ.out):a:=h ⟨kZ⟩
theorem zkg(kZ:b)(h:HidB b→a:=by intro kZ;refine qX ?_;refine DJd_0 ?_;refine exI ?_;exact kZ.out):a:=h ⟨kZ⟩
theorem y0z(kZ:b)(h:HidB b→a:=by intro kZ;refine dX ?_;refine DJd_0 ?_;refine exI ?_;exact kZ.out):a:=h ⟨kZ⟩
theorem ziy(kZ:b)(h:HidB b→a:=by intro kZ;refine qX ?_;refine DJd_0 ?_;exact kZ.out):a:=h ⟨kZ⟩
theorem sXEJd_5(kZ:b)(h:HidB b→a:=by intro kZ;refine sX ?_;refine DJd_0 ?_;exact kZ.out):a:=h ⟨kZ⟩
theorem y10(kZ:b)(h:HidB b→a:=by intro kZ;refine gX ?_;refine DJd_0 ?_;exact kZ.out):a:=h ⟨kZ⟩
theorem dXEJd_7(kZ:b)(h:HidB b→a:=by intro kZ;refine dX ?_;refine DJd_0 ?_;exact kZ.out):a:=h ⟨kZ⟩
end
open Go.Aut
theorem cnt_ge{cls:List UInt64}{b nc:Nat}(hb:b< 256):∀ k,(∀ x,x< k→hasC cls x b=false)→cntK cls b k=0
  |0,_=>rfl
  |k+1,h=>by rw[cntK,zbb hb,h k (Nat.lt_succ_self k),cnt_ge (nc:=nc) hb k fun x hx=>h x (by omega)];rfl
theorem zmb{cls:List UInt64}{b:Nat}{j:Nat}:∀ k,j≤k→cntK cls b j≤cntK cls b k
  |0,h=>by rw[Nat.le_zero.1 h];exact Nat.le_refl _
  | k +1,h=>by
    rcases Nat.lt_or_eq_of_le h with h1|rfl
    · have:=zmb (cls:=cls) (b:=b) (j:=j) k (by omega)
      rw[cntK];split<;>omega
    · exact Nat.le_refl _
theorem y11{cls:List UInt64}{b x y nc:Nat}(hb:b< 256)(hxy:x< y)(hy:y< nc)(h1:hasC cls x b=true)(h2:hasC cls y b=true):2≤cntK cls b nc:=by
  have a1:1≤cntK cls b (x+1):=by rw[cntK,zbb hb,h1];simp
  have a2:=zmb (cls:=cls) (b:=b) (j:=x+1) y (by omega)
  have a3:cntK cls b (y+1)=cntK cls b y+1:=by rw[cntK,zbb hb,h2];rfl
  have a4:=zmb (cls:=cls) (b:=b) (j:=y+1) nc (by omega)
  omega
theorem zfo {d:Dfa} (hw:d.wf) (h:z7a d=true):d.good:=by
  rw[z7a,zap,partR]at h
  simp only[Bool.and_eq_true,decide_eq_true_eq,List.all_eq_true]at h
  obtain⟨h64,⟨⟨h1,ha⟩,⟨⟨hc1,hc2⟩,hnz⟩,hone⟩,hrows⟩:=h;refine⟨⟨hw.1,h1,ha,hc1,hc2,fun b hb=>?_,fun c hc=>?_,fun r hr=>zhz.1 (hrows r hr)⟩,h64⟩
  · have h2:cntK d.cls b d.nc=1:=of_decide_eq_true (hone b (List.mem_range.2 hb))
    have hex:∃ c,c< d.nc∧hasC d.cls c b=true:=by
      refine Classical.byContradiction fun hn=>?_
      have:=cnt_ge (cls:=d.cls) (nc:=d.nc) hb d.nc fun x hx=>by
        rw[←Bool.not_eq_true];exact fun e=>hn ⟨x,hx,e⟩
      omega
    obtain⟨c,hc,hcb⟩:=hex;refine⟨c,hc,fun x hx=>⟨fun hxb=>?_,fun e=>by rw[e];exact hcb⟩⟩
    rcases Nat.lt_trichotomy x c with h3|h3|h3
    · have:=y11 hb h3 hc hxb hcb;omega
    · exact h3
    · have:=y11 hb h3 hx hcb hxb;omega
  · have h2:=hnz c (List.mem_range.2 hc)
    rw[nzB,Bool.not_eq_true',decide_eq_false_iff_not]at h2;refine Classical.byContradiction fun hn=>h2 (zsu (z31 hw.1 hc) rfl fun x hx=>?_);rw[zad hx,z5i, ←Bool.not_eq_true];exact fun e=>hn ⟨x,hx,e⟩
theorem zmc{t:Tab}{x:Cell}(hx:x∈rt t.cell (.ds t.next.length (.cells (rowsC t.next))) (.ds t.acc.length (.bools t.acc))):(∃ v,x= .int .i64 v)∨x= .ds t.next.length (.cells (rowsC t.next))∨x= .ds t.acc.length (.bools t.acc):=by
  rcases List.mem_append.1 hx with h|h
  · obtain⟨v,_,rfl⟩:=List.mem_map.1 h;exact .inl ⟨v,rfl⟩
  · rcases List.mem_cons.1 h with rfl|h
    · exact .inr (.inl rfl)
    · exact .inr (.inr (List.mem_singleton.1 h))
theorem z33(t:Tab):∀ x∈rt t.cell (.ds t.next.length (.cells (rowsC t.next))) (.ds t.acc.length (.bools t.acc)),∀ g cs,x≠Cell.clo g cs:=fun x hx g cs=>by
  rcases zmc hx with⟨v,rfl⟩|rfl|rfl<;>intro e<;>cases e
theorem z48{ty:Nat→Ty}{H:Heap}(t:Tab){K:List Cell→Prop}(h:K (rt t.cell (.ds t.next.length (.cells (rowsC t.next))) (.ds t.acc.length (.bools t.acc)))):viewL ty H (rt t.cell (.ds t.next.length (.cells (rowsC t.next))) (.ds t.acc.length (.bools t.acc))) K:=
  zed (fun x hx=>by rcases zmc hx with⟨v,rfl⟩|rfl|rfl<;>rfl) h
theorem z6o(t:Tab)(l:List SV):List.flatMap SV.ids (rtV t::l)=List.flatMap SV.ids l:=by
  rw[List.flatMap_cons,zlx fun x hx=>by rcases zmc hx with⟨v,rfl⟩|rfl|rfl;exact .inl ⟨v,rfl⟩;exact .inr ⟨_,_,rfl⟩;exact .inr ⟨_,_,rfl⟩];rfl
attribute [local irreducible] z0s z12 zl z02 z11 putB rt rzl cbK
def y12:QSpec:=fun vs K=>∃ (t:Tab) (x:List UInt8),vs=[rtV t,.c (.int .i64 0),.c (.ds x.length (.u8s x))]∧(t.ok∧x.length≤9223372036854775807)∧K (.c (.int .i64 (stAt t x x.length:Nat)))
theorem y13:z19 Tryd.prog gl 109 y12:=by
 refine z1d (Γ:=g0) (N:=29) Tryd.func109 rfl rfl fun vs K h=>?_;obtain⟨t,x,rfl,⟨hok,hx⟩,h⟩:=h;refine⟨_,h,rfl,by simp,fun w I=>?_⟩
 have hcl:=hok.clen
 refine srR g0_ok fun _ K2=>?_
 iterate 2 refine zdd ?_
 refine s_n K2 ?_;refine seq_k fun _ K3=>?_;refine srR g0_ok fun _ K5=>?_;refine zdd ?_;refine s_n K5 ?_;refine z07 ?_;refine z0q (α:=Nat) (fun k=>[(2,.c (.ds x.length (.u8s x))),(3,.c (.dp (rtC t) 0)),(1,.c (.int .i64 (stAt t x k:Nat))),(7,.c (.int .i64 (k:Nat)))]) (fun k=>[]) 0 (fun k=>k≤x.length) (fun k=>x.length - k) ?_ ?_
 ·refine dnS [0] id 0 (Nat.zero_le _) [] uJd_0 uJd_0 uJd_0 uJd_0
 ·intro k hk
  refine seq_k fun _ K6=>?_;refine srR g0_ok fun _ K8=>?_
  iterate 4 refine zdd ?_
  refine s_n K8 ?_;refine z09 (b:=_) rfl (fun h_t11=>?_) (fun h_t11=>?_)
  ·try simp only[dQ,reduceIte]at h_t11
   refine z0b ?_;apply K6;refine seq_k fun _ K9=>?_;refine z07 ?_
   have hkl:k< x.length:=by omega
   have hs:=zi2 hok k (by omega)
   have hb:=cellN hok (UInt8.toNat_lt (x.getD k 0))
   have hxn:=nextN hok hs hb.1
   have hr:=z5a hok hs
   have hbt:(x.getD ((k:Int).toNat*1) 0).toNat< 256:=UInt8.toNat_lt _
   have hb2:(tblT t).cell (x.getD k 0).toNat< t.nc:=hb.1
   have hbt2:(x.getD k 0).toNat< 256:=UInt8.toNat_lt _
   refine zkv g0_ok kR fun _ K10=>?_;refine zkg ?_;refine ziy ?_;refine exA (.c (.ds t.next.length (.cells (rowsC t.next)))) (as_c (rt_nx hcl)) ?_
   iterate 2 refine zkg ?_
   refine ziy ?_;refine exA (.c (.ds (t.next.getD (stAt t x k) []).length (.ints .i64 (t.next.getD (stAt t x k) [])))) (as_c (z4n ⟨hs,by omega⟩)) ?_
   iterate 3 refine zkg ?_
   refine ziy ?_;refine exA (.c (.u8 (x.getD k 0))) (as_eq (congrArg (fun v=>SV.c (Cell.u8 v)) (congrArg (fun i=>x.getD i 0) (by omega)))) ?_
   iterate 2 refine zkg ?_
   refine ziy ?_;refine exA (.c (.int .i64 (((tblT t).cell (x.getD k 0).toNat:Nat):Int))) (as_c ((z54 hcl (by first|omega|(simp;done)) (UInt8.toNat_lt _)).trans (congrArg (Cell.int IntKind.i64) (cellN hok (UInt8.toNat_lt _)).2))) ?_;refine zkg ?_;refine ziy ?_;refine exA (.c (.int .i64 ((stAt t x (k+1):Nat):Int))) (as_i (by rw[zah t hkl, ←hxn.2];congr 1;omega)) ?_;refine zkg ?_;refine q_n K10 ?_;refine z0a ?_;apply K9;refine z06 g0_ok fun _ K11=>?_
   iterate 3 refine zdd ?_
   refine s_n K11 ?_;refine dnS [] id (k+1) ⟨by omega,by omega⟩ [] uJd_0 uJd_0 uJd_0 uJd_0
  ·try simp only[dQ,reduceIte]at h_t11
   refine z0o ?_;refine z01 ?_;refine z01 ?_;refine z0j ?_;apply K3
   obtain rfl:k=x.length:=by omega
   refine srR g0_ok fun _ K13=>?_
   iterate 2 refine zdd ?_
   refine s_n K13 ?_;refine z0g (z0d g0_ok (fun _ _ h=>h) (by first|rfl|assumption) [.tmp 6] rfl ?_);refine rtD ?_
   rfl

noncomputable def gj3:Ctx:={ P:=Tryd.prog,ty:=ty,glob:=gl,fs:=[(32,.flat zba),(96,.data ofRS),(109,.flat y12)] }
theorem zkh:gj3.OK:=⟨tyOK,⟨⟨z08 Tryd.func32 kR rfl,z8p⟩,⟨z08 Tryd.func96 kR rfl,zty⟩,⟨z08 Tryd.func109 kR rfl,y13⟩,trivial⟩,mixed⟩
@[simp] theorem gj3_ty:gj3.ty=ty:=rfl

def zde(d:Dfa)(w:List UInt8):Bool:=z7a d&&langD d (wN w)
def zos:QSpec:=fun vs K=>∃ (d:Dfa) (x:List UInt8),vs=[dfaV d,.c (.ds x.length (.u8s x))]∧(d.wf∧x.length≤9223372036854775807)∧K (.c (.bool (zde d x)))
theorem zr6:z19 Tryd.prog gl 51 zos:=by
 refine z1d (Γ:=gj3) (N:=16) Tryd.func51 rfl rfl fun vs K h=>?_;obtain⟨d,x,rfl,⟨hw,hwl⟩,h⟩:=h;refine⟨_,h,rfl,by simp,fun w I=>?_⟩;refine srR zkh fun _ K2=>?_
 iterate 2 refine zdd ?_
 refine s_n K2 ?_;refine seq_k fun _ K3=>?_;refine srR zkh fun _ K5=>?_;refine zdd ?_;refine sXEJd_5 ?_;refine⟨d,rfl,hw,?_⟩;refine DJd_0 ?_
 first|refine exI ?_|(intro cap1 hcap1;refine exI ?_)
 refine zdd ?_;refine s_n K5 ?_;refine z09 (b:=_) rfl (fun h_t7=>?_) (fun h_t7=>?_)
 ·try simp only[dQ,reduceIte]at h_t7
  refine srR zkh fun _ K7=>?_;refine zdd ?_;refine s_n K7 ?_;refine z0g (z0d zkh (fun _ _ h=>h) (by first|rfl|assumption) [.tmp 4] rfl ?_);refine rtD ?_
  show SV.c (.bool false)=_
  rw[zde,show z7a d=false by simpa using h_t7,Bool.false_and]
 ·try simp only[dQ,reduceIte]at h_t7
  refine z0b ?_;apply K3
  have hv:z7a d=true:=by simpa using h_t7
  have hg:=zfo hw hv
  have hok:=z26 hg.1
  have hcl:=hok.clen
  have hs:=zi2 hok (w:=x) x.length (Nat.le_refl _)
  have hal:d.acc.length=d.next.length:=hg.1.alen
  have hs2:stAt (tabD d) x x.length< d.next.length:=hs
  refine srD zkh [(0,true),(1,true),(2,true),(4,true),(3,false),(5,false),(6,true),(7,true),(8,true)] rfl kR kR fun _ K9=>?_
  iterate 4 refine y0z ?_
  refine y10 ?_;refine⟨d,rfl,hg.1,?_⟩;refine DJd_0 ?_
  first|refine exI ?_|(intro cap3 hcap3;refine exI ?_)
  refine y10 ?_;refine aI (z33 (tabD d)) ?_;refine z48 (tabD d) ?_;refine⟨tabD d,x,rfl,⟨hok,hwl⟩,?_⟩;refine DJd_0 ?_
  first|refine exI ?_|(intro cap5 hcap5;refine exI ?_)
  refine y0z ?_;refine dXEJd_7 ?_;refine exA (.c (.bool (langD d (wN x)))) (as_b (by rw[←zsz, ←zsy];show d.acc.getD _ false=d.acc.getD _ false;congr 1;omega)) ?_;refine y0z ?_;refine d_n K9 ?_;refine z0g (z0d zkh (fun _ _ h=>h) (by first|rfl|assumption) [.tmp 4] rfl ?_);refine rtD ?_
  show SV.c (.bool _)=_
  rw[zde,hv,Bool.true_and]


end Go.Proofs.YtppmnaoollkboaaDoor
