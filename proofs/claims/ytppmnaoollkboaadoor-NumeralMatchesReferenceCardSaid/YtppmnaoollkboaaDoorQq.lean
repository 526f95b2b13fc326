/- Contracts of functions and plain facts, part 17. -/
import Derived.Test.YtppmnaoollkboaaDoorQm
import Derived.Test.YtppmnaoollkboaaDoorQd
import Derived.Test.YtppmnaoollkboaaDoorQh
set_option maxHeartbeats 1000000
set_option maxRecDepth 4000
namespace Go.Proofs.YtppmnaoollkboaaDoor
set_option linter.all false
open Go.Ab Go.RowKit

section
variable {a b:Prop}
theorem qJa0(h:a:=by first|exact vcA|(simp<;>omega)|exact⟨by omega,by omega⟩|(simp only[z4n];omega)|(show(clsAt _ _).length=4;exact hcd)|exact hcd|exact vcB):a:=h
theorem uJa_0(h:a:=by
    repeat' (first|exact pT|exact trivial|refine aI ?_ ?_|exact cC0|refine low_cons' ?_ ?_|exact cC1|fail)
    all_goals first|omega|exact z2w _|(simp;done)|(show(0:Nat)< (z08 _ _ _ _).length;rw[z06 hcl];decide)|(simp[-List.reduceReplicate];done)|(simp[-List.reduceReplicate]<;>omega)|skip):a:=h
theorem DJa_0(kZ:b)(h:HidB b→a:=by intro kZ;(repeat first|refine aI qJa0 ?_|refine z0a qJa0 ?_|refine z07 qJa0 ?_|refine z0l qJa0 ?_|refine z0c ?_);exact kZ.out):a:=h ⟨kZ⟩
theorem ze4(kZ:b)(h:HidB b→a:=by intro kZ;refine sX ?_;refine DJa_0 ?_;refine exI ?_;exact kZ.out):a:=h ⟨kZ⟩
theorem zyq(kZ:b)(h:HidB b→a:=by intro kZ;refine sX ?_;refine DJa_0 ?_;exact kZ.out):a:=h ⟨kZ⟩
end
open Go.Aut
attribute [local irreducible] z0o z0y zl z08 z0v putB
noncomputable def gj1:Ctx:={ P:=Tryd.prog,ty:=ty,glob:=gl,fs:=[(34,.flat zp4)] }
theorem ze5:gj1.OK:=⟨tyOK,⟨⟨z0b Tryd.func34 kR rfl,zmk⟩,trivial⟩,mixed⟩
@[simp] theorem gj1_ty:gj1.ty=ty:=rfl

def zyr:QSpec:=fun vs K=>∃ (d:Dfa) (b:Nat),vs=[.c (.ds d.nc (.u64s d.cls)),.c (.int .i64 (b:Nat))]∧(d.ok∧b< 256)∧K (.c (.int .i64 (cellD d b:Nat)))
theorem zys:z1s Tryd.prog gl 145 zyr:=by
 refine z1r (Γ:=gj1) (N:=19) Tryd.func145 rfl rfl fun vs K h=>?_;obtain⟨d,b,rfl,⟨hok,hb⟩,h⟩:=h;refine⟨_,h,rfl,by simp,fun w I=>?_⟩
 have hnc:=hok.cmax
 have hcl4:=hok.clen
 refine srR ze5 fun _ K2=>?_;refine ze4 ?_;refine s_n K2 ?_;refine seq_k fun _ K3=>?_;refine srR ze5 fun _ K5=>?_;refine ze4 ?_;refine s_n K5 ?_;refine z03 ?_;refine z0m (α:=Nat) (fun i=>[(0,.c (.ds d.nc (.u64s d.cls))),(1,.c (.int .i64 (b:Nat))),(5,.c (.int .i64 (i:Nat)))]) (fun i=>[]) 0 (fun i=>i≤d.nc∧∀ x,x< i→hasC d.cls x b=false) (fun i=>d.nc - i) ?_ ?_
 ·refine dnS [] id 0 ⟨Nat.zero_le _,fun x hx=>absurd hx (Nat.not_lt_zero x)⟩ [] uJa_0 uJa_0 uJa_0 uJa_0
 ·intro i hi
  refine seq_k fun _ K6=>?_;refine srR ze5 fun _ K8=>?_
  iterate 4 refine ze4 ?_
  refine s_n K8 ?_;refine z04 (b:=_) rfl (fun h_t9=>?_) (fun h_t9=>?_)
  ·try simp only[dQ,reduceIte]at h_t9
   refine z09 ?_;apply K6;refine seq_k fun _ K9=>?_;refine z03 ?_
   have hin:i< d.nc:=by omega
   have hcd:=z2s hok.clen hin
   refine srR ze5 fun _ K11=>?_
   iterate 3 refine ze4 ?_
   refine zyq ?_;refine exA (.agg (.u64s (clsAt d.cls i))) (as_eq rfl) ?_;refine ze4 ?_;refine zyq ?_;refine⟨clsAt d.cls i,b,rfl,⟨hcd,hb⟩,?_⟩;refine DJa_0 ?_
   first|refine exA (.c (.bool (hasC d.cls i b))) (as_b (zrg hb)) ?_|(intro cap5 hcap5;refine exA (.c (.bool (hasC d.cls i b))) (as_b (zrg hb)) ?_)
   refine s_n K11 ?_;refine z04 (b:=_) rfl (fun h_t17=>?_) (fun h_t17=>?_)
   ·refine srR ze5 fun _ K13=>?_
    iterate 2 refine ze4 ?_
    refine s_n K13 ?_;refine z0e (z0d ze5 (fun _ _ h=>h) (by first|rfl|assumption) [.tmp 4] rfl ?_);refine rtD ?_
    show SV.c (.int .i64 _)=_
    rw[(zbj hok hb hin).2 h_t17]
   ·refine z09 ?_;refine z05 ?_;apply K9;refine z01 ze5 fun _ K14=>?_
    iterate 3 refine ze4 ?_
    refine s_n K14 ?_;refine dnS [] id (i+1) ⟨⟨by omega,fun x hx=>(Nat.lt_succ_iff_lt_or_eq.1 hx).elim (hi.2 x) fun e=>by rw[e];simpa using h_t17⟩,by omega⟩ [] ?_ ?_ ?_ ?_
    ·exact uJa_0
    ·exact uJa_0
    ·exact uJa_0
    ·exact uJa_0
  ·try simp only[dQ,reduceIte]at h_t9
   refine z0i ?_;refine z00 ?_;refine z00 ?_;refine z0f ?_;apply K3;refine srR ze5 fun _ K16=>?_;refine ze4 ?_;refine s_n K16 ?_
   exfalso
   obtain⟨x,hx,hxx⟩:=hok.part b hb
   have h1:=(hxx x hx).2 rfl
   have h2:=hi.2 x (by omega)
   rw[h2]at h1;cases h1


end Go.Proofs.YtppmnaoollkboaaDoor

namespace Go.Proofs.YtppmnaoollkboaaDoor
set_option linter.all false
open Go.Ab Go.RowKit

open Go.Aut
def rt(cell:List Int)(x y:Cell):List Cell:=cell.map (Cell.int .i64)++[x,y]
abbrev rtC(t:Tab):Cont:=.cells (rt t.cell (.ds t.next.length (.cells (rowsC t.next))) (.ds t.acc.length (.bools t.acc)))
abbrev rtV(t:Tab):SV:=.agg (rtC t)
theorem z02{cell:List Int}{x y:Cell}(h:cell.length=256):(rt cell x y).length=258:=by simp[rt,h]
theorem zav{cell:List Int}{x y:Cell}(h:cell.length=256){b i:Nat}(hi:i=b)(hb:b< 256):(Cont.cells (rt cell x y)).get i= .int .i64 (cell.getD b 0):=by
  subst hi
  show(rt cell x y).getD i .nils=_
  rw[rt,List.getD_eq_getElem?_getD,List.getElem?_append_left (by simpa [h]using hb),List.getElem?_map,at_of (d:=0) (by omega)];rfl
theorem zk8{cell:List Int}{x y:Cell}(h:cell.length=256)(j:Nat):(Cont.cells (rt cell x y)).get (256+j)=[x,y].getD j .nils:=by
  show(rt cell x y).getD (256+j) .nils=_
  rw[rt,List.getD_eq_getElem?_getD,List.getElem?_append_right (by simp[h]),List.getD_eq_getElem?_getD]
  congr 2;simp[h]
theorem rt_nx{t:Tab}(h:t.cell.length=256):(rtC t).get (0+256)= .ds t.next.length (.cells (rowsC t.next)):=by rw[Nat.zero_add,zk8 h 0];rfl
theorem rt_ac{t:Tab}(h:t.cell.length=256):(rtC t).get (0+257)= .ds t.acc.length (.bools t.acc):=by rw[Nat.zero_add,zk8 h 1];rfl
theorem rt_set{cell:List Int}{x y:Cell}(h:cell.length=256){b:Nat}(hb:b< 256)(v:Int):(rt cell x y).set b (.int .i64 v)=rt (cell.set b v) x y:=by
  rw[rt,rt,List.set_append_left _ _ (by simpa [h]using hb),List.map_set]
theorem zn4{cell:List Int}{n:Nat}{x y:Cell}(hx:x.low n)(hy:y.low n):(Cont.cells (rt cell x y)).low n:=fun z hz=>by
  rcases List.mem_append.1 hz with hz|hz
  · obtain⟨v,_,rfl⟩:=List.mem_map.1 hz;trivial
  · rcases List.mem_cons.1 hz with rfl|hz
    · exact hx
    · rw[List.mem_singleton.1 hz];exact hy
theorem zry(t:Tab){n:Nat}:(rtC t).low n:=zn4 trivial trivial
theorem z3t{cell:List Int}{x y:Cell}(hx:x.solid)(hy:y.solid):z5e (rt cell x y):=zm8 (zct _) ⟨hx,hy,trivial⟩
theorem allD_rt(t:Tab):allD (rt t.cell (.ds t.next.length (.cells (rowsC t.next))) (.ds t.acc.length (.bools t.acc))):=zr4 (zm7 _) ⟨trivial,trivial,trivial⟩
theorem z4u{ty:Nat→Ty}{H:Heap}{is:List Nat}{ρ:Nat→Nat}{cell:List Int}{x y x' y':Cell}(hx:Cell.to ty H is ρ x x')(hy:Cell.to ty H is ρ y y'):allTo (Cell.to ty H is ρ) (rt cell x y) (rt cell x' y'):=
  z65 (zhy _) ⟨hx,hy,trivial⟩
theorem zyt{ty:Nat→Ty}{H:Heap}{is:List Nat}{ρ:Nat→Nat}{cell cell':List Int}{x y x' y':Cell}{n:Nat}{v:Int}(hc:cell.length=256)(hn:n< 256)(e:cell.set n v=cell')(hx:Cell.to ty H is ρ x x')(hy:Cell.to ty H is ρ y y'):allTo (Cell.to ty H is ρ) ((rt cell x y).set n (.int .i64 v)) (rt cell' x' y'):=by
  rw[rt_set hc hn,e];exact z4u hx hy
def rzl:List Cell:=List.replicate 256 (Cell.int .i64 0)++List.replicate 2 .nils
theorem z11:rzl.length=258:=by rw[rzl,List.length_append,List.length_replicate,List.length_replicate]
theorem zyu{ty:Nat→Ty}{H:Heap}{is:List Nat}{ρ:Nat→Nat}:allTo (Cell.to ty H is ρ) (List.replicate 256 (Cell.int .i64 0)++List.replicate 2 .nils) rzl:=z65 (z7r (x:=.int .i64 0) ⟨rfl,rfl⟩ _) (z7r (x:=.nils) (by first|exact trivial|exact⟨rfl,rfl⟩|exact rfl) _)
theorem rzl_to{ty:Nat→Ty}{H:Heap}{is:List Nat}{ρ:Nat→Nat}:allTo (Cell.to ty H is ρ) rzl rzl:=zyu
theorem z5a{n:Nat}:(Cont.cells rzl).low n:=fun x hx=>by
  rcases List.mem_append.1 hx with h|h
  · rw[(List.mem_replicate.1 h).2];trivial
  · rw[(List.mem_replicate.1 h).2];trivial
theorem rt0_eq(x y:Cell):List.replicate 256 (Cell.int .i64 0)++[x,y]=rt z0y x y:=by rw[rt,z0y,List.map_replicate]
theorem zyv(x y:Cell):((Cont.cells (List.replicate 256 (Cell.int .i64 0)++List.replicate 2 .nils)).sub 0 256).list++([x]++([y]++[]))=rt z0y x y:=by
  rw[←rt0_eq]
  show List.take 256 (List.drop 0 (List.replicate 256 _++List.replicate 2 _))++_=_
  rw[List.drop_zero,List.take_append_of_le_length (by rw[List.length_replicate];decide),List.take_replicate]
  rfl
def cbK(d:Dfa)(k:Nat):List Int:=(List.range 256).map fun b=>if b< k then(cellD d b:Int)else 0
theorem z22(d:Dfa)(k:Nat):(cbK d k).length=256:=by simp[cbK]
theorem cbK_zero(d:Dfa):z0y=cbK d 0:=by simp[cbK,z0y,List.map_const']
theorem cbK_set(d:Dfa){k:Nat}(h:k< 256):(cbK d k).set k (cellD d k:Int)=cbK d (k+1):=by
  refine z1j 0 (by simp[cbK]) fun i hi=>?_
  have hi:i< 256:=by simpa [cbK]using hi
  rw[z19 (by rw[z22];exact hi),cbK,cbK,z0j hi,z0j hi]
  by_cases e:k=i
  · subst e;rw[if_pos rfl,if_pos (Nat.lt_succ_self k)]
  · rw[if_neg e]
    by_cases h2:i< k
    · rw[if_pos h2,if_pos (by omega)]
    · rw[if_neg h2,if_neg (by omega)]
theorem cbK_all{d:Dfa}(h:d.ok):cbK d 256=(tabD d).cell:=by
  refine z1j 0 (by rw[z22];exact(z2t h).clen.symm) fun i hi=>?_
  have hi:i< 256:=by simpa [cbK]using hi
  have h1:=(cellN (z2t h) hi).2
  rw[zg1 hi]at h1;rw[h1,cbK,z0j hi,if_pos hi]

end Go.Proofs.YtppmnaoollkboaaDoor

namespace Go.Proofs.YtppmnaoollkboaaDoor
set_option linter.all false
open Go.Ab Go.RowKit

section
variable {a b:Prop}
theorem qJc0(h:a:=by first|exact vcA|(simp[-List.reduceReplicate]<;>omega)|exact vRk|exact vRc|exact vcB):a:=h
theorem uJc_0(h:a:=by
    repeat' (first|exact pJ|exact pT|exact trivial|refine aI ?_ ?_|exact cC0|refine low_cons' ?_ ?_|exact cC1|fail)
    all_goals first|omega|(show(0:Nat)< (rt _ _ _).length;rw[z02 (z22 _ _)];decide)|(show Cont.low _ (Cont.cells (List.replicate 256 _++_));exact z5a)|exact z2w _|(show Cont.to _ _ _ _ _ _;rw[cbK_zero d];exact z4u ⟨rfl,rfl⟩ ⟨rfl,rfl⟩)|(show Cont.to _ _ _ _ _ _;exact zyt (z22 _ _) hset.1 hset.2 ⟨rfl,rfl⟩ ⟨rfl,rfl⟩)|(show(0:Nat)< (z08 _ _ _ _).length;rw[z06 hcl];decide)|(simp[-List.reduceReplicate];done)|(simp[-List.reduceReplicate]<;>omega)|skip):a:=h
theorem DJc_0(kZ:b)(h:HidB b→a:=by intro kZ;(repeat first|refine aI qJc0 ?_|refine z0a qJc0 ?_|refine z07 qJc0 ?_|refine z0l qJc0 ?_|refine z0c ?_);exact kZ.out):a:=h ⟨kZ⟩
theorem zcb(kZ:b)(h:HidB b→a:=by intro kZ;refine sX ?_;refine DJc_0 ?_;refine exI ?_;exact kZ.out):a:=h ⟨kZ⟩
theorem zpk(kZ:b)(h:HidB b→a:=by intro kZ;refine sX0 ?_;refine DJc_0 ?_;refine exI ?_;exact kZ.out):a:=h ⟨kZ⟩
theorem zyw(kZ:b)(h:HidB b→a:=by intro kZ;refine sX ?_;refine DJc_0 ?_;exact kZ.out):a:=h ⟨kZ⟩
end
open Go.Aut
attribute [local irreducible] z0o z0y zl z08 z0v putB rt rzl cbK
noncomputable def gj2:Ctx:={ P:=Tryd.prog,ty:=ty,glob:=gl,fs:=[(145,.flat zyr)] }
theorem ze6:gj2.OK:=⟨tyOK,⟨⟨z0b Tryd.func145 kR rfl,zys⟩,trivial⟩,mixed⟩
@[simp] theorem gj2_ty:gj2.ty=ty:=rfl

def ofRS:QSpec:=fun vs K=>∃ d:Dfa,vs=[dfaV d]∧d.ok∧K (rtV (tabD d))
theorem ofR_ok:z1x Tryd.prog gl 96 ofRS:=by
 refine z1c (Γ:=gj2) (N:=22) Tryd.func96 rfl rfl fun vs K h=>?_;obtain⟨d,rfl,hok,h⟩:=h;refine⟨_,h,zry _,by simp,fun w I=>?_⟩
 have hclen:=hok.clen
 have hc256:=hok.cmax
 refine srR ze6 fun _ K2=>?_
 iterate 2 refine zcb ?_
 refine s_n K2 ?_;refine srR ze6 fun _ K4=>?_
 iterate 4 refine zcb ?_
 refine zyw ?_;refine exA (.agg (.cells (rt z0y (.ds d.next.length (.cells (rowsC d.next))) (.ds d.acc.length (.bools d.acc))))) (as_eq (congrArg (fun l=>SV.agg (Cont.cells l)) (zyv _ _))) ?_;refine zcb ?_;refine zpk ?_;refine s_n K4 ?_;refine seq_k fun _ K5=>?_;refine srR ze6 fun _ K7=>?_;refine zcb ?_;refine s_n K7 ?_;refine z03 ?_;refine z0m (α:=Nat) (fun k=>[(1,.c (.dp (dfaC d) 0)),(2,.c (.ptr 0 0)),(3,.c (.ptr 1 0)),(4,.c (.int .i64 (k:Nat)))]) (fun k=>[(0,.own 111 (.cells rzl) 258),(1,.own 111 (.cells (rt (cbK d k) (.ds d.next.length (.cells (rowsC d.next))) (.ds d.acc.length (.bools d.acc)))) 258)]) 2 (fun k=>k≤256) (fun k=>256 - k) ?_ ?_
 ·refine dnS [0] (fun i=>i+1) 0 (Nat.zero_le _) [1,2] uJc_0 uJc_0 uJc_0 uJc_0
 ·intro k hk
  refine seq_k fun _ K8=>?_;refine srR ze6 fun _ K10=>?_
  iterate 2 refine zcb ?_
  refine s_n K10 ?_;refine z04 (b:=_) rfl (fun h_t11=>?_) (fun h_t11=>?_)
  ·try simp only[dQ,reduceIte]at h_t11
   refine z09 ?_;apply K8;refine seq_k fun _ K11=>?_;refine z03 ?_
   have hk256:k< 256:=by omega
   have hset:(0+0+((k:Nat):Int).toNat*1)< 256∧(cbK d k).set (0+0+((k:Nat):Int).toNat*1) (cellD d k:Nat)=cbK d (k+1):=by
    have e:(0+0+((k:Nat):Int).toNat*1)=k:=by omega
    rw[e];exact⟨hk256,cbK_set d hk256⟩
   refine z01 ze6 fun _ K12=>?_
   iterate 4 refine zcb ?_
   refine zyw ?_;refine⟨d,k,rfl,⟨hok,hk256⟩,?_⟩;refine DJc_0 ?_
   first|refine exI ?_|(intro cap4 hcap4;refine exI ?_)
   iterate 2 refine zcb ?_
   refine zpk ?_;refine s_n K12 ?_;refine z05 ?_;apply K11;refine z01 ze6 fun _ K13=>?_
   iterate 3 refine zcb ?_
   refine s_n K13 ?_;refine dnS [] id (k+1) ⟨by omega,by omega⟩ [0,1] uJc_0 uJc_0 uJc_0 uJc_0
  ·try simp only[dQ,reduceIte]at h_t11
   refine z0i ?_;refine z00 ?_;refine z00 ?_;refine z0f ?_;apply K5;refine srR ze6 fun _ K15=>?_;refine zcb ?_;refine zpk ?_;refine s_n K15 ?_
   obtain rfl:k=256:=by omega
   have hca:=cbK_all hok
   refine z0e (z0g ze6 (fun _ _ h=>h) (zry _) [] [.cell 2 111] rfl ?_)
   repeat first|refine aI (by first|omega|exact trivial|rfl|exact vRk) ?_|refine z0a (z02 (z22 _ _)) ?_|refine z07 (by rw[z11];exact(z02 (z22 _ _)).symm) ?_
   repeat' (first|exact pJ|exact pT|exact trivial|refine aI ?_ ?_|exact cC0|refine low_cons' ?_ ?_|exact cC1|fail)
   all_goals first|omega|(show(0:Nat)< (rt _ _ _).length;rw[z02 (z22 _ _)];decide)|(show Cont.low _ (Cont.cells (List.replicate 256 _++_));exact z5a)|(show allTo _ _ _;rw[hca];exact z4u ⟨rfl,rfl⟩ ⟨rfl,rfl⟩)|(rw[hca];exact z4u ⟨rfl,rfl⟩ ⟨rfl,rfl⟩)|(show(0:Nat)< (z08 _ _ _ _).length;rw[z06 hcl];decide)|(simp[-List.reduceReplicate];done)|(simp[-List.reduceReplicate]<;>omega)|skip


end Go.Proofs.YtppmnaoollkboaaDoor

namespace Go.Proofs.YtppmnaoollkboaaDoor
set_option linter.all false
open Go.Ab Go.RowKit

open Go.Aut
theorem zk9{t:Tab}{x:Cell}(hx:x∈rt t.cell (.ds t.next.length (.cells (rowsC t.next))) (.ds t.acc.length (.bools t.acc))):(∃ v,x= .int .i64 v)∨x= .ds t.next.length (.cells (rowsC t.next))∨x= .ds t.acc.length (.bools t.acc):=by
  rcases List.mem_append.1 hx with h|h
  · obtain⟨v,_,rfl⟩:=List.mem_map.1 h;exact .inl ⟨v,rfl⟩
  · rcases List.mem_cons.1 h with rfl|h
    · exact .inr (.inl rfl)
    · exact .inr (.inr (List.mem_singleton.1 h))
theorem z61(t:Tab):∀ x∈rt t.cell (.ds t.next.length (.cells (rowsC t.next))) (.ds t.acc.length (.bools t.acc)),∀ g cs,x≠Cell.clo g cs:=fun x hx g cs=>by
  rcases zk9 hx with⟨v,rfl⟩|rfl|rfl<;>intro e<;>cases e
theorem z8c{ty:Nat→Ty}{H:Heap}(t:Tab){K:List Cell→Prop}(h:K (rt t.cell (.ds t.next.length (.cells (rowsC t.next))) (.ds t.acc.length (.bools t.acc)))):viewL ty H (rt t.cell (.ds t.next.length (.cells (rowsC t.next))) (.ds t.acc.length (.bools t.acc))) K:=
  z9v (fun x hx=>by rcases zk9 hx with⟨v,rfl⟩|rfl|rfl<;>rfl) h
theorem z9a(t:Tab)(l:List SV):List.flatMap SV.ids (rtV t::l)=List.flatMap SV.ids l:=by
  rw[List.flatMap_cons,zjo fun x hx=>by rcases zk9 hx with⟨v,rfl⟩|rfl|rfl;exact .inl ⟨v,rfl⟩;exact .inr ⟨_,_,rfl⟩;exact .inr ⟨_,_,rfl⟩];rfl
attribute [local irreducible] z0o z0y zl z08 z0v putB rt rzl cbK
end Go.Proofs.YtppmnaoollkboaaDoor
