/- Contracts of functions and plain facts, part 16. -/
import Derived.Test.YtpdljmohhpbkpaaDoorNn
import Derived.Test.YtpdljmohhpbkpaaDoorNd
import Derived.Test.YtpdljmohhpbkpaaDoorNh
set_option linter.all false
set_option maxHeartbeats 1000000
set_option maxRecDepth 4000
namespace Go.Proofs.YtpdljmohhpbkpaaDoor
open Go.Ab Go.RowKit

section
variable {a b:Prop}
theorem E5(h:a:=by first|exact gG|(simp<;>omega)|exact⟨by omega,by omega⟩|(simp only[z66];omega)|(show(bE _ _).length=4;exact hcd)|exact hcd|exact gH):a:=h
theorem j5(h:a:=by
    repeat' (first|exact pT|exact trivial|refine aI ?_ ?_|exact iM|refine low_cons' ?_ ?_|exact iN|fail)
    all_goals first|omega|exact lw _|(simp;done)|(show(0:Nat)< (au _ _ _ _).length;rw[dJ hcl];decide)|(simp[-List.reduceReplicate];done)|(simp[-List.reduceReplicate]<;>omega)|skip):a:=h
theorem wI(kZ:b)(h:aK b->a:=by intro kZ;(repeat first|refine aI E5 ?_|refine bW E5 ?_|refine dC E5 ?_|refine fT E5 ?_|refine fA ?_);exact kZ.out):a:=h ⟨kZ⟩
theorem Jc(kZ:b)(h:aK b->a:=by intro kZ;refine sX ?_;refine wI ?_;refine aL ?_;exact kZ.out):a:=h ⟨kZ⟩
theorem y3y(kZ:b)(h:aK b->a:=by intro kZ;refine sX ?_;refine wI ?_;exact kZ.out):a:=h ⟨kZ⟩
end
open Go.Aut
attribute [local irreducible] eG z12 zl au gz cr
noncomputable def Uk:Ctx:={ P:=Tryd.prog,ty:=ty,glob:=gl,fs:=[(83,.flat Za)] }
theorem Jd:Uk.OK:=⟨dS,⟨⟨bX Tryd.func83 aN rfl,zqz⟩,trivial⟩,mixed⟩
@[simp] theorem Ul:Uk.ty=ty:=rfl

def y3z:aW:=fun vs K=>∃ (d:Dfa) (b:Nat),vs=[.c (.ds d.nc (.u64s d.cls)),.c (.int .i64 (b:Nat))]/\(d.ok/\b< 256)/\K (.c (.int .i64 (eO d b:Nat)))
theorem y40:jJ Tryd.prog gl 67 y3z:=by
 refine kU (Γ:=Uk) (N:=19) Tryd.func67 rfl rfl fun vs K h=>?_;obtain⟨d,b,rfl,⟨hok,hb⟩,h⟩:=h;refine⟨_,h,rfl,by simp,fun w I=>?_⟩
 have hnc:=hok.cmax
 have hcl4:=hok.clen
 refine aO Jd fun _ K2=>Jc ?_;refine aJ K2 (aH fun _ K3=>aO Jd fun _ K5=>Jc ?_);refine aJ K5 (bO (fM (α:=Nat) (fun i=>[(0,.c (.ds d.nc (.u64s d.cls))),(1,.c (.int .i64 (b:Nat))),(5,.c (.int .i64 (i:Nat)))]) (fun i=>[]) 0 (fun i=>i<=d.nc/\∀ x,x< i->bv d.cls x b=false) (fun i=>d.nc - i) ?_ ?_))
 ·refine ai [] id 0 ⟨Nat.zero_le _,fun x hx=>absurd hx (Nat.not_lt_zero x)⟩ [] j5 j5 j5 j5
 ·intro i hi;refine aH fun _ K6=>aO Jd fun _ K8=>?_
  iterate 4 refine Jc ?_
  refine aJ K8 (bC (b:=_) rfl (fun h_t9=>?_) (fun h_t9=>?_))
  ·try simp only[dQ,reduceIte]at h_t9
   refine bK (K6 _ _ _ (aH fun _ K9=>bO ?_))
   have hin:i< d.nc:=by omega
   have hcd:=z26 hok.clen hin
   refine aO Jd fun _ K11=>?_
   iterate 3 refine Jc ?_
   refine y3y ?_;refine aU (.agg (.u64s (bE d.cls i))) (bq rfl) (Jc ?_);refine y3y ?_;refine⟨bE d.cls i,b,rfl,⟨hcd,hb⟩,wI ?_⟩
   first|refine aU (.c (.bool (bv d.cls i b))) (dN (NL hb)) ?_|(intro cap5 hcap5;refine aU (.c (.bool (bv d.cls i b))) (dN (NL hb)) ?_)
   refine aJ K11 (bC (b:=_) rfl (fun h_t17=>?_) (fun h_t17=>?_))
   ·refine aO Jd fun _ K13=>?_
    iterate 2 refine Jc ?_
    refine aJ K13 (bQ (eU Jd (fun _ _ h=>h) (by first|rfl|assumption) [.tmp 4] rfl ?_));refine gV ?_
    show SV.c (.int .i64 _)=_
    rw[(Sw hok hb hin).2 h_t17]
   ·refine bK (dD (K9 _ _ _ (bB Jd fun _ K14=>?_)))
    iterate 3 refine Jc ?_
    refine aJ K14 (ai [] id (i+1) ⟨⟨by omega,fun x hx=>(Nat.lt_succ_iff_lt_or_eq.1 hx).elim (hi.2 x) fun e=>by rw[e];simpa using h_t17⟩,by omega⟩ [] ?_ ?_ ?_ ?_)
    ·exact j5
    ·exact j5
    ·exact j5
    ·exact j5
  ·try simp only[dQ,reduceIte]at h_t9
   refine eY (bJ (bJ (eX (K3 _ _ _ (aO Jd fun _ K16=>Jc ?_)))));refine aJ K16 ?_
   exfalso
   obtain⟨x,hx,hxx⟩:=hok.part b hb
   have h1:=(hxx x hx).2 rfl
   have h2:=hi.2 x (by omega)
   rw[h2]at h1;cases h1


end Go.Proofs.YtpdljmohhpbkpaaDoor

namespace Go.Proofs.YtpdljmohhpbkpaaDoor
open Go.Ab Go.RowKit

open Go.Aut
def rt(cell:List Int)(x y:Cell):List Cell:=cell.map (Cell.int .i64)++[x,y]
abbrev eT(t:Tab):aB:=.cells (rt t.cell (.ds t.next.length (.cells (aS t.next))) (.ds t.acc.length (.bools t.acc)))
abbrev jw(t:Tab):SV:=.agg (eT t)
theorem bG{cell:List Int}{x y:Cell}(h:cell.length=256):(rt cell x y).length=258:=by simp[rt,h]
theorem z52{cell:List Int}{x y:Cell}(h:cell.length=256){b i:Nat}(hi:i=b)(hb:b< 256):(aB.cells (rt cell x y)).get i= .int .i64 (cell.getD b 0):=by
  subst hi
  show(rt cell x y).getD i .nils=_
  rw[rt,List.getD_eq_getElem?_getD,List.getElem?_append_left (by simpa [h]using hb),List.getElem?_map,jB (d:=0) (by omega)];rfl
theorem Tg{cell:List Int}{x y:Cell}(h:cell.length=256)(j:Nat):(aB.cells (rt cell x y)).get (256+j)=[x,y].getD j .nils:=by
  show(rt cell x y).getD (256+j) .nils=_
  rw[rt,List.getD_eq_getElem?_getD,List.getElem?_append_right (by simp[h]),List.getD_eq_getElem?_getD]
  congr 2;simp[h]
theorem iC{t:Tab}(h:t.cell.length=256):(eT t).get (0+256)= .ds t.next.length (.cells (aS t.next)):=by rw[Nat.zero_add,Tg h 0];rfl
theorem nW{t:Tab}(h:t.cell.length=256):(eT t).get (0+257)= .ds t.acc.length (.bools t.acc):=by rw[Nat.zero_add,Tg h 1];rfl
theorem Kv{cell:List Int}{x y:Cell}(h:cell.length=256){b:Nat}(hb:b< 256)(v:Int):(rt cell x y).set b (.int .i64 v)=rt (cell.set b v) x y:=by
  rw[rt,rt,List.set_append_left _ _ (by simpa [h]using hb),List.map_set]
theorem Bv{cell:List Int}{n:Nat}{x y:Cell}(hx:x.low n)(hy:y.low n):(aB.cells (rt cell x y)).low n:=fun z hz=>by
  rcases List.mem_append.1 hz with hz|hz
  · obtain⟨v,_,rfl⟩:=List.mem_map.1 hz;trivial
  · rcases List.mem_cons.1 hz with rfl|hz
    · exact hx
    · rw[List.mem_singleton.1 hz];exact hy
theorem Nu(t:Tab){n:Nat}:(eT t).low n:=Bv trivial trivial
theorem rX{cell:List Int}{x y:Cell}(hx:x.solid)(hy:y.solid):CQ (rt cell x y):=Xj (Rt _) ⟨hx,hy,trivial⟩
theorem Co(t:Tab):pI (rt t.cell (.ds t.next.length (.cells (aS t.next))) (.ds t.acc.length (.bools t.acc))):=zvh (zqg _) ⟨trivial,trivial,trivial⟩
theorem rY{ty:Nat->Ty}{H:Heap}{is:List Nat}{ρ:Nat->Nat}{cell:List Int}{x y x' y':Cell}(hx:Cell.to ty H is ρ x x')(hy:Cell.to ty H is ρ y y'):bR (Cell.to ty H is ρ) (rt cell x y) (rt cell x' y'):=
  PX (zln _) ⟨hx,hy,trivial⟩
theorem WN{ty:Nat->Ty}{H:Heap}{is:List Nat}{ρ:Nat->Nat}{cell cell':List Int}{x y x' y':Cell}{n:Nat}{v:Int}(hc:cell.length=256)(hn:n< 256)(e:cell.set n v=cell')(hx:Cell.to ty H is ρ x x')(hy:Cell.to ty H is ρ y y'):bR (Cell.to ty H is ρ) ((rt cell x y).set n (.int .i64 v)) (rt cell' x' y'):=by
  rw[Kv hc hn,e];exact rY hx hy
def dz:List Cell:=List.replicate 256 (Cell.int .i64 0)++List.replicate 2 .nils
theorem jA:dz.length=258:=by rw[dz,List.length_append,List.length_replicate,List.length_replicate]
theorem y42{ty:Nat->Ty}{H:Heap}{is:List Nat}{ρ:Nat->Nat}:bR (Cell.to ty H is ρ) (List.replicate 256 (Cell.int .i64 0)++List.replicate 2 .nils) dz:=PX (Pb (x:=.int .i64 0) ⟨rfl,rfl⟩ _) (Pb (x:=.nils) (by first|exact trivial|exact⟨rfl,rfl⟩|exact rfl) _)
theorem Kw{ty:Nat->Ty}{H:Heap}{is:List Nat}{ρ:Nat->Nat}:bR (Cell.to ty H is ρ) dz dz:=y42
theorem ou{n:Nat}:(aB.cells dz).low n:=fun x hx=>by
  rcases List.mem_append.1 hx with h|h
  · rw[(List.mem_replicate.1 h).2];trivial
  · rw[(List.mem_replicate.1 h).2];trivial
theorem AV(x y:Cell):List.replicate 256 (Cell.int .i64 0)++[x,y]=rt z12 x y:=by rw[rt,z12,List.map_replicate]
theorem y43(x y:Cell):((aB.cells (List.replicate 256 (Cell.int .i64 0)++List.replicate 2 .nils)).sub 0 256).list++([x]++([y]++[]))=rt z12 x y:=by
  rw[<-AV]
  show List.take 256 (List.drop 0 (List.replicate 256 _++List.replicate 2 _))++_=_
  rw[List.drop_zero,List.take_append_of_le_length (by rw[List.length_replicate];decide),List.take_replicate]
  rfl
def lc(d:Dfa)(k:Nat):List Int:=(List.range 256).map fun b=>if b< k then(eO d b:Int)else 0
theorem rq(d:Dfa)(k:Nat):(lc d k).length=256:=by simp[lc]
theorem xW(d:Dfa):z12=lc d 0:=by simp[lc,z12,List.map_const']
theorem DU(d:Dfa){k:Nat}(h:k< 256):(lc d k).set k (eO d k:Int)=lc d (k+1):=by
  refine o9 0 (by simp[lc]) fun i hi=>?_
  have hi:i< 256:=by simpa [lc]using hi
  rw[my (by rw[rq];exact hi),lc,lc,iy hi,iy hi]
  by_cases e:k=i
  · subst e;rw[if_pos rfl,if_pos (Nat.lt_succ_self k)]
  · rw[if_neg e]
    by_cases h2:i< k
    · rw[if_pos h2,if_pos (by omega)]
    · rw[if_neg h2,if_neg (by omega)]
theorem DT{d:Dfa}(h:d.ok):lc d 256=(ag d).cell:=by
  refine o9 0 (by rw[rq];exact(nJ h).clen.symm) fun i hi=>?_
  have hi:i< 256:=by simpa [lc]using hi
  have h1:=(av (nJ h) hi).2
  rw[SQ hi]at h1;rw[h1,lc,iy hi,if_pos hi]

end Go.Proofs.YtpdljmohhpbkpaaDoor

namespace Go.Proofs.YtpdljmohhpbkpaaDoor
open Go.Ab Go.RowKit

section
variable {a b:Prop}
theorem E6(h:a:=by first|exact gG|(simp[-List.reduceReplicate]<;>omega)|exact vRk|exact Vm|exact gH):a:=h
theorem nX(h:a:=by
    repeat' (first|exact pJ|exact pT|exact trivial|refine aI ?_ ?_|exact iM|refine low_cons' ?_ ?_|exact iN|fail)
    all_goals first|omega|(show(0:Nat)< (rt _ _ _).length;rw[bG (rq _ _)];decide)|(show aB.low _ (aB.cells (List.replicate 256 _++_));exact ou)|exact lw _|(show aB.to _ _ _ _ _ _;rw[xW d];exact rY ⟨rfl,rfl⟩ ⟨rfl,rfl⟩)|(show aB.to _ _ _ _ _ _;exact WN (rq _ _) hset.1 hset.2 ⟨rfl,rfl⟩ ⟨rfl,rfl⟩)|(show(0:Nat)< (au _ _ _ _).length;rw[dJ hcl];decide)|(simp[-List.reduceReplicate];done)|(simp[-List.reduceReplicate]<;>omega)|skip):a:=h
theorem tJ(kZ:b)(h:aK b->a:=by intro kZ;(repeat first|refine aI E6 ?_|refine bW E6 ?_|refine dC E6 ?_|refine fT E6 ?_|refine fA ?_);exact kZ.out):a:=h ⟨kZ⟩
theorem H6(kZ:b)(h:aK b->a:=by intro kZ;refine sX ?_;refine tJ ?_;refine aL ?_;exact kZ.out):a:=h ⟨kZ⟩
theorem Zc(kZ:b)(h:aK b->a:=by intro kZ;refine jl ?_;refine tJ ?_;refine aL ?_;exact kZ.out):a:=h ⟨kZ⟩
theorem y44(kZ:b)(h:aK b->a:=by intro kZ;refine sX ?_;refine tJ ?_;exact kZ.out):a:=h ⟨kZ⟩
end
open Go.Aut
attribute [local irreducible] eG z12 zl au gz cr rt dz lc
noncomputable def Um:Ctx:={ P:=Tryd.prog,ty:=ty,glob:=gl,fs:=[(67,.flat y3z)] }
theorem Je:Um.OK:=⟨dS,⟨⟨bX Tryd.func67 aN rfl,y40⟩,trivial⟩,mixed⟩
@[simp] theorem Un:Um.ty=ty:=rfl

def um:aW:=fun vs K=>∃ d:Dfa,vs=[df d]/\d.ok/\K (jw (ag d))
theorem Q6:jr Tryd.prog gl 43 um:=by
 refine kJ (Γ:=Um) (N:=22) Tryd.func43 rfl rfl fun vs K h=>?_;obtain⟨d,rfl,hok,h⟩:=h;refine⟨_,h,Nu _,by simp,fun w I=>?_⟩
 have hclen:=hok.clen
 have hc256:=hok.cmax
 refine aO Je fun _ K2=>?_
 iterate 2 refine H6 ?_
 refine aJ K2 (aO Je fun _ K4=>?_)
 iterate 4 refine H6 ?_
 refine y44 ?_;refine aU (.agg (.cells (rt z12 (.ds d.next.length (.cells (aS d.next))) (.ds d.acc.length (.bools d.acc))))) (bq (congrArg (fun l=>SV.agg (aB.cells l)) (y43 _ _))) (H6 ?_);refine Zc ?_;refine aJ K4 (aH fun _ K5=>aO Je fun _ K7=>H6 ?_);refine aJ K7 (bO (fM (α:=Nat) (fun k=>[(1,.c (.dp (eB d) 0)),(2,.c (.ptr 0 0)),(3,.c (.ptr 1 0)),(4,.c (.int .i64 (k:Nat)))]) (fun k=>[(0,.own 74 (.cells dz) 258),(1,.own 74 (.cells (rt (lc d k) (.ds d.next.length (.cells (aS d.next))) (.ds d.acc.length (.bools d.acc)))) 258)]) 2 (fun k=>k<=256) (fun k=>256 - k) ?_ ?_))
 ·refine ai [0] (fun i=>i+1) 0 (Nat.zero_le _) [1,2] nX nX nX nX
 ·intro k hk;refine aH fun _ K8=>aO Je fun _ K10=>?_
  iterate 2 refine H6 ?_
  refine aJ K10 (bC (b:=_) rfl (fun h_t11=>?_) (fun h_t11=>?_))
  ·try simp only[dQ,reduceIte]at h_t11
   refine bK (K8 _ _ _ (aH fun _ K11=>bO ?_))
   have hk256:k< 256:=by omega
   have hset:(0+0+((k:Nat):Int).toNat*1)< 256/\(lc d k).set (0+0+((k:Nat):Int).toNat*1) (eO d k:Nat)=lc d (k+1):=by
    have e:(0+0+((k:Nat):Int).toNat*1)=k:=by omega
    rw[e];exact⟨hk256,DU d hk256⟩
   refine bB Je fun _ K12=>?_
   iterate 4 refine H6 ?_
   refine y44 ?_;refine⟨d,k,rfl,⟨hok,hk256⟩,tJ ?_⟩
   first|refine aL ?_|(intro cap4 hcap4;refine aL ?_)
   iterate 2 refine H6 ?_
   refine Zc ?_;refine aJ K12 (dD (K11 _ _ _ (bB Je fun _ K13=>?_)))
   iterate 3 refine H6 ?_
   refine aJ K13 (ai [] id (k+1) ⟨by omega,by omega⟩ [0,1] nX nX nX nX)
  ·try simp only[dQ,reduceIte]at h_t11
   refine eY (bJ (bJ (eX (K5 _ _ _ (aO Je fun _ K15=>H6 ?_)))));refine Zc ?_;refine aJ K15 ?_
   obtain rfl:k=256:=by omega
   have hca:=DT hok
   refine bQ (gT Je (fun _ _ h=>h) (Nu _) [] [.cell 2 74] rfl ?_)
   repeat first|refine aI (by first|omega|exact trivial|rfl|exact vRk) ?_|refine bW (bG (rq _ _)) ?_|refine dC (by rw[jA];exact(bG (rq _ _)).symm) ?_
   repeat' (first|exact pJ|exact pT|exact trivial|refine aI ?_ ?_|exact iM|refine low_cons' ?_ ?_|exact iN|fail)
   all_goals first|omega|(show(0:Nat)< (rt _ _ _).length;rw[bG (rq _ _)];decide)|(show aB.low _ (aB.cells (List.replicate 256 _++_));exact ou)|(show bR _ _ _;rw[hca];exact rY ⟨rfl,rfl⟩ ⟨rfl,rfl⟩)|(rw[hca];exact rY ⟨rfl,rfl⟩ ⟨rfl,rfl⟩)|(show(0:Nat)< (au _ _ _ _).length;rw[dJ hcl];decide)|(simp[-List.reduceReplicate];done)|(simp[-List.reduceReplicate]<;>omega)|skip


end Go.Proofs.YtpdljmohhpbkpaaDoor

namespace Go.Proofs.YtpdljmohhpbkpaaDoor
open Go.Ab Go.RowKit

open Go.Aut
theorem xc{cls:List UInt64}{b nc:Nat}(hb:b< 256):∀ k,(∀ x,x< k->bv cls x b=false)->jo cls b k=0
  |0,_=>rfl
  |k+1,h=>by rw[jo,NL hb,h k (Nat.lt_succ_self k),xc (nc:=nc) hb k fun x hx=>h x (by omega)];rfl
theorem Ym{cls:List UInt64}{b:Nat}{j:Nat}:∀ k,j<=k->jo cls b j<=jo cls b k
  |0,h=>by rw[Nat.le_zero.1 h];exact Nat.le_refl _
  | k +1,h=>by
    rcases Nat.lt_or_eq_of_le h with h1|rfl
    · have:=Ym (cls:=cls) (b:=b) (j:=j) k (by omega)
      rw[jo];split<;>omega
    · exact Nat.le_refl _
theorem y45{cls:List UInt64}{b x y nc:Nat}(hb:b< 256)(hxy:x< y)(hy:y< nc)(h1:bv cls x b=true)(h2:bv cls y b=true):2<=jo cls b nc:=by
  have a1:1<=jo cls b (x+1):=by rw[jo,NL hb,h1];simp
  have a2:=Ym (cls:=cls) (b:=b) (j:=x+1) y (by omega)
  have a3:jo cls b (y+1)=jo cls b y+1:=by rw[jo,NL hb,h2];rfl
  have a4:=Ym (cls:=cls) (b:=b) (j:=y+1) nc (by omega)
  omega
theorem zr6 {d:Dfa} (hw:d.wf) (h:JI d=true):d.good:=by
  rw[JI,Bu,lW]at h
  simp only[Bool.and_eq_true,decide_eq_true_eq,List.all_eq_true]at h
  obtain⟨h64,⟨⟨h1,ha⟩,⟨⟨hc1,hc2⟩,hnz⟩,hone⟩,hrows⟩:=h;refine⟨⟨hw.1,h1,ha,hc1,hc2,fun b hb=>?_,fun c hc=>?_,fun r hr=>Xi.1 (hrows r hr)⟩,h64⟩
  · have h2:jo d.cls b d.nc=1:=of_decide_eq_true (hone b (List.mem_range.2 hb))
    have hex:∃ c,c< d.nc/\bv d.cls c b=true:=by
      refine Classical.byContradiction fun hn=>?_
      have:=xc (cls:=d.cls) (nc:=d.nc) hb d.nc fun x hx=>by
        rw[<-Bool.not_eq_true];exact fun e=>hn ⟨x,hx,e⟩
      omega
    obtain⟨c,hc,hcb⟩:=hex;refine⟨c,hc,fun x hx=>⟨fun hxb=>?_,fun e=>by rw[e];exact hcb⟩⟩
    rcases Nat.lt_trichotomy x c with h3|h3|h3
    · have:=y45 hb h3 hc hxb hcb;omega
    · exact h3
    · have:=y45 hb h3 hx hcb hxb;omega
  · have h2:=hnz c (List.mem_range.2 hc)
    rw[Mb,Bool.not_eq_true',decide_eq_false_iff_not]at h2;refine Classical.byContradiction fun hn=>h2 (Q0 (z26 hw.1 hc) rfl fun x hx=>?_);rw[JE hx,z68, <-Bool.not_eq_true];exact fun e=>hn ⟨x,hx,e⟩
theorem Yn{t:Tab}{x:Cell}(hx:x∈rt t.cell (.ds t.next.length (.cells (aS t.next))) (.ds t.acc.length (.bools t.acc))):(∃ v,x= .int .i64 v)\/x= .ds t.next.length (.cells (aS t.next))\/x= .ds t.acc.length (.bools t.acc):=by
  rcases List.mem_append.1 hx with h|h
  · obtain⟨v,_,rfl⟩:=List.mem_map.1 h;exact .inl ⟨v,rfl⟩
  · rcases List.mem_cons.1 h with rfl|h
    · exact .inr (.inl rfl)
    · exact .inr (.inr (List.mem_singleton.1 h))
theorem lI(t:Tab):∀ x∈rt t.cell (.ds t.next.length (.cells (aS t.next))) (.ds t.acc.length (.bools t.acc)),∀ g cs,x≠Cell.clo g cs:=fun x hx g cs=>by
  rcases Yn hx with⟨v,rfl⟩|rfl|rfl<;>intro e<;>cases e
theorem lJ{ty:Nat->Ty}{H:Heap}(t:Tab){K:List Cell->Prop}(h:K (rt t.cell (.ds t.next.length (.cells (aS t.next))) (.ds t.acc.length (.bools t.acc)))):l6 ty H (rt t.cell (.ds t.next.length (.cells (aS t.next))) (.ds t.acc.length (.bools t.acc))) K:=
  XQ (fun x hx=>by rcases Yn hx with⟨v,rfl⟩|rfl|rfl<;>rfl) h
theorem q8(t:Tab)(l:List SV):List.flatMap SV.ids (jw t::l)=List.flatMap SV.ids l:=by
  rw[List.flatMap_cons,Y7 fun x hx=>by rcases Yn hx with⟨v,rfl⟩|rfl|rfl;exact .inl ⟨v,rfl⟩;exact .inr ⟨_,_,rfl⟩;exact .inr ⟨_,_,rfl⟩];rfl
attribute [local irreducible] eG z12 zl au gz cr rt dz lc
end Go.Proofs.YtpdljmohhpbkpaaDoor
