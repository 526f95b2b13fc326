/- Contracts of functions and plain facts, part 25. -/
import Derived.Test.YtppmnaoollkboaaDoorQx
import Derived.Test.YtppmnaoollkboaaDoorQu
import Derived.Test.YtppmnaoollkboaaDoorQw
set_option maxHeartbeats 4000000
set_option maxRecDepth 4000
namespace Go.Proofs.YtppmnaoollkboaaDoor
set_option linter.all false
open Go.Ab Go.RowKit

section
variable {a b:Prop}
theorem qKd0(h:a:=by first|exact vcA|(simp[-List.reduceReplicate]<;>omega)|exact vRh|exact vRj|exact vRi|(simp only[z10,z4h];omega)|(show _< (fillN _ _ _).length;rw[z4h];omega)|exact⟨by omega,by omega,trivial⟩|exact⟨by omega,by omega,trivial,trivial⟩|exact zcy rec9 _|exact rec9.solid _|exact(z7j rec9 _).isD|(show _< (z13 enc9 _).length;rw[z2q];omega)|(show _≤(z13 enc9 _).length;rw[z2q];omega)|(show 0+_*4≤(z13 enc9 _).length;rw[z2q];omega)|exact⟨by omega,by omega,rec9.solid _⟩|exact⟨rfl,z2q _⟩|(rw[z2q];done)|exact z2q _|exact zib|(show _< (famC _ _).length;rw[zkf];omega)|(show(famC _ _).length=_;rw[zkf];omega)|exact vcB):a:=h
theorem qKd1(h:a:=by first|omega|(rw[z8e];omega)|(simp only[List.length_append,List.length_singleton];omega)|(show 100+0≤60000;decide)):a:=h
theorem uKd_0(h:a:=by
    repeat' (first|exact pJ|exact pT|exact trivial|refine aI ?_ ?_|exact cC0|refine low_cons' ?_ ?_|exact cC1|fail)
    all_goals first|omega|(show(0:Nat)< (rt _ _ _).length;rw[z02 hjl];decide)|(show Cont.low _ (Cont.cells (List.replicate 256 _++_));exact z5a)|exact fam_le (fun i y hy=>⟨by first|(simp;done)|(rw[z35];simp;omega)|(rcases zng hy with⟨hi8,hy⟩|⟨rfl,rfl⟩;(rw[zh6 hi8];simp;omega);(rw[zki];simp)),by(have hi9:=(List.getElem?_eq_some_iff.1 hy).1;(try simp only[z8e,List.length_append,List.length_singleton]at hi9);(try rw[hP0]at hy));first|(rw[z35];(repeat first|refine(za2 (by omega)).trans ?_|refine(z4k (by omega)).trans ?_);exact z72 hy)|(rcases zng hy with⟨hi8,hy⟩|⟨rfl,rfl⟩;(rw[zh6 hi8];(repeat first|refine(za2 (by omega)).trans ?_|refine(z4k (by omega)).trans ?_);exact z72 hy);(rw[zki];rfl))|(rw[z35];exact famH_set i y hy rfl (fun i y hy=>by(repeat first|refine(za2 (by omega)).trans ?_|refine(z4k (by omega)).trans ?_);exact z72 hy))⟩)|exact zzm (by first|omega|(rw[z8e];omega)|(simp;omega))|exact zs9 (by first|omega|(rw[z8e];omega)|(simp;omega))|exact famC_toS (by first|rfl|assumption|omega) (fun i hi=>zh6 hi) zki|exact zkh (fun i hi=>z35)|exact zkh (fun i hi=>zh6 hi)|(show allTo _ (famC 100 s.rs) (rowsC _);rw[←hpa, ←famC_pat 100 ((s.rs.length:Nat):Int) s.rs.length s.rs];exact znf rfl (fun i y hy=>⟨by(have hi9:=(List.getElem?_eq_some_iff.1 hy).1;simp only[z8e]at hi9;exact List.mem_range'_1.2 ⟨by omega,by omega⟩),by((have hi9:=(List.getElem?_eq_some_iff.1 hy).1;simp only[z8e]at hi9);(repeat first|refine(za2 (by omega)).trans ?_|refine(z4k (by omega)).trans ?_);exact z72 hy)⟩))|(intro hh;have h9:=(List.mem_range'_1.1 hh).1;revert h9;decide)|exact hal0|(show 0+(s.rs.length+1)*1≤(s.bs++([]++[false])).length;simp;omega)|(rw[hXR];first|done|exact z8w _)|exact hL0|exact zn4 trivial (by show(_:Nat)< _;omega)|exact zn4 trivial trivial|exact z2w _|exact z1h _|exact zqh (z7j rec9 _) (by first|rfl|assumption|exact hXS)|exact zqg rec9|(show(_:List Int)=_;first|assumption|rfl)|(show(_:List Bool)=_;first|assumption|rfl)|(show Cont.to _ _ _ _ _ _;exact zyt hcl hset.1 hset.2 trivial trivial)|(show Cont.to _ _ _ _ _ _;rw[←cbN_zero];exact z4u trivial trivial)|(show Cont.to _ _ _ _ _ _;exact z4u trivial trivial)|(show allTo _ _ _;(try rw[zpp hjl rfl]);(try rw[zps hjl rfl]);refine z4u ?_ ?_<;>(repeat' (first|exact trivial|refine aI ?_ ?_|rfl|omega|decide|exact z8w _|exact hL0|exact hal0|(rw[hXR];first|done|exact z8w _)|(show 0+(s.rs.length+1)*1≤(s.bs++([]++[false])).length;simp;omega)|(simp;done)|rw[if_pos ⟨rfl,by simp[hal0]⟩]|rw[if_pos ⟨rfl,by simp⟩])))|(show allTo _ _ _;first|exact z26 _|(rw[hXR];exact z26 _))|(simp[-List.reduceReplicate];done)|(show(0:Nat)< (z08 _ _ _ _).length;rw[z06 hcl];decide)|(simp[-List.reduceReplicate];done)|(simp[-List.reduceReplicate]<;>omega)|skip):a:=h
theorem DKd_0(kZ:b)(h:HidB b→a:=by intro kZ;(repeat first|refine aI qKd0 ?_|refine z0a qKd0 ?_|refine z07 qKd0 ?_|refine z0l qKd0 ?_|refine z0c ?_);exact kZ.out):a:=h ⟨kZ⟩
theorem z12(kZ:b)(h:HidB b→a:=by intro kZ;refine sX ?_;refine DKd_0 ?_;refine exI ?_;exact kZ.out):a:=h ⟨kZ⟩
theorem z8f(kZ:b)(h:HidB b→a:=by intro kZ;refine sX0 ?_;refine DKd_0 ?_;refine exI ?_;exact kZ.out):a:=h ⟨kZ⟩
theorem zsd(kZ:b)(h:HidB b→a:=by intro kZ;refine dX ?_;refine DKd_0 ?_;refine exI ?_;exact kZ.out):a:=h ⟨kZ⟩
theorem gXKd_4(kZ:b)(h:HidB b→a:=by intro kZ;refine gX ?_;refine DKd_0 ?_;refine exI ?_;exact kZ.out):a:=h ⟨kZ⟩
theorem y03(kZ:b)(h:HidB b→a:=by intro kZ;refine gX0 ?_;refine DKd_0 ?_;refine exI ?_;exact kZ.out):a:=h ⟨kZ⟩
theorem zpy(kZ:b)(h:HidB b→a:=by intro kZ;refine sXT ?_;refine DKd_0 ?_;refine exI ?_;exact kZ.out):a:=h ⟨kZ⟩
theorem z1o(kZ:b)(h:HidB b→a:=by intro kZ;refine sX ?_;refine DKd_0 ?_;exact kZ.out):a:=h ⟨kZ⟩
theorem y04(kZ:b)(h:HidB b→a:=by intro kZ;refine dX ?_;refine DKd_0 ?_;exact kZ.out):a:=h ⟨kZ⟩
theorem y05(kZ:b)(h:HidB b→a:=by intro kZ;refine gX ?_;refine DKd_0 ?_;exact kZ.out):a:=h ⟨kZ⟩
theorem y06(kZ:b)(h:HidB b→a:=by intro kZ;refine sXT ?_;refine DKd_0 ?_;exact kZ.out):a:=h ⟨kZ⟩
theorem y07(kZ:b)(h:HidB b→a:=by intro kZ;refine sX0 ?_;refine DKd_0 ?_;exact kZ.out):a:=h ⟨kZ⟩
end
open Go.Aut
theorem tabBV(r:Rul)(rs:List IRow)(bs:List Bool){m:Nat}(hm:m=rs.length)(hb:bs.length=m):SV.agg (Cont.cells (rt (cbN r 256) (.ds (m+1) (.cells (rowsC ((rs.map fun x=>x.1.set 0 (m:Int))++[List.replicate (nB r+1) (m:Int)])))) (.ds (m+1) (.bools (bs++[false])))))=rtV (tabB r (rs.map (·.1)) bs):=by
  subst hm
  have e:(tabB r (rs.map (·.1)) bs).next=(rs.map fun x=>x.1.set 0 (rs.length:Int))++[List.replicate (nB r+1) (rs.length:Int)]:=by
    simp[tabB,Function.comp_def]
  have e2:(tabB r (rs.map (·.1)) bs).acc=bs++[false]:=rfl
  show _=SV.agg (Cont.cells (rt (cbN r 256) (.ds (tabB r (rs.map (·.1)) bs).next.length (.cells (rowsC (tabB r (rs.map (·.1)) bs).next))) (.ds (tabB r (rs.map (·.1)) bs).acc.length (.bools (tabB r (rs.map (·.1)) bs).acc))))
  rw[e,e2,List.length_append,List.length_append,List.length_map,hb];rfl
structure Bs where
  l:List Sta
  cl:Nat
  rs:List IRow
  cR:Nat
  bs:List Bool
  cA:Nat
structure Bg where
  l:List Sta
  cl:Nat
  v:Nat
  row:List Int
  cr:Nat
theorem bfr_len{r:Rul}{n:Int}{l:List Sta}{rs:List (List Int)}{bs:List Bool}(h:BfR r n l rs bs):rs.length≤l.length:=by
  rcases Nat.eq_zero_or_pos rs.length with e|e
  · omega
  · obtain⟨s,h1,_⟩:=h.rw (rs.length - 1) (rs[rs.length - 1]'(by omega)) (List.getElem?_eq_getElem (by omega))
    have:=(List.getElem?_eq_some_iff.1 h1).1
    omega
theorem bfr_row{r:Rul}{n:Int}{l:List Sta}{rs:List IRow}{bs:List Bool}(h:BfR r n l (rs.map (·.1)) bs){i:Nat}{x:IRow}(hx:rs[i]? =some x):x.1.length=nB r+1:=by
  obtain⟨s,_,h2⟩:=h.rw i x.1 (by rw[List.getElem?_map,hx];rfl);exact h2.1
attribute [local irreducible] z0o z0y zl z08 z0v putB canD cbN idL fillN patR tabB idxK
noncomputable def gk5:Ctx:={ P:=Tryd.prog,ty:=ty,glob:=gl,fs:=[(116,.flat zes),(117,.data zpv),(157,.flat y01),(118,.data zke),(103,.data zze)] }
theorem z1l:gk5.OK:=⟨tyOK,⟨⟨z0b Tryd.func116 kR rfl,zdo⟩,⟨z0b Tryd.func117 kR rfl,znb⟩,⟨z0b Tryd.func157 kR rfl,y02⟩,⟨z0b Tryd.func118 kR rfl,zia⟩,⟨z0b Tryd.func103 kR rfl,zzf⟩,trivial⟩,mixed⟩
@[simp] theorem gk5_ty:gk5.ty=ty:=rfl

def zse:QSpec:=fun vs K=>∃ (r:Rul) (n:Int),vs=[rulV r,.c (.int .i64 n)]∧r.ok∧K (resV (canD (langN r (Pb n)),0))
theorem ztz:z1x Tryd.prog gl 120 zse:=by
 refine z1c (Γ:=gk5) (N:=144) Tryd.func120 rfl rfl fun vs K h=>?_;obtain⟨r,n,rfl,hr,h⟩:=h;refine⟨_,h,z1h _,by simp,fun w I=>?_⟩
 have hB:=z4r hr
 have hjl:(cbN r 256).length=256:=za3 r 256
 refine srR z1l fun _ K2=>?_
 iterate 3 refine z12 ?_
 refine s_n K2 ?_;refine leW [0] (fun _=>1) [(1,.c (.int .i64 n)),(2,.c (.dp (rulC r) 0)),(4,.c (.ptr 0 0))] [(0,.own 30 (.cells [.nils,.nils,.nils]) 3)] 1 [1] uKd_0 uKd_0 uKd_0 uKd_0 ?_;refine srR z1l fun _ K4=>?_;refine z1o ?_;refine exA (.agg (.cells (rt (idL 0) .nils .nils))) (as_eq (congrArg (fun l=>SV.agg (Cont.cells l)) zpt)) ?_;refine z12 ?_;refine z8f ?_;refine s_n K4 ?_;refine seq_k fun _ K5=>?_;refine srR z1l fun _ K7=>?_;refine z12 ?_;refine s_n K7 ?_;refine z03 ?_;refine z0m (α:=Nat) (fun b=>[(1,.c (.int .i64 n)),(2,.c (.dp (rulC r) 0)),(4,.c (.ptr 0 0)),(6,.c (.ptr 1 0)),(7,.c (.int .i64 (b:Nat)))]) (fun b=>[(0,.own 30 (.cells [.nils,.nils,.nils]) 3),(1,.own 111 (.cells (rt (cbN r b) .nils .nils)) 258)]) 2 (fun b=>b≤256) (fun b=>256 - b) ?_ ?_
 ·refine dnS [] id 0 (Nat.zero_le _) [0,1] uKd_0 uKd_0 uKd_0 uKd_0
 ·intro b hb
  refine seq_k fun _ K8=>?_;refine srR z1l fun _ K10=>?_
  iterate 2 refine z12 ?_
  refine s_n K10 ?_;refine z04 (b:=_) rfl (fun h_t23=>?_) (fun h_t23=>?_)
  ·try simp only[dQ,reduceIte]at h_t23
   refine z09 ?_;apply K8;refine seq_k fun _ K11=>?_;refine z03 ?_
   have hb256:b< 256:=by omega
   have hcl:(cbN r b).length=256:=za3 r b
   have hd1:=zeu r.base (UInt8.ofNat b)
   have hd2:=zeo r.base (UInt8.ofNat b)
   have hset:(0+0+((b:Nat):Int).toNat*1)< 256∧(cbN r b).set (0+0+((b:Nat):Int).toNat*1) (z0t r.base (UInt8.ofNat b)+1)=cbN r (b+1):=by
    have e:(0+0+((b:Nat):Int).toNat*1)=b:=by omega
    rw[e];exact⟨hb256,cbN_set r hb256⟩
   refine z01 z1l fun _ K12=>?_
   iterate 4 refine z12 ?_
   refine z1o ?_;refine exA (.c (.u8 (UInt8.ofNat b))) (as_eq (congrArg (fun v=>SV.c (Cell.u8 v)) (z2y _))) ?_;refine z1o ?_;refine⟨r.base,UInt8.ofNat b,rfl,?_⟩;refine DKd_0 ?_
   first|refine exI ?_|(intro cap5 hcap5;refine exI ?_)
   iterate 3 refine z12 ?_
   refine z8f ?_;refine s_n K12 ?_;refine z05 ?_;apply K11;refine z01 z1l fun _ K13=>?_
   iterate 3 refine z12 ?_
   refine s_n K13 ?_;refine dnS [] id (b+1) ⟨by omega,by omega⟩ [0,1] uKd_0 uKd_0 uKd_0 uKd_0
  ·try simp only[dQ,reduceIte]at h_t23
   refine z0i ?_;refine z00 ?_;refine z00 ?_;refine z0f ?_;apply K5
   obtain rfl:b=256:=by omega
   refine srR z1l fun _ K15=>?_;refine z1o ?_;refine exA (staV sta0) (SV.as_refl _) ?_
   iterate 2 refine z12 ?_
   refine s_n K15 ?_;refine srR z1l fun _ K17=>?_;refine z12 ?_;refine s_n K17 ?_;refine srR z1l fun _ K19=>?_
   iterate 2 refine z12 ?_
   refine s_n K19 ?_;refine seq_k fun _ K20=>?_;refine srR z1l fun _ K22=>?_;refine z12 ?_;refine s_n K22 ?_;refine z03 ?_;refine z5g 1 257 4 (.bools []) rfl (rt_at1 hjl) rfl trivial ?_;rw[zps hjl rfl];refine z0m (α:=Bs) (fun s=>[(1,.c (.int .i64 n)),(2,.c (.dp (rulC r) 0)),(4,.c (.ptr 0 0)),(6,.c (.ptr 1 0)),(8,.c (.slice 2 0 s.l.length s.cl)),(9,.c (.int .i64 (-1))),(10,.c (.slice 3 0 s.rs.length s.cR)),(11,.c (.int .i64 (s.rs.length:Nat)))]) (fun s=>(0,.own 30 (.cells [.nils,.nils,.nils]) 3)::(1,.own 111 (.cells (rt (cbN r 256) .nils (.slice 4 0 s.rs.length s.cA))) 258)::(2,.own 137 (.cells (z13 enc9 s.l)) (s.cl*4))::(3,.own 51 (.cells (famC 100 s.rs)) s.cR)::(4,.own 4 (.bools s.bs) s.cA)::famH 3 100 s.rs) 60000 (fun s=>BfR r n s.l (s.rs.map (·.1)) s.bs∧s.l.length≤s.cl∧s.rs.length≤s.cR∧s.rs.length≤s.cA) (fun s=>42433 - s.rs.length) ?_ ?_
   ·have hXS:enc9 sta0=z13 enc9 [sta0]:=(zqe _).symm
    refine dnF [] (rhoI id) ⟨[sta0],1,[],0,[],0⟩ ⟨zzv r n,Nat.le_refl _,Nat.le_refl _,Nat.le_refl _⟩ (z2m (ks:=[0,1,2,3,4]) (m:=60000) (by decide) (by decide) qKd1 (fun i hi=>z35)) uKd_0 uKd_0 uKd_0 uKd_0
   ·intro s hs
    obtain⟨hB0,hs1,hs2,hs3⟩:=hs
    have hol:=zkj hB0.o
    have hrl0:=bfr_len hB0
    rw[List.length_map]at hrl0
    have hal0:=hB0.al
    rw[List.length_map]at hal0;refine seq_k fun _ K23=>?_;refine srR z1l fun _ K25=>?_
    iterate 4 refine z12 ?_
    refine s_n K25 ?_;refine z04 (b:=_) rfl (fun h_t41=>?_) (fun h_t41=>?_)
    ·try simp only[dQ,reduceIte]at h_t41
     refine z09 ?_;apply K23;refine seq_k fun _ K26=>?_;refine z03 ?_
     have hin:s.rs.length< s.l.length:=by omega
     obtain⟨x,hx⟩:∃ x,s.l[s.rs.length]? =some x:=⟨_,List.getElem?_eq_getElem hin⟩
     have hxo:x.ok:=hB0.o.ok x (List.mem_of_getElem? hx)
     refine srR z1l fun _ K28=>?_
     iterate 3 refine z12 ?_
     refine s_n K28 ?_;refine seq_k fun _ K29=>?_;refine srR z1l fun _ K31=>?_;refine z12 ?_;refine s_n K31 ?_;refine z03 ?_;refine z0m (α:=Bg) (fun g=>[(1,.c (.int .i64 n)),(2,.c (.dp (rulC r) 0)),(4,.c (.ptr 0 0)),(6,.c (.ptr 1 0)),(8,.c (.slice 2 0 g.l.length g.cl)),(9,.c (.int .i64 (-1))),(10,.c (.slice 3 0 s.rs.length s.cR)),(11,.c (.int .i64 (s.rs.length:Nat))),(12,.c (.slice 5 0 (g.v+1) g.cr)),(13,.c (.int .i64 (g.v:Nat)))]) (fun g=>(0,.own 30 (.cells [.nils,.nils,.nils]) 3)::(1,.own 111 (.cells (rt (cbN r 256) .nils (.slice 4 0 s.rs.length s.cA))) 258)::(2,.own 137 (.cells (z13 enc9 g.l)) (g.cl*4))::(3,.own 51 (.cells (famC 100 s.rs)) s.cR)::(4,.own 4 (.bools s.bs) s.cA)::(5,.own 3 (.ints .i64 g.row) g.cr)::famH 3 100 s.rs) 60000 (fun g=>BfR r n g.l (s.rs.map (·.1)) s.bs∧RowP r g.l x g.v g.row∧g.l.length≤g.cl∧g.l[s.rs.length]? =some x∧g.v≤nB r∧g.v+1≤g.cr) (fun g=>nB r - g.v) ?_ ?_
     ·refine dnF [] (rhoI (fun i=>if i=5 then 60000 else i)) ⟨s.l,s.cl,0,[-1],1⟩ ⟨hB0,zzt _ _ _ _,hs1,hx,Nat.zero_le _,Nat.le_refl _⟩ (z2m (ks:=[0,1,2,3,4,60000]) (m:=60000) (by decide) (by decide) qKd1 (fun i hi=>z35)) uKd_0 uKd_0 uKd_0 uKd_0
     ·intro g hg
      obtain⟨gB,gR,g1,gx,gv,gcr⟩:=hg
      have gol:=zkj gB.o
      have grl:=gR.1
      refine seq_k fun _ K32=>?_;refine srR z1l fun _ K34=>?_
      iterate 2 refine z12 ?_
      refine z1o ?_;refine exA (.c (.int .i64 (((nB r:Nat):Int)))) (as_i (hB.1.symm)) ?_;refine z12 ?_;refine s_n K34 ?_;refine z04 (b:=_) rfl (fun h_t49=>?_) (fun h_t49=>?_)
      ·try simp only[dQ,reduceIte]at h_t49
       refine z09 ?_;apply K32;refine seq_k fun _ K35=>?_;refine z03 ?_;refine z27 (α:=Unit) (fun u=>[(1,.c (.int .i64 n)),(2,.c (.dp (rulC r) 0)),(4,.c (.ptr 0 0)),(6,.c (.ptr 1 0)),(8,.c (.slice 2 0 g.l.length g.cl)),(9,.c (.int .i64 (-1))),(10,.c (.slice 3 0 s.rs.length s.cR)),(11,.c (.int .i64 (s.rs.length:Nat))),(12,.c (.slice 5 0 (g.v+1) g.cr)),(13,.c (.int .i64 (g.v:Nat))),(14,.c (.ptr 6 0))]) (fun u=>(0,.own 30 (.cells [.nils,.nils,.nils]) 3)::(1,.own 111 (.cells (rt (cbN r 256) .nils (.slice 4 0 s.rs.length s.cA))) 258)::(2,.own 137 (.cells (z13 enc9 g.l)) (g.cl*4))::(3,.own 51 (.cells (famC 100 s.rs)) s.cR)::(4,.own 4 (.bools s.bs) s.cA)::(5,.own 3 (.ints .i64 g.row) g.cr)::(6,.own 137 (staC (z0w r x (g.v:Nat))) 4)::famH 3 100 s.rs) 60000 (fun u=>True) ?_ ?_
       ·have gil:=(List.getElem?_eq_some_iff.1 gx).1
        have hvb:g.v< nB r:=by omega
        have hyo:Sta.ok (z0w r x (g.v:Nat)):=zgp hr hxo (by omega)
        refine zl9 z1l ?_;refine z29 z1l (g:=3) kR [(0,true),(1,true),(2,true),(3,true),(4,true),(5,true)] kR fun _ K37=>?_
        iterate 4 refine zsd ?_
        refine y04 ?_;refine exA (staV x) (zbf rec9 (fun _ _=>trivial) (by omega) rfl gx) ?_;refine zsd ?_;refine d_n K37 ?_;refine z3u [6,7] kR (by decide) (List.forall_mem_cons.2 ⟨?_,List.forall_mem_cons.2 ⟨?_,fun _ h=>by cases h⟩⟩)
        ·refine z14 z1l ?_
         refine DKd_0 ?_;refine⟨r,x,((g.v:Nat):Int),rfl,⟨hr,hxo,by omega,by omega⟩,?_⟩;refine DKd_0 ?_
         first|refine exI ?_|(intro cap6 hcap6;refine exI ?_)
         refine z29 z1l (g:=0) kR [(7,false),(8,false)] kR fun _ K38=>?_;refine gXKd_4 ?_;refine y03 ?_;refine d_n K38 ?_;refine z1y kR ?_;refine dnF [] (rhoI (fun i=>if i=6 then 60000 else i)) () trivial (z2m (ks:=[0,1,2,3,4,5,60000]) (m:=60000) (by decide) (by decide) qKd1 (fun i hi=>z35)) uKd_0 uKd_0 uKd_0 uKd_0
        ·refine z14 z1l ?_
         refine DKd_0 ?_;refine exI ?_;refine z29 z1l (g:=0) kR [(6,false),(8,false)] kR fun _ K39=>?_;refine y05 ?_;refine⟨r,x,((g.v:Nat):Int),rfl,⟨hr,hxo,by omega,by omega⟩,?_⟩;refine DKd_0 ?_
         first|refine exI ?_|(intro cap6 hcap6;refine exI ?_)
         refine y03 ?_;refine d_n K39 ?_;refine z1y kR ?_;refine dnF [] (rhoI (fun i=>if i=6 then 60000 else i)) () trivial (z2m (ks:=[0,1,2,3,4,5,60000]) (m:=60000) (by decide) (by decide) qKd1 (fun i hi=>z35)) uKd_0 uKd_0 uKd_0 uKd_0
       ·intro u hu
        clear hu
        have gil:=(List.getElem?_eq_some_iff.1 gx).1
        have hvb:g.v< nB r:=by omega
        have hyo:Sta.ok (z0w r x (g.v:Nat)):=zgp hr hxo (by omega)
        refine srR z1l fun _ K41=>?_;refine z12 ?_;refine z1o ?_;refine exA (staV (z0w r x (g.v:Nat))) (SV.as_refl _) ?_;refine z1o ?_;refine⟨g.l,(z0w r x (g.v:Nat)),rfl,⟨by omega,gB.o.ok,hyo⟩,?_⟩;refine DKd_0 ?_
        first|refine exI ?_|(intro cap2 hcap2;refine exI ?_)
        refine z12 ?_;refine s_n K41 ?_;refine z27 (α:=List Sta×Nat×Nat) (fun q=>[(1,.c (.int .i64 n)),(2,.c (.dp (rulC r) 0)),(4,.c (.ptr 0 0)),(6,.c (.ptr 1 0)),(8,.c (.slice 2 0 q.1.length q.2.1)),(9,.c (.int .i64 (-1))),(10,.c (.slice 3 0 s.rs.length s.cR)),(11,.c (.int .i64 (s.rs.length:Nat))),(12,.c (.slice 5 0 (g.v+1) g.cr)),(13,.c (.int .i64 (g.v:Nat))),(15,.c (.int .i64 (q.2.2:Nat)))]) (fun q=>(0,.own 30 (.cells [.nils,.nils,.nils]) 3)::(1,.own 111 (.cells (rt (cbN r 256) .nils (.slice 4 0 s.rs.length s.cA))) 258)::(2,.own 137 (.cells (z13 enc9 q.1)) (q.2.1*4))::(3,.own 51 (.cells (famC 100 s.rs)) s.cR)::(4,.own 4 (.bools s.bs) s.cA)::(5,.own 3 (.ints .i64 g.row) g.cr)::famH 3 100 s.rs) 60000 (fun q=>BfR r n q.1 (s.rs.map (·.1)) s.bs∧RowP r q.1 x g.v g.row∧q.1.length≤q.2.1∧q.1[s.rs.length]? =some x∧q.1[q.2.2]? =some (z0w r x (g.v:Nat))) ?_ ?_
        ·refine srR z1l fun _ K43=>?_
         iterate 4 refine z12 ?_
         refine s_n K43 ?_;refine z04 (b:=_) rfl (fun h_t65=>?_) (fun h_t65=>?_)
         ·try simp only[dQ,reduceIte]at h_t65
          refine z01 z1l fun _ K44=>?_;refine z12 ?_;refine z1o ?_;refine exA (staV (z0w r x (g.v:Nat))) (SV.as_refl _) ?_;refine z12 ?_;refine z1o ?_;intro cap3 hcap3;refine exI ?_;refine z12 ?_;refine s_n K44 ?_
          have hnf:¬ (z0w r x (g.v:Nat))∈g.l:=fun hm=>by have:=zak hm;omega
          have gB2:=bfr_more gB hyo hnf
          have hXS:z13 enc9 g.l++enc9 (z0w r x (g.v:Nat))=z13 enc9 (g.l++[(z0w r x (g.v:Nat))]):=(zlf _ _).symm
          have hL0:g.l.length+1=(g.l++[(z0w r x (g.v:Nat))]).length:=by rw[List.length_append];rfl
          refine dnF [] (rhoI (fun i=>if i=2 then 60001 else i)) (g.l++[(z0w r x (g.v:Nat))],cap3,g.l.length) ⟨gB2,zsa gR _,(by show(g.l++[_]).length≤cap3;omega),(by rw[List.getElem?_append_left gil];exact gx),(by rw[List.getElem?_append_right (Nat.le_refl _),Nat.sub_self];rfl)⟩ (z2m (ks:=[0,1,60001,3,4,5]) (m:=60000) (by decide) (by decide) qKd1 (fun i hi=>z35)) ?_ ?_ ?_ ?_
          ·exact uKd_0
          ·exact uKd_0
          ·exact uKd_0
          ·exact uKd_0
         ·try simp only[dQ,reduceIte]at h_t65
          refine z09 ?_
          have hfi:(z0w r x (g.v:Nat))∈g.l:=by
           rcases Decidable.em ((z0w r x (g.v:Nat))∈g.l)with hm|hm
           ·exact hm
           ·exact absurd (show idxK g.l (z0w r x (g.v:Nat))=g.l.length from idxK_out hm) (by omega)
          refine dnF [] (rhoI id) (g.l,g.cl,idxK g.l (z0w r x (g.v:Nat))) ⟨gB,gR,g1,gx,zbh hfi⟩ (z2m (ks:=[0,1,2,3,4,5]) (m:=60000) (by decide) (by decide) qKd1 (fun i hi=>z35)) uKd_0 uKd_0 uKd_0 uKd_0
        ·intro q hq
         obtain⟨qB,qR,q1,qx,qj⟩:=hq
         have qol:=zkj qB.o
         have qrl:=qR.1
         refine z01 z1l fun _ K45=>?_
         iterate 3 refine z12 ?_
         refine z1o ?_;intro cap3 hcap3;refine exI ?_;refine z12 ?_;refine s_n K45 ?_;refine z05 ?_;apply K35;refine z01 z1l fun _ K46=>?_
         iterate 3 refine z12 ?_
         refine s_n K46 ?_;refine dnF [] (rhoI (fun i=>if i=5 then 60001 else i)) ⟨q.1,q.2.1,g.v+1,g.row++[(q.2.2:Int)],cap3⟩ ⟨⟨qB,zzu qR qj,q1,qx,(by show g.v+1≤nB r;omega),(by show g.v+1+1≤cap3;omega)⟩,(by show nB r - (g.v+1)< nB r - g.v;omega)⟩ (z2m (ks:=[0,1,2,3,4,60001]) (m:=60000) (by decide) (by decide) qKd1 (fun i hi=>z35)) ?_ ?_ ?_ ?_
         ·exact uKd_0
         ·exact uKd_0
         ·exact uKd_0
         ·exact uKd_0
      ·try simp only[dQ,reduceIte]at h_t49
       refine z0i ?_;refine z00 ?_;refine z00 ?_;refine z0f ?_;apply K29
       have gil:=(List.getElem?_eq_some_iff.1 gx).1
       have hve:g.v=nB r:=by omega
       rw[hve]at gR
       have grl2:=gR.1
       obtain⟨vb,hvE⟩:∃ v,z24 r x=v:=⟨_,rfl⟩;refine srD z1l [(0,true),(1,true),(2,true),(3,true),(4,true),(5,false),(6,true),(7,true),(8,true),(9,true),(10,true)] rfl kR kR fun _ K48=>?_
       iterate 4 refine zsd ?_
       refine y04 ?_;refine exA (staV x) (zbf rec9 (fun _ _=>trivial) (by omega) rfl gx) ?_;refine y05 ?_;refine⟨r,x,rfl,⟨hr.o1,hr.o2⟩,?_⟩;rw[hvE];refine DKd_0 ?_
       first|refine exI ?_|(intro cap5 hcap5;refine exI ?_)
       iterate 5 refine zsd ?_
       refine d_n K48 ?_;refine srR z1l fun _ K50=>?_
       iterate 3 refine z12 ?_
       refine z1o ?_;intro cap3 hcap3;refine exI ?_;refine z12 ?_;refine s_n K50 ?_
       have hL0:g.v+1=g.row.length:=by omega
       refine leF [] (rhoN s.rs.length 5 (fun i=>if i=3 then 60001 else i)) [(1,.c (.int .i64 n)),(2,.c (.dp (rulC r) 0)),(4,.c (.ptr 0 0)),(6,.c (.ptr 1 0)),(8,.c (.slice 2 0 g.l.length g.cl)),(9,.c (.int .i64 (-1))),(10,.c (.slice 3 0 (s.rs.length+1) cap3)),(11,.c (.int .i64 (s.rs.length:Nat))),(16,.c (.int .i64 vb.1)),(17,.c (.bool vb.2))] ((0,.own 30 (.cells [.nils,.nils,.nils]) 3)::(1,.own 111 (.cells (rt (cbN r 256) .nils (.slice 4 0 s.rs.length s.cA))) 258)::(2,.own 137 (.cells (z13 enc9 g.l)) (g.cl*4))::(3,.own 51 (.cells (famC 100 (s.rs++[(g.row,g.cr)]))) cap3)::(4,.own 4 (.bools s.bs) s.cA)::famH 3 100 (s.rs++[(g.row,g.cr)])) 60000 (zty (q:=5) (ks:=[0,1,2,60001,4]) (m:=60000) (by decide) (by decide) (by omega) (fun i hi=>zh6 hi) zki) uKd_0 uKd_0 uKd_0 uKd_0 ?_;refine z01 z1l fun _ K51=>?_;refine z12 ?_;refine z1o ?_;refine exA (.c (.slice 4 0 s.rs.length s.cA)) (as_c (rt_y hjl)) ?_;refine z12 ?_;refine z1o ?_;refine exB (fun hb3=>?_) (fun hb3=>?_)
       ·try simp only[dQ,reduceIte]at hb3
        iterate 2 refine zpy ?_
        refine y06 ?_;refine exB (fun hb6=>?_) (fun hb6=>?_)
        ·try simp only[dQ,reduceIte]at hb6
         iterate 3 refine sN ?_
         refine zpy ?_;refine z1o ?_;refine exA (.c (.bool (Pb n vb))) (as_b (by simp only[Pb,hb3];by_cases e:n< 0<;>first|(simp[e];done)|(exfalso;omega))) ?_;refine z12 ?_;refine z1o ?_;intro cap13 hcap13;refine exI ?_;refine z12 ?_;refine z8f ?_;refine s_n K51 ?_;refine z05 ?_;apply K26;refine z01 z1l fun _ K52=>?_
         iterate 3 refine z12 ?_
         refine s_n K52 ?_
         have hL0:s.rs.length+1=(s.rs++[(g.row,g.cr)]).length:=by rw[List.length_append];rfl
         have gB9:=zkk gB (by rw[List.length_map];exact gx) gR (b:=Pb n vb) (by rw[hvE])
         have hmp:s.rs.map (·.1)++[g.row]=(s.rs++[(g.row,g.cr)]).map (·.1):=by rw[List.map_append];rfl
         rw[hmp]at gB9;refine dnF [] (rhoI (fun i=>if i=4 then 60001 else i)) ⟨g.l,g.cl,s.rs++[(g.row,g.cr)],cap3,s.bs++[Pb n vb],cap13⟩ ⟨⟨gB9,g1,(by show(s.rs++[_]).length≤cap3;omega),(by show(s.rs++[_]).length≤cap13;omega)⟩,(by show 42433 - (s.rs++[_]).length< 42433 - s.rs.length;omega)⟩ (z2m (ks:=[0,1,2,3,60001]) (m:=60000) (by decide) (by decide) qKd1 (fun i hi=>z35)) ?_ ?_ ?_ ?_
         ·exact uKd_0
         ·exact uKd_0
         ·exact uKd_0
         ·exact uKd_0
        ·try simp only[dQ,reduceIte]at hb6
         iterate 4 refine zpy ?_
         refine z1o ?_;refine exA (.c (.bool (Pb n vb))) (as_b (by simp only[Pb,hb3];by_cases e:n< 0<;>first|(simp[e];done)|(exfalso;omega))) ?_;refine z12 ?_;refine z1o ?_;intro cap13 hcap13;refine exI ?_;refine z12 ?_;refine z8f ?_;refine s_n K51 ?_;refine z05 ?_;apply K26;refine z01 z1l fun _ K53=>?_
         iterate 3 refine z12 ?_
         refine s_n K53 ?_
         have hL0:s.rs.length+1=(s.rs++[(g.row,g.cr)]).length:=by rw[List.length_append];rfl
         have gB9:=zkk gB (by rw[List.length_map];exact gx) gR (b:=Pb n vb) (by rw[hvE])
         have hmp:s.rs.map (·.1)++[g.row]=(s.rs++[(g.row,g.cr)]).map (·.1):=by rw[List.map_append];rfl
         rw[hmp]at gB9;refine dnF [] (rhoI (fun i=>if i=4 then 60001 else i)) ⟨g.l,g.cl,s.rs++[(g.row,g.cr)],cap3,s.bs++[Pb n vb],cap13⟩ ⟨⟨gB9,g1,(by show(s.rs++[_]).length≤cap3;omega),(by show(s.rs++[_]).length≤cap13;omega)⟩,(by show 42433 - (s.rs++[_]).length< 42433 - s.rs.length;omega)⟩ (z2m (ks:=[0,1,2,3,60001]) (m:=60000) (by decide) (by decide) qKd1 (fun i hi=>z35)) ?_ ?_ ?_ ?_
         ·exact uKd_0
         ·exact uKd_0
         ·exact uKd_0
         ·exact uKd_0
       ·try simp only[dQ,reduceIte]at hb3
        iterate 3 refine sN ?_
        iterate 3 refine sU ?_
        refine sN ?_;refine z1o ?_;refine exA (.c (.bool (Pb n vb))) (as_b (by simp only[Pb,hb3];by_cases e:n< 0<;>first|(simp[e];done)|(exfalso;omega))) ?_;refine z12 ?_;refine z1o ?_;intro cap13 hcap13;refine exI ?_;refine z12 ?_;refine z8f ?_;refine s_n K51 ?_;refine z05 ?_;apply K26;refine z01 z1l fun _ K54=>?_
        iterate 3 refine z12 ?_
        refine s_n K54 ?_
        have hL0:s.rs.length+1=(s.rs++[(g.row,g.cr)]).length:=by rw[List.length_append];rfl
        have gB9:=zkk gB (by rw[List.length_map];exact gx) gR (b:=Pb n vb) (by rw[hvE])
        have hmp:s.rs.map (·.1)++[g.row]=(s.rs++[(g.row,g.cr)]).map (·.1):=by rw[List.map_append];rfl
        rw[hmp]at gB9;refine dnF [] (rhoI (fun i=>if i=4 then 60001 else i)) ⟨g.l,g.cl,s.rs++[(g.row,g.cr)],cap3,s.bs++[Pb n vb],cap13⟩ ⟨⟨gB9,g1,(by show(s.rs++[_]).length≤cap3;omega),(by show(s.rs++[_]).length≤cap13;omega)⟩,(by show 42433 - (s.rs++[_]).length< 42433 - s.rs.length;omega)⟩ (z2m (ks:=[0,1,2,3,60001]) (m:=60000) (by decide) (by decide) qKd1 (fun i hi=>z35)) ?_ ?_ ?_ ?_
        ·exact uKd_0
        ·exact uKd_0
        ·exact uKd_0
        ·exact uKd_0
    ·try simp only[dQ,reduceIte]at h_t41
     refine z0i ?_;refine z00 ?_;refine z00 ?_;refine z0f ?_;apply K20
     have hel:s.rs.length=s.l.length:=by omega
     refine srR z1l fun _ K56=>?_;refine z12 ?_;refine z1o ?_;refine exA (.c (.int .i64 (((nB r:Nat):Int)))) (as_i (hB.1.symm)) ?_;refine z1o ?_;refine exA (.c (.int .i64 (((nB r+1:Nat):Int)))) (as_i (by first|rfl|omega)) ?_
     iterate 2 refine z12 ?_
     refine s_n K56 ?_;refine seq_k fun _ K57=>?_;refine srR z1l fun _ K59=>?_;refine z12 ?_;refine s_n K59 ?_;refine z03 ?_;refine z0m (α:=Nat) (fun c=>[(2,.c (.dp (rulC r) 0)),(4,.c (.ptr 0 0)),(6,.c (.ptr 1 0)),(8,.c (.slice 2 0 s.l.length s.cl)),(10,.c (.slice 3 0 s.rs.length s.cR)),(18,.c (.slice 5 0 (nB r+1) (nB r+1))),(19,.c (.int .i64 (c:Nat)))]) (fun c=>(0,.own 30 (.cells [.nils,.nils,.nils]) 3)::(1,.own 111 (.cells (rt (cbN r 256) .nils (.slice 4 0 s.rs.length s.cA))) 258)::(2,.own 137 (.cells (z13 enc9 s.l)) (s.cl*4))::(3,.own 51 (.cells (famC 100 s.rs)) s.cR)::(4,.own 4 (.bools s.bs) s.cA)::(5,.own 3 (.ints .i64 (fillN (nB r+1) ((s.rs.length:Nat):Int) c)) (nB r+1))::famH 3 100 s.rs) 60000 (fun c=>c≤nB r+1) (fun c=>nB r+1 - c) ?_ ?_
     ·have hX1:List.replicate (nB r+1) (0:Int)=(fillN (nB r+1) ((s.rs.length:Nat):Int) 0):=(z7u _ _).symm
      refine dnF [] (rhoI (fun i=>if i=5 then 60000 else i)) 0 (Nat.zero_le _) (z2m (ks:=[0,1,2,3,4,60000]) (m:=60000) (by decide) (by decide) qKd1 (fun i hi=>z35)) uKd_0 uKd_0 uKd_0 uKd_0
     ·intro c hc
      refine seq_k fun _ K60=>?_;refine srR z1l fun _ K62=>?_
      iterate 2 refine z12 ?_
      refine z1o ?_;refine exA (.c (.int .i64 (((nB r:Nat):Int)))) (as_i (hB.1.symm)) ?_;refine z12 ?_;refine s_n K62 ?_;refine z04 (b:=_) rfl (fun h_t109=>?_) (fun h_t109=>?_)
      ·try simp only[dQ,reduceIte]at h_t109
       refine z09 ?_;apply K60;refine seq_k fun _ K63=>?_;refine z03 ?_
       have hcb:c< nB r+1:=by omega
       refine z01 z1l fun _ K64=>?_
       iterate 3 refine z12 ?_
       refine z1o ?_;refine exA (.c (.int .i64 (((s.rs.length:Nat):Int)))) (as_i (by rw[hel])) ?_;refine z12 ?_;refine z8f ?_;refine s_n K64 ?_;refine z05 ?_;apply K63;refine z01 z1l fun _ K65=>?_
       iterate 3 refine z12 ?_
       refine s_n K65 ?_
       have hX1:(fillN (nB r+1) ((s.rs.length:Nat):Int) c).set (0+((c:Nat):Int).toNat*1) ((s.rs.length:Nat):Int)=(fillN (nB r+1) ((s.rs.length:Nat):Int) (c+1)):=by rw[show 0+((c:Nat):Int).toNat*1=c by omega];exact z92 _ hcb
       refine dnF [] (rhoI id) (c+1) ⟨by omega,by omega⟩ (z2m (ks:=[0,1,2,3,4,5]) (m:=60000) (by decide) (by decide) qKd1 (fun i hi=>z35)) uKd_0 uKd_0 uKd_0 uKd_0
      ·try simp only[dQ,reduceIte]at h_t109
       refine z0i ?_;refine z00 ?_;refine z00 ?_;refine z0f ?_;apply K57;refine seq_k fun _ K66=>?_
       obtain rfl:c=nB r+1:=by omega
       rw[z91];refine leF [5] (rhoI id) [(2,.c (.dp (rulC r) 0)),(4,.c (.ptr 0 0)),(6,.c (.ptr 1 0)),(8,.c (.slice 2 0 s.l.length s.cl)),(10,.c (.slice 3 0 s.rs.length s.cR)),(18,.c (.ds (nB r+1) (.ints .i64 (List.replicate (nB r+1) ((s.rs.length:Nat):Int)))))] ((0,.own 30 (.cells [.nils,.nils,.nils]) 3)::(1,.own 111 (.cells (rt (cbN r 256) .nils (.slice 4 0 s.rs.length s.cA))) 258)::(2,.own 137 (.cells (z13 enc9 s.l)) (s.cl*4))::(3,.own 51 (.cells (famC 100 s.rs)) s.cR)::(4,.own 4 (.bools s.bs) s.cA)::famH 3 100 s.rs) 60000 (z2m (ks:=[0,1,2,3,4]) (m:=60000) (by decide) (by decide) qKd1 (fun i hi=>z35)) uKd_0 uKd_0 uKd_0 uKd_0 ?_;refine srR z1l fun _ K68=>?_;refine z12 ?_;refine s_n K68 ?_;refine z03 ?_;refine z0m (α:=Nat) (fun k=>[(2,.c (.dp (rulC r) 0)),(4,.c (.ptr 0 0)),(6,.c (.ptr 1 0)),(8,.c (.slice 2 0 s.l.length s.cl)),(10,.c (.slice 3 0 s.rs.length s.cR)),(18,.c (.ds (nB r+1) (.ints .i64 (List.replicate (nB r+1) ((s.rs.length:Nat):Int))))),(20,.c (.int .i64 (k:Nat)))]) (fun k=>(0,.own 30 (.cells [.nils,.nils,.nils]) 3)::(1,.own 111 (.cells (rt (cbN r 256) .nils (.slice 4 0 s.rs.length s.cA))) 258)::(2,.own 137 (.cells (z13 enc9 s.l)) (s.cl*4))::(3,.own 51 (.cells (famC 100 s.rs)) s.cR)::(4,.own 4 (.bools s.bs) s.cA)::famH 3 100 (patR ((s.rs.length:Nat):Int) k s.rs)) 60000 (fun k=>k≤s.rs.length) (fun k=>s.rs.length - k) ?_ ?_
       ·have hP0:=zzn ((s.rs.length:Nat):Int) s.rs
        refine dnF [] (rhoI id) 0 (Nat.zero_le _) (z2m (ks:=[0,1,2,3,4]) (m:=60000) (by decide) (by decide) qKd1 (fun i hi=>z35)) uKd_0 uKd_0 uKd_0 uKd_0
       ·intro k hk
        refine seq_k fun _ K69=>?_;refine srR z1l fun _ K71=>?_
        iterate 4 refine z12 ?_
        refine s_n K71 ?_;refine z04 (b:=_) rfl (fun h_t120=>?_) (fun h_t120=>?_)
        ·try simp only[dQ,reduceIte]at h_t120
         refine z09 ?_;apply K69;refine seq_k fun _ K72=>?_;refine z03 ?_
         have hks:k< s.rs.length:=by omega
         obtain⟨y9,hy9⟩:∃ y,s.rs[k]? =some y:=⟨_,List.getElem?_eq_getElem hks⟩
         have hyl:=bfr_row hB0 hy9
         refine z01 z1l fun _ K73=>?_
         iterate 3 refine z12 ?_
         refine z1o ?_;refine exA (.c (.slice (100+k) 0 y9.1.length y9.2)) (as_c (by show(famC 100 s.rs).getD _ .nils=_;rw[show 0+((k:Nat):Int).toNat*1=k by omega,List.getD_eq_getElem?_getD,zs7 hy9];rfl)) ?_;refine z12 ?_;refine z1o ?_;refine exA (.c (.int .i64 (((s.rs.length:Nat):Int)))) (as_i (by rw[hel])) ?_;refine z1o ?_;refine zzp (te:=3) (c:=.ints .i64 y9.1) (cap:=y9.2) ?_ ?_ ?_
         ·(repeat first|refine(za2 (by omega)).trans ?_|refine(z4k (by omega)).trans ?_)
          exact z72 (by rw[zzo hks];exact hy9)
         ·show 0+(0:Int).toNat*1< y9.1.length
          rw[hyl];exact Nat.succ_pos _
         refine DKd_0 ?_;refine exI ?_;refine y07 ?_;refine zpx rfl rfl rfl ?_;refine zzq (te:=3) (l:=y9.1) (cap:=y9.2) ?_ ?_ ?_ ?_
         ·(repeat first|refine(za2 (by omega)).trans ?_|refine(z4k (by omega)).trans ?_)
          exact z72 (by rw[zzo hks];exact hy9)
         ·rfl
         ·show 0+(0:Int).toNat*1< y9.1.length
          rw[hyl];exact Nat.succ_pos _
         refine DKd_0 ?_;refine exI ?_;refine s_n K73 ?_;refine z05 ?_;apply K72;refine z01 z1l fun _ K74=>?_
         iterate 3 refine z12 ?_
         refine s_n K74 ?_
         have hpat:=patR_set (v:=((s.rs.length:Nat):Int)) hy9
         refine zzr (H':=(0,.own 30 (.cells [.nils,.nils,.nils]) 3)::(1,.own 111 (.cells (rt (cbN r 256) .nils (.slice 4 0 s.rs.length s.cA))) 258)::(2,.own 137 (.cells (z13 enc9 s.l)) (s.cl*4))::(3,.own 51 (.cells (famC 100 s.rs)) s.cR)::(4,.own 4 (.bools s.bs) s.cA)::famH 3 100 (patR ((s.rs.length:Nat):Int) (k+1) s.rs)) (fun id=>?_) ?_
         ·rw[←hpat]
          exact znh (F:=[(0,.own 30 (.cells [.nils,.nils,.nils]) 3),(1,.own 111 (.cells (rt (cbN r 256) .nils (.slice 4 0 s.rs.length s.cA))) 258),(2,.own 137 (.cells (z13 enc9 s.l)) (s.cl*4)),(3,.own 51 (.cells (famC 100 s.rs)) s.cR),(4,.own 4 (.bools s.bs) s.cA)]) (by rw[z8e];exact hks) (fun p hp=>by simp only[List.mem_cons,List.not_mem_nil,or_false]at hp;rcases hp with rfl|rfl|rfl|rfl|rfl<;>exact Nat.le_of_ble_eq_true rfl) id
         refine dnF [] (rhoI id) (k+1) ⟨by omega,by omega⟩ (z2m (ks:=[0,1,2,3,4]) (m:=60000) (by decide) (by decide) qKd1 (fun i hi=>z35)) uKd_0 uKd_0 uKd_0 uKd_0
        ·try simp only[dQ,reduceIte]at h_t120
         refine z0i ?_;refine z00 ?_;refine z00 ?_;refine z0f ?_;apply K66
         obtain rfl:k=s.rs.length:=by omega
         have hpa:=patR_all ((s.rs.length:Nat):Int) s.rs
         refine WP_le (is:=(List.range' 100 s.rs.length)) (ρ:=(fun i=>if i=2 then 3 else if i=3 then 4 else i)) (E':=[(4,.c (.ptr 0 0)),(6,.c (.ptr 1 0)),(10,.c (.slice 2 0 s.rs.length s.cR)),(18,.c (.ds (nB r+1) (.ints .i64 (List.replicate (nB r+1) ((s.rs.length:Nat):Int)))))]) (H':=[(0,.own 30 (.cells [.nils,.nils,.nils]) 3),(1,.own 111 (.cells (rt (cbN r 256) .nils (.slice 3 0 s.rs.length s.cA))) 258),(2,.own 51 (.cells (rowsC (s.rs.map fun x=>x.1.set 0 ((s.rs.length:Nat):Int)))) s.cR),(3,.own 4 (.bools s.bs) s.cA)]) (n':=4) ⟨?_,?_,(by decide:List.Nodup ([0,1,3,4]:List Nat)),?_,?_,⟨Nat.zero_le _,fun i hi=>absurd hi (Nat.not_lt_zero i)⟩⟩ ?_
         ·exact uKd_0
         ·exact uKd_0
         ·exact uKd_0
         ·exact uKd_0
         refine srR z1l fun _ K76=>?_
         iterate 3 refine z12 ?_
         refine z1o ?_;intro cap3 hcap3;refine exI ?_;refine z12 ?_;refine z8f ?_;refine s_n K76 ?_
         have hL0:s.rs.length+1=(((s.rs.map fun x=>x.1.set 0 ((s.rs.length:Nat):Int))++[List.replicate (nB r+1) ((s.rs.length:Nat):Int)])).length:=by rw[List.length_append,List.length_map];rfl
         have hXR:rowsC (s.rs.map fun x=>x.1.set 0 ((s.rs.length:Nat):Int))++([]++[(.ds (nB r+1) (.ints .i64 (List.replicate (nB r+1) ((s.rs.length:Nat):Int))))])=rowsC ((s.rs.map fun x=>x.1.set 0 ((s.rs.length:Nat):Int))++[List.replicate (nB r+1) ((s.rs.length:Nat):Int)]):=by
          have:=z4g (s.rs.map fun x=>x.1.set 0 ((s.rs.length:Nat):Int)) (List.replicate (nB r+1) ((s.rs.length:Nat):Int))
          rw[List.length_replicate]at this;exact this
         refine leW [5] (fun i=>if i=2 then 3 else i) [(4,.c (.ptr 0 0)),(6,.c (.ptr 1 0))] [(0,.own 30 (.cells [.nils,.nils,.nils]) 3),(1,.own 111 (.cells (rt (cbN r 256) (.ds (s.rs.length+1) (.cells (rowsC ((s.rs.map fun x=>x.1.set 0 ((s.rs.length:Nat):Int))++[List.replicate (nB r+1) ((s.rs.length:Nat):Int)])))) (.slice 2 0 s.rs.length s.cA))) 258),(2,.own 4 (.bools s.bs) s.cA)] 3 [0,1,3] uKd_0 uKd_0 uKd_0 uKd_0 ?_;refine srR z1l fun _ K78=>?_;refine z12 ?_;refine z1o ?_;refine exA (.c (.slice 2 0 s.rs.length s.cA)) (as_c (rt_y hjl)) ?_;refine z12 ?_;refine z1o ?_;intro cap3 hcap3;refine exI ?_;refine z12 ?_;refine z8f ?_;refine s_n K78 ?_
         have hel2:(s.rs.map (·.1)).length=s.l.length:=by rw[List.length_map];exact hel
         refine leW [4] id [(4,.c (.ptr 0 0)),(6,.c (.ptr 1 0))] [(0,.own 30 (.cells [.nils,.nils,.nils]) 3),(1,.own 111 (.cells (rt (cbN r 256) (.ds (s.rs.length+1) (.cells (rowsC ((s.rs.map fun x=>x.1.set 0 ((s.rs.length:Nat):Int))++[List.replicate (nB r+1) ((s.rs.length:Nat):Int)])))) (.ds (s.rs.length+1) (.bools (s.bs++[false]))))) 258)] 2 [0,1] uKd_0 uKd_0 uKd_0 uKd_0 ?_;refine srR z1l fun _ K80=>?_;refine z1o ?_;refine exA (rtV (tabB r (s.rs.map (·.1)) s.bs)) (as_eq (tabBV r s.rs s.bs rfl (by rw[hB0.al,List.length_map]))) ?_;refine z1o ?_;refine aI (z61 (tabB r (s.rs.map (·.1)) s.bs)) ?_;refine z8c (tabB r (s.rs.map (·.1)) s.bs) ?_;refine⟨(tabB r (s.rs.map (·.1)) s.bs),rfl,tabB_fit hr hB0 hel2,?_⟩;rw[tabB_can hr hB0 hel2]
         simp only[z9a]
         refine DKd_0 ?_
         first|refine exI ?_|(intro cap1 hcap1;refine exI ?_)
         iterate 2 refine z12 ?_
         refine z8f ?_;refine z12 ?_;refine s_n K80 ?_;refine z0e (z0g z1l (fun _ _ h=>h) (z1h _) [] [.cell 4 30,.tmp 5] rfl ?_)
         repeat first|refine aI (by first|exact trivial|rfl|exact⟨rfl,rfl⟩|decide) ?_|refine z0a (by first|rfl|decide) ?_|refine z07 (by first|rfl|decide) ?_
         all_goals exact uKd_0


end Go.Proofs.YtppmnaoollkboaaDoor

namespace Go.Proofs.YtppmnaoollkboaaDoor
set_option linter.all false
open Go.Ab Go.RowKit

theorem uKe_0{a:Prop}(h:a:=by
    repeat' (first|exact pT|exact trivial|refine aI ?_ ?_|exact cC0|refine low_cons' ?_ ?_|exact cC1|fail)
    all_goals first|omega|exact z2w _|exact z1h _|(show(_:Bool)= !okT r n;first|(rw[okT_a (r:=r) (n:=n) hb3];rfl)|(rw[okT_b (r:=r) (n:=n) hb7];rfl)|exact okT_c (r:=r) (n:=n) hb3 hb7|exact okT_c (r:=r) (n:=n) hb3 (Int.not_lt.2 hb7))|(simp;done)|(show(0:Nat)< (z08 _ _ _ _).length;rw[z06 hcl];decide)|(simp[-List.reduceReplicate];done)|(simp[-List.reduceReplicate]<;>omega)|skip):a:=h
open Go.Aut
attribute [local irreducible] z0o z0y zl z08 z0v putB canD
noncomputable def gk6:Ctx:={ P:=Tryd.prog,ty:=ty,glob:=gl,fs:=[(65,.flat zer),(120,.data zse)] }
theorem z8j:gk6.OK:=⟨tyOK,⟨⟨z0b Tryd.func65 kR rfl,zdn⟩,⟨z0b Tryd.func120 kR rfl,ztz⟩,trivial⟩,mixed⟩
@[simp] theorem gk6_ty:gk6.ty=ty:=rfl

def zh7:QSpec:=fun vs K=>∃ r:Rul,vs=[rulV r]∧K (resV (allR r))
theorem zkm:z1x Tryd.prog gl 61 zh7:=by
 refine z1c (Γ:=gk6) (N:=12) Tryd.func61 rfl rfl fun vs K h=>?_;obtain⟨r,rfl,h⟩:=h;refine⟨_,h,z1h _,by simp,fun w I=>?_⟩;refine srR z8j fun _ K2=>?_
 iterate 3 refine zby ?_
 refine s_n K2 ?_;refine seq_k fun _ K3=>?_;refine leW [0] (fun _=>1) [(1,.c (.dp (rulC r) 0)),(2,.c (.ptr 0 0))] [(0,.own 30 (.cells [.nils,.nils,.nils]) 3)] 1 [1] uKe_0 uKe_0 uKe_0 uKe_0 ?_;refine srR z8j fun _ K5=>?_;refine zby ?_;refine sXEUf_12 ?_;refine⟨r,rfl,?_⟩;refine DUf_0 ?_
 first|refine exI ?_|(intro cap1 hcap1;refine exI ?_)
 refine zby ?_;refine s_n K5 ?_;refine z04 (b:=_) rfl (fun h_t6=>?_) (fun h_t6=>?_)
 ·try simp only[dQ,reduceIte]at h_t6
  refine srR z8j fun _ K7=>?_;refine zby ?_;refine z95 ?_;refine zby ?_;refine s_n K7 ?_;rw[allR,if_neg (fun e=>absurd (z59.2 e) (by first|assumption|omega))];refine z0e (z0g z8j (fun _ _ h=>h) (z1h _) [] [.cell 2 30,.tmp 3] rfl ?_)
  all_goals exact uKe_0
 ·try simp only[dQ,reduceIte]at h_t6
  refine z09 ?_;apply K3
  have hok:r.okB=true:=z59.1 (by first|assumption|omega)
  have hr:=z57.1 hok
  refine srR z8j fun _ K9=>?_;refine zby ?_;refine sXEUf_12 ?_;refine⟨r,-1,rfl,hr,?_⟩;rw[pb_all];refine DUf_0 ?_
  first|refine exI ?_|(intro cap1 hcap1;refine exI ?_)
  iterate 2 refine zby ?_
  refine z95 ?_;refine zby ?_;refine s_n K9 ?_;rw[allR,if_pos hok];refine z0e (z0g z8j (fun _ _ h=>h) (z1h _) [] [.cell 2 30,.tmp 3] rfl ?_)
  all_goals exact uKe_0

def zsf:QSpec:=fun vs K=>∃ (r:Rul) (n:Int),vs=[rulV r,.c (.int .i64 n)]∧K (resV (z97 r n))
theorem zu0:z1x Tryd.prog gl 63 zsf:=by
 refine z1c (Γ:=gk6) (N:=25) Tryd.func63 rfl rfl fun vs K h=>?_;obtain⟨r,n,rfl,h⟩:=h;refine⟨_,h,z1h _,by simp,fun w I=>?_⟩;refine srR z8j fun _ K2=>?_
 iterate 3 refine zby ?_
 refine s_n K2 ?_;refine seq_k fun _ K3=>?_;refine z27 (α:=Unit) (fun _=>[(2,.c (.dp (rulC r) 0)),(1,.c (.int .i64 n)),(4,.c (.ptr 0 0)),(18,.c (.bool (!okT r n)))]) (fun _=>[(0,.own 30 (.cells [.nils,.nils,.nils]) 3)]) 1 (fun _=>True) ?_ ?_
 ·refine leW [0] (fun _=>1) [(2,.c (.dp (rulC r) 0)),(1,.c (.int .i64 n)),(4,.c (.ptr 0 0))] [(0,.own 30 (.cells [.nils,.nils,.nils]) 3)] 1 [1] uKe_0 uKe_0 uKe_0 uKe_0 ?_
  refine z01 z8j fun _ K4=>?_;refine zby ?_;refine sXEUf_12 ?_;refine⟨r,rfl,?_⟩;refine DUf_0 ?_
  first|refine exI ?_|(intro cap1 hcap1;refine exI ?_)
  refine zby ?_;refine sXEUf_12 ?_;refine exB (fun hb3=>?_) (fun hb3=>?_)
  ·try simp only[dQ,reduceIte]at hb3
   iterate 2 refine sN ?_
   refine zby ?_;refine sXEUf_12 ?_;refine exB (fun hb7=>?_) (fun hb7=>?_)
   rotate_left 1
   ·exfalso;simp at hb7
   iterate 4 refine sN ?_
   refine zby ?_;refine s_n K4 ?_;refine dnS [] id () trivial [0] uKe_0 uKe_0 uKe_0 uKe_0
  ·try simp only[dQ,reduceIte]at hb3
   iterate 2 refine sXTVa_17 ?_
   refine zby ?_;refine sXEUf_12 ?_;refine exB (fun hb7=>?_) (fun hb7=>?_)
   ·try simp only[dQ,reduceIte]at hb7
    iterate 4 refine sN ?_
    refine zby ?_;refine s_n K4 ?_;refine dnS [] id () trivial [0] uKe_0 uKe_0 uKe_0 uKe_0
   ·try simp only[dQ,reduceIte]at hb7
    iterate 4 refine sXTVa_17 ?_
    refine zby ?_;refine s_n K4 ?_;refine dnS [] id () trivial [0] uKe_0 uKe_0 uKe_0 uKe_0
 ·intro u hu
  clear hu;refine z04 (b:=_) rfl (fun h_t18=>?_) (fun h_t18=>?_)
  ·refine srR z8j fun _ K6=>?_
   refine zby ?_;refine z95 ?_;refine zby ?_;refine s_n K6 ?_
   have hok:okT r n=false:=by first|assumption|(simpa using h_t18)
   rw[z97,if_neg (by rw[hok];decide)];refine z0e (z0g z8j (fun _ _ h=>h) (z1h _) [] [.cell 4 30,.tmp 5] rfl ?_)
   all_goals exact uKe_0
  ·refine z09 ?_;apply K3
   have hok:okT r n=true:=by first|assumption|(simpa using h_t18)
   obtain⟨hr,hn0,hnt⟩:=zau.1 hok;refine srR z8j fun _ K8=>?_
   iterate 2 refine zby ?_
   refine sXEUf_12 ?_;refine⟨r,n,rfl,hr,?_⟩;rw[pb_one hn0];refine DUf_0 ?_
   first|refine exI ?_|(intro cap2 hcap2;refine exI ?_)
   iterate 2 refine zby ?_
   refine z95 ?_;refine zby ?_;refine s_n K8 ?_;rw[z97,if_pos hok];refine z0e (z0g z8j (fun _ _ h=>h) (z1h _) [] [.cell 4 30,.tmp 5] rfl ?_)
   all_goals exact uKe_0


end Go.Proofs.YtppmnaoollkboaaDoor
