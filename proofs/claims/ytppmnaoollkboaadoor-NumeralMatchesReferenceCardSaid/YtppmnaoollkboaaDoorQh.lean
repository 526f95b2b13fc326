/- Contracts of functions and plain facts, part 8. -/
import Derived.Test.YtppmnaoollkboaaDoorQg
set_option maxHeartbeats 2000000
set_option maxRecDepth 4000
namespace Go.Proofs.YtppmnaoollkboaaDoor
set_option linter.all false
open Go.Ab Go.RowKit

section
variable {a b:Prop}
theorem qUo0(h:a:=by first|exact vcA|(simp[-List.reduceReplicate]<;>omega)|exact vTh|exact⟨by omega,by omega,trivial⟩|exact⟨by omega,by omega,trivial,trivial⟩|(show _< (z28 _ _).length;rw[zbs];omega)|(show _< (fillN _ _ _).length;rw[z4h];omega)|(show _< (rowZ _ _ _ _ _).length;rw[zok];omega)|exact vcB):a:=h
theorem uUo_0(h:a:=by
    repeat' (first|assumption|exact⟨rfl,rfl⟩|(show(_:List Int)=_;assumption)|exact pT|exact trivial|refine aI ?_ ?_|exact cC0|refine low_cons' ?_ ?_|exact cC1|fail)
    all_goals first|omega|exact hL0|exact hL1|exact hL2|(show(_:List Int)=_;first|assumption|exact hZ0|rfl)|(show(_:List Bool)=_;first|assumption|rfl)|(show allTo _ _ _;first|(rw[hXR];exact z26 _)|(rw[hXR];trivial)|exact z26 _)|(show(0:Nat)< (z08 _ _ _ _).length;rw[z06 hcl];decide)|(simp[-List.reduceReplicate];done)|(simp[-List.reduceReplicate]<;>omega)|skip):a:=h
theorem DUo_0(kZ:b)(h:HidB b→a:=by intro kZ;(repeat first|refine aI qUo0 ?_|refine z0a qUo0 ?_|refine z07 qUo0 ?_|refine z0l qUo0 ?_|refine z0c ?_);exact kZ.out):a:=h ⟨kZ⟩
theorem z1q(kZ:b)(h:HidB b→a:=by intro kZ;refine sX ?_;refine DUo_0 ?_;refine exI ?_;exact kZ.out):a:=h ⟨kZ⟩
theorem zrb(kZ:b)(h:HidB b→a:=by intro kZ;refine dX ?_;refine DUo_0 ?_;refine exI ?_;exact kZ.out):a:=h ⟨kZ⟩
theorem zap(kZ:b)(h:HidB b→a:=by intro kZ;refine sX0 ?_;refine DUo_0 ?_;refine exI ?_;exact kZ.out):a:=h ⟨kZ⟩
theorem gXUo_4(kZ:b)(h:HidB b→a:=by intro kZ;refine gX ?_;refine DUo_0 ?_;refine exI ?_;exact kZ.out):a:=h ⟨kZ⟩
theorem gX0Uo_5(kZ:b)(h:HidB b→a:=by intro kZ;refine gX0 ?_;refine DUo_0 ?_;refine exI ?_;exact kZ.out):a:=h ⟨kZ⟩
theorem zjn(kZ:b)(h:HidB b→a:=by intro kZ;refine dX ?_;refine DUo_0 ?_;exact kZ.out):a:=h ⟨kZ⟩
theorem zoy(kZ:b)(h:HidB b→a:=by intro kZ;refine gX ?_;refine DUo_0 ?_;exact kZ.out):a:=h ⟨kZ⟩
theorem z4b(kZ:b)(h:HidB b→a:=by intro kZ;refine sX ?_;refine DUo_0 ?_;exact kZ.out):a:=h ⟨kZ⟩
end
open Go.Aut
theorem z3a{t:Tbl}:0∈z36 t:=zed
theorem z9v{ty:Nat→Ty}{H:Heap}:∀ {l:List Cell} (_:∀ x∈l,x.pureB=true) {K:List Cell→Prop} (_:K l),viewL ty H l K
  |[],_,_,h=>h
  | x::l,hl,K,h=>by
    have h2:viewL ty H l fun l'=>K (x::l'):=z9v (fun y hy=>hl y (List.mem_cons_of_mem _ hy)) h
    have hx:=hl x List.mem_cons_self
    show viewC ty H x _
    cases x<;>first|exact h2|(simp[Cell.pureB]at hx;done)
theorem zgk{cell:List Int}{nc:Nat}{x y z:Cell}(h:z∈z08 cell nc x y):(∃ v,z= .int .i64 v)∨z=x∨z=y:=by
  rcases List.mem_append.1 h with h|h
  · obtain⟨v,_,rfl⟩:=List.mem_map.1 h;exact .inl ⟨v,rfl⟩
  · rcases List.mem_cons.1 h with rfl|h
    · exact .inl ⟨_,rfl⟩
    · rcases List.mem_cons.1 h with rfl|h
      · exact .inr (.inl rfl)
      · exact .inr (.inr (List.mem_singleton.1 h))
theorem z93(t:Tab):∀ x∈z08 t.cell t.nc (.ds t.next.length (.cells (rowsC t.next))) (.ds t.acc.length (.bools t.acc)),∀ g cs,x≠Cell.clo g cs:=fun x hx g cs=>by
  rcases zgk hx with⟨v,rfl⟩|rfl|rfl<;>intro e<;>cases e
theorem zc1{ty:Nat→Ty}{H:Heap}(t:Tab){K:List Cell→Prop}(h:K (z08 t.cell t.nc (.ds t.next.length (.cells (rowsC t.next))) (.ds t.acc.length (.bools t.acc)))):viewL ty H (z08 t.cell t.nc (.ds t.next.length (.cells (rowsC t.next))) (.ds t.acc.length (.bools t.acc))) K:=
  z9v (fun x hx=>by rcases zgk hx with⟨v,rfl⟩|rfl|rfl<;>rfl) h
theorem zjo:∀ {l:List Cell},(∀ x∈l,(∃ v,x= .int .i64 v)∨∃ n c,x= .ds n c)→SV.ids (.agg (.cells l))=[]
  |[],_=>rfl
  | x::l,h=>by
    have h2:=zjo fun y hy=>h y (List.mem_cons_of_mem _ hy)
    rcases h x List.mem_cons_self with⟨v,rfl⟩|⟨n,c,rfl⟩<;>exact h2
theorem zjp(t:Tab)(l:List SV):List.flatMap SV.ids (tabV t::l)=List.flatMap SV.ids l:=by
  rw[List.flatMap_cons,zjo fun x hx=>by rcases zgk hx with⟨v,rfl⟩|rfl|rfl;exact .inl ⟨v,rfl⟩;exact .inr ⟨_,_,rfl⟩;exact .inr ⟨_,_,rfl⟩];rfl
abbrev bF(t:Tab)(bl reps:List Nat):Nat→Nat→Nat:=bf (tblT t) (blkF bl) (rpF reps) (rpF (mC t bl reps 256))
def accP(t:Tab)(bl reps:List Nat)(n:Nat):List Bool:=(List.range n).map fun s=>t.acc.getD (rpF reps ((ordO (bF t bl reps) (mC t bl reps 256).length (blkF bl 0) (s*(mC t bl reps 256).length)).getD s 0)) false
@[simp] theorem accP_length(t:Tab)(bl reps:List Nat)(n:Nat):(accP t bl reps n).length=n:=by simp[accP]
theorem zmc(t:Tab)(bl reps:List Nat)(n:Nat):accP t bl reps n++[t.acc.getD (rpF reps ((ordO (bF t bl reps) (mC t bl reps 256).length (blkF bl 0) (n*(mC t bl reps 256).length)).getD n 0)) false]=accP t bl reps (n+1):=by simp[accP,List.range_succ]
theorem zxa(t:Tab)(bl reps:List Nat):0< (mC t bl reps 256).length:=by
  rw[z3p];exact List.length_pos_of_mem (zj6.2 ⟨0,by decide,rfl⟩)
theorem zxb{t:Tab}(h:t.ok)(bl reps:List Nat){j:Nat}(hj:j< (mC t bl reps 256).length):rpF (mC t bl reps 256) j< t.nc:=by
  rw[z3p, ←zlw]at hj;exact(zvm (fun b hb=>(cellN h hb).1) hj).1
theorem zxc{t:Tab}(h:t.fit){bl reps:List Nat}{cw:List UInt64}{n:Nat}(hb:BlkOut (tblT t) (z36 (tblT t)) bl reps t.next.length)(hc:Cw (tblT t) (blkF bl) (rpF reps) reps.length cw (ncC (tblT t) (blkF bl) (rpF reps) reps.length) 256)
    (hn:z1t (bF t bl reps) (mC t bl reps 256).length (blkF bl 0) n):
    canD ((tblT t).lang 0)={ cls:=cw,nc:=(mC t bl reps 256).length,next:=rowsP (bF t bl reps) (mC t bl reps 256).length (blkF bl 0) n,acc:=accP t bl reps n }:=by
  have hl:(mC t bl reps 256).length=ncC (tblT t) (blkF bl) (rpF reps) reps.length:=by rw[z3p, ←zlw]
  have hcl:=(z6x h.1).1
  have hcell:∀ b,b< 256→(tblT t).cell b< (tblT t).nc:=fun b hb=>(cellN h.1 hb).1
  have hred:=red_of (t:=tblT t) (rep:=rpF (mC t bl reps 256)) hcl hcell h.1.byte hb.blk hb.rep hb.stable hb.snd fun j hj=>zvm hcell hj
  rw[hl]at hn ⊢
  have hlaid:=laid_of (d:={ cls:=cw,nc:=ncC (tblT t) (blkF bl) (rpF reps) reps.length,next:=rowsP (bF t bl reps) (ncC (tblT t) (blkF bl) (rpF reps) reps.length) (blkF bl 0) n,acc:=accP t bl reps n }) hcell hc hn (by rw[accP,hl];rfl)
  obtain⟨h1,h2⟩:=zhr hred hn hlaid;exact zlo h1 h2
theorem bF_lt{t:Tab}(h:t.ok){bl reps l:List Nat}(hb:BlkOut (tblT t) l bl reps t.next.length)(hcl:∀ s c,s∈l→c< t.nc→(tblT t).δ s c∈l){x j:Nat}(hx:x< reps.length)(hj:j< (mC t bl reps 256).length):bF t bl reps x j< reps.length:=
  hb.blk _ (hcl _ _ (hb.rep x hx).1 (zxb h bl reps hj))
theorem zoz{t:Tab}(h:t.ok){bl reps l:List Nat}(hb:BlkOut (tblT t) l bl reps t.next.length)(hcl:∀ s c,s∈l→c< t.nc→(tblT t).δ s c∈l)(h0:0∈l)(p:Nat):∀ x∈ordO (bF t bl reps) (mC t bl reps 256).length (blkF bl 0) p,x< reps.length:=
  zg0 (zxa t bl reps) (hb.blk 0 h0) (fun x j hx hj=>bF_lt h hb hcl hx hj) p
theorem zdd{t:Tab}(h:t.ok){bl reps l:List Nat}(hb:BlkOut (tblT t) l bl reps t.next.length)(hcl:∀ s c,s∈l→c< t.nc→(tblT t).δ s c∈l)(h0:0∈l)(p:Nat):(ordO (bF t bl reps) (mC t bl reps 256).length (blkF bl 0) p).length≤reps.length:=z6t (z53 p) (zoz h hb hcl h0 p)
theorem zxd{f:Nat→Nat→Nat}{nc b0 s c:Nat}(hi:s< (ordO f nc b0 (s*nc)).length)(hc:c< nc):numP f nc b0 s c=idxK (ordO f nc b0 (s*nc+(c+1))) (f ((ordO f nc b0 (s*nc)).getD s 0) c):=by
  have hat:=zlx (f:=f) (b0:=b0) hi (Nat.le_add_right (s*nc) c)
  obtain⟨h1,h2⟩:=zfu (s:=s) (nc:=nc) (by omega) hc;rw[numP,tgt,h1,h2,hat];rfl
theorem zjq(d:Dfa):SV.low 0 (dfaV d):=low_cons' trivial (low_cons' trivial (low_cons' trivial low_nil'))
attribute [local irreducible] z0o z0y zl z08 z0v putB fillN mcs ofC z28 rowZ rowsP rowP accP z36
noncomputable def gc1:Ctx:={ P:=Tryd.prog,ty:=ty,glob:=gl,fs:=[(140,.data zr7),(139,.data zx7),(141,.gen (newS ty mergeS))] }
theorem z2n:gc1.OK:=⟨tyOK,⟨⟨z0b Tryd.func140 kR rfl,ztl⟩,⟨z0b Tryd.func139 kR rfl,zx8⟩,⟨z0b Tryd.func141 kR rfl,(gen_new merge_ok)⟩,trivial⟩,mixed⟩
@[simp] theorem gc1_ty:gc1.ty=ty:=rfl

def zi2:QSpec:=fun vs K=>∃ t:Tab,vs=[tabV t]∧t.fit∧K (dfaV (canD ((tblT t).lang 0)))
theorem zmd:z1x Tryd.prog gl 75 zi2:=by
 refine z1c (Γ:=gc1) (N:=127) Tryd.func75 rfl rfl fun vs K h=>?_;obtain⟨t,rfl,ht,h⟩:=h;refine⟨_,h,zjq _,by simp,fun w I=>?_⟩
 have ht0:=ht
 obtain⟨hok,hlen,hnc⟩:=ht0
 have hcl:=hok.clen
 refine srR z2n fun _ K2=>?_
 iterate 2 refine z1q ?_
 refine s_n K2 ?_
 have hlr:=zgh ht
 refine leW [0] (fun _=>1) [(1,.c (.dp (tabC t) 0)),(2,.c (.ptr 0 0))] [(0,.own 30 (.cells [.nils,.nils,.nils]) 3)] 1 [1] uUo_0 uUo_0 uUo_0 uUo_0 ?_;refine srD z2n [(0,true),(1,true),(2,false),(3,false),(4,true),(5,true),(6,true),(7,true),(8,true)] rfl kR kR fun _ K4=>?_;refine zjn ?_;refine exA (tabV t) (SV.as_refl _) ?_;refine zjn ?_;refine exA (tabV t) (SV.as_refl _) ?_;refine zoy ?_;refine aI (z93 _) ?_;refine zc1 _ ?_;refine⟨t,rfl,ht,?_⟩;refine DUo_0 ?_
 first|refine exI ?_|(intro cap2 hcap2;refine exI ?_)
 refine zoy ?_;refine aI (z93 _) ?_;refine zc1 _ ?_;refine⟨t,z36 (tblT t),rfl,ht,hlr,?_⟩;refine DUo_0 ?_
 first|refine exI ?_|(intro cap3 hcap3;refine exI ?_)
 iterate 5 refine zrb ?_
 refine d_n K4 ?_
 simp only[zjp]
 have hout:=zx1 ht hlr
 obtain⟨bl,hbl⟩:∃ bl,bl=finL t (z36 (tblT t)):=⟨_,rfl⟩;obtain⟨reps,hreps⟩:∃ reps,reps=finR t (z36 (tblT t)):=⟨_,rfl⟩;rw[←hbl, ←hreps]at hout;rw[←hbl, ←hreps];refine srR z2n fun _ K6=>?_;refine z4b ?_;refine exA (tabV t) (SV.as_refl _) ?_
 iterate 2 refine z1q ?_
 refine z4b ?_;refine aI (z93 _) ?_;refine zc1 _ ?_;refine⟨t,bl,reps,z36 (tblT t),rfl,ht,hout,hlr.lt,fun cw hcw=>?_⟩;refine DUo_0 ?_
 first|refine exI ?_|(intro cap3 hcap3;refine exI ?_)
 iterate 5 refine z1q ?_
 refine s_n K6 ?_
 simp only[zjp]
 have hrn:=hout.rep
 have hbll:=hout.len
 have hnp:=hok.npos
 have hb0:=hout.blk 0 z3a
 have hrl:reps.length≤65535:=Nat.le_trans (z9u hout hlr.lt) hlen
 have hmp:=zxa t bl reps
 have hml:=mC_le t bl reps 256
 refine leW [] id [(1,.c (.dp (tabC t) 0)),(2,.c (.ptr 0 0)),(3,.c (.ds bl.length (.ints .i64 (natsI bl)))),(4,.c (.ds reps.length (.ints .i64 (natsI reps)))),(5,.c (.ds (mC t bl reps 256).length (.ints .i64 (natsI (mC t bl reps 256))))),(6,.c (.ds (mC t bl reps 256).length (.u64s cw)))] [(0,.own 30 (.cells [.nils,.nils,.nils]) 3)] 1 [0] uUo_0 uUo_0 uUo_0 uUo_0 ?_;refine srR z2n fun _ K8=>?_
 iterate 3 refine z1q ?_
 refine zap ?_;refine s_n K8 ?_;refine srR z2n fun _ K10=>?_
 iterate 4 refine z1q ?_
 refine s_n K10 ?_
 have hZ0:List.replicate reps.length (0:Int)=fillN reps.length (-1) 0:=(z7u _ _).symm
 refine leW [] id [(1,.c (.dp (tabC t) 0)),(2,.c (.ptr 0 0)),(3,.c (.ds bl.length (.ints .i64 (natsI bl)))),(4,.c (.ds reps.length (.ints .i64 (natsI reps)))),(5,.c (.ds (mC t bl reps 256).length (.ints .i64 (natsI (mC t bl reps 256))))),(7,.c (.ptr 1 0)),(8,.c (.slice 2 0 reps.length reps.length))] [(0,.own 30 (.cells [.nils,.nils,.nils]) 3),(1,.own 30 (.cells [.ds (mC t bl reps 256).length (.u64s cw),.nils,.nils]) 3),(2,.own 3 (.ints .i64 (fillN reps.length (-1) 0)) reps.length)] 3 [0,1,2] uUo_0 uUo_0 uUo_0 uUo_0 ?_;refine srR z2n fun _ K12=>?_
 iterate 2 refine z1q ?_
 refine z4b ?_;refine exA (.c (.int .i64 ((((blkF bl 0):Nat):Int)))) (as_i ((congrArg (fun i=>(natsI bl).getD i 0) (by omega)).trans z0q)) ?_
 iterate 2 refine z1q ?_
 refine s_n K12 ?_;refine seq_k fun _ K13=>?_;refine srR z2n fun _ K15=>?_
 iterate 3 refine z1q ?_
 refine s_n K15 ?_;refine z03 ?_;refine z0m (α:=Nat) (fun k=>[(1,.c (.dp (tabC t) 0)),(2,.c (.ptr 0 0)),(3,.c (.ds bl.length (.ints .i64 (natsI bl)))),(4,.c (.ds reps.length (.ints .i64 (natsI reps)))),(5,.c (.ds (mC t bl reps 256).length (.ints .i64 (natsI (mC t bl reps 256))))),(7,.c (.ptr 1 0)),(8,.c (.slice 2 0 reps.length reps.length)),(9,.c (.slice 3 0 1 1)),(41,.c (.int .i64 (reps.length:Nat))),(42,.c (.int .i64 (k:Nat)))]) (fun k=>[(0,.own 30 (.cells [.nils,.nils,.nils]) 3),(1,.own 30 (.cells [.ds (mC t bl reps 256).length (.u64s cw),.nils,.nils]) 3),(2,.own 3 (.ints .i64 (fillN reps.length (-1) k)) reps.length),(3,.own 3 (.ints .i64 (natsI [(blkF bl 0)])) 1)]) 4 (fun k=>k≤reps.length) (fun k=>reps.length - k) ?_ ?_
 ·refine dnS [] id 0 (Nat.zero_le _) [0,1,2,3] uUo_0 uUo_0 uUo_0 uUo_0
 ·intro k hk
  refine srR z2n fun _ K17=>?_;refine z1q ?_;refine s_n K17 ?_;refine seq_k fun _ K18=>?_;refine z04 (b:=_) rfl (fun h_t43=>?_) (fun h_t43=>?_)
  ·try simp only[dQ,reduceIte]at h_t43
   refine z09 ?_;apply K18;refine seq_k fun _ K19=>?_;refine z03 ?_;refine srR z2n fun _ K21=>?_
   iterate 2 refine z1q ?_
   refine s_n K21 ?_
   have hkl:k< reps.length:=by omega
   refine z01 z2n fun _ K22=>?_
   iterate 3 refine z1q ?_
   refine zap ?_;refine s_n K22 ?_;refine z05 ?_;apply K19;refine z01 z2n fun _ K23=>?_
   iterate 2 refine z1q ?_
   refine s_n K23 ?_
   have hX1:(fillN reps.length (-1) k).set (0+((k:Nat):Int).toNat*1) (-1)=fillN reps.length (-1) (k+1):=by rw[show 0+((k:Nat):Int).toNat*1=k by omega];exact z92 _ hkl
   refine dnS [] id (k+1) ⟨by omega,by omega⟩ [0,1,2,3] uUo_0 uUo_0 uUo_0 uUo_0
  ·try simp only[dQ,reduceIte]at h_t43
   refine z0i ?_;refine z00 ?_;refine z00 ?_;refine z0f ?_;apply K13
   obtain rfl:k=reps.length:=by omega
   refine srR z2n fun _ K25=>?_
   iterate 3 refine z1q ?_
   refine z4b ?_;refine exA (.c (.int .i64 ((((blkF bl 0):Nat):Int)))) (as_i ((congrArg (fun i=>(natsI bl).getD i 0) (by omega)).trans z0q)) ?_;refine z1q ?_;refine zap ?_;refine s_n K25 ?_;refine seq_k fun _ K26=>?_;refine srR z2n fun _ K28=>?_;refine z1q ?_;refine s_n K28 ?_;refine z03 ?_;refine z5g 1 1 51 (.cells []) rfl rfl rfl low_nil' ?_;refine z5g 1 2 4 (.bools []) rfl rfl rfl trivial ?_;refine z0m (α:=Nat×Nat×Nat×Nat) (fun g=>[(1,.c (.dp (tabC t) 0)),(2,.c (.ptr 0 0)),(3,.c (.ds bl.length (.ints .i64 (natsI bl)))),(4,.c (.ds reps.length (.ints .i64 (natsI reps)))),(5,.c (.ds (mC t bl reps 256).length (.ints .i64 (natsI (mC t bl reps 256))))),(7,.c (.ptr 1 0)),(8,.c (.slice 2 0 reps.length reps.length)),(9,.c (.slice 3 0 (ordO (bF t bl reps) (mC t bl reps 256).length (blkF bl 0) (g.1*(mC t bl reps 256).length)).length g.2.1)),(11,.c (.int .i64 (g.1:Nat)))]) (fun g=>[(0,.own 30 (.cells [.nils,.nils,.nils]) 3),(1,.own 30 (.cells [.ds (mC t bl reps 256).length (.u64s cw),.slice 4 0 g.1 g.2.2.1,.slice 5 0 g.1 g.2.2.2]) 3),(2,.own 3 (.ints .i64 (z28 (ordO (bF t bl reps) (mC t bl reps 256).length (blkF bl 0) (g.1*(mC t bl reps 256).length)) reps.length)) reps.length),(3,.own 3 (.ints .i64 (natsI (ordO (bF t bl reps) (mC t bl reps 256).length (blkF bl 0) (g.1*(mC t bl reps 256).length)))) g.2.1),(4,.own 51 (.cells (rowsC (rowsP (bF t bl reps) (mC t bl reps 256).length (blkF bl 0) g.1))) g.2.2.1),(5,.own 4 (.bools (accP t bl reps g.1)) g.2.2.2)]) 6 (fun g=>g.1≤reps.length∧(∀ j,j< g.1→j< (ordO (bF t bl reps) (mC t bl reps 256).length (blkF bl 0) (j*(mC t bl reps 256).length)).length)∧g.1≤(ordO (bF t bl reps) (mC t bl reps 256).length (blkF bl 0) (g.1*(mC t bl reps 256).length)).length∧(ordO (bF t bl reps) (mC t bl reps 256).length (blkF bl 0) (g.1*(mC t bl reps 256).length)).length≤g.2.1∧g.1≤g.2.2.1∧g.1≤g.2.2.2) (fun g=>reps.length - g.1) ?_ ?_
   ·have hz:(ordO (bF t bl reps) (mC t bl reps 256).length (blkF bl 0) (0*(mC t bl reps 256).length))=[(blkF bl 0)]:=by rw[Nat.zero_mul];rfl
    have hX1:(fillN reps.length (-1) reps.length).set (0+(((blkF bl 0):Nat):Int).toNat*1) 0=z28 (ordO (bF t bl reps) (mC t bl reps 256).length (blkF bl 0) (0*(mC t bl reps 256).length)) reps.length:=by
     rw[hz,z91, ←zhv,show 0+(((blkF bl 0):Nat):Int).toNat*1=(blkF bl 0) by omega];exact z9r (o:=[]) (by simp)
    have hX2:natsI [(blkF bl 0)]=natsI (ordO (bF t bl reps) (mC t bl reps 256).length (blkF bl 0) (0*(mC t bl reps 256).length)):=by rw[hz]
    have hL0:1=(ordO (bF t bl reps) (mC t bl reps 256).length (blkF bl 0) (0*(mC t bl reps 256).length)).length:=by rw[hz];rfl
    have hX3:([]:List Bool)=accP t bl reps 0:=by unfold accP;rfl
    have hXR:rowsC (rowsP (bF t bl reps) (mC t bl reps 256).length (blkF bl 0) 0)=[]:=by unfold rowsP;rfl
    refine dnS [] id (0,1,0,0) ⟨Nat.zero_le _,fun j hj=>absurd hj (Nat.not_lt_zero j),Nat.zero_le _,by rw[hz];exact Nat.le_refl _,Nat.le_refl _,Nat.le_refl _⟩ [0,1,2,3,4,5] ?_ ?_ ?_ ?_
    ·exact uUo_0
    ·exact uUo_0
    ·exact uUo_0
    ·exact uUo_0
   ·intro g hg
    obtain⟨hg1,hga,hg3,hg4,hg5,hg6⟩:=hg
    have hg:=And.intro hg1 (And.intro hga hg3)
    refine seq_k fun _ K29=>?_;refine srR z2n fun _ K31=>?_
    iterate 4 refine z1q ?_
    refine s_n K31 ?_;refine z04 (b:=_) rfl (fun h_t57=>?_) (fun h_t57=>?_)
    ·try simp only[dQ,reduceIte]at h_t57
     refine z09 ?_;apply K29;refine seq_k fun _ K32=>?_;refine z03 ?_
     have hi:g.1< (ordO (bF t bl reps) (mC t bl reps 256).length (blkF bl 0) (g.1*(mC t bl reps 256).length)).length:=by omega
     have hxl:=zoz hok hout hlr.cl z3a _ _ (getD_mem' hi)
     have hole:=zdd hok hout hlr.cl z3a (g.1*(mC t bl reps 256).length)
     have hsl:=hlr.lt _ (hout.rep _ hxl).1
     have hsl:(rpF reps ((ordO (bF t bl reps) (mC t bl reps 256).length (blkF bl 0) (g.1*(mC t bl reps 256).length)).getD g.1 0))< t.next.length:=hsl
     have hrw:=z8z hok hsl
     refine srR z2n fun _ K34=>?_
     iterate 4 refine z1q ?_
     refine z4b ?_;refine exA (.c (.int .i64 (((((ordO (bF t bl reps) (mC t bl reps 256).length (blkF bl 0) (g.1*(mC t bl reps 256).length)).getD g.1 0):Nat):Int)))) (as_i ((congrArg (fun i=>(natsI (ordO (bF t bl reps) (mC t bl reps 256).length (blkF bl 0) (g.1*(mC t bl reps 256).length))).getD i 0) (by omega)).trans z0q)) ?_;refine z1q ?_;refine z4b ?_;refine exA (.c (.int .i64 (((rpF reps ((ordO (bF t bl reps) (mC t bl reps 256).length (blkF bl 0) (g.1*(mC t bl reps 256).length)).getD g.1 0):Nat):Int)))) (as_i ((congrArg (fun i=>(natsI reps).getD i 0) (by omega)).trans z0q)) ?_;refine z1q ?_;refine s_n K34 ?_;refine srR z2n fun _ K36=>?_
     iterate 4 refine z1q ?_
     refine s_n K36 ?_;refine seq_k fun _ K37=>?_;refine srR z2n fun _ K39=>?_
     iterate 3 refine z1q ?_
     refine s_n K39 ?_;refine z03 ?_;refine z0m (α:=Nat×Nat) (fun c=>[(1,.c (.dp (tabC t) 0)),(2,.c (.ptr 0 0)),(3,.c (.ds bl.length (.ints .i64 (natsI bl)))),(4,.c (.ds reps.length (.ints .i64 (natsI reps)))),(5,.c (.ds (mC t bl reps 256).length (.ints .i64 (natsI (mC t bl reps 256))))),(7,.c (.ptr 1 0)),(8,.c (.slice 2 0 reps.length reps.length)),(9,.c (.slice 3 0 (ordO (bF t bl reps) (mC t bl reps 256).length (blkF bl 0) (g.1*(mC t bl reps 256).length+c.1)).length c.2)),(11,.c (.int .i64 (g.1:Nat))),(12,.c (.int .i64 ((rpF reps ((ordO (bF t bl reps) (mC t bl reps 256).length (blkF bl 0) (g.1*(mC t bl reps 256).length)).getD g.1 0)):Nat))),(13,.c (.slice 6 0 (mC t bl reps 256).length (mC t bl reps 256).length)),(70,.c (.ds (mC t bl reps 256).length (.ints .i64 (natsI (mC t bl reps 256))))),(71,.c (.int .i64 ((mC t bl reps 256).length:Nat))),(72,.c (.int .i64 (c.1:Nat)))]) (fun c=>[(0,.own 30 (.cells [.nils,.nils,.nils]) 3),(1,.own 30 (.cells [.ds (mC t bl reps 256).length (.u64s cw),.slice 4 0 g.1 g.2.2.1,.slice 5 0 g.1 g.2.2.2]) 3),(2,.own 3 (.ints .i64 (z28 (ordO (bF t bl reps) (mC t bl reps 256).length (blkF bl 0) (g.1*(mC t bl reps 256).length+c.1)) reps.length)) reps.length),(3,.own 3 (.ints .i64 (natsI (ordO (bF t bl reps) (mC t bl reps 256).length (blkF bl 0) (g.1*(mC t bl reps 256).length+c.1)))) c.2),(4,.own 51 (.cells (rowsC (rowsP (bF t bl reps) (mC t bl reps 256).length (blkF bl 0) g.1))) g.2.2.1),(5,.own 4 (.bools (accP t bl reps g.1)) g.2.2.2),(6,.own 3 (.ints .i64 (rowZ (bF t bl reps) (mC t bl reps 256).length (blkF bl 0) g.1 c.1)) (mC t bl reps 256).length)]) 7 (fun c=>c.1≤(mC t bl reps 256).length∧(ordO (bF t bl reps) (mC t bl reps 256).length (blkF bl 0) (g.1*(mC t bl reps 256).length+c.1)).length≤c.2) (fun c=>(mC t bl reps 256).length - c.1) ?_ ?_
     ·have hX1:List.replicate (mC t bl reps 256).length (0:Int)=rowZ (bF t bl reps) (mC t bl reps 256).length (blkF bl 0) g.1 0:=(zvo _).symm
      refine dnS [] id (0,g.2.1) ⟨Nat.zero_le _,hg4⟩ [0,1,2,3,4,5,6] uUo_0 uUo_0 uUo_0 uUo_0
     ·intro c hc0
      have hc1:=hc0.1
      have hc2:=hc0.2
      refine srR z2n fun _ K41=>?_;refine z1q ?_;refine s_n K41 ?_;refine seq_k fun _ K42=>?_;refine z04 (b:=_) rfl (fun h_t73=>?_) (fun h_t73=>?_)
      ·try simp only[dQ,reduceIte]at h_t73
       refine z09 ?_;apply K42;refine seq_k fun _ K43=>?_;refine z03 ?_
       have hc:c.1< (mC t bl reps 256).length:=by omega
       have hrc:=zxb hok bl reps hc
       have hx:=nextN hok hsl hrc
       have htl:((bF t bl reps) ((ordO (bF t bl reps) (mC t bl reps 256).length (blkF bl 0) (g.1*(mC t bl reps 256).length)).getD g.1 0) c.1)< reps.length:=bF_lt hok hout hlr.cl hxl hc
       have hat:=zlx (f:=(bF t bl reps)) (b0:=(blkF bl 0)) hi (Nat.le_add_right (g.1*(mC t bl reps 256).length) c.1)
       have hst:(ordO (bF t bl reps) (mC t bl reps 256).length (blkF bl 0) (g.1*(mC t bl reps 256).length+(c.1+1)))=addC (ordO (bF t bl reps) (mC t bl reps 256).length (blkF bl 0) (g.1*(mC t bl reps 256).length+c.1)) ((bF t bl reps) ((ordO (bF t bl reps) (mC t bl reps 256).length (blkF bl 0) (g.1*(mC t bl reps 256).length+c.1)).getD g.1 0) c.1):=zbn (f:=(bF t bl reps)) (b0:=(blkF bl 0)) (i:=g.1) hc
       rw[hat]at hst
       have hst2:=hst
       have hol:=zdd hok hout hlr.cl z3a (g.1*(mC t bl reps 256).length+c.1)
       refine srR z2n fun _ K45=>?_
       iterate 2 refine z1q ?_
       refine z4b ?_;refine exA (.c (.int .i64 (((rpF (mC t bl reps 256) c.1:Nat):Int)))) (as_i ((congrArg (fun i=>(natsI (mC t bl reps 256)).getD i 0) (by omega)).trans z0q)) ?_
       iterate 2 refine z1q ?_
       refine s_n K45 ?_;refine srR z2n fun _ K47=>?_
       iterate 2 refine z1q ?_
       refine z4b ?_;refine exA (.c (.ds t.next.length (.cells (rowsC t.next)))) (as_c (zaa hcl)) ?_
       iterate 2 refine z1q ?_
       refine z4b ?_;refine exA (.c (.ds (t.next.getD (rpF reps ((ordO (bF t bl reps) (mC t bl reps 256).length (blkF bl 0) (g.1*(mC t bl reps 256).length)).getD g.1 0)) []).length (.ints .i64 (t.next.getD (rpF reps ((ordO (bF t bl reps) (mC t bl reps 256).length (blkF bl 0) (g.1*(mC t bl reps 256).length)).getD g.1 0)) [])))) (as_c (z6e ⟨hsl,by omega⟩)) ?_
       iterate 2 refine z1q ?_
       refine z4b ?_;refine exA (.c (.int .i64 ((((tblT t).δ (rpF reps ((ordO (bF t bl reps) (mC t bl reps 256).length (blkF bl 0) (g.1*(mC t bl reps 256).length)).getD g.1 0)) (rpF (mC t bl reps 256) c.1):Nat):Int)))) (as_i ((congrArg (fun i=>(t.next.getD (rpF reps ((ordO (bF t bl reps) (mC t bl reps 256).length (blkF bl 0) (g.1*(mC t bl reps 256).length)).getD g.1 0)) []).getD i 0) (by omega)).trans hx.2)) ?_;refine z1q ?_;refine z4b ?_;refine exA (.c (.int .i64 (((((bF t bl reps) ((ordO (bF t bl reps) (mC t bl reps 256).length (blkF bl 0) (g.1*(mC t bl reps 256).length)).getD g.1 0) c.1):Nat):Int)))) (as_i ((congrArg (fun i=>(natsI bl).getD i 0) (by omega)).trans z0q)) ?_;refine z1q ?_;refine s_n K47 ?_;refine z27 (α:=Nat) (fun y=>[(1,.c (.dp (tabC t) 0)),(2,.c (.ptr 0 0)),(3,.c (.ds bl.length (.ints .i64 (natsI bl)))),(4,.c (.ds reps.length (.ints .i64 (natsI reps)))),(5,.c (.ds (mC t bl reps 256).length (.ints .i64 (natsI (mC t bl reps 256))))),(7,.c (.ptr 1 0)),(8,.c (.slice 2 0 reps.length reps.length)),(9,.c (.slice 3 0 (ordO (bF t bl reps) (mC t bl reps 256).length (blkF bl 0) (g.1*(mC t bl reps 256).length+(c.1+1))).length y)),(11,.c (.int .i64 (g.1:Nat))),(12,.c (.int .i64 ((rpF reps ((ordO (bF t bl reps) (mC t bl reps 256).length (blkF bl 0) (g.1*(mC t bl reps 256).length)).getD g.1 0)):Nat))),(13,.c (.slice 6 0 (mC t bl reps 256).length (mC t bl reps 256).length)),(70,.c (.ds (mC t bl reps 256).length (.ints .i64 (natsI (mC t bl reps 256))))),(71,.c (.int .i64 ((mC t bl reps 256).length:Nat))),(72,.c (.int .i64 (c.1:Nat))),(14,.c (.int .i64 (c.1:Nat))),(16,.c (.int .i64 (((bF t bl reps) ((ordO (bF t bl reps) (mC t bl reps 256).length (blkF bl 0) (g.1*(mC t bl reps 256).length)).getD g.1 0) c.1):Nat)))]) (fun y=>[(0,.own 30 (.cells [.nils,.nils,.nils]) 3),(1,.own 30 (.cells [.ds (mC t bl reps 256).length (.u64s cw),.slice 4 0 g.1 g.2.2.1,.slice 5 0 g.1 g.2.2.2]) 3),(2,.own 3 (.ints .i64 (z28 (ordO (bF t bl reps) (mC t bl reps 256).length (blkF bl 0) (g.1*(mC t bl reps 256).length+(c.1+1))) reps.length)) reps.length),(3,.own 3 (.ints .i64 (natsI (ordO (bF t bl reps) (mC t bl reps 256).length (blkF bl 0) (g.1*(mC t bl reps 256).length+(c.1+1))))) y),(4,.own 51 (.cells (rowsC (rowsP (bF t bl reps) (mC t bl reps 256).length (blkF bl 0) g.1))) g.2.2.1),(5,.own 4 (.bools (accP t bl reps g.1)) g.2.2.2),(6,.own 3 (.ints .i64 (rowZ (bF t bl reps) (mC t bl reps 256).length (blkF bl 0) g.1 c.1)) (mC t bl reps 256).length)]) 7 (fun y=>(ordO (bF t bl reps) (mC t bl reps 256).length (blkF bl 0) (g.1*(mC t bl reps 256).length+(c.1+1))).length≤y) ?_ ?_
       ·refine srR z2n fun _ K49=>?_
        iterate 3 refine z1q ?_
        refine z4b ?_;refine exA (.c (.int .i64 ((z28 (ordO (bF t bl reps) (mC t bl reps 256).length (blkF bl 0) (g.1*(mC t bl reps 256).length+c.1)) reps.length).getD ((bF t bl reps) ((ordO (bF t bl reps) (mC t bl reps 256).length (blkF bl 0) (g.1*(mC t bl reps 256).length)).getD g.1 0) c.1) 0))) (as_i (congrArg (fun i=>(z28 (ordO (bF t bl reps) (mC t bl reps 256).length (blkF bl 0) (g.1*(mC t bl reps 256).length+c.1)) reps.length).getD i 0) (by omega))) ?_;refine z1q ?_;refine s_n K49 ?_;refine z04 (b:=_) rfl (fun h_t92=>?_) (fun h_t92=>?_)
        ·have hno:((bF t bl reps) ((ordO (bF t bl reps) (mC t bl reps 256).length (blkF bl 0) (g.1*(mC t bl reps 256).length)).getD g.1 0) c.1)∉(ordO (bF t bl reps) (mC t bl reps 256).length (blkF bl 0) (g.1*(mC t bl reps 256).length+c.1)):=fun hx=>by
          rw[z6d htl hx]at h_t92
          simp at h_t92;omega
         refine srR z2n fun _ K51=>?_
         iterate 5 refine z1q ?_
         refine zap ?_;refine s_n K51 ?_;refine z01 z2n fun _ K52=>?_
         iterate 3 refine z1q ?_
         refine z4b ?_;intro cap3 hcap3;refine exI ?_;refine z1q ?_;refine s_n K52 ?_;rw[addC,if_neg hno]at hst
         have hX1:(z28 (ordO (bF t bl reps) (mC t bl reps 256).length (blkF bl 0) (g.1*(mC t bl reps 256).length+c.1)) reps.length).set (0+((((bF t bl reps) ((ordO (bF t bl reps) (mC t bl reps 256).length (blkF bl 0) (g.1*(mC t bl reps 256).length)).getD g.1 0) c.1):Nat):Int).toNat*1) (((ordO (bF t bl reps) (mC t bl reps 256).length (blkF bl 0) (g.1*(mC t bl reps 256).length+c.1)).length:Nat):Int)=z28 (ordO (bF t bl reps) (mC t bl reps 256).length (blkF bl 0) (g.1*(mC t bl reps 256).length+(c.1+1))) reps.length:=by rw[show 0+((((bF t bl reps) ((ordO (bF t bl reps) (mC t bl reps 256).length (blkF bl 0) (g.1*(mC t bl reps 256).length)).getD g.1 0) c.1):Nat):Int).toNat*1=((bF t bl reps) ((ordO (bF t bl reps) (mC t bl reps 256).length (blkF bl 0) (g.1*(mC t bl reps 256).length)).getD g.1 0) c.1) by omega,z9r hno,hst]
         have hX2:natsI (ordO (bF t bl reps) (mC t bl reps 256).length (blkF bl 0) (g.1*(mC t bl reps 256).length+c.1))++([]++[((((bF t bl reps) ((ordO (bF t bl reps) (mC t bl reps 256).length (blkF bl 0) (g.1*(mC t bl reps 256).length)).getD g.1 0) c.1):Nat):Int)])=natsI (ordO (bF t bl reps) (mC t bl reps 256).length (blkF bl 0) (g.1*(mC t bl reps 256).length+(c.1+1))):=by rw[hst,List.nil_append,z39]
         have hL0:(ordO (bF t bl reps) (mC t bl reps 256).length (blkF bl 0) (g.1*(mC t bl reps 256).length+c.1)).length+1=(ordO (bF t bl reps) (mC t bl reps 256).length (blkF bl 0) (g.1*(mC t bl reps 256).length+(c.1+1))).length:=by rw[hst,List.length_append];rfl
         refine dnS [] (fun i=>if i=3 then 8 else i) cap3 (by omega) [0,1,2,8,4,5,6] uUo_0 uUo_0 uUo_0 uUo_0
        ·have hin:((bF t bl reps) ((ordO (bF t bl reps) (mC t bl reps 256).length (blkF bl 0) (g.1*(mC t bl reps 256).length)).getD g.1 0) c.1)∈(ordO (bF t bl reps) (mC t bl reps 256).length (blkF bl 0) (g.1*(mC t bl reps 256).length+c.1)):=Classical.byContradiction fun hx=>by
          rw[z9q htl hx]at h_t92;exact absurd h_t92 (by decide)
         refine z09 ?_;rw[addC,if_pos hin]at hst;rw[hst];refine dnS [] id c.2 hc2 [0,1,2,3,4,5,6] uUo_0 uUo_0 uUo_0 uUo_0
       ·intro y hy
        have hmem:((bF t bl reps) ((ordO (bF t bl reps) (mC t bl reps 256).length (blkF bl 0) (g.1*(mC t bl reps 256).length)).getD g.1 0) c.1)∈(ordO (bF t bl reps) (mC t bl reps 256).length (blkF bl 0) (g.1*(mC t bl reps 256).length+(c.1+1))):=by rw[hst2];exact ziw _ _
        have hpl:=z6d (k:=reps.length) htl hmem
        have hol3:=zdd hok hout hlr.cl z3a (g.1*(mC t bl reps 256).length+(c.1+1))
        refine z01 z2n fun _ K53=>?_
        iterate 5 refine z1q ?_
        refine z4b ?_;refine exA (.c (.int .i64 (((numP (bF t bl reps) (mC t bl reps 256).length (blkF bl 0) g.1 c.1:Nat):Int)))) (as_i ((congrArg (fun i=>(z28 (ordO (bF t bl reps) (mC t bl reps 256).length (blkF bl 0) (g.1*(mC t bl reps 256).length+(c.1+1))) reps.length).getD i 0) (by omega)).trans (hpl.trans (congrArg Nat.cast (zxd hi hc).symm)))) ?_;refine z1q ?_;refine zap ?_;refine s_n K53 ?_;refine z05 ?_;apply K43;refine z01 z2n fun _ K54=>?_
        iterate 2 refine z1q ?_
        refine s_n K54 ?_
        have hX1:(rowZ (bF t bl reps) (mC t bl reps 256).length (blkF bl 0) g.1 c.1).set (0+((c.1:Nat):Int).toNat*1) ((numP (bF t bl reps) (mC t bl reps 256).length (blkF bl 0) g.1 c.1:Nat):Int)=rowZ (bF t bl reps) (mC t bl reps 256).length (blkF bl 0) g.1 (c.1+1):=by rw[show 0+((c.1:Nat):Int).toNat*1=c.1 by omega];exact rowZ_set hc
        refine dnS [] id (c.1+1,y) ⟨⟨by show c.1+1≤_;omega,hy⟩,by show _ - (c.1+1)< _;omega⟩ [0,1,2,3,4,5,6] ?_ ?_ ?_ ?_
        ·exact uUo_0
        ·exact uUo_0
        ·exact uUo_0
        ·exact uUo_0
      ·try simp only[dQ,reduceIte]at h_t73
       refine z0i ?_;refine z00 ?_;refine z00 ?_;refine z0f ?_;apply K37
       have hce:c.1=(mC t bl reps 256).length:=by omega
       have hpe:g.1*(mC t bl reps 256).length+c.1=(g.1+1)*(mC t bl reps 256).length:=by rw[hce,Nat.succ_mul]
       rw[hpe];rw[hpe]at hc2
       have hRZ:rowZ (bF t bl reps) (mC t bl reps 256).length (blkF bl 0) g.1 c.1=rowP (bF t bl reps) (mC t bl reps 256).length (blkF bl 0) g.1 (mC t bl reps 256).length:=by rw[hce,zvp]
       rw[hRZ];refine leW [6] id [(1,.c (.dp (tabC t) 0)),(2,.c (.ptr 0 0)),(3,.c (.ds bl.length (.ints .i64 (natsI bl)))),(4,.c (.ds reps.length (.ints .i64 (natsI reps)))),(5,.c (.ds (mC t bl reps 256).length (.ints .i64 (natsI (mC t bl reps 256))))),(7,.c (.ptr 1 0)),(8,.c (.slice 2 0 reps.length reps.length)),(9,.c (.slice 3 0 (ordO (bF t bl reps) (mC t bl reps 256).length (blkF bl 0) ((g.1+1)*(mC t bl reps 256).length)).length c.2)),(11,.c (.int .i64 (g.1:Nat))),(12,.c (.int .i64 ((rpF reps ((ordO (bF t bl reps) (mC t bl reps 256).length (blkF bl 0) (g.1*(mC t bl reps 256).length)).getD g.1 0)):Nat))),(13,.c (.ds (mC t bl reps 256).length (.ints .i64 (rowP (bF t bl reps) (mC t bl reps 256).length (blkF bl 0) g.1 (mC t bl reps 256).length))))] [(0,.own 30 (.cells [.nils,.nils,.nils]) 3),(1,.own 30 (.cells [.ds (mC t bl reps 256).length (.u64s cw),.slice 4 0 g.1 g.2.2.1,.slice 5 0 g.1 g.2.2.2]) 3),(2,.own 3 (.ints .i64 (z28 (ordO (bF t bl reps) (mC t bl reps 256).length (blkF bl 0) ((g.1+1)*(mC t bl reps 256).length)) reps.length)) reps.length),(3,.own 3 (.ints .i64 (natsI (ordO (bF t bl reps) (mC t bl reps 256).length (blkF bl 0) ((g.1+1)*(mC t bl reps 256).length)))) c.2),(4,.own 51 (.cells (rowsC (rowsP (bF t bl reps) (mC t bl reps 256).length (blkF bl 0) g.1))) g.2.2.1),(5,.own 4 (.bools (accP t bl reps g.1)) g.2.2.2)] 6 [0,1,2,3,4,5] uUo_0 uUo_0 uUo_0 uUo_0 ?_;refine srR z2n fun _ K56=>?_
       iterate 4 refine z1q ?_
       refine z4b ?_;intro cap4 hcap4;refine exI ?_;refine z1q ?_;refine zap ?_;refine s_n K56 ?_
       revert cap4 hcap4
       intro capA hcapA
       have hal:=hok.alen
       refine z69 z2n [(0,true),(1,true),(2,true),(3,true),(4,true),(5,true),(6,true),(7,false),(8,false),(9,true),(10,false)] rfl kR kR fun _ K57=>?_
       iterate 3 refine zrb ?_
       refine zjn ?_;refine exA (.c (.ds t.acc.length (.bools t.acc))) (as_c (zwu hcl)) ?_
       iterate 2 refine zrb ?_
       refine zjn ?_;refine exA (.c (.bool (t.acc.getD (rpF reps ((ordO (bF t bl reps) (mC t bl reps 256).length (blkF bl 0) (g.1*(mC t bl reps 256).length)).getD g.1 0)) false))) (as_b (congrArg (fun i=>t.acc.getD i false) (by omega))) ?_;refine gXUo_4 ?_;refine zoy ?_;intro cap8 hcap8;refine exI ?_;refine zrb ?_;refine gX0Uo_5 ?_;refine d_n K57 ?_;refine z05 ?_;apply K32;refine z01 z2n fun _ K58=>?_
       iterate 3 refine z1q ?_
       refine s_n K58 ?_
       have hlen2:=z2k (f:=(bF t bl reps)) (nc:=(mC t bl reps 256).length) (b0:=(blkF bl 0)) (p:=g.1*(mC t bl reps 256).length) (q:=(g.1+1)*(mC t bl reps 256).length) (Nat.mul_le_mul_right _ (by omega))
       have hah:∀ j,j< g.1+1→j< (ordO (bF t bl reps) (mC t bl reps 256).length (blkF bl 0) (j*(mC t bl reps 256).length)).length:=fun j hj=>by
        rcases Nat.lt_or_ge j g.1 with h1|h1
        ·exact hga j h1
        ·obtain rfl:j=g.1:=by omega
         exact hi
       have hX3:accP t bl reps g.1++([]++[t.acc.getD (rpF reps ((ordO (bF t bl reps) (mC t bl reps 256).length (blkF bl 0) (g.1*(mC t bl reps 256).length)).getD g.1 0)) false])=accP t bl reps (g.1+1):=zmc t bl reps g.1
       have hXR:rowsC (rowsP (bF t bl reps) (mC t bl reps 256).length (blkF bl 0) g.1)++([]++[.ds (mC t bl reps 256).length (.ints .i64 (rowP (bF t bl reps) (mC t bl reps 256).length (blkF bl 0) g.1 (mC t bl reps 256).length))])=rowsC (rowsP (bF t bl reps) (mC t bl reps 256).length (blkF bl 0) (g.1+1)):=by
        have:=z4g (rowsP (bF t bl reps) (mC t bl reps 256).length (blkF bl 0) g.1) (rowP (bF t bl reps) (mC t bl reps 256).length (blkF bl 0) g.1 (mC t bl reps 256).length)
        rw[z88,zhw]at this;exact this
       refine dnS [] (fun i=>if i=4 then 7 else if i=5 then 9 else i) (g.1+1,c.2,capA,cap8) ⟨⟨by show g.1+1≤_;omega,hah,(by show g.1+1≤(ordO (bF t bl reps) (mC t bl reps 256).length (blkF bl 0) ((g.1+1)*(mC t bl reps 256).length)).length;omega),hc2,(by show g.1+1≤capA;omega),(by show g.1+1≤cap8;omega)⟩,by show _ - (g.1+1)< _;omega⟩ [0,1,2,3,7,9] ?_ ?_ ?_ ?_
       ·exact uUo_0
       ·exact uUo_0
       ·exact uUo_0
       ·exact uUo_0
    ·try simp only[dQ,reduceIte]at h_t57
     refine z0i ?_;refine z00 ?_;refine z00 ?_;refine z0f ?_;apply K26
     have hclo:=zbo hmp hg.2.1 (by omega)
     have hcan:=zxc ht hout hcw hclo
     refine leW [4,5] id [(2,.c (.ptr 0 0)),(7,.c (.ptr 1 0))] [(0,.own 30 (.cells [.nils,.nils,.nils]) 3),(1,.own 30 (.cells [.ds (mC t bl reps 256).length (.u64s cw),.ds g.1 (.cells (rowsC (rowsP (bF t bl reps) (mC t bl reps 256).length (blkF bl 0) g.1))),.ds g.1 (.bools (accP t bl reps g.1))]) 3)] 2 [0,1] uUo_0 uUo_0 uUo_0 uUo_0 ?_;refine srR z2n fun _ K60=>?_;refine z1q ?_;refine zap ?_;refine s_n K60 ?_;rw[hcan];refine z0e (z0g z2n (fun _ _ h=>h) (zjq _) [] [.cell 2 30] rfl ?_)
     repeat first|refine aI (by first|exact trivial|rfl|exact⟨rfl,rfl⟩|decide) ?_|refine z0a (by first|exact⟨rfl,rfl⟩|rfl|decide) ?_|refine z07 (by first|rfl|decide) ?_
     all_goals exact uUo_0


end Go.Proofs.YtppmnaoollkboaaDoor

namespace Go.Proofs.YtppmnaoollkboaaDoor
set_option linter.all false
open Go.Ab Go.RowKit

theorem uUp_0{a:Prop}(h:a:=by
    repeat' (first|exact z2w _|exact pT|exact trivial|refine aI ?_ ?_|exact cC0|refine low_cons' ?_ ?_|exact cC1|fail)
    all_goals first|omega|exact z2w _|(show(_:List Bool)=_;first|assumption|rfl)|(show allTo _ _ _;rw[zxf hcl rfl];refine z8x ⟨rfl,rfl⟩ ?_;(repeat' (first|exact trivial|refine aI ?_ ?_|rfl|omega|decide|(simp;done)|rw[if_pos ⟨rfl,by simp⟩])))|(show(_:Nat)=0∧_;exact⟨rfl,rfl⟩)|(show(0:Nat)< (z08 _ _ _ _).length;rw[z06 hcl];decide)|(simp[-List.reduceReplicate];done)|(simp[-List.reduceReplicate]<;>omega)|skip):a:=h
open Go.Aut
theorem zxf{cell:List Int}{nc i:Nat}{x y z:Cell}(h:cell.length=256)(hi:i=258):(z08 cell nc x y).set i z=z08 cell nc x z:=by
  subst hi;rw[z08,z08,List.set_append_right _ _ (by simp[h])]
  simp[h]
def noD:Dfa:=⟨[],0,[],[]⟩
abbrev resV(r:Dfa×Nat):SV:=.tup [.agg (dfaC r.1),.c (.int .i64 ((r.2:Nat):Int))]
def limL(d:Dfa):Dfa×Nat:=if 64< d.next.length then(noD,2) else(d,0)
theorem z2w(d:Dfa){n:Nat}:(dfaC d).low n:=low_cons' trivial (low_cons' trivial (low_cons' trivial low_nil'))
theorem z1h(r:Dfa×Nat):SV.low 0 (resV r):=List.forall_mem_cons.2 ⟨z2w _,List.forall_mem_cons.2 ⟨trivial,fun _ h=>by cases h⟩⟩
theorem zrc{d:Dfa}(h:d.good):(tabD d).fit:=⟨z2t h.1,Nat.le_trans h.2 (by decide),h.1.cmax⟩
theorem can_tabD(d:Dfa):canD ((tblT (tabD d)).lang 0)=canD (langD d):=z55 fun w hw=>zls d 0 hw
noncomputable def zme(d:Dfa):Dfa×Nat:=if z4x d=true then(canD (langD d),0) else(noD,1)
theorem zbg{t:Tab}(h:t.ok):∀ (w:List Nat) (s:Nat),Bytes w→s< t.next.length→(tblT t).run s w< t.next.length
  |[],_,_,hs=>hs
  |b::w,s,hw,hs=>zbg h w _ (fun x hx=>hw x (List.mem_cons_of_mem _ hx)) (nextN h hs (cellN h (hw b List.mem_cons_self)).1).1
def notL(l:List Bool)(k:Nat):List Bool:=(List.range l.length).map fun i=>if i< k then !l.getD i false else false
@[simp] theorem notL_length(l:List Bool)(k:Nat):(notL l k).length=l.length:=by simp[notL]
theorem notL_zero(l:List Bool):List.replicate l.length false=notL l 0:=by simp[notL,List.map_const']
attribute [local irreducible] z0o z0y zl z08 z0v putB notL canD
noncomputable def gp1:Ctx:={ P:=Tryd.prog,ty:=ty,glob:=gl,fs:=[(75,.data zi2),(50,.flat zoo),(74,.data zjf)] }
theorem zi3:gp1.OK:=⟨tyOK,⟨⟨z0b Tryd.func75 kR rfl,zmd⟩,⟨z0b Tryd.func50 kR rfl,zm2⟩,⟨z0b Tryd.func74 kR rfl,zhz⟩,trivial⟩,mixed⟩
@[simp] theorem gp1_ty:gp1.ty=ty:=rfl

def canonS:QSpec:=fun vs K=>∃ d:Dfa,vs=[dfaV d]∧d.wf∧K (resV (zme d))
theorem canon_ok:z1x Tryd.prog gl 30 canonS:=by
 refine z1c (Γ:=gp1) (N:=11) Tryd.func30 rfl rfl fun vs K h=>?_;obtain⟨d,rfl,hw,h⟩:=h;refine⟨_,h,z1h _,by simp,fun w I=>?_⟩;refine srR zi3 fun _ K2=>?_
 iterate 3 refine z4y ?_
 refine s_n K2 ?_;refine seq_k fun _ K3=>?_;refine srR zi3 fun _ K5=>?_;refine z4y ?_;refine zjg ?_;refine⟨d,rfl,hw,?_⟩;refine DUj_0 ?_
 first|refine exI ?_|(intro cap1 hcap1;refine exI ?_)
 refine z4y ?_;refine s_n K5 ?_;refine z04 (b:=_) rfl (fun h_t6=>?_) (fun h_t6=>?_)
 ·try simp only[dQ,reduceIte]at h_t6
  refine srR zi3 fun _ K7=>?_;refine z4y ?_;refine sX0Uj_6 ?_;refine z4y ?_;refine s_n K7 ?_;rw[zme,if_neg (by simpa using h_t6)];refine z0e (z0g zi3 (fun _ _ h=>h) (z1h _) [] [.cell 2 30,.tmp 3] rfl ?_)
  repeat first|refine aI (by first|exact trivial|rfl|exact⟨rfl,rfl⟩|decide) ?_|refine z0a (by first|rfl|decide) ?_|refine z07 (by first|rfl|decide) ?_
  all_goals exact uUp_0
 ·try simp only[dQ,reduceIte]at h_t6
  refine z09 ?_;apply K3
  have hg:=(zd9 hw).1 (by simpa using h_t6)
  refine srR zi3 fun _ K9=>?_;refine z4y ?_;refine zjg ?_;refine⟨d,rfl,hg,?_⟩;refine DUj_0 ?_
  first|refine exI ?_|(intro cap1 hcap1;refine exI ?_)
  refine zjg ?_;refine aI (z93 _) ?_;refine zc1 _ ?_;refine⟨tabD d,rfl,zrc hg,?_⟩;rw[can_tabD]
  simp only[zjp]
  refine DUj_0 ?_
  first|refine exI ?_|(intro cap2 hcap2;refine exI ?_)
  refine sX0Uj_6 ?_;refine z4y ?_;refine s_n K9 ?_;rw[zme,if_pos (by simpa using h_t6)];refine z0e (z0g zi3 (fun _ _ h=>h) (z1h _) [] [.cell 2 30,.tmp 3] rfl ?_)
  repeat first|refine aI (by first|exact trivial|rfl|exact⟨rfl,rfl⟩|decide) ?_|refine z0a (by first|rfl|decide) ?_|refine z07 (by first|rfl|decide) ?_
  all_goals exact uUp_0

end Go.Proofs.YtppmnaoollkboaaDoor
