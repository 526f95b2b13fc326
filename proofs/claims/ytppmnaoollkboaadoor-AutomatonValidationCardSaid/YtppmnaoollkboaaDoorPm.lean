/- Part 13 of what the claims of this seat share: the walk's engine, the functions' contracts, plain mathematics (Uti, Utj). -/
import Derived.Test.YtppmnaoollkboaaDoorPl
import Derived.Test.YtppmnaoollkboaaDoorPb
set_option maxHeartbeats 8000000
set_option maxRecDepth 4000
namespace Go.Proofs.YtppmnaoollkboaaDoor
set_option linter.all false
open Go.Ab Go.RowKit

section
variable {a b:Prop}
theorem qUti0(h:a:=by first|exact vcA|(simp[-List.reduceReplicate]<;>omega)|exact vTr|exact vTx|exact vTy|(show(List.replicate 256 (0:Int)).length=(jL _ _ _).length;rw[z0h,List.length_replicate])|(show 256=(jL _ _ _).length;rw[z0h])|(show 0< (jL _ _ _).length;rw[z0h];decide)|(show 0+(jL _ _ _).length≤(List.replicate 256 (0:Int)).length;rw[z0h,List.length_replicate];decide)|(show 0+256*1≤(jL _ _ _).length;rw[z0h];decide)|(show(jL _ _ _).length=256*1;rw[z0h])|exact vcB):a:=h
theorem z5b(h:a:=by
    repeat' (first|exact z1b _|exact z3b _|exact z3k (z0z z24 z2h)|exact z3k (z0z z24 (z0z z24 (z0z z24 z2h)))|exact pT|exact trivial|refine aI ?_ ?_|exact cC0|refine low_cons' ?_ ?_|exact cC1|fail)
    all_goals first|omega|exact z1b _|(show 0< (z02 _ _ _ _).length;rw[z00 hx.1.clen];decide)|(show 0< (z02 _ _ _ _).length;rw[z00 hy.1.clen];decide)|(show 0< (jL _ _ _).length;rw[z0h];decide)|(intro z hz;rw[List.mem_singleton.1 hz];exact⟨rfl,fun g l e=>by cases e⟩)|exact Nat.one_pos|(show(0:Nat)< (z02 _ _ _ _).length;rw[z00 hcl];decide)|(simp[-List.reduceReplicate];done)|(simp[-List.reduceReplicate]<;>omega)|skip):a:=h
theorem z0p(kZ:b)(h:HidB b→a:=by intro kZ;(repeat first|refine aI qUti0 ?_|refine z04 qUti0 ?_|refine z03 qUti0 ?_|refine z0m qUti0 ?_|refine z0c ?_);exact kZ.out):a:=h ⟨kZ⟩
theorem z2f(kZ:b)(h:HidB b→a:=by intro kZ;refine sX ?_;refine z0p ?_;refine exI ?_;exact kZ.out):a:=h ⟨kZ⟩
theorem z67(kZ:b)(h:HidB b→a:=by intro kZ;refine sX0 ?_;refine z0p ?_;refine exI ?_;exact kZ.out):a:=h ⟨kZ⟩
theorem ztt(kZ:b)(h:HidB b→a:=by intro kZ;refine sXT ?_;refine z0p ?_;refine exI ?_;exact kZ.out):a:=h ⟨kZ⟩
theorem zgj(kZ:b)(h:HidB b→a:=by intro kZ;refine gX0 ?_;refine z0p ?_;refine exI ?_;exact kZ.out):a:=h ⟨kZ⟩
theorem z9g(kZ:b)(h:HidB b→a:=by intro kZ;refine dX ?_;refine z0p ?_;refine exI ?_;exact kZ.out):a:=h ⟨kZ⟩
theorem gXUti_6(kZ:b)(h:HidB b→a:=by intro kZ;refine gX ?_;refine z0p ?_;refine exI ?_;exact kZ.out):a:=h ⟨kZ⟩
theorem z5l(kZ:b)(h:HidB b→a:=by intro kZ;refine sX ?_;refine z0p ?_;exact kZ.out):a:=h ⟨kZ⟩
theorem y03(kZ:b)(h:HidB b→a:=by intro kZ;refine sXT ?_;refine z0p ?_;exact kZ.out):a:=h ⟨kZ⟩
theorem ztu(kZ:b)(h:HidB b→a:=by intro kZ;refine dX ?_;refine z0p ?_;exact kZ.out):a:=h ⟨kZ⟩
theorem zio(kZ:b)(h:HidB b→a:=by intro kZ;refine gX ?_;refine z0p ?_;exact kZ.out):a:=h ⟨kZ⟩
theorem zkb(h:a:=by exact(And.intro (And.intro rfl rfl) (And.intro (z9j _) (And.intro (z9j _) (And.intro (And.intro rfl rfl) (And.intro (And.intro rfl rfl) trivial)))))):a:=h
theorem zkc(h:a:=by exact(And.intro (show(0:Nat)< 3 by decide) (And.intro (z3b _) (And.intro (z3b _) (And.intro (show(1:Nat)< 3 by decide) (And.intro (show(2:Nat)< 3 by decide) trivial)))))):a:=h
theorem y04(h:a:=by exact(And.intro (And.intro (by decide) z68) (And.intro (And.intro (by decide) zt_low) (And.intro (And.intro (by decide) zt_low) trivial)))):a:=h
theorem zfg(h:a:=by exact(And.intro (And.intro rfl rfl) (And.intro (z9j _) (And.intro (z9j _) (And.intro (And.intro rfl rfl) trivial))))):a:=h
theorem z7q(h:a:=by exact(And.intro (And.intro List.not_mem_nil (And.intro rfl (And.intro rfl z9k))) (And.intro (And.intro List.not_mem_nil (And.intro rfl (And.intro zl_len' zk1))) trivial))):a:=h
theorem zfh(h:a:=by exact(And.intro (show(0:Nat)< 2 by decide) (And.intro (z3b _) (And.intro (z3b _) (And.intro (show(1:Nat)< 2 by decide) trivial))))):a:=h
theorem z3h(h:a:=by exact(And.intro (And.intro (by decide) z68) (And.intro (And.intro (by decide) zi1) trivial))):a:=h
theorem z9v(h:a:=by exact(And.intro (And.intro List.not_mem_nil (And.intro rfl (And.intro rfl z9k))) (And.intro (And.intro List.not_mem_nil (And.intro rfl (And.intro rfl zl_to))) trivial))):a:=h
theorem zd9(h:a:=by exact(And.intro (And.intro rfl rfl) (And.intro (z9j _) (And.intro (z9i _) (And.intro (And.intro rfl rfl) (And.intro (And.intro rfl rfl) trivial)))))):a:=h
theorem zkd(h:a:=by exact(And.intro (And.intro List.not_mem_nil (And.intro rfl (And.intro rfl z9k))) (And.intro (And.intro List.not_mem_nil (And.intro rfl (And.intro rfl zl_to))) (And.intro (And.intro List.not_mem_nil (And.intro rfl (And.intro zl_len' zk1))) trivial)))):a:=h
theorem z9h(h:a:=by exact(And.intro (show(0:Nat)< 3 by decide) (And.intro (z3b _) (And.intro (z1b _) (And.intro (show(1:Nat)< 3 by decide) (And.intro (show(2:Nat)< 3 by decide) trivial)))))):a:=h
theorem z46(h:a:=by exact(And.intro (And.intro (by decide) z68) (And.intro (And.intro (by decide) zi1) (And.intro (And.intro (by decide) zi1) trivial)))):a:=h
theorem zen(h:a:=by exact(And.intro (And.intro List.not_mem_nil (And.intro rfl (And.intro rfl z9k))) (And.intro (And.intro List.not_mem_nil (And.intro rfl (And.intro zl_len' zk1))) (And.intro (And.intro List.not_mem_nil (And.intro rfl (And.intro rfl zl_to))) trivial)))):a:=h
theorem ziq(h:a:=by exact(And.intro (And.intro List.not_mem_nil (And.intro rfl (And.intro rfl z9k))) (And.intro (And.intro List.not_mem_nil (And.intro rfl (And.intro rfl zl_to))) (And.intro (And.intro List.not_mem_nil (And.intro rfl (And.intro rfl zl_to))) trivial)))):a:=h
theorem y05(h:a:=by exact(And.intro (And.intro rfl rfl) (And.intro (z9j _) (And.intro (z9j _) trivial)))):a:=h
theorem zc2(h:a:=by exact(And.intro (And.intro List.not_mem_nil (And.intro rfl (And.intro rfl z9k))) trivial)):a:=h
theorem y06(h:a:=by exact(And.intro (show(0:Nat)< 1 by decide) (And.intro (z3b _) (And.intro (z3b _) trivial)))):a:=h
theorem z6l(h:a:=by exact(And.intro (And.intro rfl rfl) (And.intro (z9j _) (And.intro (z9i _) (And.intro (And.intro rfl rfl) trivial))))):a:=h
theorem z6m(h:a:=by exact(And.intro (show(0:Nat)< 2 by decide) (And.intro (z3b _) (And.intro (z1b _) (And.intro (show(1:Nat)< 2 by decide) trivial))))):a:=h
theorem zqy(h:a:=by exact(And.intro (And.intro rfl rfl) (And.intro (z9j _) (And.intro (z9i _) trivial)))):a:=h
theorem zqz(h:a:=by exact(And.intro (show(0:Nat)< 1 by decide) (And.intro (z3b _) (And.intro (z1b _) trivial)))):a:=h
theorem zir(h:a:=by exact(And.intro (And.intro rfl rfl) (And.intro (z9i _) (And.intro (z9i _) (And.intro (And.intro rfl rfl) (And.intro (And.intro rfl rfl) trivial)))))):a:=h
theorem zis(h:a:=by exact(And.intro (show(0:Nat)< 3 by decide) (And.intro (z1b _) (And.intro (z1b _) (And.intro (show(1:Nat)< 3 by decide) (And.intro (show(2:Nat)< 3 by decide) trivial)))))):a:=h
theorem zeo(h:a:=by exact(And.intro (And.intro rfl rfl) (And.intro (z9i _) (And.intro (z9i _) (And.intro (And.intro rfl rfl) trivial))))):a:=h
theorem zep(h:a:=by exact(And.intro (show(0:Nat)< 2 by decide) (And.intro (z1b _) (And.intro (z1b _) (And.intro (show(1:Nat)< 2 by decide) trivial))))):a:=h
theorem y07(h:a:=by exact(And.intro (And.intro rfl rfl) (And.intro (z9i _) (And.intro (z9i _) trivial)))):a:=h
theorem y08(h:a:=by exact(And.intro (show(0:Nat)< 1 by decide) (And.intro (z1b _) (And.intro (z1b _) trivial)))):a:=h
end
open Go.Aut
attribute [local irreducible] z0s z12 zl z02 z11 putB prodT canD jL jrep exR z39
noncomputable def gh3:Ctx:={ P:=Tryd.prog,ty:=ty,glob:=gl,fs:=[(50,.flat z7v),(74,.data z9a),(75,.data z8k),(76,.data ztf),(83,.data zgc),(77,.flat entS),(80,.data (zgb 78 cat2S 81 cat3S))] }
theorem z0t:gh3.OK:=⟨tyOK,⟨⟨z08 Tryd.func50 kR rfl,z5h⟩,⟨z08 Tryd.func74 kR rfl,z6y⟩,⟨z08 Tryd.func75 kR rfl,z7o⟩,⟨z08 Tryd.func76 kR rfl,zm1⟩,⟨z08 Tryd.func83 kR rfl,zef⟩,⟨z08 Tryd.func77 kR rfl,ent_ok⟩,⟨z08 Tryd.func80 kR rfl,zec (z08 Tryd.func78 kR rfl) cat2_ok (z08 Tryd.func81 kR rfl) cat3_ok (by decide)⟩,trivial⟩,mixed⟩
@[simp] theorem gh3_ty:gh3.ty=ty:=rfl

theorem zt_to{ty:Nat→Ty}{H:Heap}{is:List Nat}{ρ:Nat→Nat}:allTo (Cell.to ty H is ρ) zl (List.replicate 257 (Cell.int .i64 0)++List.replicate 2 .nils):=by
  have h:= @zl_to ty H is ρ
  unfold zl at h ⊢;exact h
theorem zt_to1{ty:Nat→Ty}{H:Heap}{is:List Nat}{ρ:Nat→Nat}:allTo (Cell.to ty H is ρ) (List.replicate 257 (Cell.int .i64 0)++List.replicate 2 .nils) (List.replicate 257 (Cell.int .i64 0)++List.replicate 2 .nils):=by
  have h:= @zl_to ty H is ρ
  unfold zl at h;exact h
theorem zt_low{n:Nat}:(Cont.cells (List.replicate 257 (Cell.int .i64 0)++List.replicate 2 .nils)).low n:=by
  have h:= @zi1 n
  unfold zl at h;exact h
theorem z9i{ty:Nat→Ty}{H:Heap}{is:List Nat}{ρ:Nat→Nat}(d:Dfa):SV.to ty H is ρ (.agg (dfaC d)) (.agg (dfaC d)):=And.intro (And.intro rfl rfl) (And.intro (And.intro rfl rfl) (And.intro (And.intro rfl rfl) trivial))
theorem z9j{ty:Nat→Ty}{H:Heap}{is:List Nat}{ρ:Nat→Nat}(t:Tab):SV.to ty H is ρ (tabV t) (tabV t):=z2w ⟨rfl,rfl⟩ ⟨rfl,rfl⟩
theorem z9k{ty:Nat→Ty}{H:Heap}{is:List Nat}{ρ:Nat→Nat}:allTo (Cell.to ty H is ρ) [.nils,.nils,.nils] [.nils,.nils,.nils]:=And.intro trivial (And.intro trivial (And.intro trivial trivial))
theorem z68{n:Nat}:(Cont.cells [.nils,.nils,.nils]).low n:=low_cons' trivial (low_cons' trivial (low_cons' trivial low_nil'))
def ztv:QSpec:=fun vs K=>∃ d e:Dfa,vs=[dfaV d,dfaV e]∧(d.wf∧e.wf)∧K (resV (z79 d e))
theorem zvj:z1w Tryd.prog gl 23 ztv:=by
 refine z1c (Γ:=gh3) (N:=57) Tryd.func23 rfl rfl fun vs K h=>?_;obtain⟨d,e,rfl,⟨hd,he⟩,h⟩:=h;refine⟨_,h,z10 _,by simp,fun w I=>?_⟩;refine srR z0t fun _ K2=>?_
 iterate 4 refine z2f ?_
 refine s_n K2 ?_;refine seq_k fun _ K3=>?_;refine srR z0t fun _ K5=>?_;refine z2f ?_;refine z5l ?_;refine⟨d,rfl,hd,?_⟩;refine z0p ?_
 first|refine exI ?_|(intro cap1 hcap1;refine exI ?_)
 refine z2f ?_;refine z5l ?_;refine exB (fun hb3=>?_) (fun hb3=>?_)
 ·try simp only[dQ,reduceIte]at hb3
  iterate 3 refine sN ?_
  refine z2f ?_;refine s_n K5 ?_;refine z09 (b:=_) rfl (fun _=>?_) (fun h_t21=>?_)
  rotate_left 1
  ·exfalso;simp at h_t21
  refine srR z0t fun _ K7=>?_;refine z2f ?_;refine z67 ?_;refine z2f ?_;refine s_n K7 ?_
  have hno:¬ (z0w d=true∧z0w e=true):=by intro hh;simp_all
  rw[z79,if_neg hno];refine z0g (z0k z0t (fun _ _ h=>h) (z10 _) [] [.cell 4 30,.tmp 5] rfl ?_)
  repeat first|refine aI (by first|exact trivial|rfl|exact⟨rfl,rfl⟩|decide) ?_|refine z04 (by first|rfl|decide) ?_|refine z03 (by first|rfl|decide) ?_
  all_goals exact z5b
 ·try simp only[dQ,reduceIte]at hb3
  refine ztt ?_;refine y03 ?_;refine⟨e,rfl,he,?_⟩;refine z0p ?_
  first|refine exI ?_|(intro cap5 hcap5;refine exI ?_)
  refine ztt ?_;refine z2f ?_;refine s_n K5 ?_;refine z09 (b:=_) rfl (fun h_t21=>?_) (fun h_t21=>?_)
  ·try simp only[dQ,reduceIte]at h_t21
   refine srR z0t fun _ K9=>?_;refine z2f ?_;refine z67 ?_;refine z2f ?_;refine s_n K9 ?_
   have hno:¬ (z0w d=true∧z0w e=true):=by intro hh;simp_all
   rw[z79,if_neg hno];refine z0g (z0k z0t (fun _ _ h=>h) (z10 _) [] [.cell 4 30,.tmp 5] rfl ?_)
   repeat first|refine aI (by first|exact trivial|rfl|exact⟨rfl,rfl⟩|decide) ?_|refine z04 (by first|rfl|decide) ?_|refine z03 (by first|rfl|decide) ?_
   all_goals exact z5b
  ·try simp only[dQ,reduceIte]at h_t21
   refine z0b ?_;apply K3;refine seq_k fun _ K10=>?_
   have hvd:z0w d=true:=by simp_all
   have hve:z0w e=true:=by simp_all
   have hgd:=(z1e hd).1 hvd
   have hge:=(z1e he).1 hve
   have gd:=z9c hgd
   have ge:=z9c hge
   have hx:=z14 gd.1
   have hy:=z14 ge.1
   have hcc:∀ w,Bytes w→_:=fun w hw=>cat_can hgd hge hw
   obtain⟨x,hxe⟩:∃ x,x=(tabD (canD (langD d))):=⟨_,rfl⟩;obtain⟨y,hye⟩:∃ y,y=(tabD (canD (langD e))):=⟨_,rfl⟩;rw[←hxe]at hx hcc;rw[←hye]at hy hcc
   have hex:=cat_exin hx hy
   refine zwg z0t ?_;refine z1h 2 #[true,true,true,true,true,true,true,true,true,true,false,false] [(4,.c (.ptr 0 0)),(26,tabV x),(30,tabV y),(6,.c (.ptr 1 0)),(7,.c (.ptr 2 0))] [(0,.own 30 (.cells [.nils,.nils,.nils]) 3),(1,.own 87 (.cells (List.replicate 257 (.int .i64 0)++List.replicate 2 .nils)) (Cont.len (.cells (List.replicate 257 (.int .i64 0)++List.replicate 2 .nils)))),(2,.own 87 (.cells (List.replicate 257 (.int .i64 0)++List.replicate 2 .nils)) (Cont.len (.cells (List.replicate 257 (.int .i64 0)++List.replicate 2 .nils))))] 3 ?_ fun nd_1_2_3_5_6_7_8_9=>?_
   ·refine z5g z0t (g:=0) kR [(10,false),(11,false)] kR fun _ K12=>?_
    iterate 2 refine zgj ?_
    refine d_n K12 ?_;refine z4r kR ?_;apply K10;refine leW [1,2] id [(4,.c (.ptr 0 0)),(6,.c (dpT x)),(7,.c (dpT y))] [(0,.own 30 (.cells [.nils,.nils,.nils]) 3)] 1 [0] z5b z5b z5b z5b ?_;refine srR z0t fun _ K14=>?_;refine z5l ?_;refine exA (tabV x) (SV.as_refl _) ?_;refine z5l ?_;refine exA (tabV y) (SV.as_refl _) ?_;refine z5l ?_;refine aI (z0x _) ?_;refine z15 _ ?_;refine aI (z0x _) ?_;refine z15 _ ?_;refine⟨x,y,rfl,⟨hx,hy⟩,?_⟩
    simp only[z28]
    refine z0p ?_
    first|refine exI ?_|(intro cap2 hcap2;refine exI ?_)
    iterate 4 refine z2f ?_
    refine z67 ?_;refine z2f ?_;refine s_n K14 ?_;refine leW [1] id [(4,.c (.ptr 0 0)),(6,.c (dpT x)),(7,.c (dpT y)),(8,.c (.dp (.ints .i64 (jL x y 256)) 0)),(9,.c (.ds (jrep (cN x) (cN y)).length (.ints .i64 (natsI (jrep (cN x) (cN y))))))] [(0,.own 30 (.cells [.nils,.nils,.nils]) 3)] 1 [0] z5b z5b z5b z5b ?_;refine srR z0t fun _ K16=>?_
    iterate 2 refine z2f ?_
    refine z67 ?_;refine s_n K16 ?_;refine leW [1] id [(4,.c (.ptr 0 0)),(6,.c (dpT x)),(7,.c (dpT y)),(8,.c (.dp (.ints .i64 (jL x y 256)) 0)),(9,.c (.ds (jrep (cN x) (cN y)).length (.ints .i64 (natsI (jrep (cN x) (cN y)))))),(10,.c (cloE x))] [(0,.own 30 (.cells [.nils,.nils,.nils]) 3)] 1 [0] z5b z5b z5b z5b ?_;refine srR z0t fun _ K18=>?_
    iterate 2 refine z2f ?_
    refine s_n K18 ?_;refine seq_k fun _ K19=>?_;refine zwg z0t ?_;refine z5g z0t (g:=8) kR [(0,true),(1,true),(2,true),(3,true),(5,true),(6,true)] kR fun _ K21=>?_;refine ztu ?_;refine exA (.agg (.ints .i64 (jL x y 256))) (SV.as_refl _) ?_
    iterate 2 refine z9g ?_
    refine ztu ?_;refine exA (stV (0,0,0)) (as_eq rfl) ?_
    iterate 2 refine z9g ?_
    refine d_n K21 ?_;refine z2b [4,11] kR (by decide) (List.forall_mem_cons.2 ⟨?_,List.forall_mem_cons.2 ⟨?_,fun _ h=>by cases h⟩⟩)
    ·refine z0f z0t ?_
     refine z0p ?_;refine aI (nc_st _) ?_;refine⟨x,(0,0,0),rfl,⟨hx,hx.1.npos⟩,?_⟩;refine z0p ?_
     first|refine exA (stV (cat0 x)) (SV.as_refl _) ?_|(intro cap4 hcap4;refine exA (stV (cat0 x)) (SV.as_refl _) ?_)
     refine z2b [7,11] kR (by decide) (List.forall_mem_cons.2 ⟨?_,List.forall_mem_cons.2 ⟨?_,fun _ h=>by cases h⟩⟩)
     ·refine z0f z0t ?_
      refine z0p ?_;refine aI (nc_st _) ?_;refine aI (nc_4 _ _) ?_;refine aI (nc_1 _) ?_;refine⟨catG x y,catA y,catI x,jL x y 256,jrep (cN x) (cN y),cat0 x,[cloE x,dpT x,dpT y],[dpT y],4096,rfl,hex,?_⟩
      have hrc:(exR (catG x y) (catA y) (jL x y 256) (jrep (cN x) (cN y)) (cat0 x) 4096).1.cell.length=256:=zm8 (z0h x y 256)
      have hry:(exR (catG x y) (catA y) (jL x y 256) (jrep (cN x) (cN y)) (cat0 x) 4096).2=true→(exR (catG x y) (catA y) (jL x y 256) (jrep (cN x) (cN y)) (cat0 x) 4096).1.fit∧_:=fun hh=>(zgi (by decide) (fun s c hc=>zij s hc) hcc (zfe hh)).imp_right And.right
      have hrn:(exR (catG x y) (catA y) (jL x y 256) (jrep (cN x) (cN y)) (cat0 x) 4096).2=false→_:=fun hh=>ex_no hh
      have hrs:(exR (catG x y) (catA y) (jL x y 256) (jrep (cN x) (cN y)) (cat0 x) 4096).2=true→_:=fun hh=>zfe hh
      obtain⟨r,hr⟩:∃ r,r=(exR (catG x y) (catA y) (jL x y 256) (jrep (cN x) (cN y)) (cat0 x) 4096):=⟨_,rfl⟩;rw[←hr]at hrc hry hrn hrs ⊢;refine z0p ?_
      first|refine exI ?_|(intro cap7 hcap7;refine exI ?_)
      refine z5g z0t (g:=0) kR [(8,true),(9,true),(10,true),(11,false),(12,false),(13,true)] kR fun _ K22=>?_
      iterate 3 refine z9g ?_
      refine gXUti_6 ?_;refine zgj ?_;refine z9g ?_;refine d_n K22 ?_;refine z4r kR ?_;apply K19;refine seq_k fun _ K23=>?_;refine srR z0t fun _ K25=>?_
      iterate 2 refine z2f ?_
      refine s_n K25 ?_;refine z09 (b:=_) rfl (fun h_t51=>?_) (fun h_t51=>?_)
      ·try simp only[dQ,reduceIte]at h_t51
       refine srR z0t fun _ K27=>?_;refine z2f ?_;refine z67 ?_;refine z2f ?_;refine s_n K27 ?_
       have hyes:z0w d=true∧z0w e=true:=⟨hvd,hve⟩
       rw[z79,if_pos hyes, ←hxe, ←hye,if_pos (hrn (by simpa using h_t51))];refine z0g (z0k z0t (fun _ _ h=>h) (z10 _) [] [.cell 4 30,.tmp 5] rfl ?_)
       repeat first|refine aI (by first|exact trivial|rfl|exact⟨rfl,rfl⟩|decide) ?_|refine z04 (by first|rfl|decide) ?_|refine z03 (by first|rfl|decide) ?_
       all_goals exact z5b
      ·try simp only[dQ,reduceIte]at h_t51
       refine z0b ?_;apply K23
       have hr2:r.2=true:=by simpa using h_t51
       obtain⟨hrf,hrcan⟩:=hry hr2;refine srR z0t fun _ K29=>?_;refine z5l ?_;refine exA (tabV r.1) (SV.as_refl _) ?_;refine z5l ?_;refine aI (z0x _) ?_;refine z15 _ ?_;refine⟨r.1,rfl,hrf,?_⟩;rw[hrcan]
       simp only[z28]
       refine z0p ?_
       first|refine exI ?_|(intro cap1 hcap1;refine exI ?_)
       iterate 2 refine z2f ?_
       refine z67 ?_;refine z2f ?_;refine s_n K29 ?_
       have hyes:z0w d=true∧z0w e=true:=⟨hvd,hve⟩
       rw[z79,if_pos hyes, ←hxe, ←hye,if_neg (hrs hr2)];refine z0g (z0k z0t (fun _ _ h=>h) (z10 _) [] [.cell 4 30,.tmp 5] rfl ?_)
       repeat first|refine aI (by first|exact trivial|rfl|exact⟨rfl,rfl⟩|decide) ?_|refine z04 (by first|rfl|decide) ?_|refine z03 (by first|rfl|decide) ?_
       all_goals exact z5b
     ·refine z0f z0t ?_
      refine z0p ?_;refine exI ?_;refine z5g z0t (g:=0) kR [(7,false),(8,true),(9,true),(10,true),(12,false),(13,true)] kR fun _ K30=>?_;refine zio ?_;refine aI (nc_st _) ?_;refine aI (nc_4 _ _) ?_;refine aI (nc_1 _) ?_;refine⟨catG x y,catA y,catI x,jL x y 256,jrep (cN x) (cN y),cat0 x,[cloE x,dpT x,dpT y],[dpT y],4096,rfl,hex,?_⟩
      have hrc:(exR (catG x y) (catA y) (jL x y 256) (jrep (cN x) (cN y)) (cat0 x) 4096).1.cell.length=256:=zm8 (z0h x y 256)
      have hry:(exR (catG x y) (catA y) (jL x y 256) (jrep (cN x) (cN y)) (cat0 x) 4096).2=true→(exR (catG x y) (catA y) (jL x y 256) (jrep (cN x) (cN y)) (cat0 x) 4096).1.fit∧_:=fun hh=>(zgi (by decide) (fun s c hc=>zij s hc) hcc (zfe hh)).imp_right And.right
      have hrn:(exR (catG x y) (catA y) (jL x y 256) (jrep (cN x) (cN y)) (cat0 x) 4096).2=false→_:=fun hh=>ex_no hh
      have hrs:(exR (catG x y) (catA y) (jL x y 256) (jrep (cN x) (cN y)) (cat0 x) 4096).2=true→_:=fun hh=>zfe hh
      obtain⟨r,hr⟩:∃ r,r=(exR (catG x y) (catA y) (jL x y 256) (jrep (cN x) (cN y)) (cat0 x) 4096):=⟨_,rfl⟩;rw[←hr]at hrc hry hrn hrs ⊢;refine z0p ?_
      first|refine exI ?_|(intro cap7 hcap7;refine exI ?_)
      iterate 3 refine z9g ?_
      refine zgj ?_;refine z9g ?_;refine d_n K30 ?_;refine z4r kR ?_;apply K19;refine seq_k fun _ K31=>?_;refine srR z0t fun _ K33=>?_
      iterate 2 refine z2f ?_
      refine s_n K33 ?_;refine z09 (b:=_) rfl (fun h_t51=>?_) (fun h_t51=>?_)
      ·try simp only[dQ,reduceIte]at h_t51
       refine srR z0t fun _ K35=>?_;refine z2f ?_;refine z67 ?_;refine z2f ?_;refine s_n K35 ?_
       have hyes:z0w d=true∧z0w e=true:=⟨hvd,hve⟩
       rw[z79,if_pos hyes, ←hxe, ←hye,if_pos (hrn (by simpa using h_t51))];refine z0g (z0k z0t (fun _ _ h=>h) (z10 _) [] [.cell 4 30,.tmp 5] rfl ?_)
       repeat first|refine aI (by first|exact trivial|rfl|exact⟨rfl,rfl⟩|decide) ?_|refine z04 (by first|rfl|decide) ?_|refine z03 (by first|rfl|decide) ?_
       all_goals exact z5b
      ·try simp only[dQ,reduceIte]at h_t51
       refine z0b ?_;apply K31
       have hr2:r.2=true:=by simpa using h_t51
       obtain⟨hrf,hrcan⟩:=hry hr2;refine srR z0t fun _ K37=>?_;refine z5l ?_;refine exA (tabV r.1) (SV.as_refl _) ?_;refine z5l ?_;refine aI (z0x _) ?_;refine z15 _ ?_;refine⟨r.1,rfl,hrf,?_⟩;rw[hrcan]
       simp only[z28]
       refine z0p ?_
       first|refine exI ?_|(intro cap1 hcap1;refine exI ?_)
       iterate 2 refine z2f ?_
       refine z67 ?_;refine z2f ?_;refine s_n K37 ?_
       have hyes:z0w d=true∧z0w e=true:=⟨hvd,hve⟩
       rw[z79,if_pos hyes, ←hxe, ←hye,if_neg (hrs hr2)];refine z0g (z0k z0t (fun _ _ h=>h) (z10 _) [] [.cell 4 30,.tmp 5] rfl ?_)
       repeat first|refine aI (by first|exact trivial|rfl|exact⟨rfl,rfl⟩|decide) ?_|refine z04 (by first|rfl|decide) ?_|refine z03 (by first|rfl|decide) ?_
       all_goals exact z5b
    ·refine z0f z0t ?_
     refine z0p ?_;refine exI ?_;refine z5g z0t (g:=0) kR [(4,false),(7,false),(8,true),(9,true),(10,true),(12,false),(13,true)] kR fun _ K38=>?_;refine zio ?_;refine aI (nc_st _) ?_;refine⟨x,(0,0,0),rfl,⟨hx,hx.1.npos⟩,?_⟩;refine z0p ?_
     first|refine exA (stV (cat0 x)) (SV.as_refl _) ?_|(intro cap4 hcap4;refine exA (stV (cat0 x)) (SV.as_refl _) ?_)
     refine zio ?_;refine aI (nc_st _) ?_;refine aI (nc_4 _ _) ?_;refine aI (nc_1 _) ?_;refine⟨catG x y,catA y,catI x,jL x y 256,jrep (cN x) (cN y),cat0 x,[cloE x,dpT x,dpT y],[dpT y],4096,rfl,hex,?_⟩
     have hrc:(exR (catG x y) (catA y) (jL x y 256) (jrep (cN x) (cN y)) (cat0 x) 4096).1.cell.length=256:=zm8 (z0h x y 256)
     have hry:(exR (catG x y) (catA y) (jL x y 256) (jrep (cN x) (cN y)) (cat0 x) 4096).2=true→(exR (catG x y) (catA y) (jL x y 256) (jrep (cN x) (cN y)) (cat0 x) 4096).1.fit∧_:=fun hh=>(zgi (by decide) (fun s c hc=>zij s hc) hcc (zfe hh)).imp_right And.right
     have hrn:(exR (catG x y) (catA y) (jL x y 256) (jrep (cN x) (cN y)) (cat0 x) 4096).2=false→_:=fun hh=>ex_no hh
     have hrs:(exR (catG x y) (catA y) (jL x y 256) (jrep (cN x) (cN y)) (cat0 x) 4096).2=true→_:=fun hh=>zfe hh
     obtain⟨r,hr⟩:∃ r,r=(exR (catG x y) (catA y) (jL x y 256) (jrep (cN x) (cN y)) (cat0 x) 4096):=⟨_,rfl⟩;rw[←hr]at hrc hry hrn hrs ⊢;refine z0p ?_
     first|refine exI ?_|(intro cap7 hcap7;refine exI ?_)
     iterate 3 refine z9g ?_
     refine zgj ?_;refine z9g ?_;refine d_n K38 ?_;refine z4r kR ?_;apply K19;refine seq_k fun _ K39=>?_;refine srR z0t fun _ K41=>?_
     iterate 2 refine z2f ?_
     refine s_n K41 ?_;refine z09 (b:=_) rfl (fun h_t51=>?_) (fun h_t51=>?_)
     ·try simp only[dQ,reduceIte]at h_t51
      refine srR z0t fun _ K43=>?_;refine z2f ?_;refine z67 ?_;refine z2f ?_;refine s_n K43 ?_
      have hyes:z0w d=true∧z0w e=true:=⟨hvd,hve⟩
      rw[z79,if_pos hyes, ←hxe, ←hye,if_pos (hrn (by simpa using h_t51))];refine z0g (z0k z0t (fun _ _ h=>h) (z10 _) [] [.cell 4 30,.tmp 5] rfl ?_)
      repeat first|refine aI (by first|exact trivial|rfl|exact⟨rfl,rfl⟩|decide) ?_|refine z04 (by first|rfl|decide) ?_|refine z03 (by first|rfl|decide) ?_
      all_goals exact z5b
     ·try simp only[dQ,reduceIte]at h_t51
      refine z0b ?_;apply K39
      have hr2:r.2=true:=by simpa using h_t51
      obtain⟨hrf,hrcan⟩:=hry hr2;refine srR z0t fun _ K45=>?_;refine z5l ?_;refine exA (tabV r.1) (SV.as_refl _) ?_;refine z5l ?_;refine aI (z0x _) ?_;refine z15 _ ?_;refine⟨r.1,rfl,hrf,?_⟩;rw[hrcan]
      simp only[z28]
      refine z0p ?_
      first|refine exI ?_|(intro cap1 hcap1;refine exI ?_)
      iterate 2 refine z2f ?_
      refine z67 ?_;refine z2f ?_;refine s_n K45 ?_
      have hyes:z0w d=true∧z0w e=true:=⟨hvd,hve⟩
      rw[z79,if_pos hyes, ←hxe, ←hye,if_neg (hrs hr2)];refine z0g (z0k z0t (fun _ _ h=>h) (z10 _) [] [.cell 4 30,.tmp 5] rfl ?_)
      repeat first|refine aI (by first|exact trivial|rfl|exact⟨rfl,rfl⟩|decide) ?_|refine z04 (by first|rfl|decide) ?_|refine z03 (by first|rfl|decide) ?_
      all_goals exact z5b
   refine z1h 3 #[true,true,true,true,true,true,true,true,true,false,false,false] [(4,.c (.ptr 0 0)),(26,tabV x),(30,tabV y),(6,.c (.ptr 1 0))] [(0,.own 30 (.cells [.nils,.nils,.nils]) 3),(1,.own 87 (.cells zl) 259)] 2 ?_ fun nd_1_2_3_5_6_7_8=>?_
   ·refine z2b [9] kR (by decide) (List.forall_mem_cons.2 ⟨?_,fun _ h=>by cases h⟩)
    ·refine z0f z0t ?_
     refine z0p ?_;refine exI ?_;refine bleW [] (fun i=>i) [0,1,2] nd_1_2_3_5_6_7_8_9 kR ?_ ?_ ?_ ?_
     ·exact zkb
     ·exact(And.intro (And.intro List.not_mem_nil (And.intro rfl (And.intro rfl z9k))) (And.intro (And.intro List.not_mem_nil (And.intro rfl (And.intro zl_len'.symm zt_to))) (And.intro (And.intro List.not_mem_nil (And.intro rfl (And.intro rfl zt_to1))) trivial)))
     ·exact zkc
     ·exact y04
   refine z1h 3 #[true,true,true,true,true,true,true,true,false,true,false,false] [(4,.c (.ptr 0 0)),(26,tabV x),(30,tabV y),(7,.c (.ptr 1 0))] [(0,.own 30 (.cells [.nils,.nils,.nils]) 3),(1,.own 87 (.cells zl) 259)] 2 ?_ fun nd_1_2_3_5_6_7_9=>?_
   ·refine z2b [8] kR (by decide) (List.forall_mem_cons.2 ⟨?_,fun _ h=>by cases h⟩)
    ·refine z0f z0t ?_
     refine z0p ?_;refine exI ?_;refine bleW [] (fun i=>if i=1 then 2 else if i=2 then 1 else i) [0,2,1] nd_1_2_3_5_6_7_8_9 kR ?_ ?_ ?_ ?_
     ·exact zkb
     ·exact(And.intro (And.intro List.not_mem_nil (And.intro rfl (And.intro rfl z9k))) (And.intro (And.intro List.not_mem_nil (And.intro rfl (And.intro rfl zt_to1))) (And.intro (And.intro List.not_mem_nil (And.intro rfl (And.intro zl_len'.symm zt_to))) trivial)))
     ·exact zkc
     ·exact y04
   refine z1h 3 #[true,true,true,true,true,true,true,false,true,true,false,false] [(4,.c (.ptr 0 0)),(26,tabV x),(29,dfaV (canD (langD e))),(6,.c (.ptr 1 0)),(7,.c (.ptr 2 0))] [(0,.own 30 (.cells [.nils,.nils,.nils]) 3),(1,.own 87 (.cells zl) 259),(2,.own 87 (.cells zl) 259)] 3 ?_ fun nd_1_2_3_5_6_8_9=>?_
   ·refine z2b [7] kR (by decide) (List.forall_mem_cons.2 ⟨?_,fun _ h=>by cases h⟩)
    ·refine z0f z0t ?_
     refine z0p ?_;refine⟨canD (langD e),rfl,ge.1,?_⟩;rw[←hye];refine z0p ?_
     first|refine exI ?_|(intro cap7 hcap7;refine exI ?_)
     refine bleW [] (fun i=>i) [0,1,2] nd_1_2_3_5_6_7_8_9 kR ?_ ?_ ?_ ?_
     ·exact zkb
     ·exact(And.intro (And.intro List.not_mem_nil (And.intro rfl (And.intro rfl z9k))) (And.intro (And.intro List.not_mem_nil (And.intro rfl (And.intro zl_len'.symm zt_to))) (And.intro (And.intro List.not_mem_nil (And.intro rfl (And.intro zl_len'.symm zt_to))) trivial)))
     ·exact zkc
     ·exact y04
   refine z1h 4 #[true,true,true,true,true,true,true,true,false,false,false,false] [(4,.c (.ptr 0 0)),(26,tabV x),(30,tabV y)] [(0,.own 30 (.cells [.nils,.nils,.nils]) 3)] 1 ?_ fun nd_1_2_3_5_6_7=>?_
   ·refine z2b [8,9] kR (by decide) (List.forall_mem_cons.2 ⟨?_,List.forall_mem_cons.2 ⟨?_,fun _ h=>by cases h⟩⟩)
    ·refine z0f z0t ?_
     refine z0p ?_;refine exI ?_;refine bleW [] (fun i=>i) [0,1] nd_1_2_3_5_6_7_8 kR ?_ ?_ ?_ ?_
     ·exact zfg
     ·exact z7q
     ·exact zfh
     ·exact z3h
    ·refine z0f z0t ?_
     refine z0p ?_;refine exI ?_;refine bleW [] (fun i=>i) [0,1] nd_1_2_3_5_6_7_9 kR ?_ ?_ ?_ ?_
     ·exact zfg
     ·exact z7q
     ·exact zfh
     ·exact z3h
   refine z1h 4 #[true,true,true,true,true,true,true,false,true,false,false,false] [(4,.c (.ptr 0 0)),(26,tabV x),(29,dfaV (canD (langD e))),(6,.c (.ptr 1 0))] [(0,.own 30 (.cells [.nils,.nils,.nils]) 3),(1,.own 87 (.cells zl) 259)] 2 ?_ fun nd_1_2_3_5_6_8=>?_
   ·refine z2b [7,9] kR (by decide) (List.forall_mem_cons.2 ⟨?_,List.forall_mem_cons.2 ⟨?_,fun _ h=>by cases h⟩⟩)
    ·refine z0f z0t ?_
     refine z0p ?_;refine⟨canD (langD e),rfl,ge.1,?_⟩;rw[←hye];refine z0p ?_
     first|refine exI ?_|(intro cap7 hcap7;refine exI ?_)
     refine bleW [] (fun i=>i) [0,1] nd_1_2_3_5_6_7_8 kR ?_ ?_ ?_ ?_
     ·exact zfg
     ·exact z9v
     ·exact zfh
     ·exact z3h
    ·refine z0f z0t ?_
     refine z0p ?_;refine exI ?_;refine bleW [] (fun i=>i) [0,1,2] nd_1_2_3_5_6_8_9 kR ?_ ?_ ?_ ?_
     ·exact zd9
     ·exact zkd
     ·exact z9h
     ·exact z46
   refine z1h 4 #[true,true,true,true,true,true,true,false,false,true,false,false] [(4,.c (.ptr 0 0)),(26,tabV x),(29,dfaV (canD (langD e))),(7,.c (.ptr 1 0))] [(0,.own 30 (.cells [.nils,.nils,.nils]) 3),(1,.own 87 (.cells zl) 259)] 2 ?_ fun nd_1_2_3_5_6_9=>?_
   ·refine z2b [7,8] kR (by decide) (List.forall_mem_cons.2 ⟨?_,List.forall_mem_cons.2 ⟨?_,fun _ h=>by cases h⟩⟩)
    ·refine z0f z0t ?_
     refine z0p ?_;refine⟨canD (langD e),rfl,ge.1,?_⟩;rw[←hye];refine z0p ?_
     first|refine exI ?_|(intro cap7 hcap7;refine exI ?_)
     refine bleW [] (fun i=>i) [0,1] nd_1_2_3_5_6_7_9 kR ?_ ?_ ?_ ?_
     ·exact zfg
     ·exact z9v
     ·exact zfh
     ·exact z3h
    ·refine z0f z0t ?_
     refine z0p ?_;refine exI ?_;refine bleW [] (fun i=>if i=1 then 2 else if i=2 then 1 else i) [0,2,1] nd_1_2_3_5_6_8_9 kR ?_ ?_ ?_ ?_
     ·exact zd9
     ·exact zen
     ·exact z9h
     ·exact z46
   refine z1h 4 #[true,true,true,true,true,true,false,false,true,true,false,false] [(4,.c (.ptr 0 0)),(26,tabV x),(28,tabV (tabD e)),(6,.c (.ptr 1 0)),(7,.c (.ptr 2 0))] [(0,.own 30 (.cells [.nils,.nils,.nils]) 3),(1,.own 87 (.cells zl) 259),(2,.own 87 (.cells zl) 259)] 3 ?_ fun nd_1_2_3_5_8_9=>?_
   ·refine z2b [6] kR (by decide) (List.forall_mem_cons.2 ⟨?_,fun _ h=>by cases h⟩)
    ·refine z0f z0t ?_
     refine z0p ?_;refine aI (z0x _) ?_;refine z15 _ ?_;refine⟨tabD e,rfl,z14 hge,?_⟩;rw[z5j]
     simp only[z28]
     refine z0p ?_
     first|refine exI ?_|(intro cap6 hcap6;refine exI ?_)
     refine bleW [] (fun i=>i) [0,1,2] nd_1_2_3_5_6_8_9 kR ?_ ?_ ?_ ?_
     ·exact zd9
     ·exact ziq
     ·exact z9h
     ·exact z46
   refine z1h 5 #[true,true,true,true,true,true,true,false,false,false,false,false] [(4,.c (.ptr 0 0)),(26,tabV x),(29,dfaV (canD (langD e)))] [(0,.own 30 (.cells [.nils,.nils,.nils]) 3)] 1 ?_ fun nd_1_2_3_5_6=>?_
   ·refine z2b [7,8,9] kR (by decide) (List.forall_mem_cons.2 ⟨?_,List.forall_mem_cons.2 ⟨?_,List.forall_mem_cons.2 ⟨?_,fun _ h=>by cases h⟩⟩⟩)
    ·refine z0f z0t ?_
     refine z0p ?_;refine⟨canD (langD e),rfl,ge.1,?_⟩;rw[←hye];refine z0p ?_
     first|refine exI ?_|(intro cap7 hcap7;refine exI ?_)
     refine bleW [] (fun i=>i) [0] nd_1_2_3_5_6_7 kR ?_ ?_ ?_ ?_
     ·exact y05
     ·exact zc2
     ·exact y06
     ·exact(And.intro (And.intro (by decide) z68) trivial)
    ·refine z0f z0t ?_
     refine z0p ?_;refine exI ?_;refine bleW [] (fun i=>i) [0,1] nd_1_2_3_5_6_8 kR ?_ ?_ ?_ ?_
     ·exact z6l
     ·exact z7q
     ·exact z6m
     ·exact z3h
    ·refine z0f z0t ?_
     refine z0p ?_;refine exI ?_;refine bleW [] (fun i=>i) [0,1] nd_1_2_3_5_6_9 kR ?_ ?_ ?_ ?_
     ·exact z6l
     ·exact z7q
     ·exact z6m
     ·exact z3h
   refine z1h 5 #[true,true,true,true,true,true,false,false,true,false,false,false] [(4,.c (.ptr 0 0)),(26,tabV x),(28,tabV (tabD e)),(6,.c (.ptr 1 0))] [(0,.own 30 (.cells [.nils,.nils,.nils]) 3),(1,.own 87 (.cells zl) 259)] 2 ?_ fun nd_1_2_3_5_8=>?_
   ·refine z2b [6,9] kR (by decide) (List.forall_mem_cons.2 ⟨?_,List.forall_mem_cons.2 ⟨?_,fun _ h=>by cases h⟩⟩)
    ·refine z0f z0t ?_
     refine z0p ?_;refine aI (z0x _) ?_;refine z15 _ ?_;refine⟨tabD e,rfl,z14 hge,?_⟩;rw[z5j]
     simp only[z28]
     refine z0p ?_
     first|refine exI ?_|(intro cap6 hcap6;refine exI ?_)
     refine bleW [] (fun i=>i) [0,1] nd_1_2_3_5_6_8 kR ?_ ?_ ?_ ?_
     ·exact z6l
     ·exact z9v
     ·exact z6m
     ·exact z3h
    ·refine z0f z0t ?_
     refine z0p ?_;refine exI ?_;refine bleW [] (fun i=>i) [0,1,2] nd_1_2_3_5_8_9 kR ?_ ?_ ?_ ?_
     ·exact zkb
     ·exact zkd
     ·exact zkc
     ·exact z46
   refine z1h 5 #[true,true,true,true,true,true,false,false,false,true,false,false] [(4,.c (.ptr 0 0)),(26,tabV x),(28,tabV (tabD e)),(7,.c (.ptr 1 0))] [(0,.own 30 (.cells [.nils,.nils,.nils]) 3),(1,.own 87 (.cells zl) 259)] 2 ?_ fun nd_1_2_3_5_9=>?_
   ·refine z2b [6,8] kR (by decide) (List.forall_mem_cons.2 ⟨?_,List.forall_mem_cons.2 ⟨?_,fun _ h=>by cases h⟩⟩)
    ·refine z0f z0t ?_
     refine z0p ?_;refine aI (z0x _) ?_;refine z15 _ ?_;refine⟨tabD e,rfl,z14 hge,?_⟩;rw[z5j]
     simp only[z28]
     refine z0p ?_
     first|refine exI ?_|(intro cap6 hcap6;refine exI ?_)
     refine bleW [] (fun i=>i) [0,1] nd_1_2_3_5_6_9 kR ?_ ?_ ?_ ?_
     ·exact z6l
     ·exact z9v
     ·exact z6m
     ·exact z3h
    ·refine z0f z0t ?_
     refine z0p ?_;refine exI ?_;refine bleW [] (fun i=>if i=1 then 2 else if i=2 then 1 else i) [0,2,1] nd_1_2_3_5_8_9 kR ?_ ?_ ?_ ?_
     ·exact zkb
     ·exact zen
     ·exact zkc
     ·exact z46
   refine z1h 5 #[true,true,true,true,true,false,false,false,true,true,false,false] [(4,.c (.ptr 0 0)),(26,tabV x),(27,.agg (dfaC e)),(6,.c (.ptr 1 0)),(7,.c (.ptr 2 0))] [(0,.own 30 (.cells [.nils,.nils,.nils]) 3),(1,.own 87 (.cells zl) 259),(2,.own 87 (.cells zl) 259)] 3 ?_ fun nd_1_2_3_8_9=>?_
   ·refine z2b [5] kR (by decide) (List.forall_mem_cons.2 ⟨?_,fun _ h=>by cases h⟩)
    ·refine z0f z0t ?_
     refine z0p ?_;refine⟨e,rfl,hge,?_⟩;refine z0p ?_
     first|refine exI ?_|(intro cap5 hcap5;refine exI ?_)
     refine bleW [] (fun i=>i) [0,1,2] nd_1_2_3_5_8_9 kR ?_ ?_ ?_ ?_
     ·exact zkb
     ·exact ziq
     ·exact zkc
     ·exact z46
   refine z1h 6 #[true,true,true,true,true,true,false,false,false,false,false,false] [(4,.c (.ptr 0 0)),(26,tabV x),(28,tabV (tabD e))] [(0,.own 30 (.cells [.nils,.nils,.nils]) 3)] 1 ?_ fun nd_1_2_3_5=>?_
   ·refine z2b [6,8,9] kR (by decide) (List.forall_mem_cons.2 ⟨?_,List.forall_mem_cons.2 ⟨?_,List.forall_mem_cons.2 ⟨?_,fun _ h=>by cases h⟩⟩⟩)
    ·refine z0f z0t ?_
     refine z0p ?_;refine aI (z0x _) ?_;refine z15 _ ?_;refine⟨tabD e,rfl,z14 hge,?_⟩;rw[z5j]
     simp only[z28]
     refine z0p ?_
     first|refine exI ?_|(intro cap6 hcap6;refine exI ?_)
     refine bleW [] (fun i=>i) [0] nd_1_2_3_5_6 kR ?_ ?_ ?_ ?_
     ·exact zqy
     ·exact zc2
     ·exact zqz
     ·exact(And.intro (And.intro (by decide) z68) trivial)
    ·refine z0f z0t ?_
     refine z0p ?_;refine exI ?_;refine bleW [] (fun i=>i) [0,1] nd_1_2_3_5_8 kR ?_ ?_ ?_ ?_
     ·exact zfg
     ·exact z7q
     ·exact zfh
     ·exact z3h
    ·refine z0f z0t ?_
     refine z0p ?_;refine exI ?_;refine bleW [] (fun i=>i) [0,1] nd_1_2_3_5_9 kR ?_ ?_ ?_ ?_
     ·exact zfg
     ·exact z7q
     ·exact zfh
     ·exact z3h
   refine z1h 6 #[true,true,true,true,true,false,false,false,true,false,false,false] [(4,.c (.ptr 0 0)),(26,tabV x),(27,.agg (dfaC e)),(6,.c (.ptr 1 0))] [(0,.own 30 (.cells [.nils,.nils,.nils]) 3),(1,.own 87 (.cells zl) 259)] 2 ?_ fun nd_1_2_3_8=>?_
   ·refine z2b [5,9] kR (by decide) (List.forall_mem_cons.2 ⟨?_,List.forall_mem_cons.2 ⟨?_,fun _ h=>by cases h⟩⟩)
    ·refine z0f z0t ?_
     refine z0p ?_;refine⟨e,rfl,hge,?_⟩;refine z0p ?_
     first|refine exI ?_|(intro cap5 hcap5;refine exI ?_)
     refine bleW [] (fun i=>i) [0,1] nd_1_2_3_5_8 kR ?_ ?_ ?_ ?_
     ·exact zfg
     ·exact z9v
     ·exact zfh
     ·exact z3h
    ·refine z0f z0t ?_
     refine z0p ?_;refine exI ?_;refine bleW [] (fun i=>i) [0,1,2] nd_1_2_3_8_9 kR ?_ ?_ ?_ ?_
     ·exact zd9
     ·exact zkd
     ·exact z9h
     ·exact z46
   refine z1h 6 #[true,true,true,true,true,false,false,false,false,true,false,false] [(4,.c (.ptr 0 0)),(26,tabV x),(27,.agg (dfaC e)),(7,.c (.ptr 1 0))] [(0,.own 30 (.cells [.nils,.nils,.nils]) 3),(1,.own 87 (.cells zl) 259)] 2 ?_ fun nd_1_2_3_9=>?_
   ·refine z2b [5,8] kR (by decide) (List.forall_mem_cons.2 ⟨?_,List.forall_mem_cons.2 ⟨?_,fun _ h=>by cases h⟩⟩)
    ·refine z0f z0t ?_
     refine z0p ?_;refine⟨e,rfl,hge,?_⟩;refine z0p ?_
     first|refine exI ?_|(intro cap5 hcap5;refine exI ?_)
     refine bleW [] (fun i=>i) [0,1] nd_1_2_3_5_9 kR ?_ ?_ ?_ ?_
     ·exact zfg
     ·exact z9v
     ·exact zfh
     ·exact z3h
    ·refine z0f z0t ?_
     refine z0p ?_;refine exI ?_;refine bleW [] (fun i=>if i=1 then 2 else if i=2 then 1 else i) [0,2,1] nd_1_2_3_8_9 kR ?_ ?_ ?_ ?_
     ·exact zd9
     ·exact zen
     ·exact z9h
     ·exact z46
   refine z1h 6 #[true,true,true,false,true,false,false,false,true,true,false,false] [(4,.c (.ptr 0 0)),(25,dfaV (canD (langD d))),(27,.agg (dfaC e)),(6,.c (.ptr 1 0)),(7,.c (.ptr 2 0))] [(0,.own 30 (.cells [.nils,.nils,.nils]) 3),(1,.own 87 (.cells zl) 259),(2,.own 87 (.cells zl) 259)] 3 ?_ fun nd_1_2_8_9=>?_
   ·refine z2b [3] kR (by decide) (List.forall_mem_cons.2 ⟨?_,fun _ h=>by cases h⟩)
    ·refine z0f z0t ?_
     refine z0p ?_;refine⟨canD (langD d),rfl,gd.1,?_⟩;rw[←hxe];refine z0p ?_
     first|refine exI ?_|(intro cap3 hcap3;refine exI ?_)
     refine bleW [] (fun i=>i) [0,1,2] nd_1_2_3_8_9 kR ?_ ?_ ?_ ?_
     ·exact zd9
     ·exact ziq
     ·exact z9h
     ·exact z46
   refine z1h 7 #[true,true,true,true,true,false,false,false,false,false,false,false] [(4,.c (.ptr 0 0)),(26,tabV x),(27,.agg (dfaC e))] [(0,.own 30 (.cells [.nils,.nils,.nils]) 3)] 1 ?_ fun nd_1_2_3=>?_
   ·refine z2b [5,8,9] kR (by decide) (List.forall_mem_cons.2 ⟨?_,List.forall_mem_cons.2 ⟨?_,List.forall_mem_cons.2 ⟨?_,fun _ h=>by cases h⟩⟩⟩)
    ·refine z0f z0t ?_
     refine z0p ?_;refine⟨e,rfl,hge,?_⟩;refine z0p ?_
     first|refine exI ?_|(intro cap5 hcap5;refine exI ?_)
     refine bleW [] (fun i=>i) [0] nd_1_2_3_5 kR ?_ ?_ ?_ ?_
     ·exact y05
     ·exact zc2
     ·exact y06
     ·exact(And.intro (And.intro (by decide) z68) trivial)
    ·refine z0f z0t ?_
     refine z0p ?_;refine exI ?_;refine bleW [] (fun i=>i) [0,1] nd_1_2_3_8 kR ?_ ?_ ?_ ?_
     ·exact z6l
     ·exact z7q
     ·exact z6m
     ·exact z3h
    ·refine z0f z0t ?_
     refine z0p ?_;refine exI ?_;refine bleW [] (fun i=>i) [0,1] nd_1_2_3_9 kR ?_ ?_ ?_ ?_
     ·exact z6l
     ·exact z7q
     ·exact z6m
     ·exact z3h
   refine z1h 7 #[true,true,true,false,true,false,false,false,true,false,false,false] [(4,.c (.ptr 0 0)),(25,dfaV (canD (langD d))),(27,.agg (dfaC e)),(6,.c (.ptr 1 0))] [(0,.own 30 (.cells [.nils,.nils,.nils]) 3),(1,.own 87 (.cells zl) 259)] 2 ?_ fun nd_1_2_8=>?_
   ·refine z2b [3,9] kR (by decide) (List.forall_mem_cons.2 ⟨?_,List.forall_mem_cons.2 ⟨?_,fun _ h=>by cases h⟩⟩)
    ·refine z0f z0t ?_
     refine z0p ?_;refine⟨canD (langD d),rfl,gd.1,?_⟩;rw[←hxe];refine z0p ?_
     first|refine exI ?_|(intro cap3 hcap3;refine exI ?_)
     refine bleW [] (fun i=>i) [0,1] nd_1_2_3_8 kR ?_ ?_ ?_ ?_
     ·exact z6l
     ·exact z9v
     ·exact z6m
     ·exact z3h
    ·refine z0f z0t ?_
     refine z0p ?_;refine exI ?_;refine bleW [] (fun i=>i) [0,1,2] nd_1_2_8_9 kR ?_ ?_ ?_ ?_
     ·exact zir
     ·exact zkd
     ·exact zis
     ·exact z46
   refine z1h 7 #[true,true,true,false,true,false,false,false,false,true,false,false] [(4,.c (.ptr 0 0)),(25,dfaV (canD (langD d))),(27,.agg (dfaC e)),(7,.c (.ptr 1 0))] [(0,.own 30 (.cells [.nils,.nils,.nils]) 3),(1,.own 87 (.cells zl) 259)] 2 ?_ fun nd_1_2_9=>?_
   ·refine z2b [3,8] kR (by decide) (List.forall_mem_cons.2 ⟨?_,List.forall_mem_cons.2 ⟨?_,fun _ h=>by cases h⟩⟩)
    ·refine z0f z0t ?_
     refine z0p ?_;refine⟨canD (langD d),rfl,gd.1,?_⟩;rw[←hxe];refine z0p ?_
     first|refine exI ?_|(intro cap3 hcap3;refine exI ?_)
     refine bleW [] (fun i=>i) [0,1] nd_1_2_3_9 kR ?_ ?_ ?_ ?_
     ·exact z6l
     ·exact z9v
     ·exact z6m
     ·exact z3h
    ·refine z0f z0t ?_
     refine z0p ?_;refine exI ?_;refine bleW [] (fun i=>if i=1 then 2 else if i=2 then 1 else i) [0,2,1] nd_1_2_8_9 kR ?_ ?_ ?_ ?_
     ·exact zir
     ·exact zen
     ·exact zis
     ·exact z46
   refine z1h 7 #[true,true,false,false,true,false,false,false,true,true,false,false] [(4,.c (.ptr 0 0)),(24,tabV (tabD d)),(27,.agg (dfaC e)),(6,.c (.ptr 1 0)),(7,.c (.ptr 2 0))] [(0,.own 30 (.cells [.nils,.nils,.nils]) 3),(1,.own 87 (.cells zl) 259),(2,.own 87 (.cells zl) 259)] 3 ?_ fun nd_1_8_9=>?_
   ·refine z2b [2] kR (by decide) (List.forall_mem_cons.2 ⟨?_,fun _ h=>by cases h⟩)
    ·refine z0f z0t ?_
     refine z0p ?_;refine aI (z0x _) ?_;refine z15 _ ?_;refine⟨tabD d,rfl,z14 hgd,?_⟩;rw[z5j]
     simp only[z28]
     refine z0p ?_
     first|refine exI ?_|(intro cap2 hcap2;refine exI ?_)
     refine bleW [] (fun i=>i) [0,1,2] nd_1_2_8_9 kR ?_ ?_ ?_ ?_
     ·exact zir
     ·exact ziq
     ·exact zis
     ·exact z46
   refine z1h 8 #[true,true,true,false,true,false,false,false,false,false,false,false] [(4,.c (.ptr 0 0)),(25,dfaV (canD (langD d))),(27,.agg (dfaC e))] [(0,.own 30 (.cells [.nils,.nils,.nils]) 3)] 1 ?_ fun nd_1_2=>?_
   ·refine z2b [3,8,9] kR (by decide) (List.forall_mem_cons.2 ⟨?_,List.forall_mem_cons.2 ⟨?_,List.forall_mem_cons.2 ⟨?_,fun _ h=>by cases h⟩⟩⟩)
    ·refine z0f z0t ?_
     refine z0p ?_;refine⟨canD (langD d),rfl,gd.1,?_⟩;rw[←hxe];refine z0p ?_
     first|refine exI ?_|(intro cap3 hcap3;refine exI ?_)
     refine bleW [] (fun i=>i) [0] nd_1_2_3 kR ?_ ?_ ?_ ?_
     ·exact zqy
     ·exact zc2
     ·exact zqz
     ·exact(And.intro (And.intro (by decide) z68) trivial)
    ·refine z0f z0t ?_
     refine z0p ?_;refine exI ?_;refine bleW [] (fun i=>i) [0,1] nd_1_2_8 kR ?_ ?_ ?_ ?_
     ·exact zeo
     ·exact z7q
     ·exact zep
     ·exact z3h
    ·refine z0f z0t ?_
     refine z0p ?_;refine exI ?_;refine bleW [] (fun i=>i) [0,1] nd_1_2_9 kR ?_ ?_ ?_ ?_
     ·exact zeo
     ·exact z7q
     ·exact zep
     ·exact z3h
   refine z1h 8 #[true,true,false,false,true,false,false,false,true,false,false,false] [(4,.c (.ptr 0 0)),(24,tabV (tabD d)),(27,.agg (dfaC e)),(6,.c (.ptr 1 0))] [(0,.own 30 (.cells [.nils,.nils,.nils]) 3),(1,.own 87 (.cells zl) 259)] 2 ?_ fun nd_1_8=>?_
   ·refine z2b [2,9] kR (by decide) (List.forall_mem_cons.2 ⟨?_,List.forall_mem_cons.2 ⟨?_,fun _ h=>by cases h⟩⟩)
    ·refine z0f z0t ?_
     refine z0p ?_;refine aI (z0x _) ?_;refine z15 _ ?_;refine⟨tabD d,rfl,z14 hgd,?_⟩;rw[z5j]
     simp only[z28]
     refine z0p ?_
     first|refine exI ?_|(intro cap2 hcap2;refine exI ?_)
     refine bleW [] (fun i=>i) [0,1] nd_1_2_8 kR ?_ ?_ ?_ ?_
     ·exact zeo
     ·exact z9v
     ·exact zep
     ·exact z3h
    ·refine z0f z0t ?_
     refine z0p ?_;refine exI ?_;refine bleW [] (fun i=>i) [0,1,2] nd_1_8_9 kR ?_ ?_ ?_ ?_
     ·exact zd9
     ·exact zkd
     ·exact z9h
     ·exact z46
   refine z1h 8 #[true,true,false,false,true,false,false,false,false,true,false,false] [(4,.c (.ptr 0 0)),(24,tabV (tabD d)),(27,.agg (dfaC e)),(7,.c (.ptr 1 0))] [(0,.own 30 (.cells [.nils,.nils,.nils]) 3),(1,.own 87 (.cells zl) 259)] 2 ?_ fun nd_1_9=>?_
   ·refine z2b [2,8] kR (by decide) (List.forall_mem_cons.2 ⟨?_,List.forall_mem_cons.2 ⟨?_,fun _ h=>by cases h⟩⟩)
    ·refine z0f z0t ?_
     refine z0p ?_;refine aI (z0x _) ?_;refine z15 _ ?_;refine⟨tabD d,rfl,z14 hgd,?_⟩;rw[z5j]
     simp only[z28]
     refine z0p ?_
     first|refine exI ?_|(intro cap2 hcap2;refine exI ?_)
     refine bleW [] (fun i=>i) [0,1] nd_1_2_9 kR ?_ ?_ ?_ ?_
     ·exact zeo
     ·exact z9v
     ·exact zep
     ·exact z3h
    ·refine z0f z0t ?_
     refine z0p ?_;refine exI ?_;refine bleW [] (fun i=>if i=1 then 2 else if i=2 then 1 else i) [0,2,1] nd_1_8_9 kR ?_ ?_ ?_ ?_
     ·exact zd9
     ·exact zen
     ·exact z9h
     ·exact z46
   refine z1h 8 #[true,false,false,false,true,false,false,false,true,true,false,false] [(4,.c (.ptr 0 0)),(23,.agg (dfaC d)),(27,.agg (dfaC e)),(6,.c (.ptr 1 0)),(7,.c (.ptr 2 0))] [(0,.own 30 (.cells [.nils,.nils,.nils]) 3),(1,.own 87 (.cells zl) 259),(2,.own 87 (.cells zl) 259)] 3 ?_ fun nd_8_9=>?_
   ·refine z2b [1] kR (by decide) (List.forall_mem_cons.2 ⟨?_,fun _ h=>by cases h⟩)
    ·refine z0f z0t ?_
     refine z0p ?_;refine⟨d,rfl,hgd,?_⟩;refine z0p ?_
     first|refine exI ?_|(intro cap1 hcap1;refine exI ?_)
     refine bleW [] (fun i=>i) [0,1,2] nd_1_8_9 kR ?_ ?_ ?_ ?_
     ·exact zd9
     ·exact ziq
     ·exact z9h
     ·exact z46
   refine z1h 9 #[true,true,false,false,true,false,false,false,false,false,false,false] [(4,.c (.ptr 0 0)),(24,tabV (tabD d)),(27,.agg (dfaC e))] [(0,.own 30 (.cells [.nils,.nils,.nils]) 3)] 1 ?_ fun nd_1=>?_
   ·refine z2b [2,8,9] kR (by decide) (List.forall_mem_cons.2 ⟨?_,List.forall_mem_cons.2 ⟨?_,List.forall_mem_cons.2 ⟨?_,fun _ h=>by cases h⟩⟩⟩)
    ·refine z0f z0t ?_
     refine z0p ?_;refine aI (z0x _) ?_;refine z15 _ ?_;refine⟨tabD d,rfl,z14 hgd,?_⟩;rw[z5j]
     simp only[z28]
     refine z0p ?_
     first|refine exI ?_|(intro cap2 hcap2;refine exI ?_)
     refine bleW [] (fun i=>i) [0] nd_1_2 kR ?_ ?_ ?_ ?_
     ·exact y07
     ·exact zc2
     ·exact y08
     ·exact(And.intro (And.intro (by decide) z68) trivial)
    ·refine z0f z0t ?_
     refine z0p ?_;refine exI ?_;refine bleW [] (fun i=>i) [0,1] nd_1_8 kR ?_ ?_ ?_ ?_
     ·exact z6l
     ·exact z7q
     ·exact z6m
     ·exact z3h
    ·refine z0f z0t ?_
     refine z0p ?_;refine exI ?_;refine bleW [] (fun i=>i) [0,1] nd_1_9 kR ?_ ?_ ?_ ?_
     ·exact z6l
     ·exact z7q
     ·exact z6m
     ·exact z3h
   refine z1h 9 #[true,false,false,false,true,false,false,false,true,false,false,false] [(4,.c (.ptr 0 0)),(23,.agg (dfaC d)),(27,.agg (dfaC e)),(6,.c (.ptr 1 0))] [(0,.own 30 (.cells [.nils,.nils,.nils]) 3),(1,.own 87 (.cells zl) 259)] 2 ?_ fun nd_8=>?_
   ·refine z2b [1,9] kR (by decide) (List.forall_mem_cons.2 ⟨?_,List.forall_mem_cons.2 ⟨?_,fun _ h=>by cases h⟩⟩)
    ·refine z0f z0t ?_
     refine z0p ?_;refine⟨d,rfl,hgd,?_⟩;refine z0p ?_
     first|refine exI ?_|(intro cap1 hcap1;refine exI ?_)
     refine bleW [] (fun i=>i) [0,1] nd_1_8 kR ?_ ?_ ?_ ?_
     ·exact z6l
     ·exact z9v
     ·exact z6m
     ·exact z3h
    ·refine z0f z0t ?_
     refine z0p ?_;refine exI ?_;refine bleW [] (fun i=>i) [0,1,2] nd_8_9 kR ?_ ?_ ?_ ?_
     ·exact zir
     ·exact zkd
     ·exact zis
     ·exact z46
   refine z1h 9 #[true,false,false,false,true,false,false,false,false,true,false,false] [(4,.c (.ptr 0 0)),(23,.agg (dfaC d)),(27,.agg (dfaC e)),(7,.c (.ptr 1 0))] [(0,.own 30 (.cells [.nils,.nils,.nils]) 3),(1,.own 87 (.cells zl) 259)] 2 ?_ fun nd_9=>?_
   ·refine z2b [1,8] kR (by decide) (List.forall_mem_cons.2 ⟨?_,List.forall_mem_cons.2 ⟨?_,fun _ h=>by cases h⟩⟩)
    ·refine z0f z0t ?_
     refine z0p ?_;refine⟨d,rfl,hgd,?_⟩;refine z0p ?_
     first|refine exI ?_|(intro cap1 hcap1;refine exI ?_)
     refine bleW [] (fun i=>i) [0,1] nd_1_9 kR ?_ ?_ ?_ ?_
     ·exact z6l
     ·exact z9v
     ·exact z6m
     ·exact z3h
    ·refine z0f z0t ?_
     refine z0p ?_;refine exI ?_;refine bleW [] (fun i=>if i=1 then 2 else if i=2 then 1 else i) [0,2,1] nd_8_9 kR ?_ ?_ ?_ ?_
     ·exact zir
     ·exact zen
     ·exact zis
     ·exact z46
   refine z1h 10 #[true,false,false,false,true,false,false,false,false,false,false,false] [(4,.c (.ptr 0 0)),(23,.agg (dfaC d)),(27,.agg (dfaC e))] [(0,.own 30 (.cells [.nils,.nils,.nils]) 3)] 1 ?_ fun nd_=>?_
   ·refine z2b [1,8,9] kR (by decide) (List.forall_mem_cons.2 ⟨?_,List.forall_mem_cons.2 ⟨?_,List.forall_mem_cons.2 ⟨?_,fun _ h=>by cases h⟩⟩⟩)
    ·refine z0f z0t ?_
     refine z0p ?_;refine⟨d,rfl,hgd,?_⟩;refine z0p ?_
     first|refine exI ?_|(intro cap1 hcap1;refine exI ?_)
     refine bleW [] (fun i=>i) [0] nd_1 kR ?_ ?_ ?_ ?_
     ·exact zqy
     ·exact zc2
     ·exact zqz
     ·exact(And.intro (And.intro (by decide) z68) trivial)
    ·refine z0f z0t ?_
     refine z0p ?_;refine exI ?_;refine bleW [] (fun i=>i) [0,1] nd_8 kR ?_ ?_ ?_ ?_
     ·exact zeo
     ·exact z7q
     ·exact zep
     ·exact z3h
    ·refine z0f z0t ?_
     refine z0p ?_;refine exI ?_;refine bleW [] (fun i=>i) [0,1] nd_9 kR ?_ ?_ ?_ ?_
     ·exact zeo
     ·exact z7q
     ·exact zep
     ·exact z3h
   refine z5g z0t (g:=10) kR [(0,true),(4,true)] kR fun _ K46=>?_
   iterate 2 refine z9g ?_
   refine d_n K46 ?_;refine bleW [] (fun _=>2) [2] nd_ kR ?_ ?_ ?_ ?_
   ·exact y07
   ·exact zc2
   ·exact y08
   ·exact(And.intro (And.intro (by decide) z68) trivial)


end Go.Proofs.YtppmnaoollkboaaDoor

namespace Go.Proofs.YtppmnaoollkboaaDoor
set_option linter.all false
open Go.Ab Go.RowKit

section
variable {a b:Prop}
theorem qUtj0(h:a:=by first|exact vcA|(simp[-List.reduceReplicate]<;>omega)|exact vTr|exact vTx|(show(List.replicate 256 (0:Int)).length=(jL _ _ _).length;rw[z0h,List.length_replicate])|(show 256=(jL _ _ _).length;rw[z0h])|(show 0< (jL _ _ _).length;rw[z0h];decide)|(show 0+(jL _ _ _).length≤(List.replicate 256 (0:Int)).length;rw[z0h,List.length_replicate];decide)|(show 0+256*1≤(jL _ _ _).length;rw[z0h];decide)|(show(jL _ _ _).length=256*1;rw[z0h])|exact vcB):a:=h
theorem zfi(h:a:=by
    repeat' (first|exact z1b _|exact z3b _|exact z3k (z0z z24 z2h)|exact z3k (z0z z24 (z0z z24 (z0z z24 z2h)))|exact pT|exact trivial|refine aI ?_ ?_|exact cC0|refine low_cons' ?_ ?_|exact cC1|fail)
    all_goals first|omega|exact z1b _|(show 0< (z02 _ _ _ _).length;rw[z00 hx.1.clen];decide)|(show 0< (z02 _ _ _ _).length;rw[z00 hx.1.clen];decide)|(show 0< (jL _ _ _).length;rw[z0h];decide)|(intro z hz;rw[List.mem_singleton.1 hz];exact⟨rfl,fun g l e=>by cases e⟩)|exact Nat.one_pos|(show(0:Nat)< (z02 _ _ _ _).length;rw[z00 hcl];decide)|(simp[-List.reduceReplicate];done)|(simp[-List.reduceReplicate]<;>omega)|skip):a:=h
theorem zbk(kZ:b)(h:HidB b→a:=by intro kZ;(repeat first|refine aI qUtj0 ?_|refine z04 qUtj0 ?_|refine z03 qUtj0 ?_|refine z0m qUtj0 ?_|refine z0c ?_);exact kZ.out):a:=h ⟨kZ⟩
theorem z3n(kZ:b)(h:HidB b→a:=by intro kZ;refine sX ?_;refine zbk ?_;refine exI ?_;exact kZ.out):a:=h ⟨kZ⟩
theorem zb8(kZ:b)(h:HidB b→a:=by intro kZ;refine sX0 ?_;refine zbk ?_;refine exI ?_;exact kZ.out):a:=h ⟨kZ⟩
theorem z4i(kZ:b)(h:HidB b→a:=by intro kZ;refine sX ?_;refine zbk ?_;exact kZ.out):a:=h ⟨kZ⟩
end
open Go.Aut
attribute [local irreducible] z0s z12 zl z02 z11 putB prodT canD jL jrep exR z39
noncomputable def gh4:Ctx:={ P:=Tryd.prog,ty:=ty,glob:=gl,fs:=[(50,.flat z7v),(74,.data z9a),(75,.data z8k),(76,.data ztf),(83,.data zgc),(80,.data (zgb 84 sta1S 85 sta2S))] }
theorem z8n:gh4.OK:=⟨tyOK,⟨⟨z08 Tryd.func50 kR rfl,z5h⟩,⟨z08 Tryd.func74 kR rfl,z6y⟩,⟨z08 Tryd.func75 kR rfl,z7o⟩,⟨z08 Tryd.func76 kR rfl,zm1⟩,⟨z08 Tryd.func83 kR rfl,zef⟩,⟨z08 Tryd.func80 kR rfl,zec (z08 Tryd.func84 kR rfl) sta1_ok (z08 Tryd.func85 kR rfl) sta2_ok (by decide)⟩,trivial⟩,mixed⟩
@[simp] theorem gh4_ty:gh4.ty=ty:=rfl

def starAS:QSpec:=fun vs K=>∃ d:Dfa,vs=[dfaV d]∧d.wf∧K (resV (starR d))
theorem starA_ok:z1w Tryd.prog gl 24 starAS:=by
 refine z1c (Γ:=gh4) (N:=42) Tryd.func24 rfl rfl fun vs K h=>?_;obtain⟨d,rfl,hd,h⟩:=h;refine⟨_,h,z10 _,by simp,fun w I=>?_⟩;refine srR z8n fun _ K2=>?_
 iterate 3 refine z3n ?_
 refine s_n K2 ?_;refine seq_k fun _ K3=>?_;refine srR z8n fun _ K5=>?_;refine z3n ?_;refine z4i ?_;refine⟨d,rfl,hd,?_⟩;refine zbk ?_
 first|refine exI ?_|(intro cap1 hcap1;refine exI ?_)
 refine z3n ?_;refine s_n K5 ?_;refine z09 (b:=_) rfl (fun h_t12=>?_) (fun h_t12=>?_)
 ·try simp only[dQ,reduceIte]at h_t12
  refine srR z8n fun _ K7=>?_;refine z3n ?_;refine zb8 ?_;refine z3n ?_;refine s_n K7 ?_;rw[starR,if_neg (by simpa using h_t12)];refine z0g (z0k z8n (fun _ _ h=>h) (z10 _) [] [.cell 2 30,.tmp 3] rfl ?_)
  repeat first|refine aI (by first|exact trivial|rfl|exact⟨rfl,rfl⟩|decide) ?_|refine z04 (by first|rfl|decide) ?_|refine z03 (by first|rfl|decide) ?_
  all_goals exact z5b
 ·try simp only[dQ,reduceIte]at h_t12
  refine z0b ?_;apply K3
  have hg:=(z1e hd).1 (by simpa using h_t12)
  have gd:=z9c hg
  have hx:=z14 gd.1
  have hcc:∀ w,Bytes w→_:=fun w hw=>sta_can hg hw
  obtain⟨x,hxe⟩:∃ x,x=(tabD (canD (langD d))):=⟨_,rfl⟩;rw[←hxe]at hx hcc
  have hex:=sta_exin hx
  refine srR z8n fun _ K9=>?_;refine z3n ?_;refine z4i ?_;refine⟨d,rfl,hg,?_⟩;refine zbk ?_
  first|refine exI ?_|(intro cap1 hcap1;refine exI ?_)
  refine z4i ?_;refine aI (z0x _) ?_;refine z15 _ ?_;refine⟨tabD d,rfl,z14 hg,?_⟩;rw[z5j]
  simp only[z28]
  refine zbk ?_
  first|refine exI ?_|(intro cap2 hcap2;refine exI ?_)
  refine z4i ?_;refine⟨canD (langD d),rfl,gd.1,?_⟩;rw[←hxe];refine zbk ?_
  first|refine exI ?_|(intro cap3 hcap3;refine exI ?_)
  refine z3n ?_;refine zb8 ?_;refine s_n K9 ?_;refine leW [2] (fun _=>1) [(2,.c (.ptr 0 0)),(4,.c (dpT x))] [(0,.own 30 (.cells [.nils,.nils,.nils]) 3)] 1 [1] zfi zfi zfi zfi ?_;refine srR z8n fun _ K11=>?_;refine z4i ?_;refine exA (tabV x) (SV.as_refl _) ?_;refine z4i ?_;refine exA (tabV x) (SV.as_refl _) ?_;refine z4i ?_;refine aI (z0x _) ?_;refine z15 _ ?_;refine aI (z0x _) ?_;refine z15 _ ?_;refine⟨x,x,rfl,⟨hx,hx⟩,?_⟩
  simp only[z28]
  refine zbk ?_
  first|refine exI ?_|(intro cap2 hcap2;refine exI ?_)
  iterate 4 refine z3n ?_
  refine zb8 ?_;refine z3n ?_;refine s_n K11 ?_;refine leW [1] id [(2,.c (.ptr 0 0)),(4,.c (dpT x)),(5,.c (.dp (.ints .i64 (jL x x 256)) 0)),(6,.c (.ds (jrep (cN x) (cN x)).length (.ints .i64 (natsI (jrep (cN x) (cN x))))))] [(0,.own 30 (.cells [.nils,.nils,.nils]) 3)] 1 [0] zfi zfi zfi zfi ?_;refine srR z8n fun _ K13=>?_
  iterate 2 refine z3n ?_
  refine s_n K13 ?_;refine srR z8n fun _ K15=>?_;refine z4i ?_;refine exA (.agg (.ints .i64 (jL x x 256))) (SV.as_refl _) ?_;refine z3n ?_;refine z4i ?_;refine exA (.agg (.u64s [1])) (SV.as_refl _) ?_;refine z4i ?_;refine exA (stV (1,0,1)) (as_eq rfl) ?_
  iterate 2 refine z3n ?_
  refine z4i ?_;refine aI (nc_st _) ?_;refine aI (nc_1 _) ?_;refine aI (nc_1 _) ?_;refine⟨staG x,staA x,staI,jL x x 256,jrep (cN x) (cN x),(1,0,1),[dpT x],[dpT x],4096,rfl,hex,?_⟩
  have hrc:(exR (staG x) (staA x) (jL x x 256) (jrep (cN x) (cN x)) (1,0,1) 4096).1.cell.length=256:=zm8 (z0h x x 256)
  have hry:(exR (staG x) (staA x) (jL x x 256) (jrep (cN x) (cN x)) (1,0,1) 4096).2=true→(exR (staG x) (staA x) (jL x x 256) (jrep (cN x) (cN x)) (1,0,1) 4096).1.fit∧_:=fun hh=>(zgi (by decide) (fun s c hc=>zzv s hc) hcc (zfe hh)).imp_right And.right
  have hrn:(exR (staG x) (staA x) (jL x x 256) (jrep (cN x) (cN x)) (1,0,1) 4096).2=false→_:=fun hh=>ex_no hh
  have hrs:(exR (staG x) (staA x) (jL x x 256) (jrep (cN x) (cN x)) (1,0,1) 4096).2=true→_:=fun hh=>zfe hh
  obtain⟨r,hr⟩:∃ r,r=(exR (staG x) (staA x) (jL x x 256) (jrep (cN x) (cN x)) (1,0,1) 4096):=⟨_,rfl⟩;rw[←hr]at hrc hry hrn hrs ⊢;refine zbk ?_
  first|refine exI ?_|(intro cap6 hcap6;refine exI ?_)
  iterate 4 refine z3n ?_
  refine zb8 ?_;refine z3n ?_;refine s_n K15 ?_;refine seq_k fun _ K16=>?_;refine srR z8n fun _ K18=>?_
  iterate 2 refine z3n ?_
  refine s_n K18 ?_;refine z09 (b:=_) rfl (fun h_t36=>?_) (fun h_t36=>?_)
  ·try simp only[dQ,reduceIte]at h_t36
   refine srR z8n fun _ K20=>?_;refine z3n ?_;refine zb8 ?_;refine z3n ?_;refine s_n K20 ?_;rw[starR,if_pos (z1s hg), ←hxe,if_pos (hrn (by simpa using h_t36))];refine z0g (z0k z8n (fun _ _ h=>h) (z10 _) [] [.cell 2 30,.tmp 3] rfl ?_)
   repeat first|refine aI (by first|exact trivial|rfl|exact⟨rfl,rfl⟩|decide) ?_|refine z04 (by first|rfl|decide) ?_|refine z03 (by first|rfl|decide) ?_
   all_goals exact z5b
  ·try simp only[dQ,reduceIte]at h_t36
   refine z0b ?_;apply K16
   have hr2:r.2=true:=by simpa using h_t36
   obtain⟨hrf,hrcan⟩:=hry hr2;refine srR z8n fun _ K22=>?_;refine z4i ?_;refine exA (tabV r.1) (SV.as_refl _) ?_;refine z4i ?_;refine aI (z0x _) ?_;refine z15 _ ?_;refine⟨r.1,rfl,hrf,?_⟩;rw[hrcan]
   simp only[z28]
   refine zbk ?_
   first|refine exI ?_|(intro cap1 hcap1;refine exI ?_)
   iterate 2 refine z3n ?_
   refine zb8 ?_;refine z3n ?_;refine s_n K22 ?_;rw[starR,if_pos (z1s hg), ←hxe,if_neg (hrs hr2)];refine z0g (z0k z8n (fun _ _ h=>h) (z10 _) [] [.cell 2 30,.tmp 3] rfl ?_)
   repeat first|refine aI (by first|exact trivial|rfl|exact⟨rfl,rfl⟩|decide) ?_|refine z04 (by first|rfl|decide) ?_|refine z03 (by first|rfl|decide) ?_
   all_goals exact z5b


end Go.Proofs.YtppmnaoollkboaaDoor
