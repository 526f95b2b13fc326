/- Part 12 of what the claims of this seat share: the walk's engine, the functions' contracts, plain mathematics (Utf, Utg, Uth). -/
import Derived.Test.YtppmnaoollkboaaDoorPk
import Derived.Test.YtppmnaoollkboaaDoorPb
import Derived.Test.YtppmnaoollkboaaDoorPj
set_option maxHeartbeats 1000000
set_option maxRecDepth 4000
namespace Go.Proofs.YtppmnaoollkboaaDoor
set_option linter.all false
open Go.Ab Go.RowKit

open Go.Aut
def tgK(t:Tab)(x:UInt64)(b k:Nat):UInt64:=(List.range k).foldl (fun a q=>if bit x q=true then a ||| shl64 1 ((tblT t).δ q (cN t b))else a) 0
def tgtU(t:Tab)(x:UInt64)(b:Nat):UInt64:=tgK t x b t.next.length
theorem zgh(t:Tab)(x:UInt64)(b k:Nat):tgK t x b (k+1)=if bit x k=true then tgK t x b k ||| shl64 1 ((tblT t).δ k (cN t b))else tgK t x b k:=by
  rw[tgK,List.range_succ,List.foldl_append];rfl
def smK(t:Tab)(x:UInt64)(k:Nat):Bool:=(List.range k).any fun q=>t.acc.getD q false&&bit x q
def someU(t:Tab)(x:UInt64):Bool:=smK t x t.acc.length
theorem ztk(t:Tab)(x:UInt64)(k:Nat):smK t x (k+1)=(smK t x k||(t.acc.getD k false&&bit x k)):=by simp[smK,List.range_succ]
theorem zzu (x:UInt64) (q:Nat):decide (shr64 x q &&& 1=1)=bit x q:=by
  have h1:bit (shr64 x q) 0=bit x q:=by
    unfold shr64
    by_cases hq:q< 64
    · rw[if_pos hq,zg7,zg7,UInt64.toNat_shiftRight,Nat.testBit_shiftRight]
      congr 1
      have:(q.toUInt64).toNat=q:=by
        show q%18446744073709551616=q
        omega
      rw[this];omega
    · rw[if_neg hq,zb4,zsp (by omega)]
  rw[←h1,Bool.eq_iff_iff,decide_eq_true_eq]
  constructor
  · intro h
    have:=congrArg (fun y=>bit y 0) h
    simp only[zli,zqa]at this
    simpa using this
  · intro h
    refine zq9 fun s hs=>?_;rw[zli,zqa]
    by_cases e:s=0
    · subst e;rw[h];rfl
    · simp[e]
theorem tgK_bit {t:Tab} (ht:t.ok) (h64:t.next.length≤64) {x:UInt64} {b:Nat} {k q:Nat} (hk:k≤t.next.length):bit (tgK t x b k) q=true↔∃ r,r< k∧bit x r=true∧(tblT t).δ r (cN t b)=q:=by
  have hc:cN t b< t.nc:=by
    rcases Nat.lt_or_ge b 256 with h|h
    · exact(cellN ht h).1
    · have:cN t b=0:=by
        show(t.cell.getD b 0).toNat=0
        rw[List.getD_eq_getElem?_getD,List.getElem?_eq_none (by rw[ht.clen];exact h)];rfl
      rw[this];exact Tab.nc_pos ht
  induction k with
  |zero=>exact⟨fun h=>(by rw[show tgK t x b 0=0 from rfl,zb4]at h;cases h),fun⟨r,hr,_⟩=>absurd hr (Nat.not_lt_zero r)⟩
  | succ k ih=>
    have ih:bit (tgK t x b k) q=true↔∃ r,r< k∧bit x r=true∧(tblT t).δ r (cN t b)=q:=ih (by omega)
    have hd:=(nextN ht (show k< t.next.length by omega) hc).1
    rw[zgh]
    by_cases hb:bit x k=true
    · rw[if_pos hb,bit_or,Bool.or_eq_true,ih,zg6,Bool.and_eq_true,decide_eq_true_eq,decide_eq_true_eq]
      constructor
      · rintro (⟨r,h1,h2⟩|⟨e,_⟩)
        · exact⟨r,by omega,h2⟩
        · exact⟨k,by omega,hb,e.symm⟩
      · rintro ⟨r,h1,h2,h3⟩
        by_cases e:r=k
        · subst e;exact .inr ⟨h3.symm,by omega⟩
        · exact .inl ⟨r,by omega,h2,h3⟩
    · rw[if_neg hb,ih]
      constructor
      · rintro ⟨r,h1,h2⟩;exact⟨r,by omega,h2⟩
      · rintro ⟨r,h1,h2,h3⟩
        have:r≠k:=fun e=>hb (e▸h2)
        exact⟨r,by omega,h2,h3⟩
def memT(t:Tab)(x:UInt64)(q:Nat):Prop:=q< t.next.length∧bit x q=true
theorem z7s {t:Tab} (ht:t.ok) (h64:t.next.length≤64) {x:UInt64} {b q:Nat}:memT t (tgtU t x b) q↔∃ r,memT t x r∧(tblT t).δ r (cN t b)=q:=by
  have hc:cN t b< t.nc:=by
    rcases Nat.lt_or_ge b 256 with h|h
    · exact(cellN ht h).1
    · have:cN t b=0:=by
        show(t.cell.getD b 0).toNat=0
        rw[List.getD_eq_getElem?_getD,List.getElem?_eq_none (by rw[ht.clen];exact h)];rfl
      rw[this];exact Tab.nc_pos ht
  rw[memT,tgtU,tgK_bit ht h64 (Nat.le_refl _)]
  constructor
  · rintro ⟨_,r,h1,h2,h3⟩;exact⟨r,⟨h1,h2⟩,h3⟩
  · rintro ⟨r,⟨h1,h2⟩,rfl⟩;exact⟨(nextN ht h1 hc).1,r,h1,h2,rfl⟩
theorem zm5{t:Tab}(ht:t.ok){x:UInt64}:someU t x=true↔∃ q,memT t x q∧t.acc.getD q false=true:=by
  rw[someU,smK,List.any_eq_true]
  constructor
  · rintro ⟨q,hq,h⟩
    rw[Bool.and_eq_true]at h;exact⟨q,⟨by rw[←ht.alen];exact List.mem_range.1 hq,h.2⟩,h.1⟩
  · rintro ⟨q,⟨h1,h2⟩,h3⟩
    exact⟨q,List.mem_range.2 (by rw[ht.alen];exact h1),by rw[h2,h3];rfl⟩
theorem zqv{t:Tab}(ht:t.ok){x:UInt64}{q:Nat}:memT t (x ||| 1) q↔memT t x q∨q=0:=by
  rw[memT,memT,bit_or,zqa,Bool.or_eq_true,decide_eq_true_eq]
  constructor
  · rintro ⟨h1,h2|h2⟩
    · exact .inl ⟨h1,h2⟩
    · exact .inr h2
  · rintro (⟨h1,h2⟩|h2)
    · exact⟨h1,.inl h2⟩
    · exact⟨by rw[h2];exact ht.npos,.inr h2⟩
theorem ztl{t:Tab}{q:Nat}:¬ memT t 0 q:=fun h=>by have:=h.2;rw[zb4]at this;cases this
def entG(x:Tab)(s:Stt):Stt:=if x.acc.getD s.1 false=true then(s.1,s.2.1,s.2.2 ||| 1)else s
def catG(x y:Tab)(s:Stt)(c:Nat):Stt:=entG x ((tblT x).δ s.1 (cN x c),0,tgtU y s.2.2 c)
def catA(y:Tab)(s:Stt):Bool:=someU y s.2.2
def cat0(x:Tab):Stt:=entG x (0,0,0)
theorem zfa(x:Tab)(s:Stt):(entG x s).1=s.1∧(entG x s).2.1=s.2.1:=by unfold entG;split<;>exact⟨rfl,rfl⟩
theorem ztm{x y:Tab}(hy:y.ok)(s:Stt)(q:Nat):memT y (entG x s).2.2 q↔memT y s.2.2 q∨(x.acc.getD (entG x s).1 false=true∧q=0):=by
  rw[(zfa x s).1];unfold entG
  by_cases h:x.acc.getD s.1 false=true
  · rw[if_pos h,zqv hy]
    exact⟨fun h2=>h2.elim .inl fun e=>.inr ⟨h,e⟩,fun h2=>h2.elim .inl fun e=>.inr e.2⟩
  · rw[if_neg h]
    exact⟨.inl,fun h2=>h2.elim id fun e=>absurd e.1 h⟩
def catI(x:Tab)(s:Stt):Prop:=s.1< x.next.length∧s.2.1=0
theorem catI_0{x:Tab}(hx:x.ok):catI x (cat0 x):=⟨by rw[cat0,(zfa _ _).1];exact hx.npos,by rw[cat0,(zfa _ _).2]⟩
theorem catI_g{x y:Tab}(hx:x.fit){s:Stt}{c:Nat}(hs:catI x s)(hc:c< 256):catI x (catG x y s c):=
  ⟨by rw[catG,(zfa _ _).1];exact(nextN hx.1 hs.1 (cellN hx.1 hc).1).1,by rw[catG,(zfa _ _).2]⟩
theorem catI_ok{x:Tab}(hx:x.fit){s:Stt}(hs:catI x s):okS s:=⟨by have:=hs.1;have:=hx.2.1;omega,by have:=hs.2;omega⟩
theorem zog{y:Tab}{s:UInt64}{c r:Nat}(h:cN y r=cN y c):tgtU y s r=tgtU y s c:=by
  unfold tgtU tgK;rw[h]
theorem zij{x y:Tab}(s:Stt){c:Nat}(hc:c< 256):stepF (catG x y) (jrep (cN x) (cN y)) s ((jL x y 256).getD c 0).toNat=catG x y s c:=by
  obtain⟨_,r,h1,h2,h3,_⟩:=(j_in x y).at' c hc;rw[stepF,h1,catG,catG,h2,zog h3]
theorem cat_lang{x y:Tab}(hx:x.fit)(hy:y.fit)(h64:y.next.length≤64){w:List Nat}(hw:Bytes w):catA y (runB (catG x y) (cat0 x) w)=catB ((tblT x).lang 0) ((tblT y).lang 0) w:=by
  have hm:=cat_mem (g:=catG x y) (s0:=cat0 x) (mem:=fun s q=>memT y s.2.2 q) (dx:=fun p c=>(tblT x).δ p (cN x c)) (dy:=fun p c=>(tblT y).δ p (cN y c)) (ax:=fun q=>x.acc.getD q false) (p:=fun s=>s.1)
    (by rw[cat0,(zfa _ _).1]) (fun s b=>by rw[catG,(zfa _ _).1]) (fun q=>by
      rw[cat0,ztm hy.1,(zfa _ _).1]
      exact⟨fun h=>h.elim (fun h=>absurd h ztl) id,.inr⟩) (fun s b q=>by
      rw[catG,ztm hy.1]
      exact or_congr (z7s hy.1 h64) Iff.rfl) w
  rw[Bool.eq_iff_iff,catA,zm5 hy.1,zlg]
  have h2:=cat_acc (g:=catG x y) (s0:=cat0 x) (mem:=fun s q=>memT y s.2.2 q) (dx:=fun p c=>(tblT x).δ p (cN x c)) (dy:=fun p c=>(tblT y).δ p (cN y c)) (ax:=fun q=>x.acc.getD q false) (ay:=fun q=>y.acc.getD q false) (w:=w) hm.2
  rw[h2]
  have e1:(fun u=>x.acc.getD (runB (fun p c=>(tblT x).δ p (cN x c)) 0 u) false)=(tblT x).lang 0:=funext fun u=>(z8e (tblT x) u).symm
  have e2:(fun u=>y.acc.getD (runB (fun p c=>(tblT y).δ p (cN y c)) 0 u) false)=(tblT y).lang 0:=funext fun u=>(z8e (tblT y) u).symm
  rw[e1,e2]
def staG(x:Tab)(s:Stt)(c:Nat):Stt:=(0,0,if someU x (tgtU x s.2.2 c)=true then tgtU x s.2.2 c ||| 1 else tgtU x s.2.2 c)
def staA(x:Tab)(s:Stt):Bool:=decide (s.1=1)||someU x s.2.2
def staI(s:Stt):Prop:=s.1≤1∧s.2.1=0
theorem staI_g(x:Tab)(s:Stt)(c:Nat):staI (staG x s c):=⟨Nat.zero_le _,rfl⟩
theorem staI_ok{s:Stt}(hs:staI s):okS s:=⟨by have:=hs.1;omega,by have:=hs.2;omega⟩
theorem zzv{x:Tab}(s:Stt){c:Nat}(hc:c< 256):stepF (staG x) (jrep (cN x) (cN x)) s ((jL x x 256).getD c 0).toNat=staG x s c:=by
  obtain⟨_,r,h1,h2,_,_⟩:=(j_in x x).at' c hc;rw[stepF,h1,staG,staG,zog h2]
theorem ztn(x:Tab):∀ (w:List Nat) (s:Stt),w≠[]→(runB (staG x) s w).1=0
  |[],_,h=>absurd rfl h
  |[c],s,_=>rfl
  |c::d::w,s,_=>ztn x (d::w) (staG x s c) (by simp)
theorem sta_lang {x:Tab} (hx:x.fit) (h64:x.next.length≤64) {w:List Nat} (hw:Bytes w):staA x (runB (staG x) (1,0,1) w)=starB ((tblT x).lang 0) w:=by
  have e1:(fun u=>x.acc.getD (runB (fun p c=>(tblT x).δ p (cN x c)) 0 u) false)=(tblT x).lang 0:=funext fun u=>(z8e (tblT x) u).symm
  rw[Bool.eq_iff_iff,zcv]
  cases w with
  |nil=>exact⟨fun _=>StarL.nil _,fun _=>rfl⟩
  | cons c w=>
    have hm :=star_mem (g:=staG x) (s0:=((1,0,1):Stt)) (mem:=fun s q=>memT x s.2.2 q) (d:=fun p c=>(tblT x).δ p (cN x c)) (a:=fun q=>x.acc.getD q false)
      (fun q=>by
        have:=zqv hx.1 (x:=0) (q:=q)
        rw[show(0 ||| 1:UInt64)=1 from rfl]at this;rw[this]
        exact⟨fun h=>h.elim (fun h=>absurd h ztl) id,.inr⟩)
      (fun s b q=>by
        show memT x (if someU x (tgtU x s.2.2 b)=true then tgtU x s.2.2 b ||| 1 else tgtU x s.2.2 b) q↔_
        have hs:=zm5 hx.1 (x:=tgtU x s.2.2 b)
        have hiff:someU x (tgtU x s.2.2 b)=true↔∃ r,memT x s.2.2 r∧x.acc.getD ((tblT x).δ r (cN x b)) false=true:=by
          rw[hs]
          constructor
          · rintro ⟨q,hq,ha⟩
            obtain⟨r,hr,rfl⟩:=(z7s hx.1 h64).1 hq;exact⟨r,hr,ha⟩
          · rintro ⟨r,hr,ha⟩
            exact⟨_,(z7s hx.1 h64).2 ⟨r,hr,rfl⟩,ha⟩
        by_cases h:someU x (tgtU x s.2.2 b)=true
        · rw[if_pos h,zqv hx.1,z7s hx.1 h64]
          exact or_congr Iff.rfl ⟨fun e=>⟨e,hiff.1 h⟩,fun e=>e.1⟩
        · rw[if_neg h,z7s hx.1 h64]
          exact⟨.inl,fun h2=>h2.elim id fun e=>absurd (hiff.2 e.2) h⟩) (c::w)
    have h2:=star_acc (g:=staG x) (s0:=((1,0,1):Stt)) (mem:=fun s q=>memT x s.2.2 q) (d:=fun p c=>(tblT x).δ p (cN x c)) (a:=fun q=>x.acc.getD q false) (show c::w≠[] by simp) hm
    rw[e1]at h2;rw[←h2,staA,ztn x (c::w) _ (by simp)]
    simp only[decide_eq_false (show ¬ (0:Nat)=1 by decide),Bool.false_or]
    exact zm5 hx.1
theorem z9c{d:Dfa}(h:d.good):(canD (langD d)).good∧∀ w,Bytes w→langD (canD (langD d)) w=langD d w:=by
  obtain⟨h1,h2,h3⟩:=canD_dfa h.1;exact⟨⟨h1,Nat.le_trans h3 h.2⟩,fun w hw=>zno h2 hw⟩
attribute [local irreducible] allB
theorem zgi{g:Stt→Nat→Stt}{acc:Stt→Bool}{a b:Tab}{s0:Stt}{L:List Nat→Bool}{m:Nat}(hm:m≤65535)(hc:∀ s x,x< 256→stepF g (jrep (cN a) (cN b)) s ((jL a b 256).getD x 0).toNat=g s x)(hL:∀ w,Bytes w→acc (runB g s0 w)=L w)
    (h:¬ Big (stepF g (jrep (cN a) (cN b))) (jrep (cN a) (cN b)).length s0 m):(exR g acc (jL a b 256) (jrep (cN a) (cN b)) s0 m).1.fit∧(exR g acc (jL a b 256) (jrep (cN a) (cN b)) s0 m).2=true∧canD ((tblT (exR g acc (jL a b 256) (jrep (cN a) (cN b)) s0 m).1).lang 0)=canD L:=by
  obtain⟨n,hn,hle⟩:=zzk h
  have hn0:0< n:=by
    rcases Nat.eq_zero_or_pos n with e|e
    · subst e
      have:=hn.len
      have h2:=zfx (f:=stepF g (jrep (cN a) (cN b))) (nc:=(jrep (cN a) (cN b)).length) (b0:=s0) (0*(jrep (cN a) (cN b)).length)
      omega
    · exact e
  have hj:=j_in a b
  rw[exR,if_neg h,zyp hn];refine⟨⟨zxp hn hn0 (z0h a b 256) hj.cl hj.on,?_,hj.max⟩,rfl,z37 fun w hw=>?_⟩
  · show(rowsQ _ _ _ n).length≤65535
    rw[z58];omega
  · rw[znx (g:=g) hn hn0 (fun x hx=>(hj.at' x hx).1) (fun s x hx=>hc s x hx) hw]
    exact hL w hw
theorem exT_big{g:Stt→Nat→Stt}{acc:Stt→Bool}{cell:List Int}{bytes:List Nat}{s0:Stt}{m:Nat}(h:Big (stepF g bytes) bytes.length s0 m):exR g acc cell bytes s0 m=(zeroT,false):=by rw[exR,if_pos h]
open Classical in
noncomputable def z79(d e:Dfa):Dfa×Nat:=if z0w d=true∧z0w e=true then
  (if Big (stepF (catG (tabD (canD (langD d))) (tabD (canD (langD e)))) (jrep (cN (tabD (canD (langD d)))) (cN (tabD (canD (langD e)))))) (jrep (cN (tabD (canD (langD d)))) (cN (tabD (canD (langD e))))).length (cat0 (tabD (canD (langD d)))) 4096 then(noD,2)else limL (canD (catB (langD d) (langD e)))) else(noD,1)
open Classical in
noncomputable def starR(d:Dfa):Dfa×Nat:=if z0w d=true then
  (if Big (stepF (staG (tabD (canD (langD d)))) (jrep (cN (tabD (canD (langD d)))) (cN (tabD (canD (langD d)))))) (jrep (cN (tabD (canD (langD d)))) (cN (tabD (canD (langD d))))).length (1,0,1) 4096 then(noD,2)else limL (canD (starB (langD d)))) else(noD,1)

end Go.Proofs.YtppmnaoollkboaaDoor

namespace Go.Proofs.YtppmnaoollkboaaDoor
set_option linter.all false
open Go.Ab Go.RowKit

section
variable {a b:Prop}
theorem qUtg0(h:a:=by first|exact vcA|(simp[-List.reduceReplicate]<;>omega)|(show(_:Nat)< 3;decide)|(show(_:Nat)< 1;decide)|(show(_:Nat)≤3;decide)|exact vTh|exact vcB):a:=h
theorem qUtg1(h:a:=by first|exact vcA|(simp[-List.reduceReplicate]<;>omega)|(show(_:Nat)< 3;decide)|(show(_:Nat)< 1;decide)|(show(_:Nat)≤3;decide)|exact vTx|exact vcB):a:=h
theorem qUtg2(h:a:=by first|exact trivial|rfl|(show(_:Nat)≤3;decide)|(show(_:Nat)< 3;decide)|decide):a:=h
theorem qUtg3(h:a:=by first|exact vcA|(simp[-List.reduceReplicate]<;>omega)|(show(_:Nat)< 3;decide)|(show(_:Nat)< 1;decide)|(show(_:Nat)≤3;decide)|exact vTx|exact vTy|exact vcB):a:=h
theorem qUtg4(h:a:=by first|exact vcA|(simp[-List.reduceReplicate]<;>omega)|(show(_:Nat)< 3;decide)|(show(_:Nat)< 1;decide)|(show(_:Nat)≤3;decide)|exact vTy|exact vcB):a:=h
theorem z2q(h:a:=by
    repeat' (first|exact z3b _|exact pT|exact trivial|refine aI ?_ ?_|exact cC0|refine low_cons' ?_ ?_|exact cC1|fail)
    all_goals first|omega|(show(_:List UInt64)=_;first|assumption|rfl)|(show(0:Nat)< (z02 _ _ _ _).length;rw[z00 hcl];decide)|(simp[-List.reduceReplicate];done)|(simp[-List.reduceReplicate]<;>omega)|skip):a:=h
theorem zfb(kZ:b)(h:HidB b→a:=by intro kZ;(repeat first|refine aI qUtg0 ?_|refine z04 qUtg0 ?_|refine z03 qUtg0 ?_|refine z0m qUtg0 ?_|refine z0c ?_);exact kZ.out):a:=h ⟨kZ⟩
theorem z2o(kZ:b)(h:HidB b→a:=by intro kZ;refine sX ?_;refine zfb ?_;refine exI ?_;exact kZ.out):a:=h ⟨kZ⟩
theorem zik(kZ:b)(h:HidB b→a:=by intro kZ;refine dX ?_;refine zfb ?_;refine exI ?_;exact kZ.out):a:=h ⟨kZ⟩
theorem gX0Utg_3(kZ:b)(h:HidB b→a:=by intro kZ;refine gX0 ?_;refine zfb ?_;refine exI ?_;exact kZ.out):a:=h ⟨kZ⟩
theorem sX0Utg_4(kZ:b)(h:HidB b→a:=by intro kZ;refine sX0 ?_;refine zfb ?_;refine exI ?_;exact kZ.out):a:=h ⟨kZ⟩
theorem zto(kZ:b)(h:HidB b→a:=by intro kZ;refine sXT ?_;refine zfb ?_;refine exI ?_;exact kZ.out):a:=h ⟨kZ⟩
theorem zfc(kZ:b)(h:HidB b→a:=by intro kZ;(repeat first|refine aI qUtg1 ?_|refine z04 qUtg1 ?_|refine z03 qUtg1 ?_|refine z0m qUtg1 ?_|refine z0c ?_);exact kZ.out):a:=h ⟨kZ⟩
theorem z3u(kZ:b)(h:HidB b→a:=by intro kZ;refine sX ?_;refine zfc ?_;refine exI ?_;exact kZ.out):a:=h ⟨kZ⟩
theorem z9d(kZ:b)(h:HidB b→a:=by intro kZ;refine sX0 ?_;refine zfc ?_;refine exI ?_;exact kZ.out):a:=h ⟨kZ⟩
theorem zil(kZ:b)(h:HidB b→a:=by intro kZ;(repeat first|refine aI qUtg3 ?_|refine z04 qUtg3 ?_|refine z03 qUtg3 ?_|refine z0m qUtg3 ?_|refine z0c ?_);exact kZ.out):a:=h ⟨kZ⟩
theorem sXUtg_10(kZ:b)(h:HidB b→a:=by intro kZ;refine sX ?_;refine zil ?_;refine exI ?_;exact kZ.out):a:=h ⟨kZ⟩
theorem z9e(kZ:b)(h:HidB b→a:=by intro kZ;refine dX ?_;refine zil ?_;refine exI ?_;exact kZ.out):a:=h ⟨kZ⟩
theorem zzw(kZ:b)(h:HidB b→a:=by intro kZ;refine gX0 ?_;refine zil ?_;refine exI ?_;exact kZ.out):a:=h ⟨kZ⟩
theorem zqw(kZ:b)(h:HidB b→a:=by intro kZ;(repeat first|refine aI qUtg4 ?_|refine z04 qUtg4 ?_|refine z03 qUtg4 ?_|refine z0m qUtg4 ?_|refine z0c ?_);exact kZ.out):a:=h ⟨kZ⟩
theorem zm6(kZ:b)(h:HidB b→a:=by intro kZ;refine sX ?_;refine zqw ?_;refine exI ?_;exact kZ.out):a:=h ⟨kZ⟩
theorem zzx(kZ:b)(h:HidB b→a:=by intro kZ;refine sXT ?_;refine zfc ?_;refine exI ?_;exact kZ.out):a:=h ⟨kZ⟩
theorem z8m(kZ:b)(h:HidB b→a:=by intro kZ;refine sX ?_;refine zfb ?_;exact kZ.out):a:=h ⟨kZ⟩
theorem zam(kZ:b)(h:HidB b→a:=by intro kZ;refine dX ?_;refine zfb ?_;exact kZ.out):a:=h ⟨kZ⟩
theorem zk8(kZ:b)(h:HidB b→a:=by intro kZ;refine sXT ?_;refine zfb ?_;exact kZ.out):a:=h ⟨kZ⟩
theorem z4t(kZ:b)(h:HidB b→a:=by intro kZ;refine sX ?_;refine zfc ?_;exact kZ.out):a:=h ⟨kZ⟩
theorem z6e(kZ:b)(h:HidB b→a:=by intro kZ;refine dX ?_;refine zil ?_;exact kZ.out):a:=h ⟨kZ⟩
theorem zoh(kZ:b)(h:HidB b→a:=by intro kZ;refine gX ?_;refine zil ?_;exact kZ.out):a:=h ⟨kZ⟩
theorem zim(kZ:b)(h:HidB b→a:=by intro kZ;refine sX ?_;refine zqw ?_;exact kZ.out):a:=h ⟨kZ⟩
theorem zem(kZ:b)(h:HidB b→a:=by intro kZ;refine sXT ?_;refine zfc ?_;exact kZ.out):a:=h ⟨kZ⟩
end
open Go.Aut
attribute [local irreducible] z0s z12 zl z02 z11 putB tgK
theorem ztp(x:UInt64):SV.as (.agg (.cells [.u64 x])) (.agg (.u64s [x])):=SV.as_agg (eqv_u64s [x])
def zm7:QSpec:=fun vs K=>∃ (t:Tab) (x:UInt64) (b:Nat),vs=[tabV t,.agg (.u64s [x]),.c (.int .i64 (b:Int))]∧(t.fit∧b< 256)∧K (.agg (.u64s [tgtU t x b]))
theorem zk9:z19 Tryd.prog gl 79 zm7:=by
 refine z1d (Γ:=g0) (N:=39) Tryd.func79 rfl rfl fun vs K h=>?_;obtain⟨t,x,b,rfl,⟨ht,hb⟩,h⟩:=h;refine⟨_,h,rfl,by simp,fun w I=>?_⟩
 have ht0:=ht
 obtain⟨hok,hlen,hnc⟩:=ht0
 have hcl:=hok.clen
 refine srR g0_ok fun _ K2=>?_
 iterate 3 refine z2o ?_
 refine s_n K2 ?_;refine srR g0_ok fun _ K4=>?_;refine z2o ?_;refine s_n K4 ?_;refine seq_k fun _ K5=>?_;refine leW [0] (fun i=>i+1) [(2,.c (.int .i64 (b:Nat))),(3,.c (.dp (tabC t) 0)),(4,.c (.ptr 0 0)),(6,.c (.ptr 1 0)),(7,.c (.ptr 2 0))] [(0,.own 93 (.u64s [x]) 1),(1,.own 93 (.u64s (List.replicate 1 0)) 1),(2,.own 93 (.u64s [0]) 1)] 3 [1,2,3] z2q z2q z2q z2q ?_;refine srR g0_ok fun _ K7=>?_;refine z2o ?_;refine z8m ?_;refine exA (.c (.ds t.next.length (.cells (rowsC t.next)))) (as_c (z6p hcl)) ?_
 iterate 2 refine z2o ?_
 refine s_n K7 ?_;refine z07 ?_;refine z0q (α:=Nat) (fun k=>[(2,.c (.int .i64 (b:Nat))),(3,.c (.dp (tabC t) 0)),(4,.c (.ptr 0 0)),(6,.c (.ptr 1 0)),(7,.c (.ptr 2 0)),(11,.c (.int .i64 (t.next.length:Nat))),(12,.c (.int .i64 (k:Nat)))]) (fun k=>[(0,.own 93 (.u64s [x]) 1),(1,.own 93 (.u64s (List.replicate 1 0)) 1),(2,.own 93 (.u64s [tgK t x b k]) 1)]) 3 (fun k=>k≤t.next.length) (fun k=>t.next.length - k) ?_ ?_
 ·have hX1:[(0:UInt64)]=[tgK t x b 0]:=by unfold tgK;rfl
  refine dnS [] id 0 (Nat.zero_le _) [0,1,2] z2q z2q z2q z2q
 ·intro k hk
  refine srR g0_ok fun _ K9=>?_;refine z2o ?_;refine s_n K9 ?_;refine seq_k fun _ K10=>?_;refine z09 (b:=_) rfl (fun h_t13=>?_) (fun h_t13=>?_)
  ·try simp only[dQ,reduceIte]at h_t13
   refine z0b ?_;apply K10;refine seq_k fun _ K11=>?_;refine z07 ?_;refine srR g0_ok fun _ K13=>?_
   iterate 2 refine z2o ?_
   refine s_n K13 ?_
   have hkl:k< t.next.length:=by omega
   refine srR g0_ok fun _ K15=>?_
   iterate 3 refine z2o ?_
   refine z8m ?_;refine exA (.c (.u64 (shr64 x k))) (as_eq (by rw[Int.toNat_natCast];rfl)) ?_;refine z2o ?_;refine z8m ?_;refine exA (.c (.bool (bit x k))) (as_b (by rw[←zzu];rfl)) ?_;refine s_n K15 ?_;refine z09 (b:=_) rfl (fun h_t20=>?_) (fun h_t20=>?_)
   ·have hx:=nextN hok hkl (cellN hok hb).1
    have hrl:=z5a hok hkl
    have hcb:cN t b< t.nc:=(cellN hok hb).1
    have hx:(tblT t).δ k (cN t b)< t.next.length∧(t.next.getD k []).getD (cN t b) 0=(((tblT t).δ k (cN t b):Nat):Int):=hx
    refine z5v g0_ok [(0,true),(1,true),(2,true),(3,true),(4,true),(5,true),(6,true),(7,true),(8,true),(9,true),(10,true),(11,true),(12,true),(13,true),(14,true),(15,true),(16,false)] rfl kR kR fun _ K16=>?_
    iterate 3 refine zik ?_
    refine zam ?_;refine exA (.c (.ds t.next.length (.cells (rowsC t.next)))) (as_c (z6p hcl)) ?_
    iterate 2 refine zik ?_
    refine zam ?_;refine exA (.c (.ds (t.next.getD k []).length (.ints .i64 (t.next.getD k [])))) (as_c (z4n ⟨hkl,by omega⟩)) ?_
    iterate 3 refine zik ?_
    refine zam ?_;refine exA (.c (.int .i64 ((cN t b:Nat):Int))) (as_c ((zd2 hcl (by first|omega|(simp;done)) hb).trans (congrArg (Cell.int IntKind.i64) (cellN hok hb).2))) ?_;refine zik ?_;refine zam ?_;refine exA (.c (.int .i64 ((((tblT t).δ k (cN t b):Nat):Int)))) (as_i ((congrArg (fun i=>(t.next.getD k []).getD i 0) (by omega)).trans hx.2)) ?_;refine zam ?_;refine exA (.c (.u64 (shl64 1 ((tblT t).δ k (cN t b))))) (as_eq (by rw[Int.toNat_natCast];rfl)) ?_
    iterate 2 refine zik ?_
    refine gX0Utg_3 ?_;refine d_n K16 ?_;refine z0a ?_;apply K11;refine z06 g0_ok fun _ K17=>?_
    iterate 2 refine z2o ?_
    refine s_n K17 ?_
    have hX1:[tgK t x b k ||| shl64 1 ((tblT t).δ k (cN t b))]=[tgK t x b (k+1)]:=by rw[zgh,if_pos h_t20]
    refine dnS [] id (k+1) ⟨by omega,by omega⟩ [0,1,2] z2q z2q z2q z2q
   ·refine z0b ?_;refine z0a ?_;apply K11;refine z06 g0_ok fun _ K18=>?_
    iterate 2 refine z2o ?_
    refine s_n K18 ?_
    have hX1:[tgK t x b k]=[tgK t x b (k+1)]:=by rw[zgh,if_neg (by rw[h_t20];decide)]
    refine dnS [] id (k+1) ⟨by omega,by omega⟩ [0,1,2] z2q z2q z2q z2q
  ·try simp only[dQ,reduceIte]at h_t13
   refine z0o ?_;refine z01 ?_;refine z01 ?_;refine z0j ?_;apply K5
   obtain rfl:k=t.next.length:=by omega
   refine srR g0_ok fun _ K20=>?_;refine z2o ?_;refine sX0Utg_4 ?_;refine s_n K20 ?_;refine z0g (z0d g0_ok (fun _ _ h=>h) (by first|rfl|assumption) [.cell 6 93] rfl ?_);refine rtD ?_
   try refine z04 rfl ?_
   rfl

def zzy:QSpec:=fun vs K=>∃ (t:Tab) (x:UInt64),vs=[tabV t,.agg (.u64s [x])]∧t.fit∧K (.c (.bool (someU t x)))
theorem ztq:z19 Tryd.prog gl 82 zzy:=by
 refine z1d (Γ:=g0) (N:=25) Tryd.func82 rfl rfl fun vs K h=>?_;obtain⟨t,x,rfl,ht,h⟩:=h;refine⟨_,h,rfl,by simp,fun w I=>?_⟩
 have ht0:=ht
 obtain⟨hok,hlen,hnc⟩:=ht0
 have hcl:=hok.clen
 refine srR g0_ok fun _ K2=>?_
 iterate 3 refine z2o ?_
 refine s_n K2 ?_;refine seq_k fun _ K3=>?_
 have hal:=hok.alen
 refine leW [0] (fun i=>i+1) [(2,.c (.dp (tabC t) 0)),(3,.c (.ptr 0 0))] [(0,.own 93 (.u64s [x]) 1)] 1 [1] z2q z2q z2q z2q ?_;refine srR g0_ok fun _ K5=>?_;refine z2o ?_;refine z8m ?_;refine exA (.c (.ds t.acc.length (.bools t.acc))) (as_c (zbi hcl)) ?_
 iterate 2 refine z2o ?_
 refine s_n K5 ?_;refine z07 ?_;refine z0q (α:=Nat) (fun k=>[(2,.c (.dp (tabC t) 0)),(3,.c (.ptr 0 0)),(8,.c (.ds t.acc.length (.bools t.acc))),(9,.c (.int .i64 (t.acc.length:Nat))),(10,.c (.int .i64 (k:Nat)))]) (fun k=>[(0,.own 93 (.u64s [x]) 1)]) 1 (fun k=>k≤t.acc.length∧smK t x k=false) (fun k=>t.acc.length - k) ?_ ?_
 ·refine dnS [] id 0 ⟨Nat.zero_le _,rfl⟩ [0] z2q z2q z2q z2q
 ·intro k hk
  refine srR g0_ok fun _ K7=>?_;refine z2o ?_;refine s_n K7 ?_;refine seq_k fun _ K8=>?_;refine z09 (b:=_) rfl (fun h_t11=>?_) (fun h_t11=>?_)
  ·try simp only[dQ,reduceIte]at h_t11
   refine z0b ?_;apply K8;refine seq_k fun _ K9=>?_;refine z07 ?_
   have hkl:k< t.acc.length:=by omega
   refine srR g0_ok fun _ K11=>?_
   iterate 2 refine z2o ?_
   refine z8m ?_;refine exA (.c (.bool (t.acc.getD k false))) (as_b (congrArg (fun i=>t.acc.getD i false) (by omega))) ?_
   iterate 2 refine z2o ?_
   refine s_n K11 ?_;refine srR g0_ok fun _ K13=>?_;refine z2o ?_;refine z8m ?_;refine exB (fun hb1=>?_) (fun hb1=>?_)
   ·try simp only[dQ,reduceIte]at hb1
    iterate 3 refine zto ?_
    refine zk8 ?_;refine exA (.c (.u64 (shr64 x k))) (as_eq (by rw[Int.toNat_natCast];rfl)) ?_;refine zto ?_;refine zk8 ?_;refine exA (.c (.bool (bit x k))) (as_b (by rw[←zzu];rfl)) ?_;refine z2o ?_;refine s_n K13 ?_;refine z09 (b:=_) rfl (fun h_t23=>?_) (fun h_t23=>?_)
    ·try simp only[dQ,reduceIte]at h_t23
     refine srR g0_ok fun _ K15=>?_;refine z2o ?_;refine s_n K15 ?_;refine z0g (z0d g0_ok (fun _ _ h=>h) (by first|rfl|assumption) [.tmp 4] rfl ?_);refine rtD ?_
     have hsk:someU t x=true:=by
      rw[someU,smK,List.any_eq_true];exact⟨k,List.mem_range.2 hkl,by simp_all⟩
     show SV.c (.bool true)=SV.c (.bool (someU t x))
     rw[hsk]
    ·try simp only[dQ,reduceIte]at h_t23
     refine z0b ?_;refine z0a ?_;apply K9;refine z06 g0_ok fun _ K16=>?_
     iterate 2 refine z2o ?_
     refine s_n K16 ?_
     have hsk:smK t x (k+1)=false:=by rw[ztk,hk.2];simp_all
     refine dnS [] id (k+1) ⟨⟨by omega,hsk⟩,by omega⟩ [0] z2q z2q z2q z2q
   ·try simp only[dQ,reduceIte]at hb1
    iterate 6 refine sN ?_
    refine z2o ?_;refine s_n K13 ?_;refine z09 (b:=_) rfl (fun h_t23=>?_) (fun _=>?_)
    ·exfalso;simp at h_t23
    refine z0b ?_;refine z0a ?_;apply K9;refine z06 g0_ok fun _ K17=>?_
    iterate 2 refine z2o ?_
    refine s_n K17 ?_
    have hsk:smK t x (k+1)=false:=by rw[ztk,hk.2];simp_all
    refine dnS [] id (k+1) ⟨⟨by omega,hsk⟩,by omega⟩ [0] z2q z2q z2q z2q
  ·try simp only[dQ,reduceIte]at h_t11
   refine z0o ?_;refine z01 ?_;refine z01 ?_;refine z0j ?_;apply K3
   obtain rfl:k=t.acc.length:=by omega
   refine srR g0_ok fun _ K19=>?_;refine z2o ?_;refine s_n K19 ?_;refine z0g (z0d g0_ok (fun _ _ h=>h) (by first|rfl|assumption) [.tmp 4] rfl ?_);refine rtD ?_
   show SV.c (.bool false)=SV.c (.bool (someU t x))
   rw[someU,hk.2]

def cloE(x:Tab):Cell:=.dp (.cells [.clo 77 [dpT x]]) 0
def entS:QSpec:=fun vs K=>∃ (x:Tab) (s:Stt),vs=[stV s,.c (dpT x)]∧(x.fit∧s.1< x.next.length)∧K (stV (entG x s))
theorem ent_ok:z19 Tryd.prog gl 77 entS:=by
 refine z1d (Γ:=g0) (N:=17) Tryd.func77 rfl rfl fun vs K h=>?_;obtain⟨x,s,rfl,⟨hx,hs⟩,h⟩:=h;refine⟨_,h,rfl,by simp,fun w I=>?_⟩;refine srR g0_ok fun _ K2=>?_
 iterate 2 refine z3u ?_
 refine s_n K2 ?_;refine seq_k fun _ K3=>?_
 have hal:=hx.1.alen
 refine srR g0_ok fun _ K5=>?_;refine z3u ?_;refine z4t ?_;refine exA (.c (.ds x.acc.length (.bools x.acc))) (as_c (zbi hx.1.clen)) ?_;refine z3u ?_;refine z4t ?_;refine exA (.c (.int .i64 (((s.1:Nat):Int)))) (as_i (rfl)) ?_;refine z3u ?_;refine z4t ?_;refine exA (.c (.bool (x.acc.getD s.1 false))) (as_b (congrArg (fun i=>x.acc.getD i false) (by omega))) ?_;refine s_n K5 ?_;refine z09 (b:=_) rfl (fun h_t9=>?_) (fun h_t9=>?_)
 ·refine z06 g0_ok fun _ K6=>?_
  iterate 6 refine z3u ?_
  refine z9d ?_;refine s_n K6 ?_;apply K3;refine srR g0_ok fun _ K8=>?_;refine z3u ?_;refine z9d ?_;refine s_n K8 ?_;refine z0g (z0d g0_ok (fun _ _ h=>h) (by first|rfl|assumption) [.cell 3 95] rfl ?_)
  repeat first|refine aI qUtg2 ?_|refine z04 (by rfl) ?_
  rw[entG,if_pos h_t9];rfl
 ·refine z0b ?_;apply K3
  refine srR g0_ok fun _ K10=>?_;refine z3u ?_;refine z9d ?_;refine s_n K10 ?_;refine z0g (z0d g0_ok (fun _ _ h=>h) (by first|rfl|assumption) [.cell 3 95] rfl ?_)
  repeat first|refine aI qUtg2 ?_|refine z04 (by rfl) ?_
  rw[entG,if_neg (by rw[h_t9];decide)];rfl

noncomputable def gq2:Ctx:={ P:=Tryd.prog,ty:=ty,glob:=gl,fs:=[(77,.flat entS),(79,.flat zm7)] }
theorem zzz:gq2.OK:=⟨tyOK,⟨⟨z08 Tryd.func77 kR rfl,ent_ok⟩,⟨z08 Tryd.func79 kR rfl,zk9⟩,trivial⟩,mixed⟩
@[simp] theorem gq2_ty:gq2.ty=ty:=rfl

noncomputable def gq3:Ctx:={ P:=Tryd.prog,ty:=ty,glob:=gl,fs:=[(82,.flat zzy)] }
theorem zin:gq3.OK:=⟨tyOK,⟨⟨z08 Tryd.func82 kR rfl,ztq⟩,trivial⟩,mixed⟩
@[simp] theorem gq3_ty:gq3.ty=ty:=rfl

noncomputable def gq4:Ctx:={ P:=Tryd.prog,ty:=ty,glob:=gl,fs:=[(79,.flat zm7),(82,.flat zzy)] }
theorem zfd:gq4.OK:=⟨tyOK,⟨⟨z08 Tryd.func79 kR rfl,zk9⟩,⟨z08 Tryd.func82 kR rfl,ztq⟩,trivial⟩,mixed⟩
@[simp] theorem gq4_ty:gq4.ty=ty:=rfl

def cat2S:QSpec:=fun vs K=>∃ (x y:Tab) (s:Stt) (c:Nat),vs=[stV s,.c (.int .i64 (c:Int)),.c (cloE x),.c (dpT x),.c (dpT y)]∧(x.fit∧y.fit∧s.1< x.next.length∧c< 256)∧K (stV (catG x y s c))
theorem cat2_ok:z19 Tryd.prog gl 78 cat2S:=by
 refine z1d (Γ:=gq2) (N:=28) Tryd.func78 rfl rfl fun vs K h=>?_;obtain⟨x,y,s,c,rfl,⟨hx,hy,hs,hc⟩,h⟩:=h;refine⟨_,h,rfl,by simp,fun w I=>?_⟩;refine srR zzz fun _ K2=>?_
 iterate 2 refine sXUtg_10 ?_
 refine s_n K2 ?_
 have hs1:=hs
 have hra:=z5a hx.1 hs1
 have hca:cN x c< x.nc:=(cellN hx.1 hc).1
 have hxa:((tblT x).δ s.1 (cN x c))< x.next.length∧(x.next.getD s.1 []).getD (cN x c) 0=((((tblT x).δ s.1 (cN x c)):Nat):Int):=nextN hx.1 hs1 (cellN hx.1 hc).1
 refine srD zzz [(0,true),(1,true),(2,true),(3,true),(4,true),(5,true),(6,true),(7,true),(8,true),(9,true),(10,true),(11,true),(12,true),(13,true),(14,true),(15,true),(16,true),(17,false),(18,true),(19,false),(20,false)] rfl kR kR fun _ K4=>?_
 iterate 2 refine z9e ?_
 refine z6e ?_;refine exA (.c (.ds x.next.length (.cells (rowsC x.next)))) (as_c (z6p hx.1.clen)) ?_;refine z9e ?_;refine z6e ?_;refine exA (.c (.int .i64 (((s.1:Nat):Int)))) (as_i (rfl)) ?_;refine z9e ?_;refine z6e ?_;refine exA (.c (.ds (x.next.getD s.1 []).length (.ints .i64 (x.next.getD s.1 [])))) (as_c (z4n ⟨hs1,by omega⟩)) ?_
 iterate 3 refine z9e ?_
 refine z6e ?_;refine exA (.c (.int .i64 ((cN x c:Nat):Int))) (as_c ((zd2 hx.1.clen (by first|omega|(simp;done)) hc).trans (congrArg (Cell.int IntKind.i64) (cellN hx.1 hc).2))) ?_;refine z9e ?_;refine z6e ?_;refine exA (.c (.int .i64 (((((tblT x).δ s.1 (cN x c)):Nat):Int)))) (as_i ((congrArg (fun i=>(x.next.getD s.1 []).getD i 0) (by omega)).trans hxa.2)) ?_;refine z6e ?_;refine exA (tabV y) (SV.as_refl _) ?_;refine z9e ?_;refine z6e ?_;refine exA (.agg (.u64s [s.2.2])) (ztp s.2.2) ?_;refine z9e ?_;refine zoh ?_;refine aI (z0x _) ?_;refine z15 _ ?_;refine⟨y,s.2.2,c,rfl,⟨hy,hc⟩,?_⟩;refine zil ?_
 first|refine exI ?_|(intro cap17 hcap17;refine exI ?_)
 refine z6e ?_;refine exA (stV (((tblT x).δ s.1 (cN x c)),0,tgtU y s.2.2 c)) (as_eq rfl) ?_;refine zoh ?_;refine aI (nc_st _) ?_;refine⟨x,(((tblT x).δ s.1 (cN x c)),0,tgtU y s.2.2 c),rfl,⟨hx,hxa.1⟩,?_⟩;refine zil ?_
 first|refine exI ?_|(intro cap19 hcap19;refine exI ?_)
 refine zzw ?_;refine d_n K4 ?_;refine z0g (z0d zzz (fun _ _ h=>h) (by first|rfl|assumption) [.cell 7 95] rfl ?_)
 repeat first|refine aI qUtg2 ?_|refine z04 (by rfl) ?_
 rfl

def cat3S:QSpec:=fun vs K=>∃ (y:Tab) (s:Stt),vs=[stV s,.c (dpT y)]∧y.fit∧K (.c (.bool (catA y s)))
theorem cat3_ok:z19 Tryd.prog gl 81 cat3S:=by
 refine z1d (Γ:=gq3) (N:=8) Tryd.func81 rfl rfl fun vs K h=>?_;obtain⟨y,s,rfl,hy,h⟩:=h;refine⟨_,h,rfl,by simp,fun w I=>?_⟩;refine srR zin fun _ K2=>?_
 iterate 2 refine zm6 ?_
 refine s_n K2 ?_;refine srR zin fun _ K4=>?_;refine zim ?_;refine exA (tabV y) (SV.as_refl _) ?_;refine zm6 ?_;refine zim ?_;refine exA (.agg (.u64s [s.2.2])) (ztp s.2.2) ?_;refine zim ?_;refine aI (z0x _) ?_;refine z15 _ ?_;refine⟨y,s.2.2,rfl,hy,?_⟩;refine zqw ?_
 first|refine exI ?_|(intro cap3 hcap3;refine exI ?_)
 refine zm6 ?_;refine s_n K4 ?_;refine z0g (z0d zin (fun _ _ h=>h) (by first|rfl|assumption) [.tmp 3] rfl ?_)
 repeat first|refine aI qUtg2 ?_|refine z04 (by rfl) ?_
 rfl

def sta1S:QSpec:=fun vs K=>∃ (x:Tab) (s:Stt) (c:Nat),vs=[stV s,.c (.int .i64 (c:Int)),.c (dpT x)]∧(x.fit∧c< 256)∧K (stV (staG x s c))
theorem sta1_ok:z19 Tryd.prog gl 84 sta1S:=by
 refine z1d (Γ:=gq4) (N:=21) Tryd.func84 rfl rfl fun vs K h=>?_;obtain⟨x,s,c,rfl,⟨hx,hc⟩,h⟩:=h;refine⟨_,h,rfl,by simp,fun w I=>?_⟩;refine srR zfd fun _ K2=>?_
 iterate 2 refine z3u ?_
 refine s_n K2 ?_;refine srR zfd fun _ K4=>?_;refine z4t ?_;refine exA (tabV x) (SV.as_refl _) ?_;refine z3u ?_;refine z4t ?_;refine exA (.agg (.u64s [s.2.2])) (ztp s.2.2) ?_;refine z3u ?_;refine z4t ?_;refine aI (z0x _) ?_;refine z15 _ ?_;refine⟨x,s.2.2,c,rfl,⟨hx,hc⟩,?_⟩;refine zfc ?_
 first|refine exI ?_|(intro cap4 hcap4;refine exI ?_)
 refine z3u ?_;refine z9d ?_;refine s_n K4 ?_;refine seq_k fun _ K5=>?_;refine srR zfd fun _ K7=>?_;refine z4t ?_;refine exA (tabV x) (SV.as_refl _) ?_;refine z4t ?_;refine exA (.agg (.u64s [tgtU x s.2.2 c])) (SV.as_refl _) ?_;refine z4t ?_;refine aI (z0x _) ?_;refine z15 _ ?_;refine⟨x,tgtU x s.2.2 c,rfl,hx,?_⟩;refine zfc ?_
 first|refine exI ?_|(intro cap2 hcap2;refine exI ?_)
 refine s_n K7 ?_;refine z09 (b:=_) rfl (fun h_t14=>?_) (fun h_t14=>?_)
 ·refine z06 zfd fun _ K8=>?_
  iterate 4 refine z3u ?_
  refine z9d ?_;refine s_n K8 ?_;apply K5;refine srR zfd fun _ K10=>?_
  iterate 2 refine z3u ?_
  refine z9d ?_;refine s_n K10 ?_;refine z0g (z0d zfd (fun _ _ h=>h) (by first|rfl|assumption) [.cell 5 95] rfl ?_)
  repeat first|refine aI qUtg2 ?_|refine z04 (by rfl) ?_
  rw[staG,if_pos h_t14];rfl
 ·refine z0b ?_;apply K5
  refine srR zfd fun _ K12=>?_
  iterate 2 refine z3u ?_
  refine z9d ?_;refine s_n K12 ?_;refine z0g (z0d zfd (fun _ _ h=>h) (by first|rfl|assumption) [.cell 5 95] rfl ?_)
  repeat first|refine aI qUtg2 ?_|refine z04 (by rfl) ?_
  rw[staG,if_neg (by rw[h_t14];decide)];rfl

def sta2S:QSpec:=fun vs K=>∃ (x:Tab) (s:Stt),vs=[stV s,.c (dpT x)]∧(x.fit∧staI s)∧K (.c (.bool (staA x s)))
theorem sta2_ok:z19 Tryd.prog gl 85 sta2S:=by
 refine z1d (Γ:=gq3) (N:=13) Tryd.func85 rfl rfl fun vs K h=>?_;obtain⟨x,s,rfl,⟨hx,hs⟩,h⟩:=h;refine⟨_,h,rfl,by simp,fun w I=>?_⟩;refine srR zin fun _ K2=>?_
 iterate 2 refine z3u ?_
 refine s_n K2 ?_;refine srR zin fun _ K4=>?_
 iterate 3 refine z3u ?_
 refine z4t ?_;refine exB (fun hb3=>?_) (fun hb3=>?_)
 ·try simp only[dQ,reduceIte]at hb3
  iterate 4 refine sN ?_
  iterate 2 refine z3u ?_
  refine s_n K4 ?_;refine z0g (z0d zin (fun _ _ h=>h) (by first|rfl|assumption) [.tmp 3] rfl ?_)
  repeat first|refine aI qUtg2 ?_|refine z04 (by rfl) ?_
  have e:s.1=1:=by omega
  show SV.c (.bool _)=SV.c (.bool (staA x s))
  rw[staA,decide_eq_true e];rfl
 ·try simp only[dQ,reduceIte]at hb3
  refine zem ?_;refine exA (tabV x) (SV.as_refl _) ?_;refine zzx ?_;refine zem ?_;refine exA (.agg (.u64s [s.2.2])) (ztp s.2.2) ?_;refine zem ?_;refine aI (z0x _) ?_;refine z15 _ ?_;refine⟨x,s.2.2,rfl,hx,?_⟩;refine zfc ?_
  first|refine exI ?_|(intro cap7 hcap7;refine exI ?_)
  iterate 2 refine z3u ?_
  refine s_n K4 ?_;refine z0g (z0d zin (fun _ _ h=>h) (by first|rfl|assumption) [.tmp 3] rfl ?_)
  repeat first|refine aI qUtg2 ?_|refine z04 (by rfl) ?_
  have e:¬ s.1=1:=by omega
  show SV.c (.bool _)=SV.c (.bool (staA x s))
  rw[staA,decide_eq_false e];rfl


end Go.Proofs.YtppmnaoollkboaaDoor

namespace Go.Proofs.YtppmnaoollkboaaDoor
set_option linter.all false
open Go.Ab Go.RowKit

theorem zoi{a:Prop}(h:a:=by
    repeat' (first|exact trivial|refine aI ?_ ?_|rfl|omega)):a:=h
open Go.Aut
noncomputable def lstR(d:Dfa):Option (List Nat):=if z0w d=true then z39 (langD d)else none
noncomputable def aptR(d e:Dfa):Option (List Nat):=if z0w d=true∧z0w e=true then z39 (combB (fun x y=>x !=y) d e)else none
theorem zts(d:Dfa):z39 ((tblT (tabD d)).lang 0)=z39 (langD d):=zab fun w hw=>z38 d 0 hw
theorem lst_prod{op:Bool→Bool→Bool}{d e:Dfa}(hd:d.good)(he:e.good):z39 ((tblT (prodT op (tabD d) (tabD e))).lang 0)=z39 (combB op d e):=zab fun w hw=>by
  rw[(zb7 (z14 hd) (z14 he) ⟨hd.2,he.2⟩).2 w hw,z38 d 0 hw,z38 e 0 hw];rfl
theorem nc_1(a:Tab):∀ x∈[dpT a],∀ g l,x≠Cell.clo g l:=fun x hx g l=>by
  rw[List.mem_singleton.1 hx];intro e;cases e
theorem nc_4(a b:Tab):∀ x∈[cloE a,dpT a,dpT b],∀ g l,x≠Cell.clo g l:=fun x hx g l=>by
  rcases List.mem_cons.1 hx with rfl|hx
  · intro e;cases e
  · exact nc_2 a b x hx g l
theorem cat_exin{x y:Tab}(hx:x.fit)(hy:y.fit):ExIn cat2S cat3S (catG x y) (catA y) (catI x) (jL x y 256) (jrep (cN x) (cN y)) (cat0 x) [cloE x,dpT x,dpT y] [dpT y] 4096:=
  ⟨z0h x y 256,(j_in x y).pos,(j_in x y).max,(j_in x y).byte,by decide,by decide,z0z z24 (z0z z24 (z0z z24 z2h)),z0z z24 z2h,catI_0 hx.1,fun s hs=>catI_ok hx hs,fun s c hs hc=>catI_g hx hs hc,
   fun s c hs hc=>⟨x,y,s,c,rfl,⟨hx,hy,hs.1,hc⟩,rfl⟩,fun s hs=>⟨y,s,rfl,hy,rfl⟩⟩
theorem sta_exin{x:Tab}(hx:x.fit):ExIn sta1S sta2S (staG x) (staA x) staI (jL x x 256) (jrep (cN x) (cN x)) (1,0,1) [dpT x] [dpT x] 4096:=
  ⟨z0h x x 256,(j_in x x).pos,(j_in x x).max,(j_in x x).byte,by decide,by decide,z0z z24 z2h,z0z z24 z2h,⟨Nat.le_refl _,rfl⟩,fun s hs=>staI_ok hs,fun s c _ _=>staI_g x s c,
   fun s c hs hc=>⟨x,s,c,rfl,⟨hx,hc⟩,rfl⟩,fun s hs=>⟨x,s,rfl,⟨hx,hs⟩,rfl⟩⟩
theorem cat_can{d e:Dfa}(hd:d.good)(he:e.good){w:List Nat}(hw:Bytes w):catA (tabD (canD (langD e))) (runB (catG (tabD (canD (langD d))) (tabD (canD (langD e)))) (cat0 (tabD (canD (langD d)))) w)=catB (langD d) (langD e) w:=by
  have gd:=z9c hd
  have ge:=z9c he
  rw[cat_lang (z14 gd.1) (z14 ge.1) ge.1.2 hw];exact ze6 (fun u hu=>(z38 _ 0 hu).trans (gd.2 u hu)) (fun u hu=>(z38 _ 0 hu).trans (ge.2 u hu)) hw
theorem sta_can{d:Dfa}(hd:d.good){w:List Nat}(hw:Bytes w):staA (tabD (canD (langD d))) (runB (staG (tabD (canD (langD d)))) (1,0,1) w)=starB (langD d) w:=by
  have gd:=z9c hd
  rw[sta_lang (z14 gd.1) gd.1.2 hw];exact zbu (fun u hu=>(z38 _ 0 hu).trans (gd.2 u hu)) hw
theorem zm8{g:Stt→Nat→Stt}{acc:Stt→Bool}{cell:List Int}{bytes:List Nat}{s0:Stt}{m:Nat}(h:cell.length=256):(exR g acc cell bytes s0 m).1.cell.length=256:=by
  unfold exR
  split
  · exact z3s
  · exact h
theorem ex_no{g:Stt→Nat→Stt}{acc:Stt→Bool}{cell:List Int}{bytes:List Nat}{s0:Stt}{m:Nat}(h:(exR g acc cell bytes s0 m).2=false):Big (stepF g bytes) bytes.length s0 m:=by
  refine Classical.byContradiction fun hn=>?_;rw[exR,if_neg hn]at h;cases h
theorem zfe{g:Stt→Nat→Stt}{acc:Stt→Bool}{cell:List Int}{bytes:List Nat}{s0:Stt}{m:Nat}(h:(exR g acc cell bytes s0 m).2=true):¬ Big (stepF g bytes) bytes.length s0 m:=fun hb=>by
  rw[exT_big hb]at h;cases h
attribute [local irreducible] z0s z12 zl z02 z11 putB prodT canD jL jrep exR z39
noncomputable def gh1:Ctx:={ P:=Tryd.prog,ty:=ty,glob:=gl,fs:=[(50,.flat z7v),(74,.data z9a),(86,.data zqt)] }
theorem zka:gh1.OK:=⟨tyOK,⟨⟨z08 Tryd.func50 kR rfl,z5h⟩,⟨z08 Tryd.func74 kR rfl,z6y⟩,⟨z08 Tryd.func86 kR rfl,zoc⟩,trivial⟩,mixed⟩
@[simp] theorem gh1_ty:gh1.ty=ty:=rfl

def zqx:QSpec:=fun vs K=>∃ d:Dfa,vs=[dfaV d]∧d.wf∧K (lsV (lstR d))
theorem zoj:z1w Tryd.prog gl 29 zqx:=by
 refine z1c (Γ:=gh1) (N:=12) Tryd.func29 rfl rfl fun vs K h=>?_;obtain⟨d,rfl,hw,h⟩:=h;refine⟨_,h,z6q _,by simp,fun w I=>?_⟩;refine srR zka fun _ K2=>?_
 iterate 3 refine z7l ?_
 refine s_n K2 ?_;refine seq_k fun _ K3=>?_;refine srR zka fun _ K5=>?_;refine z7l ?_;refine zlj ?_;refine⟨d,rfl,hw,?_⟩;refine DUi_0 ?_
 first|refine exI ?_|(intro cap1 hcap1;refine exI ?_)
 refine z7l ?_;refine s_n K5 ?_;refine z09 (b:=_) rfl (fun h_t6=>?_) (fun h_t6=>?_)
 ·try simp only[dQ,reduceIte]at h_t6
  refine srR zka fun _ K7=>?_
  iterate 2 refine z7l ?_
  refine s_n K7 ?_;rw[lstR,if_neg (by simpa using h_t6)];refine z0g (z0k zka (fun _ _ h=>h) (z6q _) [] [.tmp 2,.tmp 3] rfl ?_)
  all_goals exact zoi
 ·try simp only[dQ,reduceIte]at h_t6
  refine z0b ?_;apply K3
  have hg:=(z1e hw).1 (by simpa using h_t6)
  refine srR zka fun _ K9=>?_;refine z7l ?_;refine zlj ?_;refine⟨d,rfl,hg,?_⟩;refine DUi_0 ?_
  first|refine exI ?_|(intro cap1 hcap1;refine exI ?_)
  refine zlj ?_;refine aI (z0x _) ?_;refine z15 _ ?_;refine⟨tabD d,rfl,z14 hg,?_⟩;rw[zts];refine DUi_0 ?_
  first|refine exI ?_|(intro cap2 hcap2;refine exI ?_)
  iterate 4 refine z7l ?_
  refine s_n K9 ?_;rw[lstR,if_pos (z1s hg)];refine z0g (z0k zka (fun _ _ h=>h) (z6q _) [] [.tmp 2,.tmp 3] rfl ?_)
  all_goals exact zoi

noncomputable def gh2:Ctx:={ P:=Tryd.prog,ty:=ty,glob:=gl,fs:=[(50,.flat z7v),(87,.data (zm3 88 zzs)),(86,.data zqt)] }
theorem zff:gh2.OK:=⟨tyOK,⟨⟨z08 Tryd.func50 kR rfl,z5h⟩,⟨z08 Tryd.func87 kR rfl,zk7 (z08 Tryd.func88 kR rfl) zzt⟩,⟨z08 Tryd.func86 kR rfl,zoc⟩,trivial⟩,mixed⟩
@[simp] theorem gh2_ty:gh2.ty=ty:=rfl

def y01:QSpec:=fun vs K=>∃ d e:Dfa,vs=[dfaV d,dfaV e]∧(d.wf∧e.wf)∧K (lsV (aptR d e))
theorem y02:z1w Tryd.prog gl 31 y01:=by
 refine z1c (Γ:=gh2) (N:=20) Tryd.func31 rfl rfl fun vs K h=>?_;obtain⟨d,e,rfl,⟨hd,he⟩,h⟩:=h;refine⟨_,h,z6q _,by simp,fun w I=>?_⟩;refine srR zff fun _ K2=>?_
 iterate 4 refine z7l ?_
 refine s_n K2 ?_;refine seq_k fun _ K3=>?_;refine srR zff fun _ K5=>?_;refine z7l ?_;refine zlj ?_;refine⟨d,rfl,hd,?_⟩;refine DUi_0 ?_
 first|refine exI ?_|(intro cap1 hcap1;refine exI ?_)
 refine z7l ?_;refine zlj ?_;refine exB (fun hb3=>?_) (fun hb3=>?_)
 ·try simp only[dQ,reduceIte]at hb3
  iterate 3 refine sN ?_
  refine z7l ?_;refine s_n K5 ?_;refine z09 (b:=_) rfl (fun _=>?_) (fun h_t13=>?_)
  rotate_left 1
  ·exfalso;simp at h_t13
  refine srR zff fun _ K7=>?_
  iterate 2 refine z7l ?_
  refine s_n K7 ?_
  have hno:¬ (z0w d=true∧z0w e=true):=by intro hh;simp_all
  rw[aptR,if_neg hno];refine z0g (z0k zff (fun _ _ h=>h) (z6q _) [] [.tmp 4,.tmp 5] rfl ?_)
  all_goals exact zoi
 ·try simp only[dQ,reduceIte]at hb3
  refine ztj ?_;refine zzr ?_;refine⟨e,rfl,he,?_⟩;refine DUi_0 ?_
  first|refine exI ?_|(intro cap5 hcap5;refine exI ?_)
  refine ztj ?_;refine z7l ?_;refine s_n K5 ?_;refine z09 (b:=_) rfl (fun h_t13=>?_) (fun h_t13=>?_)
  ·try simp only[dQ,reduceIte]at h_t13
   refine srR zff fun _ K9=>?_
   iterate 2 refine z7l ?_
   refine s_n K9 ?_
   have hno:¬ (z0w d=true∧z0w e=true):=by intro hh;simp_all
   rw[aptR,if_neg hno];refine z0g (z0k zff (fun _ _ h=>h) (z6q _) [] [.tmp 4,.tmp 5] rfl ?_)
   all_goals exact zoi
  ·try simp only[dQ,reduceIte]at h_t13
   refine z0b ?_;apply K3
   have hvd:z0w d=true:=by simp_all
   have hve:z0w e=true:=by simp_all
   have hgd:=(z1e hd).1 hvd
   have hge:=(z1e he).1 hve
   refine srR zff fun _ K11=>?_
   iterate 2 refine z7l ?_
   refine zlj ?_;refine⟨fun x y=>x !=y,d,e,rfl,⟨hgd,hge⟩,fun x y=>⟨x,y,rfl,rfl⟩,?_⟩;refine DUi_0 ?_
   first|refine exI ?_|(intro cap2 hcap2;refine exI ?_)
   refine zlj ?_;refine aI (z0x _) ?_;refine z15 _ ?_;refine⟨_,rfl,zoe _ hgd hge,?_⟩;rw[lst_prod hgd hge];refine DUi_0 ?_
   first|refine exI ?_|(intro cap3 hcap3;refine exI ?_)
   iterate 4 refine z7l ?_
   refine s_n K11 ?_
   have hyes:z0w d=true∧z0w e=true:=⟨hvd,hve⟩
   rw[aptR,if_pos hyes];refine z0g (z0k zff (fun _ _ h=>h) (z6q _) [] [.tmp 4,.tmp 5] rfl ?_)
   all_goals exact zoi


end Go.Proofs.YtppmnaoollkboaaDoor
