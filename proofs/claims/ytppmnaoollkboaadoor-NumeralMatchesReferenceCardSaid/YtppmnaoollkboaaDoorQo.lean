/- Contracts of functions and plain facts, part 15. -/
import Derived.Test.YtppmnaoollkboaaDoorQn
import Derived.Test.YtppmnaoollkboaaDoorQc
import Derived.Test.YtppmnaoollkboaaDoorQe
import Derived.Test.YtppmnaoollkboaaDoorQd
import Derived.Test.YtppmnaoollkboaaDoorQb
set_option maxHeartbeats 8000000
set_option maxRecDepth 4000
namespace Go.Proofs.YtppmnaoollkboaaDoor
set_option linter.all false
open Go.Ab Go.RowKit

section
variable {a b:Prop}
theorem qRk0(h:a:=by first|exact vcA|(simp<;>omega)|exact⟨by omega,by omega⟩|exact⟨by omega,by omega,trivial⟩|exact⟨by omega,by omega,trivial,trivial⟩|(simp only[z10,z0n,zd4,zg6];omega)|(simp only[z0n,zd4];omega)|(rw[z0n,zd4];omega)|(simp only[zfj,z43,z0s];omega)|(simp only[z1p,z43];omega)|(show _< (fillT _ _ _).length;rw[z43];(try rw[z0s]);omega)|exact vcB):a:=h
theorem qRk1(h:a:=by first|exact vcA|(simp<;>omega)|(rw[zai];omega)|exact vcB):a:=h
theorem uRk_0(h:a:=by
    repeat' (first|assumption|exact z9t zdh _ _|exact z3i zdh _|exact zrn _ _|exact pT|exact trivial|refine aI ?_ ?_|exact cC0|refine low_cons' ?_ ?_|exact cC1|fail)
    all_goals first|omega|exact z2w _|exact hL1|exact z1h _|exact zrn _ _|exact hL0|(rw[hX4];exact z3i zdh _)|exact z3i zdh _ _ (by assumption)|exact z9t zdh _ _|exact z3i zdh _|exact(rdc_nc e).symm|(show Cont.u64s e.cls=Cont.u64s (rdc e).cls;rw[rdc_cls];done)|(show(_:List Bool)=_;rw[hk0];done)|(show allTo _ _ _;first|exact z26 _|exact zdg _ _|(rw[hk0];exact zdg _ _)|(show allTo _ (List.replicate rk Cell.nils) _;rw[hXr];exact zdg _ _))|(show(_:List Int)=_;first|assumption|rfl)|(show(_:List Bool)=_;first|assumption|rfl)|(show(_:List UInt8)=_;first|assumption|rfl)|(show(_:List (SV×SV))=_;first|assumption|rfl)|(show(0:Nat)< (z08 _ _ _ _).length;rw[z06 hcl];decide)|(simp[-List.reduceReplicate];done)|(simp[-List.reduceReplicate]<;>omega)|skip):a:=h
theorem DRk_0(kZ:b)(h:HidB b→a:=by intro kZ;(repeat first|refine aI qRk0 ?_|refine z0a qRk0 ?_|refine z07 qRk0 ?_|refine z0l qRk0 ?_|refine z0c ?_);exact kZ.out):a:=h ⟨kZ⟩
theorem z1a(kZ:b)(h:HidB b→a:=by intro kZ;refine sX ?_;refine DRk_0 ?_;refine exI ?_;exact kZ.out):a:=h ⟨kZ⟩
theorem DRk_2(kZ:b)(h:HidB b→a:=by intro kZ;(repeat first|refine aI qRk1 ?_|refine z0a qRk1 ?_|refine z07 qRk1 ?_|refine z0l qRk1 ?_|refine z0c ?_);exact kZ.out):a:=h ⟨kZ⟩
theorem zmu(kZ:b)(h:HidB b→a:=by intro kZ;refine sX ?_;refine DRk_2 ?_;refine exI ?_;exact kZ.out):a:=h ⟨kZ⟩
theorem zgu(kZ:b)(h:HidB b→a:=by intro kZ;refine sX0 ?_;refine DRk_0 ?_;refine exI ?_;exact kZ.out):a:=h ⟨kZ⟩
theorem z71(kZ:b)(h:HidB b→a:=by intro kZ;refine dX ?_;refine DRk_0 ?_;refine exI ?_;exact kZ.out):a:=h ⟨kZ⟩
theorem zi6(kZ:b)(h:HidB b→a:=by intro kZ;refine gX ?_;refine DRk_0 ?_;refine exI ?_;exact kZ.out):a:=h ⟨kZ⟩
theorem z7b(kZ:b)(h:HidB b→a:=by intro kZ;refine gX0 ?_;refine DRk_0 ?_;refine exI ?_;exact kZ.out):a:=h ⟨kZ⟩
theorem z96(kZ:b)(h:HidB b→a:=by intro kZ;refine sX ?_;refine DRk_0 ?_;exact kZ.out):a:=h ⟨kZ⟩
theorem zpe(kZ:b)(h:HidB b→a:=by intro kZ;refine sX ?_;refine DRk_2 ?_;exact kZ.out):a:=h ⟨kZ⟩
theorem zk0(kZ:b)(h:HidB b→a:=by intro kZ;refine dX ?_;refine DRk_0 ?_;exact kZ.out):a:=h ⟨kZ⟩
end
open Go.Aut
theorem zmv(l:List (List Int))(k:Nat):fillT (rowsC l) Cell.nils k=rowsC (l.take k)++List.replicate (l.length - k) .nils:=by
  rw[fillT,z0s,rowsC,rowsC,List.map_take]
theorem zdg{tf:Nat→Ty}{H:Heap}{is:List Nat}{ρ:Nat→Nat}(l:List (List Int))(k:Nat):allTo (Cell.to tf H is ρ) (fillT (rowsC l) Cell.nils k) (fillT (rowsC l) Cell.nils k):=by
  rw[zmv];exact z65 (z26 _) (z7r (x:=Cell.nils) (by first|exact trivial|exact rfl|exact⟨rfl,rfl⟩) _)
theorem zrn{n:Nat}(l:List (List Int))(k:Nat):(Cont.cells (fillT (rowsC l) Cell.nils k)).low n:=fun x hx=>by
  rw[zmv]at hx
  rcases List.mem_append.1 hx with hx|hx
  · exact z9s _ x hx
  · rw[(List.mem_replicate.1 hx).2];trivial
def eS(k:List UInt8):SV:=.c (.str k)
theorem zdh(k:List UInt8):(eS k).flat=true:=rfl
theorem zya(ks:List (List UInt8)):∀ p∈mapE eS ks,keyS ty 9 p.1:=fun p hp=>by
  obtain⟨k,i,_,rfl⟩:=zc0 hp;exact rfl
theorem eS_yes{ks:List (List UInt8)}(hn:ks.Nodup){k:List UInt8}{j:Nat}{v:SV}(hj:(mapE eS ks)[j]? =some (.c (.str k),v)):v= .c (.int .i64 ((idxK ks k:Nat):Int))∧k∈ks:=by
  obtain⟨q,hq,e,rfl⟩:=zel hj
  injection e with e
  injection e with e
  subst e;exact⟨by rw[zd2 hn hq],List.mem_of_getElem? hq⟩
theorem eS_no{ks:List (List UInt8)}{k:List UInt8}(hn:∀ p∈mapE eS ks,p.1≠ .c (.str k)):k∉ks:=zou hn
theorem zfp{l:List (List Int)}{i:Nat}(h:i< l.length):(rowsC l).getD i .nils= .ds (l.getD i []).length (.ints .i64 (l.getD i [])):=by
  rw[rowsC,List.getD_eq_getElem?_getD,List.getElem?_map,at_of (d:=[]) h];rfl
structure RedIn(d:Dfa):Prop where
  ok:d.ok
  len:d.next.length≤65536
  nc:d.nc≤64
  few:Few d
theorem wf_of{d:Dfa}(h:d.ok)(hn:d.next.length≤65536):d.wf:=by
  have h1:=h.alen
  have h2:=h.cmax
  exact⟨h.clen,by omega,by omega,by omega,fun r hr=>by rw[(h.rows r hr).1];omega⟩
theorem can_hom{d e:Dfa}{g:Nat→Nat}(h:d.ok)(a:Hom d e g)(h64:e.next.length≤64):zme e=(canD (langD d),0):=by
  rw[zme,if_pos (zda ⟨a.ok,h64⟩),z55 fun w hw=>zj7 a h hw]
theorem zro{d e:Dfa}{g:Nat→Nat}(h:RedIn d)(a:Hom d e g)(hn:e.next.length≤65536)(hc:(kO e e.next.length).length=e.next.length):e.next.length≤64:=h.few e g a (zvv a.ok hn (by rw[←zvx];exact hc))
attribute [local irreducible] z0o z0y zl z08 z0v putB canD kO Go.Aut.kR kP toL rdc fillT rowM rowR
def zrp:QSpec:=fun vs K=>∃ d:Dfa,vs=[dfaV d]∧RedIn d∧K (resV (canD (langD d),0))
theorem ztq :z1x Tryd.prog gl 169 zrp:=by
 refine z1c (Γ:=gh9) (N:=151) Tryd.func169 rfl rfl fun vs K h=>?_;obtain⟨d,rfl,hin,h⟩:=h;refine⟨_,h,z1h _,by simp,fun w I=>?_⟩;refine srR z0u fun _ K2=>?_
 iterate 3 refine z1a ?_
 refine s_n K2 ?_;refine seq_k fun _ K3=>?_;refine z03 ?_;refine z0m (α:=Dfa) (fun e=>[(1,.c (.ptr 0 0)),(2,.c (.ptr 1 0))]) (fun e=>[(0,.own 30 (dfaC e) 3),(1,.own 30 (.cells [.nils,.nils,.nils]) 3)]) 2 (fun e=>(∃ g,Hom d e g)∧e.next.length≤d.next.length) (fun e=>e.next.length) ?_ ?_
 ·refine dnS [] id d ⟨⟨id,zqu hin.ok⟩,Nat.le_refl _⟩ [0,1] uRk_0 uRk_0 uRk_0 uRk_0
 ·intro e he
  obtain⟨⟨g,hg⟩,hle⟩:=he
  have hok:=hg.ok
  have hal:=hok.alen
  have hnc:e.nc≤64:=by rw[hg.nc];exact hin.nc
  have hlen:=hin.len
  have hn6:e.next.length≤65536:=by omega
  refine seq_k fun _ K4=>?_;refine srR z0u fun _ K6=>?_
  iterate 4 refine z1a ?_
  refine s_n K6 ?_;refine z04 (b:=_) rfl (fun h_t23=>?_) (fun h_t23=>?_)
  ·try simp only[dQ,reduceIte]at h_t23
   refine z09 ?_;apply K4;refine z03 ?_;refine srR z0u fun _ K8=>?_
   iterate 2 refine z1a ?_
   refine s_n K8 ?_;refine srR z0u fun _ K10=>?_
   iterate 5 refine z1a ?_
   refine s_n K10 ?_;refine srR z0u fun _ K12=>?_;refine z1a ?_;refine s_n K12 ?_;refine seq_k fun _ K13=>?_;refine srR z0u fun _ K15=>?_
   iterate 4 refine z1a ?_
   refine s_n K15 ?_;refine z03 ?_;refine z0m (α:=Nat) (fun s=>[(1,.c (.ptr 0 0)),(2,.c (.ptr 1 0)),(4,.c (.map 2)),(5,.c (.slice 3 0 e.next.length e.next.length)),(6,.c (.int .i64 ((kO e s).length:Nat))),(30,.c (.ds e.next.length (.cells (rowsC e.next)))),(31,.c (.int .i64 (e.next.length:Nat))),(32,.c (.int .i64 (s:Nat)))]) (fun s=>[(0,.own 30 (dfaC e) 3),(1,.own 30 (.cells [.nils,.nils,.nils]) 3),(2,.mp 184 (mapE eS (kO e s))),(3,.own 3 (.ints .i64 (natsI (toL e s))) e.next.length)]) 4 (fun s=>s≤e.next.length) (fun s=>e.next.length - s) ?_ ?_
   ·have hX2:List.replicate e.next.length (0:Int)=natsI (toL e 0):=(toL_zero e).symm
    have hk0:=zvy e
    have hX4:[]=mapE eS (kO e 0):=by rw[hk0];rfl
    have hL1:(0:Int)=((kO e 0).length:Nat):=by rw[hk0];rfl
    refine dnS [] id 0 (Nat.zero_le _) [0,1,2,3] uRk_0 uRk_0 uRk_0 uRk_0
   ·intro s hs
    have hkl0:=kO_le (d:=e) s hs
    refine srR z0u fun _ K17=>?_;refine z1a ?_;refine s_n K17 ?_;refine seq_k fun _ K18=>?_;refine z04 (b:=_) rfl (fun h_t33=>?_) (fun h_t33=>?_)
    ·try simp only[dQ,reduceIte]at h_t33
     refine z09 ?_;apply K18;refine seq_k fun _ K19=>?_;refine z03 ?_
     have hsn:s< e.next.length:=by omega
     have hrow:=(z5q hok hsn).1
     refine srR z0u fun _ K21=>?_
     iterate 2 refine z1a ?_
     refine z96 ?_;refine exA (.c (.ds (e.next.getD s []).length (.ints .i64 (e.next.getD s [])))) (as_c (z6e ⟨hsn,by omega⟩)) ?_
     iterate 2 refine z1a ?_
     refine s_n K21 ?_;refine srR z0u fun _ K23=>?_
     iterate 6 refine z1a ?_
     refine s_n K23 ?_;refine seq_k fun _ K24=>?_;refine srR z0u fun _ K26=>?_
     iterate 3 refine z1a ?_
     refine s_n K26 ?_;refine z03 ?_;refine z0m (α:=Nat×Nat) (fun m=>[(1,.c (.ptr 0 0)),(2,.c (.ptr 1 0)),(4,.c (.map 2)),(5,.c (.slice 3 0 e.next.length e.next.length)),(6,.c (.int .i64 ((kO e s).length:Nat))),(30,.c (.ds e.next.length (.cells (rowsC e.next)))),(31,.c (.int .i64 (e.next.length:Nat))),(32,.c (.int .i64 (s:Nat))),(7,.c (.int .i64 (s:Nat))),(9,.c (.slice 4 0 (2*m.1) m.2)),(42,.c (.ds (e.next.getD s []).length (.ints .i64 (e.next.getD s [])))),(43,.c (.int .i64 ((e.next.getD s []).length:Nat))),(44,.c (.int .i64 (m.1:Nat)))]) (fun m=>[(0,.own 30 (dfaC e) 3),(1,.own 30 (.cells [.nils,.nils,.nils]) 3),(2,.mp 184 (mapE eS (kO e s))),(3,.own 3 (.ints .i64 (natsI (toL e s))) e.next.length),(4,.own 5 (.u8s (kP e s m.1)) m.2)]) 5 (fun m=>m.1≤e.nc∧2*m.1≤m.2) (fun m=>e.nc - m.1) ?_ ?_
     ·have K0:[]=kP e s 0:=(kP_zero e s).symm
      refine dnS [] id (0,2*e.nc+1) ⟨Nat.zero_le _,Nat.zero_le _⟩ [0,1,2,3,4] uRk_0 uRk_0 uRk_0 uRk_0
     ·intro m hm
      have hm1:=hm.1
      have hm2:=hm.2
      have hkl:=kP_len hok hsn hm1
      refine srR z0u fun _ K28=>?_;refine z1a ?_;refine s_n K28 ?_;refine seq_k fun _ K29=>?_;refine z04 (b:=_) rfl (fun h_t45=>?_) (fun h_t45=>?_)
      ·try simp only[dQ,reduceIte]at h_t45
       refine z09 ?_;apply K29;refine seq_k fun _ K30=>?_;refine z03 ?_
       have hmc:m.1< e.nc:=by omega
       have hnx:=next_lt hok hsn hmc
       refine srR z0u fun _ K32=>?_;refine z1a ?_;refine z96 ?_;refine exA (.c (.int .i64 (((nextD e s m.1:Nat):Int)))) (as_i ((congrArg (fun i=>(e.next.getD s []).getD i 0) (by omega)).trans hnx.2)) ?_;refine z1a ?_;refine s_n K32 ?_;refine z01 z0u fun _ K33=>?_
       iterate 4 refine zmu ?_
       refine zpe ?_;refine exA (.c (.int .i64 (((nextD e s m.1:Nat):Int) / 2 ^ 8))) (as_i (rfl)) ?_
       iterate 2 refine zmu ?_
       refine zpe ?_;intro cap7 hcap7;refine exI ?_;refine zmu ?_;refine s_n K33 ?_;refine z05 ?_;apply K30;refine z01 z0u fun _ K34=>?_
       iterate 2 refine z1a ?_
       refine s_n K34 ?_
       have K1:kP e s m.1++([]++[UInt8.ofInt ((nextD e s m.1:Nat):Int),UInt8.ofInt (((nextD e s m.1:Nat):Int) / 2 ^ 8)])=kP e s (m.1+1):=kP_succ hok hsn hmc
       refine dnS [] (fun i=>if i=4 then 6 else i) (m.1+1,cap7) ⟨⟨by show m.1+1≤_;omega,by show 2*(m.1+1)≤cap7;omega⟩,by show _ - (m.1+1)< _;omega⟩ [0,1,2,3,6] ?_ ?_ ?_ ?_
       ·exact uRk_0
       ·exact uRk_0
       ·exact uRk_0
       ·exact uRk_0
      ·try simp only[dQ,reduceIte]at h_t45
       refine z0i ?_;refine z00 ?_;refine z00 ?_;refine z0f ?_;apply K24;refine z27 (α:=Nat) (fun y=>[(1,.c (.ptr 0 0)),(2,.c (.ptr 1 0)),(4,.c (.map 2)),(5,.c (.slice 3 0 e.next.length e.next.length)),(6,.c (.int .i64 ((kO e s).length:Nat))),(30,.c (.ds e.next.length (.cells (rowsC e.next)))),(31,.c (.int .i64 (e.next.length:Nat))),(32,.c (.int .i64 (s:Nat))),(7,.c (.int .i64 (s:Nat))),(9,.c (.slice 4 0 (kR e s).length y))]) (fun y=>[(0,.own 30 (dfaC e) 3),(1,.own 30 (.cells [.nils,.nils,.nils]) 3),(2,.mp 184 (mapE eS (kO e s))),(3,.own 3 (.ints .i64 (natsI (toL e s))) e.next.length),(4,.own 5 (.u8s (kR e s)) y)]) 5 (fun y=>(kR e s).length≤y) ?_ ?_
       ·have hmn:m.1=e.nc:=by omega
        refine srR z0u fun _ K36=>?_
        iterate 4 refine z1a ?_
        refine z96 ?_;refine exA (.c (.bool (accD e s))) (as_b (congrArg (fun i=>e.acc.getD i false) (by omega))) ?_;refine s_n K36 ?_;refine z04 (b:=_) rfl (fun h_t61=>?_) (fun h_t61=>?_)
        ·refine z01 z0u fun _ K37=>?_
         iterate 2 refine zmu ?_
         refine zpe ?_;intro cap2 hcap2;refine exI ?_;refine zmu ?_;refine s_n K37 ?_
         have hy9:=kR_yes hok hsn (by simpa using h_t61)
         have K1:kP e s m.1++([]++[1])=kR e s:=by rw[hmn];exact hy9
         have hL0:2*m.1+1=(kR e s).length:=by rw[←hy9,List.length_append, ←hmn,hkl];rfl
         refine dnS [] (fun i=>if i=4 then 6 else i) cap2 (by omega) [0,1,2,3,6] uRk_0 uRk_0 uRk_0 uRk_0
        ·refine z09 ?_
         have hy9:=kR_no hok hsn (by simpa using h_t61)
         have K1:kP e s m.1=kR e s:=by rw[hmn];exact hy9
         have hL0:2*m.1=(kR e s).length:=by rw[←K1,hkl]
         refine dnS [] id m.2 (by omega) [0,1,2,3,4] uRk_0 uRk_0 uRk_0 uRk_0
       ·intro y hy
        have hkr:(kR e s).length≤2*e.nc+1:=by
         rw[Go.Aut.kR,List.length_append,z9p,zbt hok hsn];split<;>simp
        refine srR z0u fun _ K39=>?_
        iterate 3 refine z1a ?_
        refine z96 ?_;refine aI (zya _) (And.intro (fun jj v hj=>?_) (fun hno=>?_))
        ·obtain⟨rfl,hkin⟩:=eS_yes (zqw e s) hj
         refine exI ?_
         iterate 5 refine z1a ?_
         refine s_n K39 ?_;refine seq_k fun _ K40=>?_;refine srR z0u fun _ K42=>?_
         iterate 2 refine z1a ?_
         refine s_n K42 ?_;refine z04 (b:=_) rfl (fun h_t73=>?_) (fun _=>?_)
         ·exfalso;cases h_t73
         refine z09 ?_;apply K40;refine z01 z0u fun _ K43=>?_
         iterate 4 refine z1a ?_
         refine zgu ?_;refine s_n K43 ?_;refine z05 ?_;apply K19;refine z01 z0u fun _ K44=>?_
         iterate 2 refine z1a ?_
         refine s_n K44 ?_;obtain⟨hq1,hq2⟩:=kO_yes hsn hkin
         have hX2:(natsI (toL e s)).set (0+((s:Nat):Int).toNat*1) (((idxK (kO e s) (kR e s):Nat):Int))=natsI (toL e (s+1)):=by
          rw[show 0+((s:Nat):Int).toNat*1=s by omega, ←zvw hsn,hq2]
         have hX4:mapE eS (kO e s)=mapE eS (kO e (s+1)):=by rw[hq1]
         have hL0:(kO e s).length=(kO e (s+1)).length:=by rw[hq1]
         refine dnS [] id (s+1) ⟨by show s+1≤_;omega,by show _ - (s+1)< _;omega⟩ [0,1,2,3] ?_ ?_ ?_ ?_
         ·exact uRk_0
         ·exact uRk_0
         ·exact uRk_0
         ·exact uRk_0
        ·have hkno:=eS_no hno
         refine exI ?_
         iterate 5 refine z1a ?_
         refine s_n K39 ?_;refine seq_k fun _ K45=>?_;refine srR z0u fun _ K47=>?_
         iterate 2 refine z1a ?_
         refine s_n K47 ?_;refine z04 (b:=_) rfl (fun _=>?_) (fun h_t73=>?_)
         rotate_left 1
         ·exfalso;cases h_t73
         refine srR z0u fun _ K49=>?_
         iterate 2 refine z1a ?_
         refine s_n K49 ?_;refine srR z0u fun _ K51=>?_
         iterate 4 refine z1a ?_
         refine sX0 ?_;refine aI rfl (And.intro (zya _) (And.intro (fun jj u hj=>absurd (eS_yes (zqw e s) hj).2 hkno) (fun hno2=>?_)));refine exI ?_;refine s_n K51 ?_;refine z01 z0u fun _ K52=>?_
         iterate 3 refine z1a ?_
         refine s_n K52 ?_;apply K45;refine z01 z0u fun _ K53=>?_
         iterate 4 refine z1a ?_
         refine zgu ?_;refine s_n K53 ?_;refine z05 ?_;apply K19;refine z01 z0u fun _ K54=>?_
         iterate 2 refine z1a ?_
         refine s_n K54 ?_;obtain⟨hq1,hq2⟩:=kO_no hsn hkno
         have hX2:(natsI (toL e s)).set (0+((s:Nat):Int).toNat*1) ((((kO e s).length:Nat):Int))=natsI (toL e (s+1)):=by
          rw[show 0+((s:Nat):Int).toNat*1=s by omega, ←zvw hsn,hq2]
         have hX4:mapE eS (kO e s)++[(.c (.str (kR e s)),.c (.int .i64 (((kO e s).length:Nat):Int)))]=mapE eS (kO e (s+1)):=by rw[hq1, ←zgg];rfl
         have hL0:(kO e s).length+1=(kO e (s+1)).length:=by rw[hq1,List.length_append];rfl
         refine dnS [] id (s+1) ⟨by show s+1≤_;omega,by show _ - (s+1)< _;omega⟩ [0,1,2,3] ?_ ?_ ?_ ?_
         ·exact uRk_0
         ·exact uRk_0
         ·exact uRk_0
         ·exact uRk_0
    ·try simp only[dQ,reduceIte]at h_t33
     refine z0i ?_;refine z00 ?_;refine z00 ?_;refine z0f ?_;apply K13;refine seq_k fun _ K55=>?_
     have hsE:s=e.next.length:=by omega
     have hkk:(kO e s).length=(kO e e.next.length).length:=by rw[hsE]
     have hrk9:=zeg e
     rw[←zvx]at hrk9;obtain⟨rk,hrk⟩:∃ rk,rk=(repR e).length:=⟨_,rfl⟩
     have hrkk:rk=(kO e e.next.length).length:=hrk.trans hrk9
     have hrk6:=kO_le (d:=e) e.next.length (Nat.le_refl _)
     have hne9:(kO e e.next.length).length≠e.next.length:=fun he=>absurd (zro hin hg hn6 he) (by omega)
     have hXr:List.replicate rk Cell.nils=fillT (rowsC (rdc e).next) .nils 0:=by rw[zd5,z0s,z4o,hrk]
     have hXb:List.replicate rk false=fillT (rdc e).acc false 0:=by rw[zd5,z8a,hrk]
     refine srR z0u fun _ K57=>?_
     iterate 5 refine z1a ?_
     refine s_n K57 ?_;refine z04 (b:=_) rfl (fun h_t90=>?_) (fun _=>?_)
     ·exfalso;have h9:=of_decide_eq_true h_t90;exact absurd (zro hin hg hn6 (hkk.symm.trans (by omega))) (by omega)
     refine z09 ?_;apply K55;refine z27 (α:=Unit) (fun u=>[(1,.c (.ptr 0 0)),(2,.c (.ptr 1 0)),(5,.c (.slice 5 0 e.next.length e.next.length)),(14,.c (.ptr 4 0))]) (fun u=>[(0,.own 30 (dfaC e) 3),(1,.own 30 (.cells [.nils,.nils,.nils]) 3),(2,.own 51 (.cells (fillT (rowsC (rdc e).next) .nils 0)) rk),(3,.own 4 (.bools (fillT (rdc e).acc false 0)) rk),(4,.own 30 (.cells [.ds e.nc (.u64s e.cls),.slice 2 0 rk rk,.slice 3 0 rk rk]) 3),(5,.own 3 (.ints .i64 (natsI (toL e e.next.length))) e.next.length)]) 6 (fun u=>True) ?_ ?_
     ·rw[hkk, ←hrkk]
      rw[hsE];refine zl9 z0u ?_;refine z29 z0u (g:=5) kR [(0,true),(1,true),(2,true),(4,true)] kR fun _ K59=>?_
      iterate 4 refine z71 ?_
      refine d_n K59 ?_;refine z3u [3,5,7] kR (by decide) (List.forall_mem_cons.2 ⟨?_,List.forall_mem_cons.2 ⟨?_,List.forall_mem_cons.2 ⟨?_,fun _ h=>by cases h⟩⟩⟩)
      ·refine z14 z0u ?_
       refine DRk_0 ?_;refine exI ?_;refine z3u [5,7] kR (by decide) (List.forall_mem_cons.2 ⟨?_,List.forall_mem_cons.2 ⟨?_,fun _ h=>by cases h⟩⟩)
       ·refine z14 z0u ?_
        refine DRk_0 ?_;refine exI ?_;refine z29 z0u (g:=0) kR [(6,true),(7,false),(8,false)] kR fun _ K60=>?_;refine z71 ?_;refine zi6 ?_;refine z7b ?_;refine d_n K60 ?_;refine z1y kR ?_;refine dnS [] (fun i=>if i=5 then 3 else if i=2 then 4 else if i=3 then 5 else if i=4 then 6 else i) () trivial [0,1,4,5,6,3] uRk_0 uRk_0 uRk_0 uRk_0
       ·refine z14 z0u ?_
        refine DRk_0 ?_;refine exI ?_;refine z29 z0u (g:=0) kR [(5,false),(6,true),(8,false)] kR fun _ K61=>?_;refine zi6 ?_;refine z71 ?_;refine z7b ?_;refine d_n K61 ?_;refine z1y kR ?_;refine dnS [] (fun i=>if i=5 then 3 else if i=2 then 4 else if i=3 then 6 else if i=4 then 5 else i) () trivial [0,1,4,6,5,3] uRk_0 uRk_0 uRk_0 uRk_0
      ·refine z14 z0u ?_
       refine DRk_0 ?_;refine exI ?_;refine z3u [3,7] kR (by decide) (List.forall_mem_cons.2 ⟨?_,List.forall_mem_cons.2 ⟨?_,fun _ h=>by cases h⟩⟩)
       ·refine z14 z0u ?_
        refine DRk_0 ?_;refine exI ?_;refine z29 z0u (g:=0) kR [(6,true),(7,false),(8,false)] kR fun _ K62=>?_;refine z71 ?_;refine zi6 ?_;refine z7b ?_;refine d_n K62 ?_;refine z1y kR ?_;refine dnS [] (fun i=>if i=5 then 3 else if i=2 then 5 else if i=3 then 4 else if i=4 then 6 else i) () trivial [0,1,5,4,6,3] uRk_0 uRk_0 uRk_0 uRk_0
       ·refine z14 z0u ?_
        refine DRk_0 ?_;refine exI ?_;refine z29 z0u (g:=0) kR [(3,false),(6,true),(8,false)] kR fun _ K63=>?_;refine zi6 ?_;refine z71 ?_;refine z7b ?_;refine d_n K63 ?_;refine z1y kR ?_;refine dnS [] (fun i=>if i=5 then 3 else if i=2 then 6 else if i=3 then 4 else if i=4 then 5 else i) () trivial [0,1,6,4,5,3] uRk_0 uRk_0 uRk_0 uRk_0
      ·refine z14 z0u ?_
       refine DRk_0 ?_;refine exI ?_;refine z3u [3,5] kR (by decide) (List.forall_mem_cons.2 ⟨?_,List.forall_mem_cons.2 ⟨?_,fun _ h=>by cases h⟩⟩)
       ·refine z14 z0u ?_
        refine DRk_0 ?_;refine exI ?_;refine z29 z0u (g:=0) kR [(5,false),(6,true),(8,false)] kR fun _ K64=>?_;refine zi6 ?_;refine z71 ?_;refine z7b ?_;refine d_n K64 ?_;refine z1y kR ?_;refine dnS [] (fun i=>if i=5 then 3 else if i=2 then 5 else if i=3 then 6 else if i=4 then 4 else i) () trivial [0,1,5,6,4,3] uRk_0 uRk_0 uRk_0 uRk_0
       ·refine z14 z0u ?_
        refine DRk_0 ?_;refine exI ?_;refine z29 z0u (g:=0) kR [(3,false),(6,true),(8,false)] kR fun _ K65=>?_;refine zi6 ?_;refine z71 ?_;refine z7b ?_;refine d_n K65 ?_;refine z1y kR ?_;refine dnS [] (fun i=>if i=5 then 3 else if i=2 then 6 else if i=3 then 5 else if i=4 then 4 else i) () trivial [0,1,6,5,4,3] uRk_0 uRk_0 uRk_0 uRk_0
     ·intro u hu
      clear hu;refine seq_k fun _ K66=>?_;refine leW [5] id [(1,.c (.ptr 0 0)),(2,.c (.ptr 1 0)),(5,.c (.ds e.next.length (.ints .i64 (natsI (toL e e.next.length))))),(14,.c (.ptr 4 0))] [(0,.own 30 (dfaC e) 3),(1,.own 30 (.cells [.nils,.nils,.nils]) 3),(2,.own 51 (.cells (fillT (rowsC (rdc e).next) .nils 0)) rk),(3,.own 4 (.bools (fillT (rdc e).acc false 0)) rk),(4,.own 30 (.cells [.ds e.nc (.u64s e.cls),.slice 2 0 rk rk,.slice 3 0 rk rk]) 3)] 5 [0,1,2,3,4] uRk_0 uRk_0 uRk_0 uRk_0 ?_;refine srR z0u fun _ K68=>?_
      iterate 4 refine z1a ?_
      refine s_n K68 ?_;refine z03 ?_;refine z0m (α:=Nat) (fun s=>[(1,.c (.ptr 0 0)),(2,.c (.ptr 1 0)),(5,.c (.ds e.next.length (.ints .i64 (natsI (toL e e.next.length))))),(14,.c (.ptr 4 0)),(100,.c (.ds e.next.length (.cells (rowsC e.next)))),(101,.c (.int .i64 (e.next.length:Nat))),(102,.c (.int .i64 (s:Nat)))]) (fun s=>[(0,.own 30 (dfaC e) 3),(1,.own 30 (.cells [.nils,.nils,.nils]) 3),(2,.own 51 (.cells (fillT (rowsC (rdc e).next) .nils (kO e s).length)) rk),(3,.own 4 (.bools (fillT (rdc e).acc false (kO e s).length)) rk),(4,.own 30 (.cells [.ds e.nc (.u64s e.cls),.slice 2 0 rk rk,.slice 3 0 rk rk]) 3)]) 5 (fun s=>s≤e.next.length) (fun s=>e.next.length - s) ?_ ?_
      ·have hk0:(kO e 0).length=0:=by rw[zvy];rfl
       refine dnS [] id 0 (Nat.zero_le _) [0,1,2,3,4] uRk_0 uRk_0 uRk_0 uRk_0
      ·intro s hs
       refine srR z0u fun _ K70=>?_;refine z1a ?_;refine s_n K70 ?_;refine seq_k fun _ K71=>?_;refine z04 (b:=_) rfl (fun h_t103=>?_) (fun h_t103=>?_)
       ·try simp only[dQ,reduceIte]at h_t103
        refine z09 ?_;apply K71;refine seq_k fun _ K72=>?_;refine z03 ?_
        have hsn:s< e.next.length:=by omega
        have hrow:=(z5q hok hsn).1
        refine srR z0u fun _ K74=>?_
        iterate 2 refine z1a ?_
        refine z96 ?_;refine exA (.c (.ds (e.next.getD s []).length (.ints .i64 (e.next.getD s [])))) (as_c (z6e ⟨hsn,by omega⟩)) ?_
        iterate 2 refine z1a ?_
        refine s_n K74 ?_;refine srR z0u fun _ K76=>?_
        iterate 4 refine z1a ?_
        refine s_n K76 ?_;rw[hrow];refine seq_k fun _ K77=>?_;refine srR z0u fun _ K79=>?_
        iterate 3 refine z1a ?_
        refine s_n K79 ?_;refine z03 ?_;refine z0m (α:=Nat) (fun m=>[(1,.c (.ptr 0 0)),(2,.c (.ptr 1 0)),(5,.c (.ds e.next.length (.ints .i64 (natsI (toL e e.next.length))))),(14,.c (.ptr 4 0)),(100,.c (.ds e.next.length (.cells (rowsC e.next)))),(101,.c (.int .i64 (e.next.length:Nat))),(102,.c (.int .i64 (s:Nat))),(15,.c (.int .i64 (s:Nat))),(17,.c (.slice 5 0 e.nc e.nc)),(110,.c (.ds (e.next.getD s []).length (.ints .i64 (e.next.getD s [])))),(111,.c (.int .i64 ((e.next.getD s []).length:Nat))),(112,.c (.int .i64 (m:Nat)))]) (fun m=>[(0,.own 30 (dfaC e) 3),(1,.own 30 (.cells [.nils,.nils,.nils]) 3),(2,.own 51 (.cells (fillT (rowsC (rdc e).next) .nils (kO e s).length)) rk),(3,.own 4 (.bools (fillT (rdc e).acc false (kO e s).length)) rk),(4,.own 30 (.cells [.ds e.nc (.u64s e.cls),.slice 2 0 rk rk,.slice 3 0 rk rk]) 3),(5,.own 3 (.ints .i64 (rowM e s m)) e.nc)]) 6 (fun m=>m≤e.nc) (fun m=>e.nc - m) ?_ ?_
        ·have hX1:List.replicate e.nc (0:Int)=rowM e s 0:=(zvz e s).symm
         refine dnS [] id 0 (Nat.zero_le _) [0,1,2,3,4,5] uRk_0 uRk_0 uRk_0 uRk_0
        ·intro m hm
         refine srR z0u fun _ K81=>?_;refine z1a ?_;refine s_n K81 ?_;refine seq_k fun _ K82=>?_;refine z04 (b:=_) rfl (fun h_t113=>?_) (fun h_t113=>?_)
         ·try simp only[dQ,reduceIte]at h_t113
          refine z09 ?_;apply K82;refine seq_k fun _ K83=>?_;refine z03 ?_
          have hmc:m< e.nc:=by omega
          have hnx:=next_lt hok hsn hmc
          refine srR z0u fun _ K85=>?_
          iterate 2 refine z1a ?_
          refine z96 ?_;refine exA (.c (.int .i64 (((nextD e s m:Nat):Int)))) (as_i ((congrArg (fun i=>(e.next.getD s []).getD i 0) (by omega)).trans hnx.2)) ?_
          iterate 2 refine z1a ?_
          refine s_n K85 ?_
          have hto:=hnx.1
          refine z01 z0u fun _ K86=>?_
          iterate 5 refine z1a ?_
          refine z96 ?_;refine exA (.c (.int .i64 (((toR e (nextD e s m):Nat):Int)))) (as_i ((congrArg (fun i=>(natsI (toL e e.next.length)).getD i 0) (by omega)).trans (z0q.trans (congrArg Nat.cast ((zg5 hto).trans (if_pos hto)))))) ?_;refine z1a ?_;refine zgu ?_;refine s_n K86 ?_;refine z05 ?_;apply K83;refine z01 z0u fun _ K87=>?_
          iterate 2 refine z1a ?_
          refine s_n K87 ?_
          have hX1:(rowM e s m).set (0+((m:Nat):Int).toNat*1) ((toR e (nextD e s m):Nat):Int)=rowM e s (m+1):=by rw[show 0+((m:Nat):Int).toNat*1=m by omega];exact rowM_set hmc
          refine dnS [] id (m+1) ⟨by omega,by omega⟩ [0,1,2,3,4,5] uRk_0 uRk_0 uRk_0 uRk_0
         ·try simp only[dQ,reduceIte]at h_t113
          refine z0i ?_;refine z00 ?_;refine z00 ?_;refine z0f ?_;apply K77
          have hmn:m=e.nc:=by omega
          have hto:=hsn
          have htr:=zm0 hsn
          have hat:=zvt hok hn6 hsn
          have hra:=z8a e
          have hrn:=z4o e
          have hRM:rowM e s m=(rowR e s):=by rw[hmn];exact rowM_all hok hsn
          refine leW [5] id [(1,.c (.ptr 0 0)),(2,.c (.ptr 1 0)),(5,.c (.ds e.next.length (.ints .i64 (natsI (toL e e.next.length))))),(14,.c (.ptr 4 0)),(100,.c (.ds e.next.length (.cells (rowsC e.next)))),(101,.c (.int .i64 (e.next.length:Nat))),(102,.c (.int .i64 (s:Nat))),(15,.c (.int .i64 (s:Nat))),(17,.c (.ds e.nc (.ints .i64 (rowM e s m))))] [(0,.own 30 (dfaC e) 3),(1,.own 30 (.cells [.nils,.nils,.nils]) 3),(2,.own 51 (.cells (fillT (rowsC (rdc e).next) .nils (kO e s).length)) rk),(3,.own 4 (.bools (fillT (rdc e).acc false (kO e s).length)) rk),(4,.own 30 (.cells [.ds e.nc (.u64s e.cls),.slice 2 0 rk rk,.slice 3 0 rk rk]) 3)] 5 [0,1,2,3,4] uRk_0 uRk_0 uRk_0 uRk_0 ?_;rw[hRM];refine zl9 z0u ?_;refine z29 z0u (g:=5) kR [(0,true),(1,true),(2,true),(3,true),(4,true),(5,true),(8,true),(9,true),(10,true),(11,true),(12,true),(13,true),(14,true),(15,true),(16,true),(17,true),(18,true)] kR fun _ K89=>?_
          iterate 5 refine z71 ?_
          refine zk0 ?_;refine exA (.c (.int .i64 (((toR e s:Nat):Int)))) (as_i ((congrArg (fun i=>(natsI (toL e e.next.length)).getD i 0) (by omega)).trans (z0q.trans (congrArg Nat.cast ((zg5 hto).trans (if_pos hto)))))) ?_
          iterate 3 refine z71 ?_
          refine zk0 ?_;refine exA (.c (.int .i64 (((toR e s:Nat):Int)))) (as_i ((congrArg (fun i=>(natsI (toL e e.next.length)).getD i 0) (by omega)).trans (z0q.trans (congrArg Nat.cast ((zg5 hto).trans (if_pos hto)))))) ?_
          iterate 5 refine z71 ?_
          refine zk0 ?_;refine exA (.c (.bool (accD e s))) (as_b (congrArg (fun i=>e.acc.getD i false) (by omega))) ?_;refine z71 ?_;refine d_n K89 ?_;refine z3u [6,19] kR (by decide) (List.forall_mem_cons.2 ⟨?_,List.forall_mem_cons.2 ⟨?_,fun _ h=>by cases h⟩⟩)
          ·refine z14 z0u ?_
           refine DRk_0 ?_;refine exI ?_;refine z3u [7,19] kR (by decide) (List.forall_mem_cons.2 ⟨?_,List.forall_mem_cons.2 ⟨?_,fun _ h=>by cases h⟩⟩)
           ·refine z14 z0u ?_
            refine DRk_0 ?_;refine exI ?_;refine z29 z0u (g:=0) kR [(19,false),(20,true),(21,false)] kR fun _ K90=>?_;refine z7b ?_;refine z71 ?_;refine z7b ?_;refine d_n K90 ?_;refine z1y kR ?_;refine z05 ?_;apply K72;refine z01 z0u fun _ K91=>?_
            iterate 2 refine z1a ?_
            refine s_n K91 ?_
            have hS2:=z7p (z:=Cell.nils) (e:=Cell.nils) (v:=.ds e.nc (.ints .i64 (rowR e s))) hsn (l:=rowsC (rdc e).next) (by rw[z0s,z4o]) (by rw[zfp (by rw[z4o];exact htr),hat.1,zbu hok hsn])
            have hS3:=z7p (z:=false) (e:=false) (v:=accD e s) hsn (l:=(rdc e).acc) (z8a e) hat.2
            have hX2:(fillT (rowsC (rdc e).next) .nils ((kO e s).length)).set (0+((toR e s:Nat):Int).toNat*1) (.ds e.nc (.ints .i64 (rowR e s)))=fillT (rowsC (rdc e).next) .nils ((kO e (s+1)).length):=by rw[show 0+((toR e s:Nat):Int).toNat*1=toR e s by omega];exact hS2
            have hX3:(fillT (rdc e).acc false ((kO e s).length)).set (0+((toR e s:Nat):Int).toNat*1) (accD e s)=fillT (rdc e).acc false ((kO e (s+1)).length):=by rw[show 0+((toR e s:Nat):Int).toNat*1=toR e s by omega];exact hS3
            rw[hX2,hX3];refine dnS [] id (s+1) ⟨by show s+1≤_;omega,by show _ - (s+1)< _;omega⟩ [0,1,2,3,4] ?_ ?_ ?_ ?_
            ·exact uRk_0
            ·exact uRk_0
            ·exact uRk_0
            ·exact uRk_0
           ·refine z1m z0u ?_
            refine DRk_0 ?_;refine exI ?_;refine z29 z0u (g:=0) kR [(7,true),(20,true),(21,false)] kR fun _ K92=>?_
            iterate 2 refine z71 ?_
            refine z7b ?_;refine d_n K92 ?_;refine z1y kR ?_;refine z05 ?_;apply K72;refine z01 z0u fun _ K93=>?_
            iterate 2 refine z1a ?_
            refine s_n K93 ?_
            have hS2:=z7p (z:=Cell.nils) (e:=Cell.nils) (v:=.ds e.nc (.ints .i64 (rowR e s))) hsn (l:=rowsC (rdc e).next) (by rw[z0s,z4o]) (by rw[zfp (by rw[z4o];exact htr),hat.1,zbu hok hsn])
            have hS3:=z7p (z:=false) (e:=false) (v:=accD e s) hsn (l:=(rdc e).acc) (z8a e) hat.2
            have hX2:(fillT (rowsC (rdc e).next) .nils ((kO e s).length)).set (0+((toR e s:Nat):Int).toNat*1) (.ds e.nc (.ints .i64 (rowR e s)))=fillT (rowsC (rdc e).next) .nils ((kO e (s+1)).length):=by rw[show 0+((toR e s:Nat):Int).toNat*1=toR e s by omega];exact hS2
            have hX3:(fillT (rdc e).acc false ((kO e s).length)).set (0+((toR e s:Nat):Int).toNat*1) (accD e s)=fillT (rdc e).acc false ((kO e (s+1)).length):=by rw[show 0+((toR e s:Nat):Int).toNat*1=toR e s by omega];exact hS3
            rw[hX2,hX3];refine dnS [] id (s+1) ⟨by show s+1≤_;omega,by show _ - (s+1)< _;omega⟩ [0,1,2,3,4] ?_ ?_ ?_ ?_
            ·exact uRk_0
            ·exact uRk_0
            ·exact uRk_0
            ·exact uRk_0
          ·refine z1m z0u ?_
           refine DRk_0 ?_;refine exI ?_;refine z29 z0u (g:=0) kR [(6,true),(7,true),(20,true),(21,false)] kR fun _ K94=>?_
           iterate 3 refine z71 ?_
           refine z7b ?_;refine d_n K94 ?_;refine z1y kR ?_;refine z05 ?_;apply K72;refine z01 z0u fun _ K95=>?_
           iterate 2 refine z1a ?_
           refine s_n K95 ?_
           have hS2:=z7p (z:=Cell.nils) (e:=Cell.nils) (v:=.ds e.nc (.ints .i64 (rowR e s))) hsn (l:=rowsC (rdc e).next) (by rw[z0s,z4o]) (by rw[zfp (by rw[z4o];exact htr),hat.1,zbu hok hsn])
           have hS3:=z7p (z:=false) (e:=false) (v:=accD e s) hsn (l:=(rdc e).acc) (z8a e) hat.2
           have hX2:(fillT (rowsC (rdc e).next) .nils ((kO e s).length)).set (0+((toR e s:Nat):Int).toNat*1) (.ds e.nc (.ints .i64 (rowR e s)))=fillT (rowsC (rdc e).next) .nils ((kO e (s+1)).length):=by rw[show 0+((toR e s:Nat):Int).toNat*1=toR e s by omega];exact hS2
           have hX3:(fillT (rdc e).acc false ((kO e s).length)).set (0+((toR e s:Nat):Int).toNat*1) (accD e s)=fillT (rdc e).acc false ((kO e (s+1)).length):=by rw[show 0+((toR e s:Nat):Int).toNat*1=toR e s by omega];exact hS3
           rw[hX2,hX3];refine dnS [] id (s+1) ⟨by show s+1≤_;omega,by show _ - (s+1)< _;omega⟩ [0,1,2,3,4] ?_ ?_ ?_ ?_
           ·exact uRk_0
           ·exact uRk_0
           ·exact uRk_0
           ·exact uRk_0
       ·try simp only[dQ,reduceIte]at h_t103
        refine z0i ?_;refine z00 ?_;refine z00 ?_;refine z0f ?_;apply K66
        have hsE:s=e.next.length:=by omega
        have hfn:fillT (rowsC (rdc e).next) .nils ((kO e s).length)=rowsC (rdc e).next:=zg7 _ _ (by rw[hsE, ←hrkk,z0s,z4o,hrk];exact Nat.le_refl _)
        have hfa:fillT (rdc e).acc false ((kO e s).length)=(rdc e).acc:=zg7 _ _ (by rw[hsE, ←hrkk,z8a,hrk];exact Nat.le_refl _)
        rw[hfn,hfa]
        have hra:=z8a e
        have hrn:=z4o e
        refine leW [2,3] (fun i=>if i=2 then 4 else i) [(1,.c (.ptr 0 0)),(2,.c (.ptr 1 0)),(14,.c (.ptr 2 0))] [(0,.own 30 (dfaC e) 3),(1,.own 30 (.cells [.nils,.nils,.nils]) 3),(2,.own 30 (dfaC (rdc e)) 3)] 3 [0,1,4] uRk_0 uRk_0 uRk_0 uRk_0 ?_;refine z01 z0u fun _ K96=>?_;refine z1a ?_;refine zgu ?_;refine s_n K96 ?_;refine z05 ?_
        have hlt:=rdc_lt (d:=e) (by rw[←zvx];exact hne9)
        refine dnS [] id (rdc e) ⟨⟨⟨_,zlz hg (zvu hok hn6) hin.ok⟩,by omega⟩,hlt⟩ [0,1] uRk_0 uRk_0 uRk_0 uRk_0
  ·try simp only[dQ,reduceIte]at h_t23
   refine z0i ?_;refine z00 ?_;refine z00 ?_;refine z0f ?_;apply K3
   have h64:e.next.length≤64:=by omega
   have hcan:=can_hom hin.ok hg h64
   refine srR z0u fun _ K98=>?_;refine z1a ?_;refine z96 ?_;refine⟨e,rfl,wf_of hok hn6,?_⟩;rw[hcan];refine DRk_0 ?_
   first|refine exI ?_|(intro cap1 hcap1;refine exI ?_)
   iterate 2 refine z1a ?_
   refine zgu ?_;refine z1a ?_;refine s_n K98 ?_;refine z0e (z0g z0u (fun _ _ h=>h) (z1h _) [] [.cell 2 30,.tmp 3] rfl ?_)
   all_goals exact uRk_0


end Go.Proofs.YtppmnaoollkboaaDoor

namespace Go.Proofs.YtppmnaoollkboaaDoor
set_option linter.all false
open Go.Ab Go.RowKit

open Go.Aut
def kyX(r:Rul)(s:Sta):Ky:=if s.digits= -1 then .dd else kyOf r s
theorem zgv{r:Rul}{s:Sta}(h:Inv9 r s):kyX r s=kyOf r s:=by
  have:=h.ok.1
  exact if_neg (by omega)
theorem zk1(r:Rul):kyX r deadS= .dd:=if_pos rfl
abbrev kyL(r:Rul)(o:List Sta):List Ky:=o.map (kyX r)
def enc9(s:Sta):List Cell:=[.int .i64 s.digits,.bool s.zero,.int .i64 s.n,.int .i64 s.mod]
theorem rec9:Rec enc9 4 (fun _=>True):=⟨fun _=>rfl,fun a=>z9i rfl (z9i rfl (z9i rfl (z9i rfl zv4)))⟩
theorem zpf{a b:Sta}(h:staV a=staV b):a=b:=by
  injection h with h
  injection h with h
  cases a;cases b
  simp only[List.cons.injEq,Cell.int.injEq,Cell.bool.injEq,true_and,and_true]at h
  obtain⟨h1,h2,h3,h4⟩:=h;subst h1;subst h2;subst h3;subst h4;rfl
theorem z0x{s:Sta}(h1: -3≤s.digits∧s.digits≤7)(h2:0≤s.n∧s.n≤51)(h3:0≤s.mod∧s.mod≤50):keyS ty 130 (staV s):=by
  refine⟨rfl,?_⟩;exact⟨⟨rfl,z76.mpr ⟨by omega,by omega⟩⟩,trivial,⟨rfl,z76.mpr ⟨by omega,by omega⟩⟩,⟨rfl,z76.mpr ⟨by omega,by omega⟩⟩,trivial⟩
theorem zyb{r:Rul}(hr:r.ok){k:Ky}(h:KOK r k):keyS ty 130 (staV (encK9 k)):=by
  have h1:=hr.d2
  have h2:=hr.t2
  cases k<;>simp only[KOK]at h<;>refine z0x ?_ ?_ ?_<;>simp only[encK9,sta0,deadS]<;>omega
theorem dv_sta(s:Sta):∀ x∈[staV s],dataV x:=fun x hx=>by rw[List.mem_singleton.1 hx];rfl
structure CorOK(r:Rul)(o:List Sta)(m:List (SV×SV)):Prop where
  gr:Grown r (kyL r o)
  st:∀ i s,o[i]? =some s→i=1∨Inv9 r s
  d1:o[1]? =some deadS
  m1:∀ p∈m,∃ (i:Nat) (k:Ky),(kyL r o)[i]? =some k∧p=(staV (encK9 k),.c (.int .i64 (i:Int)))
  m2:∀ (i:Nat) (k:Ky),(kyL r o)[i]? =some k→∃ p∈m,p.1=staV (encK9 k)
theorem cor_ks{r:Rul}(hr:r.ok):kyL r [sta0,deadS]=[.st,.dd]:=by
  have e:kyX r sta0= .st:=(zgv (zjy hr)).trans (if_pos rfl)
  show[kyX r sta0,kyX r deadS]=_
  rw[e,zk1]
theorem z2c{r:Rul}(hr:r.ok){m:List (SV×SV)}(hm:m=[(staV sta0,.c (.int .i64 0)),(staV deadS,.c (.int .i64 1))]∨m=[(staV deadS,.c (.int .i64 1)),(staV sta0,.c (.int .i64 0))]):CorOK r [sta0,deadS] m:=by
  have e:=cor_ks hr
  have hmem:∀ p,p∈m↔p=(staV sta0,.c (.int .i64 0))∨p=(staV deadS,.c (.int .i64 1)):=fun p=>by
    rcases hm with rfl|rfl
    · simp
    · simp[or_comm]
  refine⟨by rw[e];exact zpd,fun i s hi=>?_,rfl,fun p hp=>?_,fun i k hi=>?_⟩
  · match i,hi with
    |0,hi=>exact .inr (by cases hi;exact zjy hr)
    |1,_=>exact .inl rfl
    |i+2,hi=>simp at hi
  · rw[e]
    rcases (hmem p).1 hp with rfl|rfl
    · exact⟨0,.st,rfl,rfl⟩
    · exact⟨1,.dd,rfl,rfl⟩
  · rw[e]at hi
    match i,hi with
    |0,hi=>cases hi;exact⟨_,(hmem _).2 (.inl rfl),rfl⟩
    |1,hi=>cases hi;exact⟨_,(hmem _).2 (.inr rfl),rfl⟩
    |i+2,hi=>simp at hi
section
variable {r:Rul} {o:List Sta} {m:List (SV×SV)}
theorem zdi(hr:r.ok)(h:CorOK r o m):o.length≤411∧2≤o.length:=by
  have h1:=zmq hr h.gr
  rw[List.length_map]at h1
  have h2:=(List.getElem?_eq_some_iff.1 h.d1).1
  exact⟨h1,h2⟩
theorem zk2(h:CorOK r o m):∀ x∈m,x.1.flat=true∧x.2.flat=true:=fun x hx=>by
  obtain⟨i,k,_,rfl⟩:=h.m1 x hx;exact⟨rfl,rfl⟩
theorem zyc(h:CorOK r o m)(n:Nat):∀ x∈m,x.1.low n∧x.2.low n:=fun x hx=>by
  obtain⟨h1,h2⟩:=zk2 h x hx;exact⟨SV.flat_low h1,SV.flat_low h2⟩
theorem zrq(hr:r.ok)(h:CorOK r o m):∀ p∈m,keyS ty 130 p.1:=fun p hp=>by
  obtain⟨i,k,hk,rfl⟩:=h.m1 p hp;exact zyb hr (h.gr.ok k (List.mem_of_getElem? hk))
theorem zyd(h:CorOK r o m){k:Ky}(hk:KOK r k){j:Nat}{v:SV}(hj:m[j]? =some (staV (encK9 k),v)):∃ i:Nat,(kyL r o)[i]? =some k∧v= .c (.int .i64 (i:Int)):=by
  obtain⟨i,k',h1,h2⟩:=h.m1 _ (List.mem_of_getElem? hj)
  have e1:=congrArg Prod.fst h2
  have e2:=congrArg Prod.snd h2
  have:=encK_inj hk (h.gr.ok k' (List.mem_of_getElem? h1)) (zpf e1)
  subst this;exact⟨i,h1,e2⟩
theorem cor_no(h:CorOK r o m){k:Ky}(hn:∀ p∈m,p.1≠staV (encK9 k)):k∉kyL r o:=fun hk=>by
  obtain⟨i,hi,e⟩:=List.mem_iff_getElem.1 hk;obtain⟨p,hp,e2⟩:=h.m2 i k (by rw[←e];exact List.getElem?_eq_getElem hi);exact hn p hp e2
theorem cor_at(h:CorOK r o m){i:Nat}{s:Sta}(hi:o[i]? =some s):(kyL r o)[i]? =some (kyX r s):=by rw[List.getElem?_map,hi];rfl
theorem cor_more(hr:r.ok)(h:CorOK r o m){y:Sta}(hy:Inv9 r y)(hn:kyOf r y∉kyL r o):CorOK r (o++[y]) (m++[(staV (encK9 (kyOf r y)),.c (.int .i64 ((o.length:Nat):Int)))])∧kyL r (o++[y])=kyL r o++[kyOf r y]:=by
  have e:kyL r (o++[y])=kyL r o++[kyOf r y]:=by
    show(o++[y]).map (kyX r)=_
    rw[List.map_append,List.map_singleton,zgv hy]
  have hl:(kyL r o).length=o.length:=List.length_map _
  refine⟨⟨by rw[e];exact ztp h.gr (ky_ok hr hy) hn,fun i s hi=>?_,?_,fun p hp=>?_,fun i k hi=>?_⟩,e⟩
  · rcases Nat.lt_or_ge i o.length with h1|h1
    · rw[List.getElem?_append_left h1]at hi;exact h.st i s hi
    · rw[List.getElem?_append_right h1]at hi
      have:=List.mem_of_getElem? hi
      rw[List.mem_singleton.1 this];exact .inr hy
  · rw[List.getElem?_append_left (List.getElem?_eq_some_iff.1 h.d1).1];exact h.d1
  · rw[e]
    rcases List.mem_append.1 hp with hp|hp
    · obtain⟨i,k,h1,h2⟩:=h.m1 p hp
      exact⟨i,k,by rw[List.getElem?_append_left (List.getElem?_eq_some_iff.1 h1).1];exact h1,h2⟩
    · rw[List.mem_singleton.1 hp]
      exact⟨o.length,_,by rw[List.getElem?_append_right (by omega),hl,Nat.sub_self];rfl,rfl⟩
  · rw[e]at hi
    rcases Nat.lt_or_ge i o.length with h1|h1
    · rw[List.getElem?_append_left (by omega)]at hi
      obtain⟨p,hp,e2⟩:=h.m2 i k hi;exact⟨p,List.mem_append_left _ hp,e2⟩
    · rw[List.getElem?_append_right (by omega)]at hi
      have:=List.mem_of_getElem? hi
      rw[List.mem_singleton.1 this];exact⟨_,List.mem_append_right _ (List.mem_singleton.2 rfl),rfl⟩
structure RwOK(r:Rul)(P:Int×Bool→Bool)(ks:List Ky)(rs:List (List Int))(bs:List Bool):Prop where
  rl:rs.length≤ks.length
  al:bs.length=rs.length
  rows:∀ i k,i< rs.length→ks[i]? =some k→RowOK r ks k (nB r) (rs.getD i [])
  acc:∀ i k,i< rs.length→ks[i]? =some k→bs.getD i false=P (valK r k)
variable {P:Int×Bool→Bool} {ks:List Ky} {rs:List (List Int)} {bs:List Bool}
theorem rw_zero:RwOK r P ks [] []:=⟨Nat.zero_le _,rfl,fun _ _ h=>absurd h (Nat.not_lt_zero _),fun _ _ h=>absurd h (Nat.not_lt_zero _)⟩
theorem rw_app(h:RwOK r P ks rs bs)(k:Ky):RwOK r P (ks++[k]) rs bs:=by
  have hl:=h.rl
  refine⟨by rw[List.length_append];omega,h.al,fun i j hi hj=>?_,fun i j hi hj=>?_⟩
  · rw[List.getElem?_append_left (by omega)]at hj
    exact zmo (h.rows i j hi hj) _
  · rw[List.getElem?_append_left (by omega)]at hj
    exact h.acc i j hi hj
theorem zmw{α:Type}{l:List α}{a d:α}{i:Nat}(h:i< l.length+1):(l++[a]).getD i d=if i< l.length then l.getD i d else a:=by
  rw[List.getD_eq_getElem?_getD,List.getD_eq_getElem?_getD]
  by_cases e:i< l.length
  · rw[if_pos e,List.getElem?_append_left e]
  · rw[if_neg e,List.getElem?_append_right (by omega),show i - l.length=0 by omega];rfl
theorem zye(h:RwOK r P ks rs bs){k:Ky}(hk:ks[rs.length]? =some k){row:List Int}(hrow:RowOK r ks k (nB r) row){b:Bool}(hb:b=P (valK r k)):RwOK r P ks (rs++[row]) (bs++[b]):=by
  have hl:=(List.getElem?_eq_some_iff.1 hk).1
  have ha:=h.al
  refine⟨by rw[List.length_append];exact hl,by rw[List.length_append,List.length_append,ha];rfl,fun i j hi hj=>?_,fun i j hi hj=>?_⟩
  · rw[List.length_append]at hi
    have hi:i< rs.length+1:=hi
    rw[zmw hi]
    by_cases e:i< rs.length
    · rw[if_pos e];exact h.rows i j e hj
    · obtain rfl:i=rs.length:=by omega
      rw[hk]at hj;cases hj;rw[if_neg e];exact hrow
  · rw[List.length_append]at hi
    have hi:i< rs.length+1:=hi
    rw[zmw (by omega),ha]
    by_cases e:i< rs.length
    · rw[if_pos e];exact h.acc i j e hj
    · obtain rfl:i=rs.length:=by omega
      rw[hk]at hj;cases hj;rw[if_neg e];exact hb
def langN(r:Rul)(P:Int×Bool→Bool)(w:List Nat):Bool:=P (readN r (w.map UInt8.ofNat))
structure AsIn(r:Rul)(P:Int×Bool→Bool)(cls:List UInt64)(q1:QSpec)(c1:List Cell):Prop where
  ok:r.ok
  clen:cls.length=(nB r+1)*4
  cl:∀ c b,c< nB r+1→b< 256→(hasC cls c b=true↔digC r (UInt8.ofNat b)=c)
  p0:P (0,false)=false
  d1:∀ x∈c1,dataC x
  h1:∀ s:Sta,s.ok→q1 ([staV s]++c1.map .c) (fun v=>v= .c (.bool (P (z24 r s))))
theorem asm_end{cls:List UInt64}{q1:QSpec}{c1:List Cell}(hin:AsIn r P cls q1 c1)(h:CorOK r o m)(hw:RwOK r P (kyL r o) rs bs)(he:rs.length=o.length):
    RedIn ⟨cls,nB r+1,rs,bs⟩∧canD (langD ⟨cls,nB r+1,rs,bs⟩)=canD (langN r P):=by
  have hl:(kyL r o).length=o.length:=List.length_map _
  have ha:=hw.al
  have ht:TabOK r P ⟨cls,nB r+1,rs,bs⟩ (kyL r o):=by
    refine⟨h.gr,rfl,hin.clen,hin.cl,?_,fun i k hi=>?_,?_,fun i k hi=>?_⟩
    · show rs.length=_;omega
    · exact hw.rows i k (by have:=(List.getElem?_eq_some_iff.1 hi).1;omega) hi
    · show bs.length=_;omega
    · exact hw.acc i k (by have:=(List.getElem?_eq_some_iff.1 hi).1;omega) hi
  have hb:=z4r hin.ok
  have hc:=zdi hin.ok h
  refine⟨⟨zjz hin.ok ht,?_,?_,zmt hin.ok ht⟩,z55 fun w hw=>zi5 hin.ok ht hw⟩
  · show rs.length≤65536;omega
  · show nB r+1≤64;omega
theorem zrr(hr:r.ok)(h:CorOK r o m){i:Nat}{x:Sta}(hx:o[i]? =some x)(hi:i≠1){v:Nat}(hv:v< nB r):Inv9 r x∧Inv9 r (z0w r x (v:Nat))∧kyX r x=kyOf r x∧kyOf r (z0w r x (v:Nat))=stepK r (kyX r x) (v:Nat)∧keyN r (z0w r x (v:Nat))=encK9 (kyOf r (z0w r x (v:Nat)))∧KOK r (kyOf r (z0w r x (v:Nat))):=by
  have hx1:Inv9 r x:=(h.st i x hx).resolve_left hi
  have hb:=z4r hr
  have hn:=zrj hr hx1 (d:=(v:Nat)) (by omega)
  exact⟨hx1,hn,zgv hx1,by rw[zgv hx1];exact zrk hr hx1 (by omega) (by omega),key_enc hr hn,ky_ok hr hn⟩
theorem zyf(hr:r.ok)(h:CorOK r o m){i:Nat}{x:Sta}(hx:o[i]? =some x){v:Nat}{row:List Int}(hrow:RowOK r (kyL r o) (kyX r x) v row)(he:i=1∨v=nB r):RowOK r (kyL r o) (kyX r x) (nB r) row:=by
  rcases he with rfl|rfl
  · have e:=h.d1
    rw[hx]at e;cases e;rw[zk1]at hrow ⊢;exact rowOK_dd hrow
  · exact hrow
theorem zyg(hin:r.ok)(h:CorOK r o m)(h0:P (0,false)=false){i:Nat}{x:Sta}(hx:o[i]? =some x):(i=1→false=P (valK r (kyX r x)))∧(i≠1→P (z24 r x)=P (valK r (kyX r x))):=by
  constructor
  · rintro rfl
    have e:=h.d1
    rw[hx]at e;cases e;rw[zk1];exact h0.symm
  · intro hi
    have hx1:Inv9 r x:=(h.st i x hx).resolve_left hi
    rw[zgv hx1,zy5 hin hx1]
end

end Go.Proofs.YtppmnaoollkboaaDoor

namespace Go.Proofs.YtppmnaoollkboaaDoor
set_option linter.all false
open Go.Ab Go.RowKit

section
variable {a b:Prop}
theorem qRm0(h:a:=by first|exact vcA|(simp<;>omega)|exact⟨by omega,by omega⟩|exact⟨by omega,by omega,trivial⟩|exact⟨by omega,by omega,trivial,trivial⟩|exact z2q _|exact zcy rec9 _|exact rec9.solid _|exact⟨by omega,by omega,rec9.solid _⟩|(show _< (z13 enc9 _).length;rw[z2q];omega)|(show _≤(z13 enc9 _).length;rw[z2q];omega)|(show _< (fillT _ _ _).length;rw[z43,List.length_replicate];omega)|exact vcB):a:=h
theorem uRm_0(h:a:=by
    repeat' (first|assumption|exact zk2 (by assumption)|exact zyc (by assumption) _|exact zqg rec9|exact zfn hin.d1|exact zbd hin.d1|exact pT|exact trivial|refine aI ?_ ?_|exact cC0|refine low_cons' ?_ ?_|exact cC1|fail)
    all_goals first|omega|exact z2w _|exact z1h _|exact hL0|exact zk2 (by assumption)|exact zyc (by assumption) _|exact zfn hin.d1|exact zbd hin.d1|exact zqh (z7j rec9 _) (by first|rfl|assumption|exact hXS)|(show(_:List Int)=_;first|assumption|rfl)|(show(_:List Bool)=_;first|assumption|rfl)|(show(_:List (SV×SV))=_;first|assumption|rfl)|(show allTo _ _ _;first|exact z26 _|(rw[hXR];exact z26 _)|(rw[hXR];trivial))|(show(0:Nat)< (z08 _ _ _ _).length;rw[z06 hcl];decide)|(simp[-List.reduceReplicate];done)|(simp[-List.reduceReplicate]<;>omega)|skip):a:=h
theorem DRm_0(kZ:b)(h:HidB b→a:=by intro kZ;(repeat first|refine aI qRm0 ?_|refine z0a qRm0 ?_|refine z07 qRm0 ?_|refine z0l qRm0 ?_|refine z0c ?_);exact kZ.out):a:=h ⟨kZ⟩
theorem z21(kZ:b)(h:HidB b→a:=by intro kZ;refine sX ?_;refine DRm_0 ?_;refine exI ?_;exact kZ.out):a:=h ⟨kZ⟩
theorem z3l(kZ:b)(h:HidB b→a:=by intro kZ;refine dX ?_;refine DRm_0 ?_;refine exI ?_;exact kZ.out):a:=h ⟨kZ⟩
theorem zmx(kZ:b)(h:HidB b→a:=by intro kZ;refine gX ?_;refine DRm_0 ?_;refine exI ?_;exact kZ.out):a:=h ⟨kZ⟩
theorem zdj(kZ:b)(h:HidB b→a:=by intro kZ;refine sX0 ?_;refine DRm_0 ?_;refine exI ?_;exact kZ.out):a:=h ⟨kZ⟩
theorem zyh(kZ:b)(h:HidB b→a:=by intro kZ;refine sXT ?_;refine DRm_0 ?_;refine exI ?_;exact kZ.out):a:=h ⟨kZ⟩
theorem zk3(kZ:b)(h:HidB b→a:=by intro kZ;refine gX0 ?_;refine DRm_0 ?_;refine exI ?_;exact kZ.out):a:=h ⟨kZ⟩
theorem dXTRm_7(kZ:b)(h:HidB b→a:=by intro kZ;refine dXT ?_;refine DRm_0 ?_;refine exI ?_;exact kZ.out):a:=h ⟨kZ⟩
theorem zdk(kZ:b)(h:HidB b→a:=by intro kZ;refine dX ?_;refine DRm_0 ?_;exact kZ.out):a:=h ⟨kZ⟩
theorem z4s(kZ:b)(h:HidB b→a:=by intro kZ;refine sX ?_;refine DRm_0 ?_;exact kZ.out):a:=h ⟨kZ⟩
theorem zyi(kZ:b)(h:HidB b→a:=by intro kZ;refine sXT ?_;refine DRm_0 ?_;exact kZ.out):a:=h ⟨kZ⟩
theorem zk4(kZ:b)(h:HidB b→a:=by intro kZ;refine gX ?_;refine DRm_0 ?_;exact kZ.out):a:=h ⟨kZ⟩
theorem zyj(kZ:b)(h:HidB b→a:=by intro kZ;refine dXT ?_;refine DRm_0 ?_;exact kZ.out):a:=h ⟨kZ⟩
end
open Go.Aut
noncomputable def cA(f1:FuncId)(q1:QSpec):Ctx:={ P:=Tryd.prog,ty:=ty,glob:=gl,fs:=[(112,.data zxy),(168,.data keyNS),(169,.data zrp),(f1,.flat (eqS q1))] }
theorem cA_ok{f1:FuncId}{q1:QSpec}(e1:z67 Tryd.prog f1)(h1:z1s Tryd.prog gl f1 q1):(cA f1 q1).OK:=⟨tyOK,⟨⟨z0b Tryd.func112 kR rfl,zrh⟩,⟨z0b Tryd.func168 kR rfl,keyN_ok⟩,⟨z0b Tryd.func169 kR rfl,ztq⟩,⟨e1,zw1 h1⟩,trivial⟩,mixed⟩
@[simp] theorem cA_ty{f1:FuncId}{q1:QSpec}:(cA f1 q1).ty=ty:=rfl
theorem cA_look{f1:FuncId}{q1:QSpec}(h:112≠f1∧168≠f1∧169≠f1):z3n (cA f1 q1).fs f1=some (.flat (eqS q1)):=by
  show(if 112=f1 then _ else if 168=f1 then _ else if 169=f1 then _ else if f1=f1 then _ else _)=_
  rw[if_neg h.1,if_neg h.2.1,if_neg h.2.2,if_pos rfl]
structure Asm where
  o:List Sta
  m:List (SV×SV)
  cl:Nat
  rs:List (List Int)
  bs:List Bool
  cn:Nat
  ca:Nat
structure Asv where
  o:List Sta
  m:List (SV×SV)
  cl:Nat
  v:Nat
  row:List Int
theorem z2h{a b:Sta}(h:a≠b){u v:SV}{jj:Nat}(hj:([]++[(staV a,v)])[jj]? =some (staV b,u)):False:=by
  have:=congrArg Prod.fst (List.mem_singleton.1 (List.mem_of_getElem? hj))
  exact h (zpf this).symm
theorem z2q(l:List Sta):(z13 enc9 l).length=l.length*4:=zqf rec9 fun _ _=>trivial
theorem rep_one{n v:Nat}(h:v< n):(List.replicate n (1:Int)).getD v 0=1:=by
  rw[List.getD_eq_getElem?_getD,List.getElem?_replicate,if_pos h];rfl
theorem fill_one{n v:Nat}(h:v< n):(fillT (List.replicate n (1:Int)) 0 v).set v 1=fillT (List.replicate n (1:Int)) 0 (v+1):=by
  have:=zm1 (l:=List.replicate n (1:Int)) (z:=0) (d:=0) (k:=v) (by rw[List.length_replicate];exact h)
  rwa [rep_one h]at this
def asmS(f1:FuncId)(q1:QSpec):QSpec:=fun vs K=>∃ (r:Rul) (P:Int×Bool→Bool) (cls:List UInt64) (c1:List Cell),vs=[rulV r,.agg (.cells [.ds (nB r+1) (.u64s cls),.nils,.nils]),.c (.clo f1 c1)]∧AsIn r P cls q1 c1∧K (resV (canD (langN r P),0))
attribute [local irreducible] z0o z0y zl z08 z0v putB canD fillT wordK
theorem asm_ok {f1:FuncId} {q1:QSpec} (e1:z67 Tryd.prog f1) (q1ok:z1s Tryd.prog gl f1 q1) (hne:112≠f1∧168≠f1∧169≠f1):z1x Tryd.prog gl 156 (asmS f1 q1):=by
 refine z1c (Γ:=cA f1 q1) (N:=110) Tryd.func156 rfl rfl fun vs K h=>?_;obtain⟨r,P,cls,c1,rfl,hin,h⟩:=h;refine⟨_,h,z1h _,by simp,fun w I=>?_⟩
 have hr:=hin.ok
 have hB:=z4r hr
 refine srR (cA_ok e1 q1ok) fun _ K2=>?_
 iterate 4 refine z21 ?_
 refine s_n K2 ?_;refine z27 (α:=List (SV×SV)) (fun m=>[(2,.c (.clo f1 c1)),(3,.c (.dp (rulC r) 0)),(4,.c (.ptr 0 0)),(6,.c (.ptr 1 0)),(8,.c (.map 2))]) (fun m=>[(0,.own 30 (.cells [.ds (nB r+1) (.u64s cls),.nils,.nils]) 3),(1,.own 30 (.cells [.nils,.nils,.nils]) 3),(2,.mp 188 m)]) 3 (fun m=>m=[(staV sta0,.c (.int .i64 0)),(staV deadS,.c (.int .i64 1))]∨m=[(staV deadS,.c (.int .i64 1)),(staV sta0,.c (.int .i64 0))]) ?_ ?_
 ·refine leW [0] (fun i=>i+1) [(2,.c (.clo f1 c1)),(3,.c (.dp (rulC r) 0)),(4,.c (.ptr 0 0)),(6,.c (.ptr 1 0))] [(0,.own 30 (.cells [.ds (nB r+1) (.u64s cls),.nils,.nils]) 3),(1,.own 30 (.cells [.nils,.nils,.nils]) 3)] 2 [1,2] uRm_0 uRm_0 uRm_0 uRm_0 ?_
  refine zl9 (cA_ok e1 q1ok) ?_;refine z3u [0,1,3] kR (by decide) (List.forall_mem_cons.2 ⟨?_,List.forall_mem_cons.2 ⟨?_,List.forall_mem_cons.2 ⟨?_,fun _ h=>by cases h⟩⟩⟩)
  ·refine z14 (cA_ok e1 q1ok) ?_
   refine DRm_0 ?_;refine exI ?_;refine z3u [1,3] kR (by decide) (List.forall_mem_cons.2 ⟨?_,List.forall_mem_cons.2 ⟨?_,fun _ h=>by cases h⟩⟩)
   ·refine z14 (cA_ok e1 q1ok) ?_
    refine DRm_0 ?_;refine exA (staV sta0) (SV.as_refl _) ?_;refine z3u [2,3] kR (by decide) (List.forall_mem_cons.2 ⟨?_,List.forall_mem_cons.2 ⟨?_,fun _ h=>by cases h⟩⟩)
    ·refine z1m (cA_ok e1 q1ok) ?_
     refine aI (z0x (s:=sta0) (by decide) (by decide) (by decide)) (And.intro (fun p hp=>by first|(cases hp;done)|(rw[List.nil_append]at hp;rw[List.mem_singleton.1 hp];exact z0x (s:=deadS) (by decide) (by decide) (by decide))) (And.intro (fun jj u hj=>by first|(cases hj;done)|exact(z2h (a:=deadS) (b:=sta0) (by decide) hj).elim) (fun hno=>?_)));refine exI ?_;refine z29 (cA_ok e1 q1ok) (g:=0) kR [(3,true),(4,false),(5,true),(6,true)] kR fun _ K4=>?_;refine zdk ?_;refine exA (staV deadS) (SV.as_refl _) ?_;refine gX0 ?_;refine aI (z0x (s:=deadS) (by decide) (by decide) (by decide)) (And.intro (fun p hp=>by first|(cases hp;done)|(rw[List.nil_append]at hp;rw[List.mem_singleton.1 hp];exact z0x (s:=sta0) (by decide) (by decide) (by decide))) (And.intro (fun jj u hj=>by first|(cases hj;done)|exact(z2h (a:=sta0) (b:=deadS) (by decide) hj).elim) (fun hno=>?_)));refine exI ?_
     iterate 2 refine z3l ?_
     refine d_n K4 ?_;refine z1y kR ?_
     have hcor:=z2c hr (.inl rfl)
     refine dnS [] id [(staV sta0,.c (.int .i64 0)),(staV deadS,.c (.int .i64 1))] (.inl rfl) [0,1,2] uRm_0 uRm_0 uRm_0 uRm_0
    ·refine z14 (cA_ok e1 q1ok) ?_
     refine DRm_0 ?_;refine exA (staV deadS) (SV.as_refl _) ?_;refine z3u [2,4] kR (by decide) (List.forall_mem_cons.2 ⟨?_,List.forall_mem_cons.2 ⟨?_,fun _ h=>by cases h⟩⟩)
     ·refine z1m (cA_ok e1 q1ok) ?_
      refine aI (z0x (s:=sta0) (by decide) (by decide) (by decide)) (And.intro (fun p hp=>by first|(cases hp;done)|(rw[List.nil_append]at hp;rw[List.mem_singleton.1 hp];exact z0x (s:=deadS) (by decide) (by decide) (by decide))) (And.intro (fun jj u hj=>by first|(cases hj;done)|exact(z2h (a:=deadS) (b:=sta0) (by decide) hj).elim) (fun hno=>?_)));refine exI ?_;refine z29 (cA_ok e1 q1ok) (g:=0) kR [(4,false),(5,true),(6,true)] kR fun _ K5=>?_;refine gX0 ?_;refine aI (z0x (s:=deadS) (by decide) (by decide) (by decide)) (And.intro (fun p hp=>by first|(cases hp;done)|(rw[List.nil_append]at hp;rw[List.mem_singleton.1 hp];exact z0x (s:=sta0) (by decide) (by decide) (by decide))) (And.intro (fun jj u hj=>by first|(cases hj;done)|exact(z2h (a:=sta0) (b:=deadS) (by decide) hj).elim) (fun hno=>?_)));refine exI ?_
      iterate 2 refine z3l ?_
      refine d_n K5 ?_;refine z1y kR ?_
      have hcor:=z2c hr (.inl rfl)
      refine dnS [] id [(staV sta0,.c (.int .i64 0)),(staV deadS,.c (.int .i64 1))] (.inl rfl) [0,1,2] uRm_0 uRm_0 uRm_0 uRm_0
     ·refine z1m (cA_ok e1 q1ok) ?_
      refine aI (z0x (s:=deadS) (by decide) (by decide) (by decide)) (And.intro (fun p hp=>by first|(cases hp;done)|(rw[List.nil_append]at hp;rw[List.mem_singleton.1 hp];exact z0x (s:=sta0) (by decide) (by decide) (by decide))) (And.intro (fun jj u hj=>by first|(cases hj;done)|exact(z2h (a:=sta0) (b:=deadS) (by decide) hj).elim) (fun hno=>?_)));refine exI ?_;refine z29 (cA_ok e1 q1ok) (g:=0) kR [(2,false),(5,true),(6,true)] kR fun _ K6=>?_;refine gX0 ?_;refine aI (z0x (s:=sta0) (by decide) (by decide) (by decide)) (And.intro (fun p hp=>by first|(cases hp;done)|(rw[List.nil_append]at hp;rw[List.mem_singleton.1 hp];exact z0x (s:=deadS) (by decide) (by decide) (by decide))) (And.intro (fun jj u hj=>by first|(cases hj;done)|exact(z2h (a:=deadS) (b:=sta0) (by decide) hj).elim) (fun hno=>?_)));refine exI ?_
      iterate 2 refine z3l ?_
      refine d_n K6 ?_;refine z1y kR ?_
      have hcor:=z2c hr (.inr rfl)
      refine dnS [] id [(staV deadS,.c (.int .i64 1)),(staV sta0,.c (.int .i64 0))] (.inr rfl) [0,1,2] uRm_0 uRm_0 uRm_0 uRm_0
   ·refine z14 (cA_ok e1 q1ok) ?_
    refine DRm_0 ?_;refine exA (staV deadS) (SV.as_refl _) ?_;refine z3u [1,4] kR (by decide) (List.forall_mem_cons.2 ⟨?_,List.forall_mem_cons.2 ⟨?_,fun _ h=>by cases h⟩⟩)
    ·refine z14 (cA_ok e1 q1ok) ?_
     refine DRm_0 ?_;refine exA (staV sta0) (SV.as_refl _) ?_;refine z3u [2,4] kR (by decide) (List.forall_mem_cons.2 ⟨?_,List.forall_mem_cons.2 ⟨?_,fun _ h=>by cases h⟩⟩)
     ·refine z1m (cA_ok e1 q1ok) ?_
      refine aI (z0x (s:=sta0) (by decide) (by decide) (by decide)) (And.intro (fun p hp=>by first|(cases hp;done)|(rw[List.nil_append]at hp;rw[List.mem_singleton.1 hp];exact z0x (s:=deadS) (by decide) (by decide) (by decide))) (And.intro (fun jj u hj=>by first|(cases hj;done)|exact(z2h (a:=deadS) (b:=sta0) (by decide) hj).elim) (fun hno=>?_)));refine exI ?_;refine z29 (cA_ok e1 q1ok) (g:=0) kR [(4,false),(5,true),(6,true)] kR fun _ K7=>?_;refine gX0 ?_;refine aI (z0x (s:=deadS) (by decide) (by decide) (by decide)) (And.intro (fun p hp=>by first|(cases hp;done)|(rw[List.nil_append]at hp;rw[List.mem_singleton.1 hp];exact z0x (s:=sta0) (by decide) (by decide) (by decide))) (And.intro (fun jj u hj=>by first|(cases hj;done)|exact(z2h (a:=sta0) (b:=deadS) (by decide) hj).elim) (fun hno=>?_)));refine exI ?_
      iterate 2 refine z3l ?_
      refine d_n K7 ?_;refine z1y kR ?_
      have hcor:=z2c hr (.inl rfl)
      refine dnS [] id [(staV sta0,.c (.int .i64 0)),(staV deadS,.c (.int .i64 1))] (.inl rfl) [0,1,2] uRm_0 uRm_0 uRm_0 uRm_0
     ·refine z1m (cA_ok e1 q1ok) ?_
      refine aI (z0x (s:=deadS) (by decide) (by decide) (by decide)) (And.intro (fun p hp=>by first|(cases hp;done)|(rw[List.nil_append]at hp;rw[List.mem_singleton.1 hp];exact z0x (s:=sta0) (by decide) (by decide) (by decide))) (And.intro (fun jj u hj=>by first|(cases hj;done)|exact(z2h (a:=sta0) (b:=deadS) (by decide) hj).elim) (fun hno=>?_)));refine exI ?_;refine z29 (cA_ok e1 q1ok) (g:=0) kR [(2,false),(5,true),(6,true)] kR fun _ K8=>?_;refine gX0 ?_;refine aI (z0x (s:=sta0) (by decide) (by decide) (by decide)) (And.intro (fun p hp=>by first|(cases hp;done)|(rw[List.nil_append]at hp;rw[List.mem_singleton.1 hp];exact z0x (s:=deadS) (by decide) (by decide) (by decide))) (And.intro (fun jj u hj=>by first|(cases hj;done)|exact(z2h (a:=deadS) (b:=sta0) (by decide) hj).elim) (fun hno=>?_)));refine exI ?_
      iterate 2 refine z3l ?_
      refine d_n K8 ?_;refine z1y kR ?_
      have hcor:=z2c hr (.inr rfl)
      refine dnS [] id [(staV deadS,.c (.int .i64 1)),(staV sta0,.c (.int .i64 0))] (.inr rfl) [0,1,2] uRm_0 uRm_0 uRm_0 uRm_0
    ·refine z1m (cA_ok e1 q1ok) ?_
     refine aI (z0x (s:=deadS) (by decide) (by decide) (by decide)) (And.intro (fun p hp=>by first|(cases hp;done)|(rw[List.nil_append]at hp;rw[List.mem_singleton.1 hp];exact z0x (s:=sta0) (by decide) (by decide) (by decide))) (And.intro (fun jj u hj=>by first|(cases hj;done)|exact(z2h (a:=sta0) (b:=deadS) (by decide) hj).elim) (fun hno=>?_)));refine exI ?_;refine z29 (cA_ok e1 q1ok) (g:=0) kR [(1,true),(2,false),(5,true),(6,true)] kR fun _ K9=>?_;refine zdk ?_;refine exA (staV sta0) (SV.as_refl _) ?_;refine gX0 ?_;refine aI (z0x (s:=sta0) (by decide) (by decide) (by decide)) (And.intro (fun p hp=>by first|(cases hp;done)|(rw[List.nil_append]at hp;rw[List.mem_singleton.1 hp];exact z0x (s:=deadS) (by decide) (by decide) (by decide))) (And.intro (fun jj u hj=>by first|(cases hj;done)|exact(z2h (a:=deadS) (b:=sta0) (by decide) hj).elim) (fun hno=>?_)));refine exI ?_
     iterate 2 refine z3l ?_
     refine d_n K9 ?_;refine z1y kR ?_
     have hcor:=z2c hr (.inr rfl)
     refine dnS [] id [(staV deadS,.c (.int .i64 1)),(staV sta0,.c (.int .i64 0))] (.inr rfl) [0,1,2] uRm_0 uRm_0 uRm_0 uRm_0
  ·refine z14 (cA_ok e1 q1ok) ?_
   refine DRm_0 ?_;refine exA (staV sta0) (SV.as_refl _) ?_;refine z3u [0,3] kR (by decide) (List.forall_mem_cons.2 ⟨?_,List.forall_mem_cons.2 ⟨?_,fun _ h=>by cases h⟩⟩)
   ·refine z14 (cA_ok e1 q1ok) ?_
    refine DRm_0 ?_;refine exI ?_;refine z3u [2,3] kR (by decide) (List.forall_mem_cons.2 ⟨?_,List.forall_mem_cons.2 ⟨?_,fun _ h=>by cases h⟩⟩)
    ·refine z1m (cA_ok e1 q1ok) ?_
     refine aI (z0x (s:=sta0) (by decide) (by decide) (by decide)) (And.intro (fun p hp=>by first|(cases hp;done)|(rw[List.nil_append]at hp;rw[List.mem_singleton.1 hp];exact z0x (s:=deadS) (by decide) (by decide) (by decide))) (And.intro (fun jj u hj=>by first|(cases hj;done)|exact(z2h (a:=deadS) (b:=sta0) (by decide) hj).elim) (fun hno=>?_)));refine exI ?_;refine z29 (cA_ok e1 q1ok) (g:=0) kR [(3,true),(4,false),(5,true),(6,true)] kR fun _ K10=>?_;refine zdk ?_;refine exA (staV deadS) (SV.as_refl _) ?_;refine gX0 ?_;refine aI (z0x (s:=deadS) (by decide) (by decide) (by decide)) (And.intro (fun p hp=>by first|(cases hp;done)|(rw[List.nil_append]at hp;rw[List.mem_singleton.1 hp];exact z0x (s:=sta0) (by decide) (by decide) (by decide))) (And.intro (fun jj u hj=>by first|(cases hj;done)|exact(z2h (a:=sta0) (b:=deadS) (by decide) hj).elim) (fun hno=>?_)));refine exI ?_
     iterate 2 refine z3l ?_
     refine d_n K10 ?_;refine z1y kR ?_
     have hcor:=z2c hr (.inl rfl)
     refine dnS [] id [(staV sta0,.c (.int .i64 0)),(staV deadS,.c (.int .i64 1))] (.inl rfl) [0,1,2] uRm_0 uRm_0 uRm_0 uRm_0
    ·refine z14 (cA_ok e1 q1ok) ?_
     refine DRm_0 ?_;refine exA (staV deadS) (SV.as_refl _) ?_;refine z3u [2,4] kR (by decide) (List.forall_mem_cons.2 ⟨?_,List.forall_mem_cons.2 ⟨?_,fun _ h=>by cases h⟩⟩)
     ·refine z1m (cA_ok e1 q1ok) ?_
      refine aI (z0x (s:=sta0) (by decide) (by decide) (by decide)) (And.intro (fun p hp=>by first|(cases hp;done)|(rw[List.nil_append]at hp;rw[List.mem_singleton.1 hp];exact z0x (s:=deadS) (by decide) (by decide) (by decide))) (And.intro (fun jj u hj=>by first|(cases hj;done)|exact(z2h (a:=deadS) (b:=sta0) (by decide) hj).elim) (fun hno=>?_)));refine exI ?_;refine z29 (cA_ok e1 q1ok) (g:=0) kR [(4,false),(5,true),(6,true)] kR fun _ K11=>?_;refine gX0 ?_;refine aI (z0x (s:=deadS) (by decide) (by decide) (by decide)) (And.intro (fun p hp=>by first|(cases hp;done)|(rw[List.nil_append]at hp;rw[List.mem_singleton.1 hp];exact z0x (s:=sta0) (by decide) (by decide) (by decide))) (And.intro (fun jj u hj=>by first|(cases hj;done)|exact(z2h (a:=sta0) (b:=deadS) (by decide) hj).elim) (fun hno=>?_)));refine exI ?_
      iterate 2 refine z3l ?_
      refine d_n K11 ?_;refine z1y kR ?_
      have hcor:=z2c hr (.inl rfl)
      refine dnS [] id [(staV sta0,.c (.int .i64 0)),(staV deadS,.c (.int .i64 1))] (.inl rfl) [0,1,2] uRm_0 uRm_0 uRm_0 uRm_0
     ·refine z1m (cA_ok e1 q1ok) ?_
      refine aI (z0x (s:=deadS) (by decide) (by decide) (by decide)) (And.intro (fun p hp=>by first|(cases hp;done)|(rw[List.nil_append]at hp;rw[List.mem_singleton.1 hp];exact z0x (s:=sta0) (by decide) (by decide) (by decide))) (And.intro (fun jj u hj=>by first|(cases hj;done)|exact(z2h (a:=sta0) (b:=deadS) (by decide) hj).elim) (fun hno=>?_)));refine exI ?_;refine z29 (cA_ok e1 q1ok) (g:=0) kR [(2,false),(5,true),(6,true)] kR fun _ K12=>?_;refine gX0 ?_;refine aI (z0x (s:=sta0) (by decide) (by decide) (by decide)) (And.intro (fun p hp=>by first|(cases hp;done)|(rw[List.nil_append]at hp;rw[List.mem_singleton.1 hp];exact z0x (s:=deadS) (by decide) (by decide) (by decide))) (And.intro (fun jj u hj=>by first|(cases hj;done)|exact(z2h (a:=deadS) (b:=sta0) (by decide) hj).elim) (fun hno=>?_)));refine exI ?_
      iterate 2 refine z3l ?_
      refine d_n K12 ?_;refine z1y kR ?_
      have hcor:=z2c hr (.inr rfl)
      refine dnS [] id [(staV deadS,.c (.int .i64 1)),(staV sta0,.c (.int .i64 0))] (.inr rfl) [0,1,2] uRm_0 uRm_0 uRm_0 uRm_0
   ·refine z14 (cA_ok e1 q1ok) ?_
    refine DRm_0 ?_;refine exA (staV deadS) (SV.as_refl _) ?_;refine z29 (cA_ok e1 q1ok) (g:=4) kR [(0,false)] kR fun _ K13=>?_;refine zmx ?_;refine d_n K13 ?_;refine z3u [2,4] kR (by decide) (List.forall_mem_cons.2 ⟨?_,List.forall_mem_cons.2 ⟨?_,fun _ h=>by cases h⟩⟩)
    ·refine z1m (cA_ok e1 q1ok) ?_
     refine aI (z0x (s:=sta0) (by decide) (by decide) (by decide)) (And.intro (fun p hp=>by first|(cases hp;done)|(rw[List.nil_append]at hp;rw[List.mem_singleton.1 hp];exact z0x (s:=deadS) (by decide) (by decide) (by decide))) (And.intro (fun jj u hj=>by first|(cases hj;done)|exact(z2h (a:=deadS) (b:=sta0) (by decide) hj).elim) (fun hno=>?_)));refine exI ?_;refine z29 (cA_ok e1 q1ok) (g:=0) kR [(4,false),(5,true),(6,true)] kR fun _ K14=>?_;refine gX0 ?_;refine aI (z0x (s:=deadS) (by decide) (by decide) (by decide)) (And.intro (fun p hp=>by first|(cases hp;done)|(rw[List.nil_append]at hp;rw[List.mem_singleton.1 hp];exact z0x (s:=sta0) (by decide) (by decide) (by decide))) (And.intro (fun jj u hj=>by first|(cases hj;done)|exact(z2h (a:=sta0) (b:=deadS) (by decide) hj).elim) (fun hno=>?_)));refine exI ?_
     iterate 2 refine z3l ?_
     refine d_n K14 ?_;refine z1y kR ?_
     have hcor:=z2c hr (.inl rfl)
     refine dnS [] id [(staV sta0,.c (.int .i64 0)),(staV deadS,.c (.int .i64 1))] (.inl rfl) [0,1,2] uRm_0 uRm_0 uRm_0 uRm_0
    ·refine z1m (cA_ok e1 q1ok) ?_
     refine aI (z0x (s:=deadS) (by decide) (by decide) (by decide)) (And.intro (fun p hp=>by first|(cases hp;done)|(rw[List.nil_append]at hp;rw[List.mem_singleton.1 hp];exact z0x (s:=sta0) (by decide) (by decide) (by decide))) (And.intro (fun jj u hj=>by first|(cases hj;done)|exact(z2h (a:=sta0) (b:=deadS) (by decide) hj).elim) (fun hno=>?_)));refine exI ?_;refine z29 (cA_ok e1 q1ok) (g:=0) kR [(2,false),(5,true),(6,true)] kR fun _ K15=>?_;refine gX0 ?_;refine aI (z0x (s:=sta0) (by decide) (by decide) (by decide)) (And.intro (fun p hp=>by first|(cases hp;done)|(rw[List.nil_append]at hp;rw[List.mem_singleton.1 hp];exact z0x (s:=deadS) (by decide) (by decide) (by decide))) (And.intro (fun jj u hj=>by first|(cases hj;done)|exact(z2h (a:=deadS) (b:=sta0) (by decide) hj).elim) (fun hno=>?_)));refine exI ?_
     iterate 2 refine z3l ?_
     refine d_n K15 ?_;refine z1y kR ?_
     have hcor:=z2c hr (.inr rfl)
     refine dnS [] id [(staV deadS,.c (.int .i64 1)),(staV sta0,.c (.int .i64 0))] (.inr rfl) [0,1,2] uRm_0 uRm_0 uRm_0 uRm_0
  ·refine z14 (cA_ok e1 q1ok) ?_
   refine DRm_0 ?_;refine exA (staV deadS) (SV.as_refl _) ?_;refine z3u [0,1] kR (by decide) (List.forall_mem_cons.2 ⟨?_,List.forall_mem_cons.2 ⟨?_,fun _ h=>by cases h⟩⟩)
   ·refine z14 (cA_ok e1 q1ok) ?_
    refine DRm_0 ?_;refine exI ?_;refine z3u [1,4] kR (by decide) (List.forall_mem_cons.2 ⟨?_,List.forall_mem_cons.2 ⟨?_,fun _ h=>by cases h⟩⟩)
    ·refine z14 (cA_ok e1 q1ok) ?_
     refine DRm_0 ?_;refine exA (staV sta0) (SV.as_refl _) ?_;refine z3u [2,4] kR (by decide) (List.forall_mem_cons.2 ⟨?_,List.forall_mem_cons.2 ⟨?_,fun _ h=>by cases h⟩⟩)
     ·refine z1m (cA_ok e1 q1ok) ?_
      refine aI (z0x (s:=sta0) (by decide) (by decide) (by decide)) (And.intro (fun p hp=>by first|(cases hp;done)|(rw[List.nil_append]at hp;rw[List.mem_singleton.1 hp];exact z0x (s:=deadS) (by decide) (by decide) (by decide))) (And.intro (fun jj u hj=>by first|(cases hj;done)|exact(z2h (a:=deadS) (b:=sta0) (by decide) hj).elim) (fun hno=>?_)));refine exI ?_;refine z29 (cA_ok e1 q1ok) (g:=0) kR [(4,false),(5,true),(6,true)] kR fun _ K16=>?_;refine gX0 ?_;refine aI (z0x (s:=deadS) (by decide) (by decide) (by decide)) (And.intro (fun p hp=>by first|(cases hp;done)|(rw[List.nil_append]at hp;rw[List.mem_singleton.1 hp];exact z0x (s:=sta0) (by decide) (by decide) (by decide))) (And.intro (fun jj u hj=>by first|(cases hj;done)|exact(z2h (a:=sta0) (b:=deadS) (by decide) hj).elim) (fun hno=>?_)));refine exI ?_
      iterate 2 refine z3l ?_
      refine d_n K16 ?_;refine z1y kR ?_
      have hcor:=z2c hr (.inl rfl)
      refine dnS [] id [(staV sta0,.c (.int .i64 0)),(staV deadS,.c (.int .i64 1))] (.inl rfl) [0,1,2] uRm_0 uRm_0 uRm_0 uRm_0
     ·refine z1m (cA_ok e1 q1ok) ?_
      refine aI (z0x (s:=deadS) (by decide) (by decide) (by decide)) (And.intro (fun p hp=>by first|(cases hp;done)|(rw[List.nil_append]at hp;rw[List.mem_singleton.1 hp];exact z0x (s:=sta0) (by decide) (by decide) (by decide))) (And.intro (fun jj u hj=>by first|(cases hj;done)|exact(z2h (a:=sta0) (b:=deadS) (by decide) hj).elim) (fun hno=>?_)));refine exI ?_;refine z29 (cA_ok e1 q1ok) (g:=0) kR [(2,false),(5,true),(6,true)] kR fun _ K17=>?_;refine gX0 ?_;refine aI (z0x (s:=sta0) (by decide) (by decide) (by decide)) (And.intro (fun p hp=>by first|(cases hp;done)|(rw[List.nil_append]at hp;rw[List.mem_singleton.1 hp];exact z0x (s:=deadS) (by decide) (by decide) (by decide))) (And.intro (fun jj u hj=>by first|(cases hj;done)|exact(z2h (a:=deadS) (b:=sta0) (by decide) hj).elim) (fun hno=>?_)));refine exI ?_
      iterate 2 refine z3l ?_
      refine d_n K17 ?_;refine z1y kR ?_
      have hcor:=z2c hr (.inr rfl)
      refine dnS [] id [(staV deadS,.c (.int .i64 1)),(staV sta0,.c (.int .i64 0))] (.inr rfl) [0,1,2] uRm_0 uRm_0 uRm_0 uRm_0
    ·refine z1m (cA_ok e1 q1ok) ?_
     refine aI (z0x (s:=deadS) (by decide) (by decide) (by decide)) (And.intro (fun p hp=>by first|(cases hp;done)|(rw[List.nil_append]at hp;rw[List.mem_singleton.1 hp];exact z0x (s:=sta0) (by decide) (by decide) (by decide))) (And.intro (fun jj u hj=>by first|(cases hj;done)|exact(z2h (a:=sta0) (b:=deadS) (by decide) hj).elim) (fun hno=>?_)));refine exI ?_;refine z29 (cA_ok e1 q1ok) (g:=0) kR [(1,true),(2,false),(5,true),(6,true)] kR fun _ K18=>?_;refine zdk ?_;refine exA (staV sta0) (SV.as_refl _) ?_;refine gX0 ?_;refine aI (z0x (s:=sta0) (by decide) (by decide) (by decide)) (And.intro (fun p hp=>by first|(cases hp;done)|(rw[List.nil_append]at hp;rw[List.mem_singleton.1 hp];exact z0x (s:=deadS) (by decide) (by decide) (by decide))) (And.intro (fun jj u hj=>by first|(cases hj;done)|exact(z2h (a:=deadS) (b:=sta0) (by decide) hj).elim) (fun hno=>?_)));refine exI ?_
     iterate 2 refine z3l ?_
     refine d_n K18 ?_;refine z1y kR ?_
     have hcor:=z2c hr (.inr rfl)
     refine dnS [] id [(staV deadS,.c (.int .i64 1)),(staV sta0,.c (.int .i64 0))] (.inr rfl) [0,1,2] uRm_0 uRm_0 uRm_0 uRm_0
   ·refine z14 (cA_ok e1 q1ok) ?_
    refine DRm_0 ?_;refine exA (staV sta0) (SV.as_refl _) ?_;refine z29 (cA_ok e1 q1ok) (g:=4) kR [(0,false)] kR fun _ K19=>?_;refine zmx ?_;refine d_n K19 ?_;refine z3u [2,4] kR (by decide) (List.forall_mem_cons.2 ⟨?_,List.forall_mem_cons.2 ⟨?_,fun _ h=>by cases h⟩⟩)
    ·refine z1m (cA_ok e1 q1ok) ?_
     refine aI (z0x (s:=sta0) (by decide) (by decide) (by decide)) (And.intro (fun p hp=>by first|(cases hp;done)|(rw[List.nil_append]at hp;rw[List.mem_singleton.1 hp];exact z0x (s:=deadS) (by decide) (by decide) (by decide))) (And.intro (fun jj u hj=>by first|(cases hj;done)|exact(z2h (a:=deadS) (b:=sta0) (by decide) hj).elim) (fun hno=>?_)));refine exI ?_;refine z29 (cA_ok e1 q1ok) (g:=0) kR [(4,false),(5,true),(6,true)] kR fun _ K20=>?_;refine gX0 ?_;refine aI (z0x (s:=deadS) (by decide) (by decide) (by decide)) (And.intro (fun p hp=>by first|(cases hp;done)|(rw[List.nil_append]at hp;rw[List.mem_singleton.1 hp];exact z0x (s:=sta0) (by decide) (by decide) (by decide))) (And.intro (fun jj u hj=>by first|(cases hj;done)|exact(z2h (a:=sta0) (b:=deadS) (by decide) hj).elim) (fun hno=>?_)));refine exI ?_
     iterate 2 refine z3l ?_
     refine d_n K20 ?_;refine z1y kR ?_
     have hcor:=z2c hr (.inl rfl)
     refine dnS [] id [(staV sta0,.c (.int .i64 0)),(staV deadS,.c (.int .i64 1))] (.inl rfl) [0,1,2] uRm_0 uRm_0 uRm_0 uRm_0
    ·refine z1m (cA_ok e1 q1ok) ?_
     refine aI (z0x (s:=deadS) (by decide) (by decide) (by decide)) (And.intro (fun p hp=>by first|(cases hp;done)|(rw[List.nil_append]at hp;rw[List.mem_singleton.1 hp];exact z0x (s:=sta0) (by decide) (by decide) (by decide))) (And.intro (fun jj u hj=>by first|(cases hj;done)|exact(z2h (a:=sta0) (b:=deadS) (by decide) hj).elim) (fun hno=>?_)));refine exI ?_;refine z29 (cA_ok e1 q1ok) (g:=0) kR [(2,false),(5,true),(6,true)] kR fun _ K21=>?_;refine gX0 ?_;refine aI (z0x (s:=sta0) (by decide) (by decide) (by decide)) (And.intro (fun p hp=>by first|(cases hp;done)|(rw[List.nil_append]at hp;rw[List.mem_singleton.1 hp];exact z0x (s:=deadS) (by decide) (by decide) (by decide))) (And.intro (fun jj u hj=>by first|(cases hj;done)|exact(z2h (a:=deadS) (b:=sta0) (by decide) hj).elim) (fun hno=>?_)));refine exI ?_
     iterate 2 refine z3l ?_
     refine d_n K21 ?_;refine z1y kR ?_
     have hcor:=z2c hr (.inr rfl)
     refine dnS [] id [(staV deadS,.c (.int .i64 1)),(staV sta0,.c (.int .i64 0))] (.inr rfl) [0,1,2] uRm_0 uRm_0 uRm_0 uRm_0
 ·intro m hm
  refine srR (cA_ok e1 q1ok) fun _ K23=>?_;refine z4s ?_;refine exA (staV sta0) (SV.as_refl _) ?_;refine z4s ?_;refine exA (staV deadS) (SV.as_refl _) ?_
  iterate 2 refine z21 ?_
  refine s_n K23 ?_;refine seq_k fun _ K24=>?_;refine srR (cA_ok e1 q1ok) fun _ K26=>?_;refine z21 ?_;refine s_n K26 ?_;refine z03 ?_;refine z5g 0 1 51 (.cells []) rfl rfl rfl low_nil' ?_;refine z5g 0 2 4 (.bools []) rfl rfl rfl trivial ?_;refine z0m (α:=Asm) (fun s=>[(2,.c (.clo f1 c1)),(3,.c (.dp (rulC r) 0)),(4,.c (.ptr 0 0)),(6,.c (.ptr 1 0)),(8,.c (.map 2)),(9,.c (.slice 3 0 s.o.length s.cl)),(10,.c (.int .i64 (s.rs.length:Nat)))]) (fun s=>[(0,.own 30 (.cells [.ds (nB r+1) (.u64s cls),.slice 4 0 s.rs.length s.cn,.slice 5 0 s.rs.length s.ca]) 3),(1,.own 30 (.cells [.nils,.nils,.nils]) 3),(2,.mp 188 s.m),(3,.own 130 (.cells (z13 enc9 s.o)) (s.cl*4)),(4,.own 51 (.cells (rowsC s.rs)) s.cn),(5,.own 4 (.bools s.bs) s.ca)]) 6 (fun s=>CorOK r s.o s.m∧RwOK r P (kyL r s.o) s.rs s.bs∧s.o.length≤s.cl∧s.rs.length≤s.cn∧s.rs.length≤s.ca) (fun s=>411 - s.rs.length) ?_ ?_
  ·have hcor:=z2c hr hm
   refine dnS [] id ⟨[sta0,deadS],m,2,[],[],0,0⟩ ⟨hcor,rw_zero,Nat.le_refl _,Nat.le_refl _,Nat.le_refl _⟩ [0,1,2,3,4,5] uRm_0 uRm_0 uRm_0 uRm_0
  ·intro s hs
   obtain⟨hcor,hrw,hs1,hs2,hs3⟩:=hs
   have hol:=zdi hr hcor
   have hkl:(kyL r s.o).length=s.o.length:=List.length_map _
   have hrl:=hrw.rl
   have hal:=hrw.al
   refine seq_k fun _ K27=>?_;refine srR (cA_ok e1 q1ok) fun _ K29=>?_
   iterate 4 refine z21 ?_
   refine s_n K29 ?_;refine z04 (b:=_) rfl (fun h_t28=>?_) (fun h_t28=>?_)
   ·try simp only[dQ,reduceIte]at h_t28
    refine z09 ?_;apply K27;refine seq_k fun _ K30=>?_;refine z03 ?_
    have hin1:s.rs.length< s.o.length:=by omega
    obtain⟨x,hx⟩:∃ x,s.o[s.rs.length]? =some x:=⟨_,List.getElem?_eq_getElem hin1⟩;refine srR (cA_ok e1 q1ok) fun _ K32=>?_;refine z21 ?_;refine z4s ?_;refine exA (.c (.int .i64 (((nB r:Nat):Int)))) (as_i (hB.1.symm)) ?_;refine z4s ?_;refine exA (.c (.int .i64 (((nB r+1:Nat):Int)))) (as_i (by first|rfl|omega)) ?_
    iterate 2 refine z21 ?_
    refine s_n K32 ?_;refine seq_k fun _ K33=>?_;refine srR (cA_ok e1 q1ok) fun _ K35=>?_
    iterate 3 refine z21 ?_
    refine s_n K35 ?_;refine z03 ?_;refine z0m (α:=Nat) (fun v=>[(2,.c (.clo f1 c1)),(3,.c (.dp (rulC r) 0)),(4,.c (.ptr 0 0)),(6,.c (.ptr 1 0)),(8,.c (.map 2)),(9,.c (.slice 3 0 s.o.length s.cl)),(10,.c (.int .i64 (s.rs.length:Nat))),(11,.c (.slice 6 0 (nB r+1) (nB r+1))),(36,.c (.int .i64 ((nB r+1):Nat))),(37,.c (.int .i64 (v:Nat)))]) (fun v=>[(0,.own 30 (.cells [.ds (nB r+1) (.u64s cls),.slice 4 0 s.rs.length s.cn,.slice 5 0 s.rs.length s.ca]) 3),(1,.own 30 (.cells [.nils,.nils,.nils]) 3),(2,.mp 188 s.m),(3,.own 130 (.cells (z13 enc9 s.o)) (s.cl*4)),(4,.own 51 (.cells (rowsC s.rs)) s.cn),(5,.own 4 (.bools s.bs) s.ca),(6,.own 3 (.ints .i64 (fillT (List.replicate (nB r+1) (1:Int)) 0 v)) (nB r+1))]) 7 (fun v=>v≤nB r+1) (fun v=>nB r+1 - v) ?_ ?_
    ·have hX1:List.replicate (nB r+1) (0:Int)=fillT (List.replicate (nB r+1) (1:Int)) 0 0:=by rw[zd5,List.length_replicate]
     refine dnS [] id 0 (Nat.zero_le _) [0,1,2,3,4,5,6] uRm_0 uRm_0 uRm_0 uRm_0
    ·intro v hv
     refine srR (cA_ok e1 q1ok) fun _ K37=>?_;refine z21 ?_;refine s_n K37 ?_;refine seq_k fun _ K38=>?_;refine z04 (b:=_) rfl (fun h_t38=>?_) (fun h_t38=>?_)
     ·try simp only[dQ,reduceIte]at h_t38
      refine z09 ?_;apply K38;refine seq_k fun _ K39=>?_;refine z03 ?_;refine srR (cA_ok e1 q1ok) fun _ K41=>?_
      iterate 2 refine z21 ?_
      refine s_n K41 ?_;refine z01 (cA_ok e1 q1ok) fun _ K42=>?_
      iterate 3 refine z21 ?_
      refine zdj ?_;refine s_n K42 ?_;refine z05 ?_;apply K39;refine z01 (cA_ok e1 q1ok) fun _ K43=>?_
      iterate 2 refine z21 ?_
      refine s_n K43 ?_
      have hX1:(fillT (List.replicate (nB r+1) (1:Int)) 0 v).set (0+((v:Nat):Int).toNat*1) 1=fillT (List.replicate (nB r+1) (1:Int)) 0 (v+1):=by rw[show 0+((v:Nat):Int).toNat*1=v by omega];exact fill_one (by omega)
      refine dnS [] id (v+1) ⟨by omega,by omega⟩ [0,1,2,3,4,5,6] uRm_0 uRm_0 uRm_0 uRm_0
     ·try simp only[dQ,reduceIte]at h_t38
      refine z0i ?_;refine z00 ?_;refine z00 ?_;refine z0f ?_;apply K33;refine z27 (α:=Asv) (fun q=>[(2,.c (.clo f1 c1)),(3,.c (.dp (rulC r) 0)),(4,.c (.ptr 0 0)),(6,.c (.ptr 1 0)),(8,.c (.map 2)),(9,.c (.slice 3 0 q.o.length q.cl)),(10,.c (.int .i64 (s.rs.length:Nat))),(11,.c (.slice 6 0 (nB r+1) (nB r+1)))]) (fun q=>[(0,.own 30 (.cells [.ds (nB r+1) (.u64s cls),.slice 4 0 s.rs.length s.cn,.slice 5 0 s.rs.length s.ca]) 3),(1,.own 30 (.cells [.nils,.nils,.nils]) 3),(2,.mp 188 q.m),(3,.own 130 (.cells (z13 enc9 q.o)) (q.cl*4)),(4,.own 51 (.cells (rowsC s.rs)) s.cn),(5,.own 4 (.bools s.bs) s.ca),(6,.own 3 (.ints .i64 q.row) (nB r+1))]) 7 (fun q=>CorOK r q.o q.m∧RwOK r P (kyL r q.o) s.rs s.bs∧q.o.length≤q.cl∧q.o[s.rs.length]? =some x∧RowOK r (kyL r q.o) (kyX r x) (nB r) q.row) ?_ ?_
      ·obtain rfl:v=nB r+1:=by omega
       have hX9:fillT (List.replicate (nB r+1) (1:Int)) 0 (nB r+1)=(List.replicate (nB r+1) (1:Int)):=zg7 _ _ (by rw[List.length_replicate];exact Nat.le_refl _)
       rw[hX9];refine srR (cA_ok e1 q1ok) fun _ K45=>?_;refine z21 ?_;refine s_n K45 ?_;refine z03 ?_;refine z0m (α:=Asv) (fun g=>[(2,.c (.clo f1 c1)),(3,.c (.dp (rulC r) 0)),(4,.c (.ptr 0 0)),(6,.c (.ptr 1 0)),(8,.c (.map 2)),(9,.c (.slice 3 0 g.o.length g.cl)),(10,.c (.int .i64 (s.rs.length:Nat))),(11,.c (.slice 6 0 (nB r+1) (nB r+1))),(13,.c (.int .i64 (g.v:Nat)))]) (fun g=>[(0,.own 30 (.cells [.ds (nB r+1) (.u64s cls),.slice 4 0 s.rs.length s.cn,.slice 5 0 s.rs.length s.ca]) 3),(1,.own 30 (.cells [.nils,.nils,.nils]) 3),(2,.mp 188 g.m),(3,.own 130 (.cells (z13 enc9 g.o)) (g.cl*4)),(4,.own 51 (.cells (rowsC s.rs)) s.cn),(5,.own 4 (.bools s.bs) s.ca),(6,.own 3 (.ints .i64 g.row) (nB r+1))]) 7 (fun g=>CorOK r g.o g.m∧RwOK r P (kyL r g.o) s.rs s.bs∧g.o.length≤g.cl∧g.o[s.rs.length]? =some x∧RowOK r (kyL r g.o) (kyX r x) g.v g.row∧g.v≤nB r) (fun g=>nB r - g.v) ?_ ?_
       ·refine dnS [] id ⟨s.o,s.m,s.cl,0,(List.replicate (nB r+1) (1:Int))⟩ ⟨hcor,hrw,hs1,hx,zto hcor.gr,Nat.zero_le _⟩ [0,1,2,3,4,5,6] uRm_0 uRm_0 uRm_0 uRm_0
       ·intro g hg
        obtain⟨gc,gw,g1,gx,gR,gv⟩:=hg
        have gol:=zdi hr gc
        have grl:=gR.1
        refine seq_k fun _ K46=>?_;refine srR (cA_ok e1 q1ok) fun _ K48=>?_
        iterate 2 refine z21 ?_
        refine z4s ?_;refine exB (fun hb2=>?_) (fun hb2=>?_)
        ·try simp only[dQ,reduceIte]at hb2
         iterate 2 refine zyh ?_
         refine zyi ?_;refine exA (.c (.int .i64 (((nB r:Nat):Int)))) (as_i (hB.1.symm)) ?_;refine zyh ?_;refine z21 ?_;refine s_n K48 ?_;refine z04 (b:=_) rfl (fun h_t51=>?_) (fun h_t51=>?_)
         ·try simp only[dQ,reduceIte]at h_t51
          refine z09 ?_;apply K46;refine seq_k fun _ K49=>?_;refine z03 ?_;refine z27 (α:=Unit) (fun u=>[(2,.c (.clo f1 c1)),(3,.c (.dp (rulC r) 0)),(4,.c (.ptr 0 0)),(6,.c (.ptr 1 0)),(8,.c (.map 2)),(9,.c (.slice 3 0 g.o.length g.cl)),(10,.c (.int .i64 (s.rs.length:Nat))),(11,.c (.slice 6 0 (nB r+1) (nB r+1))),(13,.c (.int .i64 (g.v:Nat))),(14,.c (.ptr 7 0))]) (fun u=>[(0,.own 30 (.cells [.ds (nB r+1) (.u64s cls),.slice 4 0 s.rs.length s.cn,.slice 5 0 s.rs.length s.ca]) 3),(1,.own 30 (.cells [.nils,.nils,.nils]) 3),(2,.mp 188 g.m),(3,.own 130 (.cells (z13 enc9 g.o)) (g.cl*4)),(4,.own 51 (.cells (rowsC s.rs)) s.cn),(5,.own 4 (.bools s.bs) s.ca),(6,.own 3 (.ints .i64 g.row) (nB r+1)),(7,.own 130 (staC (z0w r x (g.v:Nat))) 4)]) 8 (fun u=>True) ?_ ?_
          ·have hi1:s.rs.length≠1:=by omega
           have hvb:g.v< nB r:=by omega
           have gil:=(List.getElem?_eq_some_iff.1 gx).1
           obtain⟨gx1,gy,gxk,gst,gky,gok⟩:=zrr hr gc gx hi1 hvb;refine zl9 (cA_ok e1 q1ok) ?_;refine z29 (cA_ok e1 q1ok) (g:=3) kR [(0,true),(1,true),(2,true),(3,true),(4,true),(5,true)] kR fun _ K51=>?_
           iterate 4 refine z3l ?_
           refine zdk ?_;refine exA (staV x) (zbf rec9 (fun _ _=>trivial) (by omega) rfl gx) ?_;refine z3l ?_;refine d_n K51 ?_;refine z3u [6,7] kR (by decide) (List.forall_mem_cons.2 ⟨?_,List.forall_mem_cons.2 ⟨?_,fun _ h=>by cases h⟩⟩)
           ·refine z14 (cA_ok e1 q1ok) ?_
            refine DRm_0 ?_;refine⟨r,x,((g.v:Nat):Int),rfl,⟨hr,gx1.ok,by omega,by omega⟩,?_⟩;refine DRm_0 ?_
            first|refine exI ?_|(intro cap6 hcap6;refine exI ?_)
            refine z29 (cA_ok e1 q1ok) (g:=0) kR [(7,false),(8,false)] kR fun _ K52=>?_;refine zmx ?_;refine zk3 ?_;refine d_n K52 ?_;refine z1y kR ?_;refine dnS [] id () trivial [0,1,2,3,4,5,6,7] uRm_0 uRm_0 uRm_0 uRm_0
           ·refine z14 (cA_ok e1 q1ok) ?_
            refine DRm_0 ?_;refine exI ?_;refine z29 (cA_ok e1 q1ok) (g:=0) kR [(6,false),(8,false)] kR fun _ K53=>?_;refine zk4 ?_;refine⟨r,x,((g.v:Nat):Int),rfl,⟨hr,gx1.ok,by omega,by omega⟩,?_⟩;refine DRm_0 ?_
            first|refine exI ?_|(intro cap6 hcap6;refine exI ?_)
            refine zk3 ?_;refine d_n K53 ?_;refine z1y kR ?_;refine dnS [] id () trivial [0,1,2,3,4,5,6,7] uRm_0 uRm_0 uRm_0 uRm_0
          ·intro u hu
           clear hu
           have hi1:s.rs.length≠1:=by omega
           have hvb:g.v< nB r:=by omega
           have gil:=(List.getElem?_eq_some_iff.1 gx).1
           obtain⟨gx1,gy,gxk,gst,gky,gok⟩:=zrr hr gc gx hi1 hvb;refine srR (cA_ok e1 q1ok) fun _ K55=>?_;refine z21 ?_;refine z4s ?_;refine exA (staV (z0w r x (g.v:Nat))) (SV.as_refl _) ?_;refine z4s ?_;refine⟨r,(z0w r x (g.v:Nat)),rfl,?_⟩;refine DRm_0 ?_
           first|refine exI ?_|(intro cap2 hcap2;refine exI ?_)
           refine z21 ?_;refine zdj ?_;refine s_n K55 ?_;rw[gky];refine srR (cA_ok e1 q1ok) fun _ K57=>?_;refine z21 ?_;refine z4s ?_;refine exA (staV (encK9 (kyOf r (z0w r x (g.v:Nat))))) (SV.as_refl _) ?_;refine z4s ?_;refine aI (zyb hr gok) (And.intro (zrq hr gc) (And.intro (fun jj v hj=>?_) (fun hno=>?_)))
           ·obtain⟨jk,hjk,rfl⟩:=zyd gc gok hj
            refine exI ?_
            iterate 5 refine z21 ?_
            refine s_n K57 ?_;refine z27 (α:=Asv×Nat) (fun q=>[(2,.c (.clo f1 c1)),(3,.c (.dp (rulC r) 0)),(4,.c (.ptr 0 0)),(6,.c (.ptr 1 0)),(8,.c (.map 2)),(9,.c (.slice 3 0 q.1.o.length q.1.cl)),(10,.c (.int .i64 (s.rs.length:Nat))),(11,.c (.slice 6 0 (nB r+1) (nB r+1))),(13,.c (.int .i64 (g.v:Nat))),(16,.c (.int .i64 (q.2:Nat)))]) (fun q=>[(0,.own 30 (.cells [.ds (nB r+1) (.u64s cls),.slice 4 0 s.rs.length s.cn,.slice 5 0 s.rs.length s.ca]) 3),(1,.own 30 (.cells [.nils,.nils,.nils]) 3),(2,.mp 188 q.1.m),(3,.own 130 (.cells (z13 enc9 q.1.o)) (q.1.cl*4)),(4,.own 51 (.cells (rowsC s.rs)) s.cn),(5,.own 4 (.bools s.bs) s.ca),(6,.own 3 (.ints .i64 g.row) (nB r+1))]) 7 (fun q=>CorOK r q.1.o q.1.m∧RwOK r P (kyL r q.1.o) s.rs s.bs∧q.1.o.length≤q.1.cl∧q.1.o[s.rs.length]? =some x∧RowOK r (kyL r q.1.o) (kyX r x) g.v g.row∧(kyL r q.1.o)[q.2]? =some (stepK r (kyX r x) (g.v:Nat))) ?_ ?_
            ·refine srR (cA_ok e1 q1ok) fun _ K59=>?_
             iterate 2 refine z21 ?_
             refine s_n K59 ?_;refine z04 (b:=_) rfl (fun h_t71=>?_) (fun _=>?_)
             ·exfalso;cases h_t71
             refine z09 ?_;refine dnS [] id (⟨g.o,g.m,g.cl,g.v,g.row⟩,jk) ⟨gc,gw,g1,gx,gR,by rw[←gst];exact hjk⟩ [0,1,2,3,4,5,6] ?_ ?_ ?_ ?_
             ·exact uRm_0
             ·exact uRm_0
             ·exact uRm_0
             ·exact uRm_0
            ·intro q hq
             obtain⟨qc,qw,q1,qx,qR,qj⟩:=hq
             have qol:=zdi hr qc
             have qrl:=qR.1
             refine z01 (cA_ok e1 q1ok) fun _ K60=>?_
             iterate 4 refine z21 ?_
             refine zdj ?_;refine s_n K60 ?_;refine z05 ?_;apply K49;refine z01 (cA_ok e1 q1ok) fun _ K61=>?_
             iterate 3 refine z21 ?_
             refine s_n K61 ?_
             have hX1:g.row.set (0+((g.v:Nat):Int).toNat*1) ((q.2:Nat):Int)=g.row.set g.v ((q.2:Nat):Int):=by rw[show 0+((g.v:Nat):Int).toNat*1=g.v by omega]
             refine dnS [] id ⟨q.1.o,q.1.m,q.1.cl,g.v+1,g.row.set g.v ((q.2:Nat):Int)⟩ ⟨⟨qc,qw,q1,qx,zmp qR hvb qj,(by show g.v+1≤_;omega)⟩,(by show _ - (g.v+1)< _;omega)⟩ [0,1,2,3,4,5,6] ?_ ?_ ?_ ?_
             ·exact uRm_0
             ·exact uRm_0
             ·exact uRm_0
             ·exact uRm_0
           ·have hkno:=cor_no gc hno
            refine exI ?_
            iterate 5 refine z21 ?_
            refine s_n K57 ?_;refine z27 (α:=Asv×Nat) (fun q=>[(2,.c (.clo f1 c1)),(3,.c (.dp (rulC r) 0)),(4,.c (.ptr 0 0)),(6,.c (.ptr 1 0)),(8,.c (.map 2)),(9,.c (.slice 3 0 q.1.o.length q.1.cl)),(10,.c (.int .i64 (s.rs.length:Nat))),(11,.c (.slice 6 0 (nB r+1) (nB r+1))),(13,.c (.int .i64 (g.v:Nat))),(16,.c (.int .i64 (q.2:Nat)))]) (fun q=>[(0,.own 30 (.cells [.ds (nB r+1) (.u64s cls),.slice 4 0 s.rs.length s.cn,.slice 5 0 s.rs.length s.ca]) 3),(1,.own 30 (.cells [.nils,.nils,.nils]) 3),(2,.mp 188 q.1.m),(3,.own 130 (.cells (z13 enc9 q.1.o)) (q.1.cl*4)),(4,.own 51 (.cells (rowsC s.rs)) s.cn),(5,.own 4 (.bools s.bs) s.ca),(6,.own 3 (.ints .i64 g.row) (nB r+1))]) 7 (fun q=>CorOK r q.1.o q.1.m∧RwOK r P (kyL r q.1.o) s.rs s.bs∧q.1.o.length≤q.1.cl∧q.1.o[s.rs.length]? =some x∧RowOK r (kyL r q.1.o) (kyX r x) g.v g.row∧(kyL r q.1.o)[q.2]? =some (stepK r (kyX r x) (g.v:Nat))) ?_ ?_
            ·refine srR (cA_ok e1 q1ok) fun _ K63=>?_
             iterate 2 refine z21 ?_
             refine s_n K63 ?_;refine z04 (b:=_) rfl (fun _=>?_) (fun h_t71=>?_)
             rotate_left 1
             ·exfalso;cases h_t71
             refine srR (cA_ok e1 q1ok) fun _ K65=>?_
             iterate 3 refine z21 ?_
             refine s_n K65 ?_;refine srR (cA_ok e1 q1ok) fun _ K67=>?_;refine z21 ?_;refine z4s ?_;refine exA (staV (encK9 (kyOf r (z0w r x (g.v:Nat))))) (SV.as_refl _) ?_;refine z21 ?_;refine sX0 ?_;refine aI (zyb hr gok) (And.intro (zrq hr gc) (And.intro (fun jj u hj=>absurd (zyd gc gok hj) (fun⟨i9,h9,_⟩=>hkno (List.mem_of_getElem? h9))) (fun hno2=>?_)));refine exI ?_;refine s_n K67 ?_;refine z01 (cA_ok e1 q1ok) fun _ K68=>?_;refine z21 ?_;refine z4s ?_;refine exA (staV (z0w r x (g.v:Nat))) (SV.as_refl _) ?_;refine z21 ?_;refine z4s ?_;intro cap3 hcap3;refine exI ?_;refine z21 ?_;refine s_n K68 ?_;obtain⟨gc2,ge⟩:=cor_more hr gc gy hkno
             have hXS:z13 enc9 g.o++enc9 (z0w r x (g.v:Nat))=z13 enc9 (g.o++[(z0w r x (g.v:Nat))]):=(zlf _ _).symm
             have hL0:g.o.length+1=(g.o++[(z0w r x (g.v:Nat))]).length:=by rw[List.length_append];rfl
             have gkl:(kyL r g.o).length=g.o.length:=List.length_map _
             refine dnS [] (fun i=>if i=3 then 10 else i) (⟨g.o++[(z0w r x (g.v:Nat))],g.m++[(staV (encK9 (kyOf r (z0w r x (g.v:Nat)))),.c (.int .i64 ((g.o.length:Nat):Int)))],cap3,g.v,g.row⟩,g.o.length) ⟨gc2,by rw[ge];exact rw_app gw _,(by show(g.o++[_]).length≤cap3;omega),(by show(g.o++[_])[s.rs.length]? =some x;rw[List.getElem?_append_left gil];exact gx),by rw[ge];exact zmo gR _,by rw[ge];show(kyL r g.o++[_])[g.o.length]? =_;rw[List.getElem?_append_right (by omega),gkl,Nat.sub_self, ←gst];rfl⟩ [0,1,2,10,4,5,6] ?_ ?_ ?_ ?_
             ·exact uRm_0
             ·exact uRm_0
             ·exact uRm_0
             ·exact uRm_0
            ·intro q hq
             obtain⟨qc,qw,q1,qx,qR,qj⟩:=hq
             have qol:=zdi hr qc
             have qrl:=qR.1
             refine z01 (cA_ok e1 q1ok) fun _ K69=>?_
             iterate 4 refine z21 ?_
             refine zdj ?_;refine s_n K69 ?_;refine z05 ?_;apply K49;refine z01 (cA_ok e1 q1ok) fun _ K70=>?_
             iterate 3 refine z21 ?_
             refine s_n K70 ?_
             have hX1:g.row.set (0+((g.v:Nat):Int).toNat*1) ((q.2:Nat):Int)=g.row.set g.v ((q.2:Nat):Int):=by rw[show 0+((g.v:Nat):Int).toNat*1=g.v by omega]
             refine dnS [] id ⟨q.1.o,q.1.m,q.1.cl,g.v+1,g.row.set g.v ((q.2:Nat):Int)⟩ ⟨⟨qc,qw,q1,qx,zmp qR hvb qj,(by show g.v+1≤_;omega)⟩,(by show _ - (g.v+1)< _;omega)⟩ [0,1,2,3,4,5,6] ?_ ?_ ?_ ?_
             ·exact uRm_0
             ·exact uRm_0
             ·exact uRm_0
             ·exact uRm_0
         ·try simp only[dQ,reduceIte]at h_t51
          refine z0i ?_;refine z00 ?_;refine z00 ?_;refine z0f ?_;refine dnS [] id ⟨g.o,g.m,g.cl,g.v,g.row⟩ ⟨gc,gw,g1,gx,zyf hr gc gx gR (by first|exact .inl (by omega)|exact .inr (by omega))⟩ [0,1,2,3,4,5,6] uRm_0 uRm_0 uRm_0 uRm_0
        ·try simp only[dQ,reduceIte]at hb2
         iterate 4 refine sN ?_
         refine z21 ?_;refine s_n K48 ?_;refine z04 (b:=_) rfl (fun h_t51=>?_) (fun _=>?_)
         ·exfalso;simp at h_t51
         refine z0i ?_;refine z00 ?_;refine z00 ?_;refine z0f ?_;refine dnS [] id ⟨g.o,g.m,g.cl,g.v,g.row⟩ ⟨gc,gw,g1,gx,zyf hr gc gx gR (by first|exact .inl (by omega)|exact .inr (by omega))⟩ [0,1,2,3,4,5,6] uRm_0 uRm_0 uRm_0 uRm_0
      ·intro q hq
       obtain⟨qc,qw,q1,qx,qR⟩:=hq
       have qol:=zdi hr qc
       have qrl:=qR.1
       have qil:=(List.getElem?_eq_some_iff.1 qx).1
       have hal:=qw.al
       refine leW [6] id [(2,.c (.clo f1 c1)),(3,.c (.dp (rulC r) 0)),(4,.c (.ptr 0 0)),(6,.c (.ptr 1 0)),(8,.c (.map 2)),(9,.c (.slice 3 0 q.o.length q.cl)),(10,.c (.int .i64 (s.rs.length:Nat))),(11,.c (.ds (nB r+1) (.ints .i64 q.row)))] [(0,.own 30 (.cells [.ds (nB r+1) (.u64s cls),.slice 4 0 s.rs.length s.cn,.slice 5 0 s.rs.length s.ca]) 3),(1,.own 30 (.cells [.nils,.nils,.nils]) 3),(2,.mp 188 q.m),(3,.own 130 (.cells (z13 enc9 q.o)) (q.cl*4)),(4,.own 51 (.cells (rowsC s.rs)) s.cn),(5,.own 4 (.bools s.bs) s.ca)] 6 [0,1,2,3,4,5] uRm_0 uRm_0 uRm_0 uRm_0 ?_;refine srR (cA_ok e1 q1ok) fun _ K72=>?_
       iterate 4 refine z21 ?_
       refine z4s ?_;intro cap4 hcap4;refine exI ?_;refine z21 ?_;refine zdj ?_;refine s_n K72 ?_;refine z69 (cA_ok e1 q1ok) [(0,true),(1,true),(2,true),(3,true),(4,true),(5,true),(6,true),(7,true),(8,true),(9,true),(10,false),(11,true),(12,false),(13,false),(14,true),(15,false)] rfl kR kR fun _ K73=>?_
       iterate 4 refine z3l ?_
       refine zdk ?_;refine exB (fun hb4=>?_) (fun hb4=>?_)
       ·try simp only[dQ,reduceIte]at hb4
        iterate 4 refine dXTRm_7 ?_
        refine zyj ?_;refine exA (staV x) (zbf rec9 (fun _ _=>trivial) (by omega) rfl qx) ?_;refine gXT ?_;refine zt4 (xs:=[staV x]) (cA_look hne) (dv_sta _) hin.d1 ?_;refine⟨_,hin.h1 _ ((qc.st _ _ qx).resolve_left (by omega)).ok,?_⟩
        first|refine exI ?_|(intro cap10 hcap10;refine exI ?_)
        refine z3l ?_;refine zmx ?_;refine zk4 ?_;intro cap13 hcap13;refine exI ?_;refine z3l ?_;refine zk3 ?_;refine d_n K73 ?_;refine z05 ?_;apply K30;refine z01 (cA_ok e1 q1ok) fun _ K74=>?_
        iterate 3 refine z21 ?_
        refine s_n K74 ?_
        have hXR:rowsC s.rs++([]++[.ds (nB r+1) (.ints .i64 q.row)])=rowsC (s.rs++[q.row]):=by
         have:=z4g s.rs q.row
         rw[qrl]at this;exact this
        have hL0:s.rs.length+1=(s.rs++[q.row]).length:=by rw[List.length_append];rfl
        have hb9:P (z24 r x)=P (valK r (kyX r x)):=(zyg hr qc hin.p0 qx).2 (by omega)
        refine dnS [] (fun i=>if i=4 then 7 else if i=5 then 9 else i) ⟨q.o,q.m,q.cl,s.rs++[q.row],s.bs++[P (z24 r x)],cap4,cap13⟩ ⟨⟨qc,zye qw (cor_at qc qx) qR hb9,q1,(by show(s.rs++[_]).length≤cap4;omega),(by show(s.rs++[_]).length≤cap13;omega)⟩,(by show 411 - (s.rs++[_]).length< 411 - s.rs.length;omega)⟩ [0,1,2,3,7,9] ?_ ?_ ?_ ?_
        ·exact uRm_0
        ·exact uRm_0
        ·exact uRm_0
        ·exact uRm_0
       ·try simp only[dQ,reduceIte]at hb4
        iterate 6 refine gN ?_
        refine z3l ?_;refine zmx ?_;refine zk4 ?_;intro cap13 hcap13;refine exI ?_;refine z3l ?_;refine zk3 ?_;refine d_n K73 ?_;refine z05 ?_;apply K30;refine z01 (cA_ok e1 q1ok) fun _ K75=>?_
        iterate 3 refine z21 ?_
        refine s_n K75 ?_
        have hXR:rowsC s.rs++([]++[.ds (nB r+1) (.ints .i64 q.row)])=rowsC (s.rs++[q.row]):=by
         have:=z4g s.rs q.row
         rw[qrl]at this;exact this
        have hL0:s.rs.length+1=(s.rs++[q.row]).length:=by rw[List.length_append];rfl
        have hb9:false=P (valK r (kyX r x)):=(zyg hr qc hin.p0 qx).1 (by omega)
        refine dnS [] (fun i=>if i=4 then 7 else if i=5 then 9 else i) ⟨q.o,q.m,q.cl,s.rs++[q.row],s.bs++[false],cap4,cap13⟩ ⟨⟨qc,zye qw (cor_at qc qx) qR hb9,q1,(by show(s.rs++[_]).length≤cap4;omega),(by show(s.rs++[_]).length≤cap13;omega)⟩,(by show 411 - (s.rs++[_]).length< 411 - s.rs.length;omega)⟩ [0,1,2,3,7,9] ?_ ?_ ?_ ?_
        ·exact uRm_0
        ·exact uRm_0
        ·exact uRm_0
        ·exact uRm_0
   ·try simp only[dQ,reduceIte]at h_t28
    refine z0i ?_;refine z00 ?_;refine z00 ?_;refine z0f ?_;apply K24
    have he:s.rs.length=s.o.length:=by omega
    obtain⟨hred,hcan⟩:=asm_end hin hcor hrw he;refine leW [4,5] id [(4,.c (.ptr 0 0)),(6,.c (.ptr 1 0))] [(0,.own 30 (dfaC ⟨cls,(nB r+1),s.rs,s.bs⟩) 3),(1,.own 30 (.cells [.nils,.nils,.nils]) 3)] 2 [0,1] uRm_0 uRm_0 uRm_0 uRm_0 ?_;refine srR (cA_ok e1 q1ok) fun _ K77=>?_;refine z21 ?_;refine z4s ?_;refine⟨⟨cls,(nB r+1),s.rs,s.bs⟩,rfl,hred,?_⟩;rw[hcan];refine DRm_0 ?_
    first|refine exI ?_|(intro cap1 hcap1;refine exI ?_)
    iterate 2 refine z21 ?_
    refine zdj ?_;refine z21 ?_;refine s_n K77 ?_;refine z0e (z0g (cA_ok e1 q1ok) (fun _ _ h=>h) (z1h _) [] [.cell 6 30,.tmp 7] rfl ?_)
    all_goals exact uRm_0

end Go.Proofs.YtppmnaoollkboaaDoor
