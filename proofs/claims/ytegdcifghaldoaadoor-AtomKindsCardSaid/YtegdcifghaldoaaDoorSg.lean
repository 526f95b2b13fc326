/- Contracts of functions and plain facts, part 7. -/
import Derived.Test.YtegdcifghaldoaaDoorSf
import Derived.Test.YtegdcifghaldoaaDoorSb
set_option maxHeartbeats 4000000
set_option maxRecDepth 8000
namespace Go.Proofs.YtegdcifghaldoaaDoor
set_option linter.all false
open Go.Ab Go.RowKit

section
variable {a b:Prop}
theorem qBi0(h:a:=by first|exact vcA|(simp<;>omega)|exact Nat.le_of_ble_eq_true rfl|(show _< (recss _ _).length;rw[z44];omega)|(show _< (lists _).length;rw[z1p];omega)|exact vcB):a:=h
theorem DBi_0(kZ:b)(h:HidB b→a:=by intro kZ;(repeat first|refine aI qBi0 ?_|refine z0h qBi0 ?_|refine z0a qBi0 ?_|refine z0q qBi0 ?_|refine z0i ?_);exact kZ.out):a:=h ⟨kZ⟩
theorem z17(kZ:b)(h:HidB b→a:=by intro kZ;refine sX ?_;refine DBi_0 ?_;refine exI ?_;exact kZ.out):a:=h ⟨kZ⟩
theorem sX0Bi_2(kZ:b)(h:HidB b→a:=by intro kZ;refine sX0 ?_;refine DBi_0 ?_;refine exI ?_;exact kZ.out):a:=h ⟨kZ⟩
theorem z2c(kZ:b)(h:HidB b→a:=by intro kZ;refine sXT ?_;refine DBi_0 ?_;refine exI ?_;exact kZ.out):a:=h ⟨kZ⟩
theorem z1t(kZ:b)(h:HidB b→a:=by intro kZ;refine sX ?_;refine DBi_0 ?_;exact kZ.out):a:=h ⟨kZ⟩
theorem z2m(kZ:b)(h:HidB b→a:=by intro kZ;refine sXT ?_;refine DBi_0 ?_;exact kZ.out):a:=h ⟨kZ⟩
end
open Go.Aut
noncomputable def ctv:Ctx:={ P:=Tryd.prog,ty:=ty,glob:=gl,fs:=[(89,.flat partS),(93,.flat hasMCS),(106,.flat sizeS)] }
theorem z20:ctv.OK:=⟨tyOK,⟨⟨z09 Tryd.func89 kQf rfl,part_ok⟩,⟨z09 Tryd.func93 kQf rfl,hasMC_ok⟩,⟨z09 Tryd.func106 kQf rfl,zrq⟩,trivial⟩,mixed⟩
@[simp] theorem ctv_ty:ctv.ty=ty:=rfl

def zrw:QSpec:=fun vs K=>∃ t:Tra,vs=[traV t]∧t.wf∧K (.c (.bool (traOK t)))
theorem zmn : z12 Tryd.prog gl 60 zrw:=by
 refine z0x (Γ:=ctv) (N:=89) Tryd.func60 rfl rfl fun vs K h=>?_;obtain⟨t,rfl,⟨hw1,hw2,hw3,hw4,hw5,hw6,hw7⟩,h⟩:=h;refine⟨_,h,rfl,by simp,fun w I=>?_⟩;refine srR z20 fun _ K2=>?_
 iterate 2 refine z17 ?_
 refine s_n K2 ?_;refine srR z20 fun _ K4=>?_;refine z17 ?_;refine z1t ?_;refine exA (.c (.ds t.moves.length (.cells (recss movL t.moves)))) (as_eq rfl) ?_
 iterate 2 refine z17 ?_
 refine sX0Bi_2 ?_;refine s_n K4 ?_;refine seq_k fun _ K5=>?_;refine srR z20 fun _ K7=>?_;refine z1t ?_;refine exA (.c (.int .i64 ((t.moves.length:Nat):Int))) (as_eq rfl) ?_;refine z17 ?_;refine z1t ?_;refine exB (fun hb2=>?_) (fun hb2=>?_)
 ·try simp only[dQ,reduceIte]at hb2
  iterate 2 refine sN ?_
  refine z17 ?_;refine z1t ?_;refine exB (fun hb6=>?_) (fun hb6=>?_)
  rotate_left 1
  ·exfalso;simp at hb6
  iterate 5 refine sN ?_
  refine z17 ?_;refine z1t ?_;refine exB (fun hb13=>?_) (fun hb13=>?_)
  rotate_left 1
  ·exfalso;simp at hb13
  iterate 5 refine sN ?_
  refine z17 ?_;refine z1t ?_;refine exB (fun hb20=>?_) (fun hb20=>?_)
  rotate_left 1
  ·exfalso;simp at hb20
  iterate 4 refine sN ?_
  refine z17 ?_;refine z1t ?_;refine exB (fun hb26=>?_) (fun hb26=>?_)
  rotate_left 1
  ·exfalso;simp at hb26
  iterate 4 refine sN ?_
  refine z17 ?_;refine s_n K7 ?_;refine z08 (b:=_) rfl (fun _=>?_) (fun h_t41=>?_)
  rotate_left 1
  ·exfalso;simp at h_t41
  have hno:traOK t=false:=by first|exact zb6 (by omega)|exact zb7 (by simpa using h_t41)
  refine srR z20 fun _ K9=>?_;refine z17 ?_;refine s_n K9 ?_;refine z0j (z03 z20 (fun _ _ h=>h) (by first|rfl|assumption) [.tmp 2] rfl ?_);refine rtD ?_
  show SV.c (.bool _)=_
  first|(rw[hno];done)|(rw[z5h hkn hrf];done)|(rw[z5i hbase hcls (by rw[←show k=t.moves.length by omega];exact hk.2)];done)
 ·try simp only[dQ,reduceIte]at hb2
  refine z2m ?_;refine exA (.c (.int .i64 ((t.moves.length:Nat):Int))) (as_eq rfl) ?_;refine z2c ?_;refine z17 ?_;refine z1t ?_;refine exB (fun hb6=>?_) (fun hb6=>?_)
  ·try simp only[dQ,reduceIte]at hb6
   iterate 5 refine sN ?_
   refine z17 ?_;refine z1t ?_;refine exB (fun hb13=>?_) (fun hb13=>?_)
   rotate_left 1
   ·exfalso;simp at hb13
   iterate 5 refine sN ?_
   refine z17 ?_;refine z1t ?_;refine exB (fun hb20=>?_) (fun hb20=>?_)
   rotate_left 1
   ·exfalso;simp at hb20
   iterate 4 refine sN ?_
   refine z17 ?_;refine z1t ?_;refine exB (fun hb26=>?_) (fun hb26=>?_)
   rotate_left 1
   ·exfalso;simp at hb26
   iterate 4 refine sN ?_
   refine z17 ?_;refine s_n K7 ?_;refine z08 (b:=_) rfl (fun _=>?_) (fun h_t41=>?_)
   rotate_left 1
   ·exfalso;simp at h_t41
   have hno:traOK t=false:=by first|exact zb6 (by omega)|exact zb7 (by simpa using h_t41)
   refine srR z20 fun _ K11=>?_;refine z17 ?_;refine s_n K11 ?_;refine z0j (z03 z20 (fun _ _ h=>h) (by first|rfl|assumption) [.tmp 2] rfl ?_);refine rtD ?_
   show SV.c (.bool _)=_
   first|(rw[hno];done)|(rw[z5h hkn hrf];done)|(rw[z5i hbase hcls (by rw[←show k=t.moves.length by omega];exact hk.2)];done)
  ·try simp only[dQ,reduceIte]at hb6
   refine z2c ?_;refine z2m ?_;refine exA (.c (.ds t.fin.length (.bools t.fin))) (as_eq rfl) ?_;refine z2c ?_;refine z2m ?_;refine exA (.c (.int .i64 ((t.moves.length:Nat):Int))) (as_eq rfl) ?_;refine z2c ?_;refine z17 ?_;refine z1t ?_;refine exB (fun hb13=>?_) (fun hb13=>?_)
   ·try simp only[dQ,reduceIte]at hb13
    iterate 5 refine sN ?_
    refine z17 ?_;refine z1t ?_;refine exB (fun hb20=>?_) (fun hb20=>?_)
    rotate_left 1
    ·exfalso;simp at hb20
    iterate 4 refine sN ?_
    refine z17 ?_;refine z1t ?_;refine exB (fun hb26=>?_) (fun hb26=>?_)
    rotate_left 1
    ·exfalso;simp at hb26
    iterate 4 refine sN ?_
    refine z17 ?_;refine s_n K7 ?_;refine z08 (b:=_) rfl (fun _=>?_) (fun h_t41=>?_)
    rotate_left 1
    ·exfalso;simp at h_t41
    have hno:traOK t=false:=by first|exact zb6 (by omega)|exact zb7 (by simpa using h_t41)
    refine srR z20 fun _ K13=>?_;refine z17 ?_;refine s_n K13 ?_;refine z0j (z03 z20 (fun _ _ h=>h) (by first|rfl|assumption) [.tmp 2] rfl ?_);refine rtD ?_
    show SV.c (.bool _)=_
    first|(rw[hno];done)|(rw[z5h hkn hrf];done)|(rw[z5i hbase hcls (by rw[←show k=t.moves.length by omega];exact hk.2)];done)
   ·try simp only[dQ,reduceIte]at hb13
    refine z2c ?_;refine z2m ?_;refine exA (.c (.ds t.ends.length (.cells (lists t.ends)))) (as_eq rfl) ?_;refine z2c ?_;refine z2m ?_;refine exA (.c (.int .i64 ((t.moves.length:Nat):Int))) (as_eq rfl) ?_;refine z2c ?_;refine z17 ?_;refine z1t ?_;refine exB (fun hb20=>?_) (fun hb20=>?_)
    ·try simp only[dQ,reduceIte]at hb20
     iterate 4 refine sN ?_
     refine z17 ?_;refine z1t ?_;refine exB (fun hb26=>?_) (fun hb26=>?_)
     rotate_left 1
     ·exfalso;simp at hb26
     iterate 4 refine sN ?_
     refine z17 ?_;refine s_n K7 ?_;refine z08 (b:=_) rfl (fun _=>?_) (fun h_t41=>?_)
     rotate_left 1
     ·exfalso;simp at h_t41
     have hno:traOK t=false:=by first|exact zb6 (by omega)|exact zb7 (by simpa using h_t41)
     refine srR z20 fun _ K15=>?_;refine z17 ?_;refine s_n K15 ?_;refine z0j (z03 z20 (fun _ _ h=>h) (by first|rfl|assumption) [.tmp 2] rfl ?_);refine rtD ?_
     show SV.c (.bool _)=_
     first|(rw[hno];done)|(rw[z5h hkn hrf];done)|(rw[z5i hbase hcls (by rw[←show k=t.moves.length by omega];exact hk.2)];done)
    ·try simp only[dQ,reduceIte]at hb20
     refine z2c ?_;refine z2m ?_;refine exA (.c (.ds t.nc (.u64s t.cls))) (as_eq rfl) ?_
     iterate 2 refine z2c ?_
     refine z17 ?_;refine z1t ?_;refine exB (fun hb26=>?_) (fun hb26=>?_)
     ·try simp only[dQ,reduceIte]at hb26
      iterate 4 refine sN ?_
      refine z17 ?_;refine s_n K7 ?_;refine z08 (b:=_) rfl (fun _=>?_) (fun h_t41=>?_)
      rotate_left 1
      ·exfalso;simp at h_t41
      have hno:traOK t=false:=by first|exact zb6 (by omega)|exact zb7 (by simpa using h_t41)
      refine srR z20 fun _ K17=>?_;refine z17 ?_;refine s_n K17 ?_;refine z0j (z03 z20 (fun _ _ h=>h) (by first|rfl|assumption) [.tmp 2] rfl ?_);refine rtD ?_
      show SV.c (.bool _)=_
      first|(rw[hno];done)|(rw[z5h hkn hrf];done)|(rw[z5i hbase hcls (by rw[←show k=t.moves.length by omega];exact hk.2)];done)
     ·try simp only[dQ,reduceIte]at hb26
      refine z2c ?_;refine z2m ?_;refine exA (.c (.ds t.nc (.u64s t.cls))) (as_eq rfl) ?_;refine z2m ?_;refine⟨t.cls,t.nc,rfl,⟨hw1,hw2⟩,?_⟩;refine DBi_0 ?_
      first|refine exI ?_|(intro cap29 hcap29;refine exI ?_)
      refine z2c ?_;refine z17 ?_;refine s_n K7 ?_;refine z08 (b:=_) rfl (fun h_t41=>?_) (fun h_t41=>?_)
      ·try simp only[dQ,reduceIte]at h_t41
       have hno:traOK t=false:=by first|exact zb6 (by omega)|exact zb7 (by simpa using h_t41)
       refine srR z20 fun _ K19=>?_;refine z17 ?_;refine s_n K19 ?_;refine z0j (z03 z20 (fun _ _ h=>h) (by first|rfl|assumption) [.tmp 2] rfl ?_);refine rtD ?_
       show SV.c (.bool _)=_
       first|(rw[hno];done)|(rw[z5h hkn hrf];done)|(rw[z5i hbase hcls (by rw[←show k=t.moves.length by omega];exact hk.2)];done)
      ·try simp only[dQ,reduceIte]at h_t41
       refine z0l ?_;apply K5
       have hbase:1≤t.moves.length∧t.moves.length≤64∧t.fin.length=t.moves.length∧t.ends.length=t.moves.length∧t.nc≤256:=by omega
       have hcls:clsP t.cls t.nc=true:=by simpa using h_t41
       refine srR z20 fun _ K21=>?_
       iterate 2 refine z17 ?_
       refine s_n K21 ?_;refine seq_k fun _ K22=>?_;refine srR z20 fun _ K24=>?_;refine z17 ?_;refine z1t ?_;refine exA (.c (.ds t.moves.length (.cells (recss movL t.moves)))) (as_eq rfl) ?_
       iterate 2 refine z17 ?_
       refine s_n K24 ?_;refine z0g ?_;refine z10 (α:=Nat) (fun k=>[(1,.c (.dp (.cells (traL t)) 0)),(4,.c (.clo 90 [.dp (.ints .i64 [((t.moves.length:Nat):Int)]) 0])),(44,.c (.ds t.moves.length (.cells (recss movL t.moves)))),(45,.c (.int .i64 (t.moves.length:Nat))),(46,.c (.int .i64 (k:Nat)))]) (fun k=>[]) 0 (fun k=>k≤t.moves.length∧(List.range k).all (rowT t)=true) (fun k=>t.moves.length - k) ?_ ?_
       ·refine dnS [0,1] id 0 ⟨Nat.zero_le _,rfl⟩ [] uBc_0 uBc_0 uBc_0 uBc_0
       ·intro k hk
        refine srR z20 fun _ K26=>?_;refine z17 ?_;refine s_n K26 ?_;refine seq_k fun _ K27=>?_;refine z08 (b:=_) rfl (fun h_t47=>?_) (fun h_t47=>?_)
        ·try simp only[dQ,reduceIte]at h_t47
         refine z0l ?_;apply K27;refine seq_k fun _ K28=>?_;refine z0g ?_
         have hkn:k< t.moves.length:=by omega
         have hrl:=hw6 _ (z2w (d:=[]) hkn)
         refine srR z20 fun _ K30=>?_
         iterate 2 refine z17 ?_
         refine z1t ?_;refine exA (.c (.ds (t.moves.getD k []).length (.cells (z0n movL (t.moves.getD k []))))) (as_c (rcs_at ⟨by omega,by omega⟩)) ?_
         iterate 2 refine z17 ?_
         refine s_n K30 ?_;refine srR z20 fun _ K32=>?_
         iterate 3 refine z17 ?_
         refine z1t ?_;refine exA (.c (.ds t.nc (.u64s t.cls))) (as_eq rfl) ?_
         iterate 2 refine z17 ?_
         refine z1t ?_;refine exB (fun hb6=>?_) (fun hb6=>?_)
         ·try simp only[dQ,reduceIte]at hb6
          iterate 7 refine sN ?_
          refine z17 ?_;refine z1t ?_;refine exB (fun hb15=>?_) (fun hb15=>?_)
          rotate_left 1
          ·exfalso;simp at hb15
          iterate 7 refine sN ?_
          iterate 7 refine sU ?_
          refine sN ?_;refine z17 ?_;refine z1t ?_;refine exB (fun hb32=>?_) (fun hb32=>?_)
          rotate_left 1
          ·exfalso;simp at hb32
          iterate 3 refine sN ?_
          refine z17 ?_;refine s_n K32 ?_;refine z08 (b:=_) rfl (fun _=>?_) (fun h_t87=>?_)
          rotate_left 1
          ·exfalso;simp at h_t87
          have hrf:rowT t k=false:=by
           rw[rowT]
           have hlen:=hk.1
           first|(rw[decide_eq_false (by omega)];rfl)|(rw[decide_eq_false (p:=(t.ends.getD k []).length≤8) (by omega)];simp;done)|(simp_all;done)|(simp_all [List.all_eq_not_any_not];done)|(simp[List.all_eq_not_any_not, *];done)
          refine srR z20 fun _ K34=>?_;refine z17 ?_;refine s_n K34 ?_;refine z0j (z03 z20 (fun _ _ h=>h) (by first|rfl|assumption) [.tmp 2] rfl ?_);refine rtD ?_
          show SV.c (.bool _)=_
          first|(rw[hno];done)|(rw[z5h hkn hrf];done)|(rw[z5i hbase hcls (by rw[←show k=t.moves.length by omega];exact hk.2)];done)
         ·try simp only[dQ,reduceIte]at hb6
          refine z2c ?_;refine z2m ?_;refine exA (.c (.ds t.ends.length (.cells (lists t.ends)))) (as_eq rfl) ?_
          iterate 2 refine z2c ?_
          refine z2m ?_;refine exA (.c (.ds (t.ends.getD k []).length (.u8s (t.ends.getD k [])))) (as_c (zic ⟨by omega,by omega⟩)) ?_
          iterate 2 refine z2c ?_
          refine z17 ?_;refine z1t ?_;refine exB (fun hb15=>?_) (fun hb15=>?_)
          ·try simp only[dQ,reduceIte]at hb15
           iterate 7 refine sN ?_
           iterate 7 refine sU ?_
           refine sN ?_;refine z17 ?_;refine z1t ?_;refine exB (fun hb32=>?_) (fun hb32=>?_)
           rotate_left 1
           ·exfalso;simp at hb32
           iterate 3 refine sN ?_
           refine z17 ?_;refine s_n K32 ?_;refine z08 (b:=_) rfl (fun _=>?_) (fun h_t87=>?_)
           rotate_left 1
           ·exfalso;simp at h_t87
           have hrf:rowT t k=false:=by
            rw[rowT]
            have hlen:=hk.1
            first|(rw[decide_eq_false (by omega)];rfl)|(rw[decide_eq_false (p:=(t.ends.getD k []).length≤8) (by omega)];simp;done)|(simp_all;done)|(simp_all [List.all_eq_not_any_not];done)|(simp[List.all_eq_not_any_not, *];done)
           refine srR z20 fun _ K36=>?_;refine z17 ?_;refine s_n K36 ?_;refine z0j (z03 z20 (fun _ _ h=>h) (by first|rfl|assumption) [.tmp 2] rfl ?_);refine rtD ?_
           show SV.c (.bool _)=_
           first|(rw[hno];done)|(rw[z5h hkn hrf];done)|(rw[z5i hbase hcls (by rw[←show k=t.moves.length by omega];exact hk.2)];done)
          ·try simp only[dQ,reduceIte]at hb15
           refine z2c ?_;refine z2m ?_;refine exA (.c (.ds t.fin.length (.bools t.fin))) (as_eq rfl) ?_
           iterate 2 refine z2c ?_
           refine z2m ?_;refine exA (.c (.bool (t.fin.getD k false))) (as_b (congrArg (fun i=>t.fin.getD i false) (by omega))) ?_;refine z2c ?_;refine z2m ?_;refine exB (fun hb22=>?_) (fun hb22=>?_)
           ·try simp only[dQ,reduceIte]at hb22
            refine z2c ?_;refine z2m ?_;refine exA (.c (.ds t.ends.length (.cells (lists t.ends)))) (as_eq rfl) ?_
            iterate 2 refine z2c ?_
            refine z2m ?_;refine exA (.c (.ds (t.ends.getD k []).length (.u8s (t.ends.getD k [])))) (as_c (zic ⟨by omega,by omega⟩)) ?_
            iterate 3 refine z2c ?_
            refine z17 ?_;refine z1t ?_;refine exB (fun hb32=>?_) (fun hb32=>?_)
            ·try simp only[dQ,reduceIte]at hb32
             iterate 3 refine sN ?_
             refine z17 ?_;refine s_n K32 ?_;refine z08 (b:=_) rfl (fun _=>?_) (fun h_t87=>?_)
             rotate_left 1
             ·exfalso;simp at h_t87
             have hrf:rowT t k=false:=by
              rw[rowT]
              have hlen:=hk.1
              first|(rw[decide_eq_false (by omega)];rfl)|(rw[decide_eq_false (p:=(t.ends.getD k []).length≤8) (by omega)];simp;done)|(simp_all;done)|(simp_all [List.all_eq_not_any_not];done)|(simp[List.all_eq_not_any_not, *];done)
             refine srR z20 fun _ K38=>?_;refine z17 ?_;refine s_n K38 ?_;refine z0j (z03 z20 (fun _ _ h=>h) (by first|rfl|assumption) [.tmp 2] rfl ?_);refine rtD ?_
             show SV.c (.bool _)=_
             first|(rw[hno];done)|(rw[z5h hkn hrf];done)|(rw[z5i hbase hcls (by rw[←show k=t.moves.length by omega];exact hk.2)];done)
            ·try simp only[dQ,reduceIte]at hb32
             iterate 2 refine z2c ?_
             refine z2m ?_;refine⟨(t.moves.getD k []),t.moves.length,rfl,⟨hrl.1,hrl.2⟩,?_⟩;refine DBi_0 ?_
             first|refine exI ?_|(intro cap35 hcap35;refine exI ?_)
             refine z17 ?_;refine s_n K32 ?_;refine z08 (b:=_) rfl (fun h_t87=>?_) (fun h_t87=>?_)
             ·try simp only[dQ,reduceIte]at h_t87
              have hrf:rowT t k=false:=by
               rw[rowT]
               have hlen:=hk.1
               first|(rw[decide_eq_false (by omega)];rfl)|(rw[decide_eq_false (p:=(t.ends.getD k []).length≤8) (by omega)];simp;done)|(simp_all;done)|(simp_all [List.all_eq_not_any_not];done)|(simp[List.all_eq_not_any_not, *];done)
              refine srR z20 fun _ K40=>?_;refine z17 ?_;refine s_n K40 ?_;refine z0j (z03 z20 (fun _ _ h=>h) (by first|rfl|assumption) [.tmp 2] rfl ?_);refine rtD ?_
              show SV.c (.bool _)=_
              first|(rw[hno];done)|(rw[z5h hkn hrf];done)|(rw[z5i hbase hcls (by rw[←show k=t.moves.length by omega];exact hk.2)];done)
             ·try simp only[dQ,reduceIte]at h_t87
              refine z0l ?_;refine z07 ?_;apply K28
              have hrt:rowT t k=true:=by
               rw[rowT]
               have hlen:=hk.1
               first|(simp_all [List.all_eq_not_any_not];done)|(simp_all [List.all_eq_not_any_not];omega)
              refine z04 z20 fun _ K41=>?_
              iterate 2 refine z17 ?_
              refine s_n K41 ?_;refine dnS [] id (k+1) ⟨⟨by omega,z33 hk.2 hrt⟩,by omega⟩ [] uBc_0 uBc_0 uBc_0 uBc_0
           ·try simp only[dQ,reduceIte]at hb22
            iterate 7 refine sN ?_
            refine z2c ?_;refine z17 ?_;refine z1t ?_;refine exB (fun hb32=>?_) (fun hb32=>?_)
            ·exfalso;simp at hb32
            iterate 2 refine z2c ?_
            refine z2m ?_;refine⟨(t.moves.getD k []),t.moves.length,rfl,⟨hrl.1,hrl.2⟩,?_⟩;refine DBi_0 ?_
            first|refine exI ?_|(intro cap35 hcap35;refine exI ?_)
            refine z17 ?_;refine s_n K32 ?_;refine z08 (b:=_) rfl (fun h_t87=>?_) (fun h_t87=>?_)
            ·try simp only[dQ,reduceIte]at h_t87
             have hrf:rowT t k=false:=by
              rw[rowT]
              have hlen:=hk.1
              first|(rw[decide_eq_false (by omega)];rfl)|(rw[decide_eq_false (p:=(t.ends.getD k []).length≤8) (by omega)];simp;done)|(simp_all;done)|(simp_all [List.all_eq_not_any_not];done)|(simp[List.all_eq_not_any_not, *];done)
             refine srR z20 fun _ K43=>?_;refine z17 ?_;refine s_n K43 ?_;refine z0j (z03 z20 (fun _ _ h=>h) (by first|rfl|assumption) [.tmp 2] rfl ?_);refine rtD ?_
             show SV.c (.bool _)=_
             first|(rw[hno];done)|(rw[z5h hkn hrf];done)|(rw[z5i hbase hcls (by rw[←show k=t.moves.length by omega];exact hk.2)];done)
            ·try simp only[dQ,reduceIte]at h_t87
             refine z0l ?_;refine z07 ?_;apply K28
             have hrt:rowT t k=true:=by
              rw[rowT]
              have hlen:=hk.1
              first|(simp_all [List.all_eq_not_any_not];done)|(simp_all [List.all_eq_not_any_not];omega)
             refine z04 z20 fun _ K44=>?_
             iterate 2 refine z17 ?_
             refine s_n K44 ?_;refine dnS [] id (k+1) ⟨⟨by omega,z33 hk.2 hrt⟩,by omega⟩ [] uBc_0 uBc_0 uBc_0 uBc_0
        ·try simp only[dQ,reduceIte]at h_t47
         refine z0v ?_;refine z02 ?_;refine z02 ?_;refine z0s ?_;apply K22;refine srR z20 fun _ K46=>?_;refine z17 ?_;refine s_n K46 ?_;refine z0j (z03 z20 (fun _ _ h=>h) (by first|rfl|assumption) [.tmp 2] rfl ?_);refine rtD ?_
         show SV.c (.bool _)=_
         first|(rw[hno];done)|(rw[z5h hkn hrf];done)|(rw[z5i hbase hcls (by rw[←show k=t.moves.length by omega];exact hk.2)];done)


end Go.Proofs.YtegdcifghaldoaaDoor

namespace Go.Proofs.YtegdcifghaldoaaDoor
set_option linter.all false
open Go.Ab Go.RowKit

section
variable {a b:Prop}
theorem qBj0(h:a:=by first|exact vcA|(simp[-List.reduceReplicate]<;>omega)|exact Nat.le_of_ble_eq_true rfl|(show _< (recss _ _).length;rw[z44];omega)|(show _< (lists _).length;rw[z1p];omega)|(show _< (z1j _ _).length;rw[hcL];omega)|(show _< (z0n _ _).length;rw[z0u movR (fun _ _=>trivial)];omega)|(show _≤(z0n _ _).length;rw[z0u movR (fun _ _=>trivial)];omega)|(refine⟨by omega,by omega,?_⟩;exact trivial)|exact vcB):a:=h
theorem qBj1(h:a:=by first|exact vcA|(simp[-List.reduceReplicate]<;>omega)|exact Nat.le_of_ble_eq_true rfl|(show _< (recss _ _).length;rw[z44];omega)|(show _< (lists _).length;rw[z1p];omega)|(refine⟨by omega,by omega,?_⟩;exact trivial)|(simp only[zpy];omega)|exact vcB):a:=h
theorem qBj2(h:a:=by first|exact vcA|(simp[-List.reduceReplicate]<;>omega)|exact Nat.le_of_ble_eq_true rfl|(show _< (recss _ _).length;rw[z44];omega)|(show _< (lists _).length;rw[z1p];omega)|(simp only[z23];omega)|exact vcB):a:=h
theorem uBj_0(h:a:=by
    repeat' (first|exact z00.to (z0b _)|exact z00.low (z0b _)|exact z00.to (z0e _)|exact z00.low (z0e _)|exact z00.to (z0c _)|exact z00.low (z0c _)|exact z00.to (z06 _)|exact z00.low (z06 _)|exact z00.to (z0m _)|exact z00.low (z0m _)|exact z00.to (z0d _)|exact z00.low (z0d _)|exact z00.to (z0f _ _)|exact z00.low (z0f _ _)|exact z00.to (z01 itmR _)|exact z00.low (z01 itmR _)|exact z00.to (z01 movR _)|exact z00.low (z01 movR _)|exact z00.to (z01 pceR _)|exact z00.low (z01 pceR _)|exact z00.to (z01 fndR _)|exact z00.low (z01 fndR _)|exact z00.to (z01 atmR _)|exact z00.low (z01 atmR _)|exact z00.to (z01 litR _)|exact z00.low (z01 litR _)|exact z00.to (z01 mdlR _)|exact z00.low (z01 mdlR _)|exact z0t (z0k z0p z05)|exact z0o (z0k z0p z05)|exact z0t z05|exact z0o z05|exact trivial|refine aI ?_ ?_|exact cC0|refine low_cons' ?_ ?_|exact cC1|fail)
    all_goals first|omega|exact z8u _|(show(_:List UInt8)=(runT t ws).1;rw[hre];done)|(show(_:Bool)=(runT t ws).2;rw[hre];done)|(rw[hre];first|rfl|exact⟨rfl,rfl⟩|exact trivial)|(simp[-List.reduceReplicate];done)|(simp[-List.reduceReplicate]<;>omega)|skip):a:=h
theorem DBj_0(kZ:b)(h:HidB b→a:=by intro kZ;(repeat first|refine aI qBj0 ?_|refine z0h qBj0 ?_|refine z0a qBj0 ?_|refine z0q qBj0 ?_|refine z0i ?_);exact kZ.out):a:=h ⟨kZ⟩
theorem z4f(kZ:b)(h:HidB b→a:=by intro kZ;refine sX ?_;refine DBj_0 ?_;refine exI ?_;exact kZ.out):a:=h ⟨kZ⟩
theorem sX0Bj_2(kZ:b)(h:HidB b→a:=by intro kZ;refine sX0 ?_;refine DBj_0 ?_;refine exI ?_;exact kZ.out):a:=h ⟨kZ⟩
theorem zmo(kZ:b)(h:HidB b→a:=by intro kZ;refine dX ?_;refine DBj_0 ?_;refine exI ?_;exact kZ.out):a:=h ⟨kZ⟩
theorem gXBj_4(kZ:b)(h:HidB b→a:=by intro kZ;refine gX ?_;refine DBj_0 ?_;refine exI ?_;exact kZ.out):a:=h ⟨kZ⟩
theorem gX0Bj_5(kZ:b)(h:HidB b→a:=by intro kZ;refine gX0 ?_;refine DBj_0 ?_;refine exI ?_;exact kZ.out):a:=h ⟨kZ⟩
theorem DBj_6(kZ:b)(h:HidB b→a:=by intro kZ;(repeat first|refine aI qBj1 ?_|refine z0h qBj1 ?_|refine z0a qBj1 ?_|refine z0q qBj1 ?_|refine z0i ?_);exact kZ.out):a:=h ⟨kZ⟩
theorem zev(kZ:b)(h:HidB b→a:=by intro kZ;refine sX ?_;refine DBj_6 ?_;refine exI ?_;exact kZ.out):a:=h ⟨kZ⟩
theorem DBj_8(kZ:b)(h:HidB b→a:=by intro kZ;(repeat first|refine aI qBj2 ?_|refine z0h qBj2 ?_|refine z0a qBj2 ?_|refine z0q qBj2 ?_|refine z0i ?_);exact kZ.out):a:=h ⟨kZ⟩
theorem zrx(kZ:b)(h:HidB b→a:=by intro kZ;refine sX ?_;refine DBj_8 ?_;refine exI ?_;exact kZ.out):a:=h ⟨kZ⟩
theorem z7n(kZ:b)(h:HidB b→a:=by intro kZ;refine sX ?_;refine DBj_0 ?_;exact kZ.out):a:=h ⟨kZ⟩
theorem zc7(kZ:b)(h:HidB b→a:=by intro kZ;refine dX ?_;refine DBj_0 ?_;exact kZ.out):a:=h ⟨kZ⟩
theorem z8t(kZ:b)(h:HidB b→a:=by intro kZ;refine sX ?_;refine DBj_6 ?_;exact kZ.out):a:=h ⟨kZ⟩
theorem zmp(kZ:b)(h:HidB b→a:=by intro kZ;refine sX ?_;refine DBj_8 ?_;exact kZ.out):a:=h ⟨kZ⟩
end
open Go.Aut
attribute [local irreducible] z1j
theorem zew(t:Tra):∀ l:List UInt8,l.foldl (stepT t) none=none
  |[]=>rfl
  |_::l=>zew t l
def runK(t:Tra)(w:List UInt8)(k:Nat):Option (List UInt8×Nat):=(w.take k).foldl (stepT t) (some ([],0))
theorem zid{t:Tra}{w:List UInt8}{k:Nat}(h:k< w.length):runK t w (k+1)=stepT t (runK t w k) (w.getD k 0):=by
  rw[runK,runK,List.take_add_one,List.getElem?_eq_getElem h,List.foldl_append,z7k h];rfl
theorem runK_bad{t:Tra}{w:List UInt8}{k:Nat}(h:runK t w k=none):w.foldl (stepT t) (some ([],0))=none:=by
  rw[runK]at h;rw[←List.take_append_drop k w,List.foldl_append,h,zew]
theorem runK_all(t:Tra)(w:List UInt8):runK t w w.length=w.foldl (stepT t) (some ([],0)):=by rw[runK,List.take_length]
structure TraOK(t:Tra):Prop where
  n1:1≤t.moves.length
  n2:t.moves.length≤64
  fin:t.fin.length=t.moves.length
  ends:t.ends.length=t.moves.length
  nc:t.nc≤256
  cls:clsP t.cls t.nc=true
  row:∀ s,s< t.moves.length→(t.moves.getD s []).length=t.nc
  endl:∀ s,s< t.moves.length→(t.ends.getD s []).length≤8
  mv:∀ s,s< t.moves.length→∀ m∈t.moves.getD s [],-1≤m.to∧m.to< t.moves.length∧m.out.length≤8
theorem tra_ok{t:Tra}(h:traOK t=true):TraOK t:=by
 rw[traOK,Bool.and_eq_true,Bool.and_eq_true,decide_eq_true_eq,List.all_eq_true]at h;obtain⟨⟨⟨h1,h2,h3,h4,h5⟩,h6⟩,h7⟩:=h
 have hr:∀ s,s< t.moves.length→rowT t s=true:=fun s hs=>h7 s (List.mem_range.2 hs)
 refine⟨h1,h2,h3,h4,h5,h6,fun s hs=>?_,fun s hs=>?_,fun s hs m hm=>?_⟩
 ·have:=hr s hs;simp only[rowT,Bool.and_eq_true,decide_eq_true_eq]at this;exact this.1.1.1
 ·have:=hr s hs;simp only[rowT,Bool.and_eq_true,decide_eq_true_eq]at this;exact this.1.1.2
 ·have:=hr s hs;simp only[rowT,Bool.and_eq_true,decide_eq_true_eq,List.all_eq_true]at this
  have:=this.2 m hm
  simp only[movOK,Bool.and_eq_true,decide_eq_true_eq]at this
  exact⟨this.1.1.1.1,this.1.1.1.2,this.1.1.2⟩
theorem mov_mem{t:Tra}{s:Nat}{b:UInt8}(ht:TraOK t)(hg:(dT t).good)(hs:s< t.moves.length):(t.moves.getD s [])[cellT t b.toNat]? =some (movT t s b):=by
  have hl:cellT t b.toNat< (t.moves.getD s []).length:=by rw[ht.row s hs];exact zmk hg b.toNat_lt
  rw[movT,List.getD_eq_getElem?_getD (i:=cellT t b.toNat),List.getElem?_eq_getElem hl];rfl
theorem step_yes{t:Tra}{w:List UInt8}{s:Nat}{b:UInt8}(h:0≤(movT t s b).to):stepT t (some (w,s)) b=some (w++z2f (movT t s b).out b,(movT t s b).to.toNat):=by
  show(if _ then _ else _)=_
  rw[if_neg (by omega)]
theorem step_no{t:Tra}{w:List UInt8}{s:Nat}{b:UInt8}(h:(movT t s b).to< 0):stepT t (some (w,s)) b=none:=by
  show(if _ then _ else _)=_
  rw[if_pos h]
theorem zke(l:List Pce)(b:UInt8):(z2f l b).length=l.length:=by simp[z2f]
abbrev outTV(r:List UInt8×Bool):SV:=.tup [.c (.ds r.1.length (.u8s r.1)),.c (.bool r.2)]
theorem z8u(r:List UInt8×Bool):SV.low 0 (outTV r):=List.forall_mem_cons.2 ⟨trivial,List.forall_mem_cons.2 ⟨trivial,fun _ h=>by cases h⟩⟩
noncomputable def crn:Ctx:={ P:=Tryd.prog,ty:=ty,glob:=gl,fs:=[(60,.flat zrw),(61,.flat zrs),(62,.data zmm)] }
theorem z3u:crn.OK:=⟨tyOK,⟨⟨z09 Tryd.func60 kQf rfl,zmn⟩,⟨z09 Tryd.func61 kQf rfl,zrt⟩,⟨z09 Tryd.func62 kQf rfl,zop⟩,trivial⟩,mixed⟩
@[simp] theorem crn_ty:crn.ty=ty:=rfl

def runTS:QSpec:=fun vs K=>∃ (t:Tra) (ws:List UInt8),vs=[traV t,.c (.ds ws.length (.u8s ws))]∧(t.wf∧ws.length≤8796093022208)∧K (outTV (runT t ws))
theorem zry:z2s Tryd.prog gl 28 runTS:=by
 refine z2b (Γ:=crn) (N:=59) Tryd.func28 rfl rfl fun vs K h=>?_;obtain⟨t,ws,rfl,⟨hwf,hwl⟩,h⟩:=h;refine⟨_,h,z8u _,by simp,fun w I=>?_⟩;refine srR z3u fun _ K2=>?_
 iterate 3 refine z4f ?_
 refine s_n K2 ?_;refine seq_k fun _ K3=>?_;refine srR z3u fun _ K5=>?_;refine z7n ?_;refine exA (traV t) (as_eq rfl) ?_;refine z7n ?_;refine aI (z00.noclo (z0m t)) ?_;refine⟨t,rfl,hwf,?_⟩;refine DBj_0 ?_
 first|refine exI ?_|(intro cap1 hcap1;refine exI ?_)
 refine z4f ?_;refine s_n K5 ?_;refine z08 (b:=_) rfl (fun h_t14=>?_) (fun h_t14=>?_)
 ·try simp only[dQ,reduceIte]at h_t14
  have hre:runT t ws=([],false):=by rw[runT,if_neg (by simpa using h_t14)]
  refine srR z3u fun _ K7=>?_
  iterate 2 refine z4f ?_
  refine s_n K7 ?_;refine z0j (z13 z3u (fun _ _ h=>h) (z8u _) [] [.tmp 4,.tmp 5] rfl ?_)
  all_goals exact uBj_0
 ·try simp only[dQ,reduceIte]at h_t14
  refine z0l ?_;apply K3
  have hv:traOK t=true:=by simpa using h_t14
  have ht:=tra_ok hv
  have hg:=dT_good hwf.1 ht.cls ht.nc
  refine srR z3u fun _ K9=>?_;refine z4f ?_;refine z7n ?_;refine exA (.c (.ds t.nc (.u64s t.cls))) (as_eq rfl) ?_;refine z7n ?_;refine⟨dT t,rfl,hg.1,?_⟩;refine DBj_0 ?_
  first|refine exI ?_|(intro cap2 hcap2;refine exI ?_)
  refine z4f ?_;refine sX0Bj_2 ?_;refine z4f ?_;refine s_n K9 ?_;refine srR z3u fun _ K11=>?_;refine z4f ?_;refine s_n K11 ?_;refine seq_k fun _ K12=>?_;refine srR z3u fun _ K14=>?_
  iterate 3 refine z4f ?_
  refine s_n K14 ?_;refine z0g ?_;refine WP_nil 8 5 (.u8s []) rfl rfl trivial ?_;refine z10 (α:=Nat×List UInt8×Nat×Nat) (fun g=>[(2,.c (.dp (.cells (traL t)) 0)),(6,.c (.dp (.ints .i64 (z1j (dT t) t.nc)) 0)),(18,.c (.ds ws.length (.u8s ws))),(19,.c (.int .i64 (ws.length:Nat))),(20,.c (.int .i64 (g.1:Nat))),(7,.c (.int .i64 (g.2.2.1:Nat))),(8,.c (.slice 0 0 g.2.1.length g.2.2.2))]) (fun g=>[(0,.own 5 (.u8s g.2.1) g.2.2.2)]) 1 (fun g=>g.1≤ws.length∧runK t ws g.1=some (g.2.1,g.2.2.1)∧g.2.2.1< t.moves.length∧g.2.1.length≤8*g.1) (fun g=>ws.length - g.1) ?_ ?_
  ·refine dnS [0,1] (fun _=>2) (0,[],0,0) ⟨Nat.zero_le _,rfl,ht.n1,by simp⟩ [2] uBj_0 uBj_0 uBj_0 uBj_0
  ·intro g hg1
   obtain⟨hgk,hg0⟩:=hg1
   have hen:=ht.ends
   have hfl:=ht.fin
   refine srR z3u fun _ K16=>?_;refine z4f ?_;refine s_n K16 ?_;refine seq_k fun _ K17=>?_;refine z08 (b:=_) rfl (fun h_t21=>?_) (fun h_t21=>?_)
   ·try simp only[dQ,reduceIte]at h_t21
    refine z0l ?_;apply K17;refine seq_k fun _ K18=>?_;refine z0g ?_
    have hkl:g.1< ws.length:=by omega
    refine srR z3u fun _ K20=>?_;refine z4f ?_;refine z7n ?_;refine exA (.c (.u8 (ws.getD g.1 0))) (as_eq (congrArg (fun v=>SV.c (Cell.u8 v)) (congrArg (fun i=>ws.getD i 0) (by omega)))) ?_;refine z4f ?_;refine s_n K20 ?_
    have hbt:((ws.getD g.1 0)).toNat< 256:=UInt8.toNat_lt _
    have hcl2:=zmk hg (b:=(ws.getD g.1 0).toNat) (UInt8.toNat_lt _)
    have hrs:=ht.row _ hg0.2.1
    have hmm:=mov_mem (b:=(ws.getD g.1 0)) ht hg hg0.2.1
    have hcL:(z1j (dT t) t.nc).length=256:=by simp
    have hmv:=ht.mv _ hg0.2.1 _ (List.mem_of_getElem? hmm)
    obtain⟨m,hm⟩:∃ m,m=(movT t g.2.2.1 (ws.getD g.1 0)):=⟨_,rfl⟩;rw[←hm]at hmm hmv;refine srD z3u [(0,true),(1,true),(2,true),(3,true),(4,true),(5,true),(6,true),(7,true),(8,true),(9,true),(10,false),(11,false)] rfl kQf kQf fun _ K22=>?_;refine zmo ?_;refine zc7 ?_;refine exA (.c (.ds t.moves.length (.cells (recss movL t.moves)))) (as_eq rfl) ?_
    iterate 2 refine zmo ?_
    refine zc7 ?_;refine exA (.c (.ds (t.moves.getD g.2.2.1 []).length (.cells (z0n movL (t.moves.getD g.2.2.1 []))))) (as_c (rcs_at ⟨by omega,by omega⟩)) ?_
    iterate 2 refine zmo ?_
    refine zc7 ?_;refine exA (.c (.int .i64 ((cellT t (ws.getD g.1 0).toNat:Nat):Int))) (as_i ((congrArg (fun i=>(z1j (dT t) t.nc).getD i 0) (by omega)).trans (cellT_eq (UInt8.toNat_lt _)))) ?_;refine zmo ?_;refine zc7 ?_;refine exA (.agg (.cells (movL m))) (z3x movR (fun _ _=>trivial) (i:=(cellT t (ws.getD g.1 0).toNat)) (by first|rfl|omega) rfl hmm) ?_;refine gXBj_4 ?_;refine gX0Bj_5 ?_;refine d_n K22 ?_;refine seq_k fun _ K23=>?_;refine srR z3u fun _ K25=>?_;refine z4f ?_;refine z7n ?_;refine exA (.c (.int .i64 m.to)) (as_eq rfl) ?_;refine z4f ?_;refine s_n K25 ?_;refine z08 (b:=_) rfl (fun h_t36=>?_) (fun h_t36=>?_)
    ·try simp only[dQ,reduceIte]at h_t36
     have hst:runK t ws (g.1+1)=none:=by rw[zid hkl,hg0.1];exact step_no (by rw[←hm];exact h_t36)
     have hre:runT t ws=([],false):=by rw[runT,if_pos hv,runK_bad hst]
     refine srR z3u fun _ K27=>?_
     iterate 2 refine z4f ?_
     refine s_n K27 ?_;refine z0j (z13 z3u (fun _ _ h=>h) (z8u _) [] [.tmp 4,.tmp 5] rfl ?_)
     all_goals exact uBj_0
    ·try simp only[dQ,reduceIte]at h_t36
     refine z0l ?_;apply K23
     have hst:runK t ws (g.1+1)=some (g.2.1++z2f m.out (ws.getD g.1 0),m.to.toNat):=by rw[zid hkl,hg0.1,hm];exact step_yes (by rw[←hm];omega)
     have hwn:=zke m.out (ws.getD g.1 0)
     refine srR z3u fun _ K29=>?_
     iterate 2 refine zev ?_
     refine z8t ?_;refine exA (.c (.ds m.out.length (.cells (z0n pceL m.out)))) (as_eq rfl) ?_;refine zev ?_;refine z8t ?_;refine⟨m.out,(ws.getD g.1 0),rfl,by omega,?_⟩;refine DBj_6 ?_
     first|refine exI ?_|(intro cap4 hcap4;refine exI ?_)
     refine z8t ?_;intro cap5 hcap5;refine exI ?_;refine zev ?_;refine s_n K29 ?_;refine z04 z3u fun _ K30=>?_;refine z4f ?_;refine z7n ?_;refine exA (.c (.int .i64 m.to)) (as_eq rfl) ?_;refine z4f ?_;refine s_n K30 ?_;refine z07 ?_;apply K18;refine z04 z3u fun _ K31=>?_
     iterate 2 refine z4f ?_
     refine s_n K31 ?_
     have hmt:((m.to.toNat:Nat):Int)=m.to:=by omega
     refine dnS [] (fun _=>2) (g.1+1,g.2.1++z2f m.out (ws.getD g.1 0),m.to.toNat,cap5) ⟨⟨(by show g.1+1≤_;omega),hst,(by show m.to.toNat< _;omega),(by show(g.2.1++_).length≤8*(g.1+1);rw[List.length_append,hwn];omega)⟩,(by show _ - (g.1+1)< _;omega)⟩ [2] ?_ ?_ ?_ ?_
     ·exact uBj_0
     ·exact uBj_0
     ·exact uBj_0
     ·exact uBj_0
   ·try simp only[dQ,reduceIte]at h_t21
    refine z0v ?_;refine z02 ?_;refine z02 ?_;refine z0s ?_;apply K12;refine seq_k fun _ K32=>?_
    have hgl:g.1=ws.length:=by omega
    have hfold:ws.foldl (stepT t) (some ([],0))=some (g.2.1,g.2.2.1):=by rw[←runK_all, ←hgl,hg0.1]
    refine srR z3u fun _ K34=>?_;refine zrx ?_;refine zmp ?_;refine exA (.c (.ds t.fin.length (.bools t.fin))) (as_eq rfl) ?_
    iterate 2 refine zrx ?_
    refine zmp ?_;refine exA (.c (.bool (t.fin.getD g.2.2.1 false))) (as_b (congrArg (fun i=>t.fin.getD i false) (by omega))) ?_;refine zrx ?_;refine s_n K34 ?_;refine z08 (b:=_) rfl (fun h_t51=>?_) (fun h_t51=>?_)
    ·try simp only[dQ,reduceIte]at h_t51
     have hfn:t.fin.getD g.2.2.1 false=false:=by simpa using h_t51
     have hre:runT t ws=([],false):=by rw[runT,if_pos hv,hfold];show(if _ then _ else _)=_;rw[if_neg (by rw[hfn];decide)]
     refine srR z3u fun _ K36=>?_
     iterate 2 refine z4f ?_
     refine s_n K36 ?_;refine z0j (z13 z3u (fun _ _ h=>h) (z8u _) [] [.tmp 4,.tmp 5] rfl ?_)
     all_goals exact uBj_0
    ·try simp only[dQ,reduceIte]at h_t51
     refine z0l ?_;apply K32
     have hfn:t.fin.getD g.2.2.1 false=true:=by simpa using h_t51
     have hel:=ht.endl _ hg0.2.1
     have hre:runT t ws=(g.2.1++t.ends.getD g.2.2.1 [],true):=by rw[runT,if_pos hv,hfold];show(if _ then _ else _)=_;rw[if_pos hfn]
     refine srR z3u fun _ K38=>?_
     iterate 2 refine zev ?_
     refine z8t ?_;refine exA (.c (.ds t.ends.length (.cells (lists t.ends)))) (as_eq rfl) ?_
     iterate 2 refine zev ?_
     refine z8t ?_;refine exA (.c (.ds (t.ends.getD g.2.2.1 []).length (.u8s (t.ends.getD g.2.2.1 [])))) (as_c (zic ⟨by omega,by omega⟩)) ?_;refine z8t ?_;intro cap6 hcap6;refine exI ?_
     iterate 2 refine zev ?_
     refine s_n K38 ?_;refine z0j (z13 z3u (fun _ _ h=>h) (z8u _) [1] [.tmp 4,.tmp 5] rfl ?_);rw[hre]
     all_goals exact uBj_0


end Go.Proofs.YtegdcifghaldoaaDoor

namespace Go.Proofs.YtegdcifghaldoaaDoor
set_option linter.all false
open Go.Ab Go.RowKit

section
variable {a b:Prop}
theorem uBk_0(h:a:=by
    repeat' (first|exact z00.to (z0b _)|exact z00.low (z0b _)|exact z00.to (z0e _)|exact z00.low (z0e _)|exact z00.to (z0c _)|exact z00.low (z0c _)|exact z00.to (z06 _)|exact z00.low (z06 _)|exact z00.to (z0m _)|exact z00.low (z0m _)|exact z00.to (z0d _)|exact z00.low (z0d _)|exact z00.to (z0f _ _)|exact z00.low (z0f _ _)|exact z00.to (z01 itmR _)|exact z00.low (z01 itmR _)|exact z00.to (z01 movR _)|exact z00.low (z01 movR _)|exact z00.to (z01 pceR _)|exact z00.low (z01 pceR _)|exact z00.to (z01 fndR _)|exact z00.low (z01 fndR _)|exact z00.to (z01 atmR _)|exact z00.low (z01 atmR _)|exact z00.to (z01 litR _)|exact z00.low (z01 litR _)|exact z00.to (z01 mdlR _)|exact z00.low (z01 mdlR _)|exact z0t (z0k z0p z05)|exact z0o (z0k z0p z05)|exact z0t z05|exact z0o z05|exact trivial|refine aI ?_ ?_|exact cC0|refine low_cons' ?_ ?_|exact cC1|fail)
    all_goals first|omega|(show(_:Bool)=_;first|(simp[zms, *];done)|(simp_all [zms];done))|(simp[-List.reduceReplicate];done)|(simp[-List.reduceReplicate]<;>omega)|skip):a:=h
theorem uBk_1(h:a:=by
    repeat' (first|exact z00.to (z0b _)|exact z00.low (z0b _)|exact z00.to (z0e _)|exact z00.low (z0e _)|exact z00.to (z0c _)|exact z00.low (z0c _)|exact z00.to (z06 _)|exact z00.low (z06 _)|exact z00.to (z0m _)|exact z00.low (z0m _)|exact z00.to (z0d _)|exact z00.low (z0d _)|exact z00.to (z0f _ _)|exact z00.low (z0f _ _)|exact z00.to (z01 itmR _)|exact z00.low (z01 itmR _)|exact z00.to (z01 movR _)|exact z00.low (z01 movR _)|exact z00.to (z01 pceR _)|exact z00.low (z01 pceR _)|exact z00.to (z01 fndR _)|exact z00.low (z01 fndR _)|exact z00.to (z01 atmR _)|exact z00.low (z01 atmR _)|exact z00.to (z01 litR _)|exact z00.low (z01 litR _)|exact z00.to (z01 mdlR _)|exact z00.low (z01 mdlR _)|exact z0t (z0k z0p z05)|exact z0o (z0k z0p z05)|exact z0t z05|exact z0o z05|exact trivial|refine aI ?_ ?_|exact cC0|refine low_cons' ?_ ?_|exact cC1|fail)
    all_goals first|omega|(show(_:Bool)=_;first|(simp[hb3, *];done)|(simp_all [hb3];done))|(simp[-List.reduceReplicate];done)|(simp[-List.reduceReplicate]<;>omega)|skip):a:=h
theorem uBk_2(h:a:=by
    repeat' (first|exact z00.to (z0b _)|exact z00.low (z0b _)|exact z00.to (z0e _)|exact z00.low (z0e _)|exact z00.to (z0c _)|exact z00.low (z0c _)|exact z00.to (z06 _)|exact z00.low (z06 _)|exact z00.to (z0m _)|exact z00.low (z0m _)|exact z00.to (z0d _)|exact z00.low (z0d _)|exact z00.to (z0f _ _)|exact z00.low (z0f _ _)|exact z00.to (z01 itmR _)|exact z00.low (z01 itmR _)|exact z00.to (z01 movR _)|exact z00.low (z01 movR _)|exact z00.to (z01 pceR _)|exact z00.low (z01 pceR _)|exact z00.to (z01 fndR _)|exact z00.low (z01 fndR _)|exact z00.to (z01 atmR _)|exact z00.low (z01 atmR _)|exact z00.to (z01 litR _)|exact z00.low (z01 litR _)|exact z00.to (z01 mdlR _)|exact z00.low (z01 mdlR _)|exact z0t (z0k z0p z05)|exact z0o (z0k z0p z05)|exact z0t z05|exact z0o z05|exact trivial|refine aI ?_ ?_|exact cC0|refine low_cons' ?_ ?_|exact cC1|fail)
    all_goals first|omega|(show(_:Bool)=_;first|(simp[zmq, *];done)|(simp_all [zmq];done))|(simp[-List.reduceReplicate];done)|(simp[-List.reduceReplicate]<;>omega)|skip):a:=h
theorem uBk_3(h:a:=by
    repeat' (first|exact z00.to (z0b _)|exact z00.low (z0b _)|exact z00.to (z0e _)|exact z00.low (z0e _)|exact z00.to (z0c _)|exact z00.low (z0c _)|exact z00.to (z06 _)|exact z00.low (z06 _)|exact z00.to (z0m _)|exact z00.low (z0m _)|exact z00.to (z0d _)|exact z00.low (z0d _)|exact z00.to (z0f _ _)|exact z00.low (z0f _ _)|exact z00.to (z01 itmR _)|exact z00.low (z01 itmR _)|exact z00.to (z01 movR _)|exact z00.low (z01 movR _)|exact z00.to (z01 pceR _)|exact z00.low (z01 pceR _)|exact z00.to (z01 fndR _)|exact z00.low (z01 fndR _)|exact z00.to (z01 atmR _)|exact z00.low (z01 atmR _)|exact z00.to (z01 litR _)|exact z00.low (z01 litR _)|exact z00.to (z01 mdlR _)|exact z00.low (z01 mdlR _)|exact z0t (z0k z0p z05)|exact z0o (z0k z0p z05)|exact z0t z05|exact z0o z05|exact trivial|refine aI ?_ ?_|exact cC0|refine low_cons' ?_ ?_|exact cC1|fail)
    all_goals first|omega|(show(_:Bool)=_;first|(simp[zmr, *];done)|(simp_all [zmr];done))|(simp[-List.reduceReplicate];done)|(simp[-List.reduceReplicate]<;>omega)|skip):a:=h
theorem uBk_4(h:a:=by
    repeat' (first|exact z00.to (z0b _)|exact z00.low (z0b _)|exact z00.to (z0e _)|exact z00.low (z0e _)|exact z00.to (z0c _)|exact z00.low (z0c _)|exact z00.to (z06 _)|exact z00.low (z06 _)|exact z00.to (z0m _)|exact z00.low (z0m _)|exact z00.to (z0d _)|exact z00.low (z0d _)|exact z00.to (z0f _ _)|exact z00.low (z0f _ _)|exact z00.to (z01 itmR _)|exact z00.low (z01 itmR _)|exact z00.to (z01 movR _)|exact z00.low (z01 movR _)|exact z00.to (z01 pceR _)|exact z00.low (z01 pceR _)|exact z00.to (z01 fndR _)|exact z00.low (z01 fndR _)|exact z00.to (z01 atmR _)|exact z00.low (z01 atmR _)|exact z00.to (z01 litR _)|exact z00.low (z01 litR _)|exact z00.to (z01 mdlR _)|exact z00.low (z01 mdlR _)|exact z0t (z0k z0p z05)|exact z0o (z0k z0p z05)|exact z0t z05|exact z0o z05|exact trivial|refine aI ?_ ?_|exact cC0|refine low_cons' ?_ ?_|exact cC1|fail)
    all_goals first|omega|(show(_:Bool)=_;first|(simp[atmB4, *];done)|(simp_all [atmB4];done))|(simp[-List.reduceReplicate];done)|(simp[-List.reduceReplicate]<;>omega)|skip):a:=h
theorem z2d(kZ:b)(h:HidB b→a:=by intro kZ;refine sXT ?_;refine DBd_3 ?_;refine exI ?_;exact kZ.out):a:=h ⟨kZ⟩
theorem z1h(kZ:b)(h:HidB b→a:=by intro kZ;refine sX ?_;refine DBd_3 ?_;exact kZ.out):a:=h ⟨kZ⟩
theorem z24(kZ:b)(h:HidB b→a:=by intro kZ;refine sXT ?_;refine DBd_3 ?_;exact kZ.out):a:=h ⟨kZ⟩
end
open Go.Aut
def Rul.inr(r:Rul):Prop:=inR .i64 r.base∧inR .i64 r.digits∧inR .i64 r.top∧inR .i64 r.over
def Atm.wfS(a:Atm):Prop:=a.wf∧(a.d.nc≤1152921504606846976∧a.d.next.length≤1152921504606846976∧a.d.acc.length≤1152921504606846976)∧(a.m.nc≤1152921504606846976∧a.m.moves.length≤1152921504606846976∧a.m.fin.length≤1152921504606846976∧a.m.ends.length≤1152921504606846976)∧a.q.inr
theorem zeroQ_eq{r:Rul}{bz:Bool}(h:bz=true↔rulC r=Cont.cells [.int .i64 0,.int .i64 0,.int .i64 0,.int .i64 0,.bool false]):bz=zeroQ r:=by
  rw[Bool.eq_iff_iff,h,zeroQ,decide_eq_true_eq]
  constructor
  · intro e
    simpa using e
  · rintro ⟨h1,h2,h3,h4,h5⟩
    rw[rulC,h1,h2,h3,h4,h5]
theorem zmq(a:Atm):atmB2 a=((!(decide (a.kind=3)&&decide (0< a.t.length)))&& !(decide (a.kind≠2)&&decide (a.kind≠4)&&decide (0< a.u.length))):=rfl
theorem zmr(a:Atm):atmB3 a=(((decide (a.kind=1)||zeroD a.d)&&(decide (a.kind=3)||zeroR a.ra a.rc))&&(decide (a.kind=4)||zeroT a.m)):=rfl
theorem zb8(ra:List Int)(rc:Int)(n:Nat):zes ra rc n=((decide (ra.length=n)&& !(ra.any fun x=> !z6y x))&&inI (-1000) 999 rc):=by
  unfold zes inI;rw[List.all_eq_not_any_not]
  cases decide (ra.length=n)<;>cases (ra.any fun x=> !z6y x)<;>simp
theorem zms(a:Atm)(n:Nat):atmB1 a n=((inI 1 5 a.kind&&z45 a.t n)&&z45 a.u n):=rfl
theorem pl3_(d:Dfa):z00 [.ds d.nc (.u64s d.cls),.ds d.next.length (.cells (rowsC d.next)),.ds d.acc.length (.bools d.acc)]:=z2a rfl (pl2 rfl rfl)
theorem plR_(ra:List Int)(rc:Int):z00 [.ds ra.length (.ints .i64 ra),.int .i64 rc]:=pl2 rfl rfl
theorem zdo(r:Rul):z00 [.int .i64 r.base,.int .i64 r.digits,.int .i64 r.top,.int .i64 r.over,.bool r.zeros]:=z2a rfl (z2a rfl (z2a rfl (pl2 rfl rfl)))
theorem inI_lt(v:Int)(k:Nat):inI 0 ((k:Int) - 1) v=(decide (0≤v)&&decide (v< (k:Int))):=by
  unfold inI;congr 1;rw[decide_eq_decide];omega
theorem zie(r:Rul):decide (zdk r=0)=r.okB:=by
  unfold zdk;split<;>simp_all
noncomputable def cva:Ctx:={ P:=Tryd.prog,ty:=ty,glob:=gl,fs:=[(52,.flat zb4),(33,.flat zka),(80,.flat zeroDS),(81,.flat zeroRS),(82,.flat zeroTS),(58,.flat zk1),(60,.flat zrw),(63,.flat zk8),(50,.flat hasACS)] }
theorem z1s:cva.OK:=⟨tyOK,⟨⟨z09 Tryd.func52 kQf rfl,z8e⟩,⟨z09 Tryd.func33 kQf rfl,zi9⟩,⟨z09 Tryd.func80 kQf rfl,zeroD_ok⟩,⟨z09 Tryd.func81 kQf rfl,zeroR_ok⟩,⟨z09 Tryd.func82 kQf rfl,zeroT_ok⟩,⟨z09 Tryd.func58 kQf rfl,zhx⟩,⟨z09 Tryd.func60 kQf rfl,zmn⟩,⟨z09 Tryd.func63 kQf rfl,zi5⟩,⟨z09 Tryd.func50 kQf rfl,hasAC_ok⟩,trivial⟩,mixed⟩
@[simp] theorem cva_ty:cva.ty=ty:=rfl

def zrz:QSpec:=fun vs K=>∃ (a:Atm) (nn kk:Nat),vs=[atmV a,.c (.int .i64 (nn:Int)),.c (.int .i64 (kk:Int))]∧(a.wf∧(a.d.nc≤1152921504606846976∧a.d.next.length≤1152921504606846976∧a.d.acc.length≤1152921504606846976)∧(a.m.nc≤1152921504606846976∧a.m.moves.length≤1152921504606846976∧a.m.fin.length≤1152921504606846976∧a.m.ends.length≤1152921504606846976)∧nn≤1152921504606846976∧kk≤1152921504606846976∧a.q.inr)∧K (.c (.bool (atmOK a nn kk)))
theorem zmt : z12 Tryd.prog gl 49 zrz:=by
 refine z0x (Γ:=cva) (N:=139) Tryd.func49 rfl rfl fun vs K h=>?_;obtain⟨a,nn,kk,rfl,⟨hw,hz,hzm,hn,hk,hq1,hq2,hq3,hq4⟩,h⟩:=h;refine⟨_,h,rfl,by simp,fun w I=>?_⟩;refine srR z1s fun _ K2=>?_
 iterate 2 refine sXBd_4 ?_
 refine s_n K2 ?_;refine seq_k fun _ K3=>?_;refine z0g ?_;refine z27 (α:=Unit) (fun _=>[(1,.c (.int .i64 (nn:Int))),(2,.c (.int .i64 (kk:Int))),(3,.c (.dp (.cells (atmL a)) 0)),(8,.c (.bool (!atmB1 a nn)))]) (fun _=>[]) 0 (fun _=>True) ?_ ?_
 ·refine srR z1s fun _ K5=>?_
  refine sXBd_4 ?_;refine z1h ?_;refine exA (.c (.int .i64 a.kind)) ((by first|exact as_eq rfl|(exfalso;omega))) ?_;refine z1h ?_;refine⟨a.kind,1,5,rfl,?_⟩;refine DBd_3 ?_
  first|refine exI ?_|(intro cap2 hcap2;refine exI ?_)
  iterate 2 refine sXBd_4 ?_
  refine s_n K5 ?_;refine z08 (b:=_) rfl (fun h_t8=>?_) (fun h_t8=>?_)
  ·try simp only[dQ,reduceIte]at h_t8
   refine z0l ?_;refine dnS [0] id () trivial [] uBk_0 uBk_0 uBk_0 uBk_0
  ·try simp only[dQ,reduceIte]at h_t8
   refine srR z1s fun _ K7=>?_;refine sXBd_4 ?_;refine z1h ?_;refine exA (.c (itmsX a.t)) ((by first|exact as_eq rfl|(exfalso;omega))) ?_;refine sXBd_4 ?_;refine z1h ?_;refine⟨a.t,nn,rfl,hw.1,?_⟩;refine DBd_3 ?_
   first|refine exI ?_|(intro cap3 hcap3;refine exI ?_)
   iterate 2 refine sXBd_4 ?_
   refine s_n K7 ?_;refine z08 (b:=_) rfl (fun h_t8=>?_) (fun h_t8=>?_)
   ·try simp only[dQ,reduceIte]at h_t8
    refine z0l ?_;refine dnS [0] id () trivial [] uBk_0 uBk_0 uBk_0 uBk_0
   ·try simp only[dQ,reduceIte]at h_t8
    refine z04 z1s fun _ K8=>?_;refine sXBd_4 ?_;refine z1h ?_;refine exA (.c (itmsX a.u)) ((by first|exact as_eq rfl|(exfalso;omega))) ?_;refine sXBd_4 ?_;refine z1h ?_;refine⟨a.u,nn,rfl,hw.2.1,?_⟩;refine DBd_3 ?_
    first|refine exI ?_|(intro cap3 hcap3;refine exI ?_)
    iterate 2 refine sXBd_4 ?_
    refine s_n K8 ?_;refine dnS [0] id () trivial [] uBk_0 uBk_0 uBk_0 uBk_0
 ·intro u hu
  clear hu;refine z08 (b:=_) rfl (fun h_t8=>?_) (fun h_t8=>?_)
  ·try simp only[dQ,reduceIte]at h_t8
   refine srR z1s fun _ K10=>?_;refine sXBd_4 ?_;refine s_n K10 ?_;refine z0j (z03 z1s (fun _ _ h=>h) (by first|rfl|assumption) [.tmp 6] rfl ?_);refine rtD ?_
   show SV.c (.bool _)=SV.c (.bool _)
   congr 2
   rw[atmOK,show atmB1 a nn=false by simpa using h_t8];rfl
  ·try simp only[dQ,reduceIte]at h_t8
   refine z27 (α:=Unit) (fun _=>[(1,.c (.int .i64 (nn:Int))),(2,.c (.int .i64 (kk:Int))),(3,.c (.dp (.cells (atmL a)) 0)),(23,.c (.bool (!atmB2 a)))]) (fun _=>[]) 0 (fun _=>True) ?_ ?_
   ·refine z27 (α:=Unit) (fun _=>[(1,.c (.int .i64 (nn:Int))),(2,.c (.int .i64 (kk:Int))),(3,.c (.dp (.cells (atmL a)) 0)),(23,.c (.bool (!(!(decide (a.kind=3)&&decide (0< a.t.length))))))]) (fun _=>[]) 0 (fun _=>True) ?_ ?_
    ·refine z04 z1s fun _ K11=>?_
     refine sXBd_4 ?_;refine z1h ?_;refine exA (.c (.int .i64 a.kind)) ((by first|exact as_eq rfl|(exfalso;omega))) ?_;refine sXBd_4 ?_;refine z1h ?_;refine exB (fun hb3=>?_) (fun hb3=>?_)
     ·try simp only[dQ,reduceIte]at hb3
      refine z2d ?_;refine z24 ?_;refine exA (.c (itmsX a.t)) ((by first|exact as_eq rfl|(exfalso;omega))) ?_
      iterate 2 refine z2d ?_
      iterate 2 refine sXBd_4 ?_
      refine s_n K11 ?_;refine dnS [] id () trivial [] uBk_1 uBk_1 uBk_1 uBk_1
     ·try simp only[dQ,reduceIte]at hb3
      iterate 4 refine sN ?_
      iterate 2 refine sXBd_4 ?_
      refine s_n K11 ?_;refine dnS [] id () trivial [] uBk_1 uBk_1 uBk_1 uBk_1
    ·intro u hu
     clear hu;refine z08 (b:=_) rfl (fun h_t23=>?_) (fun h_t23=>?_)
     ·try simp only[dQ,reduceIte]at h_t23
      refine z0l ?_;refine dnS [] id () trivial [] uBk_2 uBk_2 uBk_2 uBk_2
     ·try simp only[dQ,reduceIte]at h_t23
      refine z04 z1s fun _ K12=>?_;refine sXBd_4 ?_;refine z1h ?_;refine exA (.c (.int .i64 a.kind)) ((by first|exact as_eq rfl|(exfalso;omega))) ?_;refine sXBd_4 ?_;refine z1h ?_;refine exB (fun hb3=>?_) (fun hb3=>?_)
      ·try simp only[dQ,reduceIte]at hb3
       refine z2d ?_;refine z24 ?_;refine exA (.c (.int .i64 a.kind)) ((by first|exact as_eq rfl|(exfalso;omega))) ?_;refine z2d ?_;refine sXBd_4 ?_;refine z1h ?_;refine exB (fun hb8=>?_) (fun hb8=>?_)
       ·try simp only[dQ,reduceIte]at hb8
        refine z2d ?_;refine z24 ?_;refine exA (.c (itmsX a.u)) ((by first|exact as_eq rfl|(exfalso;omega))) ?_
        iterate 2 refine z2d ?_
        iterate 2 refine sXBd_4 ?_
        refine s_n K12 ?_;refine dnS [] id () trivial [] uBk_2 uBk_2 uBk_2 uBk_2
       ·try simp only[dQ,reduceIte]at hb8
        iterate 4 refine sN ?_
        iterate 2 refine sXBd_4 ?_
        refine s_n K12 ?_;refine dnS [] id () trivial [] uBk_2 uBk_2 uBk_2 uBk_2
      ·try simp only[dQ,reduceIte]at hb3
       iterate 3 refine sN ?_
       refine sXBd_4 ?_;refine z1h ?_;refine exB (fun hb8=>?_) (fun hb8=>?_)
       ·exfalso;simp at hb8
       iterate 4 refine sN ?_
       iterate 2 refine sXBd_4 ?_
       refine s_n K12 ?_;refine dnS [] id () trivial [] uBk_2 uBk_2 uBk_2 uBk_2
   ·intro u hu
    clear hu;refine z08 (b:=_) rfl (fun h_t23=>?_) (fun h_t23=>?_)
    ·try simp only[dQ,reduceIte]at h_t23
     refine srR z1s fun _ K14=>?_;refine sXBd_4 ?_;refine s_n K14 ?_;refine z0j (z03 z1s (fun _ _ h=>h) (by first|rfl|assumption) [.tmp 6] rfl ?_);refine rtD ?_
     show SV.c (.bool _)=SV.c (.bool _)
     congr 2
     rw[atmOK,show atmB2 a=false by simpa using h_t23,Bool.and_false];rfl
    ·try simp only[dQ,reduceIte]at h_t23
     refine z27 (α:=Unit) (fun _=>[(1,.c (.int .i64 (nn:Int))),(2,.c (.int .i64 (kk:Int))),(3,.c (.dp (.cells (atmL a)) 0)),(47,.c (.bool (!atmB3 a)))]) (fun _=>[]) 0 (fun _=>True) ?_ ?_
     ·refine z27 (α:=Unit) (fun _=>[(1,.c (.int .i64 (nn:Int))),(2,.c (.int .i64 (kk:Int))),(3,.c (.dp (.cells (atmL a)) 0)),(47,.c (.bool (!(decide (a.kind=1)||zeroD a.d))))]) (fun _=>[]) 0 (fun _=>True) ?_ ?_
      ·refine z04 z1s fun _ K15=>?_
       refine sXBd_4 ?_;refine z1h ?_;refine exA (.c (.int .i64 a.kind)) ((by first|exact as_eq rfl|(exfalso;omega))) ?_;refine sXBd_4 ?_;refine z1h ?_;refine exB (fun hb3=>?_) (fun hb3=>?_)
       ·try simp only[dQ,reduceIte]at hb3
        refine z2d ?_;refine z24 ?_;refine exA (dfaV a.d) ((by first|exact as_eq rfl|(exfalso;omega))) ?_;refine z24 ?_
        try refine aI (z00.noclo (pl3_ a.d)) ?_
        refine⟨a.d,rfl,hz,?_⟩;refine DBd_3 ?_
        first|refine exI ?_|(intro cap6 hcap6;refine exI ?_)
        refine z2d ?_
        iterate 2 refine sXBd_4 ?_
        refine s_n K15 ?_;refine dnS [] id () trivial [] uBk_1 uBk_1 uBk_1 uBk_1
       ·try simp only[dQ,reduceIte]at hb3
        iterate 4 refine sN ?_
        iterate 2 refine sXBd_4 ?_
        refine s_n K15 ?_;refine dnS [] id () trivial [] uBk_1 uBk_1 uBk_1 uBk_1
      ·intro u hu
       clear hu;refine z08 (b:=_) rfl (fun h_t47=>?_) (fun h_t47=>?_)
       ·try simp only[dQ,reduceIte]at h_t47
        refine z0l ?_;refine dnS [] id () trivial [] uBk_3 uBk_3 uBk_3 uBk_3
       ·try simp only[dQ,reduceIte]at h_t47
        refine z27 (α:=Unit) (fun _=>[(1,.c (.int .i64 (nn:Int))),(2,.c (.int .i64 (kk:Int))),(3,.c (.dp (.cells (atmL a)) 0)),(47,.c (.bool (!(decide (a.kind=3)||zeroR a.ra a.rc))))]) (fun _=>[]) 0 (fun _=>True) ?_ ?_
        ·refine z04 z1s fun _ K16=>?_
         refine sXBd_4 ?_;refine z1h ?_;refine exA (.c (.int .i64 a.kind)) ((by first|exact as_eq rfl|(exfalso;omega))) ?_;refine sXBd_4 ?_;refine z1h ?_;refine exB (fun hb3=>?_) (fun hb3=>?_)
         ·try simp only[dQ,reduceIte]at hb3
          refine z2d ?_;refine z24 ?_;refine exA (.agg (.cells [.ds a.ra.length (.ints .i64 a.ra),.int .i64 a.rc])) ((by first|exact as_eq rfl|(exfalso;omega))) ?_;refine z24 ?_
          try refine aI (z00.noclo (plR_ a.ra a.rc)) ?_
          refine⟨a.ra,a.rc,rfl,hw.2.2.2.1,?_⟩;refine DBd_3 ?_
          first|refine exI ?_|(intro cap6 hcap6;refine exI ?_)
          refine z2d ?_
          iterate 2 refine sXBd_4 ?_
          refine s_n K16 ?_;refine dnS [] id () trivial [] uBk_1 uBk_1 uBk_1 uBk_1
         ·try simp only[dQ,reduceIte]at hb3
          iterate 4 refine sN ?_
          iterate 2 refine sXBd_4 ?_
          refine s_n K16 ?_;refine dnS [] id () trivial [] uBk_1 uBk_1 uBk_1 uBk_1
        ·intro u hu
         clear hu;refine z08 (b:=_) rfl (fun h_t47=>?_) (fun h_t47=>?_)
         ·try simp only[dQ,reduceIte]at h_t47
          refine z0l ?_;refine dnS [] id () trivial [] uBk_3 uBk_3 uBk_3 uBk_3
         ·try simp only[dQ,reduceIte]at h_t47
          refine z04 z1s fun _ K17=>?_;refine sXBd_4 ?_;refine z1h ?_;refine exA (.c (.int .i64 a.kind)) ((by first|exact as_eq rfl|(exfalso;omega))) ?_;refine sXBd_4 ?_;refine z1h ?_;refine exB (fun hb3=>?_) (fun hb3=>?_)
          ·try simp only[dQ,reduceIte]at hb3
           refine z2d ?_;refine z24 ?_;refine exA (traV a.m) ((by first|exact as_eq rfl|(exfalso;omega))) ?_;refine z24 ?_
           try refine aI (z00.noclo (z0m a.m)) ?_
           refine⟨a.m,rfl,hzm,?_⟩;refine DBd_3 ?_
           first|refine exI ?_|(intro cap6 hcap6;refine exI ?_)
           refine z2d ?_
           iterate 2 refine sXBd_4 ?_
           refine s_n K17 ?_;refine dnS [] id () trivial [] uBk_3 uBk_3 uBk_3 uBk_3
          ·try simp only[dQ,reduceIte]at hb3
           iterate 4 refine sN ?_
           iterate 2 refine sXBd_4 ?_
           refine s_n K17 ?_;refine dnS [] id () trivial [] uBk_3 uBk_3 uBk_3 uBk_3
     ·intro u hu
      clear hu;refine z08 (b:=_) rfl (fun h_t47=>?_) (fun h_t47=>?_)
      ·try simp only[dQ,reduceIte]at h_t47
       refine srR z1s fun _ K19=>?_;refine sXBd_4 ?_;refine s_n K19 ?_;refine z0j (z03 z1s (fun _ _ h=>h) (by first|rfl|assumption) [.tmp 6] rfl ?_);refine rtD ?_
       show SV.c (.bool _)=SV.c (.bool _)
       congr 2
       rw[atmOK,show atmB3 a=false by simpa using h_t47,Bool.and_false];rfl
      ·try simp only[dQ,reduceIte]at h_t47
       refine z27 (α:=Unit) (fun _=>[(1,.c (.int .i64 (nn:Int))),(2,.c (.int .i64 (kk:Int))),(3,.c (.dp (.cells (atmL a)) 0)),(75,.c (.bool (!atmB4 a)))]) (fun _=>[]) 0 (fun _=>True) ?_ ?_
       ·refine z04 z1s fun _ K20=>?_
        refine sXBd_4 ?_;refine z1h ?_;refine exA (.c (.int .i64 a.kind)) ((by first|exact as_eq rfl|(exfalso;omega))) ?_;refine sXBd_4 ?_;refine z1h ?_;refine exB (fun hb3=>?_) (fun hb3=>?_)
        ·try simp only[dQ,reduceIte]at hb3
         refine z2d ?_;refine z24 ?_;refine exA (rulV a.q) ((by first|exact as_eq rfl|(exfalso;omega))) ?_;refine z2d ?_;refine z24 ?_;refine aI ⟨rfl,⟨rfl,hq1⟩,⟨rfl,hq2⟩,⟨rfl,hq3⟩,⟨rfl,hq4⟩,trivial,trivial⟩ ?_;refine aI ⟨rfl,⟨rfl,z34.mpr ⟨by decide,by decide⟩⟩,⟨rfl,z34.mpr ⟨by decide,by decide⟩⟩,⟨rfl,z34.mpr ⟨by decide,by decide⟩⟩,⟨rfl,z34.mpr ⟨by decide,by decide⟩⟩,trivial,trivial⟩ ?_;intro bz hbz;obtain rfl:bz=zeroQ a.q:=zeroQ_eq hbz;refine exI ?_;refine z24 ?_;refine exB (fun hb8=>?_) (fun hb8=>?_)
         ·try simp only[dQ,reduceIte]at hb8
          iterate 3 refine sN ?_
          refine z2d ?_
          iterate 2 refine sXBd_4 ?_
          refine s_n K20 ?_;refine dnS [] id () trivial [] uBk_4 uBk_4 uBk_4 uBk_4
         ·try simp only[dQ,reduceIte]at hb8
          refine z2d ?_;refine z24 ?_;refine exA (.c (.int .i64 a.n)) ((by first|exact as_eq rfl|(exfalso;omega))) ?_
          iterate 2 refine z2d ?_
          iterate 2 refine sXBd_4 ?_
          refine s_n K20 ?_;refine dnS [] id () trivial [] uBk_4 uBk_4 uBk_4 uBk_4
        ·try simp only[dQ,reduceIte]at hb3
         iterate 5 refine sN ?_
         iterate 3 refine sU ?_
         refine sN ?_
         iterate 2 refine sXBd_4 ?_
         refine s_n K20 ?_;refine dnS [] id () trivial [] uBk_4 uBk_4 uBk_4 uBk_4
       ·intro u hu
        clear hu;refine z08 (b:=_) rfl (fun h_t75=>?_) (fun h_t75=>?_)
        ·try simp only[dQ,reduceIte]at h_t75
         refine srR z1s fun _ K22=>?_;refine sXBd_4 ?_;refine s_n K22 ?_;refine z0j (z03 z1s (fun _ _ h=>h) (by first|rfl|assumption) [.tmp 6] rfl ?_);refine rtD ?_
         show SV.c (.bool _)=SV.c (.bool _)
         congr 2
         rw[atmOK,show atmB4 a=false by simpa using h_t75,Bool.and_false];rfl
        ·try simp only[dQ,reduceIte]at h_t75
         refine z0l ?_;refine z07 ?_;apply K3;refine seq_k fun _ K23=>?_
         have hall:atmOK a nn kk=atmB5 a nn kk:=by rw[atmOK,show atmB1 a nn=true by simpa using h_t8,show atmB2 a=true by simpa using h_t23,show atmB3 a=true by simpa using h_t47,show atmB4 a=true by simpa using h_t75];rfl
         refine srR z1s fun _ K25=>?_;refine sXBd_4 ?_;refine z1h ?_;refine exA (.c (.int .i64 a.kind)) ((by first|exact as_eq rfl|(exfalso;omega))) ?_;refine s_n K25 ?_;refine z0g ?_;refine srR z1s fun _ K27=>?_
         iterate 2 refine sXBd_4 ?_
         refine s_n K27 ?_;refine z08 (b:=_) rfl (fun h_t92=>?_) (fun h_t92=>?_)
         ·try simp only[dQ,reduceIte]at h_t92
          refine srR z1s fun _ K29=>?_;refine sXBd_4 ?_;refine z1h ?_;refine exA (dfaV a.d) ((by first|exact as_eq rfl|(exfalso;omega))) ?_;refine z1h ?_
          try refine aI (z00.noclo (pl3_ a.d)) ?_
          refine⟨a.d,rfl,hw.2.2.1,?_⟩;refine DBd_3 ?_
          first|refine exI ?_|(intro cap2 hcap2;refine exI ?_)
          refine sXBd_4 ?_;refine s_n K29 ?_;refine z0j (z03 z1s (fun _ _ h=>h) (by first|rfl|assumption) [.tmp 6] rfl ?_);refine rtD ?_
          show SV.c (.bool _)=SV.c (.bool _)
          congr 2
          rw[hall,atmB5,if_pos h_t92]
         ·try simp only[dQ,reduceIte]at h_t92
          refine srR z1s fun _ K31=>?_
          iterate 2 refine sXBd_4 ?_
          refine s_n K31 ?_;refine z08 (b:=_) rfl (fun h_t97=>?_) (fun h_t97=>?_)
          ·try simp only[dQ,reduceIte]at h_t97
           refine srR z1s fun _ K33=>?_;refine sXBd_4 ?_;refine z1h ?_;refine exA (traV a.m) ((by first|exact as_eq rfl|(exfalso;omega))) ?_;refine z1h ?_
           try refine aI (z00.noclo (z0m a.m)) ?_
           refine⟨a.m,rfl,hw.2.2.2.2,?_⟩;refine DBd_3 ?_
           first|refine exI ?_|(intro cap2 hcap2;refine exI ?_)
           refine sXBd_4 ?_;refine s_n K33 ?_;refine z0j (z03 z1s (fun _ _ h=>h) (by first|rfl|assumption) [.tmp 6] rfl ?_);refine rtD ?_
           show SV.c (.bool _)=SV.c (.bool _)
           congr 2
           rw[hall,atmB5,if_neg h_t92,if_pos h_t97]
          ·try simp only[dQ,reduceIte]at h_t97
           refine srR z1s fun _ K35=>?_
           iterate 2 refine sXBd_4 ?_
           refine s_n K35 ?_;refine z08 (b:=_) rfl (fun h_t102=>?_) (fun h_t102=>?_)
           ·try simp only[dQ,reduceIte]at h_t102
            refine srR z1s fun _ K37=>?_;refine sXBd_4 ?_;refine z1h ?_;refine exA (rulV a.q) ((by first|exact as_eq rfl|(exfalso;omega))) ?_;refine z1h ?_
            try refine aI (z00.noclo (zdo a.q)) ?_
            refine⟨a.q,rfl,?_⟩;refine DBd_3 ?_
            first|refine exI ?_|(intro cap2 hcap2;refine exI ?_)
            refine sXBd_4 ?_;refine z1h ?_;refine exB (fun hb4=>?_) (fun hb4=>?_)
            ·try simp only[dQ,reduceIte]at hb4
             refine z2d ?_;refine z24 ?_;refine exA (.c (.int .i64 a.n)) ((by first|exact as_eq rfl|(exfalso;omega))) ?_
             iterate 2 refine z2d ?_
             refine z24 ?_;refine⟨a.n,0,(kk:Int) - 1,rfl,?_⟩;refine DBd_3 ?_
             first|refine exI ?_|(intro cap9 hcap9;refine exI ?_)
             iterate 2 refine sXBd_4 ?_
             refine s_n K37 ?_;refine z0j (z03 z1s (fun _ _ h=>h) (by first|rfl|assumption) [.tmp 6] rfl ?_);refine rtD ?_
             show SV.c (.bool _)=SV.c (.bool _)
             congr 2
             try simp only[if_true,reduceIte]
             have hok:a.q.okB=true:=by rw[←zie];simpa using hb4
             rw[hall,atmB5,if_neg h_t92,if_neg h_t97,if_pos h_t102,hok,inI_lt,Bool.true_and]
            ·try simp only[dQ,reduceIte]at hb4
             iterate 5 refine sN ?_
             iterate 2 refine sXBd_4 ?_
             refine s_n K37 ?_;refine z0j (z03 z1s (fun _ _ h=>h) (by first|rfl|assumption) [.tmp 6] rfl ?_);refine rtD ?_
             show SV.c (.bool _)=SV.c (.bool _)
             congr 2
             have hok:a.q.okB=false:=by rw[←zie];simpa using hb4
             rw[hall,atmB5,if_neg h_t92,if_neg h_t97,if_pos h_t102,hok];simp
           ·try simp only[dQ,reduceIte]at h_t102
            refine srR z1s fun _ K39=>?_
            iterate 2 refine sXBd_4 ?_
            refine s_n K39 ?_;refine z08 (b:=_) rfl (fun h_t115=>?_) (fun h_t115=>?_)
            ·try simp only[dQ,reduceIte]at h_t115
             refine srR z1s fun _ K41=>?_;refine sXBd_4 ?_;refine s_n K41 ?_;refine srR z1s fun _ K43=>?_
             iterate 2 refine sXBd_4 ?_
             refine z1h ?_;refine exA (.c (.ds a.ra.length (.ints .i64 a.ra))) ((by first|exact as_eq rfl|(exfalso;omega))) ?_
             iterate 5 refine sXBd_4 ?_
             refine z1h ?_;refine exB (fun hb8=>?_) (fun hb8=>?_)
             ·try simp only[dQ,reduceIte]at hb8
              iterate 2 refine z2d ?_
              refine z24 ?_;refine exA (.c (.ds a.ra.length (.ints .i64 a.ra))) ((by first|exact as_eq rfl|(exfalso;omega))) ?_;refine z2d ?_;refine z24 ?_;refine⟨a.ra,rfl,⟨hw.2.2.2.1,trivial⟩,?_⟩;refine DBd_3 ?_
              first|refine exI ?_|(intro cap13 hcap13;refine exI ?_)
              refine z2d ?_;refine sXBd_4 ?_;refine z1h ?_;refine exB (fun hb16=>?_) (fun hb16=>?_)
              ·try simp only[dQ,reduceIte]at hb16
               iterate 2 refine z2d ?_
               refine z24 ?_;refine exA (.c (.int .i64 a.rc)) ((by first|exact as_eq rfl|(exfalso;omega))) ?_;refine z24 ?_;refine⟨a.rc,-1000,999,rfl,?_⟩;refine DBd_3 ?_
               first|refine exI ?_|(intro cap20 hcap20;refine exI ?_)
               iterate 2 refine sXBd_4 ?_
               refine s_n K43 ?_;refine z0j (z03 z1s (fun _ _ h=>h) (by first|rfl|assumption) [.tmp 6] rfl ?_);refine rtD ?_
               show SV.c (.bool _)=SV.c (.bool _)
               congr 2
               try simp only[if_true,reduceIte]
               rw[hall,atmB5,if_neg h_t92,if_neg h_t97,if_neg h_t102,if_pos h_t115,zb8,decide_eq_true (show a.ra.length=nn+kk by omega),show(a.ra.any fun x=> !z6y x)=false by simpa using hb16];rfl
              ·try simp only[dQ,reduceIte]at hb16
               iterate 4 refine sN ?_
               iterate 2 refine sXBd_4 ?_
               refine s_n K43 ?_;refine z0j (z03 z1s (fun _ _ h=>h) (by first|rfl|assumption) [.tmp 6] rfl ?_);refine rtD ?_
               show SV.c (.bool _)=SV.c (.bool _)
               congr 2
               rw[hall,atmB5,if_neg h_t92,if_neg h_t97,if_neg h_t102,if_pos h_t115,zb8,show(a.ra.any fun x=> !z6y x)=true by simpa using hb16];simp
             ·try simp only[dQ,reduceIte]at hb8
              iterate 6 refine sN ?_
              refine sXBd_4 ?_;refine z1h ?_;refine exB (fun hb16=>?_) (fun hb16=>?_)
              ·exfalso;simp at hb16
              iterate 4 refine sN ?_
              iterate 2 refine sXBd_4 ?_
              refine s_n K43 ?_;refine z0j (z03 z1s (fun _ _ h=>h) (by first|rfl|assumption) [.tmp 6] rfl ?_);refine rtD ?_
              show SV.c (.bool _)=SV.c (.bool _)
              congr 2
              rw[hall,atmB5,if_neg h_t92,if_neg h_t97,if_neg h_t102,if_pos h_t115,zb8,decide_eq_false (show ¬ a.ra.length=nn+kk by omega)];simp
            ·try simp only[dQ,reduceIte]at h_t115
             refine z0l ?_;refine z07 ?_;apply K23;refine srR z1s fun _ K45=>?_;refine sXBd_4 ?_;refine s_n K45 ?_;refine z0j (z03 z1s (fun _ _ h=>h) (by first|rfl|assumption) [.tmp 6] rfl ?_);refine rtD ?_
             show SV.c (.bool _)=SV.c (.bool _)
             congr 2
             rw[hall,atmB5,if_neg h_t92,if_neg h_t97,if_neg h_t102,if_neg h_t115]


end Go.Proofs.YtegdcifghaldoaaDoor

namespace Go.Proofs.YtegdcifghaldoaaDoor
set_option linter.all false
open Go.Ab Go.RowKit

section
variable {a b:Prop}
theorem qBl1(h:a:=by first|exact vcA|(simp<;>omega)|(refine⟨by omega,by omega,by omega⟩)|exact vcB):a:=h
theorem qBl2(h:a:=by first|exact vcA|(simp<;>omega)|(simp only[Int.toNat_natCast,Nat.mul_one];exact z34.mpr ⟨by omega,by omega⟩)|exact vcB):a:=h
theorem qBl3(h:a:=by first|exact vcA|(simp<;>omega)|(simp only[Int.toNat_natCast,Nat.mul_one];exact⟨by omega,by omega,trivial⟩)|exact vcB):a:=h
theorem qBl4(h:a:=by first|exact vcA|(simp[hpl,List.length_set]<;>omega)|exact Nat.le_of_ble_eq_true rfl|(show _< (z0n _ _).length;rw[z0u itmR (fun _ _=>trivial)];omega)|(show _≤(z0n _ _).length;rw[z0u itmR (fun _ _=>trivial)];omega)|(show _< (z64 _ _ _).length;rw[hpl];omega)|(show _< (List.set _ _ _).length;rw[List.length_set,hpl];omega)|(show _< (lists _).length;rw[z1p];omega)|exact vcB):a:=h
theorem uBl_0(h:a:=by
    repeat' (first|exact trivial|refine aI ?_ ?_|exact cC0|refine low_cons' ?_ ?_|exact cC1|fail)
    all_goals first|omega|(simp;done)|(simp<;>omega)|skip):a:=h
theorem uBl_1(h:a:=by
    repeat' (first|exact trivial|refine aI ?_ ?_|exact cC0|refine low_cons' ?_ ?_|exact cC1|fail)
    all_goals first|omega|(simp only[Int.toNat_natCast,Nat.mul_one];rw[z57 ps k hkl,List.length_append];push_cast;rfl)|(rw[z57 ps k hkl,List.length_append];push_cast;rfl)|(simp[catP];done)|(simp<;>omega)|skip):a:=h
theorem uBl_3(h:a:=by
    repeat' (first|exact trivial|refine aI ?_ ?_|exact cC0|refine low_cons' ?_ ?_|exact cC1|fail)
    all_goals first|omega|(simp only[Int.toNat_natCast,Nat.mul_one];rw[z57 ps k.1 hkl,List.length_append];done)|(show(_:List UInt8)=_;simp only[Int.toNat_natCast,Nat.mul_one];first|exact(z57 ps k.1 hkl).symm|exact z57 ps k.1 hkl)|(show(_:List UInt8)=_;first|rfl|(rw[z57 ps k.1 hkl];done)|(simp[catP];done))|(simp[catP];done)|(simp<;>omega)|skip):a:=h
theorem uBl_4(h:a:=by
    repeat' (first|exact z00.isD (z0d _)|exact z00.low (z3e _ _ _)|exact z00.to (z3e _ _ _)|exact hto|exact zju (z00.low (z3e _ _ _)) trivial|exact zju (z00.low (z3e _ _ _)) (by decide)|exact hnl|exact z00.to (z0b _)|exact z00.low (z0b _)|exact z00.to (z0e _)|exact z00.low (z0e _)|exact z00.to (z0c _)|exact z00.low (z0c _)|exact z00.to (z06 _)|exact z00.low (z06 _)|exact z00.to (z0m _)|exact z00.low (z0m _)|exact z00.to (z0d _)|exact z00.low (z0d _)|exact z00.to (z0f _ _)|exact z00.low (z0f _ _)|exact z00.to (z01 itmR _)|exact z00.low (z01 itmR _)|exact z00.to (z01 movR _)|exact z00.low (z01 movR _)|exact z00.to (z01 pceR _)|exact z00.low (z01 pceR _)|exact z00.to (z01 fndR _)|exact z00.low (z01 fndR _)|exact z00.to (z01 atmR _)|exact z00.low (z01 atmR _)|exact z00.to (z01 litR _)|exact z00.low (z01 litR _)|exact z00.to (z01 mdlR _)|exact z00.low (z01 mdlR _)|exact z0t (z0k z0p z05)|exact z0o (z0k z0p z05)|exact z0t z05|exact z0o z05|exact trivial|refine aI ?_ ?_|exact cC0|refine low_cons' ?_ ?_|exact cC1|fail)
    all_goals first|omega|(refine parts_to hx hiw (by omega) ?_;exact⟨List.mem_singleton.2 rfl,trivial,Nat.le_refl _,Nat.succ_pos _,rfl,rfl⟩)|(rw[show((t.length:Nat):Int).toNat=t.length from Int.toNat_natCast _];show(Cont.cells (List.replicate t.length Cell.nils)).to _ _ _ _ _;rw[←zds t s];exact z00.to (z3e _ _ _))|(show allTo _ _ _;rw[zdt hx,hiw];(try rw[show(0+(k:Int).toNat*1)=k by omega]);(try rw[List.set_set]);refine zdr (z00.to (z3e _ _ _)) k ?_;repeat' (first|refine aI ?_ ?_|rfl|exact trivial|decide|omega|exact Nat.le_refl _))|(simp[zds,lists];done)|(obtain rfl:k=t.length:=(by omega);simp;done)|(show(_:Cont)=_;rw[if_pos ⟨rfl,by simp[show(cwd.ty 28).size=1 from rfl]⟩];done)|(simp[show(cwd.ty 28).size=1 from rfl];done)|(simp[-List.reduceReplicate];done)|(simp[-List.reduceReplicate]<;>omega)|skip):a:=h
theorem DBl_2(kZ:b)(h:HidB b→a:=by intro kZ;(repeat first|refine aI qBl1 ?_|refine z0h qBl1 ?_|refine z0a qBl1 ?_|refine z0q qBl1 ?_|refine z0i ?_);exact kZ.out):a:=h ⟨kZ⟩
theorem sXBl_3(kZ:b)(h:HidB b→a:=by intro kZ;refine sX ?_;refine DBl_2 ?_;refine exI ?_;exact kZ.out):a:=h ⟨kZ⟩
theorem DBl_4(kZ:b)(h:HidB b→a:=by intro kZ;(repeat first|refine aI qBl2 ?_|refine z0h qBl2 ?_|refine z0a qBl2 ?_|refine z0q qBl2 ?_|refine z0i ?_);exact kZ.out):a:=h ⟨kZ⟩
theorem sXBl_5(kZ:b)(h:HidB b→a:=by intro kZ;refine sX ?_;refine DBl_4 ?_;refine exI ?_;exact kZ.out):a:=h ⟨kZ⟩
theorem DBl_6(kZ:b)(h:HidB b→a:=by intro kZ;(repeat first|refine aI qBl3 ?_|refine z0h qBl3 ?_|refine z0a qBl3 ?_|refine z0q qBl3 ?_|refine z0i ?_);exact kZ.out):a:=h ⟨kZ⟩
theorem sXBl_7(kZ:b)(h:HidB b→a:=by intro kZ;refine sX ?_;refine DBl_6 ?_;refine exI ?_;exact kZ.out):a:=h ⟨kZ⟩
theorem DBl_8(kZ:b)(h:HidB b→a:=by intro kZ;(repeat first|refine aI qBl4 ?_|refine z0h qBl4 ?_|refine z0a qBl4 ?_|refine z0q qBl4 ?_|refine z0i ?_);exact kZ.out):a:=h ⟨kZ⟩
theorem z4b(kZ:b)(h:HidB b→a:=by intro kZ;refine sX ?_;refine DBl_8 ?_;refine exI ?_;exact kZ.out):a:=h ⟨kZ⟩
theorem zmu(kZ:b)(h:HidB b→a:=by intro kZ;refine sX0 ?_;refine DBl_8 ?_;refine exI ?_;exact kZ.out):a:=h ⟨kZ⟩
theorem sXEBl_11(kZ:b)(h:HidB b→a:=by intro kZ;refine sX ?_;refine DBl_2 ?_;exact kZ.out):a:=h ⟨kZ⟩
theorem sXEBl_13(kZ:b)(h:HidB b→a:=by intro kZ;refine sX ?_;refine DBl_6 ?_;exact kZ.out):a:=h ⟨kZ⟩
theorem z8v(kZ:b)(h:HidB b→a:=by intro kZ;refine sX ?_;refine DBl_8 ?_;exact kZ.out):a:=h ⟨kZ⟩
end
open Go.Aut
def catP(ps:List (List UInt8))(k:Nat):List UInt8:=(ps.take k).flatten
theorem z57(ps:List (List UInt8))(k:Nat)(h:k< ps.length):catP ps (k+1)=catP ps k++ps.getD k []:=by
  rw[catP,catP,List.take_add_one,List.flatten_append,List.getD_eq_getElem?_getD,List.getElem?_eq_getElem h];simp
theorem zdp(ps:List (List UInt8)):catP ps ps.length=ps.flatten:=by rw[catP,List.take_length]
theorem zdq(ps:List (List UInt8))(k:Nat):(catP ps k).length≤ps.flatten.length:=by
  have:ps.flatten=catP ps k++(ps.drop k).flatten:=by rw[catP, ←List.flatten_append,List.take_append_drop]
  rw[this,List.length_append];omega
abbrev zif(ps:List (List UInt8)):SV:=.c (.ds ps.length (.cells (lists ps)))
theorem zdr{f:Cell→Cell→Prop}:∀ {l m:List Cell},allTo f l m→∀ (k:Nat) {x y:Cell},f x y→allTo f (l.set k x) (m.set k y)
  |[],[],h,k,x,y,hx=>by cases k<;>exact h
  |a::l,b::m,h,0,x,y,hx=>⟨hx,h.2⟩
  |a::l,b::m,h,k+1,x,y,hx=>⟨h.1,zdr h.2 k hx⟩
  |[],_::_,h,_,_,_,_=>h.elim
  |_::_,[],h,_,_,_,_=>h.elim
def z64(t:List Itm)(s:List (List UInt8))(k:Nat):List Cell:=lists ((t.take k).map (itmW s))++List.replicate (t.length - k) .nils
theorem zoq{t:List Itm}{s:List (List UInt8)}{k:Nat}(h:k≤t.length):(z64 t s k).length=t.length:=by simp[z64];omega
theorem zds(t:List Itm)(s:List (List UInt8)):z64 t s 0=List.replicate t.length .nils:=by simp[z64,lists]
theorem zor(t:List Itm)(s:List (List UInt8)):z64 t s t.length=lists (t.map (itmW s)):=by simp[z64]
theorem z3e(t:List Itm)(s:List (List UInt8))(k:Nat):z00 (z64 t s k):=zhm (z0d _) (zq7 rfl _)
theorem zdt{t:List Itm}{s:List (List UInt8)}{k:Nat}{x:Itm}(hx:t[k]? =some x):z64 t s (k+1)=(z64 t s k).set k (.ds (itmW s x).length (.u8s (itmW s x))):=by
  have hk:k< t.length:=(List.getElem?_eq_some_iff.1 hx).1
  have e:t.length - k=(t.length - (k+1))+1:=by omega
  rw[z64,z64,e,List.replicate_succ,List.set_append_right _ _ (by simp[lists];omega),show k - (lists ((t.take k).map (itmW s))).length=0 by simp[lists];omega,List.set_cons_zero,List.take_add_one,hx]
  simp[lists]
theorem parts_to{tf:Nat→Ty}{H:Heap}{is:List Nat}{t:List Itm}{s:List (List UInt8)}{k i:Nat}{x:Itm}{b:UInt8}(hx:t[k]? =some x)(hw:itmW s x=[b])(hi:i=k)(h:zlo tf H is 1 0 1 1 (.u8s [b])):(Cont.cells ((z64 t s k).set i (.slice 1 0 1 1))).to tf H is id (.cells (z64 t s (k+1))):=by
  rw[zdt hx,hw,hi];exact zdr (z00.to (z3e t s k)) k (show Cell.to tf H is id (.slice 1 0 1 1) (.ds 1 (.u8s [b])) from h)
theorem zkf{l:List (List UInt8)}{i j:Nat}(h:i< l.length∧j=i):(Cont.cells (lists l)).get j= .ds (l.getD i []).length (.u8s (l.getD i [])):=by rw[h.2];exact z55 h.1
theorem zs0{ps:List (List UInt8)}{b:Nat}(h:∀ p∈ps,p.length≤b):ps.flatten.length≤ps.length*b:=by
  induction ps with
  |nil=>simp
  | cons p ps ih=>
    rw[List.flatten_cons,List.length_append,List.length_cons,Nat.succ_mul]
    have:=h p List.mem_cons_self
    have:=ih fun q hq=>h q (List.mem_cons_of_mem _ hq)
    omega
theorem zs1{s:List (List UInt8)}{b:Nat}(hb:1≤b)(h:∀ p∈s,p.length≤b)(i:Itm):(itmW s i).length≤b:=by
  unfold itmW
  split
  · rw[List.getD_eq_getElem?_getD]
    cases e:s[i.x.toNat]? with
    |none=>exact Nat.zero_le _
    |some p=>exact h p (List.mem_of_getElem? e)
  · exact hb
theorem zig{t:List Itm}{s:List (List UInt8)}(h:z45 t s.length=true):(t.map (itmW s)).flatten=wordN t s:=by rw[wordN,if_pos h,List.flatMap_def]
theorem zmv{t:List Itm}{n:Nat}(h:z45 t n=true):t.length≤24:=by
  rw[z45,Bool.and_eq_true,decide_eq_true_eq]at h;exact h.1
theorem term_at{t:List Itm}{n k:Nat}{x:Itm}(h:z45 t n=true)(hx:t[k]? =some x): -1≤x.x∧x.x< (n:Int):=by
  rw[z45,Bool.and_eq_true,List.all_eq_true]at h
  have:=h.2 x (List.mem_of_getElem? hx)
  rw[itmOK,Bool.and_eq_true,Bool.and_eq_true,decide_eq_true_eq,decide_eq_true_eq]at this;exact this.1
def growS:OSpec:=fun vs K=>∃ m:Nat,vs=[.c .nils,.c (.int .i64 m)]∧m≤8796093022208∧K 5 1 0 (.u8s [])
theorem grow_ok:OwnOK Tryd.prog gl 95 growS:=by
 refine zpx (Γ:=g0) (N:=27) Tryd.func95 rfl rfl fun vs K h=>?_;obtain⟨m,rfl,hm,h⟩:=h;refine⟨_,_,_,_,h,trivial,by simp,fun w I=>?_⟩;refine srR g0_ok fun _ K2=>?_;refine zr1 ?_;refine s_n K2 ?_;refine seq_k fun _ K3=>?_;refine srR g0_ok fun _ K5=>?_
 iterate 2 refine zr1 ?_
 refine s_n K5 ?_;refine z08 (b:=_) rfl (fun h_t6=>?_) (fun _=>?_)
 ·exfalso;first|(simp at h_t6;omega)|omega
 refine z0l ?_;apply K3;refine seq_k fun _ K6=>?_;refine srR g0_ok fun _ K8=>?_
 iterate 8 refine zr1 ?_
 refine s_n K8 ?_;refine srR g0_ok fun _ K10=>?_
 iterate 2 refine zr1 ?_
 refine s_n K10 ?_;refine z08 (b:=_) rfl (fun h_t16=>?_) (fun h_t16=>?_)
 ·try simp only[dQ,reduceIte]at h_t16
  refine z04 g0_ok fun _ K11=>?_
  iterate 5 refine sXBl_3 ?_
  refine sXEBl_11 ?_;intro cap5 hcap5;refine exI ?_
  iterate 4 refine sXBl_3 ?_
  refine s_n K11 ?_;apply K6;refine srR g0_ok fun _ K13=>?_
  iterate 2 refine zr1 ?_
  refine s_n K13 ?_;refine z0j (zc3 g0_ok (fun _ _ h=>h) (by decide) [.tmp 4] rfl ?_)
  all_goals exact uBl_0
 ·try simp only[dQ,reduceIte]at h_t16
  refine z0l ?_;apply K6;refine srR g0_ok fun _ K15=>?_
  iterate 2 refine zr1 ?_
  refine s_n K15 ?_;refine z0j (zc3 g0_ok (fun _ _ h=>h) (by decide) [.tmp 4] rfl ?_)
  all_goals exact uBl_0

noncomputable def gc:Ctx:={ P:=Tryd.prog,ty:=ty,glob:=gl,fs:=[(95,.own growS)] }
theorem gc_ok:gc.OK:=⟨tyOK,⟨⟨z09 Tryd.func95 kQf rfl,grow_ok⟩,trivial⟩,mixed⟩
@[simp] theorem gc_ty:gc.ty=ty:=rfl

def zs2:OSpec:=fun vs K=>∃ ps:List (List UInt8),vs=[zif ps]∧(ps.length≤1000000∧ps.flatten.length≤8796093022208)∧K 5 1 ps.flatten.length (.u8s ps.flatten)
theorem zs3:OwnOK Tryd.prog gl 69 zs2:=by
 refine zpx (Γ:=gc) (N:=36) Tryd.func69 rfl rfl fun vs K h=>?_;obtain⟨ps,rfl,⟨hn,hb⟩,h⟩:=h;refine⟨_,_,_,_,h,trivial,by simp,fun w I=>?_⟩;refine srR gc_ok fun _ K2=>?_;refine zr1 ?_;refine s_n K2 ?_;refine srR gc_ok fun _ K4=>?_;refine zr1 ?_;refine s_n K4 ?_;refine seq_k fun _ K5=>?_;refine srR gc_ok fun _ K7=>?_
 iterate 3 refine zr1 ?_
 refine s_n K7 ?_;refine z0g ?_;refine z10 (α:=Nat) (fun k=>[(0,.c (.ds ps.length (.cells (lists ps)))),(3,.c (.int .i64 (catP ps k).length)),(9,.c (.ds ps.length (.cells (lists ps)))),(10,.c (.int .i64 ps.length)),(11,.c (.int .i64 k))]) (fun k=>[]) 0 (fun k=>k≤ps.length) (fun k=>ps.length - k) ?_ ?_
 ·refine dnS [] id 0 (Nat.zero_le _) [] uBl_1 uUd_0 uUd_0 uUd_0
 ·intro k hk
  refine srR gc_ok fun _ K9=>?_;refine zr1 ?_;refine s_n K9 ?_;refine seq_k fun _ K10=>?_;refine z08 (b:=_) rfl (fun h_t12=>?_) (fun h_t12=>?_)
  ·try simp only[dQ,reduceIte]at h_t12
   refine z0l ?_;apply K10;refine seq_k fun _ K11=>?_;refine z0g ?_
   have hkl:k< ps.length:=by omega
   have hc1:=zdq ps k
   have hc2:=zdq ps (k+1)
   rw[z57 ps k hkl,List.length_append]at hc2;refine srR gc_ok fun _ K13=>?_;refine zr1 ?_;refine sXEUf_4 ?_;rw[z55]
   rotate_left 1
   ·first|omega|(simp<;>omega)
   refine exI ?_;refine zr1 ?_;refine s_n K13 ?_;refine srR gc_ok fun _ K15=>?_
   iterate 5 refine sXBl_5 ?_
   refine s_n K15 ?_;refine srR gc_ok fun _ K17=>?_
   iterate 2 refine zr1 ?_
   refine s_n K17 ?_;refine z08 (b:=_) rfl (fun h_t20=>?_) (fun _=>?_)
   ·exfalso;first|(simp at h_t20;omega)|omega
   refine z0l ?_;refine z07 ?_;apply K11;refine z04 gc_ok fun _ K18=>?_
   iterate 2 refine zr1 ?_
   refine s_n K18 ?_;refine dnS [] id (k+1) ⟨by omega,by omega⟩ [] uBl_1 uUd_0 uUd_0 uUd_0
  ·try simp only[dQ,reduceIte]at h_t12
   refine z0v ?_;refine z02 ?_;refine z02 ?_;refine z0s ?_;apply K5
   obtain rfl:k=ps.length:=by omega
   refine srR gc_ok fun _ K20=>?_;refine zr1 ?_;refine sXEUf_4 ?_;refine⟨(catP ps ps.length).length,rfl,by have:=zdq ps ps.length;omega,?_⟩;refine DUf_0 ?_
   first|refine exI ?_|(intro cap1 hcap1;refine exI ?_)
   refine zr1 ?_;refine s_n K20 ?_;refine seq_k fun _ K21=>?_;refine srR gc_ok fun _ K23=>?_
   iterate 3 refine zr1 ?_
   refine s_n K23 ?_;refine z0g ?_;refine z10 (α:=Nat×Nat) (fun k=>[(0,.c (.ds ps.length (.cells (lists ps)))),(6,.c (.slice 0 0 (catP ps k.1).length k.2)),(25,.c (.ds ps.length (.cells (lists ps)))),(26,.c (.int .i64 ps.length)),(27,.c (.int .i64 k.1))]) (fun k=>[(0,.own 5 (.u8s (catP ps k.1)) k.2)]) 1 (fun k=>k.1≤ps.length) (fun k=>ps.length - k.1) ?_ ?_
   ·refine dnS [] id (0,cap1) (Nat.zero_le _) [0] uBl_3 uBl_3 uUd_0 uUd_0
   ·intro k hk
    refine srR gc_ok fun _ K25=>?_;refine zr1 ?_;refine s_n K25 ?_;refine seq_k fun _ K26=>?_;refine z08 (b:=_) rfl (fun h_t28=>?_) (fun h_t28=>?_)
    ·try simp only[dQ,reduceIte]at h_t28
     refine z0l ?_;apply K26;refine seq_k fun _ K27=>?_;refine z0g ?_
     have hkl:k.1< ps.length:=by omega
     have hc1:=zdq ps k.1
     have hc2:=zdq ps (k.1+1)
     rw[z57 ps k.1 hkl,List.length_append]at hc2;refine srR gc_ok fun _ K29=>?_;refine zr1 ?_;refine sXEUf_4 ?_;rw[z55]
     rotate_left 1
     ·first|omega|(simp<;>omega)
     refine exI ?_;refine zr1 ?_;refine s_n K29 ?_;refine z04 gc_ok fun _ K30=>?_
     iterate 2 refine sXBl_7 ?_
     refine sXEBl_13 ?_;intro cap2 hcap2;refine exI ?_;refine sXBl_7 ?_;refine s_n K30 ?_;refine z07 ?_;apply K27;refine z04 gc_ok fun _ K31=>?_
     iterate 2 refine zr1 ?_
     refine s_n K31 ?_;refine dnS [] (fun _=>1) (k.1+1,cap2) ⟨by omega,by omega⟩ [1] uBl_3 uBl_3 uUd_0 uUd_0
    ·try simp only[dQ,reduceIte]at h_t28
     refine z0v ?_;refine z02 ?_;refine z02 ?_;refine z0s ?_;apply K21;obtain⟨k,cp⟩:=k
     obtain rfl:k=ps.length:=by have:=hk;simp at h_t28 this;omega
     refine srR gc_ok fun _ K33=>?_
     iterate 2 refine zr1 ?_
     refine s_n K33 ?_;refine z0j (zc3 gc_ok (fun _ _ h=>h) (by decide) [.tmp 2] rfl ?_)
     repeat' (first|exact trivial|refine aI ?_ ?_|exact cC0|refine low_cons' ?_ ?_|exact cC1|fail)
     all_goals first|omega|(show(_:Cont)=_;rw[zdp];done)|(rw[zdp];done)|(simp[zdp];done)|skip

noncomputable def cct:Ctx:={ P:=Tryd.prog,ty:=ty,glob:=gl,fs:=[(69,.own zs2)] }
theorem zs4:cct.OK:=⟨tyOK,⟨⟨z09 Tryd.func69 kQf rfl,zs3⟩,trivial⟩,mixed⟩
@[simp] theorem cct_ty:cct.ty=ty:=rfl

def acatS:OSpec:=fun vs K=>∃ ps:List (List UInt8),vs=[zif ps]∧(ps.length≤1000000∧ps.flatten.length≤8796093022208)∧K 5 1 ps.flatten.length (.u8s ps.flatten)
theorem acat_ok:OwnOK Tryd.prog gl 34 acatS:=by
 refine zpx (Γ:=cct) (N:=5) Tryd.func34 rfl rfl fun vs K h=>?_;obtain⟨ps,rfl,hb,h⟩:=h;refine⟨_,_,_,_,h,trivial,by simp,fun w I=>?_⟩;refine srR zs4 fun _ K2=>?_;refine zr1 ?_;refine s_n K2 ?_;refine srR zs4 fun _ K4=>?_;refine zr1 ?_;refine sXEUf_4 ?_;refine⟨ps,rfl,hb,?_⟩;refine DUf_0 ?_
 first|refine exI ?_|(intro cap1 hcap1;refine exI ?_)
 refine zr1 ?_;refine s_n K4 ?_;refine z0j (zc3 zs4 (fun _ _ h=>h) (by decide) [.tmp 2] rfl ?_)
 repeat' (first|exact trivial|refine aI ?_ ?_|exact cC0|refine low_cons' ?_ ?_|exact cC1|fail)
 all_goals first|omega|(simp;done)|skip

noncomputable def cwd:Ctx:={ P:=Tryd.prog,ty:=ty,glob:=gl,fs:=[(33,.flat zka),(34,.own acatS)] }
theorem z65:cwd.OK:=⟨tyOK,⟨⟨z09 Tryd.func33 kQf rfl,zi9⟩,⟨z09 Tryd.func34 kQf rfl,acat_ok⟩,trivial⟩,mixed⟩
@[simp] theorem cwd_ty:cwd.ty=ty:=rfl

def wordS:QSpec:=fun vs K=>∃ (t:List Itm) (s:List (List UInt8)),vs=[.c (itmsX t),zif s]∧(t.length≤9223372036854775807∧s.length≤9223372036854775807∧∀ p∈s,p.length≤274877906944)∧K (.c (.ds (wordN t s).length (.u8s (wordN t s))))
theorem zkg:z2s Tryd.prog gl 12 wordS:=by
 refine z2b (Γ:=cwd) (N:=49) Tryd.func12 rfl rfl fun vs K h=>?_;obtain⟨t,s,rfl,⟨hl,hs,hsl⟩,h⟩:=h;refine⟨_,h,trivial,by simp,fun w I=>?_⟩;refine srR z65 fun _ K2=>?_;refine z4b ?_;refine s_n K2 ?_;refine seq_k fun _ K3=>?_;refine srR z65 fun _ K5=>?_
 iterate 3 refine z4b ?_
 refine z8v ?_;refine⟨t,s.length,rfl,hl,?_⟩;refine DBl_8 ?_
 first|refine exI ?_|(intro cap3 hcap3;refine exI ?_)
 refine z4b ?_;refine s_n K5 ?_;refine z08 (b:=_) rfl (fun h_t11=>?_) (fun h_t11=>?_)
 ·try simp only[dQ,reduceIte]at h_t11
  have hre:wordN t s=[]:=by rw[wordN,if_neg (by simpa using h_t11)]
  refine srR z65 fun _ K7=>?_;refine z4b ?_;refine s_n K7 ?_;refine z0j (z13 z65 (fun _ _ h=>h) (by trivial) [] [.tmp 4] rfl ?_);rw[hre]
  all_goals exact uBl_4
 ·try simp only[dQ,reduceIte]at h_t11
  refine z0l ?_;apply K3
  have hv:z45 t s.length=true:=by simpa using h_t11
  have htl:=zmv hv
  refine srR z65 fun _ K9=>?_
  iterate 4 refine z4b ?_
  refine s_n K9 ?_;refine seq_k fun _ K10=>?_;refine srR z65 fun _ K12=>?_
  iterate 3 refine z4b ?_
  refine s_n K12 ?_;refine z0g ?_;refine z10 (α:=Nat) (fun k=>[(0,.c (itmsX t)),(1,zif s),(5,.c (.slice 0 0 t.length t.length)),(15,.c (itmsX t)),(16,.c (.int .i64 (t.length:Nat))),(17,.c (.int .i64 (k:Nat)))]) (fun k=>[(0,.own 28 (.cells (z64 t s k)) t.length)]) 1 (fun k=>k≤t.length) (fun k=>t.length - k) ?_ ?_
  ·refine dnS [] id 0 (Nat.zero_le _) [0] uBl_4 uBl_4 uBl_4 uBl_4
  ·intro k hk
   refine srR z65 fun _ K14=>?_;refine z4b ?_;refine s_n K14 ?_;refine seq_k fun _ K15=>?_;refine z08 (b:=_) rfl (fun h_t18=>?_) (fun h_t18=>?_)
   ·try simp only[dQ,reduceIte]at h_t18
    refine z0l ?_;apply K15;refine seq_k fun _ K16=>?_;refine z0g ?_;refine srR z65 fun _ K18=>?_
    iterate 2 refine z4b ?_
    refine s_n K18 ?_
    have hkl:k< t.length:=by omega
    obtain⟨x,hx⟩:=hasAt hkl
    have hxt:=term_at hv hx
    have hpl:=zoq (s:=s) hk
    refine srR z65 fun _ K20=>?_
    iterate 6 refine z4b ?_
    refine z8v ?_;refine exA (.c (.u8 x.b)) (zfh itmR (fun _ _=>trivial) (i:=k) (j:=1) (by first|rfl|omega) (by decide) hx rfl) ?_
    iterate 2 refine z4b ?_
    refine zmu ?_;refine s_n K20 ?_;refine srR z65 fun _ K22=>?_
    iterate 4 refine z4b ?_
    refine z8v ?_;refine exA (.c (.int .i64 x.x)) (zfh itmR (fun _ _=>trivial) (i:=k) (j:=0) (by first|rfl|omega) (by decide) hx rfl) ?_;refine z4b ?_;refine s_n K22 ?_;refine z08 (b:=_) rfl (fun h_t34=>?_) (fun h_t34=>?_)
    ·try simp only[dQ,reduceIte]at h_t34
     refine z04 z65 fun _ K23=>?_
     iterate 7 refine z4b ?_
     refine z8v ?_;refine exA (.c (.int .i64 x.x)) (zfh itmR (fun _ _=>trivial) (i:=k) (j:=0) (by first|rfl|omega) (by decide) hx rfl) ?_;refine z4b ?_;refine z8v ?_;refine exA (.c (.ds (s.getD x.x.toNat []).length (.u8s (s.getD x.x.toNat [])))) (as_c (zkf ⟨by omega,by omega⟩)) ?_;refine z4b ?_;refine zmu ?_;refine s_n K23 ?_;refine z07 ?_;apply K16;refine z04 z65 fun _ K24=>?_
     iterate 2 refine z4b ?_
     refine s_n K24 ?_
     have hiw:itmW s x=s.getD x.x.toNat []:=by rw[itmW,if_pos h_t34]
     refine dnS [] id (k+1) ⟨by omega,by omega⟩ [0] uBl_4 uBl_4 uBl_4 uBl_4
    ·try simp only[dQ,reduceIte]at h_t34
     refine z0l ?_;refine z07 ?_;apply K16;refine z04 z65 fun _ K25=>?_
     iterate 2 refine z4b ?_
     refine s_n K25 ?_
     have hiw:itmW s x=[x.b]:=by rw[itmW,if_neg (by omega)]
     refine dnS [1] id (k+1) ⟨by omega,by omega⟩ [0] uBl_4 uBl_4 uBl_4 uBl_4
   ·try simp only[dQ,reduceIte]at h_t18
    refine z0v ?_;refine z02 ?_;refine z02 ?_;refine z0s ?_;apply K10
    obtain rfl:k=t.length:=by omega
    rw[zor];refine leW [0] id [(5,zif (t.map (itmW s)))] [] 0 [] uBl_4 uBl_4 uBl_4 uBl_4 ?_;refine srR z65 fun _ K27=>?_;refine z4b ?_;refine z8v ?_;refine⟨t.map (itmW s),rfl,⟨by simp;omega,?_⟩,?_⟩
    ·have h1:=zs0 (ps:=t.map (itmW s)) (b:=274877906944) fun p hp=>by
      obtain⟨i,_,rfl⟩:=List.mem_map.1 hp;exact zs1 (by decide) hsl i
     rw[List.length_map]at h1
     omega
    rw[zig hv];refine DBl_8 ?_
    first|refine exI ?_|(intro cap1 hcap1;refine exI ?_)
    refine z4b ?_;refine s_n K27 ?_;refine z0j (z13 z65 (fun _ _ h=>h) (by trivial) [0] [.tmp 4] rfl ?_)
    all_goals exact uBl_4


end Go.Proofs.YtegdcifghaldoaaDoor
