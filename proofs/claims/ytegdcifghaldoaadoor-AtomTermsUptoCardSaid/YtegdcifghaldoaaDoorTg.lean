/- Contracts of functions and plain facts, part 7. -/
import Derived.Test.YtegdcifghaldoaaDoorTf
import Derived.Test.YtegdcifghaldoaaDoorTb
set_option maxHeartbeats 4000000
set_option maxRecDepth 8000
namespace Go.Proofs.YtegdcifghaldoaaDoor
set_option linter.all false
open Go.Ab Go.RowKit

section
variable {a b:Prop}
theorem qBi0(h:a:=by first|exact vcA|(simp<;>omega)|exact Nat.le_of_ble_eq_true rfl|(show _< (recss _ _).length;rw[z3l];omega)|(show _< (lists _).length;rw[z1x];omega)|exact vcB):a:=h
theorem DBi_0(kZ:b)(h:HidB b→a:=by intro kZ;(repeat first|refine aI qBi0 ?_|refine z0d qBi0 ?_|refine z09 qBi0 ?_|refine z0p qBi0 ?_|refine z0e ?_);exact kZ.out):a:=h ⟨kZ⟩
theorem z17(kZ:b)(h:HidB b→a:=by intro kZ;refine sX ?_;refine DBi_0 ?_;refine exI ?_;exact kZ.out):a:=h ⟨kZ⟩
theorem sX0Bi_2(kZ:b)(h:HidB b→a:=by intro kZ;refine sX0 ?_;refine DBi_0 ?_;refine exI ?_;exact kZ.out):a:=h ⟨kZ⟩
theorem z20(kZ:b)(h:HidB b→a:=by intro kZ;refine sXT ?_;refine DBi_0 ?_;refine exI ?_;exact kZ.out):a:=h ⟨kZ⟩
theorem z1l(kZ:b)(h:HidB b→a:=by intro kZ;refine sX ?_;refine DBi_0 ?_;exact kZ.out):a:=h ⟨kZ⟩
theorem z29(kZ:b)(h:HidB b→a:=by intro kZ;refine sXT ?_;refine DBi_0 ?_;exact kZ.out):a:=h ⟨kZ⟩
end
open Go.Aut
noncomputable def ctv:Ctx:={ P:=Tryd.prog,ty:=ty,glob:=gl,fs:=[(89,.flat partS),(93,.flat hasMCS),(106,.flat sizeS)] }
theorem z1r:ctv.OK:=⟨tyOK,⟨⟨z07 Tryd.func89 kQf rfl,part_ok⟩,⟨z07 Tryd.func93 kQf rfl,hasMC_ok⟩,⟨z07 Tryd.func106 kQf rfl,zo5⟩,trivial⟩,mixed⟩
@[simp] theorem ctv_ty:ctv.ty=ty:=rfl

def zob:QSpec:=fun vs K=>∃ t:Tra,vs=[traV t]∧t.wf∧K (.c (.bool (traOK t)))
theorem zjk : z11 Tryd.prog gl 60 zob:=by
 refine z0u (Γ:=ctv) (N:=89) Tryd.func60 rfl rfl fun vs K h=>?_;obtain⟨t,rfl,⟨hw1,hw2,hw3,hw4,hw5,hw6,hw7⟩,h⟩:=h;refine⟨_,h,rfl,by simp,fun w I=>?_⟩;refine srR z1r fun _ K2=>?_
 iterate 2 refine z17 ?_
 refine s_n K2 ?_;refine srR z1r fun _ K4=>?_;refine z17 ?_;refine z1l ?_;refine exA (.c (.ds t.moves.length (.cells (recss movL t.moves)))) (as_eq rfl) ?_
 iterate 2 refine z17 ?_
 refine sX0Bi_2 ?_;refine s_n K4 ?_;refine seq_k fun _ K5=>?_;refine srR z1r fun _ K7=>?_;refine z1l ?_;refine exA (.c (.int .i64 ((t.moves.length:Nat):Int))) (as_eq rfl) ?_;refine z17 ?_;refine z1l ?_;refine exB (fun hb2=>?_) (fun hb2=>?_)
 ·try simp only[dQ,reduceIte]at hb2
  iterate 2 refine sN ?_
  refine z17 ?_;refine z1l ?_;refine exB (fun hb6=>?_) (fun hb6=>?_)
  rotate_left 1
  ·exfalso;simp at hb6
  iterate 5 refine sN ?_
  refine z17 ?_;refine z1l ?_;refine exB (fun hb13=>?_) (fun hb13=>?_)
  rotate_left 1
  ·exfalso;simp at hb13
  iterate 5 refine sN ?_
  refine z17 ?_;refine z1l ?_;refine exB (fun hb20=>?_) (fun hb20=>?_)
  rotate_left 1
  ·exfalso;simp at hb20
  iterate 4 refine sN ?_
  refine z17 ?_;refine z1l ?_;refine exB (fun hb26=>?_) (fun hb26=>?_)
  rotate_left 1
  ·exfalso;simp at hb26
  iterate 4 refine sN ?_
  refine z17 ?_;refine s_n K7 ?_;refine z06 (b:=_) rfl (fun _=>?_) (fun h_t41=>?_)
  rotate_left 1
  ·exfalso;simp at h_t41
  have hno:traOK t=false:=by first|exact z9g (by omega)|exact z9h (by simpa using h_t41)
  refine srR z1r fun _ K9=>?_;refine z17 ?_;refine s_n K9 ?_;refine z0b (z02 z1r (fun _ _ h=>h) (by first|rfl|assumption) [.tmp 2] rfl ?_);refine rtD ?_
  show SV.c (.bool _)=_
  first|(rw[hno];done)|(rw[z4p hkn hrf];done)|(rw[z4q hbase hcls (by rw[←show k=t.moves.length by omega];exact hk.2)];done)
 ·try simp only[dQ,reduceIte]at hb2
  refine z29 ?_;refine exA (.c (.int .i64 ((t.moves.length:Nat):Int))) (as_eq rfl) ?_;refine z20 ?_;refine z17 ?_;refine z1l ?_;refine exB (fun hb6=>?_) (fun hb6=>?_)
  ·try simp only[dQ,reduceIte]at hb6
   iterate 5 refine sN ?_
   refine z17 ?_;refine z1l ?_;refine exB (fun hb13=>?_) (fun hb13=>?_)
   rotate_left 1
   ·exfalso;simp at hb13
   iterate 5 refine sN ?_
   refine z17 ?_;refine z1l ?_;refine exB (fun hb20=>?_) (fun hb20=>?_)
   rotate_left 1
   ·exfalso;simp at hb20
   iterate 4 refine sN ?_
   refine z17 ?_;refine z1l ?_;refine exB (fun hb26=>?_) (fun hb26=>?_)
   rotate_left 1
   ·exfalso;simp at hb26
   iterate 4 refine sN ?_
   refine z17 ?_;refine s_n K7 ?_;refine z06 (b:=_) rfl (fun _=>?_) (fun h_t41=>?_)
   rotate_left 1
   ·exfalso;simp at h_t41
   have hno:traOK t=false:=by first|exact z9g (by omega)|exact z9h (by simpa using h_t41)
   refine srR z1r fun _ K11=>?_;refine z17 ?_;refine s_n K11 ?_;refine z0b (z02 z1r (fun _ _ h=>h) (by first|rfl|assumption) [.tmp 2] rfl ?_);refine rtD ?_
   show SV.c (.bool _)=_
   first|(rw[hno];done)|(rw[z4p hkn hrf];done)|(rw[z4q hbase hcls (by rw[←show k=t.moves.length by omega];exact hk.2)];done)
  ·try simp only[dQ,reduceIte]at hb6
   refine z20 ?_;refine z29 ?_;refine exA (.c (.ds t.fin.length (.bools t.fin))) (as_eq rfl) ?_;refine z20 ?_;refine z29 ?_;refine exA (.c (.int .i64 ((t.moves.length:Nat):Int))) (as_eq rfl) ?_;refine z20 ?_;refine z17 ?_;refine z1l ?_;refine exB (fun hb13=>?_) (fun hb13=>?_)
   ·try simp only[dQ,reduceIte]at hb13
    iterate 5 refine sN ?_
    refine z17 ?_;refine z1l ?_;refine exB (fun hb20=>?_) (fun hb20=>?_)
    rotate_left 1
    ·exfalso;simp at hb20
    iterate 4 refine sN ?_
    refine z17 ?_;refine z1l ?_;refine exB (fun hb26=>?_) (fun hb26=>?_)
    rotate_left 1
    ·exfalso;simp at hb26
    iterate 4 refine sN ?_
    refine z17 ?_;refine s_n K7 ?_;refine z06 (b:=_) rfl (fun _=>?_) (fun h_t41=>?_)
    rotate_left 1
    ·exfalso;simp at h_t41
    have hno:traOK t=false:=by first|exact z9g (by omega)|exact z9h (by simpa using h_t41)
    refine srR z1r fun _ K13=>?_;refine z17 ?_;refine s_n K13 ?_;refine z0b (z02 z1r (fun _ _ h=>h) (by first|rfl|assumption) [.tmp 2] rfl ?_);refine rtD ?_
    show SV.c (.bool _)=_
    first|(rw[hno];done)|(rw[z4p hkn hrf];done)|(rw[z4q hbase hcls (by rw[←show k=t.moves.length by omega];exact hk.2)];done)
   ·try simp only[dQ,reduceIte]at hb13
    refine z20 ?_;refine z29 ?_;refine exA (.c (.ds t.ends.length (.cells (lists t.ends)))) (as_eq rfl) ?_;refine z20 ?_;refine z29 ?_;refine exA (.c (.int .i64 ((t.moves.length:Nat):Int))) (as_eq rfl) ?_;refine z20 ?_;refine z17 ?_;refine z1l ?_;refine exB (fun hb20=>?_) (fun hb20=>?_)
    ·try simp only[dQ,reduceIte]at hb20
     iterate 4 refine sN ?_
     refine z17 ?_;refine z1l ?_;refine exB (fun hb26=>?_) (fun hb26=>?_)
     rotate_left 1
     ·exfalso;simp at hb26
     iterate 4 refine sN ?_
     refine z17 ?_;refine s_n K7 ?_;refine z06 (b:=_) rfl (fun _=>?_) (fun h_t41=>?_)
     rotate_left 1
     ·exfalso;simp at h_t41
     have hno:traOK t=false:=by first|exact z9g (by omega)|exact z9h (by simpa using h_t41)
     refine srR z1r fun _ K15=>?_;refine z17 ?_;refine s_n K15 ?_;refine z0b (z02 z1r (fun _ _ h=>h) (by first|rfl|assumption) [.tmp 2] rfl ?_);refine rtD ?_
     show SV.c (.bool _)=_
     first|(rw[hno];done)|(rw[z4p hkn hrf];done)|(rw[z4q hbase hcls (by rw[←show k=t.moves.length by omega];exact hk.2)];done)
    ·try simp only[dQ,reduceIte]at hb20
     refine z20 ?_;refine z29 ?_;refine exA (.c (.ds t.nc (.u64s t.cls))) (as_eq rfl) ?_
     iterate 2 refine z20 ?_
     refine z17 ?_;refine z1l ?_;refine exB (fun hb26=>?_) (fun hb26=>?_)
     ·try simp only[dQ,reduceIte]at hb26
      iterate 4 refine sN ?_
      refine z17 ?_;refine s_n K7 ?_;refine z06 (b:=_) rfl (fun _=>?_) (fun h_t41=>?_)
      rotate_left 1
      ·exfalso;simp at h_t41
      have hno:traOK t=false:=by first|exact z9g (by omega)|exact z9h (by simpa using h_t41)
      refine srR z1r fun _ K17=>?_;refine z17 ?_;refine s_n K17 ?_;refine z0b (z02 z1r (fun _ _ h=>h) (by first|rfl|assumption) [.tmp 2] rfl ?_);refine rtD ?_
      show SV.c (.bool _)=_
      first|(rw[hno];done)|(rw[z4p hkn hrf];done)|(rw[z4q hbase hcls (by rw[←show k=t.moves.length by omega];exact hk.2)];done)
     ·try simp only[dQ,reduceIte]at hb26
      refine z20 ?_;refine z29 ?_;refine exA (.c (.ds t.nc (.u64s t.cls))) (as_eq rfl) ?_;refine z29 ?_;refine⟨t.cls,t.nc,rfl,⟨hw1,hw2⟩,?_⟩;refine DBi_0 ?_
      first|refine exI ?_|(intro cap29 hcap29;refine exI ?_)
      refine z20 ?_;refine z17 ?_;refine s_n K7 ?_;refine z06 (b:=_) rfl (fun h_t41=>?_) (fun h_t41=>?_)
      ·try simp only[dQ,reduceIte]at h_t41
       have hno:traOK t=false:=by first|exact z9g (by omega)|exact z9h (by simpa using h_t41)
       refine srR z1r fun _ K19=>?_;refine z17 ?_;refine s_n K19 ?_;refine z0b (z02 z1r (fun _ _ h=>h) (by first|rfl|assumption) [.tmp 2] rfl ?_);refine rtD ?_
       show SV.c (.bool _)=_
       first|(rw[hno];done)|(rw[z4p hkn hrf];done)|(rw[z4q hbase hcls (by rw[←show k=t.moves.length by omega];exact hk.2)];done)
      ·try simp only[dQ,reduceIte]at h_t41
       refine z0g ?_;apply K5
       have hbase:1≤t.moves.length∧t.moves.length≤64∧t.fin.length=t.moves.length∧t.ends.length=t.moves.length∧t.nc≤256:=by omega
       have hcls:clsP t.cls t.nc=true:=by simpa using h_t41
       refine srR z1r fun _ K21=>?_
       iterate 2 refine z17 ?_
       refine s_n K21 ?_;refine seq_k fun _ K22=>?_;refine srR z1r fun _ K24=>?_;refine z17 ?_;refine z1l ?_;refine exA (.c (.ds t.moves.length (.cells (recss movL t.moves)))) (as_eq rfl) ?_
       iterate 2 refine z17 ?_
       refine s_n K24 ?_;refine z0a ?_;refine z13 (α:=Nat) (fun k=>[(1,.c (.dp (.cells (traL t)) 0)),(4,.c (.clo 90 [.dp (.ints .i64 [((t.moves.length:Nat):Int)]) 0])),(44,.c (.ds t.moves.length (.cells (recss movL t.moves)))),(45,.c (.int .i64 (t.moves.length:Nat))),(46,.c (.int .i64 (k:Nat)))]) (fun k=>[]) 0 (fun k=>k≤t.moves.length∧(List.range k).all (rowT t)=true) (fun k=>t.moves.length - k) ?_ ?_
       ·refine dnS [0,1] id 0 ⟨Nat.zero_le _,rfl⟩ [] uBc_0 uBc_0 uBc_0 uBc_0
       ·intro k hk
        refine srR z1r fun _ K26=>?_;refine z17 ?_;refine s_n K26 ?_;refine seq_k fun _ K27=>?_;refine z06 (b:=_) rfl (fun h_t47=>?_) (fun h_t47=>?_)
        ·try simp only[dQ,reduceIte]at h_t47
         refine z0g ?_;apply K27;refine seq_k fun _ K28=>?_;refine z0a ?_
         have hkn:k< t.moves.length:=by omega
         have hrl:=hw6 _ (z2g (d:=[]) hkn)
         refine srR z1r fun _ K30=>?_
         iterate 2 refine z17 ?_
         refine z1l ?_;refine exA (.c (.ds (t.moves.getD k []).length (.cells (z0o movL (t.moves.getD k []))))) (as_c (rcs_at ⟨by omega,by omega⟩)) ?_
         iterate 2 refine z17 ?_
         refine s_n K30 ?_;refine srR z1r fun _ K32=>?_
         iterate 3 refine z17 ?_
         refine z1l ?_;refine exA (.c (.ds t.nc (.u64s t.cls))) (as_eq rfl) ?_
         iterate 2 refine z17 ?_
         refine z1l ?_;refine exB (fun hb6=>?_) (fun hb6=>?_)
         ·try simp only[dQ,reduceIte]at hb6
          iterate 7 refine sN ?_
          refine z17 ?_;refine z1l ?_;refine exB (fun hb15=>?_) (fun hb15=>?_)
          rotate_left 1
          ·exfalso;simp at hb15
          iterate 7 refine sN ?_
          iterate 7 refine sU ?_
          refine sN ?_;refine z17 ?_;refine z1l ?_;refine exB (fun hb32=>?_) (fun hb32=>?_)
          rotate_left 1
          ·exfalso;simp at hb32
          iterate 3 refine sN ?_
          refine z17 ?_;refine s_n K32 ?_;refine z06 (b:=_) rfl (fun _=>?_) (fun h_t87=>?_)
          rotate_left 1
          ·exfalso;simp at h_t87
          have hrf:rowT t k=false:=by
           rw[rowT]
           have hlen:=hk.1
           first|(rw[decide_eq_false (by omega)];rfl)|(rw[decide_eq_false (p:=(t.ends.getD k []).length≤8) (by omega)];simp;done)|(simp_all;done)|(simp_all [List.all_eq_not_any_not];done)|(simp[List.all_eq_not_any_not, *];done)
          refine srR z1r fun _ K34=>?_;refine z17 ?_;refine s_n K34 ?_;refine z0b (z02 z1r (fun _ _ h=>h) (by first|rfl|assumption) [.tmp 2] rfl ?_);refine rtD ?_
          show SV.c (.bool _)=_
          first|(rw[hno];done)|(rw[z4p hkn hrf];done)|(rw[z4q hbase hcls (by rw[←show k=t.moves.length by omega];exact hk.2)];done)
         ·try simp only[dQ,reduceIte]at hb6
          refine z20 ?_;refine z29 ?_;refine exA (.c (.ds t.ends.length (.cells (lists t.ends)))) (as_eq rfl) ?_
          iterate 2 refine z20 ?_
          refine z29 ?_;refine exA (.c (.ds (t.ends.getD k []).length (.u8s (t.ends.getD k [])))) (as_c (zft ⟨by omega,by omega⟩)) ?_
          iterate 2 refine z20 ?_
          refine z17 ?_;refine z1l ?_;refine exB (fun hb15=>?_) (fun hb15=>?_)
          ·try simp only[dQ,reduceIte]at hb15
           iterate 7 refine sN ?_
           iterate 7 refine sU ?_
           refine sN ?_;refine z17 ?_;refine z1l ?_;refine exB (fun hb32=>?_) (fun hb32=>?_)
           rotate_left 1
           ·exfalso;simp at hb32
           iterate 3 refine sN ?_
           refine z17 ?_;refine s_n K32 ?_;refine z06 (b:=_) rfl (fun _=>?_) (fun h_t87=>?_)
           rotate_left 1
           ·exfalso;simp at h_t87
           have hrf:rowT t k=false:=by
            rw[rowT]
            have hlen:=hk.1
            first|(rw[decide_eq_false (by omega)];rfl)|(rw[decide_eq_false (p:=(t.ends.getD k []).length≤8) (by omega)];simp;done)|(simp_all;done)|(simp_all [List.all_eq_not_any_not];done)|(simp[List.all_eq_not_any_not, *];done)
           refine srR z1r fun _ K36=>?_;refine z17 ?_;refine s_n K36 ?_;refine z0b (z02 z1r (fun _ _ h=>h) (by first|rfl|assumption) [.tmp 2] rfl ?_);refine rtD ?_
           show SV.c (.bool _)=_
           first|(rw[hno];done)|(rw[z4p hkn hrf];done)|(rw[z4q hbase hcls (by rw[←show k=t.moves.length by omega];exact hk.2)];done)
          ·try simp only[dQ,reduceIte]at hb15
           refine z20 ?_;refine z29 ?_;refine exA (.c (.ds t.fin.length (.bools t.fin))) (as_eq rfl) ?_
           iterate 2 refine z20 ?_
           refine z29 ?_;refine exA (.c (.bool (t.fin.getD k false))) (as_b (congrArg (fun i=>t.fin.getD i false) (by omega))) ?_;refine z20 ?_;refine z29 ?_;refine exB (fun hb22=>?_) (fun hb22=>?_)
           ·try simp only[dQ,reduceIte]at hb22
            refine z20 ?_;refine z29 ?_;refine exA (.c (.ds t.ends.length (.cells (lists t.ends)))) (as_eq rfl) ?_
            iterate 2 refine z20 ?_
            refine z29 ?_;refine exA (.c (.ds (t.ends.getD k []).length (.u8s (t.ends.getD k [])))) (as_c (zft ⟨by omega,by omega⟩)) ?_
            iterate 3 refine z20 ?_
            refine z17 ?_;refine z1l ?_;refine exB (fun hb32=>?_) (fun hb32=>?_)
            ·try simp only[dQ,reduceIte]at hb32
             iterate 3 refine sN ?_
             refine z17 ?_;refine s_n K32 ?_;refine z06 (b:=_) rfl (fun _=>?_) (fun h_t87=>?_)
             rotate_left 1
             ·exfalso;simp at h_t87
             have hrf:rowT t k=false:=by
              rw[rowT]
              have hlen:=hk.1
              first|(rw[decide_eq_false (by omega)];rfl)|(rw[decide_eq_false (p:=(t.ends.getD k []).length≤8) (by omega)];simp;done)|(simp_all;done)|(simp_all [List.all_eq_not_any_not];done)|(simp[List.all_eq_not_any_not, *];done)
             refine srR z1r fun _ K38=>?_;refine z17 ?_;refine s_n K38 ?_;refine z0b (z02 z1r (fun _ _ h=>h) (by first|rfl|assumption) [.tmp 2] rfl ?_);refine rtD ?_
             show SV.c (.bool _)=_
             first|(rw[hno];done)|(rw[z4p hkn hrf];done)|(rw[z4q hbase hcls (by rw[←show k=t.moves.length by omega];exact hk.2)];done)
            ·try simp only[dQ,reduceIte]at hb32
             iterate 2 refine z20 ?_
             refine z29 ?_;refine⟨(t.moves.getD k []),t.moves.length,rfl,⟨hrl.1,hrl.2⟩,?_⟩;refine DBi_0 ?_
             first|refine exI ?_|(intro cap35 hcap35;refine exI ?_)
             refine z17 ?_;refine s_n K32 ?_;refine z06 (b:=_) rfl (fun h_t87=>?_) (fun h_t87=>?_)
             ·try simp only[dQ,reduceIte]at h_t87
              have hrf:rowT t k=false:=by
               rw[rowT]
               have hlen:=hk.1
               first|(rw[decide_eq_false (by omega)];rfl)|(rw[decide_eq_false (p:=(t.ends.getD k []).length≤8) (by omega)];simp;done)|(simp_all;done)|(simp_all [List.all_eq_not_any_not];done)|(simp[List.all_eq_not_any_not, *];done)
              refine srR z1r fun _ K40=>?_;refine z17 ?_;refine s_n K40 ?_;refine z0b (z02 z1r (fun _ _ h=>h) (by first|rfl|assumption) [.tmp 2] rfl ?_);refine rtD ?_
              show SV.c (.bool _)=_
              first|(rw[hno];done)|(rw[z4p hkn hrf];done)|(rw[z4q hbase hcls (by rw[←show k=t.moves.length by omega];exact hk.2)];done)
             ·try simp only[dQ,reduceIte]at h_t87
              refine z0g ?_;refine z08 ?_;apply K28
              have hrt:rowT t k=true:=by
               rw[rowT]
               have hlen:=hk.1
               first|(simp_all [List.all_eq_not_any_not];done)|(simp_all [List.all_eq_not_any_not];omega)
              refine z04 z1r fun _ K41=>?_
              iterate 2 refine z17 ?_
              refine s_n K41 ?_;refine dnS [] id (k+1) ⟨⟨by omega,z2o hk.2 hrt⟩,by omega⟩ [] uBc_0 uBc_0 uBc_0 uBc_0
           ·try simp only[dQ,reduceIte]at hb22
            iterate 7 refine sN ?_
            refine z20 ?_;refine z17 ?_;refine z1l ?_;refine exB (fun hb32=>?_) (fun hb32=>?_)
            ·exfalso;simp at hb32
            iterate 2 refine z20 ?_
            refine z29 ?_;refine⟨(t.moves.getD k []),t.moves.length,rfl,⟨hrl.1,hrl.2⟩,?_⟩;refine DBi_0 ?_
            first|refine exI ?_|(intro cap35 hcap35;refine exI ?_)
            refine z17 ?_;refine s_n K32 ?_;refine z06 (b:=_) rfl (fun h_t87=>?_) (fun h_t87=>?_)
            ·try simp only[dQ,reduceIte]at h_t87
             have hrf:rowT t k=false:=by
              rw[rowT]
              have hlen:=hk.1
              first|(rw[decide_eq_false (by omega)];rfl)|(rw[decide_eq_false (p:=(t.ends.getD k []).length≤8) (by omega)];simp;done)|(simp_all;done)|(simp_all [List.all_eq_not_any_not];done)|(simp[List.all_eq_not_any_not, *];done)
             refine srR z1r fun _ K43=>?_;refine z17 ?_;refine s_n K43 ?_;refine z0b (z02 z1r (fun _ _ h=>h) (by first|rfl|assumption) [.tmp 2] rfl ?_);refine rtD ?_
             show SV.c (.bool _)=_
             first|(rw[hno];done)|(rw[z4p hkn hrf];done)|(rw[z4q hbase hcls (by rw[←show k=t.moves.length by omega];exact hk.2)];done)
            ·try simp only[dQ,reduceIte]at h_t87
             refine z0g ?_;refine z08 ?_;apply K28
             have hrt:rowT t k=true:=by
              rw[rowT]
              have hlen:=hk.1
              first|(simp_all [List.all_eq_not_any_not];done)|(simp_all [List.all_eq_not_any_not];omega)
             refine z04 z1r fun _ K44=>?_
             iterate 2 refine z17 ?_
             refine s_n K44 ?_;refine dnS [] id (k+1) ⟨⟨by omega,z2o hk.2 hrt⟩,by omega⟩ [] uBc_0 uBc_0 uBc_0 uBc_0
        ·try simp only[dQ,reduceIte]at h_t47
         refine z0y ?_;refine z03 ?_;refine z03 ?_;refine z0s ?_;apply K22;refine srR z1r fun _ K46=>?_;refine z17 ?_;refine s_n K46 ?_;refine z0b (z02 z1r (fun _ _ h=>h) (by first|rfl|assumption) [.tmp 2] rfl ?_);refine rtD ?_
         show SV.c (.bool _)=_
         first|(rw[hno];done)|(rw[z4p hkn hrf];done)|(rw[z4q hbase hcls (by rw[←show k=t.moves.length by omega];exact hk.2)];done)


end Go.Proofs.YtegdcifghaldoaaDoor

namespace Go.Proofs.YtegdcifghaldoaaDoor
set_option linter.all false
open Go.Ab Go.RowKit

section
variable {a b:Prop}
theorem qBj0(h:a:=by first|exact vcA|(simp[-List.reduceReplicate]<;>omega)|exact Nat.le_of_ble_eq_true rfl|(show _< (recss _ _).length;rw[z3l];omega)|(show _< (lists _).length;rw[z1x];omega)|(show _< (z1g _ _).length;rw[hcL];omega)|(show _< (z0o _ _).length;rw[z10 movR (fun _ _=>trivial)];omega)|(show _≤(z0o _ _).length;rw[z10 movR (fun _ _=>trivial)];omega)|(refine⟨by omega,by omega,?_⟩;exact trivial)|exact vcB):a:=h
theorem qBj1(h:a:=by first|exact vcA|(simp[-List.reduceReplicate]<;>omega)|exact Nat.le_of_ble_eq_true rfl|(show _< (recss _ _).length;rw[z3l];omega)|(show _< (lists _).length;rw[z1x];omega)|(refine⟨by omega,by omega,?_⟩;exact trivial)|(simp only[zm8];omega)|exact vcB):a:=h
theorem qBj2(h:a:=by first|exact vcA|(simp[-List.reduceReplicate]<;>omega)|exact Nat.le_of_ble_eq_true rfl|(show _< (recss _ _).length;rw[z3l];omega)|(show _< (lists _).length;rw[z1x];omega)|(simp only[z1t];omega)|exact vcB):a:=h
theorem uBj_0(h:a:=by
    repeat' (first|exact z01.to (z0i _)|exact z01.low (z0i _)|exact z01.to (z0k _)|exact z01.low (z0k _)|exact z01.to (z0l _)|exact z01.low (z0l _)|exact z01.to (z0c _)|exact z01.low (z0c _)|exact z01.to (z0m _)|exact z01.low (z0m _)|exact z01.to (z0f _)|exact z01.low (z0f _)|exact z01.to (z0h _ _)|exact z01.low (z0h _ _)|exact z01.to (z00 itmR _)|exact z01.low (z00 itmR _)|exact z01.to (z00 movR _)|exact z01.low (z00 movR _)|exact z01.to (z00 pceR _)|exact z01.low (z00 pceR _)|exact z01.to (z00 fndR _)|exact z01.low (z00 fndR _)|exact z01.to (z00 atmR _)|exact z01.low (z00 atmR _)|exact z01.to (z00 litR _)|exact z01.low (z00 litR _)|exact z01.to (z00 mdlR _)|exact z01.low (z00 mdlR _)|exact z0v (z0j z0r z05)|exact z0q (z0j z0r z05)|exact z0v z05|exact z0q z05|exact trivial|refine aI ?_ ?_|exact cC0|refine low_cons' ?_ ?_|exact cC1|fail)
    all_goals first|omega|exact z7e _|(show(_:List UInt8)=(runT t ws).1;rw[hre];done)|(show(_:Bool)=(runT t ws).2;rw[hre];done)|(rw[hre];first|rfl|exact⟨rfl,rfl⟩|exact trivial)|(simp[-List.reduceReplicate];done)|(simp[-List.reduceReplicate]<;>omega)|skip):a:=h
theorem DBj_0(kZ:b)(h:HidB b→a:=by intro kZ;(repeat first|refine aI qBj0 ?_|refine z0d qBj0 ?_|refine z09 qBj0 ?_|refine z0p qBj0 ?_|refine z0e ?_);exact kZ.out):a:=h ⟨kZ⟩
theorem z3v(kZ:b)(h:HidB b→a:=by intro kZ;refine sX ?_;refine DBj_0 ?_;refine exI ?_;exact kZ.out):a:=h ⟨kZ⟩
theorem sX0Bj_2(kZ:b)(h:HidB b→a:=by intro kZ;refine sX0 ?_;refine DBj_0 ?_;refine exI ?_;exact kZ.out):a:=h ⟨kZ⟩
theorem zjl(kZ:b)(h:HidB b→a:=by intro kZ;refine dX ?_;refine DBj_0 ?_;refine exI ?_;exact kZ.out):a:=h ⟨kZ⟩
theorem gXBj_4(kZ:b)(h:HidB b→a:=by intro kZ;refine gX ?_;refine DBj_0 ?_;refine exI ?_;exact kZ.out):a:=h ⟨kZ⟩
theorem gX0Bj_5(kZ:b)(h:HidB b→a:=by intro kZ;refine gX0 ?_;refine DBj_0 ?_;refine exI ?_;exact kZ.out):a:=h ⟨kZ⟩
theorem DBj_6(kZ:b)(h:HidB b→a:=by intro kZ;(repeat first|refine aI qBj1 ?_|refine z0d qBj1 ?_|refine z09 qBj1 ?_|refine z0p qBj1 ?_|refine z0e ?_);exact kZ.out):a:=h ⟨kZ⟩
theorem zcx(kZ:b)(h:HidB b→a:=by intro kZ;refine sX ?_;refine DBj_6 ?_;refine exI ?_;exact kZ.out):a:=h ⟨kZ⟩
theorem DBj_8(kZ:b)(h:HidB b→a:=by intro kZ;(repeat first|refine aI qBj2 ?_|refine z0d qBj2 ?_|refine z09 qBj2 ?_|refine z0p qBj2 ?_|refine z0e ?_);exact kZ.out):a:=h ⟨kZ⟩
theorem zoc(kZ:b)(h:HidB b→a:=by intro kZ;refine sX ?_;refine DBj_8 ?_;refine exI ?_;exact kZ.out):a:=h ⟨kZ⟩
theorem z6e(kZ:b)(h:HidB b→a:=by intro kZ;refine sX ?_;refine DBj_0 ?_;exact kZ.out):a:=h ⟨kZ⟩
theorem zaf(kZ:b)(h:HidB b→a:=by intro kZ;refine dX ?_;refine DBj_0 ?_;exact kZ.out):a:=h ⟨kZ⟩
theorem z7d(kZ:b)(h:HidB b→a:=by intro kZ;refine sX ?_;refine DBj_6 ?_;exact kZ.out):a:=h ⟨kZ⟩
theorem zjm(kZ:b)(h:HidB b→a:=by intro kZ;refine sX ?_;refine DBj_8 ?_;exact kZ.out):a:=h ⟨kZ⟩
end
open Go.Aut
attribute [local irreducible] z1g
theorem zcy(t:Tra):∀ l:List UInt8,l.foldl (stepT t) none=none
  |[]=>rfl
  |_::l=>zcy t l
def runK(t:Tra)(w:List UInt8)(k:Nat):Option (List UInt8×Nat):=(w.take k).foldl (stepT t) (some ([],0))
theorem zfu{t:Tra}{w:List UInt8}{k:Nat}(h:k< w.length):runK t w (k+1)=stepT t (runK t w k) (w.getD k 0):=by
  rw[runK,runK,List.take_add_one,List.getElem?_eq_getElem h,List.foldl_append,z6b h];rfl
theorem runK_bad{t:Tra}{w:List UInt8}{k:Nat}(h:runK t w k=none):w.foldl (stepT t) (some ([],0))=none:=by
  rw[runK]at h;rw[←List.take_append_drop k w,List.foldl_append,h,zcy]
theorem runK_all(t:Tra)(w:List UInt8):runK t w w.length=w.foldl (stepT t) (some ([],0)):=by rw[runK,List.take_length]
structure TraOK(t:Tra):Prop where
  n1:1≤t.moves.length
  n2:t.moves.length≤64
  fin:t.fin.length=t.moves.length
  ends:t.ends.length=t.moves.length
  nc:t.nc≤256
  cls:clsP t.cls t.nc=true
  row:∀ s,s< t.moves.length→(t.moves.getD s []).length=t.nc
  endl:∀ s,s< t.moves.length→(t.ends.getD s []).length≤8
  mv:∀ s,s< t.moves.length→∀ m∈t.moves.getD s [],-1≤m.to∧m.to< t.moves.length∧m.out.length≤8
theorem tra_ok{t:Tra}(h:traOK t=true):TraOK t:=by
 rw[traOK,Bool.and_eq_true,Bool.and_eq_true,decide_eq_true_eq,List.all_eq_true]at h;obtain⟨⟨⟨h1,h2,h3,h4,h5⟩,h6⟩,h7⟩:=h
 have hr:∀ s,s< t.moves.length→rowT t s=true:=fun s hs=>h7 s (List.mem_range.2 hs)
 refine⟨h1,h2,h3,h4,h5,h6,fun s hs=>?_,fun s hs=>?_,fun s hs m hm=>?_⟩
 ·have:=hr s hs;simp only[rowT,Bool.and_eq_true,decide_eq_true_eq]at this;exact this.1.1.1
 ·have:=hr s hs;simp only[rowT,Bool.and_eq_true,decide_eq_true_eq]at this;exact this.1.1.2
 ·have:=hr s hs;simp only[rowT,Bool.and_eq_true,decide_eq_true_eq,List.all_eq_true]at this
  have:=this.2 m hm
  simp only[movOK,Bool.and_eq_true,decide_eq_true_eq]at this
  exact⟨this.1.1.1.1,this.1.1.1.2,this.1.1.2⟩
theorem mov_mem{t:Tra}{s:Nat}{b:UInt8}(ht:TraOK t)(hg:(dT t).good)(hs:s< t.moves.length):(t.moves.getD s [])[cellT t b.toNat]? =some (movT t s b):=by
  have hl:cellT t b.toNat< (t.moves.getD s []).length:=by rw[ht.row s hs];exact zjh hg b.toNat_lt
  rw[movT,List.getD_eq_getElem?_getD (i:=cellT t b.toNat),List.getElem?_eq_getElem hl];rfl
theorem step_yes{t:Tra}{w:List UInt8}{s:Nat}{b:UInt8}(h:0≤(movT t s b).to):stepT t (some (w,s)) b=some (w++z22 (movT t s b).out b,(movT t s b).to.toNat):=by
  show(if _ then _ else _)=_
  rw[if_neg (by omega)]
theorem step_no{t:Tra}{w:List UInt8}{s:Nat}{b:UInt8}(h:(movT t s b).to< 0):stepT t (some (w,s)) b=none:=by
  show(if _ then _ else _)=_
  rw[if_pos h]
theorem zhm(l:List Pce)(b:UInt8):(z22 l b).length=l.length:=by simp[z22]
abbrev outTV(r:List UInt8×Bool):SV:=.tup [.c (.ds r.1.length (.u8s r.1)),.c (.bool r.2)]
theorem z7e(r:List UInt8×Bool):SV.low 0 (outTV r):=List.forall_mem_cons.2 ⟨trivial,List.forall_mem_cons.2 ⟨trivial,fun _ h=>by cases h⟩⟩
noncomputable def crn:Ctx:={ P:=Tryd.prog,ty:=ty,glob:=gl,fs:=[(60,.flat zob),(61,.flat zo7),(62,.data zjj)] }
theorem z3d:crn.OK:=⟨tyOK,⟨⟨z07 Tryd.func60 kQf rfl,zjk⟩,⟨z07 Tryd.func61 kQf rfl,zo8⟩,⟨z07 Tryd.func62 kQf rfl,zld⟩,trivial⟩,mixed⟩
@[simp] theorem crn_ty:crn.ty=ty:=rfl

def runTS:QSpec:=fun vs K=>∃ (t:Tra) (ws:List UInt8),vs=[traV t,.c (.ds ws.length (.u8s ws))]∧(t.wf∧ws.length≤8796093022208)∧K (outTV (runT t ws))
theorem runT_ok:z3u Tryd.prog gl 28 runTS:=by
 refine z3p (Γ:=crn) (N:=59) Tryd.func28 rfl rfl fun vs K h=>?_;obtain⟨t,ws,rfl,⟨hwf,hwl⟩,h⟩:=h;refine⟨_,h,z7e _,by simp,fun w I=>?_⟩;refine srR z3d fun _ K2=>?_
 iterate 3 refine z3v ?_
 refine s_n K2 ?_;refine seq_k fun _ K3=>?_;refine srR z3d fun _ K5=>?_;refine z6e ?_;refine exA (traV t) (as_eq rfl) ?_;refine z6e ?_;refine aI (z01.noclo (z0m t)) ?_;refine⟨t,rfl,hwf,?_⟩;refine DBj_0 ?_
 first|refine exI ?_|(intro cap1 hcap1;refine exI ?_)
 refine z3v ?_;refine s_n K5 ?_;refine z06 (b:=_) rfl (fun h_t14=>?_) (fun h_t14=>?_)
 ·try simp only[dQ,reduceIte]at h_t14
  have hre:runT t ws=([],false):=by rw[runT,if_neg (by simpa using h_t14)]
  refine srR z3d fun _ K7=>?_
  iterate 2 refine z3v ?_
  refine s_n K7 ?_;refine z0b (z19 z3d (fun _ _ h=>h) (z7e _) [] [.tmp 4,.tmp 5] rfl ?_)
  all_goals exact uBj_0
 ·try simp only[dQ,reduceIte]at h_t14
  refine z0g ?_;apply K3
  have hv:traOK t=true:=by simpa using h_t14
  have ht:=tra_ok hv
  have hg:=dT_good hwf.1 ht.cls ht.nc
  refine srR z3d fun _ K9=>?_;refine z3v ?_;refine z6e ?_;refine exA (.c (.ds t.nc (.u64s t.cls))) (as_eq rfl) ?_;refine z6e ?_;refine⟨dT t,rfl,hg.1,?_⟩;refine DBj_0 ?_
  first|refine exI ?_|(intro cap2 hcap2;refine exI ?_)
  refine z3v ?_;refine sX0Bj_2 ?_;refine z3v ?_;refine s_n K9 ?_;refine srR z3d fun _ K11=>?_;refine z3v ?_;refine s_n K11 ?_;refine seq_k fun _ K12=>?_;refine srR z3d fun _ K14=>?_
  iterate 3 refine z3v ?_
  refine s_n K14 ?_;refine z0a ?_;refine WP_nil 8 5 (.u8s []) rfl rfl trivial ?_;refine z13 (α:=Nat×List UInt8×Nat×Nat) (fun g=>[(2,.c (.dp (.cells (traL t)) 0)),(6,.c (.dp (.ints .i64 (z1g (dT t) t.nc)) 0)),(18,.c (.ds ws.length (.u8s ws))),(19,.c (.int .i64 (ws.length:Nat))),(20,.c (.int .i64 (g.1:Nat))),(7,.c (.int .i64 (g.2.2.1:Nat))),(8,.c (.slice 0 0 g.2.1.length g.2.2.2))]) (fun g=>[(0,.own 5 (.u8s g.2.1) g.2.2.2)]) 1 (fun g=>g.1≤ws.length∧runK t ws g.1=some (g.2.1,g.2.2.1)∧g.2.2.1< t.moves.length∧g.2.1.length≤8*g.1) (fun g=>ws.length - g.1) ?_ ?_
  ·refine dnS [0,1] (fun _=>2) (0,[],0,0) ⟨Nat.zero_le _,rfl,ht.n1,by simp⟩ [2] uBj_0 uBj_0 uBj_0 uBj_0
  ·intro g hg1
   obtain⟨hgk,hg0⟩:=hg1
   have hen:=ht.ends
   have hfl:=ht.fin
   refine srR z3d fun _ K16=>?_;refine z3v ?_;refine s_n K16 ?_;refine seq_k fun _ K17=>?_;refine z06 (b:=_) rfl (fun h_t21=>?_) (fun h_t21=>?_)
   ·try simp only[dQ,reduceIte]at h_t21
    refine z0g ?_;apply K17;refine seq_k fun _ K18=>?_;refine z0a ?_
    have hkl:g.1< ws.length:=by omega
    refine srR z3d fun _ K20=>?_;refine z3v ?_;refine z6e ?_;refine exA (.c (.u8 (ws.getD g.1 0))) (as_eq (congrArg (fun v=>SV.c (Cell.u8 v)) (congrArg (fun i=>ws.getD i 0) (by omega)))) ?_;refine z3v ?_;refine s_n K20 ?_
    have hbt:((ws.getD g.1 0)).toNat< 256:=UInt8.toNat_lt _
    have hcl2:=zjh hg (b:=(ws.getD g.1 0).toNat) (UInt8.toNat_lt _)
    have hrs:=ht.row _ hg0.2.1
    have hmm:=mov_mem (b:=(ws.getD g.1 0)) ht hg hg0.2.1
    have hcL:(z1g (dT t) t.nc).length=256:=by simp
    have hmv:=ht.mv _ hg0.2.1 _ (List.mem_of_getElem? hmm)
    obtain⟨m,hm⟩:∃ m,m=(movT t g.2.2.1 (ws.getD g.1 0)):=⟨_,rfl⟩;rw[←hm]at hmm hmv;refine srD z3d [(0,true),(1,true),(2,true),(3,true),(4,true),(5,true),(6,true),(7,true),(8,true),(9,true),(10,false),(11,false)] rfl kQf kQf fun _ K22=>?_;refine zjl ?_;refine zaf ?_;refine exA (.c (.ds t.moves.length (.cells (recss movL t.moves)))) (as_eq rfl) ?_
    iterate 2 refine zjl ?_
    refine zaf ?_;refine exA (.c (.ds (t.moves.getD g.2.2.1 []).length (.cells (z0o movL (t.moves.getD g.2.2.1 []))))) (as_c (rcs_at ⟨by omega,by omega⟩)) ?_
    iterate 2 refine zjl ?_
    refine zaf ?_;refine exA (.c (.int .i64 ((cellT t (ws.getD g.1 0).toNat:Nat):Int))) (as_i ((congrArg (fun i=>(z1g (dT t) t.nc).getD i 0) (by omega)).trans (cellT_eq (UInt8.toNat_lt _)))) ?_;refine zjl ?_;refine zaf ?_;refine exA (.agg (.cells (movL m))) (z31 movR (fun _ _=>trivial) (i:=(cellT t (ws.getD g.1 0).toNat)) (by first|rfl|omega) rfl hmm) ?_;refine gXBj_4 ?_;refine gX0Bj_5 ?_;refine d_n K22 ?_;refine seq_k fun _ K23=>?_;refine srR z3d fun _ K25=>?_;refine z3v ?_;refine z6e ?_;refine exA (.c (.int .i64 m.to)) (as_eq rfl) ?_;refine z3v ?_;refine s_n K25 ?_;refine z06 (b:=_) rfl (fun h_t36=>?_) (fun h_t36=>?_)
    ·try simp only[dQ,reduceIte]at h_t36
     have hst:runK t ws (g.1+1)=none:=by rw[zfu hkl,hg0.1];exact step_no (by rw[←hm];exact h_t36)
     have hre:runT t ws=([],false):=by rw[runT,if_pos hv,runK_bad hst]
     refine srR z3d fun _ K27=>?_
     iterate 2 refine z3v ?_
     refine s_n K27 ?_;refine z0b (z19 z3d (fun _ _ h=>h) (z7e _) [] [.tmp 4,.tmp 5] rfl ?_)
     all_goals exact uBj_0
    ·try simp only[dQ,reduceIte]at h_t36
     refine z0g ?_;apply K23
     have hst:runK t ws (g.1+1)=some (g.2.1++z22 m.out (ws.getD g.1 0),m.to.toNat):=by rw[zfu hkl,hg0.1,hm];exact step_yes (by rw[←hm];omega)
     have hwn:=zhm m.out (ws.getD g.1 0)
     refine srR z3d fun _ K29=>?_
     iterate 2 refine zcx ?_
     refine z7d ?_;refine exA (.c (.ds m.out.length (.cells (z0o pceL m.out)))) (as_eq rfl) ?_;refine zcx ?_;refine z7d ?_;refine⟨m.out,(ws.getD g.1 0),rfl,by omega,?_⟩;refine DBj_6 ?_
     first|refine exI ?_|(intro cap4 hcap4;refine exI ?_)
     refine z7d ?_;intro cap5 hcap5;refine exI ?_;refine zcx ?_;refine s_n K29 ?_;refine z04 z3d fun _ K30=>?_;refine z3v ?_;refine z6e ?_;refine exA (.c (.int .i64 m.to)) (as_eq rfl) ?_;refine z3v ?_;refine s_n K30 ?_;refine z08 ?_;apply K18;refine z04 z3d fun _ K31=>?_
     iterate 2 refine z3v ?_
     refine s_n K31 ?_
     have hmt:((m.to.toNat:Nat):Int)=m.to:=by omega
     refine dnS [] (fun _=>2) (g.1+1,g.2.1++z22 m.out (ws.getD g.1 0),m.to.toNat,cap5) ⟨⟨(by show g.1+1≤_;omega),hst,(by show m.to.toNat< _;omega),(by show(g.2.1++_).length≤8*(g.1+1);rw[List.length_append,hwn];omega)⟩,(by show _ - (g.1+1)< _;omega)⟩ [2] ?_ ?_ ?_ ?_
     ·exact uBj_0
     ·exact uBj_0
     ·exact uBj_0
     ·exact uBj_0
   ·try simp only[dQ,reduceIte]at h_t21
    refine z0y ?_;refine z03 ?_;refine z03 ?_;refine z0s ?_;apply K12;refine seq_k fun _ K32=>?_
    have hgl:g.1=ws.length:=by omega
    have hfold:ws.foldl (stepT t) (some ([],0))=some (g.2.1,g.2.2.1):=by rw[←runK_all, ←hgl,hg0.1]
    refine srR z3d fun _ K34=>?_;refine zoc ?_;refine zjm ?_;refine exA (.c (.ds t.fin.length (.bools t.fin))) (as_eq rfl) ?_
    iterate 2 refine zoc ?_
    refine zjm ?_;refine exA (.c (.bool (t.fin.getD g.2.2.1 false))) (as_b (congrArg (fun i=>t.fin.getD i false) (by omega))) ?_;refine zoc ?_;refine s_n K34 ?_;refine z06 (b:=_) rfl (fun h_t51=>?_) (fun h_t51=>?_)
    ·try simp only[dQ,reduceIte]at h_t51
     have hfn:t.fin.getD g.2.2.1 false=false:=by simpa using h_t51
     have hre:runT t ws=([],false):=by rw[runT,if_pos hv,hfold];show(if _ then _ else _)=_;rw[if_neg (by rw[hfn];decide)]
     refine srR z3d fun _ K36=>?_
     iterate 2 refine z3v ?_
     refine s_n K36 ?_;refine z0b (z19 z3d (fun _ _ h=>h) (z7e _) [] [.tmp 4,.tmp 5] rfl ?_)
     all_goals exact uBj_0
    ·try simp only[dQ,reduceIte]at h_t51
     refine z0g ?_;apply K32
     have hfn:t.fin.getD g.2.2.1 false=true:=by simpa using h_t51
     have hel:=ht.endl _ hg0.2.1
     have hre:runT t ws=(g.2.1++t.ends.getD g.2.2.1 [],true):=by rw[runT,if_pos hv,hfold];show(if _ then _ else _)=_;rw[if_pos hfn]
     refine srR z3d fun _ K38=>?_
     iterate 2 refine zcx ?_
     refine z7d ?_;refine exA (.c (.ds t.ends.length (.cells (lists t.ends)))) (as_eq rfl) ?_
     iterate 2 refine zcx ?_
     refine z7d ?_;refine exA (.c (.ds (t.ends.getD g.2.2.1 []).length (.u8s (t.ends.getD g.2.2.1 [])))) (as_c (zft ⟨by omega,by omega⟩)) ?_;refine z7d ?_;intro cap6 hcap6;refine exI ?_
     iterate 2 refine zcx ?_
     refine s_n K38 ?_;refine z0b (z19 z3d (fun _ _ h=>h) (z7e _) [1] [.tmp 4,.tmp 5] rfl ?_);rw[hre]
     all_goals exact uBj_0


end Go.Proofs.YtegdcifghaldoaaDoor

namespace Go.Proofs.YtegdcifghaldoaaDoor
set_option linter.all false
open Go.Ab Go.RowKit

section
variable {a b:Prop}
theorem uBk_0(h:a:=by
    repeat' (first|exact z01.to (z0i _)|exact z01.low (z0i _)|exact z01.to (z0k _)|exact z01.low (z0k _)|exact z01.to (z0l _)|exact z01.low (z0l _)|exact z01.to (z0c _)|exact z01.low (z0c _)|exact z01.to (z0m _)|exact z01.low (z0m _)|exact z01.to (z0f _)|exact z01.low (z0f _)|exact z01.to (z0h _ _)|exact z01.low (z0h _ _)|exact z01.to (z00 itmR _)|exact z01.low (z00 itmR _)|exact z01.to (z00 movR _)|exact z01.low (z00 movR _)|exact z01.to (z00 pceR _)|exact z01.low (z00 pceR _)|exact z01.to (z00 fndR _)|exact z01.low (z00 fndR _)|exact z01.to (z00 atmR _)|exact z01.low (z00 atmR _)|exact z01.to (z00 litR _)|exact z01.low (z00 litR _)|exact z01.to (z00 mdlR _)|exact z01.low (z00 mdlR _)|exact z0v (z0j z0r z05)|exact z0q (z0j z0r z05)|exact z0v z05|exact z0q z05|exact trivial|refine aI ?_ ?_|exact cC0|refine low_cons' ?_ ?_|exact cC1|fail)
    all_goals first|omega|(show(_:Bool)=_;first|(simp[zjp, *];done)|(simp_all [zjp];done))|(simp[-List.reduceReplicate];done)|(simp[-List.reduceReplicate]<;>omega)|skip):a:=h
theorem uBk_1(h:a:=by
    repeat' (first|exact z01.to (z0i _)|exact z01.low (z0i _)|exact z01.to (z0k _)|exact z01.low (z0k _)|exact z01.to (z0l _)|exact z01.low (z0l _)|exact z01.to (z0c _)|exact z01.low (z0c _)|exact z01.to (z0m _)|exact z01.low (z0m _)|exact z01.to (z0f _)|exact z01.low (z0f _)|exact z01.to (z0h _ _)|exact z01.low (z0h _ _)|exact z01.to (z00 itmR _)|exact z01.low (z00 itmR _)|exact z01.to (z00 movR _)|exact z01.low (z00 movR _)|exact z01.to (z00 pceR _)|exact z01.low (z00 pceR _)|exact z01.to (z00 fndR _)|exact z01.low (z00 fndR _)|exact z01.to (z00 atmR _)|exact z01.low (z00 atmR _)|exact z01.to (z00 litR _)|exact z01.low (z00 litR _)|exact z01.to (z00 mdlR _)|exact z01.low (z00 mdlR _)|exact z0v (z0j z0r z05)|exact z0q (z0j z0r z05)|exact z0v z05|exact z0q z05|exact trivial|refine aI ?_ ?_|exact cC0|refine low_cons' ?_ ?_|exact cC1|fail)
    all_goals first|omega|(show(_:Bool)=_;first|(simp[hb3, *];done)|(simp_all [hb3];done))|(simp[-List.reduceReplicate];done)|(simp[-List.reduceReplicate]<;>omega)|skip):a:=h
theorem uBk_2(h:a:=by
    repeat' (first|exact z01.to (z0i _)|exact z01.low (z0i _)|exact z01.to (z0k _)|exact z01.low (z0k _)|exact z01.to (z0l _)|exact z01.low (z0l _)|exact z01.to (z0c _)|exact z01.low (z0c _)|exact z01.to (z0m _)|exact z01.low (z0m _)|exact z01.to (z0f _)|exact z01.low (z0f _)|exact z01.to (z0h _ _)|exact z01.low (z0h _ _)|exact z01.to (z00 itmR _)|exact z01.low (z00 itmR _)|exact z01.to (z00 movR _)|exact z01.low (z00 movR _)|exact z01.to (z00 pceR _)|exact z01.low (z00 pceR _)|exact z01.to (z00 fndR _)|exact z01.low (z00 fndR _)|exact z01.to (z00 atmR _)|exact z01.low (z00 atmR _)|exact z01.to (z00 litR _)|exact z01.low (z00 litR _)|exact z01.to (z00 mdlR _)|exact z01.low (z00 mdlR _)|exact z0v (z0j z0r z05)|exact z0q (z0j z0r z05)|exact z0v z05|exact z0q z05|exact trivial|refine aI ?_ ?_|exact cC0|refine low_cons' ?_ ?_|exact cC1|fail)
    all_goals first|omega|(show(_:Bool)=_;first|(simp[zjn, *];done)|(simp_all [zjn];done))|(simp[-List.reduceReplicate];done)|(simp[-List.reduceReplicate]<;>omega)|skip):a:=h
theorem uBk_3(h:a:=by
    repeat' (first|exact z01.to (z0i _)|exact z01.low (z0i _)|exact z01.to (z0k _)|exact z01.low (z0k _)|exact z01.to (z0l _)|exact z01.low (z0l _)|exact z01.to (z0c _)|exact z01.low (z0c _)|exact z01.to (z0m _)|exact z01.low (z0m _)|exact z01.to (z0f _)|exact z01.low (z0f _)|exact z01.to (z0h _ _)|exact z01.low (z0h _ _)|exact z01.to (z00 itmR _)|exact z01.low (z00 itmR _)|exact z01.to (z00 movR _)|exact z01.low (z00 movR _)|exact z01.to (z00 pceR _)|exact z01.low (z00 pceR _)|exact z01.to (z00 fndR _)|exact z01.low (z00 fndR _)|exact z01.to (z00 atmR _)|exact z01.low (z00 atmR _)|exact z01.to (z00 litR _)|exact z01.low (z00 litR _)|exact z01.to (z00 mdlR _)|exact z01.low (z00 mdlR _)|exact z0v (z0j z0r z05)|exact z0q (z0j z0r z05)|exact z0v z05|exact z0q z05|exact trivial|refine aI ?_ ?_|exact cC0|refine low_cons' ?_ ?_|exact cC1|fail)
    all_goals first|omega|(show(_:Bool)=_;first|(simp[zjo, *];done)|(simp_all [zjo];done))|(simp[-List.reduceReplicate];done)|(simp[-List.reduceReplicate]<;>omega)|skip):a:=h
theorem uBk_4(h:a:=by
    repeat' (first|exact z01.to (z0i _)|exact z01.low (z0i _)|exact z01.to (z0k _)|exact z01.low (z0k _)|exact z01.to (z0l _)|exact z01.low (z0l _)|exact z01.to (z0c _)|exact z01.low (z0c _)|exact z01.to (z0m _)|exact z01.low (z0m _)|exact z01.to (z0f _)|exact z01.low (z0f _)|exact z01.to (z0h _ _)|exact z01.low (z0h _ _)|exact z01.to (z00 itmR _)|exact z01.low (z00 itmR _)|exact z01.to (z00 movR _)|exact z01.low (z00 movR _)|exact z01.to (z00 pceR _)|exact z01.low (z00 pceR _)|exact z01.to (z00 fndR _)|exact z01.low (z00 fndR _)|exact z01.to (z00 atmR _)|exact z01.low (z00 atmR _)|exact z01.to (z00 litR _)|exact z01.low (z00 litR _)|exact z01.to (z00 mdlR _)|exact z01.low (z00 mdlR _)|exact z0v (z0j z0r z05)|exact z0q (z0j z0r z05)|exact z0v z05|exact z0q z05|exact trivial|refine aI ?_ ?_|exact cC0|refine low_cons' ?_ ?_|exact cC1|fail)
    all_goals first|omega|(show(_:Bool)=_;first|(simp[atmB4, *];done)|(simp_all [atmB4];done))|(simp[-List.reduceReplicate];done)|(simp[-List.reduceReplicate]<;>omega)|skip):a:=h
theorem z21(kZ:b)(h:HidB b→a:=by intro kZ;refine sXT ?_;refine DBd_3 ?_;refine exI ?_;exact kZ.out):a:=h ⟨kZ⟩
theorem z1e(kZ:b)(h:HidB b→a:=by intro kZ;refine sX ?_;refine DBd_3 ?_;exact kZ.out):a:=h ⟨kZ⟩
theorem z1u(kZ:b)(h:HidB b→a:=by intro kZ;refine sXT ?_;refine DBd_3 ?_;exact kZ.out):a:=h ⟨kZ⟩
end
open Go.Aut
def Rul.inr(r:Rul):Prop:=inR .i64 r.base∧inR .i64 r.digits∧inR .i64 r.top∧inR .i64 r.over
def Atm.wfS(a:Atm):Prop:=a.wf∧(a.d.nc≤1152921504606846976∧a.d.next.length≤1152921504606846976∧a.d.acc.length≤1152921504606846976)∧(a.m.nc≤1152921504606846976∧a.m.moves.length≤1152921504606846976∧a.m.fin.length≤1152921504606846976∧a.m.ends.length≤1152921504606846976)∧a.q.inr
theorem zeroQ_eq{r:Rul}{bz:Bool}(h:bz=true↔rulC r=Cont.cells [.int .i64 0,.int .i64 0,.int .i64 0,.int .i64 0,.bool false]):bz=zeroQ r:=by
  rw[Bool.eq_iff_iff,h,zeroQ,decide_eq_true_eq]
  constructor
  · intro e
    simpa using e
  · rintro ⟨h1,h2,h3,h4,h5⟩
    rw[rulC,h1,h2,h3,h4,h5]
theorem zjn(a:Atm):atmB2 a=((!(decide (a.kind=3)&&decide (0< a.t.length)))&& !(decide (a.kind≠2)&&decide (a.kind≠4)&&decide (0< a.u.length))):=rfl
theorem zjo(a:Atm):atmB3 a=(((decide (a.kind=1)||zeroD a.d)&&(decide (a.kind=3)||zeroR a.ra a.rc))&&(decide (a.kind=4)||zeroT a.m)):=rfl
theorem z9i(ra:List Int)(rc:Int)(n:Nat):zj9 ra rc n=((decide (ra.length=n)&& !(ra.any fun x=> !z6k x))&&inI (-1000) 999 rc):=by
  unfold zj9 inI;rw[List.all_eq_not_any_not]
  cases decide (ra.length=n)<;>cases (ra.any fun x=> !z6k x)<;>simp
theorem zjp(a:Atm)(n:Nat):atmB1 a n=((inI 1 5 a.kind&&z2e a.t n)&&z2e a.u n):=rfl
theorem pl3_(d:Dfa):z01 [.ds d.nc (.u64s d.cls),.ds d.next.length (.cells (rowsC d.next)),.ds d.acc.length (.bools d.acc)]:=z25 rfl (pl2 rfl rfl)
theorem plR_(ra:List Int)(rc:Int):z01 [.ds ra.length (.ints .i64 ra),.int .i64 rc]:=pl2 rfl rfl
theorem zfv(r:Rul):z01 [.int .i64 r.base,.int .i64 r.digits,.int .i64 r.top,.int .i64 r.over,.bool r.zeros]:=z25 rfl (z25 rfl (z25 rfl (pl2 rfl rfl)))
theorem inI_lt(v:Int)(k:Nat):inI 0 ((k:Int) - 1) v=(decide (0≤v)&&decide (v< (k:Int))):=by
  unfold inI;congr 1;rw[decide_eq_decide];omega
theorem zfw(r:Rul):decide (zbr r=0)=r.okB:=by
  unfold zbr;split<;>simp_all
noncomputable def cva:Ctx:={ P:=Tryd.prog,ty:=ty,glob:=gl,fs:=[(52,.flat z9e),(33,.flat zhi),(80,.flat zeroDS),(81,.flat zeroRS),(82,.flat zeroTS),(58,.flat zh9),(60,.flat zob),(63,.flat zhg),(50,.flat hasACS)] }
theorem z1k:cva.OK:=⟨tyOK,⟨⟨z07 Tryd.func52 kQf rfl,z72⟩,⟨z07 Tryd.func33 kQf rfl,zfq⟩,⟨z07 Tryd.func80 kQf rfl,zeroD_ok⟩,⟨z07 Tryd.func81 kQf rfl,zeroR_ok⟩,⟨z07 Tryd.func82 kQf rfl,zeroT_ok⟩,⟨z07 Tryd.func58 kQf rfl,zfg⟩,⟨z07 Tryd.func60 kQf rfl,zjk⟩,⟨z07 Tryd.func63 kQf rfl,zfn⟩,⟨z07 Tryd.func50 kQf rfl,hasAC_ok⟩,trivial⟩,mixed⟩
@[simp] theorem cva_ty:cva.ty=ty:=rfl

def zod:QSpec:=fun vs K=>∃ (a:Atm) (nn kk:Nat),vs=[atmV a,.c (.int .i64 (nn:Int)),.c (.int .i64 (kk:Int))]∧(a.wf∧(a.d.nc≤1152921504606846976∧a.d.next.length≤1152921504606846976∧a.d.acc.length≤1152921504606846976)∧(a.m.nc≤1152921504606846976∧a.m.moves.length≤1152921504606846976∧a.m.fin.length≤1152921504606846976∧a.m.ends.length≤1152921504606846976)∧nn≤1152921504606846976∧kk≤1152921504606846976∧a.q.inr)∧K (.c (.bool (atmOK a nn kk)))
theorem zjq : z11 Tryd.prog gl 49 zod:=by
 refine z0u (Γ:=cva) (N:=139) Tryd.func49 rfl rfl fun vs K h=>?_;obtain⟨a,nn,kk,rfl,⟨hw,hz,hzm,hn,hk,hq1,hq2,hq3,hq4⟩,h⟩:=h;refine⟨_,h,rfl,by simp,fun w I=>?_⟩;refine srR z1k fun _ K2=>?_
 iterate 2 refine sXBd_4 ?_
 refine s_n K2 ?_;refine seq_k fun _ K3=>?_;refine z0a ?_;refine z3a (α:=Unit) (fun _=>[(1,.c (.int .i64 (nn:Int))),(2,.c (.int .i64 (kk:Int))),(3,.c (.dp (.cells (atmL a)) 0)),(8,.c (.bool (!atmB1 a nn)))]) (fun _=>[]) 0 (fun _=>True) ?_ ?_
 ·refine srR z1k fun _ K5=>?_
  refine sXBd_4 ?_;refine z1e ?_;refine exA (.c (.int .i64 a.kind)) ((by first|exact as_eq rfl|(exfalso;omega))) ?_;refine z1e ?_;refine⟨a.kind,1,5,rfl,?_⟩;refine DBd_3 ?_
  first|refine exI ?_|(intro cap2 hcap2;refine exI ?_)
  iterate 2 refine sXBd_4 ?_
  refine s_n K5 ?_;refine z06 (b:=_) rfl (fun h_t8=>?_) (fun h_t8=>?_)
  ·try simp only[dQ,reduceIte]at h_t8
   refine z0g ?_;refine dnS [0] id () trivial [] uBk_0 uBk_0 uBk_0 uBk_0
  ·try simp only[dQ,reduceIte]at h_t8
   refine srR z1k fun _ K7=>?_;refine sXBd_4 ?_;refine z1e ?_;refine exA (.c (itmsX a.t)) ((by first|exact as_eq rfl|(exfalso;omega))) ?_;refine sXBd_4 ?_;refine z1e ?_;refine⟨a.t,nn,rfl,hw.1,?_⟩;refine DBd_3 ?_
   first|refine exI ?_|(intro cap3 hcap3;refine exI ?_)
   iterate 2 refine sXBd_4 ?_
   refine s_n K7 ?_;refine z06 (b:=_) rfl (fun h_t8=>?_) (fun h_t8=>?_)
   ·try simp only[dQ,reduceIte]at h_t8
    refine z0g ?_;refine dnS [0] id () trivial [] uBk_0 uBk_0 uBk_0 uBk_0
   ·try simp only[dQ,reduceIte]at h_t8
    refine z04 z1k fun _ K8=>?_;refine sXBd_4 ?_;refine z1e ?_;refine exA (.c (itmsX a.u)) ((by first|exact as_eq rfl|(exfalso;omega))) ?_;refine sXBd_4 ?_;refine z1e ?_;refine⟨a.u,nn,rfl,hw.2.1,?_⟩;refine DBd_3 ?_
    first|refine exI ?_|(intro cap3 hcap3;refine exI ?_)
    iterate 2 refine sXBd_4 ?_
    refine s_n K8 ?_;refine dnS [0] id () trivial [] uBk_0 uBk_0 uBk_0 uBk_0
 ·intro u hu
  clear hu;refine z06 (b:=_) rfl (fun h_t8=>?_) (fun h_t8=>?_)
  ·try simp only[dQ,reduceIte]at h_t8
   refine srR z1k fun _ K10=>?_;refine sXBd_4 ?_;refine s_n K10 ?_;refine z0b (z02 z1k (fun _ _ h=>h) (by first|rfl|assumption) [.tmp 6] rfl ?_);refine rtD ?_
   show SV.c (.bool _)=SV.c (.bool _)
   congr 2
   rw[atmOK,show atmB1 a nn=false by simpa using h_t8];rfl
  ·try simp only[dQ,reduceIte]at h_t8
   refine z3a (α:=Unit) (fun _=>[(1,.c (.int .i64 (nn:Int))),(2,.c (.int .i64 (kk:Int))),(3,.c (.dp (.cells (atmL a)) 0)),(23,.c (.bool (!atmB2 a)))]) (fun _=>[]) 0 (fun _=>True) ?_ ?_
   ·refine z3a (α:=Unit) (fun _=>[(1,.c (.int .i64 (nn:Int))),(2,.c (.int .i64 (kk:Int))),(3,.c (.dp (.cells (atmL a)) 0)),(23,.c (.bool (!(!(decide (a.kind=3)&&decide (0< a.t.length))))))]) (fun _=>[]) 0 (fun _=>True) ?_ ?_
    ·refine z04 z1k fun _ K11=>?_
     refine sXBd_4 ?_;refine z1e ?_;refine exA (.c (.int .i64 a.kind)) ((by first|exact as_eq rfl|(exfalso;omega))) ?_;refine sXBd_4 ?_;refine z1e ?_;refine exB (fun hb3=>?_) (fun hb3=>?_)
     ·try simp only[dQ,reduceIte]at hb3
      refine z21 ?_;refine z1u ?_;refine exA (.c (itmsX a.t)) ((by first|exact as_eq rfl|(exfalso;omega))) ?_
      iterate 2 refine z21 ?_
      iterate 2 refine sXBd_4 ?_
      refine s_n K11 ?_;refine dnS [] id () trivial [] uBk_1 uBk_1 uBk_1 uBk_1
     ·try simp only[dQ,reduceIte]at hb3
      iterate 4 refine sN ?_
      iterate 2 refine sXBd_4 ?_
      refine s_n K11 ?_;refine dnS [] id () trivial [] uBk_1 uBk_1 uBk_1 uBk_1
    ·intro u hu
     clear hu;refine z06 (b:=_) rfl (fun h_t23=>?_) (fun h_t23=>?_)
     ·try simp only[dQ,reduceIte]at h_t23
      refine z0g ?_;refine dnS [] id () trivial [] uBk_2 uBk_2 uBk_2 uBk_2
     ·try simp only[dQ,reduceIte]at h_t23
      refine z04 z1k fun _ K12=>?_;refine sXBd_4 ?_;refine z1e ?_;refine exA (.c (.int .i64 a.kind)) ((by first|exact as_eq rfl|(exfalso;omega))) ?_;refine sXBd_4 ?_;refine z1e ?_;refine exB (fun hb3=>?_) (fun hb3=>?_)
      ·try simp only[dQ,reduceIte]at hb3
       refine z21 ?_;refine z1u ?_;refine exA (.c (.int .i64 a.kind)) ((by first|exact as_eq rfl|(exfalso;omega))) ?_;refine z21 ?_;refine sXBd_4 ?_;refine z1e ?_;refine exB (fun hb8=>?_) (fun hb8=>?_)
       ·try simp only[dQ,reduceIte]at hb8
        refine z21 ?_;refine z1u ?_;refine exA (.c (itmsX a.u)) ((by first|exact as_eq rfl|(exfalso;omega))) ?_
        iterate 2 refine z21 ?_
        iterate 2 refine sXBd_4 ?_
        refine s_n K12 ?_;refine dnS [] id () trivial [] uBk_2 uBk_2 uBk_2 uBk_2
       ·try simp only[dQ,reduceIte]at hb8
        iterate 4 refine sN ?_
        iterate 2 refine sXBd_4 ?_
        refine s_n K12 ?_;refine dnS [] id () trivial [] uBk_2 uBk_2 uBk_2 uBk_2
      ·try simp only[dQ,reduceIte]at hb3
       iterate 3 refine sN ?_
       refine sXBd_4 ?_;refine z1e ?_;refine exB (fun hb8=>?_) (fun hb8=>?_)
       ·exfalso;simp at hb8
       iterate 4 refine sN ?_
       iterate 2 refine sXBd_4 ?_
       refine s_n K12 ?_;refine dnS [] id () trivial [] uBk_2 uBk_2 uBk_2 uBk_2
   ·intro u hu
    clear hu;refine z06 (b:=_) rfl (fun h_t23=>?_) (fun h_t23=>?_)
    ·try simp only[dQ,reduceIte]at h_t23
     refine srR z1k fun _ K14=>?_;refine sXBd_4 ?_;refine s_n K14 ?_;refine z0b (z02 z1k (fun _ _ h=>h) (by first|rfl|assumption) [.tmp 6] rfl ?_);refine rtD ?_
     show SV.c (.bool _)=SV.c (.bool _)
     congr 2
     rw[atmOK,show atmB2 a=false by simpa using h_t23,Bool.and_false];rfl
    ·try simp only[dQ,reduceIte]at h_t23
     refine z3a (α:=Unit) (fun _=>[(1,.c (.int .i64 (nn:Int))),(2,.c (.int .i64 (kk:Int))),(3,.c (.dp (.cells (atmL a)) 0)),(47,.c (.bool (!atmB3 a)))]) (fun _=>[]) 0 (fun _=>True) ?_ ?_
     ·refine z3a (α:=Unit) (fun _=>[(1,.c (.int .i64 (nn:Int))),(2,.c (.int .i64 (kk:Int))),(3,.c (.dp (.cells (atmL a)) 0)),(47,.c (.bool (!(decide (a.kind=1)||zeroD a.d))))]) (fun _=>[]) 0 (fun _=>True) ?_ ?_
      ·refine z04 z1k fun _ K15=>?_
       refine sXBd_4 ?_;refine z1e ?_;refine exA (.c (.int .i64 a.kind)) ((by first|exact as_eq rfl|(exfalso;omega))) ?_;refine sXBd_4 ?_;refine z1e ?_;refine exB (fun hb3=>?_) (fun hb3=>?_)
       ·try simp only[dQ,reduceIte]at hb3
        refine z21 ?_;refine z1u ?_;refine exA (dfaV a.d) ((by first|exact as_eq rfl|(exfalso;omega))) ?_;refine z1u ?_
        try refine aI (z01.noclo (pl3_ a.d)) ?_
        refine⟨a.d,rfl,hz,?_⟩;refine DBd_3 ?_
        first|refine exI ?_|(intro cap6 hcap6;refine exI ?_)
        refine z21 ?_
        iterate 2 refine sXBd_4 ?_
        refine s_n K15 ?_;refine dnS [] id () trivial [] uBk_1 uBk_1 uBk_1 uBk_1
       ·try simp only[dQ,reduceIte]at hb3
        iterate 4 refine sN ?_
        iterate 2 refine sXBd_4 ?_
        refine s_n K15 ?_;refine dnS [] id () trivial [] uBk_1 uBk_1 uBk_1 uBk_1
      ·intro u hu
       clear hu;refine z06 (b:=_) rfl (fun h_t47=>?_) (fun h_t47=>?_)
       ·try simp only[dQ,reduceIte]at h_t47
        refine z0g ?_;refine dnS [] id () trivial [] uBk_3 uBk_3 uBk_3 uBk_3
       ·try simp only[dQ,reduceIte]at h_t47
        refine z3a (α:=Unit) (fun _=>[(1,.c (.int .i64 (nn:Int))),(2,.c (.int .i64 (kk:Int))),(3,.c (.dp (.cells (atmL a)) 0)),(47,.c (.bool (!(decide (a.kind=3)||zeroR a.ra a.rc))))]) (fun _=>[]) 0 (fun _=>True) ?_ ?_
        ·refine z04 z1k fun _ K16=>?_
         refine sXBd_4 ?_;refine z1e ?_;refine exA (.c (.int .i64 a.kind)) ((by first|exact as_eq rfl|(exfalso;omega))) ?_;refine sXBd_4 ?_;refine z1e ?_;refine exB (fun hb3=>?_) (fun hb3=>?_)
         ·try simp only[dQ,reduceIte]at hb3
          refine z21 ?_;refine z1u ?_;refine exA (.agg (.cells [.ds a.ra.length (.ints .i64 a.ra),.int .i64 a.rc])) ((by first|exact as_eq rfl|(exfalso;omega))) ?_;refine z1u ?_
          try refine aI (z01.noclo (plR_ a.ra a.rc)) ?_
          refine⟨a.ra,a.rc,rfl,hw.2.2.2.1,?_⟩;refine DBd_3 ?_
          first|refine exI ?_|(intro cap6 hcap6;refine exI ?_)
          refine z21 ?_
          iterate 2 refine sXBd_4 ?_
          refine s_n K16 ?_;refine dnS [] id () trivial [] uBk_1 uBk_1 uBk_1 uBk_1
         ·try simp only[dQ,reduceIte]at hb3
          iterate 4 refine sN ?_
          iterate 2 refine sXBd_4 ?_
          refine s_n K16 ?_;refine dnS [] id () trivial [] uBk_1 uBk_1 uBk_1 uBk_1
        ·intro u hu
         clear hu;refine z06 (b:=_) rfl (fun h_t47=>?_) (fun h_t47=>?_)
         ·try simp only[dQ,reduceIte]at h_t47
          refine z0g ?_;refine dnS [] id () trivial [] uBk_3 uBk_3 uBk_3 uBk_3
         ·try simp only[dQ,reduceIte]at h_t47
          refine z04 z1k fun _ K17=>?_;refine sXBd_4 ?_;refine z1e ?_;refine exA (.c (.int .i64 a.kind)) ((by first|exact as_eq rfl|(exfalso;omega))) ?_;refine sXBd_4 ?_;refine z1e ?_;refine exB (fun hb3=>?_) (fun hb3=>?_)
          ·try simp only[dQ,reduceIte]at hb3
           refine z21 ?_;refine z1u ?_;refine exA (traV a.m) ((by first|exact as_eq rfl|(exfalso;omega))) ?_;refine z1u ?_
           try refine aI (z01.noclo (z0m a.m)) ?_
           refine⟨a.m,rfl,hzm,?_⟩;refine DBd_3 ?_
           first|refine exI ?_|(intro cap6 hcap6;refine exI ?_)
           refine z21 ?_
           iterate 2 refine sXBd_4 ?_
           refine s_n K17 ?_;refine dnS [] id () trivial [] uBk_3 uBk_3 uBk_3 uBk_3
          ·try simp only[dQ,reduceIte]at hb3
           iterate 4 refine sN ?_
           iterate 2 refine sXBd_4 ?_
           refine s_n K17 ?_;refine dnS [] id () trivial [] uBk_3 uBk_3 uBk_3 uBk_3
     ·intro u hu
      clear hu;refine z06 (b:=_) rfl (fun h_t47=>?_) (fun h_t47=>?_)
      ·try simp only[dQ,reduceIte]at h_t47
       refine srR z1k fun _ K19=>?_;refine sXBd_4 ?_;refine s_n K19 ?_;refine z0b (z02 z1k (fun _ _ h=>h) (by first|rfl|assumption) [.tmp 6] rfl ?_);refine rtD ?_
       show SV.c (.bool _)=SV.c (.bool _)
       congr 2
       rw[atmOK,show atmB3 a=false by simpa using h_t47,Bool.and_false];rfl
      ·try simp only[dQ,reduceIte]at h_t47
       refine z3a (α:=Unit) (fun _=>[(1,.c (.int .i64 (nn:Int))),(2,.c (.int .i64 (kk:Int))),(3,.c (.dp (.cells (atmL a)) 0)),(75,.c (.bool (!atmB4 a)))]) (fun _=>[]) 0 (fun _=>True) ?_ ?_
       ·refine z04 z1k fun _ K20=>?_
        refine sXBd_4 ?_;refine z1e ?_;refine exA (.c (.int .i64 a.kind)) ((by first|exact as_eq rfl|(exfalso;omega))) ?_;refine sXBd_4 ?_;refine z1e ?_;refine exB (fun hb3=>?_) (fun hb3=>?_)
        ·try simp only[dQ,reduceIte]at hb3
         refine z21 ?_;refine z1u ?_;refine exA (rulV a.q) ((by first|exact as_eq rfl|(exfalso;omega))) ?_;refine z21 ?_;refine z1u ?_;refine aI ⟨rfl,⟨rfl,hq1⟩,⟨rfl,hq2⟩,⟨rfl,hq3⟩,⟨rfl,hq4⟩,trivial,trivial⟩ ?_;refine aI ⟨rfl,⟨rfl,z4m.mpr ⟨by decide,by decide⟩⟩,⟨rfl,z4m.mpr ⟨by decide,by decide⟩⟩,⟨rfl,z4m.mpr ⟨by decide,by decide⟩⟩,⟨rfl,z4m.mpr ⟨by decide,by decide⟩⟩,trivial,trivial⟩ ?_;intro bz hbz;obtain rfl:bz=zeroQ a.q:=zeroQ_eq hbz;refine exI ?_;refine z1u ?_;refine exB (fun hb8=>?_) (fun hb8=>?_)
         ·try simp only[dQ,reduceIte]at hb8
          iterate 3 refine sN ?_
          refine z21 ?_
          iterate 2 refine sXBd_4 ?_
          refine s_n K20 ?_;refine dnS [] id () trivial [] uBk_4 uBk_4 uBk_4 uBk_4
         ·try simp only[dQ,reduceIte]at hb8
          refine z21 ?_;refine z1u ?_;refine exA (.c (.int .i64 a.n)) ((by first|exact as_eq rfl|(exfalso;omega))) ?_
          iterate 2 refine z21 ?_
          iterate 2 refine sXBd_4 ?_
          refine s_n K20 ?_;refine dnS [] id () trivial [] uBk_4 uBk_4 uBk_4 uBk_4
        ·try simp only[dQ,reduceIte]at hb3
         iterate 5 refine sN ?_
         iterate 3 refine sU ?_
         refine sN ?_
         iterate 2 refine sXBd_4 ?_
         refine s_n K20 ?_;refine dnS [] id () trivial [] uBk_4 uBk_4 uBk_4 uBk_4
       ·intro u hu
        clear hu;refine z06 (b:=_) rfl (fun h_t75=>?_) (fun h_t75=>?_)
        ·try simp only[dQ,reduceIte]at h_t75
         refine srR z1k fun _ K22=>?_;refine sXBd_4 ?_;refine s_n K22 ?_;refine z0b (z02 z1k (fun _ _ h=>h) (by first|rfl|assumption) [.tmp 6] rfl ?_);refine rtD ?_
         show SV.c (.bool _)=SV.c (.bool _)
         congr 2
         rw[atmOK,show atmB4 a=false by simpa using h_t75,Bool.and_false];rfl
        ·try simp only[dQ,reduceIte]at h_t75
         refine z0g ?_;refine z08 ?_;apply K3;refine seq_k fun _ K23=>?_
         have hall:atmOK a nn kk=atmB5 a nn kk:=by rw[atmOK,show atmB1 a nn=true by simpa using h_t8,show atmB2 a=true by simpa using h_t23,show atmB3 a=true by simpa using h_t47,show atmB4 a=true by simpa using h_t75];rfl
         refine srR z1k fun _ K25=>?_;refine sXBd_4 ?_;refine z1e ?_;refine exA (.c (.int .i64 a.kind)) ((by first|exact as_eq rfl|(exfalso;omega))) ?_;refine s_n K25 ?_;refine z0a ?_;refine srR z1k fun _ K27=>?_
         iterate 2 refine sXBd_4 ?_
         refine s_n K27 ?_;refine z06 (b:=_) rfl (fun h_t92=>?_) (fun h_t92=>?_)
         ·try simp only[dQ,reduceIte]at h_t92
          refine srR z1k fun _ K29=>?_;refine sXBd_4 ?_;refine z1e ?_;refine exA (dfaV a.d) ((by first|exact as_eq rfl|(exfalso;omega))) ?_;refine z1e ?_
          try refine aI (z01.noclo (pl3_ a.d)) ?_
          refine⟨a.d,rfl,hw.2.2.1,?_⟩;refine DBd_3 ?_
          first|refine exI ?_|(intro cap2 hcap2;refine exI ?_)
          refine sXBd_4 ?_;refine s_n K29 ?_;refine z0b (z02 z1k (fun _ _ h=>h) (by first|rfl|assumption) [.tmp 6] rfl ?_);refine rtD ?_
          show SV.c (.bool _)=SV.c (.bool _)
          congr 2
          rw[hall,atmB5,if_pos h_t92]
         ·try simp only[dQ,reduceIte]at h_t92
          refine srR z1k fun _ K31=>?_
          iterate 2 refine sXBd_4 ?_
          refine s_n K31 ?_;refine z06 (b:=_) rfl (fun h_t97=>?_) (fun h_t97=>?_)
          ·try simp only[dQ,reduceIte]at h_t97
           refine srR z1k fun _ K33=>?_;refine sXBd_4 ?_;refine z1e ?_;refine exA (traV a.m) ((by first|exact as_eq rfl|(exfalso;omega))) ?_;refine z1e ?_
           try refine aI (z01.noclo (z0m a.m)) ?_
           refine⟨a.m,rfl,hw.2.2.2.2,?_⟩;refine DBd_3 ?_
           first|refine exI ?_|(intro cap2 hcap2;refine exI ?_)
           refine sXBd_4 ?_;refine s_n K33 ?_;refine z0b (z02 z1k (fun _ _ h=>h) (by first|rfl|assumption) [.tmp 6] rfl ?_);refine rtD ?_
           show SV.c (.bool _)=SV.c (.bool _)
           congr 2
           rw[hall,atmB5,if_neg h_t92,if_pos h_t97]
          ·try simp only[dQ,reduceIte]at h_t97
           refine srR z1k fun _ K35=>?_
           iterate 2 refine sXBd_4 ?_
           refine s_n K35 ?_;refine z06 (b:=_) rfl (fun h_t102=>?_) (fun h_t102=>?_)
           ·try simp only[dQ,reduceIte]at h_t102
            refine srR z1k fun _ K37=>?_;refine sXBd_4 ?_;refine z1e ?_;refine exA (rulV a.q) ((by first|exact as_eq rfl|(exfalso;omega))) ?_;refine z1e ?_
            try refine aI (z01.noclo (zfv a.q)) ?_
            refine⟨a.q,rfl,?_⟩;refine DBd_3 ?_
            first|refine exI ?_|(intro cap2 hcap2;refine exI ?_)
            refine sXBd_4 ?_;refine z1e ?_;refine exB (fun hb4=>?_) (fun hb4=>?_)
            ·try simp only[dQ,reduceIte]at hb4
             refine z21 ?_;refine z1u ?_;refine exA (.c (.int .i64 a.n)) ((by first|exact as_eq rfl|(exfalso;omega))) ?_
             iterate 2 refine z21 ?_
             refine z1u ?_;refine⟨a.n,0,(kk:Int) - 1,rfl,?_⟩;refine DBd_3 ?_
             first|refine exI ?_|(intro cap9 hcap9;refine exI ?_)
             iterate 2 refine sXBd_4 ?_
             refine s_n K37 ?_;refine z0b (z02 z1k (fun _ _ h=>h) (by first|rfl|assumption) [.tmp 6] rfl ?_);refine rtD ?_
             show SV.c (.bool _)=SV.c (.bool _)
             congr 2
             try simp only[if_true,reduceIte]
             have hok:a.q.okB=true:=by rw[←zfw];simpa using hb4
             rw[hall,atmB5,if_neg h_t92,if_neg h_t97,if_pos h_t102,hok,inI_lt,Bool.true_and]
            ·try simp only[dQ,reduceIte]at hb4
             iterate 5 refine sN ?_
             iterate 2 refine sXBd_4 ?_
             refine s_n K37 ?_;refine z0b (z02 z1k (fun _ _ h=>h) (by first|rfl|assumption) [.tmp 6] rfl ?_);refine rtD ?_
             show SV.c (.bool _)=SV.c (.bool _)
             congr 2
             have hok:a.q.okB=false:=by rw[←zfw];simpa using hb4
             rw[hall,atmB5,if_neg h_t92,if_neg h_t97,if_pos h_t102,hok];simp
           ·try simp only[dQ,reduceIte]at h_t102
            refine srR z1k fun _ K39=>?_
            iterate 2 refine sXBd_4 ?_
            refine s_n K39 ?_;refine z06 (b:=_) rfl (fun h_t115=>?_) (fun h_t115=>?_)
            ·try simp only[dQ,reduceIte]at h_t115
             refine srR z1k fun _ K41=>?_;refine sXBd_4 ?_;refine s_n K41 ?_;refine srR z1k fun _ K43=>?_
             iterate 2 refine sXBd_4 ?_
             refine z1e ?_;refine exA (.c (.ds a.ra.length (.ints .i64 a.ra))) ((by first|exact as_eq rfl|(exfalso;omega))) ?_
             iterate 5 refine sXBd_4 ?_
             refine z1e ?_;refine exB (fun hb8=>?_) (fun hb8=>?_)
             ·try simp only[dQ,reduceIte]at hb8
              iterate 2 refine z21 ?_
              refine z1u ?_;refine exA (.c (.ds a.ra.length (.ints .i64 a.ra))) ((by first|exact as_eq rfl|(exfalso;omega))) ?_;refine z21 ?_;refine z1u ?_;refine⟨a.ra,rfl,⟨hw.2.2.2.1,trivial⟩,?_⟩;refine DBd_3 ?_
              first|refine exI ?_|(intro cap13 hcap13;refine exI ?_)
              refine z21 ?_;refine sXBd_4 ?_;refine z1e ?_;refine exB (fun hb16=>?_) (fun hb16=>?_)
              ·try simp only[dQ,reduceIte]at hb16
               iterate 2 refine z21 ?_
               refine z1u ?_;refine exA (.c (.int .i64 a.rc)) ((by first|exact as_eq rfl|(exfalso;omega))) ?_;refine z1u ?_;refine⟨a.rc,-1000,999,rfl,?_⟩;refine DBd_3 ?_
               first|refine exI ?_|(intro cap20 hcap20;refine exI ?_)
               iterate 2 refine sXBd_4 ?_
               refine s_n K43 ?_;refine z0b (z02 z1k (fun _ _ h=>h) (by first|rfl|assumption) [.tmp 6] rfl ?_);refine rtD ?_
               show SV.c (.bool _)=SV.c (.bool _)
               congr 2
               try simp only[if_true,reduceIte]
               rw[hall,atmB5,if_neg h_t92,if_neg h_t97,if_neg h_t102,if_pos h_t115,z9i,decide_eq_true (show a.ra.length=nn+kk by omega),show(a.ra.any fun x=> !z6k x)=false by simpa using hb16];rfl
              ·try simp only[dQ,reduceIte]at hb16
               iterate 4 refine sN ?_
               iterate 2 refine sXBd_4 ?_
               refine s_n K43 ?_;refine z0b (z02 z1k (fun _ _ h=>h) (by first|rfl|assumption) [.tmp 6] rfl ?_);refine rtD ?_
               show SV.c (.bool _)=SV.c (.bool _)
               congr 2
               rw[hall,atmB5,if_neg h_t92,if_neg h_t97,if_neg h_t102,if_pos h_t115,z9i,show(a.ra.any fun x=> !z6k x)=true by simpa using hb16];simp
             ·try simp only[dQ,reduceIte]at hb8
              iterate 6 refine sN ?_
              refine sXBd_4 ?_;refine z1e ?_;refine exB (fun hb16=>?_) (fun hb16=>?_)
              ·exfalso;simp at hb16
              iterate 4 refine sN ?_
              iterate 2 refine sXBd_4 ?_
              refine s_n K43 ?_;refine z0b (z02 z1k (fun _ _ h=>h) (by first|rfl|assumption) [.tmp 6] rfl ?_);refine rtD ?_
              show SV.c (.bool _)=SV.c (.bool _)
              congr 2
              rw[hall,atmB5,if_neg h_t92,if_neg h_t97,if_neg h_t102,if_pos h_t115,z9i,decide_eq_false (show ¬ a.ra.length=nn+kk by omega)];simp
            ·try simp only[dQ,reduceIte]at h_t115
             refine z0g ?_;refine z08 ?_;apply K23;refine srR z1k fun _ K45=>?_;refine sXBd_4 ?_;refine s_n K45 ?_;refine z0b (z02 z1k (fun _ _ h=>h) (by first|rfl|assumption) [.tmp 6] rfl ?_);refine rtD ?_
             show SV.c (.bool _)=SV.c (.bool _)
             congr 2
             rw[hall,atmB5,if_neg h_t92,if_neg h_t97,if_neg h_t102,if_neg h_t115]


end Go.Proofs.YtegdcifghaldoaaDoor

namespace Go.Proofs.YtegdcifghaldoaaDoor
set_option linter.all false
open Go.Ab Go.RowKit

section
variable {a b:Prop}
theorem qBl1(h:a:=by first|exact vcA|(simp<;>omega)|(refine⟨by omega,by omega,by omega⟩)|exact vcB):a:=h
theorem qBl2(h:a:=by first|exact vcA|(simp<;>omega)|(simp only[Int.toNat_natCast,Nat.mul_one];exact z4m.mpr ⟨by omega,by omega⟩)|exact vcB):a:=h
theorem qBl3(h:a:=by first|exact vcA|(simp<;>omega)|(simp only[Int.toNat_natCast,Nat.mul_one];exact⟨by omega,by omega,trivial⟩)|exact vcB):a:=h
theorem qBl4(h:a:=by first|exact vcA|(simp[hpl,List.length_set]<;>omega)|exact Nat.le_of_ble_eq_true rfl|(show _< (z0o _ _).length;rw[z10 itmR (fun _ _=>trivial)];omega)|(show _≤(z0o _ _).length;rw[z10 itmR (fun _ _=>trivial)];omega)|(show _< (z58 _ _ _).length;rw[hpl];omega)|(show _< (List.set _ _ _).length;rw[List.length_set,hpl];omega)|(show _< (lists _).length;rw[z1x];omega)|exact vcB):a:=h
theorem uBl_0(h:a:=by
    repeat' (first|exact trivial|refine aI ?_ ?_|exact cC0|refine low_cons' ?_ ?_|exact cC1|fail)
    all_goals first|omega|(simp;done)|(simp<;>omega)|skip):a:=h
theorem uBl_1(h:a:=by
    repeat' (first|exact trivial|refine aI ?_ ?_|exact cC0|refine low_cons' ?_ ?_|exact cC1|fail)
    all_goals first|omega|(simp only[Int.toNat_natCast,Nat.mul_one];rw[z4f ps k hkl,List.length_append];push_cast;rfl)|(rw[z4f ps k hkl,List.length_append];push_cast;rfl)|(simp[catP];done)|(simp<;>omega)|skip):a:=h
theorem uBl_3(h:a:=by
    repeat' (first|exact trivial|refine aI ?_ ?_|exact cC0|refine low_cons' ?_ ?_|exact cC1|fail)
    all_goals first|omega|(simp only[Int.toNat_natCast,Nat.mul_one];rw[z4f ps k.1 hkl,List.length_append];done)|(show(_:List UInt8)=_;simp only[Int.toNat_natCast,Nat.mul_one];first|exact(z4f ps k.1 hkl).symm|exact z4f ps k.1 hkl)|(show(_:List UInt8)=_;first|rfl|(rw[z4f ps k.1 hkl];done)|(simp[catP];done))|(simp[catP];done)|(simp<;>omega)|skip):a:=h
theorem uBl_4(h:a:=by
    repeat' (first|exact z01.isD (z0f _)|exact z01.low (z2x _ _ _)|exact z01.to (z2x _ _ _)|exact hto|exact zh2 (z01.low (z2x _ _ _)) trivial|exact zh2 (z01.low (z2x _ _ _)) (by decide)|exact hnl|exact z01.to (z0i _)|exact z01.low (z0i _)|exact z01.to (z0k _)|exact z01.low (z0k _)|exact z01.to (z0l _)|exact z01.low (z0l _)|exact z01.to (z0c _)|exact z01.low (z0c _)|exact z01.to (z0m _)|exact z01.low (z0m _)|exact z01.to (z0f _)|exact z01.low (z0f _)|exact z01.to (z0h _ _)|exact z01.low (z0h _ _)|exact z01.to (z00 itmR _)|exact z01.low (z00 itmR _)|exact z01.to (z00 movR _)|exact z01.low (z00 movR _)|exact z01.to (z00 pceR _)|exact z01.low (z00 pceR _)|exact z01.to (z00 fndR _)|exact z01.low (z00 fndR _)|exact z01.to (z00 atmR _)|exact z01.low (z00 atmR _)|exact z01.to (z00 litR _)|exact z01.low (z00 litR _)|exact z01.to (z00 mdlR _)|exact z01.low (z00 mdlR _)|exact z0v (z0j z0r z05)|exact z0q (z0j z0r z05)|exact z0v z05|exact z0q z05|exact trivial|refine aI ?_ ?_|exact cC0|refine low_cons' ?_ ?_|exact cC1|fail)
    all_goals first|omega|(refine parts_to hx hiw (by omega) ?_;exact⟨List.mem_singleton.2 rfl,trivial,Nat.le_refl _,Nat.succ_pos _,rfl,rfl⟩)|(rw[show((t.length:Nat):Int).toNat=t.length from Int.toNat_natCast _];show(Cont.cells (List.replicate t.length Cell.nils)).to _ _ _ _ _;rw[←zby t s];exact z01.to (z2x _ _ _))|(show allTo _ _ _;rw[zbz hx,hiw];(try rw[show(0+(k:Int).toNat*1)=k by omega]);(try rw[List.set_set]);refine zbx (z01.to (z2x _ _ _)) k ?_;repeat' (first|refine aI ?_ ?_|rfl|exact trivial|decide|omega|exact Nat.le_refl _))|(simp[zby,lists];done)|(obtain rfl:k=t.length:=(by omega);simp;done)|(show(_:Cont)=_;rw[if_pos ⟨rfl,by simp[show(cwd.ty 28).size=1 from rfl]⟩];done)|(simp[show(cwd.ty 28).size=1 from rfl];done)|(simp[-List.reduceReplicate];done)|(simp[-List.reduceReplicate]<;>omega)|skip):a:=h
theorem DBl_2(kZ:b)(h:HidB b→a:=by intro kZ;(repeat first|refine aI qBl1 ?_|refine z0d qBl1 ?_|refine z09 qBl1 ?_|refine z0p qBl1 ?_|refine z0e ?_);exact kZ.out):a:=h ⟨kZ⟩
theorem sXBl_3(kZ:b)(h:HidB b→a:=by intro kZ;refine sX ?_;refine DBl_2 ?_;refine exI ?_;exact kZ.out):a:=h ⟨kZ⟩
theorem DBl_4(kZ:b)(h:HidB b→a:=by intro kZ;(repeat first|refine aI qBl2 ?_|refine z0d qBl2 ?_|refine z09 qBl2 ?_|refine z0p qBl2 ?_|refine z0e ?_);exact kZ.out):a:=h ⟨kZ⟩
theorem sXBl_5(kZ:b)(h:HidB b→a:=by intro kZ;refine sX ?_;refine DBl_4 ?_;refine exI ?_;exact kZ.out):a:=h ⟨kZ⟩
theorem DBl_6(kZ:b)(h:HidB b→a:=by intro kZ;(repeat first|refine aI qBl3 ?_|refine z0d qBl3 ?_|refine z09 qBl3 ?_|refine z0p qBl3 ?_|refine z0e ?_);exact kZ.out):a:=h ⟨kZ⟩
theorem sXBl_7(kZ:b)(h:HidB b→a:=by intro kZ;refine sX ?_;refine DBl_6 ?_;refine exI ?_;exact kZ.out):a:=h ⟨kZ⟩
theorem DBl_8(kZ:b)(h:HidB b→a:=by intro kZ;(repeat first|refine aI qBl4 ?_|refine z0d qBl4 ?_|refine z09 qBl4 ?_|refine z0p qBl4 ?_|refine z0e ?_);exact kZ.out):a:=h ⟨kZ⟩
theorem z3r(kZ:b)(h:HidB b→a:=by intro kZ;refine sX ?_;refine DBl_8 ?_;refine exI ?_;exact kZ.out):a:=h ⟨kZ⟩
theorem zjr(kZ:b)(h:HidB b→a:=by intro kZ;refine sX0 ?_;refine DBl_8 ?_;refine exI ?_;exact kZ.out):a:=h ⟨kZ⟩
theorem sXEBl_11(kZ:b)(h:HidB b→a:=by intro kZ;refine sX ?_;refine DBl_2 ?_;exact kZ.out):a:=h ⟨kZ⟩
theorem sXEBl_13(kZ:b)(h:HidB b→a:=by intro kZ;refine sX ?_;refine DBl_6 ?_;exact kZ.out):a:=h ⟨kZ⟩
theorem z7f(kZ:b)(h:HidB b→a:=by intro kZ;refine sX ?_;refine DBl_8 ?_;exact kZ.out):a:=h ⟨kZ⟩
end
open Go.Aut
def catP(ps:List (List UInt8))(k:Nat):List UInt8:=(ps.take k).flatten
theorem z4f(ps:List (List UInt8))(k:Nat)(h:k< ps.length):catP ps (k+1)=catP ps k++ps.getD k []:=by
  rw[catP,catP,List.take_add_one,List.flatten_append,List.getD_eq_getElem?_getD,List.getElem?_eq_getElem h];simp
theorem zbv(ps:List (List UInt8)):catP ps ps.length=ps.flatten:=by rw[catP,List.take_length]
theorem zbw(ps:List (List UInt8))(k:Nat):(catP ps k).length≤ps.flatten.length:=by
  have:ps.flatten=catP ps k++(ps.drop k).flatten:=by rw[catP, ←List.flatten_append,List.take_append_drop]
  rw[this,List.length_append];omega
abbrev zfx(ps:List (List UInt8)):SV:=.c (.ds ps.length (.cells (lists ps)))
theorem zbx{f:Cell→Cell→Prop}:∀ {l m:List Cell},allTo f l m→∀ (k:Nat) {x y:Cell},f x y→allTo f (l.set k x) (m.set k y)
  |[],[],h,k,x,y,hx=>by cases k<;>exact h
  |a::l,b::m,h,0,x,y,hx=>⟨hx,h.2⟩
  |a::l,b::m,h,k+1,x,y,hx=>⟨h.1,zbx h.2 k hx⟩
  |[],_::_,h,_,_,_,_=>h.elim
  |_::_,[],h,_,_,_,_=>h.elim
def z58(t:List Itm)(s:List (List UInt8))(k:Nat):List Cell:=lists ((t.take k).map (itmW s))++List.replicate (t.length - k) .nils
theorem zle{t:List Itm}{s:List (List UInt8)}{k:Nat}(h:k≤t.length):(z58 t s k).length=t.length:=by simp[z58];omega
theorem zby(t:List Itm)(s:List (List UInt8)):z58 t s 0=List.replicate t.length .nils:=by simp[z58,lists]
theorem zlf(t:List Itm)(s:List (List UInt8)):z58 t s t.length=lists (t.map (itmW s)):=by simp[z58]
theorem z2x(t:List Itm)(s:List (List UInt8))(k:Nat):z01 (z58 t s k):=zf6 (z0f _) (zmk rfl _)
theorem zbz{t:List Itm}{s:List (List UInt8)}{k:Nat}{x:Itm}(hx:t[k]? =some x):z58 t s (k+1)=(z58 t s k).set k (.ds (itmW s x).length (.u8s (itmW s x))):=by
  have hk:k< t.length:=(List.getElem?_eq_some_iff.1 hx).1
  have e:t.length - k=(t.length - (k+1))+1:=by omega
  rw[z58,z58,e,List.replicate_succ,List.set_append_right _ _ (by simp[lists];omega),show k - (lists ((t.take k).map (itmW s))).length=0 by simp[lists];omega,List.set_cons_zero,List.take_add_one,hx]
  simp[lists]
theorem parts_to{tf:Nat→Ty}{H:Heap}{is:List Nat}{t:List Itm}{s:List (List UInt8)}{k i:Nat}{x:Itm}{b:UInt8}(hx:t[k]? =some x)(hw:itmW s x=[b])(hi:i=k)(h:sliceD tf H is 1 0 1 1 (.u8s [b])):(Cont.cells ((z58 t s k).set i (.slice 1 0 1 1))).to tf H is id (.cells (z58 t s (k+1))):=by
  rw[zbz hx,hw,hi];exact zbx (z01.to (z2x t s k)) k (show Cell.to tf H is id (.slice 1 0 1 1) (.ds 1 (.u8s [b])) from h)
theorem lst_at2{l:List (List UInt8)}{i j:Nat}(h:i< l.length∧j=i):(Cont.cells (lists l)).get j= .ds (l.getD i []).length (.u8s (l.getD i [])):=by rw[h.2];exact z71 h.1
theorem zhn{ps:List (List UInt8)}{b:Nat}(h:∀ p∈ps,p.length≤b):ps.flatten.length≤ps.length*b:=by
  induction ps with
  |nil=>simp
  | cons p ps ih=>
    rw[List.flatten_cons,List.length_append,List.length_cons,Nat.succ_mul]
    have:=h p List.mem_cons_self
    have:=ih fun q hq=>h q (List.mem_cons_of_mem _ hq)
    omega
theorem zho{s:List (List UInt8)}{b:Nat}(hb:1≤b)(h:∀ p∈s,p.length≤b)(i:Itm):(itmW s i).length≤b:=by
  unfold itmW
  split
  · rw[List.getD_eq_getElem?_getD]
    cases e:s[i.x.toNat]? with
    |none=>exact Nat.zero_le _
    |some p=>exact h p (List.mem_of_getElem? e)
  · exact hb
theorem z59{t:List Itm}{s:List (List UInt8)}(h:z2e t s.length=true):(t.map (itmW s)).flatten=wordN t s:=by rw[wordN,if_pos h,List.flatMap_def]
theorem zdy{t:List Itm}{n:Nat}(h:z2e t n=true):t.length≤24:=by
  rw[z2e,Bool.and_eq_true,decide_eq_true_eq]at h;exact h.1
theorem term_at{t:List Itm}{n k:Nat}{x:Itm}(h:z2e t n=true)(hx:t[k]? =some x): -1≤x.x∧x.x< (n:Int):=by
  rw[z2e,Bool.and_eq_true,List.all_eq_true]at h
  have:=h.2 x (List.mem_of_getElem? hx)
  rw[itmOK,Bool.and_eq_true,Bool.and_eq_true,decide_eq_true_eq,decide_eq_true_eq]at this;exact this.1
def growS:OSpec:=fun vs K=>∃ m:Nat,vs=[.c .nils,.c (.int .i64 m)]∧m≤8796093022208∧K 5 1 0 (.u8s [])
theorem grow_ok:OwnOK Tryd.prog gl 95 growS:=by
 refine zm7 (Γ:=g0) (N:=27) Tryd.func95 rfl rfl fun vs K h=>?_;obtain⟨m,rfl,hm,h⟩:=h;refine⟨_,_,_,_,h,trivial,by simp,fun w I=>?_⟩;refine srR g0_ok fun _ K2=>?_;refine zng ?_;refine s_n K2 ?_;refine seq_k fun _ K3=>?_;refine srR g0_ok fun _ K5=>?_
 iterate 2 refine zng ?_
 refine s_n K5 ?_;refine z06 (b:=_) rfl (fun h_t6=>?_) (fun _=>?_)
 ·exfalso;first|(simp at h_t6;omega)|omega
 refine z0g ?_;apply K3;refine seq_k fun _ K6=>?_;refine srR g0_ok fun _ K8=>?_
 iterate 8 refine zng ?_
 refine s_n K8 ?_;refine srR g0_ok fun _ K10=>?_
 iterate 2 refine zng ?_
 refine s_n K10 ?_;refine z06 (b:=_) rfl (fun h_t16=>?_) (fun h_t16=>?_)
 ·try simp only[dQ,reduceIte]at h_t16
  refine z04 g0_ok fun _ K11=>?_
  iterate 5 refine sXBl_3 ?_
  refine sXEBl_11 ?_;intro cap5 hcap5;refine exI ?_
  iterate 4 refine sXBl_3 ?_
  refine s_n K11 ?_;apply K6;refine srR g0_ok fun _ K13=>?_
  iterate 2 refine zng ?_
  refine s_n K13 ?_;refine z0b (zaa g0_ok (fun _ _ h=>h) (by decide) [.tmp 4] rfl ?_)
  all_goals exact uBl_0
 ·try simp only[dQ,reduceIte]at h_t16
  refine z0g ?_;apply K6;refine srR g0_ok fun _ K15=>?_
  iterate 2 refine zng ?_
  refine s_n K15 ?_;refine z0b (zaa g0_ok (fun _ _ h=>h) (by decide) [.tmp 4] rfl ?_)
  all_goals exact uBl_0

noncomputable def gc:Ctx:={ P:=Tryd.prog,ty:=ty,glob:=gl,fs:=[(95,.own growS)] }
theorem gc_ok:gc.OK:=⟨tyOK,⟨⟨z07 Tryd.func95 kQf rfl,grow_ok⟩,trivial⟩,mixed⟩
@[simp] theorem gc_ty:gc.ty=ty:=rfl

def zoe:OSpec:=fun vs K=>∃ ps:List (List UInt8),vs=[zfx ps]∧(ps.length≤1000000∧ps.flatten.length≤8796093022208)∧K 5 1 ps.flatten.length (.u8s ps.flatten)
theorem zof:OwnOK Tryd.prog gl 69 zoe:=by
 refine zm7 (Γ:=gc) (N:=36) Tryd.func69 rfl rfl fun vs K h=>?_;obtain⟨ps,rfl,⟨hn,hb⟩,h⟩:=h;refine⟨_,_,_,_,h,trivial,by simp,fun w I=>?_⟩;refine srR gc_ok fun _ K2=>?_;refine zng ?_;refine s_n K2 ?_;refine srR gc_ok fun _ K4=>?_;refine zng ?_;refine s_n K4 ?_;refine seq_k fun _ K5=>?_;refine srR gc_ok fun _ K7=>?_
 iterate 3 refine zng ?_
 refine s_n K7 ?_;refine z0a ?_;refine z13 (α:=Nat) (fun k=>[(0,.c (.ds ps.length (.cells (lists ps)))),(3,.c (.int .i64 (catP ps k).length)),(9,.c (.ds ps.length (.cells (lists ps)))),(10,.c (.int .i64 ps.length)),(11,.c (.int .i64 k))]) (fun k=>[]) 0 (fun k=>k≤ps.length) (fun k=>ps.length - k) ?_ ?_
 ·refine dnS [] id 0 (Nat.zero_le _) [] uBl_1 uUd_0 uUd_0 uUd_0
 ·intro k hk
  refine srR gc_ok fun _ K9=>?_;refine zng ?_;refine s_n K9 ?_;refine seq_k fun _ K10=>?_;refine z06 (b:=_) rfl (fun h_t12=>?_) (fun h_t12=>?_)
  ·try simp only[dQ,reduceIte]at h_t12
   refine z0g ?_;apply K10;refine seq_k fun _ K11=>?_;refine z0a ?_
   have hkl:k< ps.length:=by omega
   have hc1:=zbw ps k
   have hc2:=zbw ps (k+1)
   rw[z4f ps k hkl,List.length_append]at hc2;refine srR gc_ok fun _ K13=>?_;refine zng ?_;refine sXEUf_4 ?_;rw[z71]
   rotate_left 1
   ·first|omega|(simp<;>omega)
   refine exI ?_;refine zng ?_;refine s_n K13 ?_;refine srR gc_ok fun _ K15=>?_
   iterate 5 refine sXBl_5 ?_
   refine s_n K15 ?_;refine srR gc_ok fun _ K17=>?_
   iterate 2 refine zng ?_
   refine s_n K17 ?_;refine z06 (b:=_) rfl (fun h_t20=>?_) (fun _=>?_)
   ·exfalso;first|(simp at h_t20;omega)|omega
   refine z0g ?_;refine z08 ?_;apply K11;refine z04 gc_ok fun _ K18=>?_
   iterate 2 refine zng ?_
   refine s_n K18 ?_;refine dnS [] id (k+1) ⟨by omega,by omega⟩ [] uBl_1 uUd_0 uUd_0 uUd_0
  ·try simp only[dQ,reduceIte]at h_t12
   refine z0y ?_;refine z03 ?_;refine z03 ?_;refine z0s ?_;apply K5
   obtain rfl:k=ps.length:=by omega
   refine srR gc_ok fun _ K20=>?_;refine zng ?_;refine sXEUf_4 ?_;refine⟨(catP ps ps.length).length,rfl,by have:=zbw ps ps.length;omega,?_⟩;refine DUf_0 ?_
   first|refine exI ?_|(intro cap1 hcap1;refine exI ?_)
   refine zng ?_;refine s_n K20 ?_;refine seq_k fun _ K21=>?_;refine srR gc_ok fun _ K23=>?_
   iterate 3 refine zng ?_
   refine s_n K23 ?_;refine z0a ?_;refine z13 (α:=Nat×Nat) (fun k=>[(0,.c (.ds ps.length (.cells (lists ps)))),(6,.c (.slice 0 0 (catP ps k.1).length k.2)),(25,.c (.ds ps.length (.cells (lists ps)))),(26,.c (.int .i64 ps.length)),(27,.c (.int .i64 k.1))]) (fun k=>[(0,.own 5 (.u8s (catP ps k.1)) k.2)]) 1 (fun k=>k.1≤ps.length) (fun k=>ps.length - k.1) ?_ ?_
   ·refine dnS [] id (0,cap1) (Nat.zero_le _) [0] uBl_3 uBl_3 uUd_0 uUd_0
   ·intro k hk
    refine srR gc_ok fun _ K25=>?_;refine zng ?_;refine s_n K25 ?_;refine seq_k fun _ K26=>?_;refine z06 (b:=_) rfl (fun h_t28=>?_) (fun h_t28=>?_)
    ·try simp only[dQ,reduceIte]at h_t28
     refine z0g ?_;apply K26;refine seq_k fun _ K27=>?_;refine z0a ?_
     have hkl:k.1< ps.length:=by omega
     have hc1:=zbw ps k.1
     have hc2:=zbw ps (k.1+1)
     rw[z4f ps k.1 hkl,List.length_append]at hc2;refine srR gc_ok fun _ K29=>?_;refine zng ?_;refine sXEUf_4 ?_;rw[z71]
     rotate_left 1
     ·first|omega|(simp<;>omega)
     refine exI ?_;refine zng ?_;refine s_n K29 ?_;refine z04 gc_ok fun _ K30=>?_
     iterate 2 refine sXBl_7 ?_
     refine sXEBl_13 ?_;intro cap2 hcap2;refine exI ?_;refine sXBl_7 ?_;refine s_n K30 ?_;refine z08 ?_;apply K27;refine z04 gc_ok fun _ K31=>?_
     iterate 2 refine zng ?_
     refine s_n K31 ?_;refine dnS [] (fun _=>1) (k.1+1,cap2) ⟨by omega,by omega⟩ [1] uBl_3 uBl_3 uUd_0 uUd_0
    ·try simp only[dQ,reduceIte]at h_t28
     refine z0y ?_;refine z03 ?_;refine z03 ?_;refine z0s ?_;apply K21;obtain⟨k,cp⟩:=k
     obtain rfl:k=ps.length:=by have:=hk;simp at h_t28 this;omega
     refine srR gc_ok fun _ K33=>?_
     iterate 2 refine zng ?_
     refine s_n K33 ?_;refine z0b (zaa gc_ok (fun _ _ h=>h) (by decide) [.tmp 2] rfl ?_)
     repeat' (first|exact trivial|refine aI ?_ ?_|exact cC0|refine low_cons' ?_ ?_|exact cC1|fail)
     all_goals first|omega|(show(_:Cont)=_;rw[zbv];done)|(rw[zbv];done)|(simp[zbv];done)|skip

noncomputable def cct:Ctx:={ P:=Tryd.prog,ty:=ty,glob:=gl,fs:=[(69,.own zoe)] }
theorem zog:cct.OK:=⟨tyOK,⟨⟨z07 Tryd.func69 kQf rfl,zof⟩,trivial⟩,mixed⟩
@[simp] theorem cct_ty:cct.ty=ty:=rfl

def acatS:OSpec:=fun vs K=>∃ ps:List (List UInt8),vs=[zfx ps]∧(ps.length≤1000000∧ps.flatten.length≤8796093022208)∧K 5 1 ps.flatten.length (.u8s ps.flatten)
theorem acat_ok:OwnOK Tryd.prog gl 34 acatS:=by
 refine zm7 (Γ:=cct) (N:=5) Tryd.func34 rfl rfl fun vs K h=>?_;obtain⟨ps,rfl,hb,h⟩:=h;refine⟨_,_,_,_,h,trivial,by simp,fun w I=>?_⟩;refine srR zog fun _ K2=>?_;refine zng ?_;refine s_n K2 ?_;refine srR zog fun _ K4=>?_;refine zng ?_;refine sXEUf_4 ?_;refine⟨ps,rfl,hb,?_⟩;refine DUf_0 ?_
 first|refine exI ?_|(intro cap1 hcap1;refine exI ?_)
 refine zng ?_;refine s_n K4 ?_;refine z0b (zaa zog (fun _ _ h=>h) (by decide) [.tmp 2] rfl ?_)
 repeat' (first|exact trivial|refine aI ?_ ?_|exact cC0|refine low_cons' ?_ ?_|exact cC1|fail)
 all_goals first|omega|(simp;done)|skip

noncomputable def cwd:Ctx:={ P:=Tryd.prog,ty:=ty,glob:=gl,fs:=[(33,.flat zhi),(34,.own acatS)] }
theorem z5a:cwd.OK:=⟨tyOK,⟨⟨z07 Tryd.func33 kQf rfl,zfq⟩,⟨z07 Tryd.func34 kQf rfl,acat_ok⟩,trivial⟩,mixed⟩
@[simp] theorem cwd_ty:cwd.ty=ty:=rfl

def wordS:QSpec:=fun vs K=>∃ (t:List Itm) (s:List (List UInt8)),vs=[.c (itmsX t),zfx s]∧(t.length≤9223372036854775807∧s.length≤9223372036854775807∧∀ p∈s,p.length≤274877906944)∧K (.c (.ds (wordN t s).length (.u8s (wordN t s))))
theorem zhp:z3u Tryd.prog gl 12 wordS:=by
 refine z3p (Γ:=cwd) (N:=49) Tryd.func12 rfl rfl fun vs K h=>?_;obtain⟨t,s,rfl,⟨hl,hs,hsl⟩,h⟩:=h;refine⟨_,h,trivial,by simp,fun w I=>?_⟩;refine srR z5a fun _ K2=>?_;refine z3r ?_;refine s_n K2 ?_;refine seq_k fun _ K3=>?_;refine srR z5a fun _ K5=>?_
 iterate 3 refine z3r ?_
 refine z7f ?_;refine⟨t,s.length,rfl,hl,?_⟩;refine DBl_8 ?_
 first|refine exI ?_|(intro cap3 hcap3;refine exI ?_)
 refine z3r ?_;refine s_n K5 ?_;refine z06 (b:=_) rfl (fun h_t11=>?_) (fun h_t11=>?_)
 ·try simp only[dQ,reduceIte]at h_t11
  have hre:wordN t s=[]:=by rw[wordN,if_neg (by simpa using h_t11)]
  refine srR z5a fun _ K7=>?_;refine z3r ?_;refine s_n K7 ?_;refine z0b (z19 z5a (fun _ _ h=>h) (by trivial) [] [.tmp 4] rfl ?_);rw[hre]
  all_goals exact uBl_4
 ·try simp only[dQ,reduceIte]at h_t11
  refine z0g ?_;apply K3
  have hv:z2e t s.length=true:=by simpa using h_t11
  have htl:=zdy hv
  refine srR z5a fun _ K9=>?_
  iterate 4 refine z3r ?_
  refine s_n K9 ?_;refine seq_k fun _ K10=>?_;refine srR z5a fun _ K12=>?_
  iterate 3 refine z3r ?_
  refine s_n K12 ?_;refine z0a ?_;refine z13 (α:=Nat) (fun k=>[(0,.c (itmsX t)),(1,zfx s),(5,.c (.slice 0 0 t.length t.length)),(15,.c (itmsX t)),(16,.c (.int .i64 (t.length:Nat))),(17,.c (.int .i64 (k:Nat)))]) (fun k=>[(0,.own 28 (.cells (z58 t s k)) t.length)]) 1 (fun k=>k≤t.length) (fun k=>t.length - k) ?_ ?_
  ·refine dnS [] id 0 (Nat.zero_le _) [0] uBl_4 uBl_4 uBl_4 uBl_4
  ·intro k hk
   refine srR z5a fun _ K14=>?_;refine z3r ?_;refine s_n K14 ?_;refine seq_k fun _ K15=>?_;refine z06 (b:=_) rfl (fun h_t18=>?_) (fun h_t18=>?_)
   ·try simp only[dQ,reduceIte]at h_t18
    refine z0g ?_;apply K15;refine seq_k fun _ K16=>?_;refine z0a ?_;refine srR z5a fun _ K18=>?_
    iterate 2 refine z3r ?_
    refine s_n K18 ?_
    have hkl:k< t.length:=by omega
    obtain⟨x,hx⟩:=hasAt hkl
    have hxt:=term_at hv hx
    have hpl:=zle (s:=s) hk
    refine srR z5a fun _ K20=>?_
    iterate 6 refine z3r ?_
    refine z7f ?_;refine exA (.c (.u8 x.b)) (z7a itmR (fun _ _=>trivial) (i:=k) (j:=1) (by first|rfl|omega) (by decide) hx rfl) ?_
    iterate 2 refine z3r ?_
    refine zjr ?_;refine s_n K20 ?_;refine srR z5a fun _ K22=>?_
    iterate 4 refine z3r ?_
    refine z7f ?_;refine exA (.c (.int .i64 x.x)) (z7a itmR (fun _ _=>trivial) (i:=k) (j:=0) (by first|rfl|omega) (by decide) hx rfl) ?_;refine z3r ?_;refine s_n K22 ?_;refine z06 (b:=_) rfl (fun h_t34=>?_) (fun h_t34=>?_)
    ·try simp only[dQ,reduceIte]at h_t34
     refine z04 z5a fun _ K23=>?_
     iterate 7 refine z3r ?_
     refine z7f ?_;refine exA (.c (.int .i64 x.x)) (z7a itmR (fun _ _=>trivial) (i:=k) (j:=0) (by first|rfl|omega) (by decide) hx rfl) ?_;refine z3r ?_;refine z7f ?_;refine exA (.c (.ds (s.getD x.x.toNat []).length (.u8s (s.getD x.x.toNat [])))) (as_c (lst_at2 ⟨by omega,by omega⟩)) ?_;refine z3r ?_;refine zjr ?_;refine s_n K23 ?_;refine z08 ?_;apply K16;refine z04 z5a fun _ K24=>?_
     iterate 2 refine z3r ?_
     refine s_n K24 ?_
     have hiw:itmW s x=s.getD x.x.toNat []:=by rw[itmW,if_pos h_t34]
     refine dnS [] id (k+1) ⟨by omega,by omega⟩ [0] uBl_4 uBl_4 uBl_4 uBl_4
    ·try simp only[dQ,reduceIte]at h_t34
     refine z0g ?_;refine z08 ?_;apply K16;refine z04 z5a fun _ K25=>?_
     iterate 2 refine z3r ?_
     refine s_n K25 ?_
     have hiw:itmW s x=[x.b]:=by rw[itmW,if_neg (by omega)]
     refine dnS [1] id (k+1) ⟨by omega,by omega⟩ [0] uBl_4 uBl_4 uBl_4 uBl_4
   ·try simp only[dQ,reduceIte]at h_t18
    refine z0y ?_;refine z03 ?_;refine z03 ?_;refine z0s ?_;apply K10
    obtain rfl:k=t.length:=by omega
    rw[zlf];refine leW [0] id [(5,zfx (t.map (itmW s)))] [] 0 [] uBl_4 uBl_4 uBl_4 uBl_4 ?_;refine srR z5a fun _ K27=>?_;refine z3r ?_;refine z7f ?_;refine⟨t.map (itmW s),rfl,⟨by simp;omega,?_⟩,?_⟩
    ·have h1:=zhn (ps:=t.map (itmW s)) (b:=274877906944) fun p hp=>by
      obtain⟨i,_,rfl⟩:=List.mem_map.1 hp;exact zho (by decide) hsl i
     rw[List.length_map]at h1
     omega
    rw[z59 hv];refine DBl_8 ?_
    first|refine exI ?_|(intro cap1 hcap1;refine exI ?_)
    refine z3r ?_;refine s_n K27 ?_;refine z0b (z19 z5a (fun _ _ h=>h) (by trivial) [0] [.tmp 4] rfl ?_)
    all_goals exact uBl_4


end Go.Proofs.YtegdcifghaldoaaDoor
