/- Contracts of functions and plain facts, part 12. -/
import Derived.Test.YtegdcifghaldoaaDoorSj
import Derived.Test.YtegdcifghaldoaaDoorSk
import Derived.Test.YtegdcifghaldoaaDoorSi
set_option maxHeartbeats 8000000
set_option maxRecDepth 4000
namespace Go.Proofs.YtegdcifghaldoaaDoor
set_option linter.all false
open Go.Ab Go.RowKit

section
variable {a b:Prop}
theorem qCm0(h:a:=by first|exact vcA|(simp<;>omega)|exact Nat.le_of_ble_eq_true rfl|exact(by decide:List.Nodup [0])|exact(by decide:List.Nodup [1])|exact(by decide:List.Nodup [0,1])|exact(by decide:List.Nodup [0,1,2])|exact(by decide:List.Nodup [0,1,2,3])|decide|(refine⟨by decide,by decide,?_⟩;exact z00.solid (movR.dat _))|exact⟨z00.solid (movR.dat _),trivial⟩|exact⟨rfl,trivial⟩|exact⟨trivial,rfl,trivial⟩|exact vcB):a:=h
theorem uCm_0(h:a:=by
    repeat' (first|exact trivial|refine aI ?_ ?_|rfl|exact z4a pceR _|exact z4a movR _|exact z00.isD (z0f _ _)|exact z00.isD (z0d _)|exact z00.low (z0f _ _)|exact z00.low (z0d _)|exact z00.low (z01 movR _)|exact z00.low (z01 pceR _)|exact z00.low (z0m _)|exact z00.to (z0f _ _)|exact z00.to (z01 movR _)|exact z00.to (z0d _)|exact z00.to (z0m _)|omega|decide|(show(_:Nat)< _;decide)|exact low_nil'|refine low_cons' ?_ ?_|exact Nat.le_refl _|exact Nat.succ_pos _)
    all_goals first|omega|(rw[if_pos ⟨rfl,rfl⟩];rfl)|(show(_:Cont)=_;rw[if_pos ⟨rfl,rfl⟩];rfl)|(show(_:Cont)=_;rfl)|(show(_:List Cell)=_;rfl)|(rw[hse];rfl)|(simp[-List.reduceReplicate];done)|skip):a:=h
theorem DCm_0(kZ:b)(h:HidB b→a:=by intro kZ;(repeat first|refine aI qCm0 ?_|refine z0h qCm0 ?_|refine z0a qCm0 ?_|refine z0q qCm0 ?_|refine z0i ?_);exact kZ.out):a:=h ⟨kZ⟩
theorem z1u(kZ:b)(h:HidB b→a:=by intro kZ;refine sX ?_;refine DCm_0 ?_;refine exI ?_;exact kZ.out):a:=h ⟨kZ⟩
theorem z2e(kZ:b)(h:HidB b→a:=by intro kZ;refine sX0 ?_;refine DCm_0 ?_;refine exI ?_;exact kZ.out):a:=h ⟨kZ⟩
theorem z1z(kZ:b)(h:HidB b→a:=by intro kZ;refine sX ?_;refine DCm_0 ?_;exact kZ.out):a:=h ⟨kZ⟩
end
open Go.Aut
theorem ziv(to:Int):SV.as (.agg (.cells [.int .i64 to,.nils])) (.agg (.cells (movL ⟨to,[]⟩))):=zgk rfl fun j hj=>by
  match j,hj with
  |0,_=>exact .inl rfl
  |1,_=>exact .inr ⟨rfl,.cells [],rfl,rfl⟩
theorem z4k{Γ:Ctx}{N:Nat}{C:CC}{E E':Env}{H H':Heap}{n n':Nat}{Q:Act→World→Prop}(is:List Nat)(ρ:Nat→Nat)(hle:Le Γ C is ρ E H E' H' n')(h:Done Γ N C E' H' n' Q):Done Γ N C E H n Q:=
  fun _ _ a w hS=>h _ _ a w (hS.le hle)
def machTS:QSpec:=fun vs K=>∃ k:Nat,vs=[.c (.int .i64 (k:Nat))]∧k≤1048576∧K (traV (machT k))
theorem machT_ok:z2s Tryd.prog gl 56 machTS:=by
 refine z2b (Γ:=g0) (N:=136) Tryd.func56 rfl rfl fun vs K h=>?_;obtain⟨k,rfl,hk,h⟩:=h;refine⟨_,h,z00.low (z0m _),by simp,fun w I=>?_⟩;refine srR g0_ok fun _ K2=>?_;refine z1u ?_;refine s_n K2 ?_;refine srR g0_ok fun _ K4=>?_
 iterate 2 refine z1u ?_
 refine z2e ?_;refine s_n K4 ?_;refine srR g0_ok fun _ K6=>?_
 iterate 2 refine z1u ?_
 refine z2e ?_;refine s_n K6 ?_;refine srR g0_ok fun _ K8=>?_;refine z1u ?_;refine z2e ?_;refine s_n K8 ?_;refine srR g0_ok fun _ K10=>?_;refine z1u ?_;refine z2e ?_;refine s_n K10 ?_;refine srR g0_ok fun _ K12=>?_
 iterate 12 refine z1u ?_
 refine z2e ?_;refine s_n K12 ?_;refine srR g0_ok fun _ K14=>?_
 iterate 3 refine z1u ?_
 refine s_n K14 ?_;refine srR g0_ok fun _ K16=>?_
 iterate 2 refine z1u ?_
 refine z2e ?_;refine s_n K16 ?_;refine srR g0_ok fun _ K18=>?_
 iterate 3 refine z1u ?_
 refine z2e ?_;refine s_n K18 ?_;refine srR g0_ok fun _ K20=>?_
 iterate 2 refine z1u ?_
 refine z2e ?_;refine s_n K20 ?_;refine srR g0_ok fun _ K22=>?_
 iterate 3 refine z1u ?_
 refine z2e ?_;refine s_n K22 ?_;refine z27 (α:=Tra) (fun t=>[(2,.c (.ptr 0 0)),(5,.c (.ptr 1 0))]) (fun t=>[(0,.own 70 (.cells [.nils,.nils,.nils,.nils]) 4),(1,.own 70 (.cells (traL t)) 4)]) 2 (fun t=>t=machT k) ?_ ?_
 ·refine leW [3,5,8,9] (fun i=>if i=1 then 4 else if i=2 then 6 else if i=3 then 7 else if i=4 then 10 else i) [(0,.c (.int .i64 (k:Nat))),(2,.c (.ptr 0 0)),(5,.c (.ptr 1 0)),(6,.c (.ds 1 (.cells (z0n pceL [⟨true,0⟩])))),(7,.c (.ptr 2 0)),(8,.c (.ptr 3 0))] [(0,.own 70 (.cells [.nils,.nils,.nils,.nils]) 4),(1,.own 70 (.cells [.ds 3 (.u64s mcls),.nils,.ds 1 (.bools [true]),.slice 4 0 1 1]) 4),(2,.own 129 (.cells (movL mvN)) 2),(3,.own 129 (.cells (movL mvS)) 2),(4,.own 28 (.cells (lists [[]])) 1)] 5 [0,4,6,7,10] uCm_0 uCm_0 uCm_0 uCm_0 ?_
  refine leW [2,3,4] id [(0,.c (.int .i64 (k:Nat))),(2,.c (.ptr 0 0)),(5,.c (.ptr 1 0)),(6,.c (.ds 1 (.cells (z0n pceL [⟨true,0⟩])))),(7,.c (.dp (.cells (movL mvN)) 0)),(8,.c (.dp (.cells (movL mvS)) 0))] [(0,.own 70 (.cells [.nils,.nils,.nils,.nils]) 4),(1,.own 70 (.cells [.ds 3 (.u64s mcls),.nils,.ds 1 (.bools [true]),.ds 1 (.cells (lists [[]]))]) 4)] 2 [0,1] uCm_0 uCm_0 uCm_0 uCm_0 ?_;refine srR g0_ok fun _ K24=>?_;refine z1u ?_;refine z1z ?_;refine exA (.c (.int .i64 ((k%8:Nat):Int))) (as_i (by push_cast;rfl)) ?_;refine s_n K24 ?_;refine z0g ?_;refine srR g0_ok fun _ K26=>?_
  iterate 2 refine z1u ?_
  refine s_n K26 ?_;refine z08 (b:=_) rfl (fun h_t36=>?_) (fun h_t36=>?_)
  ·try simp only[dQ,reduceIte]at h_t36
   refine z04 g0_ok fun _ K27=>?_;refine z1z ?_;refine exA (.agg (.cells (movL mvN))) (as_eq rfl) ?_;refine z1z ?_;refine exA (.agg (.cells (movL mvS))) (as_eq rfl) ?_;refine z1z ?_;refine exA (.agg (.cells (movL mvS))) (as_eq rfl) ?_
   iterate 3 refine z1u ?_
   refine z2e ?_;refine s_n K27 ?_;refine z07 ?_
   have hmt:(⟨mcls,3,[([⟨-1,[]⟩,⟨0,[⟨true,0⟩]⟩,⟨0,[⟨true,0⟩]⟩]:List Mov)],[true],[[]]⟩:Tra)=machT k:=by
    have hk8:k%8=0:=by omega
    simp only[machT,hk8]
    rfl
   refine z4k (is:=[2]) (ρ:=(fun i=>if i=2 then 3 else i)) (E':=[(2,.c (.ptr 0 0)),(5,.c (.ptr 1 0))]) (H':=[(0,.own 70 (.cells [.nils,.nils,.nils,.nils]) 4),(1,.own 70 (.cells [.ds 3 (.u64s mcls),.slice 2 0 1 1,.ds 1 (.bools [true]),.ds 1 (.cells (lists [[]]))]) 4),(2,.own 130 (.cells (recss movL [([⟨-1,[]⟩,⟨0,[⟨true,0⟩]⟩,⟨0,[⟨true,0⟩]⟩]:List Mov)])) 1)]) (n':=3) ⟨?_,?_,(by decide:List.Nodup ([0,1,3]:List Nat)),?_,?_,⟨Nat.zero_le _,fun i hi=>absurd hi (Nat.not_lt_zero i)⟩⟩ ?_
   ·exact uCm_0
   ·exact uCm_0
   ·exact uCm_0
   ·exact uCm_0
   refine dnS [2] (fun i=>i) (⟨mcls,3,[([⟨-1,[]⟩,⟨0,[⟨true,0⟩]⟩,⟨0,[⟨true,0⟩]⟩]:List Mov)],[true],[[]]⟩) hmt [0,1] uCm_0 uCm_0 uCm_0 uCm_0
  ·try simp only[dQ,reduceIte]at h_t36
   refine srR g0_ok fun _ K29=>?_
   iterate 2 refine z1u ?_
   refine s_n K29 ?_;refine z08 (b:=_) rfl (fun h_t44=>?_) (fun h_t44=>?_)
   ·try simp only[dQ,reduceIte]at h_t44
    refine z04 g0_ok fun _ K30=>?_;refine z1z ?_;refine exA (.agg (.cells (movL mvN))) (as_eq rfl) ?_
    iterate 9 refine z1u ?_
    refine z2e ?_;refine s_n K30 ?_;refine z07 ?_
    have hmt:(⟨mcls,3,[([⟨-1,[]⟩,⟨0,[⟨false,98⟩]⟩,⟨0,[⟨false,97⟩]⟩]:List Mov)],[true],[[]]⟩:Tra)=machT k:=by
     have hk8:k%8=1:=by omega
     simp only[machT,hk8]
     rfl
    refine z4k (is:=[2,3]) (ρ:=(fun i=>if i=2 then 4 else if i=3 then 5 else i)) (E':=[(2,.c (.ptr 0 0)),(5,.c (.ptr 1 0))]) (H':=[(0,.own 70 (.cells [.nils,.nils,.nils,.nils]) 4),(1,.own 70 (.cells [.ds 3 (.u64s mcls),.slice 3 0 1 1,.ds 1 (.bools [true]),.ds 1 (.cells (lists [[]]))]) 4),(2,.own 129 (.cells (z0n movL ([⟨-1,[]⟩,⟨0,[⟨false,98⟩]⟩,⟨0,[⟨false,97⟩]⟩]:List Mov))) 6),(3,.own 130 (.cells [.slice 2 0 3 3]) 1)]) (n':=4) ⟨?_,?_,(by decide:List.Nodup ([0,1,4,5]:List Nat)),?_,?_,⟨Nat.zero_le _,fun i hi=>absurd hi (Nat.not_lt_zero i)⟩⟩ ?_
    ·exact uCm_0
    ·exact uCm_0
    ·exact uCm_0
    ·exact uCm_0
    refine z4k (is:=[2]) (ρ:=(fun i=>if i=2 then 3 else i)) (E':=[(2,.c (.ptr 0 0)),(5,.c (.ptr 1 0))]) (H':=[(0,.own 70 (.cells [.nils,.nils,.nils,.nils]) 4),(1,.own 70 (.cells [.ds 3 (.u64s mcls),.slice 2 0 1 1,.ds 1 (.bools [true]),.ds 1 (.cells (lists [[]]))]) 4),(2,.own 130 (.cells (recss movL [([⟨-1,[]⟩,⟨0,[⟨false,98⟩]⟩,⟨0,[⟨false,97⟩]⟩]:List Mov)])) 1)]) (n':=3) ⟨?_,?_,(by decide:List.Nodup ([0,1,3]:List Nat)),?_,?_,⟨Nat.zero_le _,fun i hi=>absurd hi (Nat.not_lt_zero i)⟩⟩ ?_
    ·exact uCm_0
    ·exact uCm_0
    ·exact uCm_0
    ·exact uCm_0
    refine dnS [2] (fun i=>i) (⟨mcls,3,[([⟨-1,[]⟩,⟨0,[⟨false,98⟩]⟩,⟨0,[⟨false,97⟩]⟩]:List Mov)],[true],[[]]⟩) hmt [0,1] uCm_0 uCm_0 uCm_0 uCm_0
   ·try simp only[dQ,reduceIte]at h_t44
    refine srR g0_ok fun _ K32=>?_
    iterate 2 refine z1u ?_
    refine s_n K32 ?_;refine z08 (b:=_) rfl (fun h_t56=>?_) (fun h_t56=>?_)
    ·try simp only[dQ,reduceIte]at h_t56
     refine z04 g0_ok fun _ K33=>?_;refine z1z ?_;refine exA (.agg (.cells (movL mvN))) (as_eq rfl) ?_;refine z1z ?_;refine exA (.agg (.cells (movL ⟨0,[]⟩))) (ziv 0) ?_;refine z1z ?_;refine exA (.agg (.cells (movL mvS))) (as_eq rfl) ?_
     iterate 3 refine z1u ?_
     refine z2e ?_;refine s_n K33 ?_;refine z07 ?_
     have hmt:(⟨mcls,3,[([⟨-1,[]⟩,⟨0,[]⟩,⟨0,[⟨true,0⟩]⟩]:List Mov)],[true],[[]]⟩:Tra)=machT k:=by
      have hk8:k%8=2:=by omega
      simp only[machT,hk8]
      rfl
     refine z4k (is:=[2]) (ρ:=(fun i=>if i=2 then 3 else i)) (E':=[(2,.c (.ptr 0 0)),(5,.c (.ptr 1 0))]) (H':=[(0,.own 70 (.cells [.nils,.nils,.nils,.nils]) 4),(1,.own 70 (.cells [.ds 3 (.u64s mcls),.slice 2 0 1 1,.ds 1 (.bools [true]),.ds 1 (.cells (lists [[]]))]) 4),(2,.own 130 (.cells (recss movL [([⟨-1,[]⟩,⟨0,[]⟩,⟨0,[⟨true,0⟩]⟩]:List Mov)])) 1)]) (n':=3) ⟨?_,?_,(by decide:List.Nodup ([0,1,3]:List Nat)),?_,?_,⟨Nat.zero_le _,fun i hi=>absurd hi (Nat.not_lt_zero i)⟩⟩ ?_
     ·exact uCm_0
     ·exact uCm_0
     ·exact uCm_0
     ·exact uCm_0
     refine dnS [2] (fun i=>i) (⟨mcls,3,[([⟨-1,[]⟩,⟨0,[]⟩,⟨0,[⟨true,0⟩]⟩]:List Mov)],[true],[[]]⟩) hmt [0,1] uCm_0 uCm_0 uCm_0 uCm_0
    ·try simp only[dQ,reduceIte]at h_t56
     refine srR g0_ok fun _ K35=>?_
     iterate 2 refine z1u ?_
     refine s_n K35 ?_;refine z08 (b:=_) rfl (fun h_t64=>?_) (fun h_t64=>?_)
     ·try simp only[dQ,reduceIte]at h_t64
      refine z04 g0_ok fun _ K36=>?_;refine z1z ?_;refine exA (.agg (.cells (movL mvN))) (as_eq rfl) ?_;refine z1z ?_;refine exA (.agg (.cells (movL mvS))) (as_eq rfl) ?_;refine z1z ?_;refine exA (.agg (.cells (movL mvN))) (as_eq rfl) ?_
      iterate 3 refine z1u ?_
      refine z2e ?_;refine s_n K36 ?_;refine z07 ?_
      have hmt:(⟨mcls,3,[([⟨-1,[]⟩,⟨0,[⟨true,0⟩]⟩,⟨-1,[]⟩]:List Mov)],[true],[[]]⟩:Tra)=machT k:=by
       have hk8:k%8=3:=by omega
       simp only[machT,hk8]
       rfl
      refine z4k (is:=[2]) (ρ:=(fun i=>if i=2 then 3 else i)) (E':=[(2,.c (.ptr 0 0)),(5,.c (.ptr 1 0))]) (H':=[(0,.own 70 (.cells [.nils,.nils,.nils,.nils]) 4),(1,.own 70 (.cells [.ds 3 (.u64s mcls),.slice 2 0 1 1,.ds 1 (.bools [true]),.ds 1 (.cells (lists [[]]))]) 4),(2,.own 130 (.cells (recss movL [([⟨-1,[]⟩,⟨0,[⟨true,0⟩]⟩,⟨-1,[]⟩]:List Mov)])) 1)]) (n':=3) ⟨?_,?_,(by decide:List.Nodup ([0,1,3]:List Nat)),?_,?_,⟨Nat.zero_le _,fun i hi=>absurd hi (Nat.not_lt_zero i)⟩⟩ ?_
      ·exact uCm_0
      ·exact uCm_0
      ·exact uCm_0
      ·exact uCm_0
      refine dnS [2] (fun i=>i) (⟨mcls,3,[([⟨-1,[]⟩,⟨0,[⟨true,0⟩]⟩,⟨-1,[]⟩]:List Mov)],[true],[[]]⟩) hmt [0,1] uCm_0 uCm_0 uCm_0 uCm_0
     ·try simp only[dQ,reduceIte]at h_t64
      refine srR g0_ok fun _ K38=>?_
      iterate 2 refine z1u ?_
      refine s_n K38 ?_;refine z08 (b:=_) rfl (fun h_t72=>?_) (fun h_t72=>?_)
      ·try simp only[dQ,reduceIte]at h_t72
       refine z04 g0_ok fun _ K39=>?_;refine z1z ?_;refine exA (.agg (.cells (movL mvN))) (as_eq rfl) ?_
       iterate 4 refine z1u ?_
       refine z1z ?_;refine exA (.agg (.cells (movL mvS))) (as_eq rfl) ?_
       iterate 3 refine z1u ?_
       refine z2e ?_;refine s_n K39 ?_;refine z07 ?_
       have hmt:(⟨mcls,3,[([⟨-1,[]⟩,⟨0,[⟨true,0⟩,⟨true,0⟩]⟩,⟨0,[⟨true,0⟩]⟩]:List Mov)],[true],[[]]⟩:Tra)=machT k:=by
        have hk8:k%8=4:=by omega
        simp only[machT,hk8]
        rfl
       refine z4k (is:=[2]) (ρ:=(fun i=>if i=2 then 3 else if i=3 then 4 else i)) (E':=[(2,.c (.ptr 0 0)),(5,.c (.ptr 1 0))]) (H':=[(0,.own 70 (.cells [.nils,.nils,.nils,.nils]) 4),(1,.own 70 (.cells [.ds 3 (.u64s mcls),.slice 3 0 1 1,.ds 1 (.bools [true]),.ds 1 (.cells (lists [[]]))]) 4),(2,.own 129 (.cells (z0n movL ([⟨-1,[]⟩,⟨0,[⟨true,0⟩,⟨true,0⟩]⟩,⟨0,[⟨true,0⟩]⟩]:List Mov))) 6),(3,.own 130 (.cells [.slice 2 0 3 3]) 1)]) (n':=4) ⟨?_,?_,(by decide:List.Nodup ([0,1,3,4]:List Nat)),?_,?_,⟨Nat.zero_le _,fun i hi=>absurd hi (Nat.not_lt_zero i)⟩⟩ ?_
       ·exact uCm_0
       ·exact uCm_0
       ·exact uCm_0
       ·exact uCm_0
       refine z4k (is:=[2]) (ρ:=(fun i=>if i=2 then 3 else i)) (E':=[(2,.c (.ptr 0 0)),(5,.c (.ptr 1 0))]) (H':=[(0,.own 70 (.cells [.nils,.nils,.nils,.nils]) 4),(1,.own 70 (.cells [.ds 3 (.u64s mcls),.slice 2 0 1 1,.ds 1 (.bools [true]),.ds 1 (.cells (lists [[]]))]) 4),(2,.own 130 (.cells (recss movL [([⟨-1,[]⟩,⟨0,[⟨true,0⟩,⟨true,0⟩]⟩,⟨0,[⟨true,0⟩]⟩]:List Mov)])) 1)]) (n':=3) ⟨?_,?_,(by decide:List.Nodup ([0,1,3]:List Nat)),?_,?_,⟨Nat.zero_le _,fun i hi=>absurd hi (Nat.not_lt_zero i)⟩⟩ ?_
       ·exact uCm_0
       ·exact uCm_0
       ·exact uCm_0
       ·exact uCm_0
       refine dnS [2] (fun i=>i) (⟨mcls,3,[([⟨-1,[]⟩,⟨0,[⟨true,0⟩,⟨true,0⟩]⟩,⟨0,[⟨true,0⟩]⟩]:List Mov)],[true],[[]]⟩) hmt [0,1] uCm_0 uCm_0 uCm_0 uCm_0
      ·try simp only[dQ,reduceIte]at h_t72
       refine srR g0_ok fun _ K41=>?_
       iterate 2 refine z1u ?_
       refine s_n K41 ?_;refine z08 (b:=_) rfl (fun h_t83=>?_) (fun h_t83=>?_)
       ·try simp only[dQ,reduceIte]at h_t83
        refine srR g0_ok fun _ K43=>?_;refine z1z ?_;refine exA (.agg (.cells (movL mvN))) (as_eq rfl) ?_;refine z1z ?_;refine exA (.agg (.cells (movL mvS))) (as_eq rfl) ?_;refine z1z ?_;refine exA (.agg (.cells (movL mvS))) (as_eq rfl) ?_
        iterate 3 refine z1u ?_
        refine z2e ?_;refine s_n K43 ?_;refine z04 g0_ok fun _ K44=>?_
        iterate 3 refine z1u ?_
        refine z2e ?_;refine s_n K44 ?_;refine z07 ?_
        have hmt:(⟨mcls,3,[([⟨-1,[]⟩,⟨0,[⟨true,0⟩]⟩,⟨0,[⟨true,0⟩]⟩]:List Mov)],[true],[[97]]⟩:Tra)=machT k:=by
         have hk8:k%8=5:=by omega
         simp only[machT,hk8]
         rfl
        refine z4k (is:=[2,4]) (ρ:=(fun i=>if i=2 then 3 else if i=3 then 5 else i)) (E':=[(2,.c (.ptr 0 0)),(5,.c (.ptr 1 0))]) (H':=[(0,.own 70 (.cells [.nils,.nils,.nils,.nils]) 4),(1,.own 70 (.cells [.ds 3 (.u64s mcls),.slice 2 0 1 1,.ds 1 (.bools [true]),.slice 3 0 1 1]) 4),(2,.own 130 (.cells (recss movL [([⟨-1,[]⟩,⟨0,[⟨true,0⟩]⟩,⟨0,[⟨true,0⟩]⟩]:List Mov)])) 1),(3,.own 28 (.cells (lists [[97]])) 1)]) (n':=4) ⟨?_,?_,(by decide:List.Nodup ([0,1,3,5]:List Nat)),?_,?_,⟨Nat.zero_le _,fun i hi=>absurd hi (Nat.not_lt_zero i)⟩⟩ ?_
        ·exact uCm_0
        ·exact uCm_0
        ·exact uCm_0
        ·exact uCm_0
        refine dnS [2,3] (fun i=>i) (⟨mcls,3,[([⟨-1,[]⟩,⟨0,[⟨true,0⟩]⟩,⟨0,[⟨true,0⟩]⟩]:List Mov)],[true],[[97]]⟩) hmt [0,1] uCm_0 uCm_0 uCm_0 uCm_0
       ·try simp only[dQ,reduceIte]at h_t83
        refine srR g0_ok fun _ K46=>?_
        iterate 2 refine z1u ?_
        refine s_n K46 ?_;refine z08 (b:=_) rfl (fun h_t94=>?_) (fun h_t94=>?_)
        ·try simp only[dQ,reduceIte]at h_t94
         refine srR g0_ok fun _ K48=>?_;refine z1z ?_;refine exA (.agg (.cells (movL mvN))) (as_eq rfl) ?_;refine z1z ?_;refine exA (.agg (.cells (movL ⟨1,[]⟩))) (ziv 1) ?_;refine z1z ?_;refine exA (.agg (.cells (movL mvS))) (as_eq rfl) ?_;refine z1u ?_;refine z1z ?_;refine exA (.agg (.cells (movL mvN))) (as_eq rfl) ?_;refine z1z ?_;refine exA (.agg (.cells (movL ⟨1,[]⟩))) (ziv 1) ?_
         iterate 7 refine z1u ?_
         refine z2e ?_;refine s_n K48 ?_;refine srR g0_ok fun _ K50=>?_
         iterate 2 refine z1u ?_
         refine z2e ?_;refine s_n K50 ?_;refine z04 g0_ok fun _ K51=>?_
         iterate 4 refine z1u ?_
         refine z2e ?_;refine s_n K51 ?_;refine z07 ?_
         have hmt:(⟨mcls,3,[([⟨-1,[]⟩,⟨1,[]⟩,⟨0,[⟨true,0⟩]⟩]:List Mov),([⟨-1,[]⟩,⟨1,[]⟩,⟨0,[⟨false,97⟩,⟨true,0⟩]⟩]:List Mov)],[true,true],[[],[98]]⟩:Tra)=machT k:=by
          have hk8:k%8=6:=by omega
          simp only[machT,hk8]
          rfl
         refine z4k (is:=[2,3,6,7,8]) (ρ:=(fun i=>if i=2 then 4 else if i=3 then 5 else if i=4 then 9 else i)) (E':=[(2,.c (.ptr 0 0)),(5,.c (.ptr 1 0))]) (H':=[(0,.own 70 (.cells [.nils,.nils,.nils,.nils]) 4),(1,.own 70 (.cells [.ds 3 (.u64s mcls),.slice 3 0 2 2,.ds 2 (.bools [true,true]),.slice 4 0 2 2]) 4),(2,.own 129 (.cells (z0n movL ([⟨-1,[]⟩,⟨1,[]⟩,⟨0,[⟨false,97⟩,⟨true,0⟩]⟩]:List Mov))) 6),(3,.own 130 (.cells [.ds 3 (.cells (z0n movL ([⟨-1,[]⟩,⟨1,[]⟩,⟨0,[⟨true,0⟩]⟩]:List Mov))),.slice 2 0 3 3]) 2),(4,.own 28 (.cells (lists [[],[98]])) 2)]) (n':=5) ⟨?_,?_,(by decide:List.Nodup ([0,1,4,5,9]:List Nat)),?_,?_,⟨Nat.zero_le _,fun i hi=>absurd hi (Nat.not_lt_zero i)⟩⟩ ?_
         ·exact uCm_0
         ·exact uCm_0
         ·exact uCm_0
         ·exact uCm_0
         refine z4k (is:=[2,4]) (ρ:=(fun i=>if i=2 then 3 else i)) (E':=[(2,.c (.ptr 0 0)),(5,.c (.ptr 1 0))]) (H':=[(0,.own 70 (.cells [.nils,.nils,.nils,.nils]) 4),(1,.own 70 (.cells [.ds 3 (.u64s mcls),.slice 2 0 2 2,.ds 2 (.bools [true,true]),.ds 2 (.cells (lists [[],[98]]))]) 4),(2,.own 130 (.cells (recss movL [([⟨-1,[]⟩,⟨1,[]⟩,⟨0,[⟨true,0⟩]⟩]:List Mov),([⟨-1,[]⟩,⟨1,[]⟩,⟨0,[⟨false,97⟩,⟨true,0⟩]⟩]:List Mov)])) 2)]) (n':=3) ⟨?_,?_,(by decide:List.Nodup ([0,1,3]:List Nat)),?_,?_,⟨Nat.zero_le _,fun i hi=>absurd hi (Nat.not_lt_zero i)⟩⟩ ?_
         ·exact uCm_0
         ·exact uCm_0
         ·exact uCm_0
         ·exact uCm_0
         refine dnS [2] (fun i=>i) (⟨mcls,3,[([⟨-1,[]⟩,⟨1,[]⟩,⟨0,[⟨true,0⟩]⟩]:List Mov),([⟨-1,[]⟩,⟨1,[]⟩,⟨0,[⟨false,97⟩,⟨true,0⟩]⟩]:List Mov)],[true,true],[[],[98]]⟩) hmt [0,1] uCm_0 uCm_0 uCm_0 uCm_0
        ·try simp only[dQ,reduceIte]at h_t94
         refine srR g0_ok fun _ K53=>?_
         iterate 2 refine z1u ?_
         refine s_n K53 ?_;refine z08 (b:=_) rfl (fun _=>?_) (fun h_t115=>?_)
         rotate_left 1
         ·exfalso;((try simp only[decide_eq_true_eq,decide_eq_false_iff_not]at h_t115);omega)
         refine srR g0_ok fun _ K55=>?_;refine z1z ?_;refine exA (.agg (.cells (movL mvN))) (as_eq rfl) ?_
         iterate 5 refine z1u ?_
         refine z1z ?_;refine exA (.agg (.cells (movL mvN))) (as_eq rfl) ?_;refine z1z ?_;refine exA (.agg (.cells (movL ⟨0,[]⟩))) (ziv 0) ?_;refine z1z ?_;refine exA (.agg (.cells (movL ⟨0,[]⟩))) (ziv 0) ?_
         iterate 3 refine z1u ?_
         refine z2e ?_;refine s_n K55 ?_;refine srR g0_ok fun _ K57=>?_
         iterate 2 refine z1u ?_
         refine z2e ?_;refine s_n K57 ?_;refine z04 g0_ok fun _ K58=>?_
         iterate 4 refine z1u ?_
         refine z2e ?_;refine s_n K58 ?_;refine z07 ?_
         have hmt:(⟨mcls,3,[([⟨-1,[]⟩,⟨1,[⟨true,0⟩]⟩,⟨1,[⟨true,0⟩]⟩]:List Mov),([⟨-1,[]⟩,⟨0,[]⟩,⟨0,[]⟩]:List Mov)],[true,false],[[],[]]⟩:Tra)=machT k:=by
          have hk8:k%8=7:=by omega
          simp only[machT,hk8]
          rfl
         refine z4k (is:=[2,3,5,6,7]) (ρ:=(fun i=>if i=2 then 4 else if i=3 then 8 else i)) (E':=[(2,.c (.ptr 0 0)),(5,.c (.ptr 1 0))]) (H':=[(0,.own 70 (.cells [.nils,.nils,.nils,.nils]) 4),(1,.own 70 (.cells [.ds 3 (.u64s mcls),.slice 2 0 2 2,.ds 2 (.bools [true,false]),.slice 3 0 2 2]) 4),(2,.own 130 (.cells (recss movL [([⟨-1,[]⟩,⟨1,[⟨true,0⟩]⟩,⟨1,[⟨true,0⟩]⟩]:List Mov),([⟨-1,[]⟩,⟨0,[]⟩,⟨0,[]⟩]:List Mov)])) 2),(3,.own 28 (.cells (lists [[],[]])) 2)]) (n':=4) ⟨?_,?_,(by decide:List.Nodup ([0,1,4,8]:List Nat)),?_,?_,⟨Nat.zero_le _,fun i hi=>absurd hi (Nat.not_lt_zero i)⟩⟩ ?_
         ·exact uCm_0
         ·exact uCm_0
         ·exact uCm_0
         ·exact uCm_0
         refine dnS [2,3] (fun i=>i) (⟨mcls,3,[([⟨-1,[]⟩,⟨1,[⟨true,0⟩]⟩,⟨1,[⟨true,0⟩]⟩]:List Mov),([⟨-1,[]⟩,⟨0,[]⟩,⟨0,[]⟩]:List Mov)],[true,false],[[],[]]⟩) hmt [0,1] uCm_0 uCm_0 uCm_0 uCm_0
 ·intro t ht
  refine srR g0_ok fun _ K60=>?_;refine z1z ?_;refine exA (traV t) (as_eq rfl) ?_;refine z2e ?_;refine s_n K60 ?_;rw[←ht];refine z0j (z13 g0_ok (fun _ _ h=>h) (z00.low (z0m _)) [] [.cell 2 70] rfl ?_)
  repeat' (first|exact z00.to (z0b _)|exact z00.low (z0b _)|exact z00.to (z0e _)|exact z00.low (z0e _)|exact z00.to (z0c _)|exact z00.low (z0c _)|exact z00.to (z06 _)|exact z00.low (z06 _)|exact z00.to (z0m _)|exact z00.low (z0m _)|exact z00.to (z0d _)|exact z00.low (z0d _)|exact z00.to (z0f _ _)|exact z00.low (z0f _ _)|exact z00.to (z01 itmR _)|exact z00.low (z01 itmR _)|exact z00.to (z01 movR _)|exact z00.low (z01 movR _)|exact z00.to (z01 pceR _)|exact z00.low (z01 pceR _)|exact z00.to (z01 fndR _)|exact z00.low (z01 fndR _)|exact z00.to (z01 atmR _)|exact z00.low (z01 atmR _)|exact z00.to (z01 litR _)|exact z00.low (z01 litR _)|exact z00.to (z01 mdlR _)|exact z00.low (z01 mdlR _)|exact z0t (z0k z0p z05)|exact z0o (z0k z0p z05)|exact z0t z05|exact z0o z05|exact trivial|refine aI ?_ ?_|exact cC0|refine low_cons' ?_ ?_|exact cC1|fail)
  all_goals first|omega|(simp[-List.reduceReplicate];done)|(simp[-List.reduceReplicate]<;>omega)|skip


end Go.Proofs.YtegdcifghaldoaaDoor

namespace Go.Proofs.YtegdcifghaldoaaDoor
set_option linter.all false
open Go.Ab Go.RowKit

section
variable {a b:Prop}
theorem qCn0(h:a:=by first|exact vcA|(simp<;>omega)|exact Nat.le_of_ble_eq_true rfl|exact(by decide:List.Nodup [0])|exact(by decide:List.Nodup [0,1])|(refine⟨by omega,by omega,?_⟩;exact And.intro trivial trivial)|exact⟨by omega,by omega⟩|exact z34.mpr ⟨by omega,by omega⟩|exact⟨by omega,by decide,(by show _≤(9223372036854775807:Int);omega)⟩|exact vcB):a:=h
theorem qCn1(h:a:=by first|exact vcA|(simp<;>omega)|exact Nat.le_of_ble_eq_true rfl|exact(by decide:List.Nodup [0])|exact(by decide:List.Nodup [0,1])|(refine⟨by omega,by omega,?_⟩;exact And.intro trivial trivial)|exact⟨by omega,by omega⟩|exact z34.mpr ⟨by omega,by omega⟩|exact⟨by omega,by decide,(by show _≤(9223372036854775807:Int);omega)⟩|exact⟨z00.solid (z0b _),trivial⟩|exact⟨rfl,rfl,trivial⟩|exact⟨rfl,trivial⟩|exact vcB):a:=h
theorem uCn_0(h:a:=by
    repeat' (first|exact z00.low (z0b _)|exact z00.to (z01 itmR _)|exact z00.isD (z0b _)|exact trivial|refine aI ?_ ?_|exact cC0|refine low_cons' ?_ ?_|exact cC1|fail)
    all_goals first|omega|(show(_:Int)=kindA _ _;first|(rw[hkd];done)|omega)|(show(_:Int)=_;first|omega|exact hkd|(rw[hkd];done))|(show(_:List Int)=rowA _ 0;rw[zth];done)|(show(_:List Int)=rowA _ (_+1);rw[ztg];first|rfl|(simp;done))|(show(_:List Int)=_;rw[hge];done)|(rw[zag];first|done|omega)|(show 0+g.1*1≤(rowA l g.1).length;rw[zag];omega)|(show(_:Cont)=_;rw[if_pos ⟨rfl,by show(rowA _ _).length=_*1;rw[zag];omega⟩];first|rfl|(rw[hge];done))|(rw[hge];done)|(simp[-List.reduceReplicate];done)|skip):a:=h
theorem DCn_0(kZ:b)(h:HidB b→a:=by intro kZ;(repeat first|refine aI qCn0 ?_|refine z0h qCn0 ?_|refine z0a qCn0 ?_|refine z0q qCn0 ?_|refine z0i ?_);exact kZ.out):a:=h ⟨kZ⟩
theorem z1o(kZ:b)(h:HidB b→a:=by intro kZ;refine sX ?_;refine DCn_0 ?_;refine exI ?_;exact kZ.out):a:=h ⟨kZ⟩
theorem z5m(kZ:b)(h:HidB b→a:=by intro kZ;refine sX0 ?_;refine DCn_0 ?_;refine exI ?_;exact kZ.out):a:=h ⟨kZ⟩
theorem sXTCn_3(kZ:b)(h:HidB b→a:=by intro kZ;refine sXT ?_;refine DCn_0 ?_;refine exI ?_;exact kZ.out):a:=h ⟨kZ⟩
theorem ztf(kZ:b)(h:HidB b→a:=by intro kZ;refine dX ?_;refine DCn_0 ?_;refine exI ?_;exact kZ.out):a:=h ⟨kZ⟩
theorem gXCn_5(kZ:b)(h:HidB b→a:=by intro kZ;refine gX ?_;refine DCn_0 ?_;refine exI ?_;exact kZ.out):a:=h ⟨kZ⟩
theorem gX0Cn_6(kZ:b)(h:HidB b→a:=by intro kZ;refine gX0 ?_;refine DCn_0 ?_;refine exI ?_;exact kZ.out):a:=h ⟨kZ⟩
theorem DCn_7(kZ:b)(h:HidB b→a:=by intro kZ;(repeat first|refine aI qCn1 ?_|refine z0h qCn1 ?_|refine z0a qCn1 ?_|refine z0q qCn1 ?_|refine z0i ?_);exact kZ.out):a:=h ⟨kZ⟩
theorem znm(kZ:b)(h:HidB b→a:=by intro kZ;refine sX ?_;refine DCn_7 ?_;refine exI ?_;exact kZ.out):a:=h ⟨kZ⟩
theorem sX0Cn_9(kZ:b)(h:HidB b→a:=by intro kZ;refine sX0 ?_;refine DCn_7 ?_;refine exI ?_;exact kZ.out):a:=h ⟨kZ⟩
theorem z1g(kZ:b)(h:HidB b→a:=by intro kZ;refine sX ?_;refine DCn_0 ?_;exact kZ.out):a:=h ⟨kZ⟩
theorem znn(kZ:b)(h:HidB b→a:=by intro kZ;refine dX ?_;refine DCn_0 ?_;exact kZ.out):a:=h ⟨kZ⟩
theorem zno(kZ:b)(h:HidB b→a:=by intro kZ;refine gX ?_;refine DCn_0 ?_;exact kZ.out):a:=h ⟨kZ⟩
theorem zcg(kZ:b)(h:HidB b→a:=by intro kZ;refine sX ?_;refine DCn_7 ?_;exact kZ.out):a:=h ⟨kZ⟩
end
open Go.Aut
theorem ze6(l:List UInt8)(a b:Nat):(partL l a b).length≤b - a:=by rw[partL,List.length_take];exact Nat.min_le_left _ _
theorem zp5(l:List UInt8)(a b:Nat):(partL l a b).length≤l.length:=by rw[partL,List.length_take,List.length_drop];omega
theorem zag(l:List UInt8)(i:Nat):(rowA l i).length=i:=by simp[rowA]
theorem ztg(l:List UInt8)(i:Nat):rowA l (i+1)=rowA l i++[aB l (2+i)%5 - 2]:=by rw[rowA,List.range_succ,List.map_append];rfl
theorem zth(l:List UInt8):rowA l 0=[]:=rfl
def tA(l:List UInt8)(n:Nat):List Itm:=madeT (partL l 1 (3+(l.getD 0 0).toNat / 5%2)) n 3
theorem mA3{l:List UInt8}{n k:Nat}(h:kindA l k=3):(⟨3,[],[],D0,rowA l (n+k),aB l 1%13 - 6,T0,Q0,0⟩:Atm)=madeA l n k:=by rw[madeA,if_pos h]
theorem mA1{l:List UInt8}{n k:Nat}(h:kindA l k=1):(⟨1,tA l n,[],machL (partL l 4 l.length),[],0,T0,Q0,0⟩:Atm)=madeA l n k:=by rw[madeA,h];rfl
theorem mA2{l:List UInt8}{n k:Nat}(h:kindA l k=2):(⟨2,tA l n,madeT (partL l 4 7) n 3,D0,[],0,T0,Q0,0⟩:Atm)=madeA l n k:=by rw[madeA,h];rfl
theorem mA4{l:List UInt8}{n k:Nat}(h:kindA l k=4):(⟨4,tA l n,madeT (partL l 5 7) n 3,D0,[],0,machT (l.getD 4 0).toNat,Q0,0⟩:Atm)=madeA l n k:=by rw[madeA,h];rfl
theorem mA5{l:List UInt8}{n k:Nat}(h:kindA l k=5):(⟨5,tA l n,[],D0,[],0,T0,ruleK (l.getD 4 0).toNat,aB l 5%(k:Nat)⟩:Atm)=madeA l n k:=by rw[madeA,h];rfl
theorem aB_eq(l:List UInt8)(i:Nat):(((l.getD i 0).toNat:Nat):Int)=aB l i:=rfl
attribute [local irreducible] aB kindA rowA tA machT machL ruleK madeT
noncomputable def cma:Ctx:={ P:=Tryd.prog,ty:=ty,glob:=gl,fs:=[(35,.flat atBS),(54,.data partBS),(53,.data madeTS),(55,.data znj),(56,.data machTS),(57,.flat ruleKS)] }
theorem z2v:cma.OK:=⟨tyOK,⟨⟨z09 Tryd.func35 kQf rfl,zni⟩,⟨z09 Tryd.func54 kQf rfl,partB_ok⟩,⟨z09 Tryd.func53 kQf rfl,madeT_ok⟩,⟨z09 Tryd.func55 kQf rfl,zow⟩,⟨z09 Tryd.func56 kQf rfl,machT_ok⟩,⟨z09 Tryd.func57 kQf rfl,ruleK_ok⟩,trivial⟩,mixed⟩
@[simp] theorem cma_ty:cma.ty=ty:=rfl

def znp:QSpec:=fun vs K=>∃ (l:List UInt8) (n k:Nat),vs=[.c (.ds l.length (.u8s l)),.c (.int .i64 (n:Nat)),.c (.int .i64 (k:Nat))]∧(l.length≤9223372036854775807∧n≤12∧k≤12)∧K (atmV (madeA l n k))
theorem zgl:z2s Tryd.prog gl 26 znp:=by
 refine z2b (Γ:=cma) (N:=102) Tryd.func26 rfl rfl fun vs K h=>?_;obtain⟨l,n,k,rfl,⟨hl0,hn,hk⟩,h⟩:=h;refine⟨_,h,z00.low (z0b _),by simp,fun w I=>?_⟩
 have hl:l.length≤9223372036854775807:=by omega
 have hr0:=aB_r l 0
 have hr1:=aB_r l 1
 refine srR z2v fun _ K2=>?_;refine z1o ?_;refine s_n K2 ?_;refine srR z2v fun _ K4=>?_;refine z1o ?_;refine z1g ?_;refine⟨l,0,rfl,hl,?_⟩;refine DCn_0 ?_
 first|refine exA (.c (.int .i64 (aB l 0))) (as_i (aB_eq l 0)) ?_|(intro cap1 hcap1;refine exA (.c (.int .i64 (aB l 0))) (as_i (aB_eq l 0)) ?_)
 refine z1g ?_;refine exA (.c (.int .i64 (aB l 0%5))) (as_i (by first|rfl|(rw[Int.tmod_eq_emod_of_nonneg (by omega)]))) ?_
 iterate 3 refine z1o ?_
 refine z5m ?_;refine s_n K4 ?_;refine z27 (α:=Unit) (fun _=>[(0,.c (.ds l.length (.u8s l))),(1,.c (.int .i64 (n:Nat))),(2,.c (.int .i64 (k:Nat))),(6,.c (.ptr 0 0)),(7,.c (.ptr 1 0))]) (fun _=>[(0,.own 74 (.cells [.int .i64 0,.nils,.nils,.nils,.nils,.nils,.nils,.int .i64 0,.nils,.nils,.nils,.nils,.int .i64 0,.int .i64 0,.int .i64 0,.int .i64 0,.bool false,.int .i64 0]) 18),(1,.own 74 (.cells [.int .i64 (kindA l k),.nils,.nils,.nils,.nils,.nils,.nils,.int .i64 0,.nils,.nils,.nils,.nils,.int .i64 0,.int .i64 0,.int .i64 0,.int .i64 0,.bool false,.int .i64 0]) 18)]) 2 (fun _=>True) ?_ ?_
 ·refine srR z2v fun _ K6=>?_
  refine z1o ?_;refine z1g ?_;refine exA (.c (.int .i64 (1+aB l 0%5))) (as_eq rfl) ?_;refine z1o ?_;refine z1g ?_;refine exB (fun hb3=>?_) (fun hb3=>?_)
  ·try simp only[dQ,reduceIte]at hb3
   iterate 2 refine sXTCn_3 ?_
   refine z1o ?_;refine s_n K6 ?_;refine z08 (b:=_) rfl (fun h_t20=>?_) (fun h_t20=>?_)
   ·try simp only[dQ,reduceIte]at h_t20
    refine z04 z2v fun _ K7=>?_;refine z1o ?_;refine z5m ?_;refine s_n K7 ?_
    have hkd:kindA l k=2:=by unfold kindA;rw[if_pos (by constructor<;>omega)]
    refine dnS [] id () trivial [0,1] uCn_0 uCn_0 uCn_0 uCn_0
   ·try simp only[dQ,reduceIte]at h_t20
    refine z0l ?_
    have hkd:kindA l k=1+aB l 0%5:=by unfold kindA;rw[if_neg (by omega)]
    refine dnS [] id () trivial [0,1] uCn_0 uCn_0 uCn_0 uCn_0
  ·try simp only[dQ,reduceIte]at hb3
   iterate 2 refine sN ?_
   refine z1o ?_;refine s_n K6 ?_;refine z08 (b:=_) rfl (fun h_t20=>?_) (fun _=>?_)
   ·exfalso;simp at h_t20
   refine z0l ?_
   have hkd:kindA l k=1+aB l 0%5:=by unfold kindA;rw[if_neg (by omega)]
   refine dnS [] id () trivial [0,1] uCn_0 uCn_0 uCn_0 uCn_0
 ·intro _ _
  refine seq_k fun _ K8=>?_;refine srR z2v fun _ K10=>?_;refine z1o ?_;refine z1g ?_;refine exA (.c (.int .i64 (kindA l k))) (as_eq rfl) ?_;refine z1o ?_;refine s_n K10 ?_;refine z08 (b:=_) rfl (fun h_t24=>?_) (fun h_t24=>?_)
  ·try simp only[dQ,reduceIte]at h_t24
   refine seq_k fun _ K11=>?_;refine srR z2v fun _ K13=>?_;refine z1o ?_;refine s_n K13 ?_;refine z0g ?_;refine z5r 1 6 3 (.ints .i64 []) rfl rfl rfl trivial ?_;refine z10 (α:=Nat×Nat) (fun g=>[(0,.c (.ds l.length (.u8s l))),(1,.c (.int .i64 (n:Nat))),(2,.c (.int .i64 (k:Nat))),(6,.c (.ptr 0 0)),(7,.c (.ptr 1 0)),(8,.c (.int .i64 (g.1:Nat)))]) (fun g=>[(0,.own 74 (.cells [.int .i64 0,.nils,.nils,.nils,.nils,.nils,.nils,.int .i64 0,.nils,.nils,.nils,.nils,.int .i64 0,.int .i64 0,.int .i64 0,.int .i64 0,.bool false,.int .i64 0]) 18),(1,.own 74 (.cells [.int .i64 (kindA l k),.nils,.nils,.nils,.nils,.nils,.slice 2 0 g.1 g.2,.int .i64 0,.nils,.nils,.nils,.nils,.int .i64 0,.int .i64 0,.int .i64 0,.int .i64 0,.bool false,.int .i64 0]) 18),(2,.own 3 (.ints .i64 (rowA l g.1)) g.2)]) 3 (fun g=>g.1≤n+k) (fun g=>n+k - g.1) ?_ ?_
   ·refine dnS [] id (0,0) (Nat.zero_le _) [0,1,2] uCn_0 uCn_0 uCn_0 uCn_0
   ·intro g hg
    have hrl:=zag l g.1
    refine seq_k fun _ K14=>?_;refine srR z2v fun _ K16=>?_
    iterate 5 refine z1o ?_
    refine s_n K16 ?_;refine z08 (b:=_) rfl (fun h_t29=>?_) (fun h_t29=>?_)
    ·try simp only[dQ,reduceIte]at h_t29
     refine z0l ?_;apply K14;refine seq_k fun _ K17=>?_;refine z0g ?_
     have hgn:g.1< n+k:=by omega
     have hr2:=aB_r l (2+g.1)
     refine z5z z2v [(0,true),(1,true),(2,true),(3,true),(4,true),(5,true),(6,false),(7,true),(8,true),(9,false),(10,false),(11,true),(12,true),(13,false)] rfl kQf kQf fun _ K18=>?_
     iterate 5 refine ztf ?_
     refine znn ?_;refine exA (.c (.int .i64 ((2+g.1:Nat):Int))) (as_i (by push_cast;rfl)) ?_;refine zno ?_;refine⟨l,(2+g.1),rfl,hl,?_⟩;refine DCn_0 ?_
     first|refine exA (.c (.int .i64 (aB l (2+g.1)))) (as_i (aB_eq l (2+g.1))) ?_|(intro cap6 hcap6;refine exA (.c (.int .i64 (aB l (2+g.1)))) (as_i (aB_eq l (2+g.1))) ?_)
     refine znn ?_;refine exA (.c (.int .i64 (aB l (2+g.1)%5))) (as_i (by first|rfl|(rw[Int.tmod_eq_emod_of_nonneg (by omega)]))) ?_;refine ztf ?_;refine gXCn_5 ?_;refine zno ?_;intro cap10 hcap10;refine exI ?_
     iterate 2 refine ztf ?_
     refine gX0Cn_6 ?_;refine d_n K18 ?_;refine z07 ?_;apply K17;refine z04 z2v fun _ K19=>?_
     iterate 3 refine z1o ?_
     refine s_n K19 ?_;refine dnS [] (fun i=>if i=2 then 4 else i) (g.1+1,cap10) ⟨(by show g.1+1≤_;omega),(by show _ - (g.1+1)< _;omega)⟩ [0,1,4] ?_ ?_ ?_ ?_
     ·exact uCn_0
     ·exact uCn_0
     ·exact uCn_0
     ·exact uCn_0
    ·try simp only[dQ,reduceIte]at h_t29
     refine z0v ?_;refine z02 ?_;refine z02 ?_;refine z0s ?_;apply K11
     have hge:g.1=n+k:=by omega
     refine srR z2v fun _ K21=>?_;refine z1o ?_;refine z1g ?_;refine⟨l,1,rfl,hl,?_⟩;refine DCn_0 ?_
     first|refine exA (.c (.int .i64 (aB l 1))) (as_i (aB_eq l 1)) ?_|(intro cap1 hcap1;refine exA (.c (.int .i64 (aB l 1))) (as_i (aB_eq l 1)) ?_)
     refine z1g ?_;refine exA (.c (.int .i64 (aB l 1%13))) (as_i (by first|rfl|(rw[Int.tmod_eq_emod_of_nonneg (by omega)]))) ?_
     iterate 3 refine z1o ?_
     refine z5m ?_;refine s_n K21 ?_
     have hkd:kindA l k=3:=h_t24
     have hma:= @mA3 l n k hkd
     refine leW [2] id [(6,.c (.ptr 0 0)),(7,.c (.ptr 1 0))] [(0,.own 74 (.cells [.int .i64 0,.nils,.nils,.nils,.nils,.nils,.nils,.int .i64 0,.nils,.nils,.nils,.nils,.int .i64 0,.int .i64 0,.int .i64 0,.int .i64 0,.bool false,.int .i64 0]) 18),(1,.own 74 (.cells (atmL ⟨3,[],[],D0,rowA l (n+k),aB l 1%13 - 6,T0,Q0,0⟩)) 18)] 2 [0,1] uCn_0 uCn_0 uCn_0 uCn_0 ?_;rw[hma];refine srR z2v fun _ K23=>?_;refine z1g ?_;refine exA (atmV (madeA l n k)) (as_eq rfl) ?_;refine z5m ?_;refine s_n K23 ?_;refine z0j (z13 z2v (fun _ _ h=>h) (z00.low (z0b _)) [] [.cell 6 74] rfl ?_)
     all_goals exact uBc_0
  ·try simp only[dQ,reduceIte]at h_t24
   refine z0l ?_;apply K8
   have hbz:=(l.getD 0 0).toNat_lt
   refine srR z2v fun _ K25=>?_
   iterate 2 refine z1o ?_
   refine z1g ?_;refine⟨l,0,rfl,hl,?_⟩;refine DCn_0 ?_
   first|refine exI ?_|(intro cap2 hcap2;refine exI ?_)
   iterate 2 refine z1o ?_
   refine z1g ?_;refine exA (.c (.int .i64 ((3+(l.getD 0 0).toNat / 5%2:Nat):Int))) (as_i (by push_cast;rfl)) ?_;refine z1g ?_;refine⟨l,1,(3+(l.getD 0 0).toNat / 5%2),rfl,⟨hl,.inl (by omega),by omega⟩,?_⟩;refine DCn_0 ?_
   first|refine exI ?_|(intro cap6 hcap6;refine exI ?_)
   refine z1o ?_;refine z1g ?_;refine⟨(partL l 1 (3+(l.getD 0 0).toNat / 5%2)),n,3,rfl,⟨by have:=ze6 l 1 (3+(l.getD 0 0).toNat / 5%2);omega,hn,by decide⟩,?_⟩;refine DCn_0 ?_
   first|refine exA (.c (itmsX (tA l n))) (as_eq (by unfold tA;rfl)) ?_|(intro cap8 hcap8;refine exA (.c (itmsX (tA l n))) (as_eq (by unfold tA;rfl)) ?_)
   refine z1o ?_;refine z5m ?_;refine s_n K25 ?_;refine z27 (α:=Atm) (fun a=>[(6,.c (.ptr 0 0)),(7,.c (.ptr 1 0))]) (fun a=>[(0,.own 74 (.cells [.int .i64 0,.nils,.nils,.nils,.nils,.nils,.nils,.int .i64 0,.nils,.nils,.nils,.nils,.int .i64 0,.int .i64 0,.int .i64 0,.int .i64 0,.bool false,.int .i64 0]) 18),(1,.own 74 (.cells (atmL a)) 18)]) 2 (fun a=>a=madeA l n k) ?_ ?_
   ·refine srR z2v fun _ K27=>?_
    refine z1o ?_;refine z1g ?_;refine exA (.c (.int .i64 (kindA l k))) (as_eq rfl) ?_;refine s_n K27 ?_;refine z0g ?_;refine srR z2v fun _ K29=>?_
    iterate 2 refine z1o ?_
    refine s_n K29 ?_;refine z08 (b:=_) rfl (fun h_t64=>?_) (fun h_t64=>?_)
    ·try simp only[dQ,reduceIte]at h_t64
     refine z04 z2v fun _ K30=>?_
     iterate 3 refine z1o ?_
     refine z1g ?_;refine⟨l,4,l.length,rfl,⟨hl,.inr (Nat.le_refl _),hl⟩,?_⟩;refine DCn_0 ?_
     first|refine exI ?_|(intro cap3 hcap3;refine exI ?_)
     refine z1g ?_;refine⟨partL l 4 l.length,rfl,by have:=zp5 l 4 l.length;omega,?_⟩;refine DCn_0 ?_
     first|refine exA (dfaV (machL (partL l 4 l.length))) (as_eq rfl) ?_|(intro cap4 hcap4;refine exA (dfaV (machL (partL l 4 l.length))) (as_eq rfl) ?_)
     refine z1o ?_;refine z5m ?_;refine s_n K30 ?_;refine z07 ?_
     have hkd:kindA l k=1:=by have:=z7t l k;omega
     have hma:= @mA1 l n k h_t64
     refine dnS [] id (⟨1,tA l n,[],machL (partL l 4 l.length),[],0,T0,Q0,0⟩) hma [0,1] uCn_0 uCn_0 uCn_0 uCn_0
    ·try simp only[dQ,reduceIte]at h_t64
     refine srR z2v fun _ K32=>?_
     iterate 2 refine z1o ?_
     refine s_n K32 ?_;refine z08 (b:=_) rfl (fun h_t72=>?_) (fun h_t72=>?_)
     ·try simp only[dQ,reduceIte]at h_t72
      refine z04 z2v fun _ K33=>?_;refine z1o ?_;refine z1g ?_;refine⟨l,4,7,rfl,⟨hl,.inl (by decide),by decide⟩,?_⟩;refine DCn_0 ?_
      first|refine exI ?_|(intro cap1 hcap1;refine exI ?_)
      refine z1o ?_;refine z1g ?_;refine⟨(partL l 4 7),n,3,rfl,⟨by have:=ze6 l 4 7;omega,hn,by decide⟩,?_⟩;refine DCn_0 ?_
      first|refine exI ?_|(intro cap3 hcap3;refine exI ?_)
      refine z1o ?_;refine z5m ?_;refine s_n K33 ?_;refine z07 ?_
      have hkd:kindA l k=2:=by have:=z7t l k;omega
      have hma:= @mA2 l n k h_t72
      refine dnS [] id (⟨2,tA l n,madeT (partL l 4 7) n 3,D0,[],0,T0,Q0,0⟩) hma [0,1] uCn_0 uCn_0 uCn_0 uCn_0
     ·try simp only[dQ,reduceIte]at h_t72
      refine srR z2v fun _ K35=>?_
      iterate 2 refine z1o ?_
      refine s_n K35 ?_;refine z08 (b:=_) rfl (fun h_t79=>?_) (fun h_t79=>?_)
      ·try simp only[dQ,reduceIte]at h_t79
       refine srR z2v fun _ K37=>?_;refine z1o ?_;refine z1g ?_;refine⟨l,5,7,rfl,⟨hl,.inl (by decide),by decide⟩,?_⟩;refine DCn_0 ?_
       first|refine exI ?_|(intro cap1 hcap1;refine exI ?_)
       refine z1o ?_;refine z1g ?_;refine⟨(partL l 5 7),n,3,rfl,⟨by have:=ze6 l 5 7;omega,hn,by decide⟩,?_⟩;refine DCn_0 ?_
       first|refine exI ?_|(intro cap3 hcap3;refine exI ?_)
       refine z1o ?_;refine z5m ?_;refine s_n K37 ?_
       have hb4:=(l.getD 4 0).toNat_lt
       refine z04 z2v fun _ K38=>?_;refine z1o ?_;refine z1g ?_;refine⟨l,4,rfl,hl,?_⟩;refine DCn_0 ?_
       first|refine exI ?_|(intro cap1 hcap1;refine exI ?_)
       refine z1g ?_;refine⟨(l.getD 4 0).toNat,rfl,by omega,?_⟩;refine DCn_0 ?_
       first|refine exI ?_|(intro cap2 hcap2;refine exI ?_)
       refine z1o ?_;refine z5m ?_;refine s_n K38 ?_;refine z07 ?_
       have hkd:kindA l k=4:=by have:=z7t l k;omega
       have hma:= @mA4 l n k h_t79
       refine dnS [] id (⟨4,tA l n,madeT (partL l 5 7) n 3,D0,[],0,machT (l.getD 4 0).toNat,Q0,0⟩) hma [0,1] uCn_0 uCn_0 uCn_0 uCn_0
      ·try simp only[dQ,reduceIte]at h_t79
       refine srR z2v fun _ K40=>?_
       iterate 2 refine z1o ?_
       refine s_n K40 ?_;refine z08 (b:=_) rfl (fun _=>?_) (fun h_t90=>?_)
       rotate_left 1
       ·exfalso;((try simp only[decide_eq_true_eq,decide_eq_false_iff_not]at h_t90);have:=z7t l k;omega)
       have hb4:=(l.getD 4 0).toNat_lt
       refine srR z2v fun _ K42=>?_;refine z1o ?_;refine z1g ?_;refine⟨l,4,rfl,hl,?_⟩;refine DCn_0 ?_
       first|refine exI ?_|(intro cap1 hcap1;refine exI ?_)
       refine z1g ?_;refine⟨(l.getD 4 0).toNat,rfl,by omega,?_⟩;refine DCn_0 ?_
       first|refine exI ?_|(intro cap2 hcap2;refine exI ?_)
       refine z1o ?_;refine z5m ?_;refine s_n K42 ?_
       have hk1:1≤k:=by have:=z7t l k;omega
       have hr5:=aB_r l 5
       refine z04 z2v fun _ K43=>?_;refine z1o ?_;refine z1g ?_;refine⟨l,5,rfl,hl,?_⟩;refine DCn_0 ?_
       first|refine exA (.c (.int .i64 (aB l 5))) (as_i (aB_eq l 5)) ?_|(intro cap1 hcap1;refine exA (.c (.int .i64 (aB l 5))) (as_i (aB_eq l 5)) ?_)
       refine z1o ?_;refine z1g ?_;refine exA (.c (.int .i64 (aB l 5%(k:Nat)))) (as_i (by first|rfl|(rw[Int.tmod_eq_emod_of_nonneg (by omega)]))) ?_;refine z1o ?_;refine z5m ?_;refine s_n K43 ?_;refine z07 ?_
       have hkd:kindA l k=5:=by have:=z7t l k;omega
       have hma:= @mA5 l n k (by have:=z7t l k;omega)
       refine dnS [] id (⟨5,tA l n,[],D0,[],0,T0,ruleK (l.getD 4 0).toNat,aB l 5%(k:Nat)⟩) hma [0,1] uCn_0 uCn_0 uCn_0 uCn_0
   ·intro a haa
    refine srR z2v fun _ K45=>?_;refine z1g ?_;refine exA (atmV a) (as_eq rfl) ?_;refine z5m ?_;refine s_n K45 ?_;rw[←haa];refine z0j (z13 z2v (fun _ _ h=>h) (z00.low (z0b _)) [] [.cell 6 74] rfl ?_)
    all_goals exact uBc_0

noncomputable def cml:Ctx:={ P:=Tryd.prog,ty:=ty,glob:=gl,fs:=[(35,.flat atBS),(26,.data znp)] }
theorem zti:cml.OK:=⟨tyOK,⟨⟨z09 Tryd.func35 kQf rfl,zni⟩,⟨z09 Tryd.func26 kQf rfl,zgl⟩,trivial⟩,mixed⟩
@[simp] theorem cml_ty:cml.ty=ty:=rfl

attribute [local irreducible] madeA
def zl1:QSpec:=fun vs K=>∃ (l:List UInt8) (n k:Nat),vs=[.c (.ds l.length (.u8s l)),.c (.int .i64 (n:Nat)),.c (.int .i64 (k:Nat))]∧(l.length≤9223372036854775807∧n≤12∧k≤12)∧K (litV (z96 l n k))
theorem ziw:z2s Tryd.prog gl 23 zl1:=by
 refine z2b (Γ:=cml) (N:=17) Tryd.func23 rfl rfl fun vs K h=>?_;obtain⟨l,n,k,rfl,⟨hl,hn,hk⟩,h⟩:=h;refine⟨_,h,z00.low (z0e _),by simp,fun w I=>?_⟩;refine srR zti fun _ K2=>?_;refine znm ?_;refine s_n K2 ?_
 have hb0:=(l.getD 0 0).toNat_lt
 refine srR zti fun _ K4=>?_
 iterate 3 refine znm ?_
 refine zcg ?_;refine⟨l,n,k,rfl,⟨hl,hn,hk⟩,?_⟩;refine DCn_7 ?_
 first|refine exA (atmV (madeA l n k)) (as_eq rfl) ?_|(intro cap3 hcap3;refine exA (atmV (madeA l n k)) (as_eq rfl) ?_)
 refine znm ?_;refine zcg ?_;refine⟨l,0,rfl,by omega,?_⟩;refine DCn_7 ?_
 first|refine exI ?_|(intro cap5 hcap5;refine exI ?_)
 iterate 2 refine znm ?_
 refine zcg ?_;refine exA (.c (.bool (decide ((l.getD 0 0).toNat / 10%2=1)))) (as_b (decide_eq_decide.2 (by omega))) ?_;refine zcg ?_;refine exA (.agg (.cells (litL (z96 l n k)))) (as_eq (by first|rfl|(unfold z96;rfl))) ?_;refine sX0Cn_9 ?_;refine s_n K4 ?_;refine z0j (z13 zti (fun _ _ h=>h) (z00.low (z0e _)) [] [.cell 6 76] rfl ?_)
 all_goals exact uBc_0


end Go.Proofs.YtegdcifghaldoaaDoor

namespace Go.Proofs.YtegdcifghaldoaaDoor
set_option linter.all false
open Go.Ab Go.RowKit

section
variable {a b:Prop}
theorem qCo0(h:a:=by first|exact vcA|(simp<;>omega)|exact Nat.le_of_ble_eq_true rfl|exact(by decide:List.Nodup [0])|exact⟨rfl,rfl,rfl,rfl,by decide⟩|exact⟨by omega,by decide,(by show _≤(9223372036854775807:Int);omega)⟩|(refine⟨by omega,by omega,?_⟩;exact And.intro trivial trivial)|exact z34.mpr ⟨by omega,by omega⟩|exact⟨by omega,by omega⟩|(refine⟨by omega,by omega,?_⟩;exact z00.solid (litR.dat _))|(refine⟨by omega,by omega,?_⟩;exact z00.solid (atmR.dat _))|(refine⟨by omega,by omega,?_⟩;exact z00.solid (z2a rfl z8b))|(simp only[z1l];rw[hrl];omega)|(show(z0n _ _).length=_;rw[hrl,hfl])|(simp only[z1l];rw[hrl,hfl];omega)|(show _< (lists _).length;rw[z1p];omega)|(show 0+g.1*19≤(z0n _ _).length;rw[hrl,hfl];omega)|(show 0+g.1*18≤(z0n _ _).length;rw[hrl,hfl];omega)|(rw[hfl];done)|(show(mostK _ _).length=_;rw[z77];omega)|exact vcB):a:=h
theorem uCo_0(h:a:=by
    repeat' (first|exact z8p litR|exact z8p atmR|exact z4a litR _|exact z4a atmR _|exact z00.low (z0c _)|exact z00.low (z1b _ _ _ _)|exact z00.isD (z1b _ _ _ _)|exact z00.isD (z0f _ _)|exact z00.low (z0f _ _)|exact trivial|refine aI ?_ ?_|exact cC0|refine low_cons' ?_ ?_|exact cC1|fail)
    all_goals first|omega|(rw[z8k (by omega)];done)|(rw[z78 (by omega)];done)|(show(_:List Int)=mostK _ 0;rw[zp7];done)|(show(_:List Int)=mostK _ (_+1);rw[zp6];first|rfl|(simp;done))|(show 0+g.1*1≤(mostK _ g.1).length;rw[z77];omega)|(rw[z77];first|done|omega)|(show(_:Cont)=_;rw[if_pos ⟨rfl,by show(mostK _ _).length=_*1;rw[z77];omega⟩];first|rfl|(rw[hge];done))|(rw[hge];done)|(show(_:List Int)=_;rw[hge];done)|(refine z7j (z01 litR _) ?_;first|(rw[zp9];rfl)|(rw[hsucc,z60];first|rfl|(simp;done)))|(refine z7j (z01 atmR _) ?_;first|(rw[zl4];rfl)|(rw[hsucc,z60];first|rfl|(simp;done)))|(show(_:Cont)=_;rw[if_pos ⟨rfl,by simp only[z1l];rw[hrl,hfl];first|rfl|(simp;done)⟩];first|rfl|(rw[hfin];done))|(show(_:Cont)=_;rw[if_pos ⟨rfl,rfl⟩];rfl)|(rw[hfl];done)|(rw[←hfin,hfl];done)|(simp only[z1l];rw[hrl,hfl];omega)|(show 0+g.1*19≤(z0n _ _).length;rw[hrl,hfl];omega)|(show 0+g.1*18≤(z0n _ _).length;rw[hrl,hfl];omega)|(rw[z0u litR (fun _ _=>trivial),z8k (by omega)];omega)|(rw[z0u atmR (fun _ _=>trivial),z78 (by omega)];omega)|(simp[-List.reduceReplicate];done)|skip):a:=h
theorem DCo_0(kZ:b)(h:HidB b→a:=by intro kZ;(repeat first|refine aI qCo0 ?_|refine z0h qCo0 ?_|refine z0a qCo0 ?_|refine z0q qCo0 ?_|refine z0i ?_);exact kZ.out):a:=h ⟨kZ⟩
theorem z29(kZ:b)(h:HidB b→a:=by intro kZ;refine sX ?_;refine DCo_0 ?_;refine exI ?_;exact kZ.out):a:=h ⟨kZ⟩
theorem zgm(kZ:b)(h:HidB b→a:=by intro kZ;refine sX0 ?_;refine DCo_0 ?_;refine exI ?_;exact kZ.out):a:=h ⟨kZ⟩
theorem zgn(kZ:b)(h:HidB b→a:=by intro kZ;refine sXT ?_;refine DCo_0 ?_;refine exI ?_;exact kZ.out):a:=h ⟨kZ⟩
theorem z6j(kZ:b)(h:HidB b→a:=by intro kZ;refine dX ?_;refine DCo_0 ?_;refine exI ?_;exact kZ.out):a:=h ⟨kZ⟩
theorem ztj(kZ:b)(h:HidB b→a:=by intro kZ;refine gX ?_;refine DCo_0 ?_;refine exI ?_;exact kZ.out):a:=h ⟨kZ⟩
theorem zl2(kZ:b)(h:HidB b→a:=by intro kZ;refine gX0 ?_;refine DCo_0 ?_;refine exI ?_;exact kZ.out):a:=h ⟨kZ⟩
theorem z3h(kZ:b)(h:HidB b→a:=by intro kZ;refine sX ?_;refine DCo_0 ?_;exact kZ.out):a:=h ⟨kZ⟩
theorem z4d(kZ:b)(h:HidB b→a:=by intro kZ;refine dX ?_;refine DCo_0 ?_;exact kZ.out):a:=h ⟨kZ⟩
theorem zbf(kZ:b)(h:HidB b→a:=by intro kZ;refine gX ?_;refine DCo_0 ?_;exact kZ.out):a:=h ⟨kZ⟩
theorem ztk(kZ:b)(h:HidB b→a:=by intro kZ;refine sXT ?_;refine DCo_0 ?_;exact kZ.out):a:=h ⟨kZ⟩
end
open Go.Aut
def rawL(s:UInt8)(ws vs:List (List UInt8))(nd:List UInt8):List Cell:=[.u8 s,.ds ws.length (.cells (lists ws)),.ds vs.length (.cells (lists vs)),.ds nd.length (.u8s nd)]
theorem z1b(s:UInt8)(ws vs:List (List UInt8))(nd:List UInt8):z00 (rawL s ws vs nd):=pl4 rfl rfl rfl rfl
theorem zp6(s i:Nat):mostK s (i+1)=mostK s i++[1+(((s / 4+i)%3:Nat):Int)]:=by rw[mostK,List.range_succ,List.map_append];rfl
theorem zp7(s:Nat):mostK s 0=[]:=rfl
theorem z8k{ls:List (List UInt8)}{n k i:Nat}(h:i≤ls.length):(litsK ls n k i).length=i:=by simp[litsK];omega
theorem z78{ls:List (List UInt8)}{n k i:Nat}(h:i≤ls.length):(z19 ls n k i).length=i:=by simp[z19];omega
theorem zp8{ls:List (List UInt8)}{n k i:Nat}{x:List UInt8}(hx:ls[i]? =some x):litsK ls n k (i+1)=litsK ls n k i++[z96 x n k]:=by rw[litsK,List.take_add_one,hx,List.map_append];rfl
theorem zl3{ls:List (List UInt8)}{n k i:Nat}{x:List UInt8}(hx:ls[i]? =some x):z19 ls n k (i+1)=z19 ls n k i++[madeA x n k]:=by rw[z19,List.take_add_one,hx,List.map_append];rfl
theorem zp9(ls:List (List UInt8))(n k:Nat):litsK ls n k 0=[]:=rfl
theorem zl4(ls:List (List UInt8))(n k:Nat):z19 ls n k 0=[]:=rfl
theorem zix{ls:List (List UInt8)}{n k i:Nat}(h:i≤4)(h2:i=ls.length∨i=4)(h3:i≤ls.length):litsK ls n k i=litsK ls n k 4:=by
  rcases h2 with rfl|rfl
  · rw[litsK,litsK,List.take_of_length_le (by omega),List.take_of_length_le (by omega)]
  · rfl
theorem zf5{ls:List (List UInt8)}{n k i:Nat}(h:i≤3)(h2:i=ls.length∨i=3)(h3:i≤ls.length):z19 ls n k i=z19 ls n k 3:=by
  rcases h2 with rfl|rfl
  · rw[z19,z19,List.take_of_length_le (by omega),List.take_of_length_le (by omega)]
  · rfl
theorem zl5(s:Nat)(ws vs:List (List UInt8))(nd:List UInt8):[Cell.ds 2 (.u8s [97,98]),.ds (1+s%2) (.ints .i64 (mostK s (1+s%2))),.ds (topK s).length (.ints .i64 (topK s)),.ds (litsK ws (1+s%2) (topK s).length 4).length (.cells (z0n litL (litsK ws (1+s%2) (topK s).length 4))),.ds (z19 vs (1+s%2) (topK s).length 3).length (.cells (z0n atmL (z19 vs (1+s%2) (topK s).length 3))),.ds (z4j (z19 vs (1+s%2) (topK s).length 3) nd).length (.cells (recss fndL (z4j (z19 vs (1+s%2) (topK s).length 3) nd)))]=prbL (madeQ s ws vs nd):=by
  unfold prbL madeQ
  simp only[z77]
  first|done|rfl
attribute [local irreducible] mostK litsK z19 madeA z96 madeF topK
noncomputable def cmq:Ctx:={ P:=Tryd.prog,ty:=ty,glob:=gl,fs:=[(23,.data zl1),(26,.data znp),(13,.data madeFS)] }
theorem z3w:cmq.OK:=⟨tyOK,⟨⟨z09 Tryd.func23 kQf rfl,ziw⟩,⟨z09 Tryd.func26 kQf rfl,zgl⟩,⟨z09 Tryd.func13 kQf rfl,madeF_ok⟩,trivial⟩,mixed⟩
@[simp] theorem cmq_ty:cmq.ty=ty:=rfl

def ztl:QSpec:=fun vs0 K=>∃ (s:UInt8) (ws vs:List (List UInt8)) (nd:List UInt8),vs0=[.agg (.cells (rawL s ws vs nd))]∧(ws.length≤9223372036854775807∧vs.length≤9223372036854775807∧nd.length≤9223372036854775807∧(∀ p∈ws,p.length≤9223372036854775807)∧∀ p∈vs,p.length≤9223372036854775807)∧K (prbV (madeQ s.toNat ws vs nd))
theorem znq:z2s Tryd.prog gl 18 ztl:=by
 refine z2b (Γ:=cmq) (N:=118) Tryd.func18 rfl rfl fun vs0 K h=>?_;obtain⟨s,ws,vs,nd,rfl,⟨hw,hv,hn,hwl,hvl⟩,h⟩:=h;refine⟨_,h,z00.low (z0c _),by simp,fun w I=>?_⟩
 have hsb:=s.toNat_lt
 refine srR z3w fun _ K2=>?_
 iterate 2 refine z29 ?_
 refine s_n K2 ?_;refine srR z3w fun _ K4=>?_;refine z29 ?_;refine z3h ?_;refine exA (.c (.u8 s)) (as_eq rfl) ?_;refine z3h ?_;refine exA (.c (.int .i64 ((s.toNat:Nat):Int))) (as_eq rfl) ?_;refine z29 ?_;refine s_n K4 ?_;refine srR z3w fun _ K6=>?_
 iterate 4 refine z29 ?_
 refine zgm ?_;refine s_n K6 ?_;refine seq_k fun _ K7=>?_;refine srR z3w fun _ K9=>?_;refine z29 ?_;refine s_n K9 ?_;refine z0g ?_;refine z5r 3 1 3 (.ints .i64 []) rfl rfl rfl trivial ?_;refine z10 (α:=Nat×Nat) (fun g=>[(1,.c (.dp (.cells (rawL s ws vs nd)) 0)),(2,.c (.ptr 0 0)),(3,.c (.int .i64 ((s.toNat:Nat):Int))),(4,.c (.ptr 1 0)),(5,.c (.int .i64 (g.1:Nat)))]) (fun g=>[(0,.own 52 (.cells [.nils,.nils,.nils,.nils,.nils,.nils]) 6),(1,.own 52 (.cells [.ds 2 (.u8s [97,98]),.slice 2 0 g.1 g.2,.nils,.nils,.nils,.nils]) 6),(2,.own 3 (.ints .i64 (mostK s.toNat g.1)) g.2)]) 3 (fun g=>g.1≤(1+s.toNat%2)) (fun g=>(1+s.toNat%2) - g.1) ?_ ?_
 ·refine dnS [0] (fun i=>if i=0 then 1 else if i=1 then 3 else 4) (0,0) (Nat.zero_le _) [1,3,4] uCo_0 uCo_0 uCo_0 uCo_0
 ·intro g hg
  refine seq_k fun _ K10=>?_;refine srR z3w fun _ K12=>?_
  iterate 2 refine z29 ?_
  refine z3h ?_;refine exA (.c (.int .i64 ((s.toNat%2:Nat):Int))) (as_i (by first|rfl|(push_cast;rfl))) ?_;refine z29 ?_;refine s_n K12 ?_;refine z08 (b:=_) rfl (fun h_t17=>?_) (fun h_t17=>?_)
  ·try simp only[dQ,reduceIte]at h_t17
   refine z0l ?_;apply K10;refine seq_k fun _ K13=>?_;refine z0g ?_;refine z04 z3w fun _ K14=>?_
   iterate 3 refine z29 ?_
   refine z3h ?_;refine exA (.c (.int .i64 ((s.toNat / 4:Nat):Int))) (as_i (by first|rfl|(push_cast;rfl))) ?_;refine z29 ?_;refine z3h ?_;refine exA (.c (.int .i64 ((s.toNat / 4+g.1:Nat):Int))) (as_i (by first|rfl|(push_cast;rfl))) ?_;refine z3h ?_;refine exA (.c (.int .i64 (((s.toNat / 4+g.1)%3:Nat):Int))) (as_i (by first|rfl|(push_cast;rfl))) ?_
   iterate 2 refine z29 ?_
   refine z3h ?_;intro cap9 hcap9;refine exI ?_;refine z29 ?_;refine zgm ?_;refine s_n K14 ?_;refine z07 ?_;apply K13;refine z04 z3w fun _ K15=>?_
   iterate 3 refine z29 ?_
   refine s_n K15 ?_;refine dnS [] (fun i=>if i=2 then 4 else i) (g.1+1,cap9) ⟨(by show g.1+1≤_;omega),(by show _ - (g.1+1)< _;omega)⟩ [0,1,4] ?_ ?_ ?_ ?_
   ·exact uCo_0
   ·exact uCo_0
   ·exact uCo_0
   ·exact uCo_0
  ·try simp only[dQ,reduceIte]at h_t17
   refine z0v ?_;refine z02 ?_;refine z02 ?_;refine z0s ?_;apply K7;refine z27 (α:=List Int) (fun tp=>[(1,.c (.dp (.cells (rawL s ws vs nd)) 0)),(2,.c (.ptr 0 0)),(3,.c (.int .i64 ((s.toNat:Nat):Int))),(4,.c (.ptr 1 0))]) (fun tp=>[(0,.own 52 (.cells [.nils,.nils,.nils,.nils,.nils,.nils]) 6),(1,.own 52 (.cells [.ds 2 (.u8s [97,98]),.ds (1+s.toNat%2) (.ints .i64 (mostK s.toNat (1+s.toNat%2))),.ds (tp).length (.ints .i64 (tp)),.nils,.nils,.nils]) 6)]) 2 (fun tp=>tp=topK s.toNat) ?_ ?_
   ·have hge:g.1=(1+s.toNat%2):=by omega
    refine leW [2] id [(1,.c (.dp (.cells (rawL s ws vs nd)) 0)),(2,.c (.ptr 0 0)),(3,.c (.int .i64 ((s.toNat:Nat):Int))),(4,.c (.ptr 1 0))] [(0,.own 52 (.cells [.nils,.nils,.nils,.nils,.nils,.nils]) 6),(1,.own 52 (.cells [.ds 2 (.u8s [97,98]),.ds (1+s.toNat%2) (.ints .i64 (mostK s.toNat (1+s.toNat%2))),.nils,.nils,.nils,.nils]) 6)] 2 [0,1] uCo_0 uCo_0 uCo_0 uCo_0 ?_;refine srR z3w fun _ K17=>?_;refine z29 ?_;refine z3h ?_;refine exA (.c (.int .i64 ((s.toNat / 2:Nat):Int))) (as_i (by first|rfl|(push_cast;rfl))) ?_;refine z3h ?_;refine exA (.c (.int .i64 ((s.toNat / 2%2:Nat):Int))) (as_i (by first|rfl|(push_cast;rfl))) ?_;refine z29 ?_;refine s_n K17 ?_;refine z08 (b:=_) rfl (fun h_t34=>?_) (fun h_t34=>?_)
    ·try simp only[dQ,reduceIte]at h_t34
     refine z04 z3w fun _ K18=>?_
     iterate 3 refine z29 ?_
     refine z3h ?_;intro cap3 hcap3;refine exI ?_;refine z29 ?_;refine zgm ?_;refine s_n K18 ?_
     have htk:[12]=topK s.toNat:=by unfold topK;rw[if_pos (by omega)]
     refine dnS [3] id ([12]) htk [0,1] uCo_0 uCo_0 uCo_0 uCo_0
    ·try simp only[dQ,reduceIte]at h_t34
     refine z0l ?_
     have htk:[]=topK s.toNat:=by unfold topK;rw[if_neg (by omega)]
     refine dnS [] id ([]) htk [0,1] uCo_0 uCo_0 uCo_0 uCo_0
   ·intro tp htp
    subst htp;refine z27 (α:=Unit) (fun _=>[(1,.c (.dp (.cells (rawL s ws vs nd)) 0)),(2,.c (.ptr 0 0)),(3,.c (.int .i64 ((s.toNat:Nat):Int))),(4,.c (.ptr 1 0))]) (fun _=>[(0,.own 52 (.cells [.nils,.nils,.nils,.nils,.nils,.nils]) 6),(1,.own 52 (.cells [.ds 2 (.u8s [97,98]),.ds (1+s.toNat%2) (.ints .i64 (mostK s.toNat (1+s.toNat%2))),.ds (topK s.toNat).length (.ints .i64 (topK s.toNat)),.ds ((litsK ws (1+s.toNat%2) (topK s.toNat).length 4)).length (.cells (z0n litL (litsK ws (1+s.toNat%2) (topK s.toNat).length 4))),.nils,.nils]) 6)]) 2 (fun _=>True) ?_ ?_
    ·refine srR z3w fun _ K20=>?_
     refine z29 ?_;refine s_n K20 ?_;refine z0g ?_;refine z5r 1 3 76 (.cells []) rfl rfl rfl low_nil' ?_;refine z10 (α:=Nat×Nat) (fun g=>[(1,.c (.dp (.cells (rawL s ws vs nd)) 0)),(2,.c (.ptr 0 0)),(3,.c (.int .i64 ((s.toNat:Nat):Int))),(4,.c (.ptr 1 0)),(6,.c (.int .i64 (g.1:Nat)))]) (fun g=>[(0,.own 52 (.cells [.nils,.nils,.nils,.nils,.nils,.nils]) 6),(1,.own 52 (.cells [.ds 2 (.u8s [97,98]),.ds (1+s.toNat%2) (.ints .i64 (mostK s.toNat (1+s.toNat%2))),.ds (topK s.toNat).length (.ints .i64 (topK s.toNat)),.slice 2 0 g.1 g.2,.nils,.nils]) 6),(2,.own 76 (.cells (z0n litL (litsK ws (1+s.toNat%2) (topK s.toNat).length g.1))) (g.2*19))]) 3 (fun g=>g.1≤ws.length∧g.1≤4) (fun g=>ws.length - g.1) ?_ ?_
     ·refine dnS [] id (0,0) ⟨Nat.zero_le _,Nat.zero_le _⟩ [0,1,2] uCo_0 uCo_0 uCo_0 uCo_0
     ·intro g hg
      refine seq_k fun _ K21=>?_;refine srR z3w fun _ K23=>?_
      iterate 2 refine z29 ?_
      refine z3h ?_;refine exA (.c (.ds ws.length (.cells (lists ws)))) (as_eq rfl) ?_
      iterate 2 refine z29 ?_
      refine z3h ?_;refine exB (fun hb5=>?_) (fun hb5=>?_)
      ·try simp only[dQ,reduceIte]at hb5
       iterate 2 refine zgn ?_
       refine z29 ?_;refine s_n K23 ?_;refine z08 (b:=_) rfl (fun h_t48=>?_) (fun h_t48=>?_)
       ·try simp only[dQ,reduceIte]at h_t48
        refine z0l ?_;apply K21;refine seq_k fun _ K24=>?_;refine z0g ?_
        have hkl:g.1< ws.length:=by omega
        obtain⟨x,hx⟩:=hasAt hkl
        have hxl:=hwl x (List.mem_of_getElem? hx)
        have hfl:(litsK ws (1+s.toNat%2) (topK s.toNat).length g.1).length=g.1:=z8k (by omega)
        have hrl:=z0u litR (l:=litsK ws (1+s.toNat%2) (topK s.toNat).length g.1) (fun _ _=>trivial)
        have hsucc:=zp8 (n:=(1+s.toNat%2)) (k:=(topK s.toNat).length) hx
        refine z5z z3w [(0,true),(1,true),(2,true),(3,true),(4,true),(5,true),(6,true),(7,true),(8,true),(9,true),(10,true),(11,true),(12,true),(13,false),(14,false),(15,false),(16,true),(17,false)] rfl kQf kQf fun _ K25=>?_
        iterate 3 refine z6j ?_
        refine z4d ?_;refine exA (.c (.ds ws.length (.cells (lists ws)))) (as_eq rfl) ?_
        iterate 2 refine z6j ?_
        refine z4d ?_;refine exA (.c (.ds x.length (.u8s x))) (as_c (zsz hx (by omega))) ?_;refine z6j ?_;refine z4d ?_;refine exA (.c (.ds (1+s.toNat%2) (.ints .i64 (mostK s.toNat (1+s.toNat%2))))) (as_eq rfl) ?_;refine z4d ?_;refine exA (.c (.int .i64 (((1+s.toNat%2):Nat):Int))) (as_eq rfl) ?_;refine z6j ?_;refine z4d ?_;refine exA (.c (.ds (topK s.toNat).length (.ints .i64 (topK s.toNat)))) (as_eq rfl) ?_;refine z4d ?_;refine exA (.c (.int .i64 (((topK s.toNat).length:Nat):Int))) (as_eq rfl) ?_;refine zbf ?_;refine⟨x,(1+s.toNat%2),(topK s.toNat).length,rfl,⟨hxl,by omega,by rw[zce];omega⟩,?_⟩;refine DCo_0 ?_
        first|refine exI ?_|(intro cap13 hcap13;refine exI ?_)
        refine ztj ?_;refine zbf ?_;intro cap15 hcap15;refine exI ?_;refine z6j ?_;refine zl2 ?_;refine d_n K25 ?_;refine z07 ?_;apply K24;refine z04 z3w fun _ K26=>?_
        iterate 3 refine z29 ?_
        refine s_n K26 ?_;refine dnS [] (fun i=>if i=2 then 4 else i) (g.1+1,cap15) ⟨⟨(by show g.1+1≤_;omega),(by show g.1+1≤_;omega)⟩,(by show _ - (g.1+1)< _;omega)⟩ [0,1,4] ?_ ?_ ?_ ?_
        ·exact uCo_0
        ·exact uCo_0
        ·exact uCo_0
        ·exact uCo_0
       ·try simp only[dQ,reduceIte]at h_t48
        refine z0v ?_;refine z02 ?_;refine z02 ?_;refine z0s ?_
        have hfin:litsK ws (1+s.toNat%2) (topK s.toNat).length g.1=(litsK ws (1+s.toNat%2) (topK s.toNat).length 4):=zix (by omega) (by omega) (by omega)
        have hfl:(litsK ws (1+s.toNat%2) (topK s.toNat).length g.1).length=g.1:=z8k (by omega)
        have hrl:=z0u litR (l:=litsK ws (1+s.toNat%2) (topK s.toNat).length g.1) (fun _ _=>trivial)
        refine dnS [2] id () trivial [0,1] uCo_0 uCo_0 uCo_0 uCo_0
      ·try simp only[dQ,reduceIte]at hb5
       iterate 2 refine sN ?_
       refine z29 ?_;refine s_n K23 ?_;refine z08 (b:=_) rfl (fun h_t48=>?_) (fun _=>?_)
       ·exfalso;simp at h_t48
       refine z0v ?_;refine z02 ?_;refine z02 ?_;refine z0s ?_
       have hfin:litsK ws (1+s.toNat%2) (topK s.toNat).length g.1=(litsK ws (1+s.toNat%2) (topK s.toNat).length 4):=zix (by omega) (by omega) (by omega)
       have hfl:(litsK ws (1+s.toNat%2) (topK s.toNat).length g.1).length=g.1:=z8k (by omega)
       have hrl:=z0u litR (l:=litsK ws (1+s.toNat%2) (topK s.toNat).length g.1) (fun _ _=>trivial)
       refine dnS [2] id () trivial [0,1] uCo_0 uCo_0 uCo_0 uCo_0
    ·intro _ _
     refine z27 (α:=Unit) (fun _=>[(1,.c (.dp (.cells (rawL s ws vs nd)) 0)),(2,.c (.ptr 0 0)),(3,.c (.int .i64 ((s.toNat:Nat):Int))),(4,.c (.ptr 1 0))]) (fun _=>[(0,.own 52 (.cells [.nils,.nils,.nils,.nils,.nils,.nils]) 6),(1,.own 52 (.cells [.ds 2 (.u8s [97,98]),.ds (1+s.toNat%2) (.ints .i64 (mostK s.toNat (1+s.toNat%2))),.ds (topK s.toNat).length (.ints .i64 (topK s.toNat)),.ds ((litsK ws (1+s.toNat%2) (topK s.toNat).length 4)).length (.cells (z0n litL (litsK ws (1+s.toNat%2) (topK s.toNat).length 4))),.ds ((z19 vs (1+s.toNat%2) (topK s.toNat).length 3)).length (.cells (z0n atmL (z19 vs (1+s.toNat%2) (topK s.toNat).length 3))),.nils]) 6)]) 2 (fun _=>True) ?_ ?_
     ·refine srR z3w fun _ K28=>?_
      refine z29 ?_;refine s_n K28 ?_;refine z0g ?_;refine z5r 1 4 74 (.cells []) rfl rfl rfl low_nil' ?_;refine z10 (α:=Nat×Nat) (fun g=>[(1,.c (.dp (.cells (rawL s ws vs nd)) 0)),(2,.c (.ptr 0 0)),(3,.c (.int .i64 ((s.toNat:Nat):Int))),(4,.c (.ptr 1 0)),(7,.c (.int .i64 (g.1:Nat)))]) (fun g=>[(0,.own 52 (.cells [.nils,.nils,.nils,.nils,.nils,.nils]) 6),(1,.own 52 (.cells [.ds 2 (.u8s [97,98]),.ds (1+s.toNat%2) (.ints .i64 (mostK s.toNat (1+s.toNat%2))),.ds (topK s.toNat).length (.ints .i64 (topK s.toNat)),.ds ((litsK ws (1+s.toNat%2) (topK s.toNat).length 4)).length (.cells (z0n litL (litsK ws (1+s.toNat%2) (topK s.toNat).length 4))),.slice 2 0 g.1 g.2,.nils]) 6),(2,.own 74 (.cells (z0n atmL (z19 vs (1+s.toNat%2) (topK s.toNat).length g.1))) (g.2*18))]) 3 (fun g=>g.1≤vs.length∧g.1≤3) (fun g=>vs.length - g.1) ?_ ?_
      ·refine dnS [] id (0,0) ⟨Nat.zero_le _,Nat.zero_le _⟩ [0,1,2] uCo_0 uCo_0 uCo_0 uCo_0
      ·intro g hg
       refine seq_k fun _ K29=>?_;refine srR z3w fun _ K31=>?_
       iterate 2 refine z29 ?_
       refine z3h ?_;refine exA (.c (.ds vs.length (.cells (lists vs)))) (as_eq rfl) ?_
       iterate 2 refine z29 ?_
       refine z3h ?_;refine exB (fun hb5=>?_) (fun hb5=>?_)
       ·try simp only[dQ,reduceIte]at hb5
        iterate 2 refine zgn ?_
        refine z29 ?_;refine s_n K31 ?_;refine z08 (b:=_) rfl (fun h_t76=>?_) (fun h_t76=>?_)
        ·try simp only[dQ,reduceIte]at h_t76
         refine z0l ?_;apply K29;refine seq_k fun _ K32=>?_;refine z0g ?_
         have hkl:g.1< vs.length:=by omega
         obtain⟨x,hx⟩:=hasAt hkl
         have hxl:=hvl x (List.mem_of_getElem? hx)
         have hfl:(z19 vs (1+s.toNat%2) (topK s.toNat).length g.1).length=g.1:=z78 (by omega)
         have hrl:=z0u atmR (l:=z19 vs (1+s.toNat%2) (topK s.toNat).length g.1) (fun _ _=>trivial)
         have hsucc:=zl3 (n:=(1+s.toNat%2)) (k:=(topK s.toNat).length) hx
         refine z5z z3w [(0,true),(1,true),(2,true),(3,true),(4,true),(5,true),(6,true),(7,true),(8,true),(9,true),(10,true),(11,true),(12,true),(13,false),(14,false),(15,false),(16,true),(17,false)] rfl kQf kQf fun _ K33=>?_
         iterate 3 refine z6j ?_
         refine z4d ?_;refine exA (.c (.ds vs.length (.cells (lists vs)))) (as_eq rfl) ?_
         iterate 2 refine z6j ?_
         refine z4d ?_;refine exA (.c (.ds x.length (.u8s x))) (as_c (zsz hx (by omega))) ?_;refine z6j ?_;refine z4d ?_;refine exA (.c (.ds (1+s.toNat%2) (.ints .i64 (mostK s.toNat (1+s.toNat%2))))) (as_eq rfl) ?_;refine z4d ?_;refine exA (.c (.int .i64 (((1+s.toNat%2):Nat):Int))) (as_eq rfl) ?_;refine z6j ?_;refine z4d ?_;refine exA (.c (.ds (topK s.toNat).length (.ints .i64 (topK s.toNat)))) (as_eq rfl) ?_;refine z4d ?_;refine exA (.c (.int .i64 (((topK s.toNat).length:Nat):Int))) (as_eq rfl) ?_;refine zbf ?_;refine⟨x,(1+s.toNat%2),(topK s.toNat).length,rfl,⟨hxl,by omega,by rw[zce];omega⟩,?_⟩;refine DCo_0 ?_
         first|refine exI ?_|(intro cap13 hcap13;refine exI ?_)
         refine ztj ?_;refine zbf ?_;intro cap15 hcap15;refine exI ?_;refine z6j ?_;refine zl2 ?_;refine d_n K33 ?_;refine z07 ?_;apply K32;refine z04 z3w fun _ K34=>?_
         iterate 3 refine z29 ?_
         refine s_n K34 ?_;refine dnS [] (fun i=>if i=2 then 4 else i) (g.1+1,cap15) ⟨⟨(by show g.1+1≤_;omega),(by show g.1+1≤_;omega)⟩,(by show _ - (g.1+1)< _;omega)⟩ [0,1,4] ?_ ?_ ?_ ?_
         ·exact uCo_0
         ·exact uCo_0
         ·exact uCo_0
         ·exact uCo_0
        ·try simp only[dQ,reduceIte]at h_t76
         refine z0v ?_;refine z02 ?_;refine z02 ?_;refine z0s ?_
         have hfin:z19 vs (1+s.toNat%2) (topK s.toNat).length g.1=(z19 vs (1+s.toNat%2) (topK s.toNat).length 3):=zf5 (by omega) (by omega) (by omega)
         have hfl:(z19 vs (1+s.toNat%2) (topK s.toNat).length g.1).length=g.1:=z78 (by omega)
         have hrl:=z0u atmR (l:=z19 vs (1+s.toNat%2) (topK s.toNat).length g.1) (fun _ _=>trivial)
         refine dnS [2] id () trivial [0,1] uCo_0 uCo_0 uCo_0 uCo_0
       ·try simp only[dQ,reduceIte]at hb5
        iterate 2 refine sN ?_
        refine z29 ?_;refine s_n K31 ?_;refine z08 (b:=_) rfl (fun h_t76=>?_) (fun _=>?_)
        ·exfalso;simp at h_t76
        refine z0v ?_;refine z02 ?_;refine z02 ?_;refine z0s ?_
        have hfin:z19 vs (1+s.toNat%2) (topK s.toNat).length g.1=(z19 vs (1+s.toNat%2) (topK s.toNat).length 3):=zf5 (by omega) (by omega) (by omega)
        have hfl:(z19 vs (1+s.toNat%2) (topK s.toNat).length g.1).length=g.1:=z78 (by omega)
        have hrl:=z0u atmR (l:=z19 vs (1+s.toNat%2) (topK s.toNat).length g.1) (fun _ _=>trivial)
        refine dnS [2] id () trivial [0,1] uCo_0 uCo_0 uCo_0 uCo_0
     ·intro _ _
      have hal:((z19 vs (1+s.toNat%2) (topK s.toNat).length 3)).length≤3:=by unfold z19;rw[List.length_map,List.length_take];omega
      refine z27 (α:=List (List FNd)) (fun fs=>[(1,.c (.dp (.cells (rawL s ws vs nd)) 0)),(2,.c (.ptr 0 0)),(3,.c (.int .i64 ((s.toNat:Nat):Int))),(4,.c (.ptr 1 0))]) (fun fs=>[(0,.own 52 (.cells [.nils,.nils,.nils,.nils,.nils,.nils]) 6),(1,.own 52 (.cells [.ds 2 (.u8s [97,98]),.ds (1+s.toNat%2) (.ints .i64 (mostK s.toNat (1+s.toNat%2))),.ds (topK s.toNat).length (.ints .i64 (topK s.toNat)),.ds ((litsK ws (1+s.toNat%2) (topK s.toNat).length 4)).length (.cells (z0n litL (litsK ws (1+s.toNat%2) (topK s.toNat).length 4))),.ds ((z19 vs (1+s.toNat%2) (topK s.toNat).length 3)).length (.cells (z0n atmL (z19 vs (1+s.toNat%2) (topK s.toNat).length 3))),.ds (fs).length (.cells (recss fndL fs))]) 6)]) 2 (fun fs=>fs=z4j (z19 vs (1+s.toNat%2) (topK s.toNat).length 3) nd) ?_ ?_
      ·refine srR z3w fun _ K36=>?_
       refine z29 ?_;refine z3h ?_;refine exA (.c (.ds ((z19 vs (1+s.toNat%2) (topK s.toNat).length 3)).length (.cells (z0n atmL (z19 vs (1+s.toNat%2) (topK s.toNat).length 3))))) (as_eq rfl) ?_
       iterate 2 refine z29 ?_
       refine z3h ?_;refine exB (fun hb4=>?_) (fun hb4=>?_)
       ·try simp only[dQ,reduceIte]at hb4
        refine zgn ?_;refine ztk ?_;refine exA (.c (.ds nd.length (.u8s nd))) (as_eq rfl) ?_
        iterate 2 refine zgn ?_
        refine z29 ?_;refine s_n K36 ?_;refine z08 (b:=_) rfl (fun h_t105=>?_) (fun h_t105=>?_)
        ·try simp only[dQ,reduceIte]at h_t105
         refine z5z z3w [(0,true),(1,true),(2,true),(3,true),(4,true),(5,true),(6,true),(7,false),(8,false),(9,false),(10,true),(11,false)] rfl kQf kQf fun _ K37=>?_
         iterate 3 refine z6j ?_
         refine z4d ?_;refine exA (.c (.ds nd.length (.u8s nd))) (as_eq rfl) ?_;refine z6j ?_;refine z4d ?_;refine exA (.c (.ds ((z19 vs (1+s.toNat%2) (topK s.toNat).length 3)).length (.cells (z0n atmL (z19 vs (1+s.toNat%2) (topK s.toNat).length 3))))) (as_eq rfl) ?_;refine z6j ?_;refine zbf ?_;refine⟨nd,((z19 vs (1+s.toNat%2) (topK s.toNat).length 3)).length,rfl,⟨hn,by omega,by omega⟩,?_⟩;refine DCo_0 ?_
         first|refine exI ?_|(intro cap7 hcap7;refine exI ?_)
         refine ztj ?_;refine zbf ?_;intro cap9 hcap9;refine exI ?_;refine z6j ?_;refine zl2 ?_;refine d_n K37 ?_
         have hfk:[madeF nd ((z19 vs (1+s.toNat%2) (topK s.toNat).length 3)).length]=z4j (z19 vs (1+s.toNat%2) (topK s.toNat).length 3) nd:=by unfold z4j;rw[if_pos ⟨by omega,by omega⟩]
         refine dnS [3] id ([madeF nd ((z19 vs (1+s.toNat%2) (topK s.toNat).length 3)).length]) hfk [0,1] uCo_0 uCo_0 uCo_0 uCo_0
        ·try simp only[dQ,reduceIte]at h_t105
         refine z0l ?_
         have hfk:[]=z4j (z19 vs (1+s.toNat%2) (topK s.toNat).length 3) nd:=by unfold z4j;rw[if_neg (by omega)]
         refine dnS [] id ([]) hfk [0,1] uCo_0 uCo_0 uCo_0 uCo_0
       ·try simp only[dQ,reduceIte]at hb4
        iterate 4 refine sN ?_
        refine z29 ?_;refine s_n K36 ?_;refine z08 (b:=_) rfl (fun h_t105=>?_) (fun _=>?_)
        ·exfalso;simp at h_t105
        refine z0l ?_
        have hfk:[]=z4j (z19 vs (1+s.toNat%2) (topK s.toNat).length 3) nd:=by unfold z4j;rw[if_neg (by omega)]
        refine dnS [] id ([]) hfk [0,1] uCo_0 uCo_0 uCo_0 uCo_0
      ·intro fs hfs
       refine srR z3w fun _ K39=>?_;refine z3h ?_;refine exA (prbV (madeQ s.toNat ws vs nd)) (as_eq (by rw[hfs];exact congrArg (fun c=>SV.agg (.cells c)) (zl5 s.toNat ws vs nd))) ?_;refine zgm ?_;refine s_n K39 ?_;refine z0j (z13 z3w (fun _ _ h=>h) (z00.low (z0c _)) [] [.cell 2 52] rfl ?_)
       repeat' (first|exact z00.to (z0b _)|exact z00.low (z0b _)|exact z00.to (z0e _)|exact z00.low (z0e _)|exact z00.to (z0c _)|exact z00.low (z0c _)|exact z00.to (z06 _)|exact z00.low (z06 _)|exact z00.to (z0m _)|exact z00.low (z0m _)|exact z00.to (z0d _)|exact z00.low (z0d _)|exact z00.to (z0f _ _)|exact z00.low (z0f _ _)|exact z00.to (z01 itmR _)|exact z00.low (z01 itmR _)|exact z00.to (z01 movR _)|exact z00.low (z01 movR _)|exact z00.to (z01 pceR _)|exact z00.low (z01 pceR _)|exact z00.to (z01 fndR _)|exact z00.low (z01 fndR _)|exact z00.to (z01 atmR _)|exact z00.low (z01 atmR _)|exact z00.to (z01 litR _)|exact z00.low (z01 litR _)|exact z00.to (z01 mdlR _)|exact z00.low (z01 mdlR _)|exact z0t (z0k z0p z05)|exact z0o (z0k z0p z05)|exact z0t z05|exact z0o z05|exact trivial|refine aI ?_ ?_|exact cC0|refine low_cons' ?_ ?_|exact cC1|fail)
       all_goals first|omega|(simp[-List.reduceReplicate];done)|(simp[-List.reduceReplicate]<;>omega)|skip


end Go.Proofs.YtegdcifghaldoaaDoor

namespace Go.Proofs.YtegdcifghaldoaaDoor
set_option linter.all false
open Go.Ab Go.RowKit

open Go.Aut
theorem mach_wf(l:List UInt8):(machL l).wf:=by
  have hp:=z8h l
  refine⟨rfl,(by decide:3≤9223372036854775807),?_,?_,fun r hr=>?_⟩
  · show(z8i l (machN l) (machN l)).length≤_
    rw[zac];omega
  · show(z74 l (machN l)).length≤_
    rw[zad];omega
  · obtain⟨i,_,rfl⟩:=List.mem_map.1 hr
    rw[z95];decide
theorem machT_wf(k:Nat):(machT k).wf∧(machT k).nc=3∧(machT k).moves.length≤2∧(machT k).fin.length≤2∧(machT k).ends.length≤2:=by
  have h:k%8< 8:=Nat.mod_lt _ (by decide)
  unfold machT
  generalize k%8=j at h
  match j,h with
  |0,_=>exact⟨⟨rfl,by decide,by decide,by decide,by decide,by decide,by decide⟩,by decide⟩
  |1,_=>exact⟨⟨rfl,by decide,by decide,by decide,by decide,by decide,by decide⟩,by decide⟩
  |2,_=>exact⟨⟨rfl,by decide,by decide,by decide,by decide,by decide,by decide⟩,by decide⟩
  |3,_=>exact⟨⟨rfl,by decide,by decide,by decide,by decide,by decide,by decide⟩,by decide⟩
  |4,_=>exact⟨⟨rfl,by decide,by decide,by decide,by decide,by decide,by decide⟩,by decide⟩
  |5,_=>exact⟨⟨rfl,by decide,by decide,by decide,by decide,by decide,by decide⟩,by decide⟩
  |6,_=>exact⟨⟨rfl,by decide,by decide,by decide,by decide,by decide,by decide⟩,by decide⟩
  |7,_=>exact⟨⟨rfl,by decide,by decide,by decide,by decide,by decide,by decide⟩,by decide⟩
theorem zah(k:Nat):(ruleK k).inr:=by
  unfold Rul.inr ruleK
  refine⟨?_,?_,?_,?_⟩<;>exact z34.mpr ⟨by simp only[];omega,by simp only[];omega⟩
theorem zgo(l:List UInt8)(n m:Nat):(madeT l n m).length≤m:=by rw[madeT,List.length_map,List.length_take];omega
theorem zai(l:List UInt8){n k:Nat}(hn:n≤12)(hk:k≤12):(madeA l n k).wfS:=by
  have hT:=zgo (partL l 1 (3+(l.getD 0 0).toNat / 5%2)) n 3
  have hU:=zgo (partL l 4 7) n 3
  have hV:=zgo (partL l 5 7) n 3
  have hm:=mach_wf (partL l 4 l.length)
  have hp:=z8h (partL l 4 l.length)
  have h1:(machL (partL l 4 l.length)).next.length≤8:=by show(z8i _ _ _).length≤8;rw[zac];omega
  have h2:(machL (partL l 4 l.length)).acc.length≤8:=by show(z74 _ _).length≤8;rw[zad];omega
  have hM:=machT_wf (l.getD 4 0).toNat
  have hr:(rowA l (n+k)).length≤24:=by rw[zag];omega
  rcases z7t l k with h|h|h|h|⟨h,_⟩
  · rw[←mA1 h]
    refine⟨⟨?_,?_,?_,?_,?_⟩,⟨?_,?_,?_⟩,⟨?_,?_,?_,?_⟩,?_⟩<;>first|exact zD_wf|exact zT_wf|exact zf4|exact hm|exact hM.1|exact zah _|exact Nat.zero_le _|exact Nat.le_trans hT (by decide)|exact Nat.le_trans hU (by decide)|exact Nat.le_trans hV (by decide)|exact Nat.le_trans h1 (by decide)|exact Nat.le_trans h2 (by decide)|exact Nat.le_trans hr (by decide)|exact Nat.le_trans (Nat.le_of_eq hM.2.1) (by decide)|exact Nat.le_trans hM.2.2.1 (by decide)|exact Nat.le_trans hM.2.2.2.1 (by decide)|exact Nat.le_trans hM.2.2.2.2 (by decide)|exact(by decide:3≤1152921504606846976)
  · rw[←mA2 h]
    refine⟨⟨?_,?_,?_,?_,?_⟩,⟨?_,?_,?_⟩,⟨?_,?_,?_,?_⟩,?_⟩<;>first|exact zD_wf|exact zT_wf|exact zf4|exact hm|exact hM.1|exact zah _|exact Nat.zero_le _|exact Nat.le_trans hT (by decide)|exact Nat.le_trans hU (by decide)|exact Nat.le_trans hV (by decide)|exact Nat.le_trans h1 (by decide)|exact Nat.le_trans h2 (by decide)|exact Nat.le_trans hr (by decide)|exact Nat.le_trans (Nat.le_of_eq hM.2.1) (by decide)|exact Nat.le_trans hM.2.2.1 (by decide)|exact Nat.le_trans hM.2.2.2.1 (by decide)|exact Nat.le_trans hM.2.2.2.2 (by decide)|exact(by decide:3≤1152921504606846976)
  · rw[←mA3 h]
    refine⟨⟨?_,?_,?_,?_,?_⟩,⟨?_,?_,?_⟩,⟨?_,?_,?_,?_⟩,?_⟩<;>first|exact zD_wf|exact zT_wf|exact zf4|exact hm|exact hM.1|exact zah _|exact Nat.zero_le _|exact Nat.le_trans hT (by decide)|exact Nat.le_trans hU (by decide)|exact Nat.le_trans hV (by decide)|exact Nat.le_trans h1 (by decide)|exact Nat.le_trans h2 (by decide)|exact Nat.le_trans hr (by decide)|exact Nat.le_trans (Nat.le_of_eq hM.2.1) (by decide)|exact Nat.le_trans hM.2.2.1 (by decide)|exact Nat.le_trans hM.2.2.2.1 (by decide)|exact Nat.le_trans hM.2.2.2.2 (by decide)|exact(by decide:3≤1152921504606846976)
  · rw[←mA4 h]
    refine⟨⟨?_,?_,?_,?_,?_⟩,⟨?_,?_,?_⟩,⟨?_,?_,?_,?_⟩,?_⟩<;>first|exact zD_wf|exact zT_wf|exact zf4|exact hm|exact hM.1|exact zah _|exact Nat.zero_le _|exact Nat.le_trans hT (by decide)|exact Nat.le_trans hU (by decide)|exact Nat.le_trans hV (by decide)|exact Nat.le_trans h1 (by decide)|exact Nat.le_trans h2 (by decide)|exact Nat.le_trans hr (by decide)|exact Nat.le_trans (Nat.le_of_eq hM.2.1) (by decide)|exact Nat.le_trans hM.2.2.1 (by decide)|exact Nat.le_trans hM.2.2.2.1 (by decide)|exact Nat.le_trans hM.2.2.2.2 (by decide)|exact(by decide:3≤1152921504606846976)
  · rw[←mA5 h]
    refine⟨⟨?_,?_,?_,?_,?_⟩,⟨?_,?_,?_⟩,⟨?_,?_,?_,?_⟩,?_⟩<;>first|exact zD_wf|exact zT_wf|exact zf4|exact hm|exact hM.1|exact zah _|exact Nat.zero_le _|exact Nat.le_trans hT (by decide)|exact Nat.le_trans hU (by decide)|exact Nat.le_trans hV (by decide)|exact Nat.le_trans h1 (by decide)|exact Nat.le_trans h2 (by decide)|exact Nat.le_trans hr (by decide)|exact Nat.le_trans (Nat.le_of_eq hM.2.1) (by decide)|exact Nat.le_trans hM.2.2.1 (by decide)|exact Nat.le_trans hM.2.2.2.1 (by decide)|exact Nat.le_trans hM.2.2.2.2 (by decide)|exact(by decide:3≤1152921504606846976)
theorem ztm(s:Nat)(ls ats:List (List UInt8))(nd:List UInt8):(madeQ s ls ats nd).wfS:=by
  have ht:=zce s
  have hk:(topK s).length≤12:=by omega
  have hn:1+s%2≤12:=by omega
  have hl:(litsK ls (1+s%2) (topK s).length 4).length≤4:=by rw[litsK,List.length_map,List.length_take];omega
  have ha:(z19 ats (1+s%2) (topK s).length 3).length≤3:=by rw[z19,List.length_map,List.length_take];omega
  have L:∀ l∈(madeQ s ls ats nd).lits,l.a.wfS:=fun l hx=>by
    obtain⟨y,_,rfl⟩:=List.mem_map.1 hx;exact zai y hn hk
  have A:∀ a∈(madeQ s ls ats nd).atoms,a.wfS:=fun a hx=>by
    obtain⟨y,_,rfl⟩:=List.mem_map.1 hx;exact zai y hn hk
  have F:∀ f∈(madeQ s ls ats nd).forms,f.length≤8:=fun f hx=>by
    have hx':f∈z4j (z19 ats (1+s%2) (topK s).length 3) nd:=hx
    unfold z4j at hx'
    split at hx'
    · obtain rfl:=List.mem_singleton.1 hx'
      exact(zit _ _).2
    · cases hx'
  have F0:(madeQ s ls ats nd).forms.length≤1:=by
    show(z4j _ nd).length≤1
    unfold z4j;split<;>simp
  refine⟨⟨(by decide:2≤9223372036854775807),by rw[zbe];omega,by show(topK s).length≤_;omega,by show(litsK _ _ _ _).length≤_;omega,by show(z19 _ _ _ _).length≤_;omega,by omega,fun l h=>(L l h).1,fun a h=>(A a h).1,fun f h=>by have:=F f h;omega⟩,L,A,fun f h=>by have:=F f h;omega⟩
theorem zpa{q:Prb}{lt:Lit'}(h:z1n q=0)(hl:q.lits.length< 40)(ha:atmOK lt.a q.most.length q.top.length=true):z1n (withQ q lt)=0:=by
  obtain⟨h1,h2⟩:=znc h
  have b:bigQ (withQ q lt)=false:=by
    unfold bigQ at h1
    show(decide (16< q.alph.length)||decide (12< q.most.length+q.top.length)||decide (40< (q.lits++[lt]).length)||decide (40< q.atoms.length)||decide (40< z56 q.forms 0))=false
    rw[List.length_append,List.length_singleton]
    simp at h1 ⊢
    exact⟨⟨⟨⟨h1.1.1.1.1,h1.1.1.1.2⟩,by omega⟩,h1.1.2⟩,h1.2⟩
  have o:okQ (withQ q lt)=true:=by
    simp only[okQ,withQ,List.all_append,List.all_cons,List.all_nil,Bool.and_true,ha]at h2 ⊢
    exact h2
  rw[z1n,b,o];rfl
theorem with_wfS{q:Prb}{lt:Lit'}(h:q.wfS)(hl:q.lits.length< 40)(ha:lt.a.wfS):(withQ q lt).wfS:=by
  obtain⟨⟨h1,h2,h3,h4,h5,h6,h7,h8,h9⟩,k1,k2,k3⟩:=h
  have L:∀ l∈(withQ q lt).lits,l.a.wfS:=fun l hx=>by
    rcases List.mem_append.1 hx with hx|hx
    · exact k1 l hx
    · obtain rfl:=List.mem_singleton.1 hx;exact ha
  exact⟨⟨h1,h2,h3,by show(q.lits++[lt]).length≤_;rw[List.length_append,List.length_singleton];omega,h5,h6,fun l hx=>(L l hx).1,h8,h9⟩,L,k2,k3⟩
theorem ziy{q:Prb}{m:Mdl}{lt:Lit'}(hok:OkQ q)(hc:candN q m=true)(ha:atmOK lt.a q.most.length q.top.length=true):fitsN lt m=true:=by
  have h:=zge hok hc
  rw[fitsN,h.s,h.n,ha,Bool.true_and,List.all_eq_true];intro x hx
  have:=h.v x hx
  rw[inI,decide_eq_true this.1,decide_eq_true this.2];rfl
theorem zl6{q:Prb}{m:Mdl}{lt:Lit'}(h:z1n q=0)(hl:q.lits.length< 40)(hc:candN q m=true)(ha:atmOK lt.a q.most.length q.top.length=true):z1r (withQ q lt) m=(z1r q m&&z2u lt m):=by
  have hv:=zpa h hl ha
  have hf:=ziy (zne h) hc ha
  have hc2:candN (withQ q lt) m=true:=hc
  rw[z1r,z1r,z2u,hv,h,hc,hc2,hf]
  simp only[decide_true,Bool.true_and]
  show((q.lits++[lt]).all _&&q.forms.all _)=_
  rw[List.all_append]
  simp only[List.all_cons,List.all_nil,Bool.and_true]
  cases q.lits.all (fun l=>evN l.a m !=l.neg)<;>cases (evN lt.a m !=lt.neg)<;>first|rfl|(simp;done)|(simp;rfl)
theorem ztn{q:Prb}{m:Mdl}(h:OkQ q)(hc:CandM q m):m.sm:=by
  have:=hc.small h
  exact⟨this.s,this.n,this.w,this.t⟩

end Go.Proofs.YtegdcifghaldoaaDoor
