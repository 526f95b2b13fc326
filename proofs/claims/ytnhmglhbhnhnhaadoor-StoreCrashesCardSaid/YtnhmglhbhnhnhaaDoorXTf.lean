/- The law: crashes. -/
import Derived.Test.YtnhmglhbhnhnhaaDoorPe
namespace Go.Proofs.YtnhmglhbhnhnhaaDoor
set_option linter.unusedVariables false
open Go.Ab Go.RowKit

theorem qTf0 {a : Prop} (h : a := by first | exact vcA | (simp <;> omega) | exact (log_len hx).symm | exact log_len hx | (rw [log_len hx]; decide) | (show _ ≤ (logC x).len; rw [log_len hx]; decide) | exact (log_plain _).solid | exact hsec.symm | exact hsec | exact (pieceC_len hw1).symm | exact pieceC_len hw1 | (rw [pieceC_len hw1]; decide) | exact (pieceC_len hqw).symm | exact pieceC_len hqw | (rw [pieceC_len hqw]; decide) | exact pieceC_solid _ | (show _ < (rowsOf rawC x.l).length; rw [rows_len rawR (allT x.l)]; omega) | (show _ < (pcl ps).length; rw [pcl_len hpw]; omega) | (show _ ≤ (pcl ps).length; rw [pcl_len hpw]; omega) | exact vcB) : a := h
theorem uTf0 {a : Prop} (h : a := by
    repeat' (first | exact trivial | refine aI ?_ ?_ | exact cC0 | refine low_cons' ?_ ?_ | exact cC1 | fail)
    all_goals first | omega | exact pcl_isD _ | exact pieceC_isD _ | exact (log_plain _).isD | exact raw_isD _ | exact crc_isD _ _ _ | (show (0 : Nat) < (logC x).len; rw [log_len hx]; decide) | (show (0 : Nat) < (pieceC _).len; rw [pieceC_len hw1]; decide) | (show (0 : Nat) < (pieceC _).len; rw [pieceC_len hqw]; decide) | (show (0 : Nat) < List.length _; first | (rw [hsec]; decide) | (rw [hol]; decide)) | (show (0 : Nat) < List.length _; rw [hol]; decide) | (simp; done) | skip) : a := h
open Go.Sto
attribute [local irreducible] logL logPs logD durN recs madeL djN
def lawCrashesS : QSpec := fun vs K => ∃ (x : Log) (kp a : Int) (b : UInt8), vs = [.agg (logC x), crV kp a b] ∧ (x.ok ∧ -9223372036854775808 ≤ kp ∧ kp ≤ 9223372036854775807 ∧ -9223372036854775808 ≤ a ∧ a ≤ 9223372036854775807) ∧ K (.c (.bool true))
set_option maxHeartbeats 4000000 in
theorem lawCrashes_ok : FlatOK Tryd.prog gl 6 lawCrashesS := by
 refine flat_of (Γ := glw) (N := 126) Tryd.func6 rfl rfl fun vs K h => ?_
 obtain ⟨x, kp, a, b, rfl, ⟨hx, hk1, hk2, ha1, ha2⟩, h⟩ := h
 refine ⟨_, h, rfl, by simp, fun w I => ?_⟩
 obtain ⟨ps, hps⟩ : ∃ ps, ps = logPs x := ⟨_, rfl⟩
 obtain ⟨d, hd⟩ : ∃ d, d = logD x := ⟨_, rfl⟩
 have hfv : filledV x = .tup [psP ps, .agg (.cells [.ds d.1.length (.u8s d.1), .int .i64 d.2]), .c (.bool true)] := by rw [filledV, ← hps, ← hd]
 have hdok : dok d := hd ▸ logD_ok x
 have hd0 := (hd ▸ logD_dur x : 0 ≤ d.2 ∧ d.2 ≤ (d.1.length : Nat))
 have hdl : d.1.length ≤ 756 := hd ▸ logD_len x
 have hsec := hx.sec
 have hpok : ∀ s ∈ ps, s.ok := hps ▸ logPs_ok x
 have hpl : ps.length ≤ 6 := hps ▸ logPs_len x
 have hpw : allWf ps := wf_of hpok
 have hxl := hx.l
 obtain ⟨j, hj⟩ : ∃ j, j = djN x := ⟨_, rfl⟩
 have hjl : j ≤ ps.length := by rw [hj, hps]; exact djN_le x
 have hje : x.synced.toNat % 7 ≤ ps.length → j = x.synced.toNat % 7 := fun h => by rw [hj]; exact djN_eq (by rw [← hps]; exact h)
 obtain ⟨c, hc⟩ : ∃ c, c = crashL d kp a b := ⟨_, rfl⟩
 have hcl : c.1.length ≤ 756 := by have := crashL_len d kp a b; rw [hc]; omega
 refine seq_k fun _ hK1 => ?_; refine region_k glw_ok fun _ hK2 => ?_
 refine sS fun _ hS => ?_; (repeat refine aI qTf0 ?_); apply hS; clear hS
 refine sS fun _ hS => ?_; (repeat refine aI qTf0 ?_); apply hS; clear hS
 refine sS1 ?_
 refine s_nil ?_; apply hK2; apply hK1; refine seq_k fun _ hK3 => ?_; refine region_k glw_ok fun _ hK4 => ?_
 refine sS fun _ hS => ?_; (repeat first | refine aI qTf0 ?_ | refine whole_yes qTf0 ?_ | refine whole_sub ?_); (first | apply hS | (intro cap0 hcap0; apply hS)); clear hS
 refine sS1 ?_
 refine s_nil ?_; apply hK4; apply hK3; refine seq_k fun _ hK5 => ?_; refine seq_k fun _ hK6 => ?_
 refine leW [0, 1] id [(2, .c (.dp (logC x) 0)), (3, .c (.dp (.cells [.int .i64 kp, .int .i64 a, .u8 b]) 0)), (5, .c (.bool true))] [] 0 [] ?_ ?_ ?_ ?_ ?_
 ·exact uTf0
 ·exact uTf0
 ·exact uTf0
 ·exact uTf0
 refine region_k glw_ok fun _ hK7 => ?_
 refine sS1 ?_
 refine s_nil ?_; apply hK7; apply hK6; refine WP_block ?_
 refine WP_loop (α := Nat) (fun k => [(2, .c (.dp (logC x) 0)), (3, .c (.dp (.cells [.int .i64 kp, .int .i64 a, .u8 b]) 0)), (5, .c (.bool true)), (6, .c (.int .i64 (k : Nat)))]) (fun k => []) 0 (fun k => k ≤ x.l.length ∧ ∀ r ∈ x.l.take k, r.bad = false) (fun k => x.l.length - k) ?_ ?_
 ·refine dnS [] id 0 ⟨Nat.zero_le _, fun r hr => by simp at hr⟩ [] ?_ ?_ ?_ ?_
  ·exact uTf0
  ·exact uTf0
  ·exact uTf0
  ·exact uTf0
 ·intro k hk
  refine seq_k fun _ hK8 => ?_; refine seq_k fun _ hK9 => ?_; refine region_k glw_ok fun _ hK10 => ?_
  refine sS1 ?_
  refine sS fun _ hS => ?_; (repeat refine aI qTf0 ?_); apply hS; clear hS
  refine s_stepA rfl (by decide) rfl fun _ hS => ?_
  repeat refine aI qTf0 ?_
  first | refine hS _ (rawsV x.l) _ _ (as_eq (congrArg SV.c (log_g0 x))) ?_ | (refine whole_yes qTf0 ?_; refine hS _ (rawsV x.l) _ _ (as_eq (congrArg SV.c (log_g0 x))) ?_) | (refine whole_sub ?_; refine hS _ (rawsV x.l) _ _ (as_eq (congrArg SV.c (log_g0 x))) ?_)
  clear hS
  refine sS fun _ hS => ?_; (repeat refine aI qTf0 ?_); apply hS; clear hS
  refine sS fun _ hS => ?_; (repeat refine aI qTf0 ?_); apply hS; clear hS; refine s_nil ?_; apply hK10; apply hK9
  refine WP_cond (b := _) rfl (fun h_t22 => ?_) (fun h_t22 => ?_)
  ·try simp only [dQ] at h_t22
   refine WP_skip ?_; apply hK8; refine seq_k fun _ hK11 => ?_; refine WP_block ?_; refine seq_k fun _ hK12 => ?_
   obtain ⟨r, hks⟩ : ∃ r, x.l[k]? = some r := ⟨_, List.getElem?_eq_getElem (by omega)⟩
   refine region_k glw_ok fun _ hK13 => ?_
   refine sS fun _ hS => ?_; (repeat refine aI qTf0 ?_); apply hS; clear hS
   refine s_stepA rfl (by decide) rfl fun _ hS => ?_
   repeat refine aI qTf0 ?_
   first | refine hS _ (rawsV x.l) _ _ (as_eq (congrArg SV.c (log_g0 x))) ?_ | (refine whole_yes qTf0 ?_; refine hS _ (rawsV x.l) _ _ (as_eq (congrArg SV.c (log_g0 x))) ?_) | (refine whole_sub ?_; refine hS _ (rawsV x.l) _ _ (as_eq (congrArg SV.c (log_g0 x))) ?_)
   clear hS
   refine sS1 ?_
   refine sS fun _ hS => ?_; (repeat refine aI qTf0 ?_); apply hS; clear hS
   refine sS fun _ hS => ?_; (repeat refine aI qTf0 ?_); apply hS; clear hS
   refine s_stepA rfl (by decide) rfl fun _ hS => ?_
   repeat refine aI qTf0 ?_
   first | refine hS _ (.c (.bool r.bad)) _ _ (rows_asC rawR (allT x.l) (i := k) (j := 2) rfl (by decide) hks rfl) ?_ | (refine whole_yes qTf0 ?_; refine hS _ (.c (.bool r.bad)) _ _ (rows_asC rawR (allT x.l) (i := k) (j := 2) rfl (by decide) hks rfl) ?_) | (refine whole_sub ?_; refine hS _ (.c (.bool r.bad)) _ _ (rows_asC rawR (allT x.l) (i := k) (j := 2) rfl (by decide) hks rfl) ?_)
   clear hS; refine s_nil ?_; apply hK13; apply hK12
   refine WP_cond (b := _) rfl (fun h_t30 => ?_) (fun h_t30 => ?_)
   ·try simp only [dQ, if_true, if_false, reduceIte] at h_t30
    refine seq_k fun _ hK14 => ?_; refine region_k glw_ok fun _ hK15 => ?_
    iterate 2 refine sS1 ?_
    refine s_nil ?_; apply hK15; apply hK14
    refine WP_ret (Done_flat glw_ok (fun _ _ h => h) (by first | rfl | assumption) [.tmp 4] rfl ?_)
    repeat refine aI (by first | omega | exact trivial | rfl | (simp <;> omega)) ?_
    try refine ite_yes (by first | omega | exact trivial | rfl | (simp <;> omega)) ?_
    first | rfl | (show SV.c (.bool (decide ((n2 : Nat) : Int) ≤ _)) = _; skip)
   ·try simp only [dQ, if_true, if_false, reduceIte] at h_t30
    refine WP_skip ?_; refine done_block ?_; apply hK11; refine region_k glw_ok fun _ hK16 => ?_
    refine sS1 ?_
    refine sS fun _ hS => ?_; (repeat refine aI qTf0 ?_); apply hS; clear hS
    refine sS1 ?_
    refine s_nil ?_; apply hK16
    refine dnS [] id (k + 1) ⟨⟨by omega, fun r hr => by
      rw [List.take_add_one, hks, Option.toList_some] at hr
      rcases List.mem_append.1 hr with hr | hr
      ·exact hk.2 r hr
      ·rw [List.mem_singleton.1 hr]; simpa using h_t30⟩, by omega⟩ [] ?_ ?_ ?_ ?_
    ·exact uTf0
    ·exact uTf0
    ·exact uTf0
    ·exact uTf0
  ·try simp only [dQ] at h_t22
   refine WP_exit ?_; refine done_thenx ?_; refine done_thenx ?_
   refine Done_hit ?_
   apply hK5; refine seq_k fun _ hK17 => ?_
   have hall : ∀ s ∈ ps, corF x.secret s = true := by
    rw [hps]; exact cor_log fun r hr => hk.2 r (by rw [show k = x.l.length by omega, List.take_length]; exact hr)
   refine region_k glw_ok fun _ hK18 => ?_
   refine sS fun _ hS => ?_; (repeat refine aI qTf0 ?_); (first | apply hS | (refine whole_yes qTf0 ?_; apply hS) | (refine whole_sub ?_; apply hS)); clear hS
   refine sS fun _ hS => ?_; (repeat first | refine aI qTf0 ?_ | refine whole_yes qTf0 ?_ | refine whole_sub ?_); refine aI (log_plain x).noclo ?_; refine viewL_plain (log_plain x) ?_; refine ⟨x, rfl, hx, ?_⟩; rw [hfv]; simp only [List.flatMap_cons, List.flatMap_nil, ids_log, List.append_nil, Heap.delAll]; (repeat refine aI qTf0 ?_); (first | apply hS | (intro cap1 hcap1; apply hS)); clear hS
   refine sS1 ?_
   refine sS fun _ hS => ?_; (repeat refine aI qTf0 ?_); apply hS; clear hS
   refine sS fun _ hS => ?_; (repeat refine aI qTf0 ?_); apply hS; clear hS
   refine sS fun _ hS => ?_; (repeat refine aI qTf0 ?_); apply hS; clear hS
   refine sS fun _ hS => ?_; (repeat refine aI qTf0 ?_); apply hS; clear hS
   refine sS1 ?_
   refine sS0 fun _ hS => ?_; (repeat refine aI qTf0 ?_); (first | apply hS | (refine splice_full qTf0 ?_; apply hS)); clear hS
   refine sS1 ?_
   refine s_nil ?_; apply hK18; apply hK17; refine seq_k fun _ hK19 => ?_
   obtain ⟨n1, hn1⟩ : ∃ n1, loadL (corF x.secret) (d.1.take d.2.toNat, d.2) = ((ps.take j, n1), 0) := by rw [hd, hps, hj]; exact dur_load (by rw [← hps]; exact hall)
   obtain ⟨m, n2, hm1, hm2, hn2, hn3, hn4⟩ : ∃ m n2, j ≤ m ∧ m ≤ ps.length ∧ loadL (corF x.secret) c = ((ps.take m, n2), 0) ∧ n2 ≤ c.1.length ∧ c.2 = ((c.1.length : Nat) : Int) := by rw [hc, hd, hps, hj]; exact crash_load (by rw [← hps]; exact hall) kp a b
   have hcok : dok c := ⟨by omega, by omega, by omega⟩
   have htk : ∀ i, ∀ s ∈ ps.take i, s.ok := fun i s hs => hpok s (List.mem_of_mem_take hs)
   have htl : ∀ i, (ps.take i).length ≤ 6 := fun i => by rw [List.length_take]; omega
   have hjt : (ps.take j).length = j := by rw [List.length_take]; omega
   refine leW [0] id [(2, .c (.dp (logC x) 0)), (3, .c (.dp (.cells [.int .i64 kp, .int .i64 a, .u8 b]) 0)), (5, .c (.bool true)), (7, psV ps), (8, .c (.dp (.cells [.ds d.1.length (.u8s d.1), .int .i64 d.2]) 0)), (9, .c (.bool true))] [] 0 [] ?_ ?_ ?_ ?_ ?_
   ·exact uTf0
   ·exact uTf0
   ·exact uTf0
   ·exact uTf0
   refine sched_k glw_ok [(0, true), (1, true), (2, true), (3, true), (4, true), (5, true), (6, true), (7, true), (8, true), (9, true), (10, true), (11, true), (12, true), (13, true), (14, true), (15, false), (16, true), (17, true), (18, true), (19, true), (20, true), (21, true), (22, true)] rfl (by kernel_rfl) (by kernel_rfl) fun _ hK20 => ?_
   refine dR fun _ hS => ?_; (repeat refine aI qTf0 ?_); apply hS; clear hS
   refine dR fun _ hS => ?_; (repeat refine aI qTf0 ?_); (first | apply hS | (refine whole_yes qTf0 ?_; apply hS) | (refine whole_sub ?_; apply hS)); clear hS
   refine dR fun _ hS => ?_; (repeat refine aI qTf0 ?_); apply hS; clear hS
   refine dR fun _ hS => ?_; (repeat refine aI qTf0 ?_); (first | apply hS | (refine whole_yes qTf0 ?_; apply hS) | (refine whole_sub ?_; apply hS)); clear hS
   refine d_readA rfl rfl (by decide) rfl fun _ hS => ?_
   repeat refine aI qTf0 ?_
   refine hS _ (.c (.int .i64 d.2)) (as_eq (by congr 2; show (if d.2 < 0 then 0 else d.2) = d.2; split <;> omega)) ?_
   clear hS
   refine dR fun _ hS => ?_; (repeat refine aI qTf0 ?_); apply hS; clear hS
   refine dR fun _ hS => ?_; (repeat refine aI qTf0 ?_); (first | apply hS | (refine whole_yes qTf0 ?_; apply hS) | (refine whole_sub ?_; apply hS)); clear hS
   refine dR fun _ hS => ?_; (repeat refine aI qTf0 ?_); apply hS; clear hS
   refine d_readA rfl rfl (by decide) rfl fun _ hS => ?_
   repeat refine aI qTf0 ?_
   refine hS _ (.c (.int .i64 d.2)) (as_eq (by congr 2; split <;> omega)) ?_
   clear hS
   refine d_readA rfl rfl (by decide) rfl fun _ hS => ?_
   repeat refine aI qTf0 ?_
   first | refine hS _ (bytesV (d.1.take d.2.toNat)) (takeI_as (by omega) (by omega)) ?_ | (refine ite_yes qTf0 ?_; (repeat refine aI qTf0 ?_); refine hS _ (bytesV (d.1.take d.2.toNat)) (takeI_as (by omega) (by omega)) ?_)
   clear hS
   refine dR fun _ hS => ?_; (repeat refine aI qTf0 ?_); apply hS; clear hS
   refine dR fun _ hS => ?_; (repeat refine aI qTf0 ?_); (first | apply hS | (refine whole_yes qTf0 ?_; apply hS) | (refine whole_sub ?_; apply hS)); clear hS
   refine d_readA rfl rfl (by decide) rfl fun _ hS => ?_
   repeat refine aI qTf0 ?_
   refine hS _ (diskV (d.1.take d.2.toNat, d.2)) (as_eq rfl) ?_
   clear hS
   refine dR fun _ hS => ?_; (repeat refine aI qTf0 ?_); apply hS; clear hS
   refine d_readA rfl rfl (by decide) rfl fun _ hS => ?_
   repeat refine aI qTf0 ?_
   first | refine hS _ (.agg (.u8s x.secret)) (log_secA hx) ?_ | (refine whole_yes qTf0 ?_; refine hS _ (.agg (.u8s x.secret)) (log_secA hx) ?_) | (refine whole_sub ?_; refine hS _ (.agg (.u8s x.secret)) (log_secA hx) ?_)
   clear hS
   refine dG fun _ hS => ?_; (repeat first | refine aI qTf0 ?_ | refine whole_yes qTf0 ?_ | refine whole_sub ?_); refine ⟨(d.1.take d.2.toNat, d.2), x.secret, rfl, ⟨⟨by show (d.1.take d.2.toNat).length ≤ _; rw [List.length_take]; omega, hdok.2.1, hdok.2.2⟩, hsec⟩, ?_⟩; rw [loadV_eq hn1]; (repeat refine aI qTf0 ?_); (first | apply hS | (intro cap15 hcap15; apply hS)); clear hS
   refine dD1 ?_
   refine dR fun _ hS => ?_; (repeat refine aI qTf0 ?_); apply hS; clear hS
   refine dR fun _ hS => ?_; (repeat refine aI qTf0 ?_); apply hS; clear hS
   refine dR fun _ hS => ?_; (repeat refine aI qTf0 ?_); apply hS; clear hS
   iterate 3 refine dD1 ?_
   refine d_nil ?_; apply hK20; apply hK19; refine seq_k fun _ hK21 => ?_
   refine leW [] id [(2, .c (.dp (logC x) 0)), (3, .c (.dp (.cells [.int .i64 kp, .int .i64 a, .u8 b]) 0)), (5, .c (.bool true)), (7, psV ps), (8, .c (.dp (.cells [.ds d.1.length (.u8s d.1), .int .i64 d.2]) 0)), (9, .c (.bool true)), (10, psV (ps.take j)), (12, .c (.int .i64 0))] [] 0 [] ?_ ?_ ?_ ?_ ?_
   ·exact uTf0
   ·exact uTf0
   ·exact uTf0
   ·exact uTf0
   refine region_k glw_ok fun _ hK22 => ?_
   refine sS fun _ hS => ?_; (repeat refine aI qTf0 ?_); (first | apply hS | (refine whole_yes qTf0 ?_; apply hS) | (refine whole_sub ?_; apply hS)); clear hS
   refine sS fun _ hS => ?_; (repeat refine aI qTf0 ?_); (first | apply hS | (refine whole_yes qTf0 ?_; apply hS) | (refine whole_sub ?_; apply hS)); clear hS
   refine sS fun _ hS => ?_; (repeat first | refine aI qTf0 ?_ | refine whole_yes qTf0 ?_ | refine whole_sub ?_); refine ⟨d, kp, a, b, rfl, ⟨hdok, hk1, hk2, ha1, ha2⟩, ?_⟩; rw [← hc]; (repeat refine aI qTf0 ?_); (first | apply hS | (intro cap2 hcap2; apply hS)); clear hS
   refine sS fun _ hS => ?_; (repeat refine aI qTf0 ?_); apply hS; clear hS
   refine sS0 fun _ hS => ?_; (repeat refine aI qTf0 ?_); (first | apply hS | (refine splice_full qTf0 ?_; apply hS)); clear hS; refine s_nil ?_; apply hK22; apply hK21; refine seq_k fun _ hK23 => ?_
   refine leW [0] id [(2, .c (.dp (logC x) 0)), (3, .c (.dp (.cells [.int .i64 kp, .int .i64 a, .u8 b]) 0)), (5, .c (.bool true)), (7, psV ps), (8, .c (.dp (.cells [.ds d.1.length (.u8s d.1), .int .i64 d.2]) 0)), (9, .c (.bool true)), (10, psV (ps.take j)), (12, .c (.int .i64 0)), (13, .c (.dp (.cells [.ds c.1.length (.u8s c.1), .int .i64 c.2]) 0))] [] 0 [] ?_ ?_ ?_ ?_ ?_
   ·exact uTf0
   ·exact uTf0
   ·exact uTf0
   ·exact uTf0
   refine region_k glw_ok fun _ hK24 => ?_
   refine sS fun _ hS => ?_; (repeat refine aI qTf0 ?_); (first | apply hS | (refine whole_yes qTf0 ?_; apply hS) | (refine whole_sub ?_; apply hS)); clear hS
   refine sS fun _ hS => ?_; (repeat refine aI qTf0 ?_); apply hS; clear hS
   refine s_stepA rfl (by decide) rfl fun _ hS => ?_
   repeat refine aI qTf0 ?_
   first | refine hS _ (.agg (.u8s x.secret)) _ _ (log_secA hx) ?_ | (refine whole_yes qTf0 ?_; refine hS _ (.agg (.u8s x.secret)) _ _ (log_secA hx) ?_) | (refine whole_sub ?_; refine hS _ (.agg (.u8s x.secret)) _ _ (log_secA hx) ?_)
   clear hS
   refine sS fun _ hS => ?_; (repeat first | refine aI qTf0 ?_ | refine whole_yes qTf0 ?_ | refine whole_sub ?_); refine ⟨c, x.secret, rfl, ⟨hcok, hsec⟩, ?_⟩; rw [loadV_eq hn2]; (repeat refine aI qTf0 ?_); (first | apply hS | (intro cap3 hcap3; apply hS)); clear hS
   refine sS1 ?_
   refine sS fun _ hS => ?_; (repeat refine aI qTf0 ?_); apply hS; clear hS
   refine sS fun _ hS => ?_; (repeat refine aI qTf0 ?_); apply hS; clear hS
   refine sS fun _ hS => ?_; (repeat refine aI qTf0 ?_); apply hS; clear hS
   iterate 3 refine sS1 ?_
   refine s_nil ?_; apply hK24; apply hK23; refine seq_k fun _ hK25 => ?_; refine seq_k fun _ hK26 => ?_
   refine leW [] id [(2, .c (.dp (logC x) 0)), (3, .c (.dp (.cells [.int .i64 kp, .int .i64 a, .u8 b]) 0)), (5, .c (.bool true)), (7, psV ps), (8, .c (.dp (.cells [.ds d.1.length (.u8s d.1), .int .i64 d.2]) 0)), (9, .c (.bool true)), (10, psV (ps.take j)), (12, .c (.int .i64 0)), (13, .c (.dp (.cells [.ds c.1.length (.u8s c.1), .int .i64 c.2]) 0)), (14, psV (ps.take m)), (15, .c (.int .i64 (n2 : Nat))), (16, .c (.int .i64 0))] [] 0 [] ?_ ?_ ?_ ?_ ?_
   ·exact uTf0
   ·exact uTf0
   ·exact uTf0
   ·exact uTf0
   refine region_k glw_ok fun _ hK27 => ?_
   iterate 2 refine sS1 ?_
   refine sS fun _ hS => ?_
   refine s_split hS (fun hb2 => ?_) (fun hb2 => ?_)
   ·exfalso; first | (simp at hb2; done) | exact absurd hb2 (by decide)
   clear hS
   refine sT fun _ hS => ?_; apply hS; clear hS
   refine sT fun _ hS => ?_; (repeat refine aI qTf0 ?_); apply hS; clear hS
   refine sS1 ?_
   refine sS fun _ hS => ?_
   refine s_split hS (fun hb6 => ?_) (fun hb6 => ?_)
   ·exfalso; first | (simp at hb6; done) | exact absurd hb6 (by decide)
   clear hS
   refine sT fun _ hS => ?_; apply hS; clear hS
   refine sT fun _ hS => ?_; (repeat refine aI qTf0 ?_); apply hS; clear hS
   refine sS1 ?_
   refine sS fun _ hS => ?_
   refine s_split hS (fun hb10 => ?_) (fun hb10 => ?_)
   ·exfalso; first | (simp at hb10; done) | exact absurd hb10 (by decide)
   clear hS
   refine sT fun _ hS => ?_; (repeat refine aI qTf0 ?_); apply hS; clear hS
   refine sT fun _ hS => ?_; (repeat refine aI qTf0 ?_); (first | apply hS | (refine whole_yes qTf0 ?_; apply hS) | (refine whole_sub ?_; apply hS)); clear hS
   refine sT fun _ hS => ?_; (repeat refine aI qTf0 ?_); apply hS; clear hS
   refine sT fun _ hS => ?_; (repeat refine aI qTf0 ?_); (first | apply hS | (refine whole_yes qTf0 ?_; apply hS) | (refine whole_sub ?_; apply hS)); clear hS
   refine sT fun _ hS => ?_; (repeat refine aI qTf0 ?_); apply hS; clear hS
   refine sT fun _ hS => ?_; (repeat refine aI qTf0 ?_); apply hS; clear hS
   refine sS1 ?_
   refine s_nil ?_; apply hK27; apply hK26
   refine WP_cond (b := _) rfl (fun h_t86 => ?_) (fun _ => ?_)
   ·exfalso; first | (simp at h_t86; done) | (simp [hn4] at h_t86; done)
   refine WP_skip ?_; apply hK25; refine seq_k fun _ hK28 => ?_; refine seq_k fun _ hK29 => ?_; refine region_k glw_ok fun _ hK30 => ?_
   refine sS1 ?_
   refine sS fun _ hS => ?_; (repeat refine aI qTf0 ?_); apply hS; clear hS
   refine sS fun _ hS => ?_; (repeat refine aI qTf0 ?_); apply hS; clear hS
   refine sS fun _ hS => ?_
   refine s_split hS (fun hb3 => ?_) (fun hb3 => ?_)
   ·clear hS
    try simp only [dQ] at hb3
    refine sT fun _ hS => ?_; (repeat refine aI qTf0 ?_); apply hS; clear hS
    refine s_guardA (b := true) rfl (by decide) rfl rfl (fun _ _ hS => ?_) (fun e => absurd e (by decide))
    repeat refine aI qTf0 ?_
    first | refine hS _ (.c (.u8 x.synced)) _ _ (as_eq (congrArg SV.c (log_g1 x))) ?_ | (refine whole_yes qTf0 ?_; refine hS _ (.c (.u8 x.synced)) _ _ (as_eq (congrArg SV.c (log_g1 x))) ?_) | (refine whole_sub ?_; refine hS _ (.c (.u8 x.synced)) _ _ (as_eq (congrArg SV.c (log_g1 x))) ?_)
    clear hS
    refine sT fun _ hS => ?_; (repeat first | refine aI qTf0 ?_ | refine whole_yes qTf0 ?_ | refine whole_sub ?_); apply hS; clear hS
    refine sT fun _ hS => ?_; (repeat refine aI qTf0 ?_); apply hS; clear hS
    refine sT fun _ hS => ?_; apply hS; clear hS
    refine sT fun _ hS => ?_; (repeat refine aI qTf0 ?_); apply hS; clear hS
    refine sT fun _ hS => ?_; (repeat refine aI qTf0 ?_); apply hS; clear hS
    refine sS1 ?_
    refine sS fun _ hS => ?_
    refine s_split hS (fun hb12 => ?_) (fun hb12 => ?_)
    ·clear hS
     try simp only [dQ, if_true] at hb12
     refine sT fun _ hS => ?_; apply hS; clear hS
     refine sT fun _ hS => ?_; (repeat refine aI qTf0 ?_); apply hS; clear hS
     refine sT fun _ hS => ?_; (repeat refine aI qTf0 ?_); apply hS; clear hS
     refine s_guardA (b := true) rfl (by decide) rfl rfl (fun _ _ hS => ?_) (fun e => absurd e (by decide))
     repeat refine aI qTf0 ?_
     first | refine hS _ (.c (.u8 x.synced)) _ _ (as_eq (congrArg SV.c (log_g1 x))) ?_ | (refine whole_yes qTf0 ?_; refine hS _ (.c (.u8 x.synced)) _ _ (as_eq (congrArg SV.c (log_g1 x))) ?_) | (refine whole_sub ?_; refine hS _ (.c (.u8 x.synced)) _ _ (as_eq (congrArg SV.c (log_g1 x))) ?_)
     clear hS
     refine sT fun _ hS => ?_; (repeat first | refine aI qTf0 ?_ | refine whole_yes qTf0 ?_ | refine whole_sub ?_); apply hS; clear hS
     refine sT fun _ hS => ?_; (repeat refine aI qTf0 ?_); apply hS; clear hS
     refine sT fun _ hS => ?_; (repeat refine aI qTf0 ?_); apply hS; clear hS
     refine sS1 ?_
     refine s_nil ?_; apply hK30; apply hK29
     refine WP_cond (b := _) rfl (fun h_t107 => ?_) (fun _ => ?_)
     ·exfalso; first | (simp at h_t107; done) | (simp at h_t107 hb12; omega)
     refine WP_skip ?_; apply hK28; refine seq_k fun _ hK31 => ?_; refine region_k glw_ok fun _ hK32 => ?_
     iterate 2 refine sS1 ?_
     refine sS fun _ hS => ?_; (repeat first | refine aI qTf0 ?_ | refine whole_yes qTf0 ?_ | refine whole_sub ?_); refine ⟨ps, (ps.take m), rfl, ⟨wf_of hpok, wf_of (htk m), by have := hpl; omega, by have := htl m; omega, b_of hpok, b_of (htk m)⟩, ?_⟩; rw [beg_full hm2]; (repeat refine aI qTf0 ?_); (first | apply hS | (intro cap2 hcap2; apply hS)); clear hS
     refine sS fun _ hS => ?_
     refine s_split hS (fun hb3 => ?_) (fun hb3 => ?_)
     rotate_left 1
     ·exfalso; first | (simp at hb3; done) | exact absurd hb3 (by decide) | (simp at hb15; omega) | (simp at hb15; done)
     clear hS
     refine sT fun _ hS => ?_; apply hS; clear hS
     refine sT fun _ hS => ?_; apply hS; clear hS
     refine sT fun _ hS => ?_; (repeat first | refine aI qTf0 ?_ | refine whole_yes qTf0 ?_ | refine whole_sub ?_); refine ⟨(ps.take m), (ps.take j), rfl, ⟨wf_of (htk m), wf_of (htk j), by have := htl m; omega, by have := htl j; omega, b_of (htk m), b_of (htk j)⟩, ?_⟩; rw [beg_take hm1 hm2]; (repeat refine aI qTf0 ?_); (first | apply hS | (intro cap6 hcap6; apply hS)); clear hS
     refine sS1 ?_
     refine sS fun _ hS => ?_
     refine s_split hS (fun hb8 => ?_) (fun hb8 => ?_)
     rotate_left 1
     ·exfalso; first | (simp at hb8; done) | exact absurd hb8 (by decide) | (simp at hb15; omega) | (simp at hb15; done)
     clear hS
     refine sT fun _ hS => ?_; apply hS; clear hS
     refine sT fun _ hS => ?_; (repeat refine aI qTf0 ?_); apply hS; clear hS
     refine sT fun _ hS => ?_; (repeat refine aI qTf0 ?_); (first | apply hS | (refine whole_yes qTf0 ?_; apply hS) | (refine whole_sub ?_; apply hS)); clear hS
     refine sT fun _ hS => ?_; (repeat refine aI qTf0 ?_); apply hS; clear hS
     refine sT fun _ hS => ?_; (repeat refine aI qTf0 ?_); apply hS; clear hS
     refine sS1 ?_
     refine sS fun _ hS => ?_
     refine s_split hS (fun hb15 => ?_) (fun hb15 => ?_)
     rotate_left 1
     ·exfalso; first | (simp at hb15; done) | exact absurd hb15 (by decide) | (simp at hb15; omega) | (simp at hb15; done)
     clear hS
     refine sT fun _ hS => ?_; apply hS; clear hS
     iterate 2 refine sS1 ?_
     refine s_nil ?_; apply hK32; apply hK31
     refine WP_ret (Done_flat glw_ok (fun _ _ h => h) (by first | rfl | assumption) [.tmp 4] rfl ?_)
     repeat refine aI (by first | omega | exact trivial | rfl | (simp <;> omega)) ?_
     try refine ite_yes (by first | omega | exact trivial | rfl | (simp <;> omega)) ?_
     first | rfl | (show SV.c (.bool (decide ((n2 : Nat) : Int) ≤ _)) = _; skip)
    ·clear hS
     try simp only [dQ, if_true] at hb12
     refine sN ?_; refine sN ?_; refine sN ?_; refine sN ?_; refine sN ?_; refine sN ?_; refine sN ?_
     refine sS1 ?_
     refine s_nil ?_; apply hK30; apply hK29
     refine WP_cond (b := _) rfl (fun h_t107 => ?_) (fun _ => ?_)
     ·exfalso; first | (simp at h_t107; done) | (simp at h_t107 hb12; omega)
     refine WP_skip ?_; apply hK28; refine seq_k fun _ hK33 => ?_; refine region_k glw_ok fun _ hK34 => ?_
     iterate 2 refine sS1 ?_
     refine sS fun _ hS => ?_; (repeat first | refine aI qTf0 ?_ | refine whole_yes qTf0 ?_ | refine whole_sub ?_); refine ⟨ps, (ps.take m), rfl, ⟨wf_of hpok, wf_of (htk m), by have := hpl; omega, by have := htl m; omega, b_of hpok, b_of (htk m)⟩, ?_⟩; rw [beg_full hm2]; (repeat refine aI qTf0 ?_); (first | apply hS | (intro cap2 hcap2; apply hS)); clear hS
     refine sS fun _ hS => ?_
     refine s_split hS (fun hb3 => ?_) (fun hb3 => ?_)
     rotate_left 1
     ·exfalso; first | (simp at hb3; done) | exact absurd hb3 (by decide) | (simp at hb15; omega) | (simp at hb15; done)
     clear hS
     refine sT fun _ hS => ?_; apply hS; clear hS
     refine sT fun _ hS => ?_; apply hS; clear hS
     refine sT fun _ hS => ?_; (repeat first | refine aI qTf0 ?_ | refine whole_yes qTf0 ?_ | refine whole_sub ?_); refine ⟨(ps.take m), (ps.take j), rfl, ⟨wf_of (htk m), wf_of (htk j), by have := htl m; omega, by have := htl j; omega, b_of (htk m), b_of (htk j)⟩, ?_⟩; rw [beg_take hm1 hm2]; (repeat refine aI qTf0 ?_); (first | apply hS | (intro cap6 hcap6; apply hS)); clear hS
     refine sS1 ?_
     refine sS fun _ hS => ?_
     refine s_split hS (fun hb8 => ?_) (fun hb8 => ?_)
     rotate_left 1
     ·exfalso; first | (simp at hb8; done) | exact absurd hb8 (by decide) | (simp at hb15; omega) | (simp at hb15; done)
     clear hS
     refine sT fun _ hS => ?_; apply hS; clear hS
     refine sT fun _ hS => ?_; (repeat refine aI qTf0 ?_); apply hS; clear hS
     refine sT fun _ hS => ?_; (repeat refine aI qTf0 ?_); (first | apply hS | (refine whole_yes qTf0 ?_; apply hS) | (refine whole_sub ?_; apply hS)); clear hS
     refine sT fun _ hS => ?_; (repeat refine aI qTf0 ?_); apply hS; clear hS
     refine sT fun _ hS => ?_; (repeat refine aI qTf0 ?_); apply hS; clear hS
     refine sS1 ?_
     refine sS fun _ hS => ?_
     refine s_split hS (fun hb15 => ?_) (fun hb15 => ?_)
     rotate_left 1
     ·exfalso; first | (simp at hb15; done) | exact absurd hb15 (by decide) | (simp at hb15; omega) | (simp at hb15; done)
     clear hS
     refine sT fun _ hS => ?_; apply hS; clear hS
     iterate 2 refine sS1 ?_
     refine s_nil ?_; apply hK34; apply hK33
     refine WP_ret (Done_flat glw_ok (fun _ _ h => h) (by first | rfl | assumption) [.tmp 4] rfl ?_)
     repeat refine aI (by first | omega | exact trivial | rfl | (simp <;> omega)) ?_
     try refine ite_yes (by first | omega | exact trivial | rfl | (simp <;> omega)) ?_
     first | rfl | (show SV.c (.bool (decide ((n2 : Nat) : Int) ≤ _)) = _; skip)
   ·clear hS
    try simp only [dQ] at hb3
    refine sN ?_; refine sN ?_; refine sN ?_; refine sN ?_; refine sN ?_; refine sN ?_; refine sN ?_
    refine sS1 ?_
    refine sS fun _ hS => ?_
    refine s_split hS (fun hb12 => ?_) (fun hb12 => ?_)
    ·exfalso; simp at hb12
    clear hS; refine sN ?_; refine sN ?_; refine sN ?_; refine sN ?_; refine sN ?_; refine sN ?_; refine sN ?_
    refine sS1 ?_
    refine s_nil ?_; apply hK30; apply hK29
    refine WP_cond (b := _) rfl (fun h_t107 => ?_) (fun _ => ?_)
    ·exfalso; first | (simp at h_t107; done) | (simp at h_t107 hb12; omega)
    refine WP_skip ?_; apply hK28; refine seq_k fun _ hK35 => ?_; refine region_k glw_ok fun _ hK36 => ?_
    iterate 2 refine sS1 ?_
    refine sS fun _ hS => ?_; (repeat first | refine aI qTf0 ?_ | refine whole_yes qTf0 ?_ | refine whole_sub ?_); refine ⟨ps, (ps.take m), rfl, ⟨wf_of hpok, wf_of (htk m), by have := hpl; omega, by have := htl m; omega, b_of hpok, b_of (htk m)⟩, ?_⟩; rw [beg_full hm2]; (repeat refine aI qTf0 ?_); (first | apply hS | (intro cap2 hcap2; apply hS)); clear hS
    refine sS fun _ hS => ?_
    refine s_split hS (fun hb3 => ?_) (fun hb3 => ?_)
    rotate_left 1
    ·exfalso; first | (simp at hb3; done) | exact absurd hb3 (by decide) | (simp at hb15; omega) | (simp at hb15; done)
    clear hS
    refine sT fun _ hS => ?_; apply hS; clear hS
    refine sT fun _ hS => ?_; apply hS; clear hS
    refine sT fun _ hS => ?_; (repeat first | refine aI qTf0 ?_ | refine whole_yes qTf0 ?_ | refine whole_sub ?_); refine ⟨(ps.take m), (ps.take j), rfl, ⟨wf_of (htk m), wf_of (htk j), by have := htl m; omega, by have := htl j; omega, b_of (htk m), b_of (htk j)⟩, ?_⟩; rw [beg_take hm1 hm2]; (repeat refine aI qTf0 ?_); (first | apply hS | (intro cap6 hcap6; apply hS)); clear hS
    refine sS1 ?_
    refine sS fun _ hS => ?_
    refine s_split hS (fun hb8 => ?_) (fun hb8 => ?_)
    rotate_left 1
    ·exfalso; first | (simp at hb8; done) | exact absurd hb8 (by decide) | (simp at hb15; omega) | (simp at hb15; done)
    clear hS
    refine sT fun _ hS => ?_; apply hS; clear hS
    refine sT fun _ hS => ?_; (repeat refine aI qTf0 ?_); apply hS; clear hS
    refine sT fun _ hS => ?_; (repeat refine aI qTf0 ?_); (first | apply hS | (refine whole_yes qTf0 ?_; apply hS) | (refine whole_sub ?_; apply hS)); clear hS
    refine sT fun _ hS => ?_; (repeat refine aI qTf0 ?_); apply hS; clear hS
    refine sT fun _ hS => ?_; (repeat refine aI qTf0 ?_); apply hS; clear hS
    refine sS1 ?_
    refine sS fun _ hS => ?_
    refine s_split hS (fun hb15 => ?_) (fun hb15 => ?_)
    rotate_left 1
    ·exfalso; first | (simp at hb15; done) | exact absurd hb15 (by decide) | (simp at hb15; omega) | (simp at hb15; done)
    clear hS
    refine sT fun _ hS => ?_; apply hS; clear hS
    iterate 2 refine sS1 ?_
    refine s_nil ?_; apply hK36; apply hK35
    refine WP_ret (Done_flat glw_ok (fun _ _ h => h) (by first | rfl | assumption) [.tmp 4] rfl ?_)
    repeat refine aI (by first | omega | exact trivial | rfl | (simp <;> omega)) ?_
    try refine ite_yes (by first | omega | exact trivial | rfl | (simp <;> omega)) ?_
    first | rfl | (show SV.c (.bool (decide ((n2 : Nat) : Int) ≤ _)) = _; skip)


end Go.Proofs.YtnhmglhbhnhnhaaDoor
