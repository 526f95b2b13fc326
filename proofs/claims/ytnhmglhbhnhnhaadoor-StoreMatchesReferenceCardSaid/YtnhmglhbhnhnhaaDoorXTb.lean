/- The law: the reference agrees. -/
import Derived.Test.YtnhmglhbhnhnhaaDoorPe
namespace Go.Proofs.YtnhmglhbhnhnhaaDoor
set_option linter.unusedVariables false
open Go.Ab Go.RowKit

theorem qTb0 {a : Prop} (h : a := by first | exact vcA | (simp <;> omega) | exact (log_len hx).symm | exact log_len hx | (rw [log_len hx]; decide) | (show _ ≤ (logC x).len; rw [log_len hx]; decide) | exact (log_plain _).solid | exact hsec.symm | exact hsec | exact (pieceC_len hw1).symm | exact pieceC_len hw1 | (rw [pieceC_len hw1]; decide) | exact (pieceC_len hqw).symm | exact pieceC_len hqw | (rw [pieceC_len hqw]; decide) | exact pieceC_solid _ | exact vcB) : a := h
theorem qTb1 {a : Prop} (h : a := by first | exact vcA | (simp <;> omega) | exact (log_len hx).symm | exact log_len hx | (rw [log_len hx]; decide) | (show _ ≤ (logC x).len; rw [log_len hx]; decide) | exact (log_plain _).solid | exact hsec.symm | exact hsec | exact (pieceC_len hw1).symm | exact pieceC_len hw1 | (rw [pieceC_len hw1]; decide) | exact (pieceC_len hqw).symm | exact pieceC_len hqw | (rw [pieceC_len hqw]; decide) | exact pieceC_solid _ | (show (0 : Nat) < (pcl [p]).length; rw [pcl_len (one_wf hw1)]; exact (by decide : (0 : Nat) < 65)) | (show (65 : Nat) ≤ (pcl [p]).length; rw [pcl_len (one_wf hw1)]; exact (by decide : (65 : Nat) ≤ 65)) | exact vcB) : a := h
theorem uTb0 {a : Prop} (h : a := by
    repeat' (first | exact trivial | refine aI ?_ ?_ | exact cC0 | refine low_cons' ?_ ?_ | exact cC1 | fail)
    all_goals first | omega | exact pcl_isD _ | exact pieceC_isD _ | exact (log_plain _).isD | exact raw_isD _ | exact crc_isD _ _ _ | (show (0 : Nat) < (logC x).len; rw [log_len hx]; decide) | (show (0 : Nat) < (pieceC _).len; rw [pieceC_len hw1]; decide) | (show (0 : Nat) < (pieceC _).len; rw [pieceC_len hqw]; decide) | (show (0 : Nat) < List.length _; rw [hsec]; decide) | (show (0 : Nat) < List.length _; rw [hol]; decide) | (simp; done) | skip) : a := h

open Go.Sto
attribute [local irreducible] logL logPs logD durN recs madeL
def lawMatchesS : QSpec := fun vs K => ∃ (x : Log) (kp a : Int) (b : UInt8) (r : Raw), vs = [.agg (logC x), crV kp a b, .agg (.cells (rawC r))] ∧ (x.ok ∧ -9223372036854775808 ≤ kp ∧ kp ≤ 9223372036854775807 ∧ -9223372036854775808 ≤ a ∧ a ≤ 9223372036854775807 ∧ r.b.length ≤ 9223372036854775807) ∧ K (.c (.bool true))
set_option maxHeartbeats 4000000 in
theorem lawMatches_ok : FlatOK Tryd.prog gl 3 lawMatchesS := by
 refine flat_of (Γ := glw) (N := 155) Tryd.func3 rfl rfl fun vs K h => ?_
 obtain ⟨x, kp, a, b, r, rfl, ⟨hx, hk1, hk2, ha1, ha2, hrb⟩, h⟩ := h
 refine ⟨_, h, rfl, by simp, fun w I => ?_⟩
 obtain ⟨ps, hps⟩ : ∃ ps, ps = logPs x := ⟨_, rfl⟩
 obtain ⟨d, hd⟩ : ∃ d, d = logD x := ⟨_, rfl⟩
 have hfv : filledV x = .tup [psP ps, .agg (.cells [.ds d.1.length (.u8s d.1), .int .i64 d.2]), .c (.bool true)] := by rw [filledV, ← hps, ← hd]
 have hdok : dok d := hd ▸ logD_ok x
 have hd0 := (hd ▸ logD_dur x : 0 ≤ d.2 ∧ d.2 ≤ (d.1.length : Nat))
 have hdl : d.1.length ≤ 756 := hd ▸ logD_len x
 have hsec := hx.sec
 obtain ⟨e, he⟩ : ∃ e, e = bentD d x := ⟨_, rfl⟩
 have heok : dok e := he ▸ bentD_ok x d hdok hd0.1
 obtain ⟨p, hp⟩ : ∃ p, p = madeP x.secret r := ⟨_, rfl⟩
 have hpok : p.ok := hp ▸ made_okP _ _
 have hw1 : Piece.wf p := Piece.ok.wf hpok
 have hpb : p.b.length ≤ 50 := hp ▸ madeB_len r
 obtain ⟨o, ho⟩ : ∃ o, o = putL e p := ⟨_, rfl⟩
 have hol1 : o.1.1.length ≤ 1000000 := by have := putL_len e p hw1; have := heok.1; rw [ho]; omega
 obtain ⟨q, hq⟩ : ∃ q, q = getL (corF x.secret) e p.key := ⟨_, rfl⟩
 have hqok : q.1.ok := hq ▸ getL_ok _ _ _
 have hqw : Piece.wf q.1 := Piece.ok.wf hqok
 have hqb := hqok.2.2
 obtain ⟨u, hu⟩ : ∃ u, u = loadL (corF x.secret) e := ⟨_, rfl⟩
 have huok : ∀ s ∈ u.1.1, s.ok := hu ▸ loadL_ok _ _
 have huw : allWf u.1.1 := wf_of huok
 have hufew : u.1.1.length ≤ 1000000 := by have := loadL_few (corF x.secret) e; have := heok.1; rw [hu]; omega
 have hsl : ∀ d0 : Disk, dok d0 → (syncL d0).1.length ≤ 9223372036854775807 := fun d0 h => by have := syncL_len d0; have := h.1; omega
 have hcl : (crashL e kp a b).1.length ≤ 9223372036854775807 := by have := crashL_len e kp a b; have := heok.1; omega
 have hrl : (repairL (corF x.secret) e).1.length ≤ 9223372036854775807 := by have := repairL_len (corF x.secret) e; have := heok.1; omega
 refine seq_k fun _ hK1 => ?_; refine region_k glw_ok fun _ hK2 => ?_
 refine sS fun _ hS => ?_; (repeat refine aI qTb0 ?_); apply hS; clear hS
 refine sS fun _ hS => ?_; (repeat refine aI qTb0 ?_); apply hS; clear hS
 refine sS fun _ hS => ?_; (repeat refine aI qTb0 ?_); apply hS; clear hS
 refine sS1 ?_
 refine s_nil ?_; apply hK2; apply hK1; refine seq_k fun _ hK3 => ?_; refine region_k glw_ok fun _ hK4 => ?_
 refine sS fun _ hS => ?_; (repeat first | refine aI qTb0 ?_ | refine whole_yes qTb0 ?_ | refine whole_sub ?_); (first | apply hS | (intro cap0 hcap0; apply hS)); clear hS
 refine sS1 ?_
 refine s_nil ?_; apply hK4; apply hK3; refine seq_k fun _ hK5 => ?_
 refine leW [0, 1, 2] id [(3, .c (.dp (logC x) 0)), (4, .c (.dp (.cells [.int .i64 kp, .int .i64 a, .u8 b]) 0)), (5, .c (.dp (.cells (rawC r)) 0)), (7, .c (.bool true))] [] 0 [] ?_ ?_ ?_ ?_ ?_
 ·exact uTb0
 ·exact uTb0
 ·exact uTb0
 ·exact uTb0
 refine region_k glw_ok fun _ hK6 => ?_
 refine sS fun _ hS => ?_; (repeat refine aI qTb0 ?_); (first | apply hS | (refine whole_yes qTb0 ?_; apply hS) | (refine whole_sub ?_; apply hS)); clear hS
 refine sS fun _ hS => ?_; (repeat first | refine aI qTb0 ?_ | refine whole_yes qTb0 ?_ | refine whole_sub ?_); refine aI (log_plain x).noclo ?_; refine viewL_plain (log_plain x) ?_; refine ⟨x, rfl, hx, ?_⟩; rw [hfv]; simp only [List.flatMap_cons, List.flatMap_nil, ids_log, List.append_nil, Heap.delAll]; (repeat refine aI qTb0 ?_); (first | apply hS | (intro cap1 hcap1; apply hS)); clear hS
 refine sS1 ?_
 refine sS fun _ hS => ?_; (repeat refine aI qTb0 ?_); apply hS; clear hS
 refine sS fun _ hS => ?_; (repeat refine aI qTb0 ?_); apply hS; clear hS
 refine sS fun _ hS => ?_; (repeat refine aI qTb0 ?_); apply hS; clear hS
 refine sS fun _ hS => ?_; (repeat refine aI qTb0 ?_); apply hS; clear hS
 refine sS1 ?_
 refine sS0 fun _ hS => ?_; (repeat refine aI qTb0 ?_); (first | apply hS | (refine splice_full qTb0 ?_; apply hS)); clear hS
 refine sS1 ?_
 refine s_nil ?_; apply hK6; apply hK5; refine seq_k fun _ hK7 => ?_; refine seq_k fun _ hK8 => ?_
 refine leW [0] id [(3, .c (.dp (logC x) 0)), (4, .c (.dp (.cells [.int .i64 kp, .int .i64 a, .u8 b]) 0)), (5, .c (.dp (.cells (rawC r)) 0)), (7, .c (.bool true)), (9, .c (.dp (.cells [.ds d.1.length (.u8s d.1), .int .i64 d.2]) 0)), (10, .c (.bool true))] [] 0 [] ?_ ?_ ?_ ?_ ?_
 ·exact uTb0
 ·exact uTb0
 ·exact uTb0
 ·exact uTb0
 refine region_k glw_ok fun _ hK9 => ?_
 iterate 2 refine sS1 ?_
 refine s_nil ?_; apply hK9; apply hK8
 refine WP_cond (b := _) rfl (fun h_t35 => ?_) (fun _ => ?_)
 ·exfalso; simp at h_t35
 refine WP_skip ?_; apply hK7; refine seq_k fun _ hK10 => ?_; refine region_k glw_ok fun _ hK11 => ?_
 refine sS fun _ hS => ?_; (repeat refine aI qTb0 ?_); (first | apply hS | (refine whole_yes qTb0 ?_; apply hS) | (refine whole_sub ?_; apply hS)); clear hS
 refine sS fun _ hS => ?_; (repeat refine aI qTb0 ?_); (first | apply hS | (refine whole_yes qTb0 ?_; apply hS) | (refine whole_sub ?_; apply hS)); clear hS
 refine sS fun _ hS => ?_; (repeat first | refine aI qTb0 ?_ | refine whole_yes qTb0 ?_ | refine whole_sub ?_); refine aI (log_plain x).noclo ?_; refine viewL_plain (log_plain x) ?_; refine ⟨d, x, rfl, ⟨hdok, hx⟩, ?_⟩; rw [← he]; simp only [List.flatMap_cons, List.flatMap_nil, ids_disk, ids_log, List.append_nil, Heap.delAll]; (repeat refine aI qTb0 ?_); (first | apply hS | (intro cap2 hcap2; apply hS)); clear hS
 refine sS fun _ hS => ?_; (repeat refine aI qTb0 ?_); apply hS; clear hS
 refine sS0 fun _ hS => ?_; (repeat refine aI qTb0 ?_); (first | apply hS | (refine splice_full qTb0 ?_; apply hS)); clear hS; refine s_nil ?_; apply hK11; apply hK10; refine seq_k fun _ hK12 => ?_
 refine leW [0] id [(3, .c (.dp (logC x) 0)), (4, .c (.dp (.cells [.int .i64 kp, .int .i64 a, .u8 b]) 0)), (5, .c (.dp (.cells (rawC r)) 0)), (7, .c (.bool true)), (11, .c (.dp (.cells [.ds e.1.length (.u8s e.1), .int .i64 e.2]) 0))] [] 0 [] ?_ ?_ ?_ ?_ ?_
 ·exact uTb0
 ·exact uTb0
 ·exact uTb0
 ·exact uTb0
 refine region_k glw_ok fun _ hK13 => ?_
 refine sS fun _ hS => ?_; (repeat refine aI qTb1 ?_); (first | apply hS | (refine whole_yes qTb1 ?_; apply hS) | (refine whole_sub ?_; apply hS)); clear hS
 refine sS fun _ hS => ?_; (repeat refine aI qTb1 ?_); apply hS; clear hS
 refine sS fun _ hS => ?_; (repeat refine aI qTb1 ?_); apply hS; clear hS
 refine s_stepA rfl (by decide) rfl fun _ hS => ?_
 repeat refine aI qTb1 ?_
 first | refine hS _ (.agg (.u8s x.secret)) _ _ (log_secA hx) ?_ | (refine whole_yes qTb1 ?_; refine hS _ (.agg (.u8s x.secret)) _ _ (log_secA hx) ?_) | (refine whole_sub ?_; refine hS _ (.agg (.u8s x.secret)) _ _ (log_secA hx) ?_)
 clear hS
 refine sS fun _ hS => ?_; (repeat first | refine aI qTb1 ?_ | refine whole_yes qTb1 ?_ | refine whole_sub ?_); refine ⟨[r], x.secret, rfl, ⟨by show 1 ≤ _; decide, hsec, fun s hs => by rw [List.mem_singleton.1 hs]; exact hrb⟩, ?_⟩; rw [made_one, ← hp]; (repeat refine aI qTb1 ?_); (first | apply hS | (intro cap4 hcap4; apply hS)); clear hS
 refine sS fun _ hS => ?_; (repeat refine aI qTb1 ?_); apply hS; clear hS
 refine s_stepA rfl (by decide) rfl fun _ hS => ?_
 repeat refine aI qTb1 ?_
 first | refine hS _ (pieceV p) _ _ (pcl_sub (one_wf hw1) (i := 0) rfl) ?_ | (refine whole_yes qTb1 ?_; refine hS _ (pieceV p) _ _ (pcl_sub (one_wf hw1) (i := 0) rfl) ?_) | (refine whole_sub ?_; refine hS _ (pieceV p) _ _ (pcl_sub (one_wf hw1) (i := 0) rfl) ?_)
 clear hS
 refine sS fun _ hS => ?_; (repeat refine aI qTb1 ?_); apply hS; clear hS
 refine sS0 fun _ hS => ?_; (repeat refine aI qTb1 ?_); (first | apply hS | (refine splice_full qTb1 ?_; apply hS)); clear hS; refine s_nil ?_; apply hK13; apply hK12; refine seq_k fun _ hK14 => ?_
 refine leW [1] id [(3, .c (.dp (logC x) 0)), (4, .c (.dp (.cells [.int .i64 kp, .int .i64 a, .u8 b]) 0)), (5, .c (.dp (.cells (rawC r)) 0)), (7, .c (.bool true)), (11, .c (.dp (.cells [.ds e.1.length (.u8s e.1), .int .i64 e.2]) 0)), (12, .c (.dp (pieceC p) 0))] [] 0 [] ?_ ?_ ?_ ?_ ?_
 ·exact uTb0
 ·exact uTb0
 ·exact uTb0
 ·exact uTb0
 refine region_k glw_ok fun _ hK15 => ?_
 refine sS fun _ hS => ?_; (repeat refine aI qTb0 ?_); (first | apply hS | (refine whole_yes qTb0 ?_; apply hS) | (refine whole_sub ?_; apply hS)); clear hS
 refine sS fun _ hS => ?_; (repeat refine aI qTb0 ?_); (first | apply hS | (refine whole_yes qTb0 ?_; apply hS) | (refine whole_sub ?_; apply hS)); clear hS
 refine sS fun _ hS => ?_; (repeat first | refine aI qTb0 ?_ | refine whole_yes qTb0 ?_ | refine whole_sub ?_); refine aI (piece_noclo _) ?_; refine viewL_flat (piece_flat _) ?_; refine ⟨e, p, rfl, ⟨heok, hw1, by omega⟩, ?_⟩; rw [← ho]; simp only [List.flatMap_cons, List.flatMap_nil, ids_piece, ids_disk, List.append_nil, Heap.delAll]; (repeat refine aI qTb0 ?_); (first | apply hS | (intro cap2 hcap2; apply hS)); clear hS
 refine sS1 ?_
 refine sS fun _ hS => ?_; (repeat refine aI qTb0 ?_); apply hS; clear hS
 refine sS fun _ hS => ?_; (repeat refine aI qTb0 ?_); apply hS; clear hS
 refine sS fun _ hS => ?_; (repeat refine aI qTb0 ?_); apply hS; clear hS
 refine sS0 fun _ hS => ?_; (repeat refine aI qTb0 ?_); (first | apply hS | (refine splice_full qTb0 ?_; apply hS)); clear hS
 refine sS1 ?_
 refine s_nil ?_; apply hK15; apply hK14; refine seq_k fun _ hK16 => ?_
 refine leW [0] id [(3, .c (.dp (logC x) 0)), (4, .c (.dp (.cells [.int .i64 kp, .int .i64 a, .u8 b]) 0)), (5, .c (.dp (.cells (rawC r)) 0)), (7, .c (.bool true)), (11, .c (.dp (.cells [.ds e.1.length (.u8s e.1), .int .i64 e.2]) 0)), (12, .c (.dp (pieceC p) 0)), (13, .c (.dp (.cells [.ds o.1.1.length (.u8s o.1.1), .int .i64 o.1.2]) 0)), (14, .c (.int .i64 (o.2 : Nat)))] [] 0 [] ?_ ?_ ?_ ?_ ?_
 ·exact uTb0
 ·exact uTb0
 ·exact uTb0
 ·exact uTb0
 refine region_k glw_ok fun _ hK17 => ?_
 refine sS fun _ hS => ?_; (repeat refine aI qTb0 ?_); (first | apply hS | (refine whole_yes qTb0 ?_; apply hS) | (refine whole_sub ?_; apply hS)); clear hS
 refine sS fun _ hS => ?_; (repeat refine aI qTb0 ?_); (first | apply hS | (refine whole_yes qTb0 ?_; apply hS) | (refine whole_sub ?_; apply hS)); clear hS
 refine sS fun _ hS => ?_; (repeat first | refine aI qTb0 ?_ | refine whole_yes qTb0 ?_ | refine whole_sub ?_); refine aI (piece_noclo _) ?_; refine viewL_flat (piece_flat _) ?_; refine ⟨e, p, rfl, ⟨heok, hw1, by omega⟩, ?_⟩; rw [← ho]; simp only [List.flatMap_cons, List.flatMap_nil, ids_piece, ids_disk, List.append_nil, Heap.delAll]; (repeat refine aI qTb0 ?_); (first | apply hS | (intro cap2 hcap2; apply hS)); clear hS
 refine sS1 ?_
 refine sS fun _ hS => ?_; (repeat refine aI qTb0 ?_); apply hS; clear hS
 refine sS fun _ hS => ?_; (repeat refine aI qTb0 ?_); apply hS; clear hS
 refine sS fun _ hS => ?_; (repeat refine aI qTb0 ?_); apply hS; clear hS
 refine sS0 fun _ hS => ?_; (repeat refine aI qTb0 ?_); (first | apply hS | (refine splice_full qTb0 ?_; apply hS)); clear hS
 refine sS1 ?_
 refine s_nil ?_; apply hK17; apply hK16; refine seq_k fun _ hK18 => ?_
 refine leW [0] id [(3, .c (.dp (logC x) 0)), (4, .c (.dp (.cells [.int .i64 kp, .int .i64 a, .u8 b]) 0)), (5, .c (.dp (.cells (rawC r)) 0)), (7, .c (.bool true)), (11, .c (.dp (.cells [.ds e.1.length (.u8s e.1), .int .i64 e.2]) 0)), (12, .c (.dp (pieceC p) 0)), (13, .c (.dp (.cells [.ds o.1.1.length (.u8s o.1.1), .int .i64 o.1.2]) 0)), (14, .c (.int .i64 (o.2 : Nat))), (15, .c (.dp (.cells [.ds o.1.1.length (.u8s o.1.1), .int .i64 o.1.2]) 0)), (16, .c (.int .i64 (o.2 : Nat)))] [] 0 [] ?_ ?_ ?_ ?_ ?_
 ·exact uTb0
 ·exact uTb0
 ·exact uTb0
 ·exact uTb0
 refine region_k glw_ok fun _ hK19 => ?_
 refine sS fun _ hS => ?_; (repeat refine aI qTb0 ?_); (first | apply hS | (refine whole_yes qTb0 ?_; apply hS) | (refine whole_sub ?_; apply hS)); clear hS
 refine sS fun _ hS => ?_; (repeat refine aI qTb0 ?_); apply hS; clear hS
 refine s_stepA rfl (by decide) rfl fun _ hS => ?_
 repeat refine aI qTb0 ?_
 first | refine hS _ (.agg (.u8s p.key)) _ _ (SV.as_agg (piece_key hw1)) ?_ | (refine whole_yes qTb0 ?_; refine hS _ (.agg (.u8s p.key)) _ _ (SV.as_agg (piece_key hw1)) ?_) | (refine whole_sub ?_; refine hS _ (.agg (.u8s p.key)) _ _ (SV.as_agg (piece_key hw1)) ?_)
 clear hS
 refine sS fun _ hS => ?_; (repeat refine aI qTb0 ?_); apply hS; clear hS
 refine s_stepA rfl (by decide) rfl fun _ hS => ?_
 repeat refine aI qTb0 ?_
 first | refine hS _ (.agg (.u8s x.secret)) _ _ (log_secA hx) ?_ | (refine whole_yes qTb0 ?_; refine hS _ (.agg (.u8s x.secret)) _ _ (log_secA hx) ?_) | (refine whole_sub ?_; refine hS _ (.agg (.u8s x.secret)) _ _ (log_secA hx) ?_)
 clear hS
 refine sS fun _ hS => ?_; (repeat first | refine aI qTb0 ?_ | refine whole_yes qTb0 ?_ | refine whole_sub ?_); refine ⟨e, p.key, x.secret, rfl, ⟨heok, hw1.1, hsec⟩, ?_⟩; rw [← hq]; simp only [List.flatMap_cons, List.flatMap_nil, ids_disk, ids_arr, List.append_nil, Heap.delAll]; (repeat refine aI qTb0 ?_); (first | apply hS | (intro cap5 hcap5; apply hS)); clear hS
 refine sS1 ?_
 refine sS fun _ hS => ?_; (repeat refine aI qTb0 ?_); apply hS; clear hS
 refine sS fun _ hS => ?_; (repeat refine aI qTb0 ?_); apply hS; clear hS
 refine sS fun _ hS => ?_; (repeat refine aI qTb0 ?_); apply hS; clear hS
 refine sS0 fun _ hS => ?_; (repeat refine aI qTb0 ?_); (first | apply hS | (refine splice_full qTb0 ?_; apply hS)); clear hS
 refine sS1 ?_
 refine s_nil ?_; apply hK19; apply hK18; refine seq_k fun _ hK20 => ?_
 refine leW [0] id [(3, .c (.dp (logC x) 0)), (4, .c (.dp (.cells [.int .i64 kp, .int .i64 a, .u8 b]) 0)), (5, .c (.dp (.cells (rawC r)) 0)), (7, .c (.bool true)), (11, .c (.dp (.cells [.ds e.1.length (.u8s e.1), .int .i64 e.2]) 0)), (12, .c (.dp (pieceC p) 0)), (13, .c (.dp (.cells [.ds o.1.1.length (.u8s o.1.1), .int .i64 o.1.2]) 0)), (14, .c (.int .i64 (o.2 : Nat))), (15, .c (.dp (.cells [.ds o.1.1.length (.u8s o.1.1), .int .i64 o.1.2]) 0)), (16, .c (.int .i64 (o.2 : Nat))), (17, .c (.dp (pieceC q.1) 0)), (18, .c (.int .i64 (q.2 : Nat)))] [] 0 [] ?_ ?_ ?_ ?_ ?_
 ·exact uTb0
 ·exact uTb0
 ·exact uTb0
 ·exact uTb0
 refine region_k glw_ok fun _ hK21 => ?_
 refine sS fun _ hS => ?_; (repeat refine aI qTb0 ?_); (first | apply hS | (refine whole_yes qTb0 ?_; apply hS) | (refine whole_sub ?_; apply hS)); clear hS
 refine sS fun _ hS => ?_; (repeat refine aI qTb0 ?_); apply hS; clear hS
 refine s_stepA rfl (by decide) rfl fun _ hS => ?_
 repeat refine aI qTb0 ?_
 first | refine hS _ (.agg (.u8s p.key)) _ _ (SV.as_agg (piece_key hw1)) ?_ | (refine whole_yes qTb0 ?_; refine hS _ (.agg (.u8s p.key)) _ _ (SV.as_agg (piece_key hw1)) ?_) | (refine whole_sub ?_; refine hS _ (.agg (.u8s p.key)) _ _ (SV.as_agg (piece_key hw1)) ?_)
 clear hS
 refine sS fun _ hS => ?_; (repeat refine aI qTb0 ?_); apply hS; clear hS
 refine s_stepA rfl (by decide) rfl fun _ hS => ?_
 repeat refine aI qTb0 ?_
 first | refine hS _ (.agg (.u8s x.secret)) _ _ (log_secA hx) ?_ | (refine whole_yes qTb0 ?_; refine hS _ (.agg (.u8s x.secret)) _ _ (log_secA hx) ?_) | (refine whole_sub ?_; refine hS _ (.agg (.u8s x.secret)) _ _ (log_secA hx) ?_)
 clear hS
 refine sS fun _ hS => ?_; (repeat first | refine aI qTb0 ?_ | refine whole_yes qTb0 ?_ | refine whole_sub ?_); refine ⟨e, p.key, x.secret, rfl, ⟨heok, hw1.1, hsec⟩, ?_⟩; rw [← hq]; simp only [List.flatMap_cons, List.flatMap_nil, ids_disk, ids_arr, List.append_nil, Heap.delAll]; (repeat refine aI qTb0 ?_); (first | apply hS | (intro cap5 hcap5; apply hS)); clear hS
 refine sS1 ?_
 refine sS fun _ hS => ?_; (repeat refine aI qTb0 ?_); apply hS; clear hS
 refine sS fun _ hS => ?_; (repeat refine aI qTb0 ?_); apply hS; clear hS
 refine sS fun _ hS => ?_; (repeat refine aI qTb0 ?_); apply hS; clear hS
 refine sS0 fun _ hS => ?_; (repeat refine aI qTb0 ?_); (first | apply hS | (refine splice_full qTb0 ?_; apply hS)); clear hS
 refine sS1 ?_
 refine s_nil ?_; apply hK21; apply hK20; refine seq_k fun _ hK22 => ?_
 refine leW [0] id [(3, .c (.dp (logC x) 0)), (4, .c (.dp (.cells [.int .i64 kp, .int .i64 a, .u8 b]) 0)), (5, .c (.dp (.cells (rawC r)) 0)), (7, .c (.bool true)), (11, .c (.dp (.cells [.ds e.1.length (.u8s e.1), .int .i64 e.2]) 0)), (12, .c (.dp (pieceC p) 0)), (13, .c (.dp (.cells [.ds o.1.1.length (.u8s o.1.1), .int .i64 o.1.2]) 0)), (14, .c (.int .i64 (o.2 : Nat))), (15, .c (.dp (.cells [.ds o.1.1.length (.u8s o.1.1), .int .i64 o.1.2]) 0)), (16, .c (.int .i64 (o.2 : Nat))), (17, .c (.dp (pieceC q.1) 0)), (18, .c (.int .i64 (q.2 : Nat))), (19, .c (.dp (pieceC q.1) 0)), (20, .c (.int .i64 (q.2 : Nat)))] [] 0 [] ?_ ?_ ?_ ?_ ?_
 ·exact uTb0
 ·exact uTb0
 ·exact uTb0
 ·exact uTb0
 refine region_k glw_ok fun _ hK23 => ?_
 refine sS fun _ hS => ?_; (repeat refine aI qTb0 ?_); (first | apply hS | (refine whole_yes qTb0 ?_; apply hS) | (refine whole_sub ?_; apply hS)); clear hS
 refine sS fun _ hS => ?_; (repeat refine aI qTb0 ?_); apply hS; clear hS
 refine s_stepA rfl (by decide) rfl fun _ hS => ?_
 repeat refine aI qTb0 ?_
 first | refine hS _ (.agg (.u8s x.secret)) _ _ (log_secA hx) ?_ | (refine whole_yes qTb0 ?_; refine hS _ (.agg (.u8s x.secret)) _ _ (log_secA hx) ?_) | (refine whole_sub ?_; refine hS _ (.agg (.u8s x.secret)) _ _ (log_secA hx) ?_)
 clear hS
 refine sS fun _ hS => ?_; (repeat first | refine aI qTb0 ?_ | refine whole_yes qTb0 ?_ | refine whole_sub ?_); refine ⟨e, x.secret, rfl, ⟨heok, hsec⟩, ?_⟩; rw [← hu]; (repeat refine aI qTb0 ?_); (first | apply hS | (intro cap3 hcap3; apply hS)); clear hS
 refine sS1 ?_
 refine sS fun _ hS => ?_; (repeat refine aI qTb0 ?_); apply hS; clear hS
 refine sS fun _ hS => ?_; (repeat refine aI qTb0 ?_); apply hS; clear hS
 refine sS fun _ hS => ?_; (repeat refine aI qTb0 ?_); apply hS; clear hS
 iterate 3 refine sS1 ?_
 refine s_nil ?_; apply hK23; apply hK22; refine seq_k fun _ hK24 => ?_; refine region_k glw_ok fun _ hK25 => ?_
 refine sS fun _ hS => ?_; (repeat refine aI qTb0 ?_); (first | apply hS | (refine whole_yes qTb0 ?_; apply hS) | (refine whole_sub ?_; apply hS)); clear hS
 refine sS fun _ hS => ?_; (repeat refine aI qTb0 ?_); apply hS; clear hS
 refine s_stepA rfl (by decide) rfl fun _ hS => ?_
 repeat refine aI qTb0 ?_
 first | refine hS _ (.agg (.u8s x.secret)) _ _ (log_secA hx) ?_ | (refine whole_yes qTb0 ?_; refine hS _ (.agg (.u8s x.secret)) _ _ (log_secA hx) ?_) | (refine whole_sub ?_; refine hS _ (.agg (.u8s x.secret)) _ _ (log_secA hx) ?_)
 clear hS
 refine sS fun _ hS => ?_; (repeat first | refine aI qTb0 ?_ | refine whole_yes qTb0 ?_ | refine whole_sub ?_); refine ⟨e, x.secret, rfl, ⟨heok, hsec⟩, ?_⟩; rw [← hu]; (repeat refine aI qTb0 ?_); (first | apply hS | (intro cap3 hcap3; apply hS)); clear hS
 refine sS1 ?_
 refine sS fun _ hS => ?_; (repeat refine aI qTb0 ?_); apply hS; clear hS
 refine sS fun _ hS => ?_; (repeat refine aI qTb0 ?_); apply hS; clear hS
 refine sS fun _ hS => ?_; (repeat refine aI qTb0 ?_); apply hS; clear hS
 iterate 3 refine sS1 ?_
 refine s_nil ?_; apply hK25; apply hK24; refine seq_k fun _ hK26 => ?_
 refine leW [] id [(3, .c (.dp (logC x) 0)), (4, .c (.dp (.cells [.int .i64 kp, .int .i64 a, .u8 b]) 0)), (5, .c (.dp (.cells (rawC r)) 0)), (7, .c (.bool true)), (11, .c (.dp (.cells [.ds e.1.length (.u8s e.1), .int .i64 e.2]) 0)), (12, .c (.dp (pieceC p) 0)), (13, .c (.dp (.cells [.ds o.1.1.length (.u8s o.1.1), .int .i64 o.1.2]) 0)), (14, .c (.int .i64 (o.2 : Nat))), (15, .c (.dp (.cells [.ds o.1.1.length (.u8s o.1.1), .int .i64 o.1.2]) 0)), (16, .c (.int .i64 (o.2 : Nat))), (17, .c (.dp (pieceC q.1) 0)), (18, .c (.int .i64 (q.2 : Nat))), (19, .c (.dp (pieceC q.1) 0)), (20, .c (.int .i64 (q.2 : Nat))), (21, psV u.1.1), (22, .c (.int .i64 (u.1.2 : Nat))), (23, .c (.int .i64 (u.2 : Nat))), (24, psV u.1.1), (25, .c (.int .i64 (u.1.2 : Nat))), (26, .c (.int .i64 (u.2 : Nat)))] [] 0 [] ?_ ?_ ?_ ?_ ?_
 ·exact uTb0
 ·exact uTb0
 ·exact uTb0
 ·exact uTb0
 refine sched_k glw_ok [(0, true), (1, true), (2, false), (3, true), (4, true), (5, true), (6, true), (7, true), (8, true), (9, true), (10, true), (11, false), (12, true), (13, true), (14, true), (15, true), (16, true), (17, true), (18, true), (19, true), (20, true), (21, false), (22, true), (23, true), (24, true), (25, true), (26, true), (27, true), (28, true), (29, true), (30, true), (31, true), (32, true), (33, true), (34, true), (36, true), (35, false), (37, false), (38, false), (39, true), (40, true), (41, true), (42, true), (44, true), (45, true), (43, false), (46, false), (47, false), (48, true), (49, true), (50, true), (51, true), (52, true), (54, true), (55, true), (56, true), (53, false), (57, false), (58, false), (59, true), (60, true), (61, true), (62, true), (63, true)] rfl (by kernel_rfl) (by kernel_rfl) fun _ hK27 => ?_
 refine dR fun _ hS => ?_; (repeat refine aI qTb0 ?_); (first | apply hS | (refine whole_yes qTb0 ?_; apply hS) | (refine whole_sub ?_; apply hS)); clear hS
 refine dR fun _ hS => ?_; (repeat refine aI qTb0 ?_); (first | apply hS | (refine whole_yes qTb0 ?_; apply hS) | (refine whole_sub ?_; apply hS)); clear hS
 refine dG fun _ hS => ?_; (repeat first | refine aI qTb0 ?_ | refine whole_yes qTb0 ?_ | refine whole_sub ?_); refine ⟨o.1, o.1, rfl, ⟨by omega, by omega⟩, ?_⟩; rw [true_same]; (repeat refine aI qTb0 ?_); (first | apply hS | (intro cap2 hcap2; apply hS)); clear hS
 refine dR fun _ hS => ?_
 refine d_split hS (fun hb3 => ?_) (fun hb3 => ?_)
 rotate_left 1
 ·exfalso; first | (simp at hb3; done) | exact absurd hb3 (by decide)
 clear hS
 refine dT fun _ hS => ?_; apply hS; clear hS
 refine dT fun _ hS => ?_; apply hS; clear hS
 refine dT fun _ hS => ?_; (repeat refine aI qTb0 ?_); apply hS; clear hS
 refine dD1 ?_
 refine dR fun _ hS => ?_
 refine d_split hS (fun hb8 => ?_) (fun hb8 => ?_)
 rotate_left 1
 ·exfalso; first | (simp at hb8; done) | exact absurd hb8 (by decide)
 clear hS
 refine dT fun _ hS => ?_; (repeat refine aI qTb0 ?_); (first | apply hS | (refine whole_yes qTb0 ?_; apply hS) | (refine whole_sub ?_; apply hS)); clear hS
 refine dT fun _ hS => ?_; (repeat refine aI qTb0 ?_); (first | apply hS | (refine whole_yes qTb0 ?_; apply hS) | (refine whole_sub ?_; apply hS)); clear hS
 refine d_growg (b := true) rfl rfl (by decide) rfl rfl (fun _ _ hS => ?_) (fun e => absurd e (by decide))
 repeat first | refine aI qTb0 ?_ | refine whole_yes qTb0 ?_ | refine whole_sub ?_
 refine aI (piece_noclo _) ?_
 refine viewL_flat (piece_flat _) ?_
 refine aI (piece_noclo _) ?_
 refine viewL_flat (piece_flat _) ?_
 refine ⟨q.1, q.1, rfl, ⟨hqw, hqw, by omega, by omega⟩, ?_⟩
 rw [true_same]
 repeat refine aI qTb0 ?_
 first | apply hS | (intro cap11 hcap11; apply hS)
 clear hS
 refine dD1 ?_
 refine dR fun _ hS => ?_
 refine d_split hS (fun hb13 => ?_) (fun hb13 => ?_)
 rotate_left 1
 ·exfalso; first | (simp at hb13; done) | exact absurd hb13 (by decide)
 clear hS
 refine dT fun _ hS => ?_; apply hS; clear hS
 refine dT fun _ hS => ?_; apply hS; clear hS
 refine dT fun _ hS => ?_; (repeat refine aI qTb0 ?_); apply hS; clear hS
 refine dD1 ?_
 refine dR fun _ hS => ?_
 refine d_split hS (fun hb18 => ?_) (fun hb18 => ?_)
 rotate_left 1
 ·exfalso; first | (simp at hb18; done) | exact absurd hb18 (by decide)
 clear hS
 refine dT fun _ hS => ?_; apply hS; clear hS
 refine dT fun _ hS => ?_; apply hS; clear hS
 refine d_growg (b := true) rfl rfl (by decide) rfl rfl (fun _ _ hS => ?_) (fun e => absurd e (by decide))
 repeat first | refine aI qTb0 ?_ | refine whole_yes qTb0 ?_ | refine whole_sub ?_
 refine ⟨u.1.1, u.1.1, rfl, ⟨huw, huw, hufew, hufew, b_of huok, b_of huok⟩, ?_⟩
 rw [true_same]
 repeat refine aI qTb0 ?_
 first | apply hS | (intro cap21 hcap21; apply hS)
 clear hS
 refine dD1 ?_
 refine dR fun _ hS => ?_
 refine d_split hS (fun hb23 => ?_) (fun hb23 => ?_)
 rotate_left 1
 ·exfalso; first | (simp at hb23; done) | exact absurd hb23 (by decide)
 clear hS
 refine dT fun _ hS => ?_; apply hS; clear hS
 refine dT fun _ hS => ?_; apply hS; clear hS
 refine dT fun _ hS => ?_; (repeat refine aI qTb0 ?_); apply hS; clear hS
 refine dD1 ?_
 refine dR fun _ hS => ?_
 refine d_split hS (fun hb28 => ?_) (fun hb28 => ?_)
 rotate_left 1
 ·exfalso; first | (simp at hb28; done) | exact absurd hb28 (by decide)
 clear hS
 refine dT fun _ hS => ?_; apply hS; clear hS
 refine dT fun _ hS => ?_; apply hS; clear hS
 refine dT fun _ hS => ?_; (repeat refine aI qTb0 ?_); apply hS; clear hS
 refine dD1 ?_
 refine dR fun _ hS => ?_
 refine d_split hS (fun hb33 => ?_) (fun hb33 => ?_)
 rotate_left 1
 ·exfalso; first | (simp at hb33; done) | exact absurd hb33 (by decide)
 clear hS
 refine dT fun _ hS => ?_; (repeat refine aI qTb0 ?_); (first | apply hS | (refine whole_yes qTb0 ?_; apply hS) | (refine whole_sub ?_; apply hS)); clear hS
 refine dT fun _ hS => ?_; (repeat refine aI qTb0 ?_); (first | apply hS | (refine whole_yes qTb0 ?_; apply hS) | (refine whole_sub ?_; apply hS)); clear hS
 refine d_growg (b := true) rfl rfl (by decide) rfl rfl (fun _ _ hS => ?_) (fun e => absurd e (by decide))
 repeat first | refine aI qTb0 ?_ | refine whole_yes qTb0 ?_ | refine whole_sub ?_
 refine ⟨e, rfl, heok, ?_⟩
 repeat refine aI qTb0 ?_
 first | apply hS | (intro cap35 hcap35; apply hS)
 clear hS
 refine d_growg (b := true) rfl rfl (by decide) rfl rfl (fun _ _ hS => ?_) (fun e => absurd e (by decide))
 repeat first | refine aI qTb0 ?_ | refine whole_yes qTb0 ?_ | refine whole_sub ?_
 refine ⟨e, rfl, heok, ?_⟩
 repeat refine aI qTb0 ?_
 first | apply hS | (intro cap37 hcap37; apply hS)
 clear hS
 refine d_growg (b := true) rfl rfl (by decide) rfl rfl (fun _ _ hS => ?_) (fun e => absurd e (by decide))
 repeat first | refine aI qTb0 ?_ | refine whole_yes qTb0 ?_ | refine whole_sub ?_
 refine ⟨(syncL e), (syncL e), rfl, ⟨hsl e heok, hsl e heok⟩, ?_⟩
 rw [true_same]
 repeat refine aI qTb0 ?_
 first | apply hS | (intro cap38 hcap38; apply hS)
 clear hS
 refine dD1 ?_
 refine dR fun _ hS => ?_
 refine d_split hS (fun hb40 => ?_) (fun hb40 => ?_)
 rotate_left 1
 ·exfalso; first | (simp at hb40; done) | exact absurd hb40 (by decide)
 clear hS
 refine dT fun _ hS => ?_; (repeat refine aI qTb0 ?_); (first | apply hS | (refine whole_yes qTb0 ?_; apply hS) | (refine whole_sub ?_; apply hS)); clear hS
 refine dT fun _ hS => ?_; (repeat refine aI qTb0 ?_); (first | apply hS | (refine whole_yes qTb0 ?_; apply hS) | (refine whole_sub ?_; apply hS)); clear hS
 refine dT fun _ hS => ?_; (repeat refine aI qTb0 ?_); (first | apply hS | (refine whole_yes qTb0 ?_; apply hS) | (refine whole_sub ?_; apply hS)); clear hS
 refine dT fun _ hS => ?_; (repeat refine aI qTb0 ?_); (first | apply hS | (refine whole_yes qTb0 ?_; apply hS) | (refine whole_sub ?_; apply hS)); clear hS
 refine d_growg (b := true) rfl rfl (by decide) rfl rfl (fun _ _ hS => ?_) (fun e => absurd e (by decide))
 repeat first | refine aI qTb0 ?_ | refine whole_yes qTb0 ?_ | refine whole_sub ?_
 refine ⟨e, kp, a, b, rfl, ⟨heok, hk1, hk2, ha1, ha2⟩, ?_⟩
 repeat refine aI qTb0 ?_
 first | apply hS | (intro cap43 hcap43; apply hS)
 clear hS
 refine d_growg (b := true) rfl rfl (by decide) rfl rfl (fun _ _ hS => ?_) (fun e => absurd e (by decide))
 repeat first | refine aI qTb0 ?_ | refine whole_yes qTb0 ?_ | refine whole_sub ?_
 refine ⟨e, kp, a, b, rfl, ⟨heok, hk1, hk2, ha1, ha2⟩, ?_⟩
 repeat refine aI qTb0 ?_
 first | apply hS | (intro cap46 hcap46; apply hS)
 clear hS
 refine d_growg (b := true) rfl rfl (by decide) rfl rfl (fun _ _ hS => ?_) (fun e => absurd e (by decide))
 repeat first | refine aI qTb0 ?_ | refine whole_yes qTb0 ?_ | refine whole_sub ?_
 refine ⟨(crashL e kp a b), (crashL e kp a b), rfl, ⟨hcl, hcl⟩, ?_⟩
 rw [true_same]
 repeat refine aI qTb0 ?_
 first | apply hS | (intro cap47 hcap47; apply hS)
 clear hS
 refine dD1 ?_
 refine dR fun _ hS => ?_
 refine d_split hS (fun hb49 => ?_) (fun hb49 => ?_)
 rotate_left 1
 ·exfalso; first | (simp at hb49; done) | exact absurd hb49 (by decide)
 clear hS
 refine dT fun _ hS => ?_; (repeat refine aI qTb0 ?_); (first | apply hS | (refine whole_yes qTb0 ?_; apply hS) | (refine whole_sub ?_; apply hS)); clear hS
 refine dT fun _ hS => ?_; (repeat refine aI qTb0 ?_); apply hS; clear hS
 refine d_readgA (b := true) rfl rfl (by decide) rfl rfl (fun _ _ hS => ?_) (fun e => absurd e (by decide))
 repeat refine aI qTb0 ?_
 first | refine hS _ (.agg (.u8s x.secret)) (log_secA hx) ?_ | (refine whole_yes qTb0 ?_; refine hS _ (.agg (.u8s x.secret)) (log_secA hx) ?_) | (refine whole_sub ?_; refine hS _ (.agg (.u8s x.secret)) (log_secA hx) ?_)
 clear hS
 refine dT fun _ hS => ?_; (repeat refine aI qTb0 ?_); (first | apply hS | (refine whole_yes qTb0 ?_; apply hS) | (refine whole_sub ?_; apply hS)); clear hS
 refine dT fun _ hS => ?_; (repeat refine aI qTb0 ?_); apply hS; clear hS
 refine d_readgA (b := true) rfl rfl (by decide) rfl rfl (fun _ _ hS => ?_) (fun e => absurd e (by decide))
 repeat refine aI qTb0 ?_
 first | refine hS _ (.agg (.u8s x.secret)) (log_secA hx) ?_ | (refine whole_yes qTb0 ?_; refine hS _ (.agg (.u8s x.secret)) (log_secA hx) ?_) | (refine whole_sub ?_; refine hS _ (.agg (.u8s x.secret)) (log_secA hx) ?_)
 clear hS
 refine d_growg (b := true) rfl rfl (by decide) rfl rfl (fun _ _ hS => ?_) (fun e => absurd e (by decide))
 repeat first | refine aI qTb0 ?_ | refine whole_yes qTb0 ?_ | refine whole_sub ?_
 refine ⟨e, x.secret, rfl, ⟨heok, hsec⟩, ?_⟩
 repeat refine aI qTb0 ?_
 first | apply hS | (intro cap53 hcap53; apply hS)
 clear hS
 refine d_growg (b := true) rfl rfl (by decide) rfl rfl (fun _ _ hS => ?_) (fun e => absurd e (by decide))
 repeat first | refine aI qTb0 ?_ | refine whole_yes qTb0 ?_ | refine whole_sub ?_
 refine ⟨e, x.secret, rfl, ⟨heok, hsec⟩, ?_⟩
 repeat refine aI qTb0 ?_
 first | apply hS | (intro cap57 hcap57; apply hS)
 clear hS
 refine d_growg (b := true) rfl rfl (by decide) rfl rfl (fun _ _ hS => ?_) (fun e => absurd e (by decide))
 repeat first | refine aI qTb0 ?_ | refine whole_yes qTb0 ?_ | refine whole_sub ?_
 refine ⟨(repairL (corF x.secret) e), (repairL (corF x.secret) e), rfl, ⟨hrl, hrl⟩, ?_⟩
 rw [true_same]
 repeat refine aI qTb0 ?_
 first | apply hS | (intro cap58 hcap58; apply hS)
 clear hS
 refine dD1 ?_
 refine dR fun _ hS => ?_
 refine d_split hS (fun hb60 => ?_) (fun hb60 => ?_)
 rotate_left 1
 ·exfalso; first | (simp at hb60; done) | exact absurd hb60 (by decide)
 clear hS
 refine dT fun _ hS => ?_; apply hS; clear hS
 iterate 2 refine dD1 ?_
 refine d_nil ?_; apply hK27; apply hK26
 refine WP_ret (Done_flat glw_ok (fun _ _ h => h) (by first | rfl | assumption) [.tmp 6] rfl ?_)
 repeat refine aI (by first | omega | exact trivial | rfl | (simp <;> omega)) ?_
 try refine ite_yes (by first | omega | exact trivial | rfl | (simp <;> omega)) ?_
 show _ = _
 rfl


end Go.Proofs.YtnhmglhbhnhnhaaDoor
