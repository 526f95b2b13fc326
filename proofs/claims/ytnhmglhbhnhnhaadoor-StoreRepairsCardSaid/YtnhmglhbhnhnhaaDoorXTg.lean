/- The law: repaired disks. -/
import Derived.Test.YtnhmglhbhnhnhaaDoorPe
namespace Go.Proofs.YtnhmglhbhnhnhaaDoor
set_option linter.unusedVariables false
open Go.Ab Go.RowKit

theorem qTg0 {a : Prop} (h : a := by first | exact vcA | (simp <;> omega) | exact (log_len hx).symm | exact log_len hx | (rw [log_len hx]; decide) | (show _ ≤ (logC x).len; rw [log_len hx]; decide) | exact (log_plain _).solid | exact hsec.symm | exact hsec | exact (pieceC_len hw1).symm | exact pieceC_len hw1 | (rw [pieceC_len hw1]; decide) | exact (pieceC_len hqw).symm | exact pieceC_len hqw | (rw [pieceC_len hqw]; decide) | exact pieceC_solid _ | (show (0 : Nat) < (pcl [p]).length; rw [pcl_len (one_wf hw1)]; exact (by decide : (0 : Nat) < 65)) | (show (65 : Nat) ≤ (pcl [p]).length; rw [pcl_len (one_wf hw1)]; exact (by decide : (65 : Nat) ≤ 65)) | exact vcB) : a := h
theorem uTg0 {a : Prop} (h : a := by
    repeat' (first | exact trivial | refine aI ?_ ?_ | exact cC0 | refine low_cons' ?_ ?_ | exact cC1 | fail)
    all_goals first | (show Cont.to _ _ _ _ _ _; exact rows_toE (rawR.dat _) rfl) | exact (rawR.dat _).low | exact (rawR.low _) | omega | exact pcl_isD _ | exact pieceC_isD _ | exact (log_plain _).isD | exact raw_isD _ | exact crc_isD _ _ _ | (show (0 : Nat) < (logC x).len; rw [log_len hx]; decide) | (show (0 : Nat) < (pieceC _).len; rw [pieceC_len hw1]; decide) | (show (0 : Nat) < (pieceC _).len; rw [pieceC_len hqw]; decide) | (show (0 : Nat) < List.length _; rw [hsec]; decide) | (show (0 : Nat) < List.length _; rw [hol]; decide) | (simp; done) | skip) : a := h
open Go.Sto
attribute [local irreducible] logL logPs logD durN recs madeL
def lawRepairsS : QSpec := fun vs K => ∃ (x : Log) (r : Raw), vs = [.agg (logC x), .agg (.cells (rawC r))] ∧ (x.ok ∧ r.b.length ≤ 9223372036854775807) ∧ K (.c (.bool true))
set_option maxHeartbeats 4000000 in
theorem lawRepairs_ok : FlatOK Tryd.prog gl 7 lawRepairsS := by
 refine flat_of (Γ := glw) (N := 150) Tryd.func7 rfl rfl fun vs K h => ?_
 obtain ⟨x, r, rfl, ⟨hx, hrb⟩, h⟩ := h
 refine ⟨_, h, rfl, by simp, fun w I => ?_⟩
 obtain ⟨ps, hps⟩ : ∃ ps, ps = logPs x := ⟨_, rfl⟩
 obtain ⟨d, hd⟩ : ∃ d, d = logD x := ⟨_, rfl⟩
 have hfv : filledV x = .tup [psP ps, .agg (.cells [.ds d.1.length (.u8s d.1), .int .i64 d.2]), .c (.bool true)] := by rw [filledV, ← hps, ← hd]
 have hdok : dok d := hd ▸ logD_ok x
 have hd0 := (hd ▸ logD_dur x : 0 ≤ d.2 ∧ d.2 ≤ (d.1.length : Nat))
 have hdl : d.1.length ≤ 756 := hd ▸ logD_len x
 have hsec := hx.sec
 obtain ⟨e, he⟩ : ∃ e, e = bentD d x := ⟨_, rfl⟩
 have heok : dok e := he ▸ bentD_ok x d hdok hd0.1
 have hev : dvalid e = true := by rw [he, hd]; exact bent_valid x
 have hel : e.1.length ≤ 756 := by have h1 := bentB_len x d.1; have h2 := bentT_le x d.1; rw [he]; show (bentB x d.1).length ≤ 756; omega
 obtain ⟨g, hg⟩ : ∃ g, g = repairL (corF x.secret) e := ⟨_, rfl⟩
 have hgl : g.1.length ≤ e.1.length := hg ▸ repairL_len _ e
 have hgv := dvalid_iff (show dvalid g = true by rw [hg]; exact rep_valid hev)
 have hgok : dok g := ⟨by omega, by omega, by omega⟩
 obtain ⟨tw, htw⟩ : ∃ tw, tw = (Go.Sto.pieces e.1).takeWhile (corF x.secret) := ⟨_, rfl⟩
 obtain ⟨al, hal⟩ : ∃ al, al = (Go.Sto.pieces e.1).filter (corF x.secret) := ⟨_, rfl⟩
 have htok : ∀ s ∈ tw, s.ok := htw ▸ (repair_take _ e.1).2.2
 have haok : ∀ s ∈ al, s.ok := fun s hs => by rw [hal] at hs; exact Go.Sto.pieces_ok e.1 s (List.mem_filter.1 hs).1
 have hall : al.length ≤ 756 := by rw [hal]; exact Nat.le_trans (List.length_filter_le _ _) (Nat.le_trans (pieces_few e.1) hel)
 have htl : tw.length ≤ 756 := by
  obtain ⟨r1, h1, _⟩ := takeWhile_split (corF x.secret) (Go.Sto.pieces e.1)
  have h2 := congrArg List.length h1
  rw [List.length_append, ← htw] at h2
  have := pieces_few e.1
  omega
 obtain ⟨p, hp⟩ : ∃ p, p = madeP x.secret (good r) := ⟨_, rfl⟩
 have hpok : p.ok := hp ▸ made_okP _ _
 have hw1 : Piece.wf p := Piece.ok.wf hpok
 have hpb : p.b.length ≤ 50 := hp ▸ madeB_len (good r)
 have hpc : corF x.secret p = true := hp ▸ cor_made rfl
 have hrl := recW_length hw1
 rw [Piece.size] at hrl
 have hmok : dok (g.1 ++ p.rec', g.2) := ⟨by show (g.1 ++ p.rec').length ≤ _; rw [List.length_append]; omega, hgok.2.1, hgok.2.2⟩
 refine seq_k fun _ hK1 => ?_; refine region_k glw_ok fun _ hK2 => ?_
 refine sS fun _ hS => ?_; (repeat refine aI qTg0 ?_); apply hS; clear hS
 refine sS fun _ hS => ?_; (repeat refine aI qTg0 ?_); apply hS; clear hS
 refine sS1 ?_
 refine s_nil ?_; apply hK2; apply hK1; refine seq_k fun _ hK3 => ?_; refine region_k glw_ok fun _ hK4 => ?_
 refine sS fun _ hS => ?_; (repeat first | refine aI qTg0 ?_ | refine whole_yes qTg0 ?_ | refine whole_sub ?_); (first | apply hS | (intro cap0 hcap0; apply hS)); clear hS
 refine sS1 ?_
 refine s_nil ?_; apply hK4; apply hK3; refine seq_k fun _ hK5 => ?_
 refine leW [0] (fun _ => 1) [(2, .c (.dp (logC x) 0)), (3, .c (.ptr 0 0)), (5, .c (.bool true))] [(0, .own 33 (.cells (rawC r)) 3)] 1 [1] ?_ ?_ ?_ ?_ ?_
 ·exact uTg0
 ·exact uTg0
 ·exact uTg0
 ·exact uTg0
 refine region_k glw_ok fun _ hK6 => ?_
 refine sS fun _ hS => ?_; (repeat refine aI qTg0 ?_); (first | apply hS | (refine whole_yes qTg0 ?_; apply hS) | (refine whole_sub ?_; apply hS)); clear hS
 refine sS fun _ hS => ?_; (repeat first | refine aI qTg0 ?_ | refine whole_yes qTg0 ?_ | refine whole_sub ?_); refine aI (log_plain x).noclo ?_; refine viewL_plain (log_plain x) ?_; refine ⟨x, rfl, hx, ?_⟩; rw [hfv]; simp only [List.flatMap_cons, List.flatMap_nil, ids_log, List.append_nil, Heap.delAll]; (repeat refine aI qTg0 ?_); (first | apply hS | (intro cap1 hcap1; apply hS)); clear hS
 refine sS1 ?_
 refine sS fun _ hS => ?_; (repeat refine aI qTg0 ?_); apply hS; clear hS
 refine sS fun _ hS => ?_; (repeat refine aI qTg0 ?_); apply hS; clear hS
 refine sS fun _ hS => ?_; (repeat refine aI qTg0 ?_); apply hS; clear hS
 refine sS fun _ hS => ?_; (repeat refine aI qTg0 ?_); apply hS; clear hS
 refine sS1 ?_
 refine sS0 fun _ hS => ?_; (repeat refine aI qTg0 ?_); (first | apply hS | (refine splice_full qTg0 ?_; apply hS)); clear hS
 refine sS1 ?_
 refine s_nil ?_; apply hK6; apply hK5; refine seq_k fun _ hK7 => ?_; refine seq_k fun _ hK8 => ?_
 refine leW [1] id [(2, .c (.dp (logC x) 0)), (3, .c (.ptr 0 0)), (5, .c (.bool true)), (7, .c (.dp (.cells [.ds d.1.length (.u8s d.1), .int .i64 d.2]) 0)), (8, .c (.bool true))] [(0, .own 33 (.cells (rawC r)) 3)] 1 [0] ?_ ?_ ?_ ?_ ?_
 ·exact uTg0
 ·exact uTg0
 ·exact uTg0
 ·exact uTg0
 refine region_k glw_ok fun _ hK9 => ?_
 iterate 2 refine sS1 ?_
 refine s_nil ?_; apply hK9; apply hK8
 refine WP_cond (b := _) rfl (fun h_t30 => ?_) (fun _ => ?_)
 ·exfalso; simp at h_t30
 refine WP_skip ?_; apply hK7; refine seq_k fun _ hK10 => ?_; refine region_k glw_ok fun _ hK11 => ?_
 refine sS fun _ hS => ?_; (repeat refine aI qTg0 ?_); (first | apply hS | (refine whole_yes qTg0 ?_; apply hS) | (refine whole_sub ?_; apply hS)); clear hS
 refine sS fun _ hS => ?_; (repeat refine aI qTg0 ?_); (first | apply hS | (refine whole_yes qTg0 ?_; apply hS) | (refine whole_sub ?_; apply hS)); clear hS
 refine sS fun _ hS => ?_; (repeat first | refine aI qTg0 ?_ | refine whole_yes qTg0 ?_ | refine whole_sub ?_); refine aI (log_plain x).noclo ?_; refine viewL_plain (log_plain x) ?_; refine ⟨d, x, rfl, ⟨hdok, hx⟩, ?_⟩; rw [← he]; simp only [List.flatMap_cons, List.flatMap_nil, ids_disk, ids_log, List.append_nil, Heap.delAll]; (repeat refine aI qTg0 ?_); (first | apply hS | (intro cap2 hcap2; apply hS)); clear hS
 refine sS fun _ hS => ?_; (repeat refine aI qTg0 ?_); apply hS; clear hS
 refine sS0 fun _ hS => ?_; (repeat refine aI qTg0 ?_); (first | apply hS | (refine splice_full qTg0 ?_; apply hS)); clear hS; refine s_nil ?_; apply hK11; apply hK10; refine seq_k fun _ hK12 => ?_
 refine leW [1] id [(2, .c (.dp (logC x) 0)), (3, .c (.ptr 0 0)), (5, .c (.bool true)), (9, .c (.dp (.cells [.ds e.1.length (.u8s e.1), .int .i64 e.2]) 0))] [(0, .own 33 (.cells (rawC r)) 3)] 1 [0] ?_ ?_ ?_ ?_ ?_
 ·exact uTg0
 ·exact uTg0
 ·exact uTg0
 ·exact uTg0
 refine region_k glw_ok fun _ hK13 => ?_
 refine sS fun _ hS => ?_; (repeat refine aI qTg0 ?_); (first | apply hS | (refine whole_yes qTg0 ?_; apply hS) | (refine whole_sub ?_; apply hS)); clear hS
 refine sS fun _ hS => ?_; (repeat refine aI qTg0 ?_); apply hS; clear hS
 refine s_stepA rfl (by decide) rfl fun _ hS => ?_
 repeat refine aI qTg0 ?_
 first | refine hS _ (.agg (.u8s x.secret)) _ _ (log_secA hx) ?_ | (refine whole_yes qTg0 ?_; refine hS _ (.agg (.u8s x.secret)) _ _ (log_secA hx) ?_) | (refine whole_sub ?_; refine hS _ (.agg (.u8s x.secret)) _ _ (log_secA hx) ?_)
 clear hS
 refine sS fun _ hS => ?_; (repeat first | refine aI qTg0 ?_ | refine whole_yes qTg0 ?_ | refine whole_sub ?_); refine ⟨e, x.secret, rfl, ⟨heok, hsec⟩, ?_⟩; rw [← hg]; (repeat refine aI qTg0 ?_); (first | apply hS | (intro cap3 hcap3; apply hS)); clear hS
 refine sS fun _ hS => ?_; (repeat refine aI qTg0 ?_); apply hS; clear hS
 refine sS0 fun _ hS => ?_; (repeat refine aI qTg0 ?_); (first | apply hS | (refine splice_full qTg0 ?_; apply hS)); clear hS; refine s_nil ?_; apply hK13; apply hK12; refine seq_k fun _ hK14 => ?_
 refine leW [1] id [(2, .c (.dp (logC x) 0)), (3, .c (.ptr 0 0)), (5, .c (.bool true)), (9, .c (.dp (.cells [.ds e.1.length (.u8s e.1), .int .i64 e.2]) 0)), (10, .c (.dp (.cells [.ds g.1.length (.u8s g.1), .int .i64 g.2]) 0))] [(0, .own 33 (.cells (rawC r)) 3)] 1 [0] ?_ ?_ ?_ ?_ ?_
 ·exact uTg0
 ·exact uTg0
 ·exact uTg0
 ·exact uTg0
 refine region_k glw_ok fun _ hK15 => ?_
 refine sS fun _ hS => ?_; (repeat refine aI qTg0 ?_); (first | apply hS | (refine whole_yes qTg0 ?_; apply hS) | (refine whole_sub ?_; apply hS)); clear hS
 refine sS fun _ hS => ?_; (repeat refine aI qTg0 ?_); apply hS; clear hS
 refine s_stepA rfl (by decide) rfl fun _ hS => ?_
 repeat refine aI qTg0 ?_
 first | refine hS _ (.agg (.u8s x.secret)) _ _ (log_secA hx) ?_ | (refine whole_yes qTg0 ?_; refine hS _ (.agg (.u8s x.secret)) _ _ (log_secA hx) ?_) | (refine whole_sub ?_; refine hS _ (.agg (.u8s x.secret)) _ _ (log_secA hx) ?_)
 clear hS
 refine sS fun _ hS => ?_; (repeat first | refine aI qTg0 ?_ | refine whole_yes qTg0 ?_ | refine whole_sub ?_); refine ⟨g, x.secret, rfl, ⟨hgok, hsec⟩, ?_⟩; rw [loadV_eq (show loadL (corF x.secret) g = ((tw, g.1.length), 0) by rw [hg, htw]; exact rep_load hev)]; (repeat refine aI qTg0 ?_); (first | apply hS | (intro cap3 hcap3; apply hS)); clear hS
 refine sS1 ?_
 refine sS fun _ hS => ?_; (repeat refine aI qTg0 ?_); apply hS; clear hS
 refine sS fun _ hS => ?_; (repeat refine aI qTg0 ?_); apply hS; clear hS
 refine sS fun _ hS => ?_; (repeat refine aI qTg0 ?_); apply hS; clear hS
 iterate 3 refine sS1 ?_
 refine s_nil ?_; apply hK15; apply hK14; refine seq_k fun _ hK16 => ?_
 refine leW [] id [(2, .c (.dp (logC x) 0)), (3, .c (.ptr 0 0)), (5, .c (.bool true)), (9, .c (.dp (.cells [.ds e.1.length (.u8s e.1), .int .i64 e.2]) 0)), (10, .c (.dp (.cells [.ds g.1.length (.u8s g.1), .int .i64 g.2]) 0)), (11, psV tw), (12, .c (.int .i64 (g.1.length : Nat))), (13, .c (.int .i64 0))] [(0, .own 33 (.cells (rawC r)) 3)] 1 [0] ?_ ?_ ?_ ?_ ?_
 ·exact uTg0
 ·exact uTg0
 ·exact uTg0
 ·exact uTg0
 refine region_k glw_ok fun _ hK17 => ?_
 refine sS fun _ hS => ?_; (repeat refine aI qTg0 ?_); (first | apply hS | (refine whole_yes qTg0 ?_; apply hS) | (refine whole_sub ?_; apply hS)); clear hS
 refine sS fun _ hS => ?_; (repeat refine aI qTg0 ?_); apply hS; clear hS
 refine s_stepA rfl (by decide) rfl fun _ hS => ?_
 repeat refine aI qTg0 ?_
 first | refine hS _ (.agg (.u8s x.secret)) _ _ (log_secA hx) ?_ | (refine whole_yes qTg0 ?_; refine hS _ (.agg (.u8s x.secret)) _ _ (log_secA hx) ?_) | (refine whole_sub ?_; refine hS _ (.agg (.u8s x.secret)) _ _ (log_secA hx) ?_)
 clear hS
 refine sS fun _ hS => ?_; (repeat first | refine aI qTg0 ?_ | refine whole_yes qTg0 ?_ | refine whole_sub ?_); refine ⟨e, x.secret, rfl, ⟨heok, hsec⟩, ?_⟩; rw [loadV_eq (show loadL (corF x.secret) e = ((al, total (Go.Sto.pieces e.1)), 0) by rw [hal]; exact load_all hev)]; (repeat refine aI qTg0 ?_); (first | apply hS | (intro cap3 hcap3; apply hS)); clear hS
 refine sS1 ?_
 refine sS fun _ hS => ?_; (repeat refine aI qTg0 ?_); apply hS; clear hS
 refine sS fun _ hS => ?_; (repeat refine aI qTg0 ?_); apply hS; clear hS
 refine sS fun _ hS => ?_; (repeat refine aI qTg0 ?_); apply hS; clear hS
 iterate 3 refine sS1 ?_
 refine s_nil ?_; apply hK17; apply hK16; refine seq_k fun _ hK18 => ?_
 refine leW [] id [(2, .c (.dp (logC x) 0)), (3, .c (.ptr 0 0)), (5, .c (.bool true)), (9, .c (.dp (.cells [.ds e.1.length (.u8s e.1), .int .i64 e.2]) 0)), (10, .c (.dp (.cells [.ds g.1.length (.u8s g.1), .int .i64 g.2]) 0)), (11, psV tw), (12, .c (.int .i64 (g.1.length : Nat))), (13, .c (.int .i64 0)), (14, psV al), (16, .c (.int .i64 0))] [(0, .own 33 (.cells (rawC r)) 3)] 1 [0] ?_ ?_ ?_ ?_ ?_
 ·exact uTg0
 ·exact uTg0
 ·exact uTg0
 ·exact uTg0
 refine region_k glw_ok fun _ hK19 => ?_
 refine sS fun _ hS => ?_; (repeat refine aI qTg0 ?_); apply hS; clear hS
 refine sS0 fun _ hS => ?_; (repeat refine aI qTg0 ?_); (first | apply hS | (refine splice_full qTg0 ?_; apply hS)); clear hS; refine s_nil ?_; apply hK19; apply hK18; refine seq_k fun _ hK20 => ?_; refine region_k glw_ok fun _ hK21 => ?_
 refine s_stepA rfl (by decide) rfl fun _ hS => ?_
 repeat refine aI qTg0 ?_
 first | refine hS _ (.agg (.cells (rawC (good r)))) _ _ (good_as r) ?_ | (refine whole_yes qTg0 ?_; refine hS _ (.agg (.cells (rawC (good r)))) _ _ (good_as r) ?_) | (refine whole_sub ?_; refine hS _ (.agg (.cells (rawC (good r)))) _ _ (good_as r) ?_)
 clear hS
 refine sS fun _ hS => ?_; (repeat refine aI qTg0 ?_); apply hS; clear hS
 refine sS fun _ hS => ?_; (repeat refine aI qTg0 ?_); apply hS; clear hS
 refine s_stepA rfl (by decide) rfl fun _ hS => ?_
 repeat refine aI qTg0 ?_
 first | refine hS _ (.agg (.u8s x.secret)) _ _ (log_secA hx) ?_ | (refine whole_yes qTg0 ?_; refine hS _ (.agg (.u8s x.secret)) _ _ (log_secA hx) ?_) | (refine whole_sub ?_; refine hS _ (.agg (.u8s x.secret)) _ _ (log_secA hx) ?_)
 clear hS
 refine sS fun _ hS => ?_; (repeat first | refine aI qTg0 ?_ | refine whole_yes qTg0 ?_ | refine whole_sub ?_); refine ⟨[good r], x.secret, rfl, ⟨by show 1 ≤ _; decide, hsec, fun s hs => by rw [List.mem_singleton.1 hs]; exact hrb⟩, ?_⟩; rw [made_one, ← hp]; (repeat refine aI qTg0 ?_); (first | apply hS | (intro cap4 hcap4; apply hS)); clear hS
 refine sS fun _ hS => ?_; (repeat refine aI qTg0 ?_); apply hS; clear hS
 refine s_stepA rfl (by decide) rfl fun _ hS => ?_
 repeat refine aI qTg0 ?_
 first | refine hS _ (pieceV p) _ _ (pcl_sub (one_wf hw1) (i := 0) rfl) ?_ | (refine whole_yes qTg0 ?_; refine hS _ (pieceV p) _ _ (pcl_sub (one_wf hw1) (i := 0) rfl) ?_) | (refine whole_sub ?_; refine hS _ (pieceV p) _ _ (pcl_sub (one_wf hw1) (i := 0) rfl) ?_)
 clear hS
 refine sS fun _ hS => ?_; (repeat refine aI qTg0 ?_); apply hS; clear hS
 refine sS0 fun _ hS => ?_; (repeat refine aI qTg0 ?_); (first | apply hS | (refine splice_full qTg0 ?_; apply hS)); clear hS; refine s_nil ?_; apply hK21; apply hK20; refine seq_k fun _ hK22 => ?_
 refine leW [2] id [(2, .c (.dp (logC x) 0)), (5, .c (.bool true)), (9, .c (.dp (.cells [.ds e.1.length (.u8s e.1), .int .i64 e.2]) 0)), (10, .c (.dp (.cells [.ds g.1.length (.u8s g.1), .int .i64 g.2]) 0)), (11, psV tw), (12, .c (.int .i64 (g.1.length : Nat))), (13, .c (.int .i64 0)), (14, psV al), (16, .c (.int .i64 0)), (17, .c (.dp (pieceC p) 0))] [] 0 [] ?_ ?_ ?_ ?_ ?_
 ·exact uTg0
 ·exact uTg0
 ·exact uTg0
 ·exact uTg0
 refine region_k glw_ok fun _ hK23 => ?_
 refine sS fun _ hS => ?_; (repeat refine aI qTg0 ?_); (first | apply hS | (refine whole_yes qTg0 ?_; apply hS) | (refine whole_sub ?_; apply hS)); clear hS
 refine sS fun _ hS => ?_; (repeat refine aI qTg0 ?_); (first | apply hS | (refine whole_yes qTg0 ?_; apply hS) | (refine whole_sub ?_; apply hS)); clear hS
 refine sS fun _ hS => ?_; (repeat first | refine aI qTg0 ?_ | refine whole_yes qTg0 ?_ | refine whole_sub ?_); refine aI (piece_noclo _) ?_; refine viewL_flat (piece_flat _) ?_; refine ⟨g, p, rfl, ⟨hgok, hw1, by omega⟩, ?_⟩; rw [putV_eq (show putL g p = ((g.1 ++ p.rec', g.2), 0) by rw [hg]; exact rep_put hev hpb heok.1)]; simp only [List.flatMap_cons, List.flatMap_nil, ids_piece, ids_disk, List.append_nil, Heap.delAll]; (repeat refine aI qTg0 ?_); (first | apply hS | (intro cap2 hcap2; apply hS)); clear hS
 refine sS1 ?_
 refine sS fun _ hS => ?_; (repeat refine aI qTg0 ?_); apply hS; clear hS
 refine sS fun _ hS => ?_; (repeat refine aI qTg0 ?_); apply hS; clear hS
 refine sS fun _ hS => ?_; (repeat refine aI qTg0 ?_); apply hS; clear hS
 refine sS0 fun _ hS => ?_; (repeat refine aI qTg0 ?_); (first | apply hS | (refine splice_full qTg0 ?_; apply hS)); clear hS
 refine sS1 ?_
 refine s_nil ?_; apply hK23; apply hK22; refine seq_k fun _ hK24 => ?_
 refine leW [0] id [(2, .c (.dp (logC x) 0)), (5, .c (.bool true)), (9, .c (.dp (.cells [.ds e.1.length (.u8s e.1), .int .i64 e.2]) 0)), (10, .c (.dp (.cells [.ds g.1.length (.u8s g.1), .int .i64 g.2]) 0)), (11, psV tw), (12, .c (.int .i64 (g.1.length : Nat))), (13, .c (.int .i64 0)), (14, psV al), (16, .c (.int .i64 0)), (17, .c (.dp (pieceC p) 0)), (18, .c (.dp (.cells [.ds (g.1 ++ p.rec').length (.u8s (g.1 ++ p.rec')), .int .i64 g.2]) 0)), (19, .c (.int .i64 0))] [] 0 [] ?_ ?_ ?_ ?_ ?_
 ·exact uTg0
 ·exact uTg0
 ·exact uTg0
 ·exact uTg0
 refine region_k glw_ok fun _ hK25 => ?_
 refine sS fun _ hS => ?_; (repeat refine aI qTg0 ?_); (first | apply hS | (refine whole_yes qTg0 ?_; apply hS) | (refine whole_sub ?_; apply hS)); clear hS
 refine sS fun _ hS => ?_; (repeat refine aI qTg0 ?_); apply hS; clear hS
 refine s_stepA rfl (by decide) rfl fun _ hS => ?_
 repeat refine aI qTg0 ?_
 first | refine hS _ (.agg (.u8s p.key)) _ _ (SV.as_agg (piece_key hw1)) ?_ | (refine whole_yes qTg0 ?_; refine hS _ (.agg (.u8s p.key)) _ _ (SV.as_agg (piece_key hw1)) ?_) | (refine whole_sub ?_; refine hS _ (.agg (.u8s p.key)) _ _ (SV.as_agg (piece_key hw1)) ?_)
 clear hS
 refine sS fun _ hS => ?_; (repeat refine aI qTg0 ?_); apply hS; clear hS
 refine s_stepA rfl (by decide) rfl fun _ hS => ?_
 repeat refine aI qTg0 ?_
 first | refine hS _ (.agg (.u8s x.secret)) _ _ (log_secA hx) ?_ | (refine whole_yes qTg0 ?_; refine hS _ (.agg (.u8s x.secret)) _ _ (log_secA hx) ?_) | (refine whole_sub ?_; refine hS _ (.agg (.u8s x.secret)) _ _ (log_secA hx) ?_)
 clear hS
 refine sS fun _ hS => ?_; (repeat first | refine aI qTg0 ?_ | refine whole_yes qTg0 ?_ | refine whole_sub ?_); refine ⟨(g.1 ++ p.rec', g.2), p.key, x.secret, rfl, ⟨hmok, hw1.1, hsec⟩, ?_⟩; rw [getV_eq (show getL (corF x.secret) (g.1 ++ p.rec', g.2) p.key = (p, 0) by rw [hg]; exact rep_get hev hpok hpc)]; simp only [List.flatMap_cons, List.flatMap_nil, ids_disk, ids_arr, List.append_nil, Heap.delAll]; (repeat refine aI qTg0 ?_); (first | apply hS | (intro cap5 hcap5; apply hS)); clear hS
 refine sS1 ?_
 refine sS fun _ hS => ?_; (repeat refine aI qTg0 ?_); apply hS; clear hS
 refine sS fun _ hS => ?_; (repeat refine aI qTg0 ?_); apply hS; clear hS
 refine sS fun _ hS => ?_; (repeat refine aI qTg0 ?_); apply hS; clear hS
 refine sS0 fun _ hS => ?_; (repeat refine aI qTg0 ?_); (first | apply hS | (refine splice_full qTg0 ?_; apply hS)); clear hS
 refine sS1 ?_
 refine s_nil ?_; apply hK25; apply hK24; refine seq_k fun _ hK26 => ?_; refine seq_k fun _ hK27 => ?_
 refine leW [0] id [(2, .c (.dp (logC x) 0)), (5, .c (.bool true)), (9, .c (.dp (.cells [.ds e.1.length (.u8s e.1), .int .i64 e.2]) 0)), (10, .c (.dp (.cells [.ds g.1.length (.u8s g.1), .int .i64 g.2]) 0)), (11, psV tw), (12, .c (.int .i64 (g.1.length : Nat))), (13, .c (.int .i64 0)), (14, psV al), (16, .c (.int .i64 0)), (17, .c (.dp (pieceC p) 0)), (18, .c (.dp (.cells [.ds (g.1 ++ p.rec').length (.u8s (g.1 ++ p.rec')), .int .i64 g.2]) 0)), (19, .c (.int .i64 0)), (20, .c (.dp (pieceC p) 0)), (21, .c (.int .i64 0))] [] 0 [] ?_ ?_ ?_ ?_ ?_
 ·exact uTg0
 ·exact uTg0
 ·exact uTg0
 ·exact uTg0
 refine quiet_k glw_ok (by kernel_rfl) fun _ hK28 => ?_
 refine qS fun _ hS => ?_; (repeat refine aI qTg0 ?_); apply hS; clear hS
 refine qS fun _ hS => ?_; (repeat refine aI qTg0 ?_); (first | apply hS | (refine whole_yes qTg0 ?_; apply hS) | (refine whole_sub ?_; apply hS)); clear hS
 refine qS fun _ hS => ?_; (repeat refine aI qTg0 ?_); apply hS; clear hS
 refine qS fun _ hS => ?_; (repeat refine aI qTg0 ?_); apply hS; clear hS
 refine qS fun _ hS => ?_; (repeat refine aI qTg0 ?_); (first | apply hS | (refine whole_yes qTg0 ?_; apply hS) | (refine whole_sub ?_; apply hS)); clear hS
 refine qS fun _ hS => ?_; (repeat refine aI qTg0 ?_); apply hS; clear hS
 refine qS fun _ hS => ?_; (repeat refine aI qTg0 ?_); apply hS; clear hS
 refine qS fun _ hS => ?_
 refine q_split hS (fun hb7 => ?_) (fun hb7 => ?_)
 ·exfalso; simp at hb7; omega
 clear hS
 refine qT fun _ hS => ?_; (repeat refine aI qTg0 ?_); apply hS; clear hS
 refine qT fun _ hS => ?_; (repeat refine aI qTg0 ?_); (first | apply hS | (refine whole_yes qTg0 ?_; apply hS) | (refine whole_sub ?_; apply hS)); clear hS
 refine qT fun _ hS => ?_; (repeat first | refine aI qTg0 ?_ | refine whole_yes qTg0 ?_ | refine whole_sub ?_); apply hS; clear hS
 refine qT fun _ hS => ?_; (repeat refine aI qTg0 ?_); apply hS; clear hS
 refine qT fun _ hS => ?_; (repeat refine aI qTg0 ?_); (first | apply hS | (refine whole_yes qTg0 ?_; apply hS) | (refine whole_sub ?_; apply hS)); clear hS
 refine qT fun _ hS => ?_; (repeat refine aI qTg0 ?_); apply hS; clear hS
 refine qT fun _ hS => ?_; (repeat refine aI qTg0 ?_); (first | apply hS | (refine whole_yes qTg0 ?_; apply hS) | (refine whole_sub ?_; apply hS)); clear hS
 refine qT fun _ hS => ?_; (repeat refine aI qTg0 ?_); apply hS; clear hS
 refine q_guardA (b := false) rfl (by decide) rfl rfl (fun _ _ hS => ?_) (fun e => absurd e (by decide))
 repeat refine aI qTg0 ?_
 first | refine hS _ (bytesV g.1) (as_dsE (by rw [Int.toNat_natCast]) (by rw [Int.toNat_natCast, Nat.mul_one]; rw [hg]; exact (rep_take hev).symm)) ?_ | (refine ite_yes qTg0 ?_; (repeat refine aI qTg0 ?_); refine hS _ (bytesV g.1) (as_dsE (by rw [Int.toNat_natCast]) (by rw [Int.toNat_natCast, Nat.mul_one]; rw [hg]; exact (rep_take hev).symm)) ?_)
 clear hS
 refine qT fun _ hS => ?_; (repeat first | refine aI qTg0 ?_ | refine whole_yes qTg0 ?_ | refine whole_sub ?_); apply hS; clear hS
 refine qT fun _ hS => ?_; (repeat refine aI qTg0 ?_); apply hS; clear hS
 refine qQ1 ?_
 refine q_nil ?_; apply hK28; apply hK27
 refine WP_cond (b := _) rfl (fun h_t96 => ?_) (fun _ => ?_)
 ·exfalso; first | (simp at h_t96; done) | (simp at h_t96; omega)
 refine WP_skip ?_; apply hK26; refine seq_k fun _ hK29 => ?_
 refine sched_k glw_ok [(0, true), (1, true), (2, true), (3, true), (4, true), (5, true), (6, true), (7, true), (8, true), (9, true), (10, true), (11, true), (12, true), (13, true), (14, true), (15, true), (16, false), (17, true), (18, true), (19, true), (20, true), (21, true), (22, true), (23, true), (24, true), (25, true), (26, true), (27, true), (28, true), (29, true), (30, true), (31, true), (32, true), (34, true), (33, false), (35, false), (36, true), (37, true), (38, true), (39, true), (40, true), (41, true), (42, true), (43, true), (44, true), (45, true), (46, true), (47, true), (48, false), (49, true), (50, true), (51, true), (52, true), (53, true)] rfl (by kernel_rfl) (by kernel_rfl) fun _ hK30 => ?_
 refine dD1 ?_
 refine dR fun _ hS => ?_; (repeat refine aI qTg0 ?_); apply hS; clear hS
 refine dR fun _ hS => ?_
 refine d_split hS (fun hb2 => ?_) (fun hb2 => ?_)
 rotate_left 1
 ·exfalso; first | (simp at hb2; done) | exact absurd hb2 (by decide)
 clear hS
 refine dT fun _ hS => ?_; apply hS; clear hS
 refine dT fun _ hS => ?_; (repeat refine aI qTg0 ?_); apply hS; clear hS
 refine dD1 ?_
 refine dR fun _ hS => ?_
 refine d_split hS (fun hb6 => ?_) (fun hb6 => ?_)
 rotate_left 1
 ·exfalso; first | (simp at hb6; done) | exact absurd hb6 (by decide)
 clear hS
 refine dT fun _ hS => ?_; apply hS; clear hS
 refine dT fun _ hS => ?_; (repeat refine aI qTg0 ?_); apply hS; clear hS
 refine dT fun _ hS => ?_; (repeat refine aI qTg0 ?_); (first | apply hS | (refine whole_yes qTg0 ?_; apply hS) | (refine whole_sub ?_; apply hS)); clear hS
 refine dT fun _ hS => ?_; (repeat refine aI qTg0 ?_); apply hS; clear hS
 refine dT fun _ hS => ?_; (repeat refine aI qTg0 ?_); apply hS; clear hS
 refine dD1 ?_
 refine dR fun _ hS => ?_
 refine d_split hS (fun hb13 => ?_) (fun hb13 => ?_)
 rotate_left 1
 ·exfalso; first | (simp at hb13; done) | exact absurd hb13 (by decide)
 clear hS
 refine dT fun _ hS => ?_; apply hS; clear hS
 refine dT fun _ hS => ?_; apply hS; clear hS
 refine d_growg (b := true) rfl rfl (by decide) rfl rfl (fun _ _ hS => ?_) (fun e => absurd e (by decide))
 repeat first | refine aI qTg0 ?_ | refine whole_yes qTg0 ?_ | refine whole_sub ?_
 refine ⟨al, tw, rfl, ⟨wf_of haok, wf_of htok, by have := hall; omega, by have := htl; omega, b_of haok, b_of htok⟩, ?_⟩
 rw [(show begB al tw = true by rw [hal, htw]; exact rep_beg _)]
 repeat refine aI qTg0 ?_
 first | apply hS | (intro cap16 hcap16; apply hS)
 clear hS
 refine dD1 ?_
 refine dR fun _ hS => ?_
 refine d_split hS (fun hb18 => ?_) (fun hb18 => ?_)
 rotate_left 1
 ·exfalso; first | (simp at hb18; done) | exact absurd hb18 (by decide)
 clear hS
 refine dT fun _ hS => ?_; (repeat refine aI qTg0 ?_); apply hS; clear hS
 refine dT fun _ hS => ?_; (repeat refine aI qTg0 ?_); (first | apply hS | (refine whole_yes qTg0 ?_; apply hS) | (refine whole_sub ?_; apply hS)); clear hS
 refine dT fun _ hS => ?_; (repeat refine aI qTg0 ?_); apply hS; clear hS
 refine dT fun _ hS => ?_; (repeat refine aI qTg0 ?_); (first | apply hS | (refine whole_yes qTg0 ?_; apply hS) | (refine whole_sub ?_; apply hS)); clear hS
 refine dT fun _ hS => ?_; (repeat refine aI qTg0 ?_); apply hS; clear hS
 refine dT fun _ hS => ?_; (repeat refine aI qTg0 ?_); (first | apply hS | (refine whole_yes qTg0 ?_; apply hS) | (refine whole_sub ?_; apply hS)); clear hS
 refine dT fun _ hS => ?_; (repeat refine aI qTg0 ?_); apply hS; clear hS
 refine d_readgA (b := true) rfl rfl (by decide) rfl rfl (fun _ _ hS => ?_) (fun e => absurd e (by decide))
 repeat refine aI qTg0 ?_
 refine hS _ (.c (.int .i64 g.2)) (as_eq (by congr 2; have := (show g.2 = min e.2 ((g.1.length : Nat) : Int) by rw [hg]; exact rep_sync hev); rw [this]; split <;> omega)) ?_
 clear hS
 refine dT fun _ hS => ?_; (repeat refine aI qTg0 ?_); apply hS; clear hS
 refine dD1 ?_
 refine dR fun _ hS => ?_
 refine d_split hS (fun hb29 => ?_) (fun hb29 => ?_)
 rotate_left 1
 ·exfalso; first | (simp at hb29; done) | exact absurd hb29 (by decide)
 clear hS
 refine dT fun _ hS => ?_; (repeat refine aI qTg0 ?_); (first | apply hS | (refine whole_yes qTg0 ?_; apply hS) | (refine whole_sub ?_; apply hS)); clear hS
 refine dT fun _ hS => ?_; (repeat refine aI qTg0 ?_); apply hS; clear hS
 refine d_readgA (b := true) rfl rfl (by decide) rfl rfl (fun _ _ hS => ?_) (fun e => absurd e (by decide))
 repeat refine aI qTg0 ?_
 first | refine hS _ (.agg (.u8s x.secret)) (log_secA hx) ?_ | (refine whole_yes qTg0 ?_; refine hS _ (.agg (.u8s x.secret)) (log_secA hx) ?_) | (refine whole_sub ?_; refine hS _ (.agg (.u8s x.secret)) (log_secA hx) ?_)
 clear hS
 refine dT fun _ hS => ?_; (repeat refine aI qTg0 ?_); (first | apply hS | (refine whole_yes qTg0 ?_; apply hS) | (refine whole_sub ?_; apply hS)); clear hS
 refine d_growg (b := true) rfl rfl (by decide) rfl rfl (fun _ _ hS => ?_) (fun e => absurd e (by decide))
 repeat first | refine aI qTg0 ?_ | refine whole_yes qTg0 ?_ | refine whole_sub ?_
 refine ⟨g, x.secret, rfl, ⟨hgok, hsec⟩, ?_⟩
 rw [show repairL (corF x.secret) g = g by rw [hg]; exact rep_again hev]
 repeat refine aI qTg0 ?_
 first | apply hS | (intro cap33 hcap33; apply hS)
 clear hS
 refine d_growg (b := true) rfl rfl (by decide) rfl rfl (fun _ _ hS => ?_) (fun e => absurd e (by decide))
 repeat first | refine aI qTg0 ?_ | refine whole_yes qTg0 ?_ | refine whole_sub ?_
 refine ⟨g, g, rfl, ⟨by omega, by omega⟩, ?_⟩
 rw [true_same]
 repeat refine aI qTg0 ?_
 first | apply hS | (intro cap35 hcap35; apply hS)
 clear hS
 refine dD1 ?_
 refine dR fun _ hS => ?_
 refine d_split hS (fun hb37 => ?_) (fun hb37 => ?_)
 rotate_left 1
 ·exfalso; first | (simp at hb37; done) | exact absurd hb37 (by decide)
 clear hS
 refine dT fun _ hS => ?_; apply hS; clear hS
 refine dT fun _ hS => ?_; (repeat refine aI qTg0 ?_); apply hS; clear hS
 refine dD1 ?_
 refine dR fun _ hS => ?_
 refine d_split hS (fun hb41 => ?_) (fun hb41 => ?_)
 rotate_left 1
 ·exfalso; first | (simp at hb41; done) | exact absurd hb41 (by decide)
 clear hS
 refine dT fun _ hS => ?_; apply hS; clear hS
 refine dT fun _ hS => ?_; (repeat refine aI qTg0 ?_); apply hS; clear hS
 refine dD1 ?_
 refine dR fun _ hS => ?_
 refine d_split hS (fun hb45 => ?_) (fun hb45 => ?_)
 rotate_left 1
 ·exfalso; first | (simp at hb45; done) | exact absurd hb45 (by decide)
 clear hS
 refine dT fun _ hS => ?_; (repeat refine aI qTg0 ?_); (first | apply hS | (refine whole_yes qTg0 ?_; apply hS) | (refine whole_sub ?_; apply hS)); clear hS
 refine dT fun _ hS => ?_; (repeat refine aI qTg0 ?_); (first | apply hS | (refine whole_yes qTg0 ?_; apply hS) | (refine whole_sub ?_; apply hS)); clear hS
 refine d_growg (b := true) rfl rfl (by decide) rfl rfl (fun _ _ hS => ?_) (fun e => absurd e (by decide))
 repeat first | refine aI qTg0 ?_ | refine whole_yes qTg0 ?_ | refine whole_sub ?_
 refine aI (piece_noclo _) ?_
 refine viewL_flat (piece_flat _) ?_
 refine aI (piece_noclo _) ?_
 refine viewL_flat (piece_flat _) ?_
 refine ⟨p, p, rfl, ⟨hw1, hw1, by omega, by omega⟩, ?_⟩
 rw [true_same]
 repeat refine aI qTg0 ?_
 first | apply hS | (intro cap48 hcap48; apply hS)
 clear hS
 refine dD1 ?_
 refine dR fun _ hS => ?_
 refine d_split hS (fun hb50 => ?_) (fun hb50 => ?_)
 rotate_left 1
 ·exfalso; first | (simp at hb50; done) | exact absurd hb50 (by decide)
 clear hS
 refine dT fun _ hS => ?_; apply hS; clear hS
 iterate 2 refine dD1 ?_
 refine d_nil ?_; apply hK30; apply hK29
 refine WP_ret (Done_flat glw_ok (fun _ _ h => h) (by first | rfl | assumption) [.tmp 4] rfl ?_)
 repeat refine aI (by first | omega | exact trivial | rfl | (simp <;> omega)) ?_
 try refine ite_yes (by first | omega | exact trivial | rfl | (simp <;> omega)) ?_
 show _ = _
 rfl


end Go.Proofs.YtnhmglhbhnhnhaaDoor
