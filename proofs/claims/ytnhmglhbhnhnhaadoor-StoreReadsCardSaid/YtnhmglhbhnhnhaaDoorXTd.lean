/- The law: what is read back. -/
import Derived.Test.YtnhmglhbhnhnhaaDoorPe
namespace Go.Proofs.YtnhmglhbhnhnhaaDoor
set_option linter.unusedVariables false
open Go.Ab Go.RowKit

theorem qTd0 {a : Prop} (h : a := by first | exact vcA | (simp <;> omega) | exact (log_len hx).symm | exact log_len hx | (rw [log_len hx]; decide) | (show _ ≤ (logC x).len; rw [log_len hx]; decide) | exact (log_plain _).solid | exact hsec.symm | exact hsec | exact (pieceC_len hw1).symm | exact pieceC_len hw1 | (rw [pieceC_len hw1]; decide) | exact (pieceC_len hqw).symm | exact pieceC_len hqw | (rw [pieceC_len hqw]; decide) | exact pieceC_solid _ | exact hkl | exact hkl.symm | (show _ < (pcl ps).length; rw [pcl_len hpw]; omega) | (show _ ≤ (pcl ps).length; rw [pcl_len hpw]; omega) | (show _ < (pcl bk).length; rw [pcl_len hbw]; omega) | (show _ ≤ (pcl bk).length; rw [pcl_len hbw]; omega) | exact hsw.1 | exact hsw.1.trans hkl.symm | exact (hsw.1) | exact vcB) : a := h
theorem uTd0 {a : Prop} (h : a := by
    repeat' (first | exact trivial | refine aI ?_ ?_ | exact cC0 | refine low_cons' ?_ ?_ | exact cC1 | fail)
    all_goals first | (show _ = anyK kk _; rw [anyK_succ hks]; first | (rw [hb1]; rfl) | (simp only [hb1, Bool.false_or]; simp; done)) | omega | exact pcl_isD _ | exact pieceC_isD _ | exact (log_plain _).isD | exact raw_isD _ | exact crc_isD _ _ _ | (show (0 : Nat) < (logC x).len; rw [log_len hx]; decide) | (show (0 : Nat) < (pieceC _).len; rw [pieceC_len hw1]; decide) | (show (0 : Nat) < (pieceC _).len; rw [pieceC_len hqw]; decide) | (show (0 : Nat) < List.length _; first | (rw [hsec]; decide) | (rw [hkl]; decide)) | (show (0 : Nat) < List.length _; rw [hol]; decide) | (simp; done) | skip) : a := h
open Go.Sto
attribute [local irreducible] logL logPs logD durN recs madeL key4
def lawReadsS : QSpec := fun vs K => ∃ (x : Log) (key : UInt8), vs = [.agg (logC x), .c (.u8 key)] ∧ x.ok ∧ K (.c (.bool true))
set_option maxHeartbeats 4000000 in
theorem lawReads_ok : FlatOK Tryd.prog gl 5 lawReadsS := by
 refine flat_of (Γ := glw) (N := 120) Tryd.func5 rfl rfl fun vs K h => ?_
 obtain ⟨x, key, rfl, hx, h⟩ := h
 refine ⟨_, h, rfl, by simp, fun w I => ?_⟩
 obtain ⟨ps, hps⟩ : ∃ ps, ps = logPs x := ⟨_, rfl⟩
 obtain ⟨d, hd⟩ : ∃ d, d = logD x := ⟨_, rfl⟩
 have hfv : filledV x = .tup [psP ps, .agg (.cells [.ds d.1.length (.u8s d.1), .int .i64 d.2]), .c (.bool true)] := by rw [filledV, ← hps, ← hd]
 have hdok : dok d := hd ▸ logD_ok x
 have hd0 := (hd ▸ logD_dur x : 0 ≤ d.2 ∧ d.2 ≤ (d.1.length : Nat))
 have hdl : d.1.length ≤ 756 := hd ▸ logD_len x
 have hsec := hx.sec
 obtain ⟨bk, hbk⟩ : ∃ bk, bk = ps.filter (corF x.secret) := ⟨_, rfl⟩
 obtain ⟨kk, hkk⟩ : ∃ kk, kk = key4 key := ⟨_, rfl⟩
 have hkl : kk.length = 32 := hkk ▸ key4_len key
 obtain ⟨g, hg⟩ : ∃ g, g = getF (corF x.secret) kk ps := ⟨_, rfl⟩
 have hpok : ∀ s ∈ ps, s.ok := hps ▸ logPs_ok x
 have hpl : ps.length ≤ 6 := hps ▸ logPs_len x
 have hpw : allWf ps := wf_of hpok
 have hbok : ∀ s ∈ bk, s.ok := fun s hs => hpok s (by rw [hbk] at hs; exact (List.mem_filter.1 hs).1)
 have hbw : allWf bk := wf_of hbok
 have hbl : bk.length ≤ 6 := by rw [hbk]; exact Nat.le_trans (List.length_filter_le _ _) hpl
 have hgok : g.1.ok := hg ▸ getF_ok hpok
 have hqw : Piece.wf g.1 := Piece.ok.wf hgok
 have hgb := hgok.2.2
 have hload : loadL (corF x.secret) d = ((bk, d.1.length), 0) := by rw [hd, load_log, ← hps, ← hbk]
 have hget : getL (corF x.secret) d kk = g := by rw [hd, get_log, ← hps, ← hg]
 refine seq_k fun _ hK1 => ?_; refine region_k glw_ok fun _ hK2 => ?_
 refine sS fun _ hS => ?_; (repeat refine aI qTd0 ?_); apply hS; clear hS
 refine sS1 ?_
 refine s_nil ?_; apply hK2; apply hK1; refine seq_k fun _ hK3 => ?_; refine region_k glw_ok fun _ hK4 => ?_
 refine sS fun _ hS => ?_; (repeat first | refine aI qTd0 ?_ | refine whole_yes qTd0 ?_ | refine whole_sub ?_); (first | apply hS | (intro cap0 hcap0; apply hS)); clear hS
 refine sS1 ?_
 refine s_nil ?_; apply hK4; apply hK3; refine seq_k fun _ hK5 => ?_
 refine leW [0] id [(1, .c (.u8 key)), (2, .c (.dp (logC x) 0)), (5, .c (.bool true))] [] 0 [] ?_ ?_ ?_ ?_ ?_
 ·exact uTd0
 ·exact uTd0
 ·exact uTd0
 ·exact uTd0
 refine region_k glw_ok fun _ hK6 => ?_
 refine sS fun _ hS => ?_; (repeat refine aI qTd0 ?_); (first | apply hS | (refine whole_yes qTd0 ?_; apply hS) | (refine whole_sub ?_; apply hS)); clear hS
 refine sS fun _ hS => ?_; (repeat first | refine aI qTd0 ?_ | refine whole_yes qTd0 ?_ | refine whole_sub ?_); refine aI (log_plain x).noclo ?_; refine viewL_plain (log_plain x) ?_; refine ⟨x, rfl, hx, ?_⟩; rw [hfv]; simp only [List.flatMap_cons, List.flatMap_nil, ids_log, List.append_nil, Heap.delAll]; (repeat refine aI qTd0 ?_); (first | apply hS | (intro cap1 hcap1; apply hS)); clear hS
 refine sS1 ?_
 refine sS fun _ hS => ?_; (repeat refine aI qTd0 ?_); apply hS; clear hS
 refine sS fun _ hS => ?_; (repeat refine aI qTd0 ?_); apply hS; clear hS
 refine sS fun _ hS => ?_; (repeat refine aI qTd0 ?_); apply hS; clear hS
 refine sS fun _ hS => ?_; (repeat refine aI qTd0 ?_); apply hS; clear hS
 refine sS1 ?_
 refine sS0 fun _ hS => ?_; (repeat refine aI qTd0 ?_); (first | apply hS | (refine splice_full qTd0 ?_; apply hS)); clear hS
 refine sS1 ?_
 refine s_nil ?_; apply hK6; apply hK5; refine seq_k fun _ hK7 => ?_
 refine leW [0] id [(1, .c (.u8 key)), (2, .c (.dp (logC x) 0)), (5, .c (.bool true)), (6, psV ps), (7, .c (.dp (.cells [.ds d.1.length (.u8s d.1), .int .i64 d.2]) 0)), (8, .c (.bool true))] [] 0 [] ?_ ?_ ?_ ?_ ?_
 ·exact uTd0
 ·exact uTd0
 ·exact uTd0
 ·exact uTd0
 refine region_k glw_ok fun _ hK8 => ?_
 refine sS fun _ hS => ?_; (repeat refine aI qTd0 ?_); (first | apply hS | (refine whole_yes qTd0 ?_; apply hS) | (refine whole_sub ?_; apply hS)); clear hS
 refine sS fun _ hS => ?_; (repeat refine aI qTd0 ?_); apply hS; clear hS
 refine s_stepA rfl (by decide) rfl fun _ hS => ?_
 repeat refine aI qTd0 ?_
 first | refine hS _ (.agg (.u8s x.secret)) _ _ (log_secA hx) ?_ | (refine whole_yes qTd0 ?_; refine hS _ (.agg (.u8s x.secret)) _ _ (log_secA hx) ?_) | (refine whole_sub ?_; refine hS _ (.agg (.u8s x.secret)) _ _ (log_secA hx) ?_)
 clear hS
 refine sS fun _ hS => ?_; (repeat first | refine aI qTd0 ?_ | refine whole_yes qTd0 ?_ | refine whole_sub ?_); refine ⟨d, x.secret, rfl, ⟨hdok, hsec⟩, ?_⟩; rw [loadV_eq hload]; (repeat refine aI qTd0 ?_); (first | apply hS | (intro cap3 hcap3; apply hS)); clear hS
 refine sS1 ?_
 refine sS fun _ hS => ?_; (repeat refine aI qTd0 ?_); apply hS; clear hS
 refine sS fun _ hS => ?_; (repeat refine aI qTd0 ?_); apply hS; clear hS
 refine sS fun _ hS => ?_; (repeat refine aI qTd0 ?_); apply hS; clear hS
 iterate 3 refine sS1 ?_
 refine s_nil ?_; apply hK8; apply hK7; refine seq_k fun _ hK9 => ?_; refine seq_k fun _ hK10 => ?_; refine region_k glw_ok fun _ hK11 => ?_
 iterate 2 refine sS1 ?_
 refine sS fun _ hS => ?_
 refine s_split hS (fun hb2 => ?_) (fun hb2 => ?_)
 ·exfalso; first | (simp at hb2; done) | exact absurd hb2 (by decide)
 clear hS
 refine sT fun _ hS => ?_; apply hS; clear hS
 refine sT fun _ hS => ?_; (repeat refine aI qTd0 ?_); apply hS; clear hS
 refine sS1 ?_
 refine sS fun _ hS => ?_
 refine s_split hS (fun hb6 => ?_) (fun hb6 => ?_)
 ·exfalso; first | (simp at hb6; done) | exact absurd hb6 (by decide)
 clear hS
 refine sT fun _ hS => ?_; apply hS; clear hS
 refine sT fun _ hS => ?_; (repeat refine aI qTd0 ?_); apply hS; clear hS
 refine sT fun _ hS => ?_; (repeat refine aI qTd0 ?_); (first | apply hS | (refine whole_yes qTd0 ?_; apply hS) | (refine whole_sub ?_; apply hS)); clear hS
 refine sT fun _ hS => ?_; (repeat refine aI qTd0 ?_); apply hS; clear hS
 refine sT fun _ hS => ?_; (repeat refine aI qTd0 ?_); apply hS; clear hS
 refine sS1 ?_
 refine sS fun _ hS => ?_
 refine s_split hS (fun hb13 => ?_) (fun hb13 => ?_)
 ·exfalso; first | (simp at hb13; done) | exact absurd hb13 (by decide)
 clear hS
 refine sT fun _ hS => ?_; apply hS; clear hS
 refine sT fun _ hS => ?_; apply hS; clear hS
 refine sT fun _ hS => ?_; (repeat refine aI qTd0 ?_); apply hS; clear hS
 refine s_guardA (b := false) rfl (by decide) rfl rfl (fun _ _ hS => ?_) (fun e => absurd e (by decide))
 repeat refine aI qTd0 ?_
 first | refine hS _ (.agg (.u8s x.secret)) _ _ (log_secA hx) ?_ | (refine whole_yes qTd0 ?_; refine hS _ (.agg (.u8s x.secret)) _ _ (log_secA hx) ?_) | (refine whole_sub ?_; refine hS _ (.agg (.u8s x.secret)) _ _ (log_secA hx) ?_)
 clear hS
 refine sT fun _ hS => ?_; (repeat first | refine aI qTd0 ?_ | refine whole_yes qTd0 ?_ | refine whole_sub ?_); refine ⟨ps, x.secret, rfl, ⟨hpw, by omega, fun s hs => (hpok s hs).2.2, hsec⟩, ?_⟩; rw [← hbk]; (repeat refine aI qTd0 ?_); (first | apply hS | (intro cap18 hcap18; apply hS)); clear hS
 refine sT fun _ hS => ?_; (repeat first | refine aI qTd0 ?_ | refine whole_yes qTd0 ?_ | refine whole_sub ?_); refine ⟨bk, bk, rfl, ⟨hbw, hbw, by omega, by omega, b_of hbok, b_of hbok⟩, ?_⟩; rw [true_same]; (repeat refine aI qTd0 ?_); (first | apply hS | (intro cap19 hcap19; apply hS)); clear hS
 refine sT fun _ hS => ?_; apply hS; clear hS
 refine sS1 ?_
 refine s_nil ?_; apply hK11; apply hK10
 refine WP_cond (b := _) rfl (fun h_t54 => ?_) (fun _ => ?_)
 ·exfalso; simp at h_t54
 refine WP_skip ?_; apply hK9; refine seq_k fun _ hK12 => ?_
 refine leW [] id [(1, .c (.u8 key)), (2, .c (.dp (logC x) 0)), (5, .c (.bool true)), (6, psV ps), (7, .c (.dp (.cells [.ds d.1.length (.u8s d.1), .int .i64 d.2]) 0)), (9, psV bk)] [] 0 [] ?_ ?_ ?_ ?_ ?_
 ·exact uTd0
 ·exact uTd0
 ·exact uTd0
 ·exact uTd0
 refine region_k glw_ok fun _ hK13 => ?_
 refine sS1 ?_
 refine sS fun _ hS => ?_; (repeat refine aI qTd0 ?_); apply hS; clear hS
 refine s_stepA rfl (by decide) rfl fun _ hS => ?_
 repeat refine aI qTd0 ?_
 refine hS _ (.agg (.u8s kk)) _ _ (hkk ▸ key4_as key) ?_
 clear hS
 refine sS fun _ hS => ?_; (repeat refine aI qTd0 ?_); apply hS; clear hS
 refine sS0 fun _ hS => ?_; (repeat refine aI qTd0 ?_); (first | apply hS | (refine splice_full qTd0 ?_; apply hS)); clear hS; refine s_nil ?_; apply hK13; apply hK12; refine seq_k fun _ hK14 => ?_
 refine leW [0] id [(2, .c (.dp (logC x) 0)), (5, .c (.bool true)), (6, psV ps), (7, .c (.dp (.cells [.ds d.1.length (.u8s d.1), .int .i64 d.2]) 0)), (9, psV bk), (12, .c (.dp (.u8s kk) 0))] [] 0 [] ?_ ?_ ?_ ?_ ?_
 ·exact uTd0
 ·exact uTd0
 ·exact uTd0
 ·exact uTd0
 refine region_k glw_ok fun _ hK15 => ?_
 refine sS fun _ hS => ?_; (repeat refine aI qTd0 ?_); (first | apply hS | (refine whole_yes qTd0 ?_; apply hS) | (refine whole_sub ?_; apply hS)); clear hS
 refine sS fun _ hS => ?_; (repeat refine aI qTd0 ?_); (first | apply hS | (refine whole_yes qTd0 ?_; apply hS) | (refine whole_sub ?_; apply hS)); clear hS
 refine sS fun _ hS => ?_; (repeat refine aI qTd0 ?_); apply hS; clear hS
 refine s_stepA rfl (by decide) rfl fun _ hS => ?_
 repeat refine aI qTd0 ?_
 first | refine hS _ (.agg (.u8s x.secret)) _ _ (log_secA hx) ?_ | (refine whole_yes qTd0 ?_; refine hS _ (.agg (.u8s x.secret)) _ _ (log_secA hx) ?_) | (refine whole_sub ?_; refine hS _ (.agg (.u8s x.secret)) _ _ (log_secA hx) ?_)
 clear hS
 refine sS fun _ hS => ?_; (repeat first | refine aI qTd0 ?_ | refine whole_yes qTd0 ?_ | refine whole_sub ?_); refine ⟨d, kk, x.secret, rfl, ⟨hdok, hkl, hsec⟩, ?_⟩; rw [hget]; (repeat refine aI qTd0 ?_); (first | apply hS | (intro cap4 hcap4; apply hS)); clear hS
 refine sS1 ?_
 refine sS fun _ hS => ?_; (repeat refine aI qTd0 ?_); apply hS; clear hS
 refine sS fun _ hS => ?_; (repeat refine aI qTd0 ?_); apply hS; clear hS
 refine sS fun _ hS => ?_; (repeat refine aI qTd0 ?_); apply hS; clear hS
 refine sS0 fun _ hS => ?_; (repeat refine aI qTd0 ?_); (first | apply hS | (refine splice_full qTd0 ?_; apply hS)); clear hS
 refine sS1 ?_
 refine s_nil ?_; apply hK15; apply hK14; refine seq_k fun _ hK16 => ?_
 refine leW [0] id [(2, .c (.dp (logC x) 0)), (5, .c (.bool true)), (6, psV ps), (7, .c (.dp (.cells [.ds d.1.length (.u8s d.1), .int .i64 d.2]) 0)), (9, psV bk), (12, .c (.dp (.u8s kk) 0)), (13, .c (.dp (pieceC g.1) 0)), (14, .c (.int .i64 (g.2 : Nat)))] [] 0 [] ?_ ?_ ?_ ?_ ?_
 ·exact uTd0
 ·exact uTd0
 ·exact uTd0
 ·exact uTd0
 refine region_k glw_ok fun _ hK17 => ?_
 refine sS1 ?_
 refine s_nil ?_; apply hK17; apply hK16; refine seq_k fun _ hK18 => ?_; refine seq_k fun _ hK19 => ?_; refine region_k glw_ok fun _ hK20 => ?_
 refine sS1 ?_
 refine s_nil ?_; apply hK20; apply hK19; refine WP_block ?_
 refine WP_loop (α := Nat) (fun k => [(2, .c (.dp (logC x) 0)), (5, .c (.bool true)), (6, psV ps), (7, .c (.dp (.cells [.ds d.1.length (.u8s d.1), .int .i64 d.2]) 0)), (9, psV bk), (12, .c (.dp (.u8s kk) 0)), (13, .c (.dp (pieceC g.1) 0)), (14, .c (.int .i64 (g.2 : Nat))), (15, .c (.bool (anyK kk (ps.take k)))), (16, .c (.int .i64 (k : Nat)))]) (fun k => []) 0 (fun k => k ≤ ps.length) (fun k => ps.length - k) ?_ ?_
 ·refine dnS [] id 0 (Nat.zero_le _) [] ?_ ?_ ?_ ?_
  ·exact uTd0
  ·exact uTd0
  ·exact uTd0
  ·exact uTd0
 ·intro k hk
  refine seq_k fun _ hK21 => ?_; refine seq_k fun _ hK22 => ?_; refine region_k glw_ok fun _ hK23 => ?_
  iterate 2 refine sS1 ?_
  refine sS fun _ hS => ?_; (repeat refine aI qTd0 ?_); apply hS; clear hS
  refine sS fun _ hS => ?_; (repeat refine aI qTd0 ?_); apply hS; clear hS; refine s_nil ?_; apply hK23; apply hK22
  refine WP_cond (b := _) rfl (fun h_t69 => ?_) (fun h_t69 => ?_)
  ·try simp only [dQ] at h_t69
   refine WP_skip ?_; apply hK21; refine seq_k fun _ hK24 => ?_; refine WP_block ?_
   obtain ⟨s, hks⟩ : ∃ s, ps[k]? = some s := ⟨_, List.getElem?_eq_getElem (by omega)⟩
   have hsw := hpw s (List.mem_of_getElem? hks)
   refine quiet_k glw_ok (by kernel_rfl) fun _ hK25 => ?_
   refine qQ1 ?_
   refine qS fun _ hS => ?_
   refine q_split hS (fun hb1 => ?_) (fun hb1 => ?_)
   ·clear hS
    try simp only [dQ, if_true, if_false, reduceIte] at hb1
    refine qN ?_; refine qN ?_; refine qN ?_; refine qN ?_; refine qN ?_; refine qN ?_; refine qN ?_
    iterate 2 refine qQ1 ?_
    refine q_nil ?_; apply hK25; refine done_block ?_; apply hK24; refine region_k glw_ok fun _ hK26 => ?_
    refine sS1 ?_
    refine sS fun _ hS => ?_; (repeat refine aI qTd0 ?_); apply hS; clear hS
    refine sS1 ?_
    refine s_nil ?_; apply hK26
    refine dnS [] id (k + 1) ⟨by omega, by omega⟩ [] ?_ ?_ ?_ ?_
    ·exact uTd0
    ·exact uTd0
    ·exact uTd0
    ·exact uTd0
   ·clear hS
    try simp only [dQ, if_true, if_false, reduceIte] at hb1
    refine qT fun _ hS => ?_; apply hS; clear hS
    refine qT fun _ hS => ?_; apply hS; clear hS
    refine qT fun _ hS => ?_; (repeat refine aI qTd0 ?_); apply hS; clear hS
    refine qT fun _ hS => ?_; (repeat refine aI qTd0 ?_); apply hS; clear hS
    refine q_guardA (b := false) rfl (by decide) rfl rfl (fun _ _ hS => ?_) (fun e => absurd e (by decide))
    repeat refine aI qTd0 ?_
    first | refine hS _ (.agg (.u8s s.key)) (pcl_keyI hpw hks) ?_ | (refine whole_yes qTd0 ?_; refine hS _ (.agg (.u8s s.key)) (pcl_keyI hpw hks) ?_) | (refine whole_sub ?_; refine hS _ (.agg (.u8s s.key)) (pcl_keyI hpw hks) ?_)
    clear hS
    refine qT fun _ hS => ?_; (repeat refine aI qTd0 ?_); (first | apply hS | (refine whole_yes qTd0 ?_; apply hS) | (refine whole_sub ?_; apply hS)); clear hS
    refine qT fun _ hS => ?_; (repeat refine aI qTd0 ?_); apply hS; clear hS
    iterate 2 refine qQ1 ?_
    refine q_nil ?_; apply hK25; refine done_block ?_; apply hK24; refine region_k glw_ok fun _ hK27 => ?_
    refine sS1 ?_
    refine sS fun _ hS => ?_; (repeat refine aI qTd0 ?_); apply hS; clear hS
    refine sS1 ?_
    refine s_nil ?_; apply hK27
    refine dnS [] id (k + 1) ⟨by omega, by omega⟩ [] ?_ ?_ ?_ ?_
    ·exact uTd0
    ·exact uTd0
    ·exact uTd0
    ·exact uTd0
  ·try simp only [dQ] at h_t69
   refine WP_exit ?_; refine done_thenx ?_; refine done_thenx ?_
   refine Done_hit ?_
   apply hK18; refine seq_k fun _ hK28 => ?_; refine seq_k fun _ hK29 => ?_; refine region_k glw_ok fun _ hK30 => ?_
   refine sS1 ?_
   refine sS fun _ hS => ?_; (repeat refine aI qTd0 ?_); apply hS; clear hS
   refine sS fun _ hS => ?_; (repeat refine aI qTd0 ?_); apply hS; clear hS
   refine sS1 ?_
   refine s_nil ?_; apply hK30; apply hK29; refine WP_block ?_
   obtain rfl : k = ps.length := by omega
   rw [List.take_length]
   refine WP_loop (α := Nat) (fun j => [(2, .c (.dp (logC x) 0)), (5, .c (.bool true)), (6, psV ps), (7, .c (.dp (.cells [.ds d.1.length (.u8s d.1), .int .i64 d.2]) 0)), (9, psV bk), (12, .c (.dp (.u8s kk) 0)), (13, .c (.dp (pieceC g.1) 0)), (14, .c (.int .i64 (g.2 : Nat))), (15, .c (.bool (anyK kk ps))), (17, .c (.int .i64 ((j : Int) - 1)))]) (fun j => []) 0 (fun j => j ≤ bk.length ∧ ∀ t ∈ bk.drop j, t.key ≠ kk) (fun j => j) ?_ ?_
   ·refine dnS [] id bk.length ⟨Nat.le_refl _, fun t ht => by rw [List.drop_length] at ht; cases ht⟩ [] ?_ ?_ ?_ ?_
    ·exact uTd0
    ·exact uTd0
    ·exact uTd0
    ·exact uTd0
   ·intro j hj
    refine seq_k fun _ hK31 => ?_; refine seq_k fun _ hK32 => ?_; refine region_k glw_ok fun _ hK33 => ?_
    refine sS1 ?_
    refine sS fun _ hS => ?_; (repeat refine aI qTd0 ?_); apply hS; clear hS; refine s_nil ?_; apply hK33; apply hK32
    refine WP_cond (b := _) rfl (fun h_t86 => ?_) (fun h_t86 => ?_)
    ·try simp only [dQ] at h_t86
     refine WP_skip ?_; apply hK31; refine seq_k fun _ hK34 => ?_; refine WP_block ?_; refine seq_k fun _ hK35 => ?_
     obtain ⟨i, rfl⟩ : ∃ i, j = i + 1 := ⟨j - 1, by omega⟩
     have hil : i < bk.length := by have := hj.1; omega
     obtain ⟨s, hks⟩ : ∃ s, bk[i]? = some s := ⟨_, List.getElem?_eq_getElem hil⟩
     have hsw := hbw s (List.mem_of_getElem? hks)
     have hsb := (hbok s (List.mem_of_getElem? hks)).2.2
     refine quiet_k glw_ok (by kernel_rfl) fun _ hK36 => ?_
     refine qQ1 ?_
     refine q_stepA rfl (by decide) rfl fun _ hS => ?_
     refine hS _ (.c (.int .i64 ((i : Nat) : Int))) (as_eq (congrArg (fun v => SV.c (.int .i64 v)) (by omega))) ?_
     clear hS
     refine qS fun _ hS => ?_; (repeat refine aI qTd0 ?_); apply hS; clear hS
     refine qS fun _ hS => ?_; (repeat refine aI qTd0 ?_); apply hS; clear hS
     refine q_stepA rfl (by decide) rfl fun _ hS => ?_
     repeat refine aI qTd0 ?_
     first | refine hS _ (.agg (.u8s s.key)) (pcl_keyI hbw hks) ?_ | (refine whole_yes qTd0 ?_; refine hS _ (.agg (.u8s s.key)) (pcl_keyI hbw hks) ?_) | (refine whole_sub ?_; refine hS _ (.agg (.u8s s.key)) (pcl_keyI hbw hks) ?_)
     clear hS
     refine qS fun _ hS => ?_; (repeat refine aI qTd0 ?_); (first | apply hS | (refine whole_yes qTd0 ?_; apply hS) | (refine whole_sub ?_; apply hS)); clear hS
     refine qS fun _ hS => ?_; (repeat refine aI qTd0 ?_); apply hS; clear hS; refine q_nil ?_; apply hK36; apply hK35
     refine WP_cond (b := _) rfl (fun h_t95 => ?_) (fun h_t95 => ?_)
     ·try simp only [dQ] at h_t95
      refine seq_k fun _ hK37 => ?_
      have hgs : g = (s, 0) := by rw [hg]; exact get_last hbk hks (by simpa using h_t95) (by have := hj.2; exact this)
      subst hgs
      refine quiet_k glw_ok (by kernel_rfl) fun _ hK38 => ?_
      refine qQ1 ?_
      refine qS fun _ hS => ?_; (repeat refine aI qTd0 ?_); apply hS; clear hS
      refine qS fun _ hS => ?_
      refine q_split hS (fun hb2 => ?_) (fun hb2 => ?_)
      rotate_left 1
      ·exfalso; first | (simp at hb2; done) | exact absurd hb2 (by decide)
      clear hS
      refine qT fun _ hS => ?_; (repeat refine aI qTd0 ?_); (first | apply hS | (refine whole_yes qTd0 ?_; apply hS) | (refine whole_sub ?_; apply hS)); clear hS
      refine qT fun _ hS => ?_; apply hS; clear hS
      refine q_guardA (b := true) rfl (by decide) rfl rfl (fun _ _ hS => ?_) (fun e => absurd e (by decide))
      refine hS _ (.c (.int .i64 ((i : Nat) : Int))) (as_eq (congrArg (fun v => SV.c (.int .i64 v)) (by omega))) ?_
      clear hS
      refine qT fun _ hS => ?_; (repeat refine aI qTd0 ?_); apply hS; clear hS
      refine q_guardA (b := true) rfl (by decide) rfl rfl (fun _ _ hS => ?_) (fun e => absurd e (by decide))
      repeat refine aI qTd0 ?_
      refine whole_sub ?_
      first | refine hS _ (pieceV s) (pcl_sub hbw hks) ?_ | (refine whole_yes qTd0 ?_; refine hS _ (pieceV s) (pcl_sub hbw hks) ?_) | (refine whole_sub ?_; refine hS _ (pieceV s) (pcl_sub hbw hks) ?_)
      clear hS
      refine qT fun _ hS => ?_
      repeat first | refine aI qTd0 ?_ | refine whole_yes qTd0 ?_ | refine whole_sub ?_
      refine aI (piece_noclo _) ?_
      refine viewL_flat (piece_flat _) ?_
      refine aI (piece_noclo _) ?_
      refine viewL_flat (piece_flat _) ?_
      refine ⟨s, s, rfl, ⟨hsw, hsw, by omega, by omega⟩, ?_⟩
      rw [true_same]
      repeat refine aI qTd0 ?_
      first | apply hS | (intro cap8 hcap8; apply hS)
      clear hS
      refine qQ1 ?_
      refine qS fun _ hS => ?_
      refine q_split hS (fun hb10 => ?_) (fun hb10 => ?_)
      rotate_left 1
      ·exfalso; first | (simp at hb10; done) | exact absurd hb10 (by decide)
      clear hS
      refine qT fun _ hS => ?_; apply hS; clear hS
      iterate 2 refine qQ1 ?_
      refine q_nil ?_; apply hK38; apply hK37
      refine WP_ret (Done_flat glw_ok (fun _ _ h => h) (by first | rfl | assumption) [.tmp 4] rfl ?_)
      repeat refine aI (by first | omega | exact trivial | rfl | (simp <;> omega)) ?_
      try refine ite_yes (by first | omega | exact trivial | rfl | (simp <;> omega)) ?_
      show _ = _
      rfl
     ·try simp only [dQ] at h_t95
      refine WP_skip ?_; refine done_block ?_; apply hK34; refine region_k glw_ok fun _ hK39 => ?_
      refine sS1 ?_
      refine sS fun _ hS => ?_; (repeat refine aI qTd0 ?_); apply hS; clear hS
      refine sS1 ?_
      refine s_nil ?_; apply hK39
      refine dnS [] id i ⟨⟨by omega, fun t ht => by
        rw [List.drop_eq_getElem_cons hil] at ht
        rcases List.mem_cons.1 ht with rfl | ht
        ·have e : bk[i] = s := by have := List.getElem?_eq_getElem hil; rw [hks] at this; exact (Option.some.inj this).symm
         rw [e]; simpa using h_t95
        ·exact hj.2 t ht⟩, Nat.lt_succ_self _⟩ [] ?_ ?_ ?_ ?_
      ·exact uTd0
      ·exact uTd0
      ·exact uTd0
      ·exact uTd0
    ·try simp only [dQ] at h_t86
     refine WP_exit ?_; refine done_thenx ?_; refine done_thenx ?_
     refine Done_hit ?_
     apply hK28; refine seq_k fun _ hK40 => ?_; refine seq_k fun _ hK41 => ?_; refine region_k glw_ok fun _ hK42 => ?_
     refine sS1 ?_
     refine s_nil ?_; apply hK42; apply hK41
     refine WP_cond (b := _) rfl (fun h_t109 => ?_) (fun h_t109 => ?_)
     ·skip
      refine seq_k fun _ hK43 => ?_
      have hg2 : g = (noPiece, 280) := by rw [hg, get_nothing hbk (fun t ht => hj.2 t (by rw [show j = 0 by omega, List.drop_zero]; exact ht)), if_pos h_t109]
      subst hg2
      refine region_k glw_ok fun _ hK44 => ?_
      refine sS1 ?_
      refine sS fun _ hS => ?_; (repeat refine aI qTd0 ?_); apply hS; clear hS
      refine sS fun _ hS => ?_
      refine s_split hS (fun hb2 => ?_) (fun hb2 => ?_)
      rotate_left 1
      ·exfalso; first | (simp at hb2; done) | exact absurd hb2 (by decide)
      clear hS
      refine sT fun _ hS => ?_; apply hS; clear hS
      iterate 2 refine sS1 ?_
      refine s_nil ?_; apply hK44; apply hK43
      refine WP_ret (Done_flat glw_ok (fun _ _ h => h) (by first | rfl | assumption) [.tmp 4] rfl ?_)
      repeat refine aI (by first | omega | exact trivial | rfl | (simp <;> omega)) ?_
      try refine ite_yes (by first | omega | exact trivial | rfl | (simp <;> omega)) ?_
      show _ = _
      rfl
     ·skip
      refine WP_skip ?_; apply hK40; refine seq_k fun _ hK45 => ?_
      have hg2 : g = (noPiece, 3) := by rw [hg, get_nothing hbk (fun t ht => hj.2 t (by rw [show j = 0 by omega, List.drop_zero]; exact ht)), if_neg (by simpa using h_t109)]
      subst hg2
      refine region_k glw_ok fun _ hK46 => ?_
      refine sS1 ?_
      refine sS fun _ hS => ?_; (repeat refine aI qTd0 ?_); apply hS; clear hS
      refine sS fun _ hS => ?_
      refine s_split hS (fun hb2 => ?_) (fun hb2 => ?_)
      rotate_left 1
      ·exfalso; first | (simp at hb2; done) | exact absurd hb2 (by decide)
      clear hS
      refine sT fun _ hS => ?_; apply hS; clear hS
      iterate 2 refine sS1 ?_
      refine s_nil ?_; apply hK46; apply hK45
      refine WP_ret (Done_flat glw_ok (fun _ _ h => h) (by first | rfl | assumption) [.tmp 4] rfl ?_)
      repeat refine aI (by first | omega | exact trivial | rfl | (simp <;> omega)) ?_
      try refine ite_yes (by first | omega | exact trivial | rfl | (simp <;> omega)) ?_
      show _ = _
      rfl


end Go.Proofs.YtnhmglhbhnhnhaaDoor
