/- The law: what is appended. -/
import Derived.Test.YtnhmglhbhnhnhaaDoorPe
namespace Go.Proofs.YtnhmglhbhnhnhaaDoor
set_option linter.unusedVariables false
open Go.Ab Go.RowKit

theorem qTh0 {a : Prop} (h : a := by first | exact vcA | (simp <;> omega) | exact (log_len hx).symm | exact log_len hx | (rw [log_len hx]; decide) | (show _ ≤ (logC x).len; rw [log_len hx]; decide) | exact (log_plain _).solid | exact hsec.symm | exact hsec | exact (pieceC_len hw1).symm | exact pieceC_len hw1 | (rw [pieceC_len hw1]; decide) | exact (pieceC_len hqw).symm | exact pieceC_len hqw | (rw [pieceC_len hqw]; decide) | exact pieceC_solid _ | (show (0 : Nat) < (pcl [p]).length; rw [pcl_len (one_wf hw1)]; exact (by decide : (0 : Nat) < 65)) | (show (65 : Nat) ≤ (pcl [p]).length; rw [pcl_len (one_wf hw1)]; exact (by decide : (65 : Nat) ≤ 65)) | (show 0 + _ * 1 ≤ List.length _; simp; done) | exact ⟨by omega, by omega, trivial⟩ | (show List.length _ = _; simp; done) | exact vcB) : a := h
theorem uTh0 {a : Prop} (h : a := by
    repeat' (first | exact trivial | refine aI ?_ ?_ | exact cC0 | refine low_cons' ?_ ?_ | exact cC1 | fail)
    all_goals first | (show _ = ([] ++ d.1).length; simp; done) | (show _ = List.length _; simp; done) | omega | exact pcl_isD _ | exact pieceC_isD _ | exact (log_plain _).isD | exact raw_isD _ | exact crc_isD _ _ _ | (show (0 : Nat) < (logC x).len; rw [log_len hx]; decide) | (show (0 : Nat) < (pieceC _).len; rw [pieceC_len hw1]; decide) | (show (0 : Nat) < (pieceC _).len; rw [pieceC_len hqw]; decide) | (show (0 : Nat) < List.length _; rw [hsec]; decide) | (show (0 : Nat) < List.length _; rw [hol]; decide) | (simp; done) | skip) : a := h
open Go.Sto
attribute [local irreducible] logL logPs logD durN recs madeL
def lawAppendsS : QSpec := fun vs K => ∃ (x : Log) (r : Raw) (tail : List UInt8), vs = [.agg (logC x), .agg (.cells (rawC r)), bytesV tail] ∧ (x.ok ∧ r.b.length ≤ 9223372036854775807 ∧ tail.length ≤ 9223372036854775807) ∧ K (.c (.bool true))
set_option maxHeartbeats 4000000 in
theorem lawAppends_ok : FlatOK Tryd.prog gl 9 lawAppendsS := by
 refine flat_of (Γ := glw) (N := 107) Tryd.func9 rfl rfl fun vs K h => ?_
 obtain ⟨x, r, tail, rfl, ⟨hx, hrb, htl⟩, h⟩ := h
 refine ⟨_, h, rfl, by simp, fun w I => ?_⟩
 obtain ⟨ps, hps⟩ : ∃ ps, ps = logPs x := ⟨_, rfl⟩
 obtain ⟨d, hd⟩ : ∃ d, d = logD x := ⟨_, rfl⟩
 have hfv : filledV x = .tup [psP ps, .agg (.cells [.ds d.1.length (.u8s d.1), .int .i64 d.2]), .c (.bool true)] := by rw [filledV, ← hps, ← hd]
 have hdok : dok d := hd ▸ logD_ok x
 have hd0 := (hd ▸ logD_dur x : 0 ≤ d.2 ∧ d.2 ≤ (d.1.length : Nat))
 have hdl : d.1.length ≤ 756 := hd ▸ logD_len x
 have hsec := hx.sec
 obtain ⟨p, hp⟩ : ∃ p, p = madeP x.secret r := ⟨_, rfl⟩
 have hpok : p.ok := hp ▸ made_okP _ _
 have hw1 : Piece.wf p := Piece.ok.wf hpok
 have hpb : p.b.length ≤ 50 := hp ▸ madeB_len r
 have hrl := recW_length hw1
 rw [Piece.size] at hrl
 obtain ⟨fw, hfw⟩ : ∃ fw, fw = tail.take 60 := ⟨_, rfl⟩
 have hfl : fw.length ≤ 60 := by rw [hfw, List.length_take]; omega
 refine seq_k fun _ hK1 => ?_; refine region_k glw_ok fun _ hK2 => ?_
 refine sS fun _ hS => ?_; (repeat refine aI qTh0 ?_); apply hS; clear hS
 refine sS fun _ hS => ?_; (repeat refine aI qTh0 ?_); apply hS; clear hS
 refine sS1 ?_
 refine s_nil ?_; apply hK2; apply hK1; refine seq_k fun _ hK3 => ?_; refine region_k glw_ok fun _ hK4 => ?_
 refine sS fun _ hS => ?_; (repeat first | refine aI qTh0 ?_ | refine whole_yes qTh0 ?_ | refine whole_sub ?_); (first | apply hS | (intro cap0 hcap0; apply hS)); clear hS
 refine sS1 ?_
 refine s_nil ?_; apply hK4; apply hK3; refine seq_k fun _ hK5 => ?_
 refine leW [0, 1] id [(2, bytesV tail), (3, .c (.dp (logC x) 0)), (4, .c (.dp (.cells (rawC r)) 0)), (7, .c (.bool true))] [] 0 [] ?_ ?_ ?_ ?_ ?_
 ·exact uTh0
 ·exact uTh0
 ·exact uTh0
 ·exact uTh0
 refine region_k glw_ok fun _ hK6 => ?_
 refine sS fun _ hS => ?_; (repeat refine aI qTh0 ?_); (first | apply hS | (refine whole_yes qTh0 ?_; apply hS) | (refine whole_sub ?_; apply hS)); clear hS
 refine sS fun _ hS => ?_; (repeat first | refine aI qTh0 ?_ | refine whole_yes qTh0 ?_ | refine whole_sub ?_); refine aI (log_plain x).noclo ?_; refine viewL_plain (log_plain x) ?_; refine ⟨x, rfl, hx, ?_⟩; rw [hfv]; simp only [List.flatMap_cons, List.flatMap_nil, ids_log, List.append_nil, Heap.delAll]; (repeat refine aI qTh0 ?_); (first | apply hS | (intro cap1 hcap1; apply hS)); clear hS
 refine sS1 ?_
 refine sS fun _ hS => ?_; (repeat refine aI qTh0 ?_); apply hS; clear hS
 refine sS fun _ hS => ?_; (repeat refine aI qTh0 ?_); apply hS; clear hS
 refine sS fun _ hS => ?_; (repeat refine aI qTh0 ?_); apply hS; clear hS
 refine sS fun _ hS => ?_; (repeat refine aI qTh0 ?_); apply hS; clear hS
 refine sS1 ?_
 refine sS0 fun _ hS => ?_; (repeat refine aI qTh0 ?_); (first | apply hS | (refine splice_full qTh0 ?_; apply hS)); clear hS
 refine sS1 ?_
 refine s_nil ?_; apply hK6; apply hK5; refine seq_k fun _ hK7 => ?_
 refine leW [0] id [(2, bytesV tail), (3, .c (.dp (logC x) 0)), (4, .c (.dp (.cells (rawC r)) 0)), (7, .c (.bool true)), (9, .c (.dp (.cells [.ds d.1.length (.u8s d.1), .int .i64 d.2]) 0)), (10, .c (.bool true))] [] 0 [] ?_ ?_ ?_ ?_ ?_
 ·exact uTh0
 ·exact uTh0
 ·exact uTh0
 ·exact uTh0
 refine region_k glw_ok fun _ hK8 => ?_
 refine sS fun _ hS => ?_; (repeat refine aI qTh0 ?_); (first | apply hS | (refine whole_yes qTh0 ?_; apply hS) | (refine whole_sub ?_; apply hS)); clear hS
 refine sS fun _ hS => ?_; (repeat refine aI qTh0 ?_); apply hS; clear hS
 refine sS fun _ hS => ?_; (repeat refine aI qTh0 ?_); apply hS; clear hS
 refine s_stepA rfl (by decide) rfl fun _ hS => ?_
 repeat refine aI qTh0 ?_
 first | refine hS _ (.agg (.u8s x.secret)) _ _ (log_secA hx) ?_ | (refine whole_yes qTh0 ?_; refine hS _ (.agg (.u8s x.secret)) _ _ (log_secA hx) ?_) | (refine whole_sub ?_; refine hS _ (.agg (.u8s x.secret)) _ _ (log_secA hx) ?_)
 clear hS
 refine sS fun _ hS => ?_; (repeat first | refine aI qTh0 ?_ | refine whole_yes qTh0 ?_ | refine whole_sub ?_); refine ⟨[r], x.secret, rfl, ⟨by show 1 ≤ _; decide, hsec, fun s hs => by rw [List.mem_singleton.1 hs]; exact hrb⟩, ?_⟩; rw [made_one, ← hp]; (repeat refine aI qTh0 ?_); (first | apply hS | (intro cap4 hcap4; apply hS)); clear hS
 refine sS fun _ hS => ?_; (repeat refine aI qTh0 ?_); apply hS; clear hS
 refine s_stepA rfl (by decide) rfl fun _ hS => ?_
 repeat refine aI qTh0 ?_
 first | refine hS _ (pieceV p) _ _ (pcl_sub (one_wf hw1) (i := 0) rfl) ?_ | (refine whole_yes qTh0 ?_; refine hS _ (pieceV p) _ _ (pcl_sub (one_wf hw1) (i := 0) rfl) ?_) | (refine whole_sub ?_; refine hS _ (pieceV p) _ _ (pcl_sub (one_wf hw1) (i := 0) rfl) ?_)
 clear hS
 refine sS fun _ hS => ?_; (repeat refine aI qTh0 ?_); apply hS; clear hS
 refine sS0 fun _ hS => ?_; (repeat refine aI qTh0 ?_); (first | apply hS | (refine splice_full qTh0 ?_; apply hS)); clear hS; refine s_nil ?_; apply hK8; apply hK7; refine seq_k fun _ hK9 => ?_
 refine leW [1] id [(2, bytesV tail), (7, .c (.bool true)), (9, .c (.dp (.cells [.ds d.1.length (.u8s d.1), .int .i64 d.2]) 0)), (10, .c (.bool true)), (11, .c (.dp (pieceC p) 0))] [] 0 [] ?_ ?_ ?_ ?_ ?_
 ·exact uTh0
 ·exact uTh0
 ·exact uTh0
 ·exact uTh0
 refine region_k glw_ok fun _ hK10 => ?_
 refine sS fun _ hS => ?_; (repeat refine aI qTh0 ?_); (first | apply hS | (refine whole_yes qTh0 ?_; apply hS) | (refine whole_sub ?_; apply hS)); clear hS
 refine sS fun _ hS => ?_; (repeat refine aI qTh0 ?_); (first | apply hS | (refine whole_yes qTh0 ?_; apply hS) | (refine whole_sub ?_; apply hS)); clear hS
 refine sS fun _ hS => ?_; (repeat first | refine aI qTh0 ?_ | refine whole_yes qTh0 ?_ | refine whole_sub ?_); refine aI (piece_noclo _) ?_; refine viewL_flat (piece_flat _) ?_; refine ⟨d, p, rfl, ⟨hdok, hw1, by omega⟩, ?_⟩; rw [putV_eq (show putL d p = ((d.1 ++ p.rec', d.2), 0) by rw [hd]; exact app_put hpb)]; simp only [List.flatMap_cons, List.flatMap_nil, ids_piece, ids_disk, List.append_nil, Heap.delAll]; (repeat refine aI qTh0 ?_); (first | apply hS | (intro cap2 hcap2; apply hS)); clear hS
 refine sS1 ?_
 refine sS fun _ hS => ?_; (repeat refine aI qTh0 ?_); apply hS; clear hS
 refine sS fun _ hS => ?_; (repeat refine aI qTh0 ?_); apply hS; clear hS
 refine sS fun _ hS => ?_; (repeat refine aI qTh0 ?_); apply hS; clear hS
 refine sS0 fun _ hS => ?_; (repeat refine aI qTh0 ?_); (first | apply hS | (refine splice_full qTh0 ?_; apply hS)); clear hS
 refine sS1 ?_
 refine s_nil ?_; apply hK10; apply hK9; refine seq_k fun _ hK11 => ?_; refine seq_k fun _ hK12 => ?_
 refine leW [0] id [(2, bytesV tail), (7, .c (.bool true)), (9, .c (.dp (.cells [.ds d.1.length (.u8s d.1), .int .i64 d.2]) 0)), (10, .c (.bool true)), (11, .c (.dp (pieceC p) 0)), (12, .c (.dp (.cells [.ds (d.1 ++ p.rec').length (.u8s (d.1 ++ p.rec')), .int .i64 d.2]) 0)), (13, .c (.int .i64 0))] [] 0 [] ?_ ?_ ?_ ?_ ?_
 ·exact uTh0
 ·exact uTh0
 ·exact uTh0
 ·exact uTh0
 refine quiet_k glw_ok (by kernel_rfl) fun _ hK13 => ?_
 iterate 2 refine qQ1 ?_
 refine qS fun _ hS => ?_
 refine q_split hS (fun hb2 => ?_) (fun hb2 => ?_)
 ·exfalso; simp at hb2
 clear hS
 refine qT fun _ hS => ?_; apply hS; clear hS
 refine qT fun _ hS => ?_; (repeat refine aI qTh0 ?_); apply hS; clear hS
 refine qQ1 ?_
 refine qS fun _ hS => ?_
 refine q_split hS (fun hb6 => ?_) (fun hb6 => ?_)
 ·exfalso; simp at hb6
 clear hS
 refine qT fun _ hS => ?_; (repeat refine aI qTh0 ?_); apply hS; clear hS
 refine qT fun _ hS => ?_; (repeat refine aI qTh0 ?_); (first | apply hS | (refine whole_yes qTh0 ?_; apply hS) | (refine whole_sub ?_; apply hS)); clear hS
 refine qT fun _ hS => ?_; (repeat refine aI qTh0 ?_); apply hS; clear hS
 refine qT fun _ hS => ?_; (repeat refine aI qTh0 ?_); apply hS; clear hS
 refine qT fun _ hS => ?_; (repeat refine aI qTh0 ?_); (first | apply hS | (refine whole_yes qTh0 ?_; apply hS) | (refine whole_sub ?_; apply hS)); clear hS
 refine qT fun _ hS => ?_; (repeat refine aI qTh0 ?_); apply hS; clear hS
 refine qT fun _ hS => ?_; (repeat refine aI qTh0 ?_); apply hS; clear hS
 refine qT fun _ hS => ?_; (repeat refine aI qTh0 ?_); apply hS; clear hS
 refine q_guardA (b := false) rfl (by decide) rfl rfl (fun _ _ hS => ?_) (fun e => absurd e (by decide))
 repeat refine aI qTh0 ?_
 first | refine hS _ (bytesV p.b) (as_eq (congrArg SV.c (piece_b hw1))) ?_ | (refine whole_yes qTh0 ?_; refine hS _ (bytesV p.b) (as_eq (congrArg SV.c (piece_b hw1))) ?_) | (refine whole_sub ?_; refine hS _ (bytesV p.b) (as_eq (congrArg SV.c (piece_b hw1))) ?_)
 clear hS
 refine qT fun _ hS => ?_; (repeat refine aI qTh0 ?_); apply hS; clear hS
 refine qT fun _ hS => ?_; (repeat refine aI qTh0 ?_); apply hS; clear hS
 refine qT fun _ hS => ?_; (repeat refine aI qTh0 ?_); apply hS; clear hS
 refine qQ1 ?_
 refine qS fun _ hS => ?_
 refine q_split hS (fun hb20 => ?_) (fun hb20 => ?_)
 ·exfalso; first | (simp [hrl] at hb20; done) | (simp [hrl] at hb20; omega)
 clear hS
 refine qT fun _ hS => ?_; (repeat refine aI qTh0 ?_); apply hS; clear hS
 refine qT fun _ hS => ?_; (repeat refine aI qTh0 ?_); (first | apply hS | (refine whole_yes qTh0 ?_; apply hS) | (refine whole_sub ?_; apply hS)); clear hS
 refine qT fun _ hS => ?_; (repeat refine aI qTh0 ?_); apply hS; clear hS
 refine qT fun _ hS => ?_; (repeat refine aI qTh0 ?_); (first | apply hS | (refine whole_yes qTh0 ?_; apply hS) | (refine whole_sub ?_; apply hS)); clear hS
 refine qT fun _ hS => ?_; (repeat refine aI qTh0 ?_); apply hS; clear hS
 refine q_guardA (b := false) rfl (by decide) rfl rfl (fun _ _ hS => ?_) (fun e => absurd e (by decide))
 repeat refine aI qTh0 ?_
 first | refine hS _ (bytesV d.1) (as_dsE (by rw [Int.toNat_natCast]) (by rw [Int.toNat_natCast, Nat.mul_one]; exact List.take_left)) ?_ | (refine ite_yes qTh0 ?_; (repeat refine aI qTh0 ?_); refine hS _ (bytesV d.1) (as_dsE (by rw [Int.toNat_natCast]) (by rw [Int.toNat_natCast, Nat.mul_one]; exact List.take_left)) ?_)
 clear hS
 refine qT fun _ hS => ?_; (repeat first | refine aI qTh0 ?_ | refine whole_yes qTh0 ?_ | refine whole_sub ?_); apply hS; clear hS
 refine qT fun _ hS => ?_; (repeat refine aI qTh0 ?_); apply hS; clear hS
 refine qT fun _ hS => ?_; (repeat refine aI qTh0 ?_); (first | apply hS | (refine whole_yes qTh0 ?_; apply hS) | (refine whole_sub ?_; apply hS)); clear hS
 refine qT fun _ hS => ?_; (repeat first | refine aI qTh0 ?_ | refine whole_yes qTh0 ?_ | refine whole_sub ?_); apply hS; clear hS
 refine qT fun _ hS => ?_; (repeat refine aI qTh0 ?_); apply hS; clear hS
 refine qQ1 ?_
 refine qS fun _ hS => ?_
 refine q_split hS (fun hb33 => ?_) (fun hb33 => ?_)
 ·exfalso; first | (simp at hb33; done) | (simp [List.take_left] at hb33; done)
 clear hS
 refine qT fun _ hS => ?_; (repeat refine aI qTh0 ?_); apply hS; clear hS
 refine qT fun _ hS => ?_; (repeat refine aI qTh0 ?_); (first | apply hS | (refine whole_yes qTh0 ?_; apply hS) | (refine whole_sub ?_; apply hS)); clear hS
 refine qT fun _ hS => ?_; (repeat refine aI qTh0 ?_); apply hS; clear hS
 refine qT fun _ hS => ?_; (repeat refine aI qTh0 ?_); (first | apply hS | (refine whole_yes qTh0 ?_; apply hS) | (refine whole_sub ?_; apply hS)); clear hS
 refine qT fun _ hS => ?_; (repeat refine aI qTh0 ?_); apply hS; clear hS
 refine qQ1 ?_
 refine q_nil ?_; apply hK13; apply hK12
 refine WP_cond (b := _) rfl (fun h_t77 => ?_) (fun _ => ?_)
 ·exfalso; simp at h_t77
 refine WP_skip ?_; apply hK11; refine seq_k fun _ hK14 => ?_; refine region_k glw_ok fun _ hK15 => ?_
 iterate 2 refine sS1 ?_
 refine sS fun _ hS => ?_; (repeat refine aI qTh0 ?_); apply hS; clear hS
 refine s_stepA rfl (by decide) rfl fun _ hS => ?_
 repeat refine aI qTh0 ?_
 refine hS _ (.c (.int .i64 (min 60 tail.length : Nat))) _ _ (min60_as _) ?_
 clear hS
 refine s_stepA rfl (by decide) rfl fun _ hS => ?_
 repeat refine aI qTh0 ?_
 first | refine hS _ (bytesV fw) _ _ (hfw ▸ take60_as tail) ?_ | (refine ite_yes qTh0 ?_; (repeat refine aI qTh0 ?_); refine hS _ (bytesV fw) _ _ (hfw ▸ take60_as tail) ?_)
 clear hS
 refine sS1 ?_
 refine s_nil ?_; apply hK15; apply hK14; refine seq_k fun _ hK16 => ?_; refine seq_k fun _ hK17 => ?_
 refine leW [] id [(7, .c (.bool true)), (9, .c (.dp (.cells [.ds d.1.length (.u8s d.1), .int .i64 d.2]) 0)), (11, .c (.dp (pieceC p) 0)), (14, bytesV fw)] [] 0 [] ?_ ?_ ?_ ?_ ?_
 ·exact uTh0
 ·exact uTh0
 ·exact uTh0
 ·exact uTh0
 refine region_k glw_ok fun _ hK18 => ?_
 refine sS1 ?_
 refine sS fun _ hS => ?_; (repeat refine aI qTh0 ?_); apply hS; clear hS
 refine sS fun _ hS => ?_; (repeat refine aI qTh0 ?_); apply hS; clear hS; refine s_nil ?_; apply hK18; apply hK17
 refine WP_cond (b := _) rfl (fun h_t85 => ?_) (fun h_t85 => ?_)
 ·try simp only [dQ] at h_t85
  refine seq_k fun _ hK19 => ?_; refine region_k glw_ok fun _ hK20 => ?_
  iterate 2 refine sS1 ?_
  refine s_nil ?_; apply hK20; apply hK19
  refine WP_ret (Done_flat glw_ok (fun _ _ h => h) (by first | rfl | assumption) [.tmp 6] rfl ?_)
  repeat refine aI (by first | omega | exact trivial | rfl | (simp <;> omega)) ?_
  try refine ite_yes (by first | omega | exact trivial | rfl | (simp <;> omega)) ?_
  show _ = _
  rfl
 ·try simp only [dQ] at h_t85
  refine WP_skip ?_; apply hK16; refine seq_k fun _ hK21 => ?_; refine region_k glw_ok fun _ hK22 => ?_
  refine sS fun _ hS => ?_; (repeat refine aI qTh0 ?_); apply hS; clear hS
  refine sS fun _ hS => ?_; (repeat refine aI qTh0 ?_); apply hS; clear hS
  refine sS fun _ hS => ?_; (repeat refine aI qTh0 ?_); (first | apply hS | (refine whole_yes qTh0 ?_; apply hS) | (refine whole_sub ?_; apply hS)); clear hS
  refine sS fun _ hS => ?_; (repeat first | refine aI qTh0 ?_ | refine whole_yes qTh0 ?_ | refine whole_sub ?_); (intro cap3 hcap3; apply hS); clear hS
  refine sS1 ?_
  refine s_nil ?_; apply hK22; apply hK21
  refine WP_cut (α := Unit) (fun _ => [(7, .c (.bool true)), (17, .c (.int .i64 290))]) (fun _ => []) 0 (fun _ => True) ?_ ?_
  ·skip
   refine leW [] (fun _ => 1) [(7, .c (.bool true)), (9, .c (.dp (.cells [.ds d.1.length (.u8s d.1), .int .i64 d.2]) 0)), (11, .c (.dp (pieceC p) 0)), (14, bytesV fw), (15, .c (.slice 0 0 d.1.length cap3))] [(0, .own 5 (.u8s d.1) cap3)] 1 [1] ?_ ?_ ?_ ?_ ?_
   ·exact uTh0
   ·exact uTh0
   ·exact uTh0
   ·exact uTh0
   refine tree_k glw_ok ?_
   refine WB_run glw_ok (g := 12) (by kernel_rfl) [(0, true), (1, true)] (by kernel_rfl) fun _ hK24 => ?_
   iterate 2 refine dD1 ?_
   refine d_nil ?_; apply hK24
   refine WB_all [2, 3, 6, 11] (by kernel_rfl) (by decide) (List.forall_mem_cons.2 ⟨?_, List.forall_mem_cons.2 ⟨?_, List.forall_mem_cons.2 ⟨?_, List.forall_mem_cons.2 ⟨?_, fun _ h => by cases h⟩⟩⟩⟩)
   ·refine WB_force glw_ok rfl rfl (by decide) rfl fun _ hS => ?_
    repeat first | refine aI qTh0 ?_ | refine whole_yes qTh0 ?_ | refine whole_sub ?_
    intro cap2 hcap2; apply hS
    clear hS
    refine WB_run glw_ok (g := 7) (by kernel_rfl) [(3, true), (4, true), (6, true), (5, true)] (by kernel_rfl) fun _ hK25 => ?_
    refine dR fun _ hS => ?_; (repeat refine aI qTh0 ?_); apply hS; clear hS
    refine dR fun _ hS => ?_; (repeat refine aI qTh0 ?_); (first | apply hS | (refine whole_yes qTh0 ?_; apply hS) | (refine whole_sub ?_; apply hS)); clear hS
    refine dR fun _ hS => ?_; (repeat refine aI qTh0 ?_); (first | apply hS | (refine whole_yes qTh0 ?_; apply hS) | (refine whole_sub ?_; apply hS)); clear hS
    refine d_readA rfl rfl (by decide) rfl fun _ hS => ?_
    repeat refine aI qTh0 ?_
    refine hS _ (.agg (.cells [.slice 1 0 (d.1.length + fw.length) cap2, .int .i64 d.2])) (as_eq rfl) ?_
    clear hS; refine d_nil ?_; apply hK25
    refine WB_all [7, 11] (by kernel_rfl) (by decide) (List.forall_mem_cons.2 ⟨?_, List.forall_mem_cons.2 ⟨?_, fun _ h => by cases h⟩⟩)
    ·refine WB_force glw_ok rfl rfl (by decide) rfl fun _ hS => ?_
     repeat first | refine aI qTh0 ?_ | refine whole_yes qTh0 ?_ | refine whole_sub ?_
     refine aI (piece_noclo _) ?_
     refine viewL_flat (piece_flat _) ?_
     refine ⟨(d.1 ++ fw, d.2), p, congrArg (fun n => [SV.agg (.cells [.ds n (.u8s (d.1 ++ fw)), .int .i64 d.2]), pieceV p]) List.length_append.symm, ⟨⟨by show (d.1 ++ fw).length ≤ _; rw [List.length_append]; omega, hdok.2.1, hdok.2.2⟩, hw1, by omega⟩, ?_⟩
     rw [putV_eq (show putL (d.1 ++ fw, d.2) p = (([], 0), 290) by rw [hd]; exact torn_put hfl (by omega) hpb)]
     simp only [List.flatMap_cons, List.flatMap_nil, ids_piece, ids_sl, List.append_nil, Heap.delAll]
     repeat refine aI qTh0 ?_
     first | apply hS | (intro cap7 hcap7; apply hS)
     clear hS
     refine WB_run glw_ok (g := 0) (by kernel_rfl) [(8, true), (9, true), (10, true), (11, false), (12, false), (13, true)] (by kernel_rfl) fun _ hK26 => ?_
     refine dD1 ?_
     refine dR fun _ hS => ?_; (repeat refine aI qTh0 ?_); apply hS; clear hS
     refine dR fun _ hS => ?_; (repeat refine aI qTh0 ?_); apply hS; clear hS
     refine dG fun _ hS => ?_; (repeat refine aI qTh0 ?_); apply hS; clear hS
     refine d_grow0 rfl rfl rfl fun _ hS => ?_
     repeat refine aI qTh0 ?_
     first | apply hS | (refine splice_full qTh0 ?_; apply hS)
     clear hS
     refine dD1 ?_
     refine d_nil ?_; apply hK26
     refine WB_done (by kernel_rfl) ?_
     refine dnS [] id () trivial [] ?_ ?_ ?_ ?_
     ·exact uTh0
     ·exact uTh0
     ·exact uTh0
     ·exact uTh0
    ·refine WB_force glw_ok rfl rfl (by decide) rfl fun _ hS => ?_
     repeat refine aI qTh0 ?_
     apply hS
     clear hS
     refine WB_run glw_ok (g := 0) (by kernel_rfl) [(7, false), (8, true), (9, true), (10, true), (12, false), (13, true)] (by kernel_rfl) fun _ hK27 => ?_
     refine dG fun _ hS => ?_; (repeat first | refine aI qTh0 ?_ | refine whole_yes qTh0 ?_ | refine whole_sub ?_); refine aI (piece_noclo _) ?_; refine viewL_flat (piece_flat _) ?_; refine ⟨(d.1 ++ fw, d.2), p, congrArg (fun n => [SV.agg (.cells [.ds n (.u8s (d.1 ++ fw)), .int .i64 d.2]), pieceV p]) List.length_append.symm, ⟨⟨by show (d.1 ++ fw).length ≤ _; rw [List.length_append]; omega, hdok.2.1, hdok.2.2⟩, hw1, by omega⟩, ?_⟩; rw [putV_eq (show putL (d.1 ++ fw, d.2) p = (([], 0), 290) by rw [hd]; exact torn_put hfl (by omega) hpb)]; simp only [List.flatMap_cons, List.flatMap_nil, ids_piece, ids_sl, List.append_nil, Heap.delAll]; (repeat refine aI qTh0 ?_); (first | apply hS | (intro cap7 hcap7; apply hS)); clear hS
     refine dD1 ?_
     refine dR fun _ hS => ?_; (repeat refine aI qTh0 ?_); apply hS; clear hS
     refine dR fun _ hS => ?_; (repeat refine aI qTh0 ?_); apply hS; clear hS
     refine d_grow0 rfl rfl rfl fun _ hS => ?_
     repeat refine aI qTh0 ?_
     first | apply hS | (refine splice_full qTh0 ?_; apply hS)
     clear hS
     refine dD1 ?_
     refine d_nil ?_; apply hK27
     refine WB_done (by kernel_rfl) ?_
     refine dnS [] id () trivial [] ?_ ?_ ?_ ?_
     ·exact uTh0
     ·exact uTh0
     ·exact uTh0
     ·exact uTh0
   ·refine WB_force glw_ok rfl rfl (by decide) rfl fun _ hS => ?_
    repeat refine aI qTh0 ?_
    apply hS
    clear hS
    refine WB_all [2, 4, 6, 11] (by kernel_rfl) (by decide) (List.forall_mem_cons.2 ⟨?_, List.forall_mem_cons.2 ⟨?_, List.forall_mem_cons.2 ⟨?_, List.forall_mem_cons.2 ⟨?_, fun _ h => by cases h⟩⟩⟩⟩)
    ·refine WB_force glw_ok rfl rfl (by decide) rfl fun _ hS => ?_
     repeat first | refine aI qTh0 ?_ | refine whole_yes qTh0 ?_ | refine whole_sub ?_
     intro cap2 hcap2; apply hS
     clear hS
     refine WB_run glw_ok (g := 7) (by kernel_rfl) [(4, true), (6, true), (5, true)] (by kernel_rfl) fun _ hK28 => ?_
     refine dR fun _ hS => ?_; (repeat refine aI qTh0 ?_); (first | apply hS | (refine whole_yes qTh0 ?_; apply hS) | (refine whole_sub ?_; apply hS)); clear hS
     refine dR fun _ hS => ?_; (repeat refine aI qTh0 ?_); (first | apply hS | (refine whole_yes qTh0 ?_; apply hS) | (refine whole_sub ?_; apply hS)); clear hS
     refine d_readA rfl rfl (by decide) rfl fun _ hS => ?_
     repeat refine aI qTh0 ?_
     refine hS _ (.agg (.cells [.slice 1 0 (d.1.length + fw.length) cap2, .int .i64 d.2])) (as_eq rfl) ?_
     clear hS; refine d_nil ?_; apply hK28
     refine WB_all [7, 11] (by kernel_rfl) (by decide) (List.forall_mem_cons.2 ⟨?_, List.forall_mem_cons.2 ⟨?_, fun _ h => by cases h⟩⟩)
     ·refine WB_force glw_ok rfl rfl (by decide) rfl fun _ hS => ?_
      repeat first | refine aI qTh0 ?_ | refine whole_yes qTh0 ?_ | refine whole_sub ?_
      refine aI (piece_noclo _) ?_
      refine viewL_flat (piece_flat _) ?_
      refine ⟨(d.1 ++ fw, d.2), p, congrArg (fun n => [SV.agg (.cells [.ds n (.u8s (d.1 ++ fw)), .int .i64 d.2]), pieceV p]) List.length_append.symm, ⟨⟨by show (d.1 ++ fw).length ≤ _; rw [List.length_append]; omega, hdok.2.1, hdok.2.2⟩, hw1, by omega⟩, ?_⟩
      rw [putV_eq (show putL (d.1 ++ fw, d.2) p = (([], 0), 290) by rw [hd]; exact torn_put hfl (by omega) hpb)]
      simp only [List.flatMap_cons, List.flatMap_nil, ids_piece, ids_sl, List.append_nil, Heap.delAll]
      repeat refine aI qTh0 ?_
      first | apply hS | (intro cap7 hcap7; apply hS)
      clear hS
      refine WB_run glw_ok (g := 0) (by kernel_rfl) [(8, true), (9, true), (10, true), (11, false), (12, false), (13, true)] (by kernel_rfl) fun _ hK29 => ?_
      refine dD1 ?_
      refine dR fun _ hS => ?_; (repeat refine aI qTh0 ?_); apply hS; clear hS
      refine dR fun _ hS => ?_; (repeat refine aI qTh0 ?_); apply hS; clear hS
      refine dG fun _ hS => ?_; (repeat refine aI qTh0 ?_); apply hS; clear hS
      refine d_grow0 rfl rfl rfl fun _ hS => ?_
      repeat refine aI qTh0 ?_
      first | apply hS | (refine splice_full qTh0 ?_; apply hS)
      clear hS
      refine dD1 ?_
      refine d_nil ?_; apply hK29
      refine WB_done (by kernel_rfl) ?_
      refine dnS [] id () trivial [] ?_ ?_ ?_ ?_
      ·exact uTh0
      ·exact uTh0
      ·exact uTh0
      ·exact uTh0
     ·refine WB_force glw_ok rfl rfl (by decide) rfl fun _ hS => ?_
      repeat refine aI qTh0 ?_
      apply hS
      clear hS
      refine WB_run glw_ok (g := 0) (by kernel_rfl) [(7, false), (8, true), (9, true), (10, true), (12, false), (13, true)] (by kernel_rfl) fun _ hK30 => ?_
      refine dG fun _ hS => ?_; (repeat first | refine aI qTh0 ?_ | refine whole_yes qTh0 ?_ | refine whole_sub ?_); refine aI (piece_noclo _) ?_; refine viewL_flat (piece_flat _) ?_; refine ⟨(d.1 ++ fw, d.2), p, congrArg (fun n => [SV.agg (.cells [.ds n (.u8s (d.1 ++ fw)), .int .i64 d.2]), pieceV p]) List.length_append.symm, ⟨⟨by show (d.1 ++ fw).length ≤ _; rw [List.length_append]; omega, hdok.2.1, hdok.2.2⟩, hw1, by omega⟩, ?_⟩; rw [putV_eq (show putL (d.1 ++ fw, d.2) p = (([], 0), 290) by rw [hd]; exact torn_put hfl (by omega) hpb)]; simp only [List.flatMap_cons, List.flatMap_nil, ids_piece, ids_sl, List.append_nil, Heap.delAll]; (repeat refine aI qTh0 ?_); (first | apply hS | (intro cap7 hcap7; apply hS)); clear hS
      refine dD1 ?_
      refine dR fun _ hS => ?_; (repeat refine aI qTh0 ?_); apply hS; clear hS
      refine dR fun _ hS => ?_; (repeat refine aI qTh0 ?_); apply hS; clear hS
      refine d_grow0 rfl rfl rfl fun _ hS => ?_
      repeat refine aI qTh0 ?_
      first | apply hS | (refine splice_full qTh0 ?_; apply hS)
      clear hS
      refine dD1 ?_
      refine d_nil ?_; apply hK30
      refine WB_done (by kernel_rfl) ?_
      refine dnS [] id () trivial [] ?_ ?_ ?_ ?_
      ·exact uTh0
      ·exact uTh0
      ·exact uTh0
      ·exact uTh0
    ·refine WB_force glw_ok rfl rfl (by decide) rfl fun _ hS => ?_
     repeat refine aI qTh0 ?_
     first | apply hS | (refine whole_yes qTh0 ?_; apply hS) | (refine whole_sub ?_; apply hS)
     clear hS
     refine WB_all [2, 6, 11] (by kernel_rfl) (by decide) (List.forall_mem_cons.2 ⟨?_, List.forall_mem_cons.2 ⟨?_, List.forall_mem_cons.2 ⟨?_, fun _ h => by cases h⟩⟩⟩)
     ·refine WB_force glw_ok rfl rfl (by decide) rfl fun _ hS => ?_
      repeat first | refine aI qTh0 ?_ | refine whole_yes qTh0 ?_ | refine whole_sub ?_
      intro cap2 hcap2; apply hS
      clear hS
      refine WB_run glw_ok (g := 7) (by kernel_rfl) [(6, true), (5, true)] (by kernel_rfl) fun _ hK31 => ?_
      refine dR fun _ hS => ?_; (repeat refine aI qTh0 ?_); (first | apply hS | (refine whole_yes qTh0 ?_; apply hS) | (refine whole_sub ?_; apply hS)); clear hS
      refine d_readA rfl rfl (by decide) rfl fun _ hS => ?_
      repeat refine aI qTh0 ?_
      refine hS _ (.agg (.cells [.slice 1 0 (d.1.length + fw.length) cap2, .int .i64 d.2])) (as_eq rfl) ?_
      clear hS; refine d_nil ?_; apply hK31
      refine WB_all [7, 11] (by kernel_rfl) (by decide) (List.forall_mem_cons.2 ⟨?_, List.forall_mem_cons.2 ⟨?_, fun _ h => by cases h⟩⟩)
      ·refine WB_force glw_ok rfl rfl (by decide) rfl fun _ hS => ?_
       repeat first | refine aI qTh0 ?_ | refine whole_yes qTh0 ?_ | refine whole_sub ?_
       refine aI (piece_noclo _) ?_
       refine viewL_flat (piece_flat _) ?_
       refine ⟨(d.1 ++ fw, d.2), p, congrArg (fun n => [SV.agg (.cells [.ds n (.u8s (d.1 ++ fw)), .int .i64 d.2]), pieceV p]) List.length_append.symm, ⟨⟨by show (d.1 ++ fw).length ≤ _; rw [List.length_append]; omega, hdok.2.1, hdok.2.2⟩, hw1, by omega⟩, ?_⟩
       rw [putV_eq (show putL (d.1 ++ fw, d.2) p = (([], 0), 290) by rw [hd]; exact torn_put hfl (by omega) hpb)]
       simp only [List.flatMap_cons, List.flatMap_nil, ids_piece, ids_sl, List.append_nil, Heap.delAll]
       repeat refine aI qTh0 ?_
       first | apply hS | (intro cap7 hcap7; apply hS)
       clear hS
       refine WB_run glw_ok (g := 0) (by kernel_rfl) [(8, true), (9, true), (10, true), (11, false), (12, false), (13, true)] (by kernel_rfl) fun _ hK32 => ?_
       refine dD1 ?_
       refine dR fun _ hS => ?_; (repeat refine aI qTh0 ?_); apply hS; clear hS
       refine dR fun _ hS => ?_; (repeat refine aI qTh0 ?_); apply hS; clear hS
       refine dG fun _ hS => ?_; (repeat refine aI qTh0 ?_); apply hS; clear hS
       refine d_grow0 rfl rfl rfl fun _ hS => ?_
       repeat refine aI qTh0 ?_
       first | apply hS | (refine splice_full qTh0 ?_; apply hS)
       clear hS
       refine dD1 ?_
       refine d_nil ?_; apply hK32
       refine WB_done (by kernel_rfl) ?_
       refine dnS [] id () trivial [] ?_ ?_ ?_ ?_
       ·exact uTh0
       ·exact uTh0
       ·exact uTh0
       ·exact uTh0
      ·refine WB_force glw_ok rfl rfl (by decide) rfl fun _ hS => ?_
       repeat refine aI qTh0 ?_
       apply hS
       clear hS
       refine WB_run glw_ok (g := 0) (by kernel_rfl) [(7, false), (8, true), (9, true), (10, true), (12, false), (13, true)] (by kernel_rfl) fun _ hK33 => ?_
       refine dG fun _ hS => ?_; (repeat first | refine aI qTh0 ?_ | refine whole_yes qTh0 ?_ | refine whole_sub ?_); refine aI (piece_noclo _) ?_; refine viewL_flat (piece_flat _) ?_; refine ⟨(d.1 ++ fw, d.2), p, congrArg (fun n => [SV.agg (.cells [.ds n (.u8s (d.1 ++ fw)), .int .i64 d.2]), pieceV p]) List.length_append.symm, ⟨⟨by show (d.1 ++ fw).length ≤ _; rw [List.length_append]; omega, hdok.2.1, hdok.2.2⟩, hw1, by omega⟩, ?_⟩; rw [putV_eq (show putL (d.1 ++ fw, d.2) p = (([], 0), 290) by rw [hd]; exact torn_put hfl (by omega) hpb)]; simp only [List.flatMap_cons, List.flatMap_nil, ids_piece, ids_sl, List.append_nil, Heap.delAll]; (repeat refine aI qTh0 ?_); (first | apply hS | (intro cap7 hcap7; apply hS)); clear hS
       refine dD1 ?_
       refine dR fun _ hS => ?_; (repeat refine aI qTh0 ?_); apply hS; clear hS
       refine dR fun _ hS => ?_; (repeat refine aI qTh0 ?_); apply hS; clear hS
       refine d_grow0 rfl rfl rfl fun _ hS => ?_
       repeat refine aI qTh0 ?_
       first | apply hS | (refine splice_full qTh0 ?_; apply hS)
       clear hS
       refine dD1 ?_
       refine d_nil ?_; apply hK33
       refine WB_done (by kernel_rfl) ?_
       refine dnS [] id () trivial [] ?_ ?_ ?_ ?_
       ·exact uTh0
       ·exact uTh0
       ·exact uTh0
       ·exact uTh0
     ·refine WB_force glw_ok rfl rfl (by decide) rfl fun _ hS => ?_
      repeat refine aI qTh0 ?_
      first | apply hS | (refine whole_yes qTh0 ?_; apply hS) | (refine whole_sub ?_; apply hS)
      clear hS
      refine WB_all [2, 11] (by kernel_rfl) (by decide) (List.forall_mem_cons.2 ⟨?_, List.forall_mem_cons.2 ⟨?_, fun _ h => by cases h⟩⟩)
      ·refine WB_force glw_ok rfl rfl (by decide) rfl fun _ hS => ?_
       repeat first | refine aI qTh0 ?_ | refine whole_yes qTh0 ?_ | refine whole_sub ?_
       intro cap2 hcap2; apply hS
       clear hS
       refine WB_run glw_ok (g := 7) (by kernel_rfl) [(5, true)] (by kernel_rfl) fun _ hK34 => ?_
       refine d_readA rfl rfl (by decide) rfl fun _ hS => ?_
       repeat refine aI qTh0 ?_
       refine hS _ (.agg (.cells [.slice 1 0 (d.1.length + fw.length) cap2, .int .i64 d.2])) (as_eq rfl) ?_
       clear hS; refine d_nil ?_; apply hK34
       refine WB_all [7, 11] (by kernel_rfl) (by decide) (List.forall_mem_cons.2 ⟨?_, List.forall_mem_cons.2 ⟨?_, fun _ h => by cases h⟩⟩)
       ·refine WB_force glw_ok rfl rfl (by decide) rfl fun _ hS => ?_
        repeat first | refine aI qTh0 ?_ | refine whole_yes qTh0 ?_ | refine whole_sub ?_
        refine aI (piece_noclo _) ?_
        refine viewL_flat (piece_flat _) ?_
        refine ⟨(d.1 ++ fw, d.2), p, congrArg (fun n => [SV.agg (.cells [.ds n (.u8s (d.1 ++ fw)), .int .i64 d.2]), pieceV p]) List.length_append.symm, ⟨⟨by show (d.1 ++ fw).length ≤ _; rw [List.length_append]; omega, hdok.2.1, hdok.2.2⟩, hw1, by omega⟩, ?_⟩
        rw [putV_eq (show putL (d.1 ++ fw, d.2) p = (([], 0), 290) by rw [hd]; exact torn_put hfl (by omega) hpb)]
        simp only [List.flatMap_cons, List.flatMap_nil, ids_piece, ids_sl, List.append_nil, Heap.delAll]
        repeat refine aI qTh0 ?_
        first | apply hS | (intro cap7 hcap7; apply hS)
        clear hS
        refine WB_run glw_ok (g := 0) (by kernel_rfl) [(8, true), (9, true), (10, true), (11, false), (12, false), (13, true)] (by kernel_rfl) fun _ hK35 => ?_
        refine dD1 ?_
        refine dR fun _ hS => ?_; (repeat refine aI qTh0 ?_); apply hS; clear hS
        refine dR fun _ hS => ?_; (repeat refine aI qTh0 ?_); apply hS; clear hS
        refine dG fun _ hS => ?_; (repeat refine aI qTh0 ?_); apply hS; clear hS
        refine d_grow0 rfl rfl rfl fun _ hS => ?_
        repeat refine aI qTh0 ?_
        first | apply hS | (refine splice_full qTh0 ?_; apply hS)
        clear hS
        refine dD1 ?_
        refine d_nil ?_; apply hK35
        refine WB_done (by kernel_rfl) ?_
        refine dnS [] id () trivial [] ?_ ?_ ?_ ?_
        ·exact uTh0
        ·exact uTh0
        ·exact uTh0
        ·exact uTh0
       ·refine WB_force glw_ok rfl rfl (by decide) rfl fun _ hS => ?_
        repeat refine aI qTh0 ?_
        apply hS
        clear hS
        refine WB_run glw_ok (g := 0) (by kernel_rfl) [(7, false), (8, true), (9, true), (10, true), (12, false), (13, true)] (by kernel_rfl) fun _ hK36 => ?_
        refine dG fun _ hS => ?_; (repeat first | refine aI qTh0 ?_ | refine whole_yes qTh0 ?_ | refine whole_sub ?_); refine aI (piece_noclo _) ?_; refine viewL_flat (piece_flat _) ?_; refine ⟨(d.1 ++ fw, d.2), p, congrArg (fun n => [SV.agg (.cells [.ds n (.u8s (d.1 ++ fw)), .int .i64 d.2]), pieceV p]) List.length_append.symm, ⟨⟨by show (d.1 ++ fw).length ≤ _; rw [List.length_append]; omega, hdok.2.1, hdok.2.2⟩, hw1, by omega⟩, ?_⟩; rw [putV_eq (show putL (d.1 ++ fw, d.2) p = (([], 0), 290) by rw [hd]; exact torn_put hfl (by omega) hpb)]; simp only [List.flatMap_cons, List.flatMap_nil, ids_piece, ids_sl, List.append_nil, Heap.delAll]; (repeat refine aI qTh0 ?_); (first | apply hS | (intro cap7 hcap7; apply hS)); clear hS
        refine dD1 ?_
        refine dR fun _ hS => ?_; (repeat refine aI qTh0 ?_); apply hS; clear hS
        refine dR fun _ hS => ?_; (repeat refine aI qTh0 ?_); apply hS; clear hS
        refine d_grow0 rfl rfl rfl fun _ hS => ?_
        repeat refine aI qTh0 ?_
        first | apply hS | (refine splice_full qTh0 ?_; apply hS)
        clear hS
        refine dD1 ?_
        refine d_nil ?_; apply hK36
        refine WB_done (by kernel_rfl) ?_
        refine dnS [] id () trivial [] ?_ ?_ ?_ ?_
        ·exact uTh0
        ·exact uTh0
        ·exact uTh0
        ·exact uTh0
      ·refine WB_force glw_ok rfl rfl (by decide) rfl fun _ hS => ?_
       repeat refine aI qTh0 ?_
       apply hS
       clear hS
       refine WB_run glw_ok (g := 0) (by kernel_rfl) [(2, false), (5, true), (7, false), (8, true), (9, true), (10, true), (12, false), (13, true)] (by kernel_rfl) fun _ hK37 => ?_
       refine dG fun _ hS => ?_; (repeat first | refine aI qTh0 ?_ | refine whole_yes qTh0 ?_ | refine whole_sub ?_); (intro cap2 hcap2; apply hS); clear hS
       refine d_readA rfl rfl (by decide) rfl fun _ hS => ?_
       repeat refine aI qTh0 ?_
       refine hS _ (.agg (.cells [.slice 2 0 (d.1.length + fw.length) cap2, .int .i64 d.2])) (as_eq rfl) ?_
       clear hS
       refine dG fun _ hS => ?_; (repeat first | refine aI qTh0 ?_ | refine whole_yes qTh0 ?_ | refine whole_sub ?_); refine aI (piece_noclo _) ?_; refine viewL_flat (piece_flat _) ?_; refine ⟨(d.1 ++ fw, d.2), p, congrArg (fun n => [SV.agg (.cells [.ds n (.u8s (d.1 ++ fw)), .int .i64 d.2]), pieceV p]) List.length_append.symm, ⟨⟨by show (d.1 ++ fw).length ≤ _; rw [List.length_append]; omega, hdok.2.1, hdok.2.2⟩, hw1, by omega⟩, ?_⟩; rw [putV_eq (show putL (d.1 ++ fw, d.2) p = (([], 0), 290) by rw [hd]; exact torn_put hfl (by omega) hpb)]; simp only [List.flatMap_cons, List.flatMap_nil, ids_piece, ids_sl, List.append_nil, Heap.delAll]; (repeat refine aI qTh0 ?_); (first | apply hS | (intro cap7 hcap7; apply hS)); clear hS
       refine dD1 ?_
       refine dR fun _ hS => ?_; (repeat refine aI qTh0 ?_); apply hS; clear hS
       refine dR fun _ hS => ?_; (repeat refine aI qTh0 ?_); apply hS; clear hS
       refine d_grow0 rfl rfl rfl fun _ hS => ?_
       repeat refine aI qTh0 ?_
       first | apply hS | (refine splice_full qTh0 ?_; apply hS)
       clear hS
       refine dD1 ?_
       refine d_nil ?_; apply hK37
       refine WB_done (by kernel_rfl) ?_
       refine dnS [] id () trivial [] ?_ ?_ ?_ ?_
       ·exact uTh0
       ·exact uTh0
       ·exact uTh0
       ·exact uTh0
     ·refine WB_force glw_ok rfl rfl (by decide) rfl fun _ hS => ?_
      repeat refine aI qTh0 ?_
      apply hS
      clear hS
      refine WB_all [2, 6] (by kernel_rfl) (by decide) (List.forall_mem_cons.2 ⟨?_, List.forall_mem_cons.2 ⟨?_, fun _ h => by cases h⟩⟩)
      ·refine WB_force glw_ok rfl rfl (by decide) rfl fun _ hS => ?_
       repeat first | refine aI qTh0 ?_ | refine whole_yes qTh0 ?_ | refine whole_sub ?_
       intro cap2 hcap2; apply hS
       clear hS
       refine WB_run glw_ok (g := 0) (by kernel_rfl) [(6, true), (5, true), (7, false), (8, true), (9, true), (10, true), (12, false), (13, true)] (by kernel_rfl) fun _ hK38 => ?_
       refine dR fun _ hS => ?_; (repeat refine aI qTh0 ?_); (first | apply hS | (refine whole_yes qTh0 ?_; apply hS) | (refine whole_sub ?_; apply hS)); clear hS
       refine d_readA rfl rfl (by decide) rfl fun _ hS => ?_
       repeat refine aI qTh0 ?_
       refine hS _ (.agg (.cells [.slice 2 0 (d.1.length + fw.length) cap2, .int .i64 d.2])) (as_eq rfl) ?_
       clear hS
       refine dG fun _ hS => ?_; (repeat first | refine aI qTh0 ?_ | refine whole_yes qTh0 ?_ | refine whole_sub ?_); refine aI (piece_noclo _) ?_; refine viewL_flat (piece_flat _) ?_; refine ⟨(d.1 ++ fw, d.2), p, congrArg (fun n => [SV.agg (.cells [.ds n (.u8s (d.1 ++ fw)), .int .i64 d.2]), pieceV p]) List.length_append.symm, ⟨⟨by show (d.1 ++ fw).length ≤ _; rw [List.length_append]; omega, hdok.2.1, hdok.2.2⟩, hw1, by omega⟩, ?_⟩; rw [putV_eq (show putL (d.1 ++ fw, d.2) p = (([], 0), 290) by rw [hd]; exact torn_put hfl (by omega) hpb)]; simp only [List.flatMap_cons, List.flatMap_nil, ids_piece, ids_sl, List.append_nil, Heap.delAll]; (repeat refine aI qTh0 ?_); (first | apply hS | (intro cap7 hcap7; apply hS)); clear hS
       refine dD1 ?_
       refine dR fun _ hS => ?_; (repeat refine aI qTh0 ?_); apply hS; clear hS
       refine dR fun _ hS => ?_; (repeat refine aI qTh0 ?_); apply hS; clear hS
       refine d_grow0 rfl rfl rfl fun _ hS => ?_
       repeat refine aI qTh0 ?_
       first | apply hS | (refine splice_full qTh0 ?_; apply hS)
       clear hS
       refine dD1 ?_
       refine d_nil ?_; apply hK38
       refine WB_done (by kernel_rfl) ?_
       refine dnS [] id () trivial [] ?_ ?_ ?_ ?_
       ·exact uTh0
       ·exact uTh0
       ·exact uTh0
       ·exact uTh0
      ·refine WB_force glw_ok rfl rfl (by decide) rfl fun _ hS => ?_
       repeat refine aI qTh0 ?_
       first | apply hS | (refine whole_yes qTh0 ?_; apply hS) | (refine whole_sub ?_; apply hS)
       clear hS
       refine WB_run glw_ok (g := 0) (by kernel_rfl) [(2, false), (5, true), (7, false), (8, true), (9, true), (10, true), (12, false), (13, true)] (by kernel_rfl) fun _ hK39 => ?_
       refine dG fun _ hS => ?_; (repeat first | refine aI qTh0 ?_ | refine whole_yes qTh0 ?_ | refine whole_sub ?_); (intro cap2 hcap2; apply hS); clear hS
       refine d_readA rfl rfl (by decide) rfl fun _ hS => ?_
       repeat refine aI qTh0 ?_
       refine hS _ (.agg (.cells [.slice 2 0 (d.1.length + fw.length) cap2, .int .i64 d.2])) (as_eq rfl) ?_
       clear hS
       refine dG fun _ hS => ?_; (repeat first | refine aI qTh0 ?_ | refine whole_yes qTh0 ?_ | refine whole_sub ?_); refine aI (piece_noclo _) ?_; refine viewL_flat (piece_flat _) ?_; refine ⟨(d.1 ++ fw, d.2), p, congrArg (fun n => [SV.agg (.cells [.ds n (.u8s (d.1 ++ fw)), .int .i64 d.2]), pieceV p]) List.length_append.symm, ⟨⟨by show (d.1 ++ fw).length ≤ _; rw [List.length_append]; omega, hdok.2.1, hdok.2.2⟩, hw1, by omega⟩, ?_⟩; rw [putV_eq (show putL (d.1 ++ fw, d.2) p = (([], 0), 290) by rw [hd]; exact torn_put hfl (by omega) hpb)]; simp only [List.flatMap_cons, List.flatMap_nil, ids_piece, ids_sl, List.append_nil, Heap.delAll]; (repeat refine aI qTh0 ?_); (first | apply hS | (intro cap7 hcap7; apply hS)); clear hS
       refine dD1 ?_
       refine dR fun _ hS => ?_; (repeat refine aI qTh0 ?_); apply hS; clear hS
       refine dR fun _ hS => ?_; (repeat refine aI qTh0 ?_); apply hS; clear hS
       refine d_grow0 rfl rfl rfl fun _ hS => ?_
       repeat refine aI qTh0 ?_
       first | apply hS | (refine splice_full qTh0 ?_; apply hS)
       clear hS
       refine dD1 ?_
       refine d_nil ?_; apply hK39
       refine WB_done (by kernel_rfl) ?_
       refine dnS [] id () trivial [] ?_ ?_ ?_ ?_
       ·exact uTh0
       ·exact uTh0
       ·exact uTh0
       ·exact uTh0
    ·refine WB_force glw_ok rfl rfl (by decide) rfl fun _ hS => ?_
     repeat refine aI qTh0 ?_
     first | apply hS | (refine whole_yes qTh0 ?_; apply hS) | (refine whole_sub ?_; apply hS)
     clear hS
     refine WB_all [2, 4, 11] (by kernel_rfl) (by decide) (List.forall_mem_cons.2 ⟨?_, List.forall_mem_cons.2 ⟨?_, List.forall_mem_cons.2 ⟨?_, fun _ h => by cases h⟩⟩⟩)
     ·refine WB_force glw_ok rfl rfl (by decide) rfl fun _ hS => ?_
      repeat first | refine aI qTh0 ?_ | refine whole_yes qTh0 ?_ | refine whole_sub ?_
      intro cap2 hcap2; apply hS
      clear hS
      refine WB_run glw_ok (g := 7) (by kernel_rfl) [(4, true), (5, true)] (by kernel_rfl) fun _ hK40 => ?_
      refine dR fun _ hS => ?_; (repeat refine aI qTh0 ?_); (first | apply hS | (refine whole_yes qTh0 ?_; apply hS) | (refine whole_sub ?_; apply hS)); clear hS
      refine d_readA rfl rfl (by decide) rfl fun _ hS => ?_
      repeat refine aI qTh0 ?_
      refine hS _ (.agg (.cells [.slice 1 0 (d.1.length + fw.length) cap2, .int .i64 d.2])) (as_eq rfl) ?_
      clear hS; refine d_nil ?_; apply hK40
      refine WB_all [7, 11] (by kernel_rfl) (by decide) (List.forall_mem_cons.2 ⟨?_, List.forall_mem_cons.2 ⟨?_, fun _ h => by cases h⟩⟩)
      ·refine WB_force glw_ok rfl rfl (by decide) rfl fun _ hS => ?_
       repeat first | refine aI qTh0 ?_ | refine whole_yes qTh0 ?_ | refine whole_sub ?_
       refine aI (piece_noclo _) ?_
       refine viewL_flat (piece_flat _) ?_
       refine ⟨(d.1 ++ fw, d.2), p, congrArg (fun n => [SV.agg (.cells [.ds n (.u8s (d.1 ++ fw)), .int .i64 d.2]), pieceV p]) List.length_append.symm, ⟨⟨by show (d.1 ++ fw).length ≤ _; rw [List.length_append]; omega, hdok.2.1, hdok.2.2⟩, hw1, by omega⟩, ?_⟩
       rw [putV_eq (show putL (d.1 ++ fw, d.2) p = (([], 0), 290) by rw [hd]; exact torn_put hfl (by omega) hpb)]
       simp only [List.flatMap_cons, List.flatMap_nil, ids_piece, ids_sl, List.append_nil, Heap.delAll]
       repeat refine aI qTh0 ?_
       first | apply hS | (intro cap7 hcap7; apply hS)
       clear hS
       refine WB_run glw_ok (g := 0) (by kernel_rfl) [(8, true), (9, true), (10, true), (11, false), (12, false), (13, true)] (by kernel_rfl) fun _ hK41 => ?_
       refine dD1 ?_
       refine dR fun _ hS => ?_; (repeat refine aI qTh0 ?_); apply hS; clear hS
       refine dR fun _ hS => ?_; (repeat refine aI qTh0 ?_); apply hS; clear hS
       refine dG fun _ hS => ?_; (repeat refine aI qTh0 ?_); apply hS; clear hS
       refine d_grow0 rfl rfl rfl fun _ hS => ?_
       repeat refine aI qTh0 ?_
       first | apply hS | (refine splice_full qTh0 ?_; apply hS)
       clear hS
       refine dD1 ?_
       refine d_nil ?_; apply hK41
       refine WB_done (by kernel_rfl) ?_
       refine dnS [] id () trivial [] ?_ ?_ ?_ ?_
       ·exact uTh0
       ·exact uTh0
       ·exact uTh0
       ·exact uTh0
      ·refine WB_force glw_ok rfl rfl (by decide) rfl fun _ hS => ?_
       repeat refine aI qTh0 ?_
       apply hS
       clear hS
       refine WB_run glw_ok (g := 0) (by kernel_rfl) [(7, false), (8, true), (9, true), (10, true), (12, false), (13, true)] (by kernel_rfl) fun _ hK42 => ?_
       refine dG fun _ hS => ?_; (repeat first | refine aI qTh0 ?_ | refine whole_yes qTh0 ?_ | refine whole_sub ?_); refine aI (piece_noclo _) ?_; refine viewL_flat (piece_flat _) ?_; refine ⟨(d.1 ++ fw, d.2), p, congrArg (fun n => [SV.agg (.cells [.ds n (.u8s (d.1 ++ fw)), .int .i64 d.2]), pieceV p]) List.length_append.symm, ⟨⟨by show (d.1 ++ fw).length ≤ _; rw [List.length_append]; omega, hdok.2.1, hdok.2.2⟩, hw1, by omega⟩, ?_⟩; rw [putV_eq (show putL (d.1 ++ fw, d.2) p = (([], 0), 290) by rw [hd]; exact torn_put hfl (by omega) hpb)]; simp only [List.flatMap_cons, List.flatMap_nil, ids_piece, ids_sl, List.append_nil, Heap.delAll]; (repeat refine aI qTh0 ?_); (first | apply hS | (intro cap7 hcap7; apply hS)); clear hS
       refine dD1 ?_
       refine dR fun _ hS => ?_; (repeat refine aI qTh0 ?_); apply hS; clear hS
       refine dR fun _ hS => ?_; (repeat refine aI qTh0 ?_); apply hS; clear hS
       refine d_grow0 rfl rfl rfl fun _ hS => ?_
       repeat refine aI qTh0 ?_
       first | apply hS | (refine splice_full qTh0 ?_; apply hS)
       clear hS
       refine dD1 ?_
       refine d_nil ?_; apply hK42
       refine WB_done (by kernel_rfl) ?_
       refine dnS [] id () trivial [] ?_ ?_ ?_ ?_
       ·exact uTh0
       ·exact uTh0
       ·exact uTh0
       ·exact uTh0
     ·refine WB_force glw_ok rfl rfl (by decide) rfl fun _ hS => ?_
      repeat refine aI qTh0 ?_
      first | apply hS | (refine whole_yes qTh0 ?_; apply hS) | (refine whole_sub ?_; apply hS)
      clear hS
      refine WB_all [2, 11] (by kernel_rfl) (by decide) (List.forall_mem_cons.2 ⟨?_, List.forall_mem_cons.2 ⟨?_, fun _ h => by cases h⟩⟩)
      ·refine WB_force glw_ok rfl rfl (by decide) rfl fun _ hS => ?_
       repeat first | refine aI qTh0 ?_ | refine whole_yes qTh0 ?_ | refine whole_sub ?_
       intro cap2 hcap2; apply hS
       clear hS
       refine WB_run glw_ok (g := 7) (by kernel_rfl) [(5, true)] (by kernel_rfl) fun _ hK43 => ?_
       refine d_readA rfl rfl (by decide) rfl fun _ hS => ?_
       repeat refine aI qTh0 ?_
       refine hS _ (.agg (.cells [.slice 1 0 (d.1.length + fw.length) cap2, .int .i64 d.2])) (as_eq rfl) ?_
       clear hS; refine d_nil ?_; apply hK43
       refine WB_all [7, 11] (by kernel_rfl) (by decide) (List.forall_mem_cons.2 ⟨?_, List.forall_mem_cons.2 ⟨?_, fun _ h => by cases h⟩⟩)
       ·refine WB_force glw_ok rfl rfl (by decide) rfl fun _ hS => ?_
        repeat first | refine aI qTh0 ?_ | refine whole_yes qTh0 ?_ | refine whole_sub ?_
        refine aI (piece_noclo _) ?_
        refine viewL_flat (piece_flat _) ?_
        refine ⟨(d.1 ++ fw, d.2), p, congrArg (fun n => [SV.agg (.cells [.ds n (.u8s (d.1 ++ fw)), .int .i64 d.2]), pieceV p]) List.length_append.symm, ⟨⟨by show (d.1 ++ fw).length ≤ _; rw [List.length_append]; omega, hdok.2.1, hdok.2.2⟩, hw1, by omega⟩, ?_⟩
        rw [putV_eq (show putL (d.1 ++ fw, d.2) p = (([], 0), 290) by rw [hd]; exact torn_put hfl (by omega) hpb)]
        simp only [List.flatMap_cons, List.flatMap_nil, ids_piece, ids_sl, List.append_nil, Heap.delAll]
        repeat refine aI qTh0 ?_
        first | apply hS | (intro cap7 hcap7; apply hS)
        clear hS
        refine WB_run glw_ok (g := 0) (by kernel_rfl) [(8, true), (9, true), (10, true), (11, false), (12, false), (13, true)] (by kernel_rfl) fun _ hK44 => ?_
        refine dD1 ?_
        refine dR fun _ hS => ?_; (repeat refine aI qTh0 ?_); apply hS; clear hS
        refine dR fun _ hS => ?_; (repeat refine aI qTh0 ?_); apply hS; clear hS
        refine dG fun _ hS => ?_; (repeat refine aI qTh0 ?_); apply hS; clear hS
        refine d_grow0 rfl rfl rfl fun _ hS => ?_
        repeat refine aI qTh0 ?_
        first | apply hS | (refine splice_full qTh0 ?_; apply hS)
        clear hS
        refine dD1 ?_
        refine d_nil ?_; apply hK44
        refine WB_done (by kernel_rfl) ?_
        refine dnS [] id () trivial [] ?_ ?_ ?_ ?_
        ·exact uTh0
        ·exact uTh0
        ·exact uTh0
        ·exact uTh0
       ·refine WB_force glw_ok rfl rfl (by decide) rfl fun _ hS => ?_
        repeat refine aI qTh0 ?_
        apply hS
        clear hS
        refine WB_run glw_ok (g := 0) (by kernel_rfl) [(7, false), (8, true), (9, true), (10, true), (12, false), (13, true)] (by kernel_rfl) fun _ hK45 => ?_
        refine dG fun _ hS => ?_; (repeat first | refine aI qTh0 ?_ | refine whole_yes qTh0 ?_ | refine whole_sub ?_); refine aI (piece_noclo _) ?_; refine viewL_flat (piece_flat _) ?_; refine ⟨(d.1 ++ fw, d.2), p, congrArg (fun n => [SV.agg (.cells [.ds n (.u8s (d.1 ++ fw)), .int .i64 d.2]), pieceV p]) List.length_append.symm, ⟨⟨by show (d.1 ++ fw).length ≤ _; rw [List.length_append]; omega, hdok.2.1, hdok.2.2⟩, hw1, by omega⟩, ?_⟩; rw [putV_eq (show putL (d.1 ++ fw, d.2) p = (([], 0), 290) by rw [hd]; exact torn_put hfl (by omega) hpb)]; simp only [List.flatMap_cons, List.flatMap_nil, ids_piece, ids_sl, List.append_nil, Heap.delAll]; (repeat refine aI qTh0 ?_); (first | apply hS | (intro cap7 hcap7; apply hS)); clear hS
        refine dD1 ?_
        refine dR fun _ hS => ?_; (repeat refine aI qTh0 ?_); apply hS; clear hS
        refine dR fun _ hS => ?_; (repeat refine aI qTh0 ?_); apply hS; clear hS
        refine d_grow0 rfl rfl rfl fun _ hS => ?_
        repeat refine aI qTh0 ?_
        first | apply hS | (refine splice_full qTh0 ?_; apply hS)
        clear hS
        refine dD1 ?_
        refine d_nil ?_; apply hK45
        refine WB_done (by kernel_rfl) ?_
        refine dnS [] id () trivial [] ?_ ?_ ?_ ?_
        ·exact uTh0
        ·exact uTh0
        ·exact uTh0
        ·exact uTh0
      ·refine WB_force glw_ok rfl rfl (by decide) rfl fun _ hS => ?_
       repeat refine aI qTh0 ?_
       apply hS
       clear hS
       refine WB_run glw_ok (g := 0) (by kernel_rfl) [(2, false), (5, true), (7, false), (8, true), (9, true), (10, true), (12, false), (13, true)] (by kernel_rfl) fun _ hK46 => ?_
       refine dG fun _ hS => ?_; (repeat first | refine aI qTh0 ?_ | refine whole_yes qTh0 ?_ | refine whole_sub ?_); (intro cap2 hcap2; apply hS); clear hS
       refine d_readA rfl rfl (by decide) rfl fun _ hS => ?_
       repeat refine aI qTh0 ?_
       refine hS _ (.agg (.cells [.slice 2 0 (d.1.length + fw.length) cap2, .int .i64 d.2])) (as_eq rfl) ?_
       clear hS
       refine dG fun _ hS => ?_; (repeat first | refine aI qTh0 ?_ | refine whole_yes qTh0 ?_ | refine whole_sub ?_); refine aI (piece_noclo _) ?_; refine viewL_flat (piece_flat _) ?_; refine ⟨(d.1 ++ fw, d.2), p, congrArg (fun n => [SV.agg (.cells [.ds n (.u8s (d.1 ++ fw)), .int .i64 d.2]), pieceV p]) List.length_append.symm, ⟨⟨by show (d.1 ++ fw).length ≤ _; rw [List.length_append]; omega, hdok.2.1, hdok.2.2⟩, hw1, by omega⟩, ?_⟩; rw [putV_eq (show putL (d.1 ++ fw, d.2) p = (([], 0), 290) by rw [hd]; exact torn_put hfl (by omega) hpb)]; simp only [List.flatMap_cons, List.flatMap_nil, ids_piece, ids_sl, List.append_nil, Heap.delAll]; (repeat refine aI qTh0 ?_); (first | apply hS | (intro cap7 hcap7; apply hS)); clear hS
       refine dD1 ?_
       refine dR fun _ hS => ?_; (repeat refine aI qTh0 ?_); apply hS; clear hS
       refine dR fun _ hS => ?_; (repeat refine aI qTh0 ?_); apply hS; clear hS
       refine d_grow0 rfl rfl rfl fun _ hS => ?_
       repeat refine aI qTh0 ?_
       first | apply hS | (refine splice_full qTh0 ?_; apply hS)
       clear hS
       refine dD1 ?_
       refine d_nil ?_; apply hK46
       refine WB_done (by kernel_rfl) ?_
       refine dnS [] id () trivial [] ?_ ?_ ?_ ?_
       ·exact uTh0
       ·exact uTh0
       ·exact uTh0
       ·exact uTh0
     ·refine WB_force glw_ok rfl rfl (by decide) rfl fun _ hS => ?_
      repeat refine aI qTh0 ?_
      apply hS
      clear hS
      refine WB_all [2, 4] (by kernel_rfl) (by decide) (List.forall_mem_cons.2 ⟨?_, List.forall_mem_cons.2 ⟨?_, fun _ h => by cases h⟩⟩)
      ·refine WB_force glw_ok rfl rfl (by decide) rfl fun _ hS => ?_
       repeat first | refine aI qTh0 ?_ | refine whole_yes qTh0 ?_ | refine whole_sub ?_
       intro cap2 hcap2; apply hS
       clear hS
       refine WB_run glw_ok (g := 0) (by kernel_rfl) [(4, true), (5, true), (7, false), (8, true), (9, true), (10, true), (12, false), (13, true)] (by kernel_rfl) fun _ hK47 => ?_
       refine dR fun _ hS => ?_; (repeat refine aI qTh0 ?_); (first | apply hS | (refine whole_yes qTh0 ?_; apply hS) | (refine whole_sub ?_; apply hS)); clear hS
       refine d_readA rfl rfl (by decide) rfl fun _ hS => ?_
       repeat refine aI qTh0 ?_
       refine hS _ (.agg (.cells [.slice 2 0 (d.1.length + fw.length) cap2, .int .i64 d.2])) (as_eq rfl) ?_
       clear hS
       refine dG fun _ hS => ?_; (repeat first | refine aI qTh0 ?_ | refine whole_yes qTh0 ?_ | refine whole_sub ?_); refine aI (piece_noclo _) ?_; refine viewL_flat (piece_flat _) ?_; refine ⟨(d.1 ++ fw, d.2), p, congrArg (fun n => [SV.agg (.cells [.ds n (.u8s (d.1 ++ fw)), .int .i64 d.2]), pieceV p]) List.length_append.symm, ⟨⟨by show (d.1 ++ fw).length ≤ _; rw [List.length_append]; omega, hdok.2.1, hdok.2.2⟩, hw1, by omega⟩, ?_⟩; rw [putV_eq (show putL (d.1 ++ fw, d.2) p = (([], 0), 290) by rw [hd]; exact torn_put hfl (by omega) hpb)]; simp only [List.flatMap_cons, List.flatMap_nil, ids_piece, ids_sl, List.append_nil, Heap.delAll]; (repeat refine aI qTh0 ?_); (first | apply hS | (intro cap7 hcap7; apply hS)); clear hS
       refine dD1 ?_
       refine dR fun _ hS => ?_; (repeat refine aI qTh0 ?_); apply hS; clear hS
       refine dR fun _ hS => ?_; (repeat refine aI qTh0 ?_); apply hS; clear hS
       refine d_grow0 rfl rfl rfl fun _ hS => ?_
       repeat refine aI qTh0 ?_
       first | apply hS | (refine splice_full qTh0 ?_; apply hS)
       clear hS
       refine dD1 ?_
       refine d_nil ?_; apply hK47
       refine WB_done (by kernel_rfl) ?_
       refine dnS [] id () trivial [] ?_ ?_ ?_ ?_
       ·exact uTh0
       ·exact uTh0
       ·exact uTh0
       ·exact uTh0
      ·refine WB_force glw_ok rfl rfl (by decide) rfl fun _ hS => ?_
       repeat refine aI qTh0 ?_
       first | apply hS | (refine whole_yes qTh0 ?_; apply hS) | (refine whole_sub ?_; apply hS)
       clear hS
       refine WB_run glw_ok (g := 0) (by kernel_rfl) [(2, false), (5, true), (7, false), (8, true), (9, true), (10, true), (12, false), (13, true)] (by kernel_rfl) fun _ hK48 => ?_
       refine dG fun _ hS => ?_; (repeat first | refine aI qTh0 ?_ | refine whole_yes qTh0 ?_ | refine whole_sub ?_); (intro cap2 hcap2; apply hS); clear hS
       refine d_readA rfl rfl (by decide) rfl fun _ hS => ?_
       repeat refine aI qTh0 ?_
       refine hS _ (.agg (.cells [.slice 2 0 (d.1.length + fw.length) cap2, .int .i64 d.2])) (as_eq rfl) ?_
       clear hS
       refine dG fun _ hS => ?_; (repeat first | refine aI qTh0 ?_ | refine whole_yes qTh0 ?_ | refine whole_sub ?_); refine aI (piece_noclo _) ?_; refine viewL_flat (piece_flat _) ?_; refine ⟨(d.1 ++ fw, d.2), p, congrArg (fun n => [SV.agg (.cells [.ds n (.u8s (d.1 ++ fw)), .int .i64 d.2]), pieceV p]) List.length_append.symm, ⟨⟨by show (d.1 ++ fw).length ≤ _; rw [List.length_append]; omega, hdok.2.1, hdok.2.2⟩, hw1, by omega⟩, ?_⟩; rw [putV_eq (show putL (d.1 ++ fw, d.2) p = (([], 0), 290) by rw [hd]; exact torn_put hfl (by omega) hpb)]; simp only [List.flatMap_cons, List.flatMap_nil, ids_piece, ids_sl, List.append_nil, Heap.delAll]; (repeat refine aI qTh0 ?_); (first | apply hS | (intro cap7 hcap7; apply hS)); clear hS
       refine dD1 ?_
       refine dR fun _ hS => ?_; (repeat refine aI qTh0 ?_); apply hS; clear hS
       refine dR fun _ hS => ?_; (repeat refine aI qTh0 ?_); apply hS; clear hS
       refine d_grow0 rfl rfl rfl fun _ hS => ?_
       repeat refine aI qTh0 ?_
       first | apply hS | (refine splice_full qTh0 ?_; apply hS)
       clear hS
       refine dD1 ?_
       refine d_nil ?_; apply hK48
       refine WB_done (by kernel_rfl) ?_
       refine dnS [] id () trivial [] ?_ ?_ ?_ ?_
       ·exact uTh0
       ·exact uTh0
       ·exact uTh0
       ·exact uTh0
    ·refine WB_force glw_ok rfl rfl (by decide) rfl fun _ hS => ?_
     repeat refine aI qTh0 ?_
     apply hS
     clear hS
     refine WB_all [2, 4, 6] (by kernel_rfl) (by decide) (List.forall_mem_cons.2 ⟨?_, List.forall_mem_cons.2 ⟨?_, List.forall_mem_cons.2 ⟨?_, fun _ h => by cases h⟩⟩⟩)
     ·refine WB_force glw_ok rfl rfl (by decide) rfl fun _ hS => ?_
      repeat first | refine aI qTh0 ?_ | refine whole_yes qTh0 ?_ | refine whole_sub ?_
      intro cap2 hcap2; apply hS
      clear hS
      refine WB_run glw_ok (g := 0) (by kernel_rfl) [(4, true), (6, true), (5, true), (7, false), (8, true), (9, true), (10, true), (12, false), (13, true)] (by kernel_rfl) fun _ hK49 => ?_
      refine dR fun _ hS => ?_; (repeat refine aI qTh0 ?_); (first | apply hS | (refine whole_yes qTh0 ?_; apply hS) | (refine whole_sub ?_; apply hS)); clear hS
      refine dR fun _ hS => ?_; (repeat refine aI qTh0 ?_); (first | apply hS | (refine whole_yes qTh0 ?_; apply hS) | (refine whole_sub ?_; apply hS)); clear hS
      refine d_readA rfl rfl (by decide) rfl fun _ hS => ?_
      repeat refine aI qTh0 ?_
      refine hS _ (.agg (.cells [.slice 2 0 (d.1.length + fw.length) cap2, .int .i64 d.2])) (as_eq rfl) ?_
      clear hS
      refine dG fun _ hS => ?_; (repeat first | refine aI qTh0 ?_ | refine whole_yes qTh0 ?_ | refine whole_sub ?_); refine aI (piece_noclo _) ?_; refine viewL_flat (piece_flat _) ?_; refine ⟨(d.1 ++ fw, d.2), p, congrArg (fun n => [SV.agg (.cells [.ds n (.u8s (d.1 ++ fw)), .int .i64 d.2]), pieceV p]) List.length_append.symm, ⟨⟨by show (d.1 ++ fw).length ≤ _; rw [List.length_append]; omega, hdok.2.1, hdok.2.2⟩, hw1, by omega⟩, ?_⟩; rw [putV_eq (show putL (d.1 ++ fw, d.2) p = (([], 0), 290) by rw [hd]; exact torn_put hfl (by omega) hpb)]; simp only [List.flatMap_cons, List.flatMap_nil, ids_piece, ids_sl, List.append_nil, Heap.delAll]; (repeat refine aI qTh0 ?_); (first | apply hS | (intro cap7 hcap7; apply hS)); clear hS
      refine dD1 ?_
      refine dR fun _ hS => ?_; (repeat refine aI qTh0 ?_); apply hS; clear hS
      refine dR fun _ hS => ?_; (repeat refine aI qTh0 ?_); apply hS; clear hS
      refine d_grow0 rfl rfl rfl fun _ hS => ?_
      repeat refine aI qTh0 ?_
      first | apply hS | (refine splice_full qTh0 ?_; apply hS)
      clear hS
      refine dD1 ?_
      refine d_nil ?_; apply hK49
      refine WB_done (by kernel_rfl) ?_
      refine dnS [] id () trivial [] ?_ ?_ ?_ ?_
      ·exact uTh0
      ·exact uTh0
      ·exact uTh0
      ·exact uTh0
     ·refine WB_force glw_ok rfl rfl (by decide) rfl fun _ hS => ?_
      repeat refine aI qTh0 ?_
      first | apply hS | (refine whole_yes qTh0 ?_; apply hS) | (refine whole_sub ?_; apply hS)
      clear hS
      refine WB_all [2, 6] (by kernel_rfl) (by decide) (List.forall_mem_cons.2 ⟨?_, List.forall_mem_cons.2 ⟨?_, fun _ h => by cases h⟩⟩)
      ·refine WB_force glw_ok rfl rfl (by decide) rfl fun _ hS => ?_
       repeat first | refine aI qTh0 ?_ | refine whole_yes qTh0 ?_ | refine whole_sub ?_
       intro cap2 hcap2; apply hS
       clear hS
       refine WB_run glw_ok (g := 0) (by kernel_rfl) [(6, true), (5, true), (7, false), (8, true), (9, true), (10, true), (12, false), (13, true)] (by kernel_rfl) fun _ hK50 => ?_
       refine dR fun _ hS => ?_; (repeat refine aI qTh0 ?_); (first | apply hS | (refine whole_yes qTh0 ?_; apply hS) | (refine whole_sub ?_; apply hS)); clear hS
       refine d_readA rfl rfl (by decide) rfl fun _ hS => ?_
       repeat refine aI qTh0 ?_
       refine hS _ (.agg (.cells [.slice 2 0 (d.1.length + fw.length) cap2, .int .i64 d.2])) (as_eq rfl) ?_
       clear hS
       refine dG fun _ hS => ?_; (repeat first | refine aI qTh0 ?_ | refine whole_yes qTh0 ?_ | refine whole_sub ?_); refine aI (piece_noclo _) ?_; refine viewL_flat (piece_flat _) ?_; refine ⟨(d.1 ++ fw, d.2), p, congrArg (fun n => [SV.agg (.cells [.ds n (.u8s (d.1 ++ fw)), .int .i64 d.2]), pieceV p]) List.length_append.symm, ⟨⟨by show (d.1 ++ fw).length ≤ _; rw [List.length_append]; omega, hdok.2.1, hdok.2.2⟩, hw1, by omega⟩, ?_⟩; rw [putV_eq (show putL (d.1 ++ fw, d.2) p = (([], 0), 290) by rw [hd]; exact torn_put hfl (by omega) hpb)]; simp only [List.flatMap_cons, List.flatMap_nil, ids_piece, ids_sl, List.append_nil, Heap.delAll]; (repeat refine aI qTh0 ?_); (first | apply hS | (intro cap7 hcap7; apply hS)); clear hS
       refine dD1 ?_
       refine dR fun _ hS => ?_; (repeat refine aI qTh0 ?_); apply hS; clear hS
       refine dR fun _ hS => ?_; (repeat refine aI qTh0 ?_); apply hS; clear hS
       refine d_grow0 rfl rfl rfl fun _ hS => ?_
       repeat refine aI qTh0 ?_
       first | apply hS | (refine splice_full qTh0 ?_; apply hS)
       clear hS
       refine dD1 ?_
       refine d_nil ?_; apply hK50
       refine WB_done (by kernel_rfl) ?_
       refine dnS [] id () trivial [] ?_ ?_ ?_ ?_
       ·exact uTh0
       ·exact uTh0
       ·exact uTh0
       ·exact uTh0
      ·refine WB_force glw_ok rfl rfl (by decide) rfl fun _ hS => ?_
       repeat refine aI qTh0 ?_
       first | apply hS | (refine whole_yes qTh0 ?_; apply hS) | (refine whole_sub ?_; apply hS)
       clear hS
       refine WB_run glw_ok (g := 0) (by kernel_rfl) [(2, false), (5, true), (7, false), (8, true), (9, true), (10, true), (12, false), (13, true)] (by kernel_rfl) fun _ hK51 => ?_
       refine dG fun _ hS => ?_; (repeat first | refine aI qTh0 ?_ | refine whole_yes qTh0 ?_ | refine whole_sub ?_); (intro cap2 hcap2; apply hS); clear hS
       refine d_readA rfl rfl (by decide) rfl fun _ hS => ?_
       repeat refine aI qTh0 ?_
       refine hS _ (.agg (.cells [.slice 2 0 (d.1.length + fw.length) cap2, .int .i64 d.2])) (as_eq rfl) ?_
       clear hS
       refine dG fun _ hS => ?_; (repeat first | refine aI qTh0 ?_ | refine whole_yes qTh0 ?_ | refine whole_sub ?_); refine aI (piece_noclo _) ?_; refine viewL_flat (piece_flat _) ?_; refine ⟨(d.1 ++ fw, d.2), p, congrArg (fun n => [SV.agg (.cells [.ds n (.u8s (d.1 ++ fw)), .int .i64 d.2]), pieceV p]) List.length_append.symm, ⟨⟨by show (d.1 ++ fw).length ≤ _; rw [List.length_append]; omega, hdok.2.1, hdok.2.2⟩, hw1, by omega⟩, ?_⟩; rw [putV_eq (show putL (d.1 ++ fw, d.2) p = (([], 0), 290) by rw [hd]; exact torn_put hfl (by omega) hpb)]; simp only [List.flatMap_cons, List.flatMap_nil, ids_piece, ids_sl, List.append_nil, Heap.delAll]; (repeat refine aI qTh0 ?_); (first | apply hS | (intro cap7 hcap7; apply hS)); clear hS
       refine dD1 ?_
       refine dR fun _ hS => ?_; (repeat refine aI qTh0 ?_); apply hS; clear hS
       refine dR fun _ hS => ?_; (repeat refine aI qTh0 ?_); apply hS; clear hS
       refine d_grow0 rfl rfl rfl fun _ hS => ?_
       repeat refine aI qTh0 ?_
       first | apply hS | (refine splice_full qTh0 ?_; apply hS)
       clear hS
       refine dD1 ?_
       refine d_nil ?_; apply hK51
       refine WB_done (by kernel_rfl) ?_
       refine dnS [] id () trivial [] ?_ ?_ ?_ ?_
       ·exact uTh0
       ·exact uTh0
       ·exact uTh0
       ·exact uTh0
     ·refine WB_force glw_ok rfl rfl (by decide) rfl fun _ hS => ?_
      repeat refine aI qTh0 ?_
      first | apply hS | (refine whole_yes qTh0 ?_; apply hS) | (refine whole_sub ?_; apply hS)
      clear hS
      refine WB_all [2, 4] (by kernel_rfl) (by decide) (List.forall_mem_cons.2 ⟨?_, List.forall_mem_cons.2 ⟨?_, fun _ h => by cases h⟩⟩)
      ·refine WB_force glw_ok rfl rfl (by decide) rfl fun _ hS => ?_
       repeat first | refine aI qTh0 ?_ | refine whole_yes qTh0 ?_ | refine whole_sub ?_
       intro cap2 hcap2; apply hS
       clear hS
       refine WB_run glw_ok (g := 0) (by kernel_rfl) [(4, true), (5, true), (7, false), (8, true), (9, true), (10, true), (12, false), (13, true)] (by kernel_rfl) fun _ hK52 => ?_
       refine dR fun _ hS => ?_; (repeat refine aI qTh0 ?_); (first | apply hS | (refine whole_yes qTh0 ?_; apply hS) | (refine whole_sub ?_; apply hS)); clear hS
       refine d_readA rfl rfl (by decide) rfl fun _ hS => ?_
       repeat refine aI qTh0 ?_
       refine hS _ (.agg (.cells [.slice 2 0 (d.1.length + fw.length) cap2, .int .i64 d.2])) (as_eq rfl) ?_
       clear hS
       refine dG fun _ hS => ?_; (repeat first | refine aI qTh0 ?_ | refine whole_yes qTh0 ?_ | refine whole_sub ?_); refine aI (piece_noclo _) ?_; refine viewL_flat (piece_flat _) ?_; refine ⟨(d.1 ++ fw, d.2), p, congrArg (fun n => [SV.agg (.cells [.ds n (.u8s (d.1 ++ fw)), .int .i64 d.2]), pieceV p]) List.length_append.symm, ⟨⟨by show (d.1 ++ fw).length ≤ _; rw [List.length_append]; omega, hdok.2.1, hdok.2.2⟩, hw1, by omega⟩, ?_⟩; rw [putV_eq (show putL (d.1 ++ fw, d.2) p = (([], 0), 290) by rw [hd]; exact torn_put hfl (by omega) hpb)]; simp only [List.flatMap_cons, List.flatMap_nil, ids_piece, ids_sl, List.append_nil, Heap.delAll]; (repeat refine aI qTh0 ?_); (first | apply hS | (intro cap7 hcap7; apply hS)); clear hS
       refine dD1 ?_
       refine dR fun _ hS => ?_; (repeat refine aI qTh0 ?_); apply hS; clear hS
       refine dR fun _ hS => ?_; (repeat refine aI qTh0 ?_); apply hS; clear hS
       refine d_grow0 rfl rfl rfl fun _ hS => ?_
       repeat refine aI qTh0 ?_
       first | apply hS | (refine splice_full qTh0 ?_; apply hS)
       clear hS
       refine dD1 ?_
       refine d_nil ?_; apply hK52
       refine WB_done (by kernel_rfl) ?_
       refine dnS [] id () trivial [] ?_ ?_ ?_ ?_
       ·exact uTh0
       ·exact uTh0
       ·exact uTh0
       ·exact uTh0
      ·refine WB_force glw_ok rfl rfl (by decide) rfl fun _ hS => ?_
       repeat refine aI qTh0 ?_
       first | apply hS | (refine whole_yes qTh0 ?_; apply hS) | (refine whole_sub ?_; apply hS)
       clear hS
       refine WB_run glw_ok (g := 0) (by kernel_rfl) [(2, false), (5, true), (7, false), (8, true), (9, true), (10, true), (12, false), (13, true)] (by kernel_rfl) fun _ hK53 => ?_
       refine dG fun _ hS => ?_; (repeat first | refine aI qTh0 ?_ | refine whole_yes qTh0 ?_ | refine whole_sub ?_); (intro cap2 hcap2; apply hS); clear hS
       refine d_readA rfl rfl (by decide) rfl fun _ hS => ?_
       repeat refine aI qTh0 ?_
       refine hS _ (.agg (.cells [.slice 2 0 (d.1.length + fw.length) cap2, .int .i64 d.2])) (as_eq rfl) ?_
       clear hS
       refine dG fun _ hS => ?_; (repeat first | refine aI qTh0 ?_ | refine whole_yes qTh0 ?_ | refine whole_sub ?_); refine aI (piece_noclo _) ?_; refine viewL_flat (piece_flat _) ?_; refine ⟨(d.1 ++ fw, d.2), p, congrArg (fun n => [SV.agg (.cells [.ds n (.u8s (d.1 ++ fw)), .int .i64 d.2]), pieceV p]) List.length_append.symm, ⟨⟨by show (d.1 ++ fw).length ≤ _; rw [List.length_append]; omega, hdok.2.1, hdok.2.2⟩, hw1, by omega⟩, ?_⟩; rw [putV_eq (show putL (d.1 ++ fw, d.2) p = (([], 0), 290) by rw [hd]; exact torn_put hfl (by omega) hpb)]; simp only [List.flatMap_cons, List.flatMap_nil, ids_piece, ids_sl, List.append_nil, Heap.delAll]; (repeat refine aI qTh0 ?_); (first | apply hS | (intro cap7 hcap7; apply hS)); clear hS
       refine dD1 ?_
       refine dR fun _ hS => ?_; (repeat refine aI qTh0 ?_); apply hS; clear hS
       refine dR fun _ hS => ?_; (repeat refine aI qTh0 ?_); apply hS; clear hS
       refine d_grow0 rfl rfl rfl fun _ hS => ?_
       repeat refine aI qTh0 ?_
       first | apply hS | (refine splice_full qTh0 ?_; apply hS)
       clear hS
       refine dD1 ?_
       refine d_nil ?_; apply hK53
       refine WB_done (by kernel_rfl) ?_
       refine dnS [] id () trivial [] ?_ ?_ ?_ ?_
       ·exact uTh0
       ·exact uTh0
       ·exact uTh0
       ·exact uTh0
   ·refine WB_force glw_ok rfl rfl (by decide) rfl fun _ hS => ?_
    repeat refine aI qTh0 ?_
    first | apply hS | (refine whole_yes qTh0 ?_; apply hS) | (refine whole_sub ?_; apply hS)
    clear hS
    refine WB_all [2, 3, 11] (by kernel_rfl) (by decide) (List.forall_mem_cons.2 ⟨?_, List.forall_mem_cons.2 ⟨?_, List.forall_mem_cons.2 ⟨?_, fun _ h => by cases h⟩⟩⟩)
    ·refine WB_force glw_ok rfl rfl (by decide) rfl fun _ hS => ?_
     repeat first | refine aI qTh0 ?_ | refine whole_yes qTh0 ?_ | refine whole_sub ?_
     intro cap2 hcap2; apply hS
     clear hS
     refine WB_run glw_ok (g := 7) (by kernel_rfl) [(3, true), (4, true), (5, true)] (by kernel_rfl) fun _ hK54 => ?_
     refine dR fun _ hS => ?_; (repeat refine aI qTh0 ?_); apply hS; clear hS
     refine dR fun _ hS => ?_; (repeat refine aI qTh0 ?_); (first | apply hS | (refine whole_yes qTh0 ?_; apply hS) | (refine whole_sub ?_; apply hS)); clear hS
     refine d_readA rfl rfl (by decide) rfl fun _ hS => ?_
     repeat refine aI qTh0 ?_
     refine hS _ (.agg (.cells [.slice 1 0 (d.1.length + fw.length) cap2, .int .i64 d.2])) (as_eq rfl) ?_
     clear hS; refine d_nil ?_; apply hK54
     refine WB_all [7, 11] (by kernel_rfl) (by decide) (List.forall_mem_cons.2 ⟨?_, List.forall_mem_cons.2 ⟨?_, fun _ h => by cases h⟩⟩)
     ·refine WB_force glw_ok rfl rfl (by decide) rfl fun _ hS => ?_
      repeat first | refine aI qTh0 ?_ | refine whole_yes qTh0 ?_ | refine whole_sub ?_
      refine aI (piece_noclo _) ?_
      refine viewL_flat (piece_flat _) ?_
      refine ⟨(d.1 ++ fw, d.2), p, congrArg (fun n => [SV.agg (.cells [.ds n (.u8s (d.1 ++ fw)), .int .i64 d.2]), pieceV p]) List.length_append.symm, ⟨⟨by show (d.1 ++ fw).length ≤ _; rw [List.length_append]; omega, hdok.2.1, hdok.2.2⟩, hw1, by omega⟩, ?_⟩
      rw [putV_eq (show putL (d.1 ++ fw, d.2) p = (([], 0), 290) by rw [hd]; exact torn_put hfl (by omega) hpb)]
      simp only [List.flatMap_cons, List.flatMap_nil, ids_piece, ids_sl, List.append_nil, Heap.delAll]
      repeat refine aI qTh0 ?_
      first | apply hS | (intro cap7 hcap7; apply hS)
      clear hS
      refine WB_run glw_ok (g := 0) (by kernel_rfl) [(8, true), (9, true), (10, true), (11, false), (12, false), (13, true)] (by kernel_rfl) fun _ hK55 => ?_
      refine dD1 ?_
      refine dR fun _ hS => ?_; (repeat refine aI qTh0 ?_); apply hS; clear hS
      refine dR fun _ hS => ?_; (repeat refine aI qTh0 ?_); apply hS; clear hS
      refine dG fun _ hS => ?_; (repeat refine aI qTh0 ?_); apply hS; clear hS
      refine d_grow0 rfl rfl rfl fun _ hS => ?_
      repeat refine aI qTh0 ?_
      first | apply hS | (refine splice_full qTh0 ?_; apply hS)
      clear hS
      refine dD1 ?_
      refine d_nil ?_; apply hK55
      refine WB_done (by kernel_rfl) ?_
      refine dnS [] id () trivial [] ?_ ?_ ?_ ?_
      ·exact uTh0
      ·exact uTh0
      ·exact uTh0
      ·exact uTh0
     ·refine WB_force glw_ok rfl rfl (by decide) rfl fun _ hS => ?_
      repeat refine aI qTh0 ?_
      apply hS
      clear hS
      refine WB_run glw_ok (g := 0) (by kernel_rfl) [(7, false), (8, true), (9, true), (10, true), (12, false), (13, true)] (by kernel_rfl) fun _ hK56 => ?_
      refine dG fun _ hS => ?_; (repeat first | refine aI qTh0 ?_ | refine whole_yes qTh0 ?_ | refine whole_sub ?_); refine aI (piece_noclo _) ?_; refine viewL_flat (piece_flat _) ?_; refine ⟨(d.1 ++ fw, d.2), p, congrArg (fun n => [SV.agg (.cells [.ds n (.u8s (d.1 ++ fw)), .int .i64 d.2]), pieceV p]) List.length_append.symm, ⟨⟨by show (d.1 ++ fw).length ≤ _; rw [List.length_append]; omega, hdok.2.1, hdok.2.2⟩, hw1, by omega⟩, ?_⟩; rw [putV_eq (show putL (d.1 ++ fw, d.2) p = (([], 0), 290) by rw [hd]; exact torn_put hfl (by omega) hpb)]; simp only [List.flatMap_cons, List.flatMap_nil, ids_piece, ids_sl, List.append_nil, Heap.delAll]; (repeat refine aI qTh0 ?_); (first | apply hS | (intro cap7 hcap7; apply hS)); clear hS
      refine dD1 ?_
      refine dR fun _ hS => ?_; (repeat refine aI qTh0 ?_); apply hS; clear hS
      refine dR fun _ hS => ?_; (repeat refine aI qTh0 ?_); apply hS; clear hS
      refine d_grow0 rfl rfl rfl fun _ hS => ?_
      repeat refine aI qTh0 ?_
      first | apply hS | (refine splice_full qTh0 ?_; apply hS)
      clear hS
      refine dD1 ?_
      refine d_nil ?_; apply hK56
      refine WB_done (by kernel_rfl) ?_
      refine dnS [] id () trivial [] ?_ ?_ ?_ ?_
      ·exact uTh0
      ·exact uTh0
      ·exact uTh0
      ·exact uTh0
    ·refine WB_force glw_ok rfl rfl (by decide) rfl fun _ hS => ?_
     repeat refine aI qTh0 ?_
     apply hS
     clear hS
     refine WB_all [2, 4, 11] (by kernel_rfl) (by decide) (List.forall_mem_cons.2 ⟨?_, List.forall_mem_cons.2 ⟨?_, List.forall_mem_cons.2 ⟨?_, fun _ h => by cases h⟩⟩⟩)
     ·refine WB_force glw_ok rfl rfl (by decide) rfl fun _ hS => ?_
      repeat first | refine aI qTh0 ?_ | refine whole_yes qTh0 ?_ | refine whole_sub ?_
      intro cap2 hcap2; apply hS
      clear hS
      refine WB_run glw_ok (g := 7) (by kernel_rfl) [(4, true), (5, true)] (by kernel_rfl) fun _ hK57 => ?_
      refine dR fun _ hS => ?_; (repeat refine aI qTh0 ?_); (first | apply hS | (refine whole_yes qTh0 ?_; apply hS) | (refine whole_sub ?_; apply hS)); clear hS
      refine d_readA rfl rfl (by decide) rfl fun _ hS => ?_
      repeat refine aI qTh0 ?_
      refine hS _ (.agg (.cells [.slice 1 0 (d.1.length + fw.length) cap2, .int .i64 d.2])) (as_eq rfl) ?_
      clear hS; refine d_nil ?_; apply hK57
      refine WB_all [7, 11] (by kernel_rfl) (by decide) (List.forall_mem_cons.2 ⟨?_, List.forall_mem_cons.2 ⟨?_, fun _ h => by cases h⟩⟩)
      ·refine WB_force glw_ok rfl rfl (by decide) rfl fun _ hS => ?_
       repeat first | refine aI qTh0 ?_ | refine whole_yes qTh0 ?_ | refine whole_sub ?_
       refine aI (piece_noclo _) ?_
       refine viewL_flat (piece_flat _) ?_
       refine ⟨(d.1 ++ fw, d.2), p, congrArg (fun n => [SV.agg (.cells [.ds n (.u8s (d.1 ++ fw)), .int .i64 d.2]), pieceV p]) List.length_append.symm, ⟨⟨by show (d.1 ++ fw).length ≤ _; rw [List.length_append]; omega, hdok.2.1, hdok.2.2⟩, hw1, by omega⟩, ?_⟩
       rw [putV_eq (show putL (d.1 ++ fw, d.2) p = (([], 0), 290) by rw [hd]; exact torn_put hfl (by omega) hpb)]
       simp only [List.flatMap_cons, List.flatMap_nil, ids_piece, ids_sl, List.append_nil, Heap.delAll]
       repeat refine aI qTh0 ?_
       first | apply hS | (intro cap7 hcap7; apply hS)
       clear hS
       refine WB_run glw_ok (g := 0) (by kernel_rfl) [(8, true), (9, true), (10, true), (11, false), (12, false), (13, true)] (by kernel_rfl) fun _ hK58 => ?_
       refine dD1 ?_
       refine dR fun _ hS => ?_; (repeat refine aI qTh0 ?_); apply hS; clear hS
       refine dR fun _ hS => ?_; (repeat refine aI qTh0 ?_); apply hS; clear hS
       refine dG fun _ hS => ?_; (repeat refine aI qTh0 ?_); apply hS; clear hS
       refine d_grow0 rfl rfl rfl fun _ hS => ?_
       repeat refine aI qTh0 ?_
       first | apply hS | (refine splice_full qTh0 ?_; apply hS)
       clear hS
       refine dD1 ?_
       refine d_nil ?_; apply hK58
       refine WB_done (by kernel_rfl) ?_
       refine dnS [] id () trivial [] ?_ ?_ ?_ ?_
       ·exact uTh0
       ·exact uTh0
       ·exact uTh0
       ·exact uTh0
      ·refine WB_force glw_ok rfl rfl (by decide) rfl fun _ hS => ?_
       repeat refine aI qTh0 ?_
       apply hS
       clear hS
       refine WB_run glw_ok (g := 0) (by kernel_rfl) [(7, false), (8, true), (9, true), (10, true), (12, false), (13, true)] (by kernel_rfl) fun _ hK59 => ?_
       refine dG fun _ hS => ?_; (repeat first | refine aI qTh0 ?_ | refine whole_yes qTh0 ?_ | refine whole_sub ?_); refine aI (piece_noclo _) ?_; refine viewL_flat (piece_flat _) ?_; refine ⟨(d.1 ++ fw, d.2), p, congrArg (fun n => [SV.agg (.cells [.ds n (.u8s (d.1 ++ fw)), .int .i64 d.2]), pieceV p]) List.length_append.symm, ⟨⟨by show (d.1 ++ fw).length ≤ _; rw [List.length_append]; omega, hdok.2.1, hdok.2.2⟩, hw1, by omega⟩, ?_⟩; rw [putV_eq (show putL (d.1 ++ fw, d.2) p = (([], 0), 290) by rw [hd]; exact torn_put hfl (by omega) hpb)]; simp only [List.flatMap_cons, List.flatMap_nil, ids_piece, ids_sl, List.append_nil, Heap.delAll]; (repeat refine aI qTh0 ?_); (first | apply hS | (intro cap7 hcap7; apply hS)); clear hS
       refine dD1 ?_
       refine dR fun _ hS => ?_; (repeat refine aI qTh0 ?_); apply hS; clear hS
       refine dR fun _ hS => ?_; (repeat refine aI qTh0 ?_); apply hS; clear hS
       refine d_grow0 rfl rfl rfl fun _ hS => ?_
       repeat refine aI qTh0 ?_
       first | apply hS | (refine splice_full qTh0 ?_; apply hS)
       clear hS
       refine dD1 ?_
       refine d_nil ?_; apply hK59
       refine WB_done (by kernel_rfl) ?_
       refine dnS [] id () trivial [] ?_ ?_ ?_ ?_
       ·exact uTh0
       ·exact uTh0
       ·exact uTh0
       ·exact uTh0
     ·refine WB_force glw_ok rfl rfl (by decide) rfl fun _ hS => ?_
      repeat refine aI qTh0 ?_
      first | apply hS | (refine whole_yes qTh0 ?_; apply hS) | (refine whole_sub ?_; apply hS)
      clear hS
      refine WB_all [2, 11] (by kernel_rfl) (by decide) (List.forall_mem_cons.2 ⟨?_, List.forall_mem_cons.2 ⟨?_, fun _ h => by cases h⟩⟩)
      ·refine WB_force glw_ok rfl rfl (by decide) rfl fun _ hS => ?_
       repeat first | refine aI qTh0 ?_ | refine whole_yes qTh0 ?_ | refine whole_sub ?_
       intro cap2 hcap2; apply hS
       clear hS
       refine WB_run glw_ok (g := 7) (by kernel_rfl) [(5, true)] (by kernel_rfl) fun _ hK60 => ?_
       refine d_readA rfl rfl (by decide) rfl fun _ hS => ?_
       repeat refine aI qTh0 ?_
       refine hS _ (.agg (.cells [.slice 1 0 (d.1.length + fw.length) cap2, .int .i64 d.2])) (as_eq rfl) ?_
       clear hS; refine d_nil ?_; apply hK60
       refine WB_all [7, 11] (by kernel_rfl) (by decide) (List.forall_mem_cons.2 ⟨?_, List.forall_mem_cons.2 ⟨?_, fun _ h => by cases h⟩⟩)
       ·refine WB_force glw_ok rfl rfl (by decide) rfl fun _ hS => ?_
        repeat first | refine aI qTh0 ?_ | refine whole_yes qTh0 ?_ | refine whole_sub ?_
        refine aI (piece_noclo _) ?_
        refine viewL_flat (piece_flat _) ?_
        refine ⟨(d.1 ++ fw, d.2), p, congrArg (fun n => [SV.agg (.cells [.ds n (.u8s (d.1 ++ fw)), .int .i64 d.2]), pieceV p]) List.length_append.symm, ⟨⟨by show (d.1 ++ fw).length ≤ _; rw [List.length_append]; omega, hdok.2.1, hdok.2.2⟩, hw1, by omega⟩, ?_⟩
        rw [putV_eq (show putL (d.1 ++ fw, d.2) p = (([], 0), 290) by rw [hd]; exact torn_put hfl (by omega) hpb)]
        simp only [List.flatMap_cons, List.flatMap_nil, ids_piece, ids_sl, List.append_nil, Heap.delAll]
        repeat refine aI qTh0 ?_
        first | apply hS | (intro cap7 hcap7; apply hS)
        clear hS
        refine WB_run glw_ok (g := 0) (by kernel_rfl) [(8, true), (9, true), (10, true), (11, false), (12, false), (13, true)] (by kernel_rfl) fun _ hK61 => ?_
        refine dD1 ?_
        refine dR fun _ hS => ?_; (repeat refine aI qTh0 ?_); apply hS; clear hS
        refine dR fun _ hS => ?_; (repeat refine aI qTh0 ?_); apply hS; clear hS
        refine dG fun _ hS => ?_; (repeat refine aI qTh0 ?_); apply hS; clear hS
        refine d_grow0 rfl rfl rfl fun _ hS => ?_
        repeat refine aI qTh0 ?_
        first | apply hS | (refine splice_full qTh0 ?_; apply hS)
        clear hS
        refine dD1 ?_
        refine d_nil ?_; apply hK61
        refine WB_done (by kernel_rfl) ?_
        refine dnS [] id () trivial [] ?_ ?_ ?_ ?_
        ·exact uTh0
        ·exact uTh0
        ·exact uTh0
        ·exact uTh0
       ·refine WB_force glw_ok rfl rfl (by decide) rfl fun _ hS => ?_
        repeat refine aI qTh0 ?_
        apply hS
        clear hS
        refine WB_run glw_ok (g := 0) (by kernel_rfl) [(7, false), (8, true), (9, true), (10, true), (12, false), (13, true)] (by kernel_rfl) fun _ hK62 => ?_
        refine dG fun _ hS => ?_; (repeat first | refine aI qTh0 ?_ | refine whole_yes qTh0 ?_ | refine whole_sub ?_); refine aI (piece_noclo _) ?_; refine viewL_flat (piece_flat _) ?_; refine ⟨(d.1 ++ fw, d.2), p, congrArg (fun n => [SV.agg (.cells [.ds n (.u8s (d.1 ++ fw)), .int .i64 d.2]), pieceV p]) List.length_append.symm, ⟨⟨by show (d.1 ++ fw).length ≤ _; rw [List.length_append]; omega, hdok.2.1, hdok.2.2⟩, hw1, by omega⟩, ?_⟩; rw [putV_eq (show putL (d.1 ++ fw, d.2) p = (([], 0), 290) by rw [hd]; exact torn_put hfl (by omega) hpb)]; simp only [List.flatMap_cons, List.flatMap_nil, ids_piece, ids_sl, List.append_nil, Heap.delAll]; (repeat refine aI qTh0 ?_); (first | apply hS | (intro cap7 hcap7; apply hS)); clear hS
        refine dD1 ?_
        refine dR fun _ hS => ?_; (repeat refine aI qTh0 ?_); apply hS; clear hS
        refine dR fun _ hS => ?_; (repeat refine aI qTh0 ?_); apply hS; clear hS
        refine d_grow0 rfl rfl rfl fun _ hS => ?_
        repeat refine aI qTh0 ?_
        first | apply hS | (refine splice_full qTh0 ?_; apply hS)
        clear hS
        refine dD1 ?_
        refine d_nil ?_; apply hK62
        refine WB_done (by kernel_rfl) ?_
        refine dnS [] id () trivial [] ?_ ?_ ?_ ?_
        ·exact uTh0
        ·exact uTh0
        ·exact uTh0
        ·exact uTh0
      ·refine WB_force glw_ok rfl rfl (by decide) rfl fun _ hS => ?_
       repeat refine aI qTh0 ?_
       apply hS
       clear hS
       refine WB_run glw_ok (g := 0) (by kernel_rfl) [(2, false), (5, true), (7, false), (8, true), (9, true), (10, true), (12, false), (13, true)] (by kernel_rfl) fun _ hK63 => ?_
       refine dG fun _ hS => ?_; (repeat first | refine aI qTh0 ?_ | refine whole_yes qTh0 ?_ | refine whole_sub ?_); (intro cap2 hcap2; apply hS); clear hS
       refine d_readA rfl rfl (by decide) rfl fun _ hS => ?_
       repeat refine aI qTh0 ?_
       refine hS _ (.agg (.cells [.slice 2 0 (d.1.length + fw.length) cap2, .int .i64 d.2])) (as_eq rfl) ?_
       clear hS
       refine dG fun _ hS => ?_; (repeat first | refine aI qTh0 ?_ | refine whole_yes qTh0 ?_ | refine whole_sub ?_); refine aI (piece_noclo _) ?_; refine viewL_flat (piece_flat _) ?_; refine ⟨(d.1 ++ fw, d.2), p, congrArg (fun n => [SV.agg (.cells [.ds n (.u8s (d.1 ++ fw)), .int .i64 d.2]), pieceV p]) List.length_append.symm, ⟨⟨by show (d.1 ++ fw).length ≤ _; rw [List.length_append]; omega, hdok.2.1, hdok.2.2⟩, hw1, by omega⟩, ?_⟩; rw [putV_eq (show putL (d.1 ++ fw, d.2) p = (([], 0), 290) by rw [hd]; exact torn_put hfl (by omega) hpb)]; simp only [List.flatMap_cons, List.flatMap_nil, ids_piece, ids_sl, List.append_nil, Heap.delAll]; (repeat refine aI qTh0 ?_); (first | apply hS | (intro cap7 hcap7; apply hS)); clear hS
       refine dD1 ?_
       refine dR fun _ hS => ?_; (repeat refine aI qTh0 ?_); apply hS; clear hS
       refine dR fun _ hS => ?_; (repeat refine aI qTh0 ?_); apply hS; clear hS
       refine d_grow0 rfl rfl rfl fun _ hS => ?_
       repeat refine aI qTh0 ?_
       first | apply hS | (refine splice_full qTh0 ?_; apply hS)
       clear hS
       refine dD1 ?_
       refine d_nil ?_; apply hK63
       refine WB_done (by kernel_rfl) ?_
       refine dnS [] id () trivial [] ?_ ?_ ?_ ?_
       ·exact uTh0
       ·exact uTh0
       ·exact uTh0
       ·exact uTh0
     ·refine WB_force glw_ok rfl rfl (by decide) rfl fun _ hS => ?_
      repeat refine aI qTh0 ?_
      apply hS
      clear hS
      refine WB_all [2, 4] (by kernel_rfl) (by decide) (List.forall_mem_cons.2 ⟨?_, List.forall_mem_cons.2 ⟨?_, fun _ h => by cases h⟩⟩)
      ·refine WB_force glw_ok rfl rfl (by decide) rfl fun _ hS => ?_
       repeat first | refine aI qTh0 ?_ | refine whole_yes qTh0 ?_ | refine whole_sub ?_
       intro cap2 hcap2; apply hS
       clear hS
       refine WB_run glw_ok (g := 0) (by kernel_rfl) [(4, true), (5, true), (7, false), (8, true), (9, true), (10, true), (12, false), (13, true)] (by kernel_rfl) fun _ hK64 => ?_
       refine dR fun _ hS => ?_; (repeat refine aI qTh0 ?_); (first | apply hS | (refine whole_yes qTh0 ?_; apply hS) | (refine whole_sub ?_; apply hS)); clear hS
       refine d_readA rfl rfl (by decide) rfl fun _ hS => ?_
       repeat refine aI qTh0 ?_
       refine hS _ (.agg (.cells [.slice 2 0 (d.1.length + fw.length) cap2, .int .i64 d.2])) (as_eq rfl) ?_
       clear hS
       refine dG fun _ hS => ?_; (repeat first | refine aI qTh0 ?_ | refine whole_yes qTh0 ?_ | refine whole_sub ?_); refine aI (piece_noclo _) ?_; refine viewL_flat (piece_flat _) ?_; refine ⟨(d.1 ++ fw, d.2), p, congrArg (fun n => [SV.agg (.cells [.ds n (.u8s (d.1 ++ fw)), .int .i64 d.2]), pieceV p]) List.length_append.symm, ⟨⟨by show (d.1 ++ fw).length ≤ _; rw [List.length_append]; omega, hdok.2.1, hdok.2.2⟩, hw1, by omega⟩, ?_⟩; rw [putV_eq (show putL (d.1 ++ fw, d.2) p = (([], 0), 290) by rw [hd]; exact torn_put hfl (by omega) hpb)]; simp only [List.flatMap_cons, List.flatMap_nil, ids_piece, ids_sl, List.append_nil, Heap.delAll]; (repeat refine aI qTh0 ?_); (first | apply hS | (intro cap7 hcap7; apply hS)); clear hS
       refine dD1 ?_
       refine dR fun _ hS => ?_; (repeat refine aI qTh0 ?_); apply hS; clear hS
       refine dR fun _ hS => ?_; (repeat refine aI qTh0 ?_); apply hS; clear hS
       refine d_grow0 rfl rfl rfl fun _ hS => ?_
       repeat refine aI qTh0 ?_
       first | apply hS | (refine splice_full qTh0 ?_; apply hS)
       clear hS
       refine dD1 ?_
       refine d_nil ?_; apply hK64
       refine WB_done (by kernel_rfl) ?_
       refine dnS [] id () trivial [] ?_ ?_ ?_ ?_
       ·exact uTh0
       ·exact uTh0
       ·exact uTh0
       ·exact uTh0
      ·refine WB_force glw_ok rfl rfl (by decide) rfl fun _ hS => ?_
       repeat refine aI qTh0 ?_
       first | apply hS | (refine whole_yes qTh0 ?_; apply hS) | (refine whole_sub ?_; apply hS)
       clear hS
       refine WB_run glw_ok (g := 0) (by kernel_rfl) [(2, false), (5, true), (7, false), (8, true), (9, true), (10, true), (12, false), (13, true)] (by kernel_rfl) fun _ hK65 => ?_
       refine dG fun _ hS => ?_; (repeat first | refine aI qTh0 ?_ | refine whole_yes qTh0 ?_ | refine whole_sub ?_); (intro cap2 hcap2; apply hS); clear hS
       refine d_readA rfl rfl (by decide) rfl fun _ hS => ?_
       repeat refine aI qTh0 ?_
       refine hS _ (.agg (.cells [.slice 2 0 (d.1.length + fw.length) cap2, .int .i64 d.2])) (as_eq rfl) ?_
       clear hS
       refine dG fun _ hS => ?_; (repeat first | refine aI qTh0 ?_ | refine whole_yes qTh0 ?_ | refine whole_sub ?_); refine aI (piece_noclo _) ?_; refine viewL_flat (piece_flat _) ?_; refine ⟨(d.1 ++ fw, d.2), p, congrArg (fun n => [SV.agg (.cells [.ds n (.u8s (d.1 ++ fw)), .int .i64 d.2]), pieceV p]) List.length_append.symm, ⟨⟨by show (d.1 ++ fw).length ≤ _; rw [List.length_append]; omega, hdok.2.1, hdok.2.2⟩, hw1, by omega⟩, ?_⟩; rw [putV_eq (show putL (d.1 ++ fw, d.2) p = (([], 0), 290) by rw [hd]; exact torn_put hfl (by omega) hpb)]; simp only [List.flatMap_cons, List.flatMap_nil, ids_piece, ids_sl, List.append_nil, Heap.delAll]; (repeat refine aI qTh0 ?_); (first | apply hS | (intro cap7 hcap7; apply hS)); clear hS
       refine dD1 ?_
       refine dR fun _ hS => ?_; (repeat refine aI qTh0 ?_); apply hS; clear hS
       refine dR fun _ hS => ?_; (repeat refine aI qTh0 ?_); apply hS; clear hS
       refine d_grow0 rfl rfl rfl fun _ hS => ?_
       repeat refine aI qTh0 ?_
       first | apply hS | (refine splice_full qTh0 ?_; apply hS)
       clear hS
       refine dD1 ?_
       refine d_nil ?_; apply hK65
       refine WB_done (by kernel_rfl) ?_
       refine dnS [] id () trivial [] ?_ ?_ ?_ ?_
       ·exact uTh0
       ·exact uTh0
       ·exact uTh0
       ·exact uTh0
    ·refine WB_force glw_ok rfl rfl (by decide) rfl fun _ hS => ?_
     repeat refine aI qTh0 ?_
     apply hS
     clear hS
     refine WB_all [2, 3] (by kernel_rfl) (by decide) (List.forall_mem_cons.2 ⟨?_, List.forall_mem_cons.2 ⟨?_, fun _ h => by cases h⟩⟩)
     ·refine WB_force glw_ok rfl rfl (by decide) rfl fun _ hS => ?_
      repeat first | refine aI qTh0 ?_ | refine whole_yes qTh0 ?_ | refine whole_sub ?_
      intro cap2 hcap2; apply hS
      clear hS
      refine WB_run glw_ok (g := 0) (by kernel_rfl) [(3, true), (4, true), (5, true), (7, false), (8, true), (9, true), (10, true), (12, false), (13, true)] (by kernel_rfl) fun _ hK66 => ?_
      refine dR fun _ hS => ?_; (repeat refine aI qTh0 ?_); apply hS; clear hS
      refine dR fun _ hS => ?_; (repeat refine aI qTh0 ?_); (first | apply hS | (refine whole_yes qTh0 ?_; apply hS) | (refine whole_sub ?_; apply hS)); clear hS
      refine d_readA rfl rfl (by decide) rfl fun _ hS => ?_
      repeat refine aI qTh0 ?_
      refine hS _ (.agg (.cells [.slice 2 0 (d.1.length + fw.length) cap2, .int .i64 d.2])) (as_eq rfl) ?_
      clear hS
      refine dG fun _ hS => ?_; (repeat first | refine aI qTh0 ?_ | refine whole_yes qTh0 ?_ | refine whole_sub ?_); refine aI (piece_noclo _) ?_; refine viewL_flat (piece_flat _) ?_; refine ⟨(d.1 ++ fw, d.2), p, congrArg (fun n => [SV.agg (.cells [.ds n (.u8s (d.1 ++ fw)), .int .i64 d.2]), pieceV p]) List.length_append.symm, ⟨⟨by show (d.1 ++ fw).length ≤ _; rw [List.length_append]; omega, hdok.2.1, hdok.2.2⟩, hw1, by omega⟩, ?_⟩; rw [putV_eq (show putL (d.1 ++ fw, d.2) p = (([], 0), 290) by rw [hd]; exact torn_put hfl (by omega) hpb)]; simp only [List.flatMap_cons, List.flatMap_nil, ids_piece, ids_sl, List.append_nil, Heap.delAll]; (repeat refine aI qTh0 ?_); (first | apply hS | (intro cap7 hcap7; apply hS)); clear hS
      refine dD1 ?_
      refine dR fun _ hS => ?_; (repeat refine aI qTh0 ?_); apply hS; clear hS
      refine dR fun _ hS => ?_; (repeat refine aI qTh0 ?_); apply hS; clear hS
      refine d_grow0 rfl rfl rfl fun _ hS => ?_
      repeat refine aI qTh0 ?_
      first | apply hS | (refine splice_full qTh0 ?_; apply hS)
      clear hS
      refine dD1 ?_
      refine d_nil ?_; apply hK66
      refine WB_done (by kernel_rfl) ?_
      refine dnS [] id () trivial [] ?_ ?_ ?_ ?_
      ·exact uTh0
      ·exact uTh0
      ·exact uTh0
      ·exact uTh0
     ·refine WB_force glw_ok rfl rfl (by decide) rfl fun _ hS => ?_
      repeat refine aI qTh0 ?_
      apply hS
      clear hS
      refine WB_all [2, 4] (by kernel_rfl) (by decide) (List.forall_mem_cons.2 ⟨?_, List.forall_mem_cons.2 ⟨?_, fun _ h => by cases h⟩⟩)
      ·refine WB_force glw_ok rfl rfl (by decide) rfl fun _ hS => ?_
       repeat first | refine aI qTh0 ?_ | refine whole_yes qTh0 ?_ | refine whole_sub ?_
       intro cap2 hcap2; apply hS
       clear hS
       refine WB_run glw_ok (g := 0) (by kernel_rfl) [(4, true), (5, true), (7, false), (8, true), (9, true), (10, true), (12, false), (13, true)] (by kernel_rfl) fun _ hK67 => ?_
       refine dR fun _ hS => ?_; (repeat refine aI qTh0 ?_); (first | apply hS | (refine whole_yes qTh0 ?_; apply hS) | (refine whole_sub ?_; apply hS)); clear hS
       refine d_readA rfl rfl (by decide) rfl fun _ hS => ?_
       repeat refine aI qTh0 ?_
       refine hS _ (.agg (.cells [.slice 2 0 (d.1.length + fw.length) cap2, .int .i64 d.2])) (as_eq rfl) ?_
       clear hS
       refine dG fun _ hS => ?_; (repeat first | refine aI qTh0 ?_ | refine whole_yes qTh0 ?_ | refine whole_sub ?_); refine aI (piece_noclo _) ?_; refine viewL_flat (piece_flat _) ?_; refine ⟨(d.1 ++ fw, d.2), p, congrArg (fun n => [SV.agg (.cells [.ds n (.u8s (d.1 ++ fw)), .int .i64 d.2]), pieceV p]) List.length_append.symm, ⟨⟨by show (d.1 ++ fw).length ≤ _; rw [List.length_append]; omega, hdok.2.1, hdok.2.2⟩, hw1, by omega⟩, ?_⟩; rw [putV_eq (show putL (d.1 ++ fw, d.2) p = (([], 0), 290) by rw [hd]; exact torn_put hfl (by omega) hpb)]; simp only [List.flatMap_cons, List.flatMap_nil, ids_piece, ids_sl, List.append_nil, Heap.delAll]; (repeat refine aI qTh0 ?_); (first | apply hS | (intro cap7 hcap7; apply hS)); clear hS
       refine dD1 ?_
       refine dR fun _ hS => ?_; (repeat refine aI qTh0 ?_); apply hS; clear hS
       refine dR fun _ hS => ?_; (repeat refine aI qTh0 ?_); apply hS; clear hS
       refine d_grow0 rfl rfl rfl fun _ hS => ?_
       repeat refine aI qTh0 ?_
       first | apply hS | (refine splice_full qTh0 ?_; apply hS)
       clear hS
       refine dD1 ?_
       refine d_nil ?_; apply hK67
       refine WB_done (by kernel_rfl) ?_
       refine dnS [] id () trivial [] ?_ ?_ ?_ ?_
       ·exact uTh0
       ·exact uTh0
       ·exact uTh0
       ·exact uTh0
      ·refine WB_force glw_ok rfl rfl (by decide) rfl fun _ hS => ?_
       repeat refine aI qTh0 ?_
       first | apply hS | (refine whole_yes qTh0 ?_; apply hS) | (refine whole_sub ?_; apply hS)
       clear hS
       refine WB_run glw_ok (g := 0) (by kernel_rfl) [(2, false), (5, true), (7, false), (8, true), (9, true), (10, true), (12, false), (13, true)] (by kernel_rfl) fun _ hK68 => ?_
       refine dG fun _ hS => ?_; (repeat first | refine aI qTh0 ?_ | refine whole_yes qTh0 ?_ | refine whole_sub ?_); (intro cap2 hcap2; apply hS); clear hS
       refine d_readA rfl rfl (by decide) rfl fun _ hS => ?_
       repeat refine aI qTh0 ?_
       refine hS _ (.agg (.cells [.slice 2 0 (d.1.length + fw.length) cap2, .int .i64 d.2])) (as_eq rfl) ?_
       clear hS
       refine dG fun _ hS => ?_; (repeat first | refine aI qTh0 ?_ | refine whole_yes qTh0 ?_ | refine whole_sub ?_); refine aI (piece_noclo _) ?_; refine viewL_flat (piece_flat _) ?_; refine ⟨(d.1 ++ fw, d.2), p, congrArg (fun n => [SV.agg (.cells [.ds n (.u8s (d.1 ++ fw)), .int .i64 d.2]), pieceV p]) List.length_append.symm, ⟨⟨by show (d.1 ++ fw).length ≤ _; rw [List.length_append]; omega, hdok.2.1, hdok.2.2⟩, hw1, by omega⟩, ?_⟩; rw [putV_eq (show putL (d.1 ++ fw, d.2) p = (([], 0), 290) by rw [hd]; exact torn_put hfl (by omega) hpb)]; simp only [List.flatMap_cons, List.flatMap_nil, ids_piece, ids_sl, List.append_nil, Heap.delAll]; (repeat refine aI qTh0 ?_); (first | apply hS | (intro cap7 hcap7; apply hS)); clear hS
       refine dD1 ?_
       refine dR fun _ hS => ?_; (repeat refine aI qTh0 ?_); apply hS; clear hS
       refine dR fun _ hS => ?_; (repeat refine aI qTh0 ?_); apply hS; clear hS
       refine d_grow0 rfl rfl rfl fun _ hS => ?_
       repeat refine aI qTh0 ?_
       first | apply hS | (refine splice_full qTh0 ?_; apply hS)
       clear hS
       refine dD1 ?_
       refine d_nil ?_; apply hK68
       refine WB_done (by kernel_rfl) ?_
       refine dnS [] id () trivial [] ?_ ?_ ?_ ?_
       ·exact uTh0
       ·exact uTh0
       ·exact uTh0
       ·exact uTh0
   ·refine WB_force glw_ok rfl rfl (by decide) rfl fun _ hS => ?_
    repeat refine aI qTh0 ?_
    apply hS
    clear hS
    refine WB_all [2, 3, 6] (by kernel_rfl) (by decide) (List.forall_mem_cons.2 ⟨?_, List.forall_mem_cons.2 ⟨?_, List.forall_mem_cons.2 ⟨?_, fun _ h => by cases h⟩⟩⟩)
    ·refine WB_force glw_ok rfl rfl (by decide) rfl fun _ hS => ?_
     repeat first | refine aI qTh0 ?_ | refine whole_yes qTh0 ?_ | refine whole_sub ?_
     intro cap2 hcap2; apply hS
     clear hS
     refine WB_run glw_ok (g := 0) (by kernel_rfl) [(3, true), (4, true), (6, true), (5, true), (7, false), (8, true), (9, true), (10, true), (12, false), (13, true)] (by kernel_rfl) fun _ hK69 => ?_
     refine dR fun _ hS => ?_; (repeat refine aI qTh0 ?_); apply hS; clear hS
     refine dR fun _ hS => ?_; (repeat refine aI qTh0 ?_); (first | apply hS | (refine whole_yes qTh0 ?_; apply hS) | (refine whole_sub ?_; apply hS)); clear hS
     refine dR fun _ hS => ?_; (repeat refine aI qTh0 ?_); (first | apply hS | (refine whole_yes qTh0 ?_; apply hS) | (refine whole_sub ?_; apply hS)); clear hS
     refine d_readA rfl rfl (by decide) rfl fun _ hS => ?_
     repeat refine aI qTh0 ?_
     refine hS _ (.agg (.cells [.slice 2 0 (d.1.length + fw.length) cap2, .int .i64 d.2])) (as_eq rfl) ?_
     clear hS
     refine dG fun _ hS => ?_; (repeat first | refine aI qTh0 ?_ | refine whole_yes qTh0 ?_ | refine whole_sub ?_); refine aI (piece_noclo _) ?_; refine viewL_flat (piece_flat _) ?_; refine ⟨(d.1 ++ fw, d.2), p, congrArg (fun n => [SV.agg (.cells [.ds n (.u8s (d.1 ++ fw)), .int .i64 d.2]), pieceV p]) List.length_append.symm, ⟨⟨by show (d.1 ++ fw).length ≤ _; rw [List.length_append]; omega, hdok.2.1, hdok.2.2⟩, hw1, by omega⟩, ?_⟩; rw [putV_eq (show putL (d.1 ++ fw, d.2) p = (([], 0), 290) by rw [hd]; exact torn_put hfl (by omega) hpb)]; simp only [List.flatMap_cons, List.flatMap_nil, ids_piece, ids_sl, List.append_nil, Heap.delAll]; (repeat refine aI qTh0 ?_); (first | apply hS | (intro cap7 hcap7; apply hS)); clear hS
     refine dD1 ?_
     refine dR fun _ hS => ?_; (repeat refine aI qTh0 ?_); apply hS; clear hS
     refine dR fun _ hS => ?_; (repeat refine aI qTh0 ?_); apply hS; clear hS
     refine d_grow0 rfl rfl rfl fun _ hS => ?_
     repeat refine aI qTh0 ?_
     first | apply hS | (refine splice_full qTh0 ?_; apply hS)
     clear hS
     refine dD1 ?_
     refine d_nil ?_; apply hK69
     refine WB_done (by kernel_rfl) ?_
     refine dnS [] id () trivial [] ?_ ?_ ?_ ?_
     ·exact uTh0
     ·exact uTh0
     ·exact uTh0
     ·exact uTh0
    ·refine WB_force glw_ok rfl rfl (by decide) rfl fun _ hS => ?_
     repeat refine aI qTh0 ?_
     apply hS
     clear hS
     refine WB_all [2, 4, 6] (by kernel_rfl) (by decide) (List.forall_mem_cons.2 ⟨?_, List.forall_mem_cons.2 ⟨?_, List.forall_mem_cons.2 ⟨?_, fun _ h => by cases h⟩⟩⟩)
     ·refine WB_force glw_ok rfl rfl (by decide) rfl fun _ hS => ?_
      repeat first | refine aI qTh0 ?_ | refine whole_yes qTh0 ?_ | refine whole_sub ?_
      intro cap2 hcap2; apply hS
      clear hS
      refine WB_run glw_ok (g := 0) (by kernel_rfl) [(4, true), (6, true), (5, true), (7, false), (8, true), (9, true), (10, true), (12, false), (13, true)] (by kernel_rfl) fun _ hK70 => ?_
      refine dR fun _ hS => ?_; (repeat refine aI qTh0 ?_); (first | apply hS | (refine whole_yes qTh0 ?_; apply hS) | (refine whole_sub ?_; apply hS)); clear hS
      refine dR fun _ hS => ?_; (repeat refine aI qTh0 ?_); (first | apply hS | (refine whole_yes qTh0 ?_; apply hS) | (refine whole_sub ?_; apply hS)); clear hS
      refine d_readA rfl rfl (by decide) rfl fun _ hS => ?_
      repeat refine aI qTh0 ?_
      refine hS _ (.agg (.cells [.slice 2 0 (d.1.length + fw.length) cap2, .int .i64 d.2])) (as_eq rfl) ?_
      clear hS
      refine dG fun _ hS => ?_; (repeat first | refine aI qTh0 ?_ | refine whole_yes qTh0 ?_ | refine whole_sub ?_); refine aI (piece_noclo _) ?_; refine viewL_flat (piece_flat _) ?_; refine ⟨(d.1 ++ fw, d.2), p, congrArg (fun n => [SV.agg (.cells [.ds n (.u8s (d.1 ++ fw)), .int .i64 d.2]), pieceV p]) List.length_append.symm, ⟨⟨by show (d.1 ++ fw).length ≤ _; rw [List.length_append]; omega, hdok.2.1, hdok.2.2⟩, hw1, by omega⟩, ?_⟩; rw [putV_eq (show putL (d.1 ++ fw, d.2) p = (([], 0), 290) by rw [hd]; exact torn_put hfl (by omega) hpb)]; simp only [List.flatMap_cons, List.flatMap_nil, ids_piece, ids_sl, List.append_nil, Heap.delAll]; (repeat refine aI qTh0 ?_); (first | apply hS | (intro cap7 hcap7; apply hS)); clear hS
      refine dD1 ?_
      refine dR fun _ hS => ?_; (repeat refine aI qTh0 ?_); apply hS; clear hS
      refine dR fun _ hS => ?_; (repeat refine aI qTh0 ?_); apply hS; clear hS
      refine d_grow0 rfl rfl rfl fun _ hS => ?_
      repeat refine aI qTh0 ?_
      first | apply hS | (refine splice_full qTh0 ?_; apply hS)
      clear hS
      refine dD1 ?_
      refine d_nil ?_; apply hK70
      refine WB_done (by kernel_rfl) ?_
      refine dnS [] id () trivial [] ?_ ?_ ?_ ?_
      ·exact uTh0
      ·exact uTh0
      ·exact uTh0
      ·exact uTh0
     ·refine WB_force glw_ok rfl rfl (by decide) rfl fun _ hS => ?_
      repeat refine aI qTh0 ?_
      first | apply hS | (refine whole_yes qTh0 ?_; apply hS) | (refine whole_sub ?_; apply hS)
      clear hS
      refine WB_all [2, 6] (by kernel_rfl) (by decide) (List.forall_mem_cons.2 ⟨?_, List.forall_mem_cons.2 ⟨?_, fun _ h => by cases h⟩⟩)
      ·refine WB_force glw_ok rfl rfl (by decide) rfl fun _ hS => ?_
       repeat first | refine aI qTh0 ?_ | refine whole_yes qTh0 ?_ | refine whole_sub ?_
       intro cap2 hcap2; apply hS
       clear hS
       refine WB_run glw_ok (g := 0) (by kernel_rfl) [(6, true), (5, true), (7, false), (8, true), (9, true), (10, true), (12, false), (13, true)] (by kernel_rfl) fun _ hK71 => ?_
       refine dR fun _ hS => ?_; (repeat refine aI qTh0 ?_); (first | apply hS | (refine whole_yes qTh0 ?_; apply hS) | (refine whole_sub ?_; apply hS)); clear hS
       refine d_readA rfl rfl (by decide) rfl fun _ hS => ?_
       repeat refine aI qTh0 ?_
       refine hS _ (.agg (.cells [.slice 2 0 (d.1.length + fw.length) cap2, .int .i64 d.2])) (as_eq rfl) ?_
       clear hS
       refine dG fun _ hS => ?_; (repeat first | refine aI qTh0 ?_ | refine whole_yes qTh0 ?_ | refine whole_sub ?_); refine aI (piece_noclo _) ?_; refine viewL_flat (piece_flat _) ?_; refine ⟨(d.1 ++ fw, d.2), p, congrArg (fun n => [SV.agg (.cells [.ds n (.u8s (d.1 ++ fw)), .int .i64 d.2]), pieceV p]) List.length_append.symm, ⟨⟨by show (d.1 ++ fw).length ≤ _; rw [List.length_append]; omega, hdok.2.1, hdok.2.2⟩, hw1, by omega⟩, ?_⟩; rw [putV_eq (show putL (d.1 ++ fw, d.2) p = (([], 0), 290) by rw [hd]; exact torn_put hfl (by omega) hpb)]; simp only [List.flatMap_cons, List.flatMap_nil, ids_piece, ids_sl, List.append_nil, Heap.delAll]; (repeat refine aI qTh0 ?_); (first | apply hS | (intro cap7 hcap7; apply hS)); clear hS
       refine dD1 ?_
       refine dR fun _ hS => ?_; (repeat refine aI qTh0 ?_); apply hS; clear hS
       refine dR fun _ hS => ?_; (repeat refine aI qTh0 ?_); apply hS; clear hS
       refine d_grow0 rfl rfl rfl fun _ hS => ?_
       repeat refine aI qTh0 ?_
       first | apply hS | (refine splice_full qTh0 ?_; apply hS)
       clear hS
       refine dD1 ?_
       refine d_nil ?_; apply hK71
       refine WB_done (by kernel_rfl) ?_
       refine dnS [] id () trivial [] ?_ ?_ ?_ ?_
       ·exact uTh0
       ·exact uTh0
       ·exact uTh0
       ·exact uTh0
      ·refine WB_force glw_ok rfl rfl (by decide) rfl fun _ hS => ?_
       repeat refine aI qTh0 ?_
       first | apply hS | (refine whole_yes qTh0 ?_; apply hS) | (refine whole_sub ?_; apply hS)
       clear hS
       refine WB_run glw_ok (g := 0) (by kernel_rfl) [(2, false), (5, true), (7, false), (8, true), (9, true), (10, true), (12, false), (13, true)] (by kernel_rfl) fun _ hK72 => ?_
       refine dG fun _ hS => ?_; (repeat first | refine aI qTh0 ?_ | refine whole_yes qTh0 ?_ | refine whole_sub ?_); (intro cap2 hcap2; apply hS); clear hS
       refine d_readA rfl rfl (by decide) rfl fun _ hS => ?_
       repeat refine aI qTh0 ?_
       refine hS _ (.agg (.cells [.slice 2 0 (d.1.length + fw.length) cap2, .int .i64 d.2])) (as_eq rfl) ?_
       clear hS
       refine dG fun _ hS => ?_; (repeat first | refine aI qTh0 ?_ | refine whole_yes qTh0 ?_ | refine whole_sub ?_); refine aI (piece_noclo _) ?_; refine viewL_flat (piece_flat _) ?_; refine ⟨(d.1 ++ fw, d.2), p, congrArg (fun n => [SV.agg (.cells [.ds n (.u8s (d.1 ++ fw)), .int .i64 d.2]), pieceV p]) List.length_append.symm, ⟨⟨by show (d.1 ++ fw).length ≤ _; rw [List.length_append]; omega, hdok.2.1, hdok.2.2⟩, hw1, by omega⟩, ?_⟩; rw [putV_eq (show putL (d.1 ++ fw, d.2) p = (([], 0), 290) by rw [hd]; exact torn_put hfl (by omega) hpb)]; simp only [List.flatMap_cons, List.flatMap_nil, ids_piece, ids_sl, List.append_nil, Heap.delAll]; (repeat refine aI qTh0 ?_); (first | apply hS | (intro cap7 hcap7; apply hS)); clear hS
       refine dD1 ?_
       refine dR fun _ hS => ?_; (repeat refine aI qTh0 ?_); apply hS; clear hS
       refine dR fun _ hS => ?_; (repeat refine aI qTh0 ?_); apply hS; clear hS
       refine d_grow0 rfl rfl rfl fun _ hS => ?_
       repeat refine aI qTh0 ?_
       first | apply hS | (refine splice_full qTh0 ?_; apply hS)
       clear hS
       refine dD1 ?_
       refine d_nil ?_; apply hK72
       refine WB_done (by kernel_rfl) ?_
       refine dnS [] id () trivial [] ?_ ?_ ?_ ?_
       ·exact uTh0
       ·exact uTh0
       ·exact uTh0
       ·exact uTh0
     ·refine WB_force glw_ok rfl rfl (by decide) rfl fun _ hS => ?_
      repeat refine aI qTh0 ?_
      first | apply hS | (refine whole_yes qTh0 ?_; apply hS) | (refine whole_sub ?_; apply hS)
      clear hS
      refine WB_all [2, 4] (by kernel_rfl) (by decide) (List.forall_mem_cons.2 ⟨?_, List.forall_mem_cons.2 ⟨?_, fun _ h => by cases h⟩⟩)
      ·refine WB_force glw_ok rfl rfl (by decide) rfl fun _ hS => ?_
       repeat first | refine aI qTh0 ?_ | refine whole_yes qTh0 ?_ | refine whole_sub ?_
       intro cap2 hcap2; apply hS
       clear hS
       refine WB_run glw_ok (g := 0) (by kernel_rfl) [(4, true), (5, true), (7, false), (8, true), (9, true), (10, true), (12, false), (13, true)] (by kernel_rfl) fun _ hK73 => ?_
       refine dR fun _ hS => ?_; (repeat refine aI qTh0 ?_); (first | apply hS | (refine whole_yes qTh0 ?_; apply hS) | (refine whole_sub ?_; apply hS)); clear hS
       refine d_readA rfl rfl (by decide) rfl fun _ hS => ?_
       repeat refine aI qTh0 ?_
       refine hS _ (.agg (.cells [.slice 2 0 (d.1.length + fw.length) cap2, .int .i64 d.2])) (as_eq rfl) ?_
       clear hS
       refine dG fun _ hS => ?_; (repeat first | refine aI qTh0 ?_ | refine whole_yes qTh0 ?_ | refine whole_sub ?_); refine aI (piece_noclo _) ?_; refine viewL_flat (piece_flat _) ?_; refine ⟨(d.1 ++ fw, d.2), p, congrArg (fun n => [SV.agg (.cells [.ds n (.u8s (d.1 ++ fw)), .int .i64 d.2]), pieceV p]) List.length_append.symm, ⟨⟨by show (d.1 ++ fw).length ≤ _; rw [List.length_append]; omega, hdok.2.1, hdok.2.2⟩, hw1, by omega⟩, ?_⟩; rw [putV_eq (show putL (d.1 ++ fw, d.2) p = (([], 0), 290) by rw [hd]; exact torn_put hfl (by omega) hpb)]; simp only [List.flatMap_cons, List.flatMap_nil, ids_piece, ids_sl, List.append_nil, Heap.delAll]; (repeat refine aI qTh0 ?_); (first | apply hS | (intro cap7 hcap7; apply hS)); clear hS
       refine dD1 ?_
       refine dR fun _ hS => ?_; (repeat refine aI qTh0 ?_); apply hS; clear hS
       refine dR fun _ hS => ?_; (repeat refine aI qTh0 ?_); apply hS; clear hS
       refine d_grow0 rfl rfl rfl fun _ hS => ?_
       repeat refine aI qTh0 ?_
       first | apply hS | (refine splice_full qTh0 ?_; apply hS)
       clear hS
       refine dD1 ?_
       refine d_nil ?_; apply hK73
       refine WB_done (by kernel_rfl) ?_
       refine dnS [] id () trivial [] ?_ ?_ ?_ ?_
       ·exact uTh0
       ·exact uTh0
       ·exact uTh0
       ·exact uTh0
      ·refine WB_force glw_ok rfl rfl (by decide) rfl fun _ hS => ?_
       repeat refine aI qTh0 ?_
       first | apply hS | (refine whole_yes qTh0 ?_; apply hS) | (refine whole_sub ?_; apply hS)
       clear hS
       refine WB_run glw_ok (g := 0) (by kernel_rfl) [(2, false), (5, true), (7, false), (8, true), (9, true), (10, true), (12, false), (13, true)] (by kernel_rfl) fun _ hK74 => ?_
       refine dG fun _ hS => ?_; (repeat first | refine aI qTh0 ?_ | refine whole_yes qTh0 ?_ | refine whole_sub ?_); (intro cap2 hcap2; apply hS); clear hS
       refine d_readA rfl rfl (by decide) rfl fun _ hS => ?_
       repeat refine aI qTh0 ?_
       refine hS _ (.agg (.cells [.slice 2 0 (d.1.length + fw.length) cap2, .int .i64 d.2])) (as_eq rfl) ?_
       clear hS
       refine dG fun _ hS => ?_; (repeat first | refine aI qTh0 ?_ | refine whole_yes qTh0 ?_ | refine whole_sub ?_); refine aI (piece_noclo _) ?_; refine viewL_flat (piece_flat _) ?_; refine ⟨(d.1 ++ fw, d.2), p, congrArg (fun n => [SV.agg (.cells [.ds n (.u8s (d.1 ++ fw)), .int .i64 d.2]), pieceV p]) List.length_append.symm, ⟨⟨by show (d.1 ++ fw).length ≤ _; rw [List.length_append]; omega, hdok.2.1, hdok.2.2⟩, hw1, by omega⟩, ?_⟩; rw [putV_eq (show putL (d.1 ++ fw, d.2) p = (([], 0), 290) by rw [hd]; exact torn_put hfl (by omega) hpb)]; simp only [List.flatMap_cons, List.flatMap_nil, ids_piece, ids_sl, List.append_nil, Heap.delAll]; (repeat refine aI qTh0 ?_); (first | apply hS | (intro cap7 hcap7; apply hS)); clear hS
       refine dD1 ?_
       refine dR fun _ hS => ?_; (repeat refine aI qTh0 ?_); apply hS; clear hS
       refine dR fun _ hS => ?_; (repeat refine aI qTh0 ?_); apply hS; clear hS
       refine d_grow0 rfl rfl rfl fun _ hS => ?_
       repeat refine aI qTh0 ?_
       first | apply hS | (refine splice_full qTh0 ?_; apply hS)
       clear hS
       refine dD1 ?_
       refine d_nil ?_; apply hK74
       refine WB_done (by kernel_rfl) ?_
       refine dnS [] id () trivial [] ?_ ?_ ?_ ?_
       ·exact uTh0
       ·exact uTh0
       ·exact uTh0
       ·exact uTh0
    ·refine WB_force glw_ok rfl rfl (by decide) rfl fun _ hS => ?_
     repeat refine aI qTh0 ?_
     first | apply hS | (refine whole_yes qTh0 ?_; apply hS) | (refine whole_sub ?_; apply hS)
     clear hS
     refine WB_all [2, 3] (by kernel_rfl) (by decide) (List.forall_mem_cons.2 ⟨?_, List.forall_mem_cons.2 ⟨?_, fun _ h => by cases h⟩⟩)
     ·refine WB_force glw_ok rfl rfl (by decide) rfl fun _ hS => ?_
      repeat first | refine aI qTh0 ?_ | refine whole_yes qTh0 ?_ | refine whole_sub ?_
      intro cap2 hcap2; apply hS
      clear hS
      refine WB_run glw_ok (g := 0) (by kernel_rfl) [(3, true), (4, true), (5, true), (7, false), (8, true), (9, true), (10, true), (12, false), (13, true)] (by kernel_rfl) fun _ hK75 => ?_
      refine dR fun _ hS => ?_; (repeat refine aI qTh0 ?_); apply hS; clear hS
      refine dR fun _ hS => ?_; (repeat refine aI qTh0 ?_); (first | apply hS | (refine whole_yes qTh0 ?_; apply hS) | (refine whole_sub ?_; apply hS)); clear hS
      refine d_readA rfl rfl (by decide) rfl fun _ hS => ?_
      repeat refine aI qTh0 ?_
      refine hS _ (.agg (.cells [.slice 2 0 (d.1.length + fw.length) cap2, .int .i64 d.2])) (as_eq rfl) ?_
      clear hS
      refine dG fun _ hS => ?_; (repeat first | refine aI qTh0 ?_ | refine whole_yes qTh0 ?_ | refine whole_sub ?_); refine aI (piece_noclo _) ?_; refine viewL_flat (piece_flat _) ?_; refine ⟨(d.1 ++ fw, d.2), p, congrArg (fun n => [SV.agg (.cells [.ds n (.u8s (d.1 ++ fw)), .int .i64 d.2]), pieceV p]) List.length_append.symm, ⟨⟨by show (d.1 ++ fw).length ≤ _; rw [List.length_append]; omega, hdok.2.1, hdok.2.2⟩, hw1, by omega⟩, ?_⟩; rw [putV_eq (show putL (d.1 ++ fw, d.2) p = (([], 0), 290) by rw [hd]; exact torn_put hfl (by omega) hpb)]; simp only [List.flatMap_cons, List.flatMap_nil, ids_piece, ids_sl, List.append_nil, Heap.delAll]; (repeat refine aI qTh0 ?_); (first | apply hS | (intro cap7 hcap7; apply hS)); clear hS
      refine dD1 ?_
      refine dR fun _ hS => ?_; (repeat refine aI qTh0 ?_); apply hS; clear hS
      refine dR fun _ hS => ?_; (repeat refine aI qTh0 ?_); apply hS; clear hS
      refine d_grow0 rfl rfl rfl fun _ hS => ?_
      repeat refine aI qTh0 ?_
      first | apply hS | (refine splice_full qTh0 ?_; apply hS)
      clear hS
      refine dD1 ?_
      refine d_nil ?_; apply hK75
      refine WB_done (by kernel_rfl) ?_
      refine dnS [] id () trivial [] ?_ ?_ ?_ ?_
      ·exact uTh0
      ·exact uTh0
      ·exact uTh0
      ·exact uTh0
     ·refine WB_force glw_ok rfl rfl (by decide) rfl fun _ hS => ?_
      repeat refine aI qTh0 ?_
      apply hS
      clear hS
      refine WB_all [2, 4] (by kernel_rfl) (by decide) (List.forall_mem_cons.2 ⟨?_, List.forall_mem_cons.2 ⟨?_, fun _ h => by cases h⟩⟩)
      ·refine WB_force glw_ok rfl rfl (by decide) rfl fun _ hS => ?_
       repeat first | refine aI qTh0 ?_ | refine whole_yes qTh0 ?_ | refine whole_sub ?_
       intro cap2 hcap2; apply hS
       clear hS
       refine WB_run glw_ok (g := 0) (by kernel_rfl) [(4, true), (5, true), (7, false), (8, true), (9, true), (10, true), (12, false), (13, true)] (by kernel_rfl) fun _ hK76 => ?_
       refine dR fun _ hS => ?_; (repeat refine aI qTh0 ?_); (first | apply hS | (refine whole_yes qTh0 ?_; apply hS) | (refine whole_sub ?_; apply hS)); clear hS
       refine d_readA rfl rfl (by decide) rfl fun _ hS => ?_
       repeat refine aI qTh0 ?_
       refine hS _ (.agg (.cells [.slice 2 0 (d.1.length + fw.length) cap2, .int .i64 d.2])) (as_eq rfl) ?_
       clear hS
       refine dG fun _ hS => ?_; (repeat first | refine aI qTh0 ?_ | refine whole_yes qTh0 ?_ | refine whole_sub ?_); refine aI (piece_noclo _) ?_; refine viewL_flat (piece_flat _) ?_; refine ⟨(d.1 ++ fw, d.2), p, congrArg (fun n => [SV.agg (.cells [.ds n (.u8s (d.1 ++ fw)), .int .i64 d.2]), pieceV p]) List.length_append.symm, ⟨⟨by show (d.1 ++ fw).length ≤ _; rw [List.length_append]; omega, hdok.2.1, hdok.2.2⟩, hw1, by omega⟩, ?_⟩; rw [putV_eq (show putL (d.1 ++ fw, d.2) p = (([], 0), 290) by rw [hd]; exact torn_put hfl (by omega) hpb)]; simp only [List.flatMap_cons, List.flatMap_nil, ids_piece, ids_sl, List.append_nil, Heap.delAll]; (repeat refine aI qTh0 ?_); (first | apply hS | (intro cap7 hcap7; apply hS)); clear hS
       refine dD1 ?_
       refine dR fun _ hS => ?_; (repeat refine aI qTh0 ?_); apply hS; clear hS
       refine dR fun _ hS => ?_; (repeat refine aI qTh0 ?_); apply hS; clear hS
       refine d_grow0 rfl rfl rfl fun _ hS => ?_
       repeat refine aI qTh0 ?_
       first | apply hS | (refine splice_full qTh0 ?_; apply hS)
       clear hS
       refine dD1 ?_
       refine d_nil ?_; apply hK76
       refine WB_done (by kernel_rfl) ?_
       refine dnS [] id () trivial [] ?_ ?_ ?_ ?_
       ·exact uTh0
       ·exact uTh0
       ·exact uTh0
       ·exact uTh0
      ·refine WB_force glw_ok rfl rfl (by decide) rfl fun _ hS => ?_
       repeat refine aI qTh0 ?_
       first | apply hS | (refine whole_yes qTh0 ?_; apply hS) | (refine whole_sub ?_; apply hS)
       clear hS
       refine WB_run glw_ok (g := 0) (by kernel_rfl) [(2, false), (5, true), (7, false), (8, true), (9, true), (10, true), (12, false), (13, true)] (by kernel_rfl) fun _ hK77 => ?_
       refine dG fun _ hS => ?_; (repeat first | refine aI qTh0 ?_ | refine whole_yes qTh0 ?_ | refine whole_sub ?_); (intro cap2 hcap2; apply hS); clear hS
       refine d_readA rfl rfl (by decide) rfl fun _ hS => ?_
       repeat refine aI qTh0 ?_
       refine hS _ (.agg (.cells [.slice 2 0 (d.1.length + fw.length) cap2, .int .i64 d.2])) (as_eq rfl) ?_
       clear hS
       refine dG fun _ hS => ?_; (repeat first | refine aI qTh0 ?_ | refine whole_yes qTh0 ?_ | refine whole_sub ?_); refine aI (piece_noclo _) ?_; refine viewL_flat (piece_flat _) ?_; refine ⟨(d.1 ++ fw, d.2), p, congrArg (fun n => [SV.agg (.cells [.ds n (.u8s (d.1 ++ fw)), .int .i64 d.2]), pieceV p]) List.length_append.symm, ⟨⟨by show (d.1 ++ fw).length ≤ _; rw [List.length_append]; omega, hdok.2.1, hdok.2.2⟩, hw1, by omega⟩, ?_⟩; rw [putV_eq (show putL (d.1 ++ fw, d.2) p = (([], 0), 290) by rw [hd]; exact torn_put hfl (by omega) hpb)]; simp only [List.flatMap_cons, List.flatMap_nil, ids_piece, ids_sl, List.append_nil, Heap.delAll]; (repeat refine aI qTh0 ?_); (first | apply hS | (intro cap7 hcap7; apply hS)); clear hS
       refine dD1 ?_
       refine dR fun _ hS => ?_; (repeat refine aI qTh0 ?_); apply hS; clear hS
       refine dR fun _ hS => ?_; (repeat refine aI qTh0 ?_); apply hS; clear hS
       refine d_grow0 rfl rfl rfl fun _ hS => ?_
       repeat refine aI qTh0 ?_
       first | apply hS | (refine splice_full qTh0 ?_; apply hS)
       clear hS
       refine dD1 ?_
       refine d_nil ?_; apply hK77
       refine WB_done (by kernel_rfl) ?_
       refine dnS [] id () trivial [] ?_ ?_ ?_ ?_
       ·exact uTh0
       ·exact uTh0
       ·exact uTh0
       ·exact uTh0
  ·intro _ _
   refine seq_k fun _ hK78 => ?_; refine region_k glw_ok fun _ hK79 => ?_
   refine sS1 ?_
   refine sS fun _ hS => ?_; (repeat refine aI qTh0 ?_); apply hS; clear hS
   refine sS fun _ hS => ?_
   refine s_split hS (fun hb2 => ?_) (fun hb2 => ?_)
   rotate_left 1
   ·exfalso; first | (simp at hb2; done) | exact absurd hb2 (by decide)
   clear hS
   refine sT fun _ hS => ?_; apply hS; clear hS
   iterate 2 refine sS1 ?_
   refine s_nil ?_; apply hK79; apply hK78
   refine WP_ret (Done_flat glw_ok (fun _ _ h => h) (by first | rfl | assumption) [.tmp 6] rfl ?_)
   repeat refine aI (by first | omega | exact trivial | rfl | (simp <;> omega)) ?_
   try refine ite_yes (by first | omega | exact trivial | rfl | (simp <;> omega)) ?_
   show _ = _
   rfl


end Go.Proofs.YtnhmglhbhnhnhaaDoor
