/- The law: another secret. -/
import Derived.Test.YtnhmglhbhnhnhaaDoorPe
namespace Go.Proofs.YtnhmglhbhnhnhaaDoor
set_option linter.unusedVariables false
open Go.Ab Go.RowKit

theorem qTe0 {a : Prop} (h : a := by first | exact vcA | (simp <;> omega) | exact (log_len hx).symm | exact log_len hx | (rw [log_len hx]; decide) | (show _ ≤ (logC x).len; rw [log_len hx]; decide) | exact (log_plain _).solid | exact hsec.symm | exact hsec | exact (pieceC_len hw1).symm | exact pieceC_len hw1 | (rw [pieceC_len hw1]; decide) | exact (pieceC_len hqw).symm | exact pieceC_len hqw | (rw [pieceC_len hqw]; decide) | exact pieceC_solid _ | exact hol | exact hol.symm | (show _ < (rowsOf rawC x.l).length; rw [rows_len rawR (allT x.l)]; omega) | (show _ < (pcl ps).length; rw [pcl_len hpw]; omega) | (show _ ≤ (pcl ps).length; rw [pcl_len hpw]; omega) | exact hsec.trans hol.symm | exact hol.trans hsec.symm | exact vcB) : a := h
theorem uTe0 {a : Prop} (h : a := by
    repeat' (first | exact trivial | refine aI ?_ ?_ | exact cC0 | refine low_cons' ?_ ?_ | exact cC1 | fail)
    all_goals first | omega | exact pcl_isD _ | exact pieceC_isD _ | exact (log_plain _).isD | exact raw_isD _ | exact crc_isD _ _ _ | (show (0 : Nat) < (logC x).len; rw [log_len hx]; decide) | (show (0 : Nat) < (pieceC _).len; rw [pieceC_len hw1]; decide) | (show (0 : Nat) < (pieceC _).len; rw [pieceC_len hqw]; decide) | (show (0 : Nat) < List.length _; first | (rw [hsec]; decide) | (rw [hol]; decide)) | (show (0 : Nat) < List.length _; rw [hol]; decide) | (simp; done) | skip) : a := h
open Go.Sto
attribute [local irreducible] logL logPs logD durN recs madeL
def lawSecretsS : QSpec := fun vs K => ∃ (x : Log) (oth : List UInt8), vs = [.agg (logC x), .agg (.u8s oth)] ∧ (x.ok ∧ oth.length = 32) ∧ K (.c (.bool true))
set_option maxHeartbeats 4000000 in
theorem lawSecrets_ok : FlatOK Tryd.prog gl 8 lawSecretsS := by
 refine flat_of (Γ := glw) (N := 121) Tryd.func8 rfl rfl fun vs K h => ?_
 obtain ⟨x, oth, rfl, ⟨hx, hol⟩, h⟩ := h
 refine ⟨_, h, rfl, by simp, fun w I => ?_⟩
 obtain ⟨ps, hps⟩ : ∃ ps, ps = logPs x := ⟨_, rfl⟩
 obtain ⟨d, hd⟩ : ∃ d, d = logD x := ⟨_, rfl⟩
 have hfv : filledV x = .tup [psP ps, .agg (.cells [.ds d.1.length (.u8s d.1), .int .i64 d.2]), .c (.bool true)] := by rw [filledV, ← hps, ← hd]
 have hdok : dok d := hd ▸ logD_ok x
 have hd0 := (hd ▸ logD_dur x : 0 ≤ d.2 ∧ d.2 ≤ (d.1.length : Nat))
 have hdl : d.1.length ≤ 756 := hd ▸ logD_len x
 have hsec := hx.sec
 have hpok : ∀ s ∈ ps, s.ok := hps ▸ logPs_ok x
 have hpl : ps.length ≤ 6 := hps ▸ logPs_len x
 have hpw : allWf ps := wf_of hpok
 have hxl := hx.l
 refine seq_k fun _ hK1 => ?_; refine region_k glw_ok fun _ hK2 => ?_
 refine sS fun _ hS => ?_; (repeat refine aI qTe0 ?_); apply hS; clear hS
 refine sS fun _ hS => ?_; (repeat refine aI qTe0 ?_); apply hS; clear hS
 refine sS1 ?_
 refine s_nil ?_; apply hK2; apply hK1; refine seq_k fun _ hK3 => ?_; refine region_k glw_ok fun _ hK4 => ?_
 refine sS fun _ hS => ?_; (repeat first | refine aI qTe0 ?_ | refine whole_yes qTe0 ?_ | refine whole_sub ?_); (first | apply hS | (intro cap0 hcap0; apply hS)); clear hS
 refine sS1 ?_
 refine s_nil ?_; apply hK4; apply hK3; refine seq_k fun _ hK5 => ?_; refine seq_k fun _ hK6 => ?_
 refine leW [0, 1] id [(2, .c (.dp (logC x) 0)), (3, .c (.dp (.u8s oth) 0)), (5, .c (.bool true))] [] 0 [] ?_ ?_ ?_ ?_ ?_
 ·exact uTe0
 ·exact uTe0
 ·exact uTe0
 ·exact uTe0
 refine region_k glw_ok fun _ hK7 => ?_
 refine sS1 ?_
 refine s_nil ?_; apply hK7; apply hK6; refine WP_block ?_
 refine WP_loop (α := Nat) (fun k => [(2, .c (.dp (logC x) 0)), (3, .c (.dp (.u8s oth) 0)), (5, .c (.bool true)), (6, .c (.int .i64 (k : Nat)))]) (fun k => []) 0 (fun k => k ≤ x.l.length ∧ ∀ r ∈ x.l.take k, r.bad = false) (fun k => x.l.length - k) ?_ ?_
 ·refine dnS [] id 0 ⟨Nat.zero_le _, fun r hr => by simp at hr⟩ [] ?_ ?_ ?_ ?_
  ·exact uTe0
  ·exact uTe0
  ·exact uTe0
  ·exact uTe0
 ·intro k hk
  refine seq_k fun _ hK8 => ?_; refine seq_k fun _ hK9 => ?_; refine region_k glw_ok fun _ hK10 => ?_
  refine sS1 ?_
  refine sS fun _ hS => ?_; (repeat refine aI qTe0 ?_); apply hS; clear hS
  refine s_stepA rfl (by decide) rfl fun _ hS => ?_
  repeat refine aI qTe0 ?_
  first | refine hS _ (rawsV x.l) _ _ (as_eq (congrArg SV.c (log_g0 x))) ?_ | (refine whole_yes qTe0 ?_; refine hS _ (rawsV x.l) _ _ (as_eq (congrArg SV.c (log_g0 x))) ?_) | (refine whole_sub ?_; refine hS _ (rawsV x.l) _ _ (as_eq (congrArg SV.c (log_g0 x))) ?_)
  clear hS
  refine sS fun _ hS => ?_; (repeat refine aI qTe0 ?_); apply hS; clear hS
  refine sS fun _ hS => ?_; (repeat refine aI qTe0 ?_); apply hS; clear hS; refine s_nil ?_; apply hK10; apply hK9
  refine WP_cond (b := _) rfl (fun h_t21 => ?_) (fun h_t21 => ?_)
  ·try simp only [dQ] at h_t21
   refine WP_skip ?_; apply hK8; refine seq_k fun _ hK11 => ?_; refine WP_block ?_; refine seq_k fun _ hK12 => ?_
   obtain ⟨r, hks⟩ : ∃ r, x.l[k]? = some r := ⟨_, List.getElem?_eq_getElem (by omega)⟩
   refine region_k glw_ok fun _ hK13 => ?_
   refine sS fun _ hS => ?_; (repeat refine aI qTe0 ?_); apply hS; clear hS
   refine s_stepA rfl (by decide) rfl fun _ hS => ?_
   repeat refine aI qTe0 ?_
   first | refine hS _ (rawsV x.l) _ _ (as_eq (congrArg SV.c (log_g0 x))) ?_ | (refine whole_yes qTe0 ?_; refine hS _ (rawsV x.l) _ _ (as_eq (congrArg SV.c (log_g0 x))) ?_) | (refine whole_sub ?_; refine hS _ (rawsV x.l) _ _ (as_eq (congrArg SV.c (log_g0 x))) ?_)
   clear hS
   refine sS1 ?_
   refine sS fun _ hS => ?_; (repeat refine aI qTe0 ?_); apply hS; clear hS
   refine sS fun _ hS => ?_; (repeat refine aI qTe0 ?_); apply hS; clear hS
   refine s_stepA rfl (by decide) rfl fun _ hS => ?_
   repeat refine aI qTe0 ?_
   first | refine hS _ (.c (.bool r.bad)) _ _ (rows_asC rawR (allT x.l) (i := k) (j := 2) rfl (by decide) hks rfl) ?_ | (refine whole_yes qTe0 ?_; refine hS _ (.c (.bool r.bad)) _ _ (rows_asC rawR (allT x.l) (i := k) (j := 2) rfl (by decide) hks rfl) ?_) | (refine whole_sub ?_; refine hS _ (.c (.bool r.bad)) _ _ (rows_asC rawR (allT x.l) (i := k) (j := 2) rfl (by decide) hks rfl) ?_)
   clear hS; refine s_nil ?_; apply hK13; apply hK12
   refine WP_cond (b := _) rfl (fun h_t29 => ?_) (fun h_t29 => ?_)
   ·try simp only [dQ, if_true, if_false, reduceIte] at h_t29
    refine seq_k fun _ hK14 => ?_; refine region_k glw_ok fun _ hK15 => ?_
    iterate 2 refine sS1 ?_
    refine s_nil ?_; apply hK15; apply hK14
    refine WP_ret (Done_flat glw_ok (fun _ _ h => h) (by first | rfl | assumption) [.tmp 4] rfl ?_)
    repeat refine aI (by first | omega | exact trivial | rfl | (simp <;> omega)) ?_
    try refine ite_yes (by first | omega | exact trivial | rfl | (simp <;> omega)) ?_
    show _ = _
    rfl
   ·try simp only [dQ, if_true, if_false, reduceIte] at h_t29
    refine WP_skip ?_; refine done_block ?_; apply hK11; refine region_k glw_ok fun _ hK16 => ?_
    refine sS1 ?_
    refine sS fun _ hS => ?_; (repeat refine aI qTe0 ?_); apply hS; clear hS
    refine sS1 ?_
    refine s_nil ?_; apply hK16
    refine dnS [] id (k + 1) ⟨⟨by omega, fun r hr => by
      rw [List.take_add_one, hks, Option.toList_some] at hr
      rcases List.mem_append.1 hr with hr | hr
      ·exact hk.2 r hr
      ·rw [List.mem_singleton.1 hr]; simpa using h_t29⟩, by omega⟩ [] ?_ ?_ ?_ ?_
    ·exact uTe0
    ·exact uTe0
    ·exact uTe0
    ·exact uTe0
  ·try simp only [dQ] at h_t21
   refine WP_exit ?_; refine done_thenx ?_; refine done_thenx ?_
   refine Done_hit ?_
   apply hK5; refine seq_k fun _ hK17 => ?_
   have hall : ∀ s ∈ ps, corF x.secret s = true := by
    rw [hps]; exact cor_log fun r hr => hk.2 r (by rw [show k = x.l.length by omega, List.take_length]; exact hr)
   refine region_k glw_ok fun _ hK18 => ?_
   refine sS fun _ hS => ?_; (repeat refine aI qTe0 ?_); (first | apply hS | (refine whole_yes qTe0 ?_; apply hS) | (refine whole_sub ?_; apply hS)); clear hS
   refine sS fun _ hS => ?_; (repeat first | refine aI qTe0 ?_ | refine whole_yes qTe0 ?_ | refine whole_sub ?_); refine aI (log_plain x).noclo ?_; refine viewL_plain (log_plain x) ?_; refine ⟨x, rfl, hx, ?_⟩; rw [hfv]; simp only [List.flatMap_cons, List.flatMap_nil, ids_log, List.append_nil, Heap.delAll]; (repeat refine aI qTe0 ?_); (first | apply hS | (intro cap1 hcap1; apply hS)); clear hS
   refine sS1 ?_
   refine sS fun _ hS => ?_; (repeat refine aI qTe0 ?_); apply hS; clear hS
   refine sS fun _ hS => ?_; (repeat refine aI qTe0 ?_); apply hS; clear hS
   refine sS fun _ hS => ?_; (repeat refine aI qTe0 ?_); apply hS; clear hS
   refine sS fun _ hS => ?_; (repeat refine aI qTe0 ?_); apply hS; clear hS
   refine sS1 ?_
   refine sS0 fun _ hS => ?_; (repeat refine aI qTe0 ?_); (first | apply hS | (refine splice_full qTe0 ?_; apply hS)); clear hS
   refine sS1 ?_
   refine s_nil ?_; apply hK18; apply hK17; refine seq_k fun _ hK19 => ?_; refine seq_k fun _ hK20 => ?_
   refine leW [0] id [(2, .c (.dp (logC x) 0)), (3, .c (.dp (.u8s oth) 0)), (5, .c (.bool true)), (7, psV ps), (8, .c (.dp (.cells [.ds d.1.length (.u8s d.1), .int .i64 d.2]) 0)), (9, .c (.bool true))] [] 0 [] ?_ ?_ ?_ ?_ ?_
   ·exact uTe0
   ·exact uTe0
   ·exact uTe0
   ·exact uTe0
   refine region_k glw_ok fun _ hK21 => ?_
   iterate 2 refine sS1 ?_
   refine sS fun _ hS => ?_
   refine s_split hS (fun hb2 => ?_) (fun hb2 => ?_)
   ·exfalso; first | (simp at hb2; done) | exact absurd hb2 (by decide)
   clear hS
   refine sT fun _ hS => ?_; (repeat refine aI qTe0 ?_); (first | apply hS | (refine whole_yes qTe0 ?_; apply hS) | (refine whole_sub ?_; apply hS)); clear hS
   refine sT fun _ hS => ?_; (repeat refine aI qTe0 ?_); apply hS; clear hS
   refine s_guardA (b := false) rfl (by decide) rfl rfl (fun _ _ hS => ?_) (fun e => absurd e (by decide))
   repeat refine aI qTe0 ?_
   first | refine hS _ (.agg (.u8s x.secret)) _ _ (log_secA hx) ?_ | (refine whole_yes qTe0 ?_; refine hS _ (.agg (.u8s x.secret)) _ _ (log_secA hx) ?_) | (refine whole_sub ?_; refine hS _ (.agg (.u8s x.secret)) _ _ (log_secA hx) ?_)
   clear hS
   refine sT fun _ hS => ?_; (repeat refine aI qTe0 ?_); apply hS; clear hS
   refine sS1 ?_
   refine sS fun _ hS => ?_
   refine s_split hS (fun hb8 => ?_) (fun hb8 => ?_)
   ·clear hS
    try simp only [dQ, if_false] at hb8
    refine sN ?_; refine sN ?_; refine sN ?_
    refine sS1 ?_
    refine s_nil ?_; apply hK21; apply hK20
    refine WP_cond (b := _) rfl (fun _ => ?_) (fun h_t49 => ?_)
    rotate_left 1
    ·exfalso; simp at h_t49
    refine seq_k fun _ hK22 => ?_; refine region_k glw_ok fun _ hK23 => ?_
    refine sS1 ?_
    refine sS fun _ hS => ?_
    refine s_split hS (fun hb1 => ?_) (fun hb1 => ?_)
    rotate_left 1
    ·exfalso; first | (simp at hb1; done) | exact absurd hb1 (by decide)
    clear hS
    refine sT fun _ hS => ?_; apply hS; clear hS
    iterate 2 refine sS1 ?_
    refine s_nil ?_; apply hK23; apply hK22
    refine WP_ret (Done_flat glw_ok (fun _ _ h => h) (by first | rfl | assumption) [.tmp 4] rfl ?_)
    repeat refine aI (by first | omega | exact trivial | rfl | (simp <;> omega)) ?_
    try refine ite_yes (by first | omega | exact trivial | rfl | (simp <;> omega)) ?_
    show _ = _
    rfl
   ·clear hS
    try simp only [dQ, if_false] at hb8
    refine sT fun _ hS => ?_; apply hS; clear hS
    refine sT fun _ hS => ?_; (repeat refine aI qTe0 ?_); apply hS; clear hS
    refine sT fun _ hS => ?_; (repeat refine aI qTe0 ?_); apply hS; clear hS
    refine sS1 ?_
    refine s_nil ?_; apply hK21; apply hK20
    refine WP_cond (b := _) rfl (fun h_t49 => ?_) (fun h_t49 => ?_)
    ·try simp only [dQ, if_false] at h_t49
     refine seq_k fun _ hK24 => ?_; refine region_k glw_ok fun _ hK25 => ?_
     refine sS1 ?_
     refine sS fun _ hS => ?_
     refine s_split hS (fun hb1 => ?_) (fun hb1 => ?_)
     rotate_left 1
     ·exfalso; first | (simp at hb1; done) | exact absurd hb1 (by decide)
     clear hS
     refine sT fun _ hS => ?_; apply hS; clear hS
     iterate 2 refine sS1 ?_
     refine s_nil ?_; apply hK25; apply hK24
     refine WP_ret (Done_flat glw_ok (fun _ _ h => h) (by first | rfl | assumption) [.tmp 4] rfl ?_)
     repeat refine aI (by first | omega | exact trivial | rfl | (simp <;> omega)) ?_
     try refine ite_yes (by first | omega | exact trivial | rfl | (simp <;> omega)) ?_
     show _ = _
     rfl
    ·try simp only [dQ, if_false] at h_t49
     refine WP_skip ?_; apply hK19; refine seq_k fun _ hK26 => ?_; refine seq_k fun _ hK27 => ?_
     refine leW [] id [(2, .c (.dp (logC x) 0)), (3, .c (.dp (.u8s oth) 0)), (5, .c (.bool true)), (7, psV ps), (8, .c (.dp (.cells [.ds d.1.length (.u8s d.1), .int .i64 d.2]) 0))] [] 0 [] ?_ ?_ ?_ ?_ ?_
     ·exact uTe0
     ·exact uTe0
     ·exact uTe0
     ·exact uTe0
     refine region_k glw_ok fun _ hK28 => ?_
     refine sS1 ?_
     refine s_nil ?_; apply hK28; apply hK27; refine WP_block ?_
     refine WP_loop (α := Nat) (fun i => [(2, .c (.dp (logC x) 0)), (3, .c (.dp (.u8s oth) 0)), (5, .c (.bool true)), (7, psV ps), (8, .c (.dp (.cells [.ds d.1.length (.u8s d.1), .int .i64 d.2]) 0)), (10, .c (.int .i64 (i : Nat)))]) (fun i => []) 0 (fun i => i ≤ ps.length ∧ ∀ s ∈ ps.take i, corF oth s = false) (fun i => ps.length - i) ?_ ?_
     ·refine dnS [] id 0 ⟨Nat.zero_le _, fun r hr => by simp at hr⟩ [] ?_ ?_ ?_ ?_
      ·exact uTe0
      ·exact uTe0
      ·exact uTe0
      ·exact uTe0
     ·intro i hi
      refine seq_k fun _ hK29 => ?_; refine seq_k fun _ hK30 => ?_; refine region_k glw_ok fun _ hK31 => ?_
      iterate 2 refine sS1 ?_
      refine sS fun _ hS => ?_; (repeat refine aI qTe0 ?_); apply hS; clear hS
      refine sS fun _ hS => ?_; (repeat refine aI qTe0 ?_); apply hS; clear hS; refine s_nil ?_; apply hK31; apply hK30
      refine WP_cond (b := _) rfl (fun h_t57 => ?_) (fun h_t57 => ?_)
      ·try simp only [dQ] at h_t57
       refine WP_skip ?_; apply hK29; refine seq_k fun _ hK32 => ?_; refine WP_block ?_; refine seq_k fun _ hK33 => ?_
       obtain ⟨s, hks⟩ : ∃ s, ps[i]? = some s := ⟨_, List.getElem?_eq_getElem (by omega)⟩
       have hw := hpw s (List.mem_of_getElem? hks)
       have hsb := (hpok s (List.mem_of_getElem? hks)).2.2
       refine quiet_k glw_ok (by kernel_rfl) fun _ hK34 => ?_
       iterate 2 refine qQ1 ?_
       refine qS fun _ hS => ?_; (repeat refine aI qTe0 ?_); apply hS; clear hS
       refine q_stepA rfl (by decide) rfl fun _ hS => ?_
       repeat refine aI qTe0 ?_
       refine whole_sub ?_
       first | refine hS _ (pieceV s) (pcl_sub hpw hks) ?_ | (refine whole_yes qTe0 ?_; refine hS _ (pieceV s) (pcl_sub hpw hks) ?_) | (refine whole_sub ?_; refine hS _ (pieceV s) (pcl_sub hpw hks) ?_)
       clear hS
       refine qS fun _ hS => ?_; (repeat refine aI qTe0 ?_); (first | apply hS | (refine whole_yes qTe0 ?_; apply hS) | (refine whole_sub ?_; apply hS)); clear hS
       refine qS fun _ hS => ?_; (repeat first | refine aI qTe0 ?_ | refine whole_yes qTe0 ?_ | refine whole_sub ?_); refine aI (piece_noclo _) ?_; refine viewL_flat (piece_flat _) ?_; refine ⟨s, oth, rfl, ⟨hw, hol, by omega⟩, ?_⟩; (repeat refine aI qTe0 ?_); (first | apply hS | (intro cap5 hcap5; apply hS)); clear hS; refine q_nil ?_; apply hK34; apply hK33
       refine WP_cond (b := _) rfl (fun h_t65 => ?_) (fun h_t65 => ?_)
       ·try simp only [dQ, if_true, if_false, reduceIte] at h_t65
        refine seq_k fun _ hK35 => ?_; refine region_k glw_ok fun _ hK36 => ?_
        iterate 2 refine sS1 ?_
        refine s_nil ?_; apply hK36; apply hK35
        refine WP_ret (Done_flat glw_ok (fun _ _ h => h) (by first | rfl | assumption) [.tmp 4] rfl ?_)
        repeat refine aI (by first | omega | exact trivial | rfl | (simp <;> omega)) ?_
        try refine ite_yes (by first | omega | exact trivial | rfl | (simp <;> omega)) ?_
        show _ = _
        rfl
       ·try simp only [dQ, if_true, if_false, reduceIte] at h_t65
        refine WP_skip ?_; refine done_block ?_; apply hK32; refine region_k glw_ok fun _ hK37 => ?_
        refine sS1 ?_
        refine sS fun _ hS => ?_; (repeat refine aI qTe0 ?_); apply hS; clear hS
        refine sS1 ?_
        refine s_nil ?_; apply hK37
        refine dnS [] id (i + 1) ⟨⟨by omega, fun t hr => by
          rw [List.take_add_one, hks, Option.toList_some] at hr
          rcases List.mem_append.1 hr with hr | hr
          ·exact hi.2 t hr
          ·rw [List.mem_singleton.1 hr]; simpa using h_t65⟩, by omega⟩ [] ?_ ?_ ?_ ?_
        ·exact uTe0
        ·exact uTe0
        ·exact uTe0
        ·exact uTe0
      ·try simp only [dQ] at h_t57
       refine WP_exit ?_; refine done_thenx ?_; refine done_thenx ?_
       refine Done_hit ?_
       apply hK26; refine seq_k fun _ hK38 => ?_
       have hnone : ∀ s ∈ ps, corF oth s = false := fun s hs => hi.2 s (by rw [show i = ps.length by omega, List.take_length]; exact hs)
       obtain ⟨s0, hks⟩ : ∃ s, ps[0]? = some s := ⟨_, List.getElem?_eq_getElem (by omega)⟩
       have hs0 := List.mem_of_getElem? hks
       have hw := hpw s0 hs0
       refine leW [] id [(2, .c (.dp (logC x) 0)), (3, .c (.dp (.u8s oth) 0)), (5, .c (.bool true)), (7, psV ps), (8, .c (.dp (.cells [.ds d.1.length (.u8s d.1), .int .i64 d.2]) 0))] [] 0 [] ?_ ?_ ?_ ?_ ?_
       ·exact uTe0
       ·exact uTe0
       ·exact uTe0
       ·exact uTe0
       refine region_k glw_ok fun _ hK39 => ?_
       refine sS fun _ hS => ?_; (repeat refine aI qTe0 ?_); (first | apply hS | (refine whole_yes qTe0 ?_; apply hS) | (refine whole_sub ?_; apply hS)); clear hS
       refine sS fun _ hS => ?_; (repeat refine aI qTe0 ?_); (first | apply hS | (refine whole_yes qTe0 ?_; apply hS) | (refine whole_sub ?_; apply hS)); clear hS
       refine sS fun _ hS => ?_; (repeat first | refine aI qTe0 ?_ | refine whole_yes qTe0 ?_ | refine whole_sub ?_); refine ⟨d, oth, rfl, ⟨hdok, hol⟩, ?_⟩; rw [loadV_eq (show loadL (corF oth) d = (([], d.1.length), 0) by rw [hd]; exact load_none (by rw [← hps]; exact hnone))]; (repeat refine aI qTe0 ?_); (first | apply hS | (intro cap2 hcap2; apply hS)); clear hS
       refine sS1 ?_
       refine sS fun _ hS => ?_; (repeat refine aI qTe0 ?_); apply hS; clear hS
       refine sS fun _ hS => ?_; (repeat refine aI qTe0 ?_); apply hS; clear hS
       refine sS fun _ hS => ?_; (repeat refine aI qTe0 ?_); apply hS; clear hS
       iterate 3 refine sS1 ?_
       refine s_nil ?_; apply hK39; apply hK38
       refine WP_cut (α := Unit) (fun _ => [(2, .c (.dp (logC x) 0)), (3, .c (.dp (.u8s oth) 0)), (5, .c (.bool true)), (7, psV ps), (8, .c (.dp (.cells [.ds d.1.length (.u8s d.1), .int .i64 d.2]) 0)), (11, psV []), (12, .c (.int .i64 (d.1.length : Nat))), (13, .c (.int .i64 0)), (15, .c (.int .i64 280))]) (fun _ => []) 0 (fun _ => True) ?_ ?_
       ·skip
        refine leW [] id [(2, .c (.dp (logC x) 0)), (3, .c (.dp (.u8s oth) 0)), (5, .c (.bool true)), (7, psV ps), (8, .c (.dp (.cells [.ds d.1.length (.u8s d.1), .int .i64 d.2]) 0)), (11, psV []), (12, .c (.int .i64 (d.1.length : Nat))), (13, .c (.int .i64 0))] [] 0 [] ?_ ?_ ?_ ?_ ?_
        ·exact uTe0
        ·exact uTe0
        ·exact uTe0
        ·exact uTe0
        refine tree_k glw_ok ?_
        refine WB_run glw_ok (g := 7) (by kernel_rfl) [(0, true), (1, true), (2, true), (3, true), (4, true), (5, true)] (by kernel_rfl) fun _ hK41 => ?_
        refine dR fun _ hS => ?_; (repeat refine aI qTe0 ?_); (first | apply hS | (refine whole_yes qTe0 ?_; apply hS) | (refine whole_sub ?_; apply hS)); clear hS
        refine dD1 ?_
        refine dR fun _ hS => ?_; (repeat refine aI qTe0 ?_); apply hS; clear hS
        refine dR fun _ hS => ?_; (repeat refine aI qTe0 ?_); apply hS; clear hS
        refine d_readA rfl rfl (by decide) rfl fun _ hS => ?_
        repeat refine aI qTe0 ?_
        first | refine hS _ (.agg (.u8s s0.key)) (pcl_keyI hpw (i := 0) hks) ?_ | (refine whole_yes qTe0 ?_; refine hS _ (.agg (.u8s s0.key)) (pcl_keyI hpw (i := 0) hks) ?_) | (refine whole_sub ?_; refine hS _ (.agg (.u8s s0.key)) (pcl_keyI hpw (i := 0) hks) ?_)
        clear hS
        refine dR fun _ hS => ?_; (repeat refine aI qTe0 ?_); (first | apply hS | (refine whole_yes qTe0 ?_; apply hS) | (refine whole_sub ?_; apply hS)); clear hS; refine d_nil ?_; apply hK41
        refine WB_all [6, 10] (by kernel_rfl) (by decide) (List.forall_mem_cons.2 ⟨?_, List.forall_mem_cons.2 ⟨?_, fun _ h => by cases h⟩⟩)
        ·refine WB_force glw_ok rfl rfl (by decide) rfl fun _ hS => ?_
         repeat first | refine aI qTe0 ?_ | refine whole_yes qTe0 ?_ | refine whole_sub ?_
         refine ⟨d, s0.key, oth, rfl, ⟨hdok, hw.1, hol⟩, ?_⟩
         rw [getV_eq (show getL (corF oth) d s0.key = (noPiece, 280) by rw [hd]; exact get_seal (by rw [← hps]; exact hnone) (by rw [← hps]; exact hs0))]
         repeat refine aI qTe0 ?_
         first | apply hS | (intro cap6 hcap6; apply hS)
         clear hS
         refine WB_run glw_ok (g := 0) (by kernel_rfl) [(7, true), (8, true), (9, true), (10, false), (11, false), (12, true)] (by kernel_rfl) fun _ hK42 => ?_
         refine dD1 ?_
         refine dR fun _ hS => ?_; (repeat refine aI qTe0 ?_); apply hS; clear hS
         refine dR fun _ hS => ?_; (repeat refine aI qTe0 ?_); apply hS; clear hS
         refine dG fun _ hS => ?_; (repeat refine aI qTe0 ?_); apply hS; clear hS
         refine d_grow0 rfl rfl rfl fun _ hS => ?_
         repeat refine aI qTe0 ?_
         first | apply hS | (refine splice_full qTe0 ?_; apply hS)
         clear hS
         refine dD1 ?_
         refine d_nil ?_; apply hK42
         refine WB_done (by kernel_rfl) ?_
         refine dnS [] id () trivial [] ?_ ?_ ?_ ?_
         ·exact uTe0
         ·exact uTe0
         ·exact uTe0
         ·exact uTe0
        ·refine WB_force glw_ok rfl rfl (by decide) rfl fun _ hS => ?_
         repeat refine aI qTe0 ?_
         apply hS
         clear hS
         refine WB_run glw_ok (g := 0) (by kernel_rfl) [(6, false), (7, true), (8, true), (9, true), (11, false), (12, true)] (by kernel_rfl) fun _ hK43 => ?_
         refine dG fun _ hS => ?_; (repeat first | refine aI qTe0 ?_ | refine whole_yes qTe0 ?_ | refine whole_sub ?_); refine ⟨d, s0.key, oth, rfl, ⟨hdok, hw.1, hol⟩, ?_⟩; rw [getV_eq (show getL (corF oth) d s0.key = (noPiece, 280) by rw [hd]; exact get_seal (by rw [← hps]; exact hnone) (by rw [← hps]; exact hs0))]; (repeat refine aI qTe0 ?_); (first | apply hS | (intro cap6 hcap6; apply hS)); clear hS
         refine dD1 ?_
         refine dR fun _ hS => ?_; (repeat refine aI qTe0 ?_); apply hS; clear hS
         refine dR fun _ hS => ?_; (repeat refine aI qTe0 ?_); apply hS; clear hS
         refine d_grow0 rfl rfl rfl fun _ hS => ?_
         repeat refine aI qTe0 ?_
         first | apply hS | (refine splice_full qTe0 ?_; apply hS)
         clear hS
         refine dD1 ?_
         refine d_nil ?_; apply hK43
         refine WB_done (by kernel_rfl) ?_
         refine dnS [] id () trivial [] ?_ ?_ ?_ ?_
         ·exact uTe0
         ·exact uTe0
         ·exact uTe0
         ·exact uTe0
       ·intro _ _
        refine seq_k fun _ hK44 => ?_
        refine sched_k glw_ok [(0, true), (1, true), (2, true), (3, true), (4, true), (5, true), (6, true), (7, true), (8, true), (9, true), (10, true), (11, true), (12, true), (13, true), (14, true), (15, true), (16, true), (17, true), (18, true), (19, true), (20, true), (21, false), (22, true), (23, true), (24, true), (25, true), (26, true), (27, true), (28, true), (29, true), (31, true), (30, false), (32, false), (33, true), (34, true), (35, true), (36, true), (37, true)] rfl (by kernel_rfl) (by kernel_rfl) fun _ hK45 => ?_
        refine dD1 ?_
        refine dR fun _ hS => ?_; (repeat refine aI qTe0 ?_); apply hS; clear hS
        refine dR fun _ hS => ?_; (repeat refine aI qTe0 ?_); apply hS; clear hS
        refine dR fun _ hS => ?_
        refine d_split hS (fun hb3 => ?_) (fun hb3 => ?_)
        rotate_left 1
        ·exfalso; first | (simp at hb3; done) | exact absurd hb3 (by decide)
        clear hS
        refine dT fun _ hS => ?_; apply hS; clear hS
        refine dT fun _ hS => ?_; (repeat refine aI qTe0 ?_); apply hS; clear hS
        refine dT fun _ hS => ?_; (repeat refine aI qTe0 ?_); (first | apply hS | (refine whole_yes qTe0 ?_; apply hS) | (refine whole_sub ?_; apply hS)); clear hS
        refine dT fun _ hS => ?_; (repeat refine aI qTe0 ?_); apply hS; clear hS
        refine dT fun _ hS => ?_; (repeat refine aI qTe0 ?_); apply hS; clear hS
        refine dD1 ?_
        refine dR fun _ hS => ?_
        refine d_split hS (fun hb10 => ?_) (fun hb10 => ?_)
        rotate_left 1
        ·exfalso; first | (simp at hb10; done) | exact absurd hb10 (by decide)
        clear hS
        refine dT fun _ hS => ?_; apply hS; clear hS
        refine dT fun _ hS => ?_; (repeat refine aI qTe0 ?_); apply hS; clear hS
        refine dD1 ?_
        refine dR fun _ hS => ?_
        refine d_split hS (fun hb14 => ?_) (fun hb14 => ?_)
        rotate_left 1
        ·exfalso; first | (simp at hb14; done) | exact absurd hb14 (by decide)
        clear hS
        refine dT fun _ hS => ?_; apply hS; clear hS
        refine dT fun _ hS => ?_; (repeat refine aI qTe0 ?_); apply hS; clear hS
        refine dD1 ?_
        refine dR fun _ hS => ?_
        refine d_split hS (fun hb18 => ?_) (fun hb18 => ?_)
        rotate_left 1
        ·exfalso; first | (simp at hb18; done) | exact absurd hb18 (by decide)
        clear hS
        refine dT fun _ hS => ?_; (repeat refine aI qTe0 ?_); (first | apply hS | (refine whole_yes qTe0 ?_; apply hS) | (refine whole_sub ?_; apply hS)); clear hS
        refine dT fun _ hS => ?_; (repeat refine aI qTe0 ?_); (first | apply hS | (refine whole_yes qTe0 ?_; apply hS) | (refine whole_sub ?_; apply hS)); clear hS
        refine d_growg (b := true) rfl rfl (by decide) rfl rfl (fun _ _ hS => ?_) (fun e => absurd e (by decide))
        repeat first | refine aI qTe0 ?_ | refine whole_yes qTe0 ?_ | refine whole_sub ?_
        refine ⟨d, oth, rfl, ⟨hdok, hol⟩, ?_⟩
        rw [show repairL (corF oth) d = ([], 0) by rw [hd]; exact repair_none (by rw [← hps]; exact hnone)]
        repeat refine aI qTe0 ?_
        first | apply hS | (intro cap21 hcap21; apply hS)
        clear hS
        refine dT fun _ hS => ?_; (repeat refine aI qTe0 ?_); apply hS; clear hS
        refine dT fun _ hS => ?_; (repeat refine aI qTe0 ?_); apply hS; clear hS
        refine dT fun _ hS => ?_; (repeat refine aI qTe0 ?_); apply hS; clear hS
        refine dD1 ?_
        refine dR fun _ hS => ?_
        refine d_split hS (fun hb26 => ?_) (fun hb26 => ?_)
        rotate_left 1
        ·exfalso; first | (simp at hb26; done) | exact absurd hb26 (by decide)
        clear hS
        refine dT fun _ hS => ?_; (repeat refine aI qTe0 ?_); (first | apply hS | (refine whole_yes qTe0 ?_; apply hS) | (refine whole_sub ?_; apply hS)); clear hS
        refine dT fun _ hS => ?_; (repeat refine aI qTe0 ?_); apply hS; clear hS
        refine d_readgA (b := true) rfl rfl (by decide) rfl rfl (fun _ _ hS => ?_) (fun e => absurd e (by decide))
        repeat refine aI qTe0 ?_
        first | refine hS _ (.agg (.u8s x.secret)) (log_secA hx) ?_ | (refine whole_yes qTe0 ?_; refine hS _ (.agg (.u8s x.secret)) (log_secA hx) ?_) | (refine whole_sub ?_; refine hS _ (.agg (.u8s x.secret)) (log_secA hx) ?_)
        clear hS
        refine dT fun _ hS => ?_; (repeat refine aI qTe0 ?_); (first | apply hS | (refine whole_yes qTe0 ?_; apply hS) | (refine whole_sub ?_; apply hS)); clear hS
        refine d_growg (b := true) rfl rfl (by decide) rfl rfl (fun _ _ hS => ?_) (fun e => absurd e (by decide))
        repeat first | refine aI qTe0 ?_ | refine whole_yes qTe0 ?_ | refine whole_sub ?_
        refine ⟨d, x.secret, rfl, ⟨hdok, hsec⟩, ?_⟩
        rw [show repairL (corF x.secret) d = d by rw [hd]; exact repair_all (by rw [← hps]; exact hall)]
        repeat refine aI qTe0 ?_
        first | apply hS | (intro cap30 hcap30; apply hS)
        clear hS
        refine d_growg (b := true) rfl rfl (by decide) rfl rfl (fun _ _ hS => ?_) (fun e => absurd e (by decide))
        repeat first | refine aI qTe0 ?_ | refine whole_yes qTe0 ?_ | refine whole_sub ?_
        refine ⟨d, d, rfl, ⟨by omega, by omega⟩, ?_⟩
        rw [true_same]
        repeat refine aI qTe0 ?_
        first | apply hS | (intro cap32 hcap32; apply hS)
        clear hS
        refine dD1 ?_
        refine dR fun _ hS => ?_
        refine d_split hS (fun hb34 => ?_) (fun hb34 => ?_)
        rotate_left 1
        ·exfalso; first | (simp at hb34; done) | exact absurd hb34 (by decide)
        clear hS
        refine dT fun _ hS => ?_; apply hS; clear hS
        iterate 2 refine dD1 ?_
        refine d_nil ?_; apply hK45; apply hK44
        refine WP_ret (Done_flat glw_ok (fun _ _ h => h) (by first | rfl | assumption) [.tmp 4] rfl ?_)
        repeat refine aI (by first | omega | exact trivial | rfl | (simp <;> omega)) ?_
        try refine ite_yes (by first | omega | exact trivial | rfl | (simp <;> omega)) ?_
        show _ = _
        rfl


end Go.Proofs.YtnhmglhbhnhnhaaDoor
