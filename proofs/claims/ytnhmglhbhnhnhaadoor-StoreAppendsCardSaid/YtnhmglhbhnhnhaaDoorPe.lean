/- Part 5 of what the claims of this seat share: the walk's engine, the functions' contracts, plain mathematics (Sq, Sr, St, Su, Sv, Sw, Sy, Ta, Za, TcL, TdL, TeL, TfL, TgL, ThL). -/
import Derived.Test.YtnhmglhbhnhnhaaDoorCards
import Derived.Test.YtnhmglhbhnhnhaaDoorTie
import Derived.Test.YtnhmglhbhnhnhaaDoorPd
namespace Go.Proofs.YtnhmglhbhnhnhaaDoor
set_option linter.unusedVariables false
open Go.Ab Go.RowKit

theorem qSq0 {a : Prop} (h : a := by first | exact vcA | (simp <;> omega) | exact (pieceC_len hw).symm | exact pieceC_len hw | (rw [pieceC_len hw]; decide) | (rw [pieceC_len hw]; omega) | exact pieceC_solid _ | exact hsec.symm | exact hsec | (show (0 : Nat) < List.length _; omega) | (show _ ≤ List.length _; omega) | (show List.length _ = _; omega) | exact inR_i64.mpr ⟨by omega, by omega⟩ | exact hkey.symm | exact hkey | exact hw.1.trans hkey.symm | exact hw.1 | exact vcB) : a := h
theorem qSq1 {a : Prop} (h : a := by first | exact vcA | (simp <;> omega) | exact (pieceC_len hw).symm | exact pieceC_len hw | (rw [pieceC_len hw]; decide) | (rw [pieceC_len hw]; omega) | exact pieceC_solid _ | exact hsec.symm | exact hsec | (show (0 : Nat) < List.length _; omega) | (show _ ≤ List.length _; omega) | (show List.length _ = _; omega) | exact inR_i64.mpr ⟨by omega, by omega⟩ | (rw [pieceC_len hw, pieceC_len hgw]; decide) | (rw [pieceC_len hw, pieceC_len hgw]; done) | (rw [pieceC_len hgw, pieceC_len hw]; done) | exact hkey.symm | exact hkey | exact hw.1.trans hkey.symm | exact hw.1 | (rw [pieceC_len hgw]; omega) | (rw [pieceC_len hgw]; decide) | exact (pieceC_len hgw).symm | exact pieceC_len hgw | exact pieceC_len (Piece.ok.wf ⟨rfl, rfl, Nat.zero_le _⟩) | exact vcB) : a := h
theorem qSq2 {a : Prop} (h : a := by first | exact vcA | (simp <;> omega) | exact (pieceC_len hw).symm | exact pieceC_len hw | (rw [pieceC_len hw]; decide) | (rw [pieceC_len hw]; omega) | exact pieceC_solid _ | exact hsec.symm | exact hsec | (show (0 : Nat) < List.length _; omega) | (show _ ≤ List.length _; omega) | (show List.length _ = _; omega) | exact inR_i64.mpr ⟨by omega, by omega⟩ | exact ⟨by omega, by omega, pcl_solid _⟩ | exact And.intro (by omega) (And.intro (by omega) (pieceC_solid _)) | (show _ ≤ (pieceL (ps.getD k noPiece)).length; have := pieceL_len hw; omega) | (show (pieceL (ps.getD k noPiece)).length = _; rw [pieceL_len hw]) | (show 0 < (65 : Nat); omega) | exact vcB) : a := h
theorem uSq0 {a : Prop} (h : a := by
    repeat' (first | exact trivial | refine aI ?_ ?_ | exact cC0 | refine low_cons' ?_ ?_ | exact cC1 | fail)
    all_goals first | omega | exact pieceC_isD _ | exact pieceC_low | exact zero_to | (rw [getF_zero]; first | exact zero_to | rfl) | (show (0 : Nat) < (pieceC _).len; rw [pieceC_len hw]; omega) | (show (0 : Nat) < List.length _; omega) | exact SV.low_mono (Nat.zero_le _) (boxL_low _) | exact piece_to _ | (rw [hF]; done) | (rw [hF]; first | exact piece_to _ | rfl) | (simp; done) | skip) : a := h
theorem uSq1 {a : Prop} (h : a := by
    repeat' (first | exact trivial | refine aI ?_ ?_ | exact cC0 | refine low_cons' ?_ ?_ | exact cC1 | fail)
    all_goals first | omega | exact pieceC_isD _ | exact pieceC_low | (show (0 : Nat) < (pieceC _).len; rw [pieceC_len hw]; omega) | (show (0 : Nat) < List.length _; omega) | exact SV.low_mono (Nat.zero_le _) (boxL_low _) | exact pcl_to _ | exact pcl_low | (show Cont.to _ _ _ _ (Cont.cells (_ ++ _)) (Cont.cells (pcl (corK (corF secret) ps (k + 1)))); rw [corK_yes hks h_t22, pcl_app, pcl_one]; exact to_app (pcl_to _) (piece_to _)) | (show _ = (corK (corF secret) ps (k + 1)).length; rw [corK_yes hks h_t22, List.length_append]; rfl) | (show _ = (corK (corF secret) ps (k + 1)).length; rw [corK_no hks h_t22]) | (show Cont.to _ _ _ _ _ (Cont.cells (pcl (corK (corF secret) ps (k + 1)))); rw [corK_no hks h_t22]; exact pcl_to _) | (rw [total_zero]; rfl) | (simp [total_zero]; done) | skip) : a := h

open Go.Sto
theorem getF_succ {cor : Piece → Bool} {key : List UInt8} {ps : List Piece} {k : Nat} {s : Piece} (h : ps[k]? = some s) : getF cor key (ps.take (k + 1)) = getStep cor key (getF cor key (ps.take k)) s := by
  rw [List.take_add_one, h, Option.toList_some, getF_snoc]
theorem getF_wf {cor : Piece → Bool} {key : List UInt8} : ∀ {ps : List Piece}, allWf ps → Piece.wf (getF cor key ps).1 := by
  intro ps
  refine snocRec (P := fun ps => allWf ps → Piece.wf (getF cor key ps).1) (fun _ => noPiece_wf) (fun ps s ih h => ?_) ps
  rw [getF_snoc, getStep]
  have hs := h s (by simp)
  have hp := ih fun x hx => h x (by simp [hx])
  split
  · split
    · exact hs
    · split <;> exact hp
  · exact hp
theorem zero_to {tf : Nat → Ty} {H : Heap} {is : List Nat} {ρ : Nat → Nat} : zeroP.to tf H is ρ (pieceC noPiece) :=
  allTo_app (allTo_app (allTo_u8 (List.replicate 32 0)) ⟨⟨rfl, rfl⟩, trivial⟩) (allTo_u8 (List.replicate 32 0))
theorem getF_zero (cor : Piece → Bool) (key : List UInt8) (ps : List Piece) : getF cor key (ps.take 0) = (noPiece, 3) := rfl
theorem get_def {cor : Piece → Bool} {d : Disk} {key : List UInt8} (h : dvalid d = true) : getL cor d key = getF cor key (Go.Sto.pieces d.1) := by rw [getL, if_pos h]
def getS : QSpec := fun vs K => ∃ (d : Disk) (key secret : List UInt8), vs = [diskV d, .agg (.u8s key), .agg (.u8s secret)] ∧ (dok d ∧ key.length = 32 ∧ secret.length = 32) ∧ K (getV (getL (corF secret) d key))
set_option maxHeartbeats 1000000 in
theorem get_ok : DataOK Tryd.prog gl 16 getS := by
 refine data_ofM (Γ := gx) (N := 36) Tryd.func16 rfl rfl fun vs K h => ?_
 obtain ⟨d, key, secret, rfl, ⟨⟨hd, hd1, hd2⟩, hkey, hsec⟩, h⟩ := h
 refine ⟨_, h, atV_low0 _ _, by simp, fun w I => ?_⟩
 refine seq_k fun _ hK1 => ?_; refine region_k gx_ok fun _ hK2 => ?_
 refine sS fun _ hS => ?_; (repeat refine aI qSq0 ?_); apply hS; clear hS
 refine sS fun _ hS => ?_; (repeat refine aI qSq0 ?_); apply hS; clear hS
 refine sS fun _ hS => ?_; (repeat refine aI qSq0 ?_); apply hS; clear hS
 refine sS fun _ hS => ?_; (repeat refine aI qSq0 ?_); apply hS; clear hS
 refine sS1 ?_
 refine s_nil ?_; apply hK2; apply hK1; refine seq_k fun _ hK3 => ?_; refine seq_k fun _ hK4 => ?_; refine region_k gx_ok fun _ hK5 => ?_
 refine sS fun _ hS => ?_; (repeat refine aI qSq0 ?_); (first | apply hS | (refine whole_yes qSq0 ?_; apply hS) | (refine whole_sub ?_; apply hS)); clear hS
 refine sS fun _ hS => ?_; (repeat first | refine aI qSq0 ?_ | refine whole_yes qSq0 ?_ | refine whole_sub ?_); refine ⟨d, rfl, ⟨by omega, by omega, by omega⟩, ?_⟩; (repeat refine aI qSq0 ?_); (first | apply hS | (intro cap1 hcap1; apply hS)); clear hS
 refine sS1 ?_
 refine s_nil ?_; apply hK5; apply hK4
 refine WP_cond (b := _) rfl (fun h_t14 => ?_) (fun h_t14 => ?_)
 ·simp only [Bool.not_eq_true'] at h_t14
  refine seq_k fun _ hK6 => ?_; refine region_k gx_ok fun _ hK7 => ?_
  refine s_stepA rfl (by decide) rfl fun _ hS => ?_
  repeat refine aI qSq0 ?_
  refine hS _ (pieceV noPiece) _ _ (zero_as) ?_
  clear hS
  refine sS0 fun _ hS => ?_; (repeat refine aI qSq0 ?_); (first | apply hS | (refine splice_full qSq0 ?_; apply hS)); clear hS
  refine sS1 ?_
  refine s_nil ?_; apply hK7; apply hK6
  rw [getV_eq (get_no h_t14)]
  refine WP_ret (Done_data0 gx_ok (fun _ _ h => h) (atV_low0 _ _) [] [.cell 6 42, .tmp 7] rfl ?_)
  repeat' (first | exact trivial | refine aI ?_ ?_ | exact cC0 | refine low_cons' ?_ ?_ | exact cC1 | fail)
  all_goals first | exact piece_to _ | (simp; done) | skip
 ·simp only [Bool.not_eq_false'] at h_t14
  refine WP_skip ?_; apply hK3; refine seq_k fun _ hK8 => ?_; refine region_k gx_ok fun _ hK9 => ?_
  refine sS fun _ hS => ?_; (repeat refine aI qSq0 ?_); apply hS; clear hS; refine s_nil ?_; apply hK9; apply hK8; refine seq_k fun _ hK10 => ?_; refine region_k gx_ok fun _ hK11 => ?_
  refine sS fun _ hS => ?_; (repeat refine aI qSq0 ?_); apply hS; clear hS
  refine sS0 fun _ hS => ?_; (repeat refine aI qSq0 ?_); (first | apply hS | (refine splice_full qSq0 ?_; apply hS)); clear hS; refine s_nil ?_; apply hK11; apply hK10
  refine seq_kC fun _ hK12 => ?_
  refine seq_k fun _ hK13 => ?_
  obtain ⟨ps, hps⟩ : ∃ ps, ps = Go.Sto.pieces d.1 := ⟨_, rfl⟩
  have hwf : allWf ps := hps ▸ wf_pieces d.1
  have hfew := pieces_few d.1
  rw [← hps] at hfew
  have htot := total_le d.1
  rw [← hps] at htot
  have hsm : ∀ s ∈ ps, s.b.length ≤ 65536 := fun s hs => (Go.Sto.pieces_ok d.1 s (hps ▸ hs)).2.2
  have hpv : piecesV d.1 = .tup [psP ps, .c (.int .i64 (total ps : Nat))] := by rw [piecesV, ← hps]
  have hseq := recs_ok d.1 hd
  refine region_k gx_ok fun _ hK14 => ?_
  refine sS fun _ hS => ?_; (repeat refine aI qSq0 ?_); apply hS; clear hS
  refine sS fun _ hS => ?_; (repeat refine aI qSq0 ?_); (first | apply hS | (refine whole_yes qSq0 ?_; apply hS) | (refine whole_sub ?_; apply hS)); clear hS
  refine sS fun _ hS => ?_; (repeat first | refine aI qSq0 ?_ | refine whole_yes qSq0 ?_ | refine whole_sub ?_); refine ⟨d.1, rfl, ?_⟩; (repeat refine aI qSq0 ?_); (first | apply hS | (intro cap2 hcap2; apply hS)); clear hS; refine s_nil ?_; apply hK14; apply hK13
  refine leW [0, 1, 2] (fun i => i + 3) [(4, .c (.dp (.u8s key) 0)), (5, .c (.dp (.u8s secret) 0)), (6, .c (.ptr 0 0)), (8, .c (.ptr 1 0)), (9, .c (.ptr 2 0)), (18, .c (.clo 47 [boxL d.1]))] [(0, .own 42 zeroP 65), (1, .own 42 (pieceC (getF (corF secret) key (ps.take 0)).1) 65), (2, .own 44 (.ints .i64 [(((getF (corF secret) key (ps.take 0)).2 : Nat) : Int)]) 1)] 3 [3, 4, 5] ?_ ?_ ?_ ?_ ?_
  ·exact uSq0
  ·exact uSq0
  ·exact uSq0
  ·exact uSq0
  refine WP_block ?_
  refine WP_rangeFg gx_ok (α := Unit) (caps := [boxL d.1]) (xs := recXs d.1) (enters_mk Tryd.func47 (by kernel_rfl) rfl) hseq rfl (fun v hv => ?_) ⟨by decide, by decide, recXs_two⟩ (.ret) rfl 3 (by omega) (Nat.zero_le _) ?_ (fun k y => [(0, .own 42 zeroP 65), (1, .own 42 (pieceC (getF (corF secret) key (ps.take k)).1) 65), (2, .own 44 (.ints .i64 [(((getF (corF secret) key (ps.take k)).2 : Nat) : Int)]) 1)]) (fun k y => True) () ?_ trivial (fun k y => [(4, .c (.dp (.u8s key) 0)), (5, .c (.dp (.u8s secret) 0)), (6, .c (.ptr 0 0)), (8, .c (.ptr 1 0)), (9, .c (.ptr 2 0)), (18, .c (.clo 47 [boxL d.1])), (11, .c (.dp (pieceC (ps.getD k noPiece)) 0))]) (fun k y => [(0, .own 42 zeroP 65), (1, .own 42 (pieceC (getF (corF secret) key (ps.take k)).1) 65), (2, .own 44 (.ints .i64 [(((getF (corF secret) key (ps.take k)).2 : Nat) : Int)]) 1)]) (fun k y => False) ?_ ?_ ?_ ?_
  ·rw [List.mem_singleton.1 hv]
   trivial
  ·intro i v hv
   refine Env.low_get (n := 3) (E := [(4, .c (.dp (.u8s key) 0)), (5, .c (.dp (.u8s secret) 0)), (6, .c (.ptr 0 0)), (8, .c (.ptr 1 0)), (9, .c (.ptr 2 0)), (18, .c (.clo 47 [boxL d.1]))]) ?_ hv
   repeat' (first | exact trivial | refine aI ?_ ?_ | exact cC0 | refine low_cons' ?_ ?_ | exact cC1 | fail)
   all_goals first | omega | exact pieceC_isD _ | exact pieceC_low | exact zero_to | (rw [getF_zero]; first | exact zero_to | rfl) | (show (0 : Nat) < (pieceC _).len; rw [pieceC_len hw]; omega) | (show (0 : Nat) < List.length _; omega) | exact SV.low_mono (Nat.zero_le _) (boxL_low _) | exact piece_to _ | (rw [hF]; done) | (rw [hF]; first | exact piece_to _ | rfl) | (simp; done) | skip
  ·rfl
  ·intro k y x hx hP C' ro m Q hC hQ
   obtain ⟨s, hks, rfl⟩ := recXs_inv hx
   rw [← hps] at hks
   try rw [← hps]
   obtain rfl : s = ps.getD k noPiece := by rw [List.getD_eq_getElem?_getD, hks]; rfl
   have hw := hwf _ (List.mem_of_getElem? hks)
   have hsb := hsm _ (List.mem_of_getElem? hks)
   have hkl : k < ps.length := (List.getElem?_eq_some_iff.1 hks).1
   have hT := total_succ hks
   have hTl : total (ps.take (k + 1)) ≤ total ps := total_take_le ps (k + 1)
   refine WPi_n0 fun hn0 => ?_
   refine WPi_region gx_ok fun _ hK115 => ?_
   refine y_step rfl (by decide) rfl (by intro c h; cases h) fun _ hS => ?_
   repeat refine aI qSq0 ?_
   apply hS
   clear hS
   refine y_step0 rfl rfl (by intro c h; cases h) fun _ hS => ?_
   repeat refine aI qSq0 ?_
   first | apply hS | (refine splice_full qSq0 ?_; apply hS)
   clear hS
   refine y_nil ?_
   apply hK115
   refine Done_leq [3] id hQ ⟨?_, ?_, (by decide : List.Nodup ([0, 1, 2] : List Nat)), ?_, ?_, ⟨by omega, fun i hi => by
    have hi' : i < 3 := by omega
    first | rfl | (simp; omega) | (match i, hi' with
    | 0, _ => rfl
    | 1, _ => rfl)⟩⟩
   ·exact uSq0
   ·exact uSq0
   ·exact uSq0
   ·exact uSq0
  ·intro k y x hx hP C' ro m Q hC hQ hZ
   obtain ⟨s, hks, rfl⟩ := recXs_inv hx
   rw [← hps] at hks
   try rw [← hps]
   obtain rfl : s = ps.getD k noPiece := by rw [List.getD_eq_getElem?_getD, hks]; rfl
   have hw := hwf _ (List.mem_of_getElem? hks)
   have hsb := hsm _ (List.mem_of_getElem? hks)
   have hkl : k < ps.length := (List.getElem?_eq_some_iff.1 hks).1
   have hT := total_succ hks
   have hTl : total (ps.take (k + 1)) ≤ total ps := total_take_le ps (k + 1)
   refine WPi_n0 fun hn0 => ?_
   have hgw : Piece.wf (getF (corF secret) key (ps.take k)).1 := getF_wf (wf_take hwf k)
   have hstep := getF_succ (cor := corF secret) (key := key) hks
   refine WPi_block ?_
   refine WPi_block ?_
   refine WPi_seq fun _ hK216 => ?_
   refine WPi_region gx_ok fun _ hK217 => ?_
   refine y_step rfl (by decide) rfl (by intro c h; cases h) fun _ hS => ?_
   repeat refine aI qSq0 ?_
   apply hS
   clear hS
   refine y_stepA rfl (by decide) rfl (by intro c h; cases h) fun _ hS => ?_
   repeat refine aI qSq0 ?_
   first | refine hS _ (.agg (.u8s (ps.getD k noPiece).key)) _ _ (SV.as_agg (piece_key hw)) ?_ | (refine whole_yes qSq0 ?_; refine hS _ (.agg (.u8s (ps.getD k noPiece).key)) _ _ (SV.as_agg (piece_key hw)) ?_) | (refine whole_sub ?_; refine hS _ (.agg (.u8s (ps.getD k noPiece).key)) _ _ (SV.as_agg (piece_key hw)) ?_)
   clear hS
   refine y_step rfl (by decide) rfl (by intro c h; cases h) fun _ hS => ?_
   repeat refine aI qSq0 ?_
   first | apply hS | (refine whole_yes qSq0 ?_; apply hS) | (refine whole_sub ?_; apply hS)
   clear hS
   refine y_step rfl (by decide) rfl (by intro c h; cases h) fun _ hS => ?_
   repeat refine aI qSq0 ?_
   apply hS
   clear hS
   refine y_step rfl (by decide) rfl (by intro c h; cases h) fun _ hS => ?_
   apply hS
   clear hS
   refine y_nil ?_
   apply hK217; apply hK216
   refine WPi_cond (b := _) rfl (fun h_t21 => ?_) (fun h_t21 => ?_)
   ·skip
    refine WPi_skip ?_
    refine done_block ?_; refine done_block ?_
    first | (have hF : (getF (corF secret) key (ps.take (k + 1))) = (getF (corF secret) key (ps.take k)) := by rw [hstep, getStep, if_neg (by simpa using h_t21)]) | (have hF : (getF (corF secret) key (ps.take (k + 1))) = ((ps.getD k noPiece), 0) := by rw [hstep, getStep, if_pos (by simpa using h_t21), if_pos h_t26]) | (have hF : (getF (corF secret) key (ps.take (k + 1))) = ((getF (corF secret) key (ps.take k)).1, 280) := by rw [hstep, getStep, if_pos (by simpa using h_t21), if_neg (by simpa using h_t26), if_pos (by simp at h_t31; omega)]) | (have hF : (getF (corF secret) key (ps.take (k + 1))) = (getF (corF secret) key (ps.take k)) := by rw [hstep, getStep, if_pos (by simpa using h_t21), if_neg (by simpa using h_t26), if_neg (by simp at h_t31; omega)])
    refine Done_leq [] id (hQ () trivial) ⟨?_, ?_, (by decide : List.Nodup ([0, 1, 2] : List Nat)), ?_, ?_, ⟨by omega, fun i hi => by
     have hi' : i < 3 := by omega
     first | rfl | (simp; omega) | (match i, hi' with
     | 0, _ => rfl
     | 1, _ => rfl)⟩⟩
    ·exact uSq0
    ·exact uSq0
    ·exact uSq0
    ·exact uSq0
   ·skip
    refine WPi_seq fun _ hK218 => ?_
    refine WPi_region gx_ok fun _ hK219 => ?_
    refine y_step rfl (by decide) rfl (by intro c h; cases h) fun _ hS => ?_
    repeat refine aI qSq0 ?_
    first | apply hS | (refine whole_yes qSq0 ?_; apply hS) | (refine whole_sub ?_; apply hS)
    clear hS
    refine y_step rfl (by decide) rfl (by intro c h; cases h) fun _ hS => ?_
    repeat refine aI qSq0 ?_
    first | apply hS | (refine whole_yes qSq0 ?_; apply hS) | (refine whole_sub ?_; apply hS)
    clear hS
    refine y_step rfl (by decide) rfl (by intro c h; cases h) fun _ hS => ?_
    repeat first | refine aI qSq0 ?_ | refine whole_yes qSq0 ?_ | refine whole_sub ?_
    refine aI (piece_noclo _) ?_
    refine viewL_flat (piece_flat _) ?_
    refine ⟨_, secret, rfl, ⟨hw, hsec, by omega⟩, ?_⟩
    repeat refine aI qSq0 ?_
    first | apply hS | (intro cap2 hcap2; apply hS)
    clear hS
    refine y_step rfl (by decide) rfl (by intro c h; cases h) fun _ hS => ?_
    apply hS
    clear hS
    refine y_nil ?_
    apply hK219; apply hK218
    refine WPi_cond (b := _) rfl (fun h_t26 => ?_) (fun h_t26 => ?_)
    ·skip
     refine WPi_region gx_ok fun _ hK220 => ?_
     refine y_step rfl (by decide) rfl (by intro c h; cases h) fun _ hS => ?_
     repeat refine aI qSq1 ?_
     first | apply hS | (refine whole_yes qSq1 ?_; apply hS) | (refine whole_sub ?_; apply hS)
     clear hS
     refine y_step0 rfl rfl (by intro c h; cases h) fun _ hS => ?_
     repeat refine aI qSq1 ?_
     first | apply hS | (refine splice_full qSq1 ?_; apply hS)
     clear hS
     refine y_step0 rfl rfl (by intro c h; cases h) fun _ hS => ?_
     repeat refine aI qSq1 ?_
     first | apply hS | (refine splice_full qSq1 ?_; apply hS)
     clear hS
     refine y_nil ?_
     apply hK220; refine done_block ?_; refine done_block ?_
     first | (have hF : (getF (corF secret) key (ps.take (k + 1))) = (getF (corF secret) key (ps.take k)) := by rw [hstep, getStep, if_neg (by simpa using h_t21)]) | (have hF : (getF (corF secret) key (ps.take (k + 1))) = ((ps.getD k noPiece), 0) := by rw [hstep, getStep, if_pos (by simpa using h_t21), if_pos h_t26]) | (have hF : (getF (corF secret) key (ps.take (k + 1))) = ((getF (corF secret) key (ps.take k)).1, 280) := by rw [hstep, getStep, if_pos (by simpa using h_t21), if_neg (by simpa using h_t26), if_pos (by simp at h_t31; omega)]) | (have hF : (getF (corF secret) key (ps.take (k + 1))) = (getF (corF secret) key (ps.take k)) := by rw [hstep, getStep, if_pos (by simpa using h_t21), if_neg (by simpa using h_t26), if_neg (by simp at h_t31; omega)])
     refine Done_leq [] id (hQ () trivial) ⟨?_, ?_, (by decide : List.Nodup ([0, 1, 2] : List Nat)), ?_, ?_, ⟨by omega, fun i hi => by
      have hi' : i < 3 := by omega
      first | rfl | (simp; omega) | (match i, hi' with
      | 0, _ => rfl
      | 1, _ => rfl)⟩⟩
     ·exact uSq0
     ·exact uSq0
     ·exact uSq0
     ·exact uSq0
    ·skip
     refine WPi_seq fun _ hK221 => ?_
     refine WPi_region gx_ok fun _ hK222 => ?_
     refine y_step rfl (by decide) rfl (by intro c h; cases h) fun _ hS => ?_
     repeat refine aI qSq0 ?_
     first | apply hS | (refine whole_yes qSq0 ?_; apply hS) | (refine whole_sub ?_; apply hS)
     clear hS
     refine y_step rfl (by decide) rfl (by intro c h; cases h) fun _ hS => ?_
     repeat refine aI qSq0 ?_
     apply hS
     clear hS
     refine y_step rfl (by decide) rfl (by intro c h; cases h) fun _ hS => ?_
     apply hS
     clear hS
     refine y_nil ?_
     apply hK222; apply hK221
     refine WPi_cond (b := _) rfl (fun h_t31 => ?_) (fun h_t31 => ?_)
     ·skip
      refine WPi_region gx_ok fun _ hK223 => ?_
      refine y_step0 rfl rfl (by intro c h; cases h) fun _ hS => ?_
      repeat refine aI qSq0 ?_
      first | apply hS | (refine splice_full qSq0 ?_; apply hS)
      clear hS
      refine y_nil ?_
      apply hK223; refine done_block ?_; refine done_block ?_
      first | (have hF : (getF (corF secret) key (ps.take (k + 1))) = (getF (corF secret) key (ps.take k)) := by rw [hstep, getStep, if_neg (by simpa using h_t21)]) | (have hF : (getF (corF secret) key (ps.take (k + 1))) = ((ps.getD k noPiece), 0) := by rw [hstep, getStep, if_pos (by simpa using h_t21), if_pos h_t26]) | (have hF : (getF (corF secret) key (ps.take (k + 1))) = ((getF (corF secret) key (ps.take k)).1, 280) := by rw [hstep, getStep, if_pos (by simpa using h_t21), if_neg (by simpa using h_t26), if_pos (by simp at h_t31; omega)]) | (have hF : (getF (corF secret) key (ps.take (k + 1))) = (getF (corF secret) key (ps.take k)) := by rw [hstep, getStep, if_pos (by simpa using h_t21), if_neg (by simpa using h_t26), if_neg (by simp at h_t31; omega)])
      refine Done_leq [] id (hQ () trivial) ⟨?_, ?_, (by decide : List.Nodup ([0, 1, 2] : List Nat)), ?_, ?_, ⟨by omega, fun i hi => by
       have hi' : i < 3 := by omega
       first | rfl | (simp; omega) | (match i, hi' with
       | 0, _ => rfl
       | 1, _ => rfl)⟩⟩
      ·exact uSq0
      ·exact uSq0
      ·exact uSq0
      ·exact uSq0
     ·skip
      refine WPi_skip ?_
      refine done_block ?_; refine done_block ?_
      first | (have hF : (getF (corF secret) key (ps.take (k + 1))) = (getF (corF secret) key (ps.take k)) := by rw [hstep, getStep, if_neg (by simpa using h_t21)]) | (have hF : (getF (corF secret) key (ps.take (k + 1))) = ((ps.getD k noPiece), 0) := by rw [hstep, getStep, if_pos (by simpa using h_t21), if_pos h_t26]) | (have hF : (getF (corF secret) key (ps.take (k + 1))) = ((getF (corF secret) key (ps.take k)).1, 280) := by rw [hstep, getStep, if_pos (by simpa using h_t21), if_neg (by simpa using h_t26), if_pos (by simp at h_t31; omega)]) | (have hF : (getF (corF secret) key (ps.take (k + 1))) = (getF (corF secret) key (ps.take k)) := by rw [hstep, getStep, if_pos (by simpa using h_t21), if_neg (by simpa using h_t26), if_neg (by simp at h_t31; omega)])
      refine Done_leq [] id (hQ () trivial) ⟨?_, ?_, (by decide : List.Nodup ([0, 1, 2] : List Nat)), ?_, ?_, ⟨by omega, fun i hi => by
       have hi' : i < 3 := by omega
       first | rfl | (simp; omega) | (match i, hi' with
       | 0, _ => rfl
       | 1, _ => rfl)⟩⟩
      ·exact uSq0
      ·exact uSq0
      ·exact uSq0
      ·exact uSq0
  ·intro y β1 I1 w1 d1 hP hH1 hd0 hA
   rw [recXs_length, ← hps] at hH1 hA ⊢
   try rw [recXs_length, ← hps] at hP
   have hgw : Piece.wf (getF (corF secret) key (ps.take ps.length)).1 := getF_wf (wf_take hwf _)
   rw [List.take_length] at hH1 hA hgw ⊢
   obtain ⟨gp, hgp⟩ : ∃ gp, gp = getF (corF secret) key ps := ⟨_, rfl⟩
   rw [← hgp] at hH1 hA hgw ⊢
   refine done_block ?_
   refine hK12 _ _ _ _ ?_
   refine seq_k fun _ hK324 => ?_
   refine tree_k gx_ok ?_
   refine WB_run gx_ok (g := 3) (by kernel_rfl) [(0, true)] (by kernel_rfl) fun _ hK326 => ?_
   refine dR fun _ hS => ?_; (repeat refine aI qSq1 ?_); (first | apply hS | (refine whole_yes qSq1 ?_; apply hS) | (refine whole_sub ?_; apply hS)); clear hS; refine d_nil ?_; apply hK326
   refine WB_all [1, 2] (by kernel_rfl) (by decide) (List.forall_mem_cons.2 ⟨?_, List.forall_mem_cons.2 ⟨?_, fun _ h => by cases h⟩⟩)
   ·refine WB_force gx_ok rfl rfl (by decide) rfl fun _ hS => ?_
    repeat refine aI qSq1 ?_
    first | apply hS | (refine whole_yes qSq1 ?_; apply hS) | (refine whole_sub ?_; apply hS)
    clear hS
    refine WB_run gx_ok (g := 0) (by kernel_rfl) [(2, false), (3, true)] (by kernel_rfl) fun _ hK327 => ?_
    refine d_grow0 rfl rfl rfl fun _ hS => ?_
    repeat refine aI qSq1 ?_
    first | apply hS | (refine splice_full qSq1 ?_; apply hS)
    clear hS
    refine dD1 ?_
    refine d_nil ?_; apply hK327
    refine WB_done (by kernel_rfl) ?_
    apply hK324
    rw [get_def h_t14, ← hps, ← hgp]
    refine WP_ret (Done_dataM gx_ok hH1 hd0 hA (fun _ _ h => h) (atV_low0 _ _) [] [.cell 6 42, .tmp 7] rfl ?_)
    repeat refine aI (by first | decide | (rw [pieceC_len hgw]; omega)) ?_
    try refine whole_yes (pieceC_len hgw) ?_
    repeat' (first | exact trivial | refine aI ?_ ?_ | exact cC0 | refine low_cons' ?_ ?_ | exact cC1 | fail)
    all_goals first | exact piece_to _ | (simp; done) | skip
   ·refine WB_force0 gx_ok rfl rfl rfl fun _ hS => ?_
    repeat refine aI qSq1 ?_
    first | apply hS | (refine splice_full qSq1 ?_; apply hS)
    clear hS
    refine WB_run gx_ok (g := 0) (by kernel_rfl) [(1, false), (3, true)] (by kernel_rfl) fun _ hK328 => ?_
    refine dG fun _ hS => ?_; (repeat refine aI qSq1 ?_); (first | apply hS | (refine whole_yes qSq1 ?_; apply hS) | (refine whole_sub ?_; apply hS)); clear hS
    refine dD1 ?_
    refine d_nil ?_; apply hK328
    refine WB_done (by kernel_rfl) ?_
    apply hK324
    rw [get_def h_t14, ← hps, ← hgp]
    refine WP_ret (Done_dataM gx_ok hH1 hd0 hA (fun _ _ h => h) (atV_low0 _ _) [] [.cell 6 42, .tmp 7] rfl ?_)
    repeat refine aI (by first | decide | (rw [pieceC_len hgw]; omega)) ?_
    try refine whole_yes (pieceC_len hgw) ?_
    repeat' (first | exact trivial | refine aI ?_ ?_ | exact cC0 | refine low_cons' ?_ ?_ | exact cC1 | fail)
    all_goals first | exact piece_to _ | (simp; done) | skip
  ·intro k y β1 I1 w1 d1 hk hZ
   exact absurd hZ id
  

def loadS : QSpec := fun vs K => ∃ (d : Disk) (secret : List UInt8), vs = [diskV d, .agg (.u8s secret)] ∧ (dok d ∧ secret.length = 32) ∧ K (loadV (loadL (corF secret) d))
set_option maxHeartbeats 1000000 in
theorem load_ok : DataOK Tryd.prog gl 18 loadS := by
 refine data_ofM (Γ := gx) (N := 29) Tryd.func18 rfl rfl fun vs K h => ?_
 obtain ⟨d, secret, rfl, ⟨⟨hd, hd1, hd2⟩, hsec⟩, h⟩ := h
 refine ⟨_, h, loadV_low0 _ _ _, by simp, fun w I => ?_⟩
 refine seq_k fun _ hK1 => ?_; refine region_k gx_ok fun _ hK2 => ?_
 refine sS fun _ hS => ?_; (repeat refine aI qSq2 ?_); apply hS; clear hS
 refine sS fun _ hS => ?_; (repeat refine aI qSq2 ?_); apply hS; clear hS
 iterate 3 refine sS1 ?_
 refine s_nil ?_; apply hK2; apply hK1; refine seq_k fun _ hK3 => ?_; refine seq_k fun _ hK4 => ?_; refine region_k gx_ok fun _ hK5 => ?_
 refine sS fun _ hS => ?_; (repeat refine aI qSq2 ?_); (first | apply hS | (refine whole_yes qSq2 ?_; apply hS) | (refine whole_sub ?_; apply hS)); clear hS
 refine sS fun _ hS => ?_; (repeat first | refine aI qSq2 ?_ | refine whole_yes qSq2 ?_ | refine whole_sub ?_); refine ⟨d, rfl, ⟨by omega, by omega, by omega⟩, ?_⟩; (repeat refine aI qSq2 ?_); (first | apply hS | (intro cap1 hcap1; apply hS)); clear hS
 refine sS1 ?_
 refine s_nil ?_; apply hK5; apply hK4
 refine WP_cond (b := _) rfl (fun h_t13 => ?_) (fun h_t13 => ?_)
 ·simp only [Bool.not_eq_true'] at h_t13
  refine seq_k fun _ hK6 => ?_; refine region_k gx_ok fun _ hK7 => ?_
  iterate 3 refine sS1 ?_
  refine s_nil ?_; apply hK7; apply hK6
  rw [loadV_eq (load_no h_t13)]
  refine WP_ret (Done_data0 gx_ok (fun _ _ h => h) (loadV_low0 _ _ _) [] [.tmp 4, .tmp 5, .tmp 6] rfl ?_)
  repeat' (first | exact trivial | refine aI ?_ ?_ | exact cC0 | refine low_cons' ?_ ?_ | exact cC1 | fail)
  all_goals first | (show 0 + _ * 1 ≤ List.length _; simp; done) | exact (if_pos ⟨rfl, (by show List.length _ = _; simp)⟩).symm | exact Nat.one_pos | (simp; done) | (simp; omega) | skip
 ·simp only [Bool.not_eq_false'] at h_t13
  refine WP_skip ?_; apply hK3; refine seq_k fun _ hK8 => ?_; refine region_k gx_ok fun _ hK9 => ?_
  refine sS fun _ hS => ?_; (repeat refine aI qSq2 ?_); apply hS; clear hS; refine s_nil ?_; apply hK9; apply hK8; refine seq_k fun _ hK10 => ?_; refine region_k gx_ok fun _ hK11 => ?_
  refine sS fun _ hS => ?_; (repeat refine aI qSq2 ?_); apply hS; clear hS
  refine sS0 fun _ hS => ?_; (repeat refine aI qSq2 ?_); (first | apply hS | (refine splice_full qSq2 ?_; apply hS)); clear hS; refine s_nil ?_; apply hK11; apply hK10
  refine seq_kC fun _ hK12 => ?_
  refine seq_k fun _ hK13 => ?_
  obtain ⟨ps, hps⟩ : ∃ ps, ps = Go.Sto.pieces d.1 := ⟨_, rfl⟩
  have hwf : allWf ps := hps ▸ wf_pieces d.1
  have hfew := pieces_few d.1
  rw [← hps] at hfew
  have htot := total_le d.1
  rw [← hps] at htot
  have hsm : ∀ s ∈ ps, s.b.length ≤ 65536 := fun s hs => (Go.Sto.pieces_ok d.1 s (hps ▸ hs)).2.2
  have hpv : piecesV d.1 = .tup [psP ps, .c (.int .i64 (total ps : Nat))] := by rw [piecesV, ← hps]
  have hseq := recs_ok d.1 hd
  refine region_k gx_ok fun _ hK14 => ?_
  refine sS fun _ hS => ?_; (repeat refine aI qSq2 ?_); apply hS; clear hS
  refine sS fun _ hS => ?_; (repeat refine aI qSq2 ?_); (first | apply hS | (refine whole_yes qSq2 ?_; apply hS) | (refine whole_sub ?_; apply hS)); clear hS
  refine sS fun _ hS => ?_; (repeat first | refine aI qSq2 ?_ | refine whole_yes qSq2 ?_ | refine whole_sub ?_); refine ⟨d.1, rfl, ?_⟩; (repeat refine aI qSq2 ?_); (first | apply hS | (intro cap2 hcap2; apply hS)); clear hS; refine s_nil ?_; apply hK14; apply hK13
  refine leW [0, 1] (fun i => i + 2) [(3, .c (.dp (.u8s secret) 0)), (7, .c (.ptr 0 0)), (8, .c (.ptr 1 0)), (16, .c (.clo 47 [boxL d.1]))] [(0, .own 35 (.cells [.nils]) 1), (1, .own 3 (.ints .i64 [0]) 1)] 2 [2, 3] ?_ ?_ ?_ ?_ ?_
  ·exact uSq1
  ·exact uSq1
  ·exact uSq1
  ·exact uSq1
  refine WP_nilat 0 0 42 (.cells []) rfl rfl rfl low_nil' ?_
  refine leW [] id [(3, .c (.dp (.u8s secret) 0)), (7, .c (.ptr 0 0)), (8, .c (.ptr 1 0)), (16, .c (.clo 47 [boxL d.1]))] [(0, .own 35 (.cells [.slice 2 0 (corK (corF secret) ps 0).length 0]) 1), (1, .own 3 (.ints .i64 [((total (ps.take 0) : Nat) : Int)]) 1), (2, .own 42 (pcells (corK (corF secret) ps 0)) (0 * 65))] 3 [0, 1, 2] ?_ ?_ ?_ ?_ ?_
  ·exact uSq1
  ·exact uSq1
  ·exact uSq1
  ·exact uSq1
  refine WP_block ?_
  refine WP_rangeFg gx_ok (α := Nat) (caps := [boxL d.1]) (xs := recXs d.1) (enters_mk Tryd.func47 (by kernel_rfl) rfl) hseq rfl (fun v hv => ?_) ⟨by decide, by decide, recXs_two⟩ (.ret) rfl 2 (by omega) (Nat.zero_le _) ?_ (fun k y => [(0, .own 35 (.cells [.slice 2 0 (corK (corF secret) ps k).length y]) 1), (1, .own 3 (.ints .i64 [((total (ps.take k) : Nat) : Int)]) 1), (2, .own 42 (pcells (corK (corF secret) ps k)) (y * 65))]) (fun k y => True) 0 ?_ trivial (fun k y => [(3, .c (.dp (.u8s secret) 0)), (7, .c (.ptr 0 0)), (8, .c (.ptr 1 0)), (16, .c (.clo 47 [boxL d.1])), (9, .c (.int .i64 ((total (ps.take (k + 1)) : Nat) : Int))), (10, .c (.dp (pieceC (ps.getD k noPiece)) 0))]) (fun k y => [(0, .own 35 (.cells [.slice 2 0 (corK (corF secret) ps k).length y]) 1), (1, .own 3 (.ints .i64 [((total (ps.take k) : Nat) : Int)]) 1), (2, .own 42 (pcells (corK (corF secret) ps k)) (y * 65))]) (fun k y => False) ?_ ?_ ?_ ?_
  ·rw [List.mem_singleton.1 hv]
   trivial
  ·intro i v hv
   refine Env.low_get (n := 2) (E := [(3, .c (.dp (.u8s secret) 0)), (7, .c (.ptr 0 0)), (8, .c (.ptr 1 0)), (16, .c (.clo 47 [boxL d.1]))]) ?_ hv
   repeat' (first | exact trivial | refine aI ?_ ?_ | exact cC0 | refine low_cons' ?_ ?_ | exact cC1 | fail)
   all_goals first | omega | exact pieceC_isD _ | exact pieceC_low | (show (0 : Nat) < (pieceC _).len; rw [pieceC_len hw]; omega) | (show (0 : Nat) < List.length _; omega) | exact SV.low_mono (Nat.zero_le _) (boxL_low _) | exact pcl_to _ | exact pcl_low | (show Cont.to _ _ _ _ (Cont.cells (_ ++ _)) (Cont.cells (pcl (corK (corF secret) ps (k + 1)))); rw [corK_yes hks h_t22, pcl_app, pcl_one]; exact to_app (pcl_to _) (piece_to _)) | (show _ = (corK (corF secret) ps (k + 1)).length; rw [corK_yes hks h_t22, List.length_append]; rfl) | (show _ = (corK (corF secret) ps (k + 1)).length; rw [corK_no hks h_t22]) | (show Cont.to _ _ _ _ _ (Cont.cells (pcl (corK (corF secret) ps (k + 1)))); rw [corK_no hks h_t22]; exact pcl_to _) | (rw [total_zero]; rfl) | (simp [total_zero]; done) | skip
  ·rfl
  ·intro k y x hx hP C' ro m Q hC hQ
   obtain ⟨s, hks, rfl⟩ := recXs_inv hx
   rw [← hps] at hks
   try rw [← hps]
   obtain rfl : s = ps.getD k noPiece := by rw [List.getD_eq_getElem?_getD, hks]; rfl
   have hw := hwf _ (List.mem_of_getElem? hks)
   have hsb := hsm _ (List.mem_of_getElem? hks)
   have hkl : k < ps.length := (List.getElem?_eq_some_iff.1 hks).1
   have hT := total_succ hks
   have hTl : total (ps.take (k + 1)) ≤ total ps := total_take_le ps (k + 1)
   refine WPi_n0 fun hn0 => ?_
   refine WPi_seq fun _ hK115 => ?_
   refine WPi_region gx_ok fun _ hK116 => ?_
   refine y_step rfl (by decide) rfl (by intro c h; cases h) fun _ hS => ?_
   apply hS
   clear hS
   refine y_nil ?_
   apply hK116; apply hK115
   refine WPi_region gx_ok fun _ hK117 => ?_
   refine y_step rfl (by decide) rfl (by intro c h; cases h) fun _ hS => ?_
   repeat refine aI qSq2 ?_
   apply hS
   clear hS
   refine y_step0 rfl rfl (by intro c h; cases h) fun _ hS => ?_
   repeat refine aI qSq2 ?_
   first | apply hS | (refine splice_full qSq2 ?_; apply hS)
   clear hS
   refine y_nil ?_
   apply hK117
   refine Done_leq [3] id hQ ⟨?_, ?_, (by decide : List.Nodup ([0, 1, 2] : List Nat)), ?_, ?_, ⟨by omega, fun i hi => by
    have hi' : i < 2 := by omega
    first | rfl | (simp; omega) | (match i, hi' with
    | 0, _ => rfl
    | 1, _ => rfl)⟩⟩
   ·exact uSq1
   ·exact uSq1
   ·exact uSq1
   ·exact uSq1
  ·intro k y x hx hP C' ro m Q hC hQ hZ
   obtain ⟨s, hks, rfl⟩ := recXs_inv hx
   rw [← hps] at hks
   try rw [← hps]
   obtain rfl : s = ps.getD k noPiece := by rw [List.getD_eq_getElem?_getD, hks]; rfl
   have hw := hwf _ (List.mem_of_getElem? hks)
   have hsb := hsm _ (List.mem_of_getElem? hks)
   have hkl : k < ps.length := (List.getElem?_eq_some_iff.1 hks).1
   have hT := total_succ hks
   have hTl : total (ps.take (k + 1)) ≤ total ps := total_take_le ps (k + 1)
   refine WPi_n0 fun hn0 => ?_
   have hcl := pcl_len (corK_wf (cor := corF secret) hwf k)
   have hck := corK_len (corF secret) ps k
   refine WPi_block ?_
   refine WPi_seq fun _ hK218 => ?_
   refine WPi_region gx_ok fun _ hK219 => ?_
   refine y_step rfl (by decide) rfl (by intro c h; cases h) fun _ hS => ?_
   apply hS
   clear hS
   refine y_step0 rfl rfl (by intro c h; cases h) fun _ hS => ?_
   repeat refine aI qSq2 ?_
   first | apply hS | (refine splice_full qSq2 ?_; apply hS)
   clear hS
   refine y_nil ?_
   apply hK219; apply hK218
   refine WPi_seq fun _ hK220 => ?_
   refine WPi_region gx_ok fun _ hK221 => ?_
   refine y_step rfl (by decide) rfl (by intro c h; cases h) fun _ hS => ?_
   repeat refine aI qSq2 ?_
   first | apply hS | (refine whole_yes qSq2 ?_; apply hS) | (refine whole_sub ?_; apply hS)
   clear hS
   refine y_step rfl (by decide) rfl (by intro c h; cases h) fun _ hS => ?_
   repeat refine aI qSq2 ?_
   first | apply hS | (refine whole_yes qSq2 ?_; apply hS) | (refine whole_sub ?_; apply hS)
   clear hS
   refine y_step rfl (by decide) rfl (by intro c h; cases h) fun _ hS => ?_
   repeat first | refine aI qSq2 ?_ | refine whole_yes qSq2 ?_ | refine whole_sub ?_
   refine aI (piece_noclo _) ?_
   refine viewL_flat (piece_flat _) ?_
   refine ⟨_, secret, rfl, ⟨hw, hsec, by omega⟩, ?_⟩
   repeat refine aI qSq2 ?_
   first | apply hS | (intro cap2 hcap2; apply hS)
   clear hS
   refine y_nil ?_
   apply hK221; apply hK220
   refine WPi_cond (b := _) rfl (fun h_t22 => ?_) (fun h_t22 => ?_)
   ·skip
    refine WPi_region gx_ok fun _ hK222 => ?_
    refine y_step rfl (by decide) rfl (by intro c h; cases h) fun _ hS => ?_
    repeat refine aI qSq2 ?_
    first | apply hS | (refine whole_yes qSq2 ?_; apply hS) | (refine whole_sub ?_; apply hS)
    clear hS
    refine y_step rfl (by decide) rfl (by intro c h; cases h) fun _ hS => ?_
    repeat refine aI qSq2 ?_
    first | apply hS | (refine whole_yes qSq2 ?_; apply hS) | (refine whole_sub ?_; apply hS)
    clear hS
    refine y_step rfl (by decide) rfl (by intro c h; cases h) fun _ hS => ?_
    repeat refine aI qSq2 ?_
    apply hS
    clear hS
    refine y_step rfl (by decide) rfl (by intro c h; cases h) fun _ hS => ?_
    repeat first | refine aI qSq2 ?_ | refine whole_yes qSq2 ?_ | refine whole_sub ?_
    intro cap3 hcap3; apply hS
    clear hS
    refine y_step0 rfl rfl (by intro c h; cases h) fun _ hS => ?_
    repeat refine aI qSq2 ?_
    first | apply hS | (refine splice_full qSq2 ?_; apply hS)
    clear hS
    refine y_nil ?_
    apply hK222; refine done_block ?_
    refine Done_leq [] (fun i => if i = 2 then 4 else i) (hQ cap3 trivial) ⟨?_, ?_, (by decide : List.Nodup ([0, 1, 4] : List Nat)), ?_, ?_, ⟨by omega, fun i hi => by
     have hi' : i < 2 := by omega
     first | rfl | (simp; omega) | (match i, hi' with
     | 0, _ => rfl
     | 1, _ => rfl)⟩⟩
    ·exact uSq1
    ·exact uSq1
    ·exact uSq1
    ·exact uSq1
   ·skip
    refine WPi_skip ?_
    refine done_block ?_
    refine Done_leq [] id (hQ y trivial) ⟨?_, ?_, (by decide : List.Nodup ([0, 1, 2] : List Nat)), ?_, ?_, ⟨by omega, fun i hi => by
     have hi' : i < 2 := by omega
     first | rfl | (simp; omega) | (match i, hi' with
     | 0, _ => rfl
     | 1, _ => rfl)⟩⟩
    ·exact uSq1
    ·exact uSq1
    ·exact uSq1
    ·exact uSq1
  ·intro y β1 I1 w1 d1 hP hH1 hd0 hA
   rw [recXs_length, ← hps] at hH1 hA ⊢
   try rw [recXs_length, ← hps] at hP
   have hcl := pcl_len (corK_wf (cor := corF secret) hwf ps.length)
   have hck := corK_len (corF secret) ps ps.length
   refine done_block ?_
   refine hK12 _ _ _ _ ?_
   refine seq_k fun _ hK323 => ?_
   refine sched_k gx_ok [(0, true), (1, true), (2, true), (3, true), (4, true)] rfl (by kernel_rfl) (by kernel_rfl) fun _ hK324 => ?_
   refine dR fun _ hS => ?_; (repeat refine aI qSq2 ?_); (first | apply hS | (refine whole_yes qSq2 ?_; apply hS) | (refine whole_sub ?_; apply hS)); clear hS
   refine dR fun _ hS => ?_; (repeat refine aI qSq2 ?_); (first | apply hS | (refine whole_yes qSq2 ?_; apply hS) | (refine whole_sub ?_; apply hS)); clear hS
   iterate 3 refine dD1 ?_
   refine d_nil ?_; apply hK324; apply hK323
   rw [loadV_eq (load_yes h_t13), ← hps, ← corK_full, show total ps = total (ps.take ps.length) by rw [List.take_length]]
   refine WP_ret (Done_dataM gx_ok hH1 hd0 hA (fun _ _ h => h) (loadV_low0 _ _ _) [2] [.tmp 4, .tmp 5, .tmp 6] rfl ?_)
   repeat' (first | exact trivial | refine aI ?_ ?_ | exact cC0 | refine low_cons' ?_ ?_ | exact cC1 | fail)
   all_goals first | exact pcl_isD _ | (show 0 + (corK (corF secret) ps ps.length).length * 65 ≤ (pcl (corK (corF secret) ps ps.length)).length; omega) | (show (0 : Nat) < 65; omega) | exact (if_pos ⟨rfl, hcl⟩).symm | (simp; done) | skip
  ·intro k y β1 I1 w1 d1 hk hZ
   exact absurd hZ id
  


end Go.Proofs.YtnhmglhbhnhnhaaDoor

namespace Go.Proofs.YtnhmglhbhnhnhaaDoor
set_option linter.unusedVariables false
open Go.Ab Go.RowKit

theorem qSr0 {a : Prop} (h : a := by first | exact vcA | (simp <;> omega) | exact vcB) : a := h
theorem qSr1 {a : Prop} (h : a := by first | exact vcA | (simp <;> omega) | exact (pieceC_len hsw).symm | exact pieceC_len hsw | (rw [pieceC_len hsw]; decide) | (rw [pieceC_len hsw]; omega) | exact pieceC_solid _ | exact hsw.1 | exact hsw.2 | exact hsw.1.symm | exact hsw.2.symm | (show (0 : Nat) < List.length _; omega) | (show _ ≤ List.length _; omega) | (show List.length _ = _; omega) | exact inR_i64.mpr ⟨by omega, by omega⟩ | exact vcB) : a := h
theorem qSr2 {a : Prop} (h : a := by first | exact vcA | (simp [pieceC_len hsw] <;> omega) | exact (pieceC_len hsw).symm | exact pieceC_len hsw | (rw [pieceC_len hsw]; decide) | (rw [pieceC_len hsw]; omega) | exact pieceC_solid _ | exact hsw.1 | exact hsw.2 | exact hsw.1.symm | exact hsw.2.symm | (show (0 : Nat) < List.length _; omega) | (show _ ≤ List.length _; omega) | (show List.length _ = _; omega) | exact inR_i64.mpr ⟨by omega, by omega⟩ | exact vcB) : a := h
theorem uSr0 {a : Prop} (h : a := by
    repeat' (first | exact trivial | refine aI ?_ ?_ | exact cC0 | refine low_cons' ?_ ?_ | exact cC1 | fail)
    all_goals first | omega | exact pieceC_isD _ | exact pieceC_low | (show (0 : Nat) < (pieceC _).len; rw [pieceC_len hsw]; omega) | (show (0 : Nat) < List.length _; omega) | (rw [total_zero]; rfl) | exact SV.low_mono (Nat.zero_le _) (boxL_low _) | (simp [total_zero]; done) | skip) : a := h

open Go.Sto
theorem put_flat (d : Disk) (s : Piece) : [d.1, num4 s.b.length, num4 (crcL (num4 s.b.length)).toNat, s.key, s.b, s.seal', num4 (crcL s.body).toNat].flatten = d.1 ++ s.rec' := by
  simp [Piece.rec', Piece.body, headB]
theorem put_len {s : Piece} (h : Piece.wf s) (d : Disk) : (d.1 ++ s.rec').length = d.1.length + 76 + s.b.length := by
  rw [List.length_append, recW_length h, Piece.size]; omega
def numberDS : QSpec := fun vs K => ∃ x : UInt32, vs = [.c (.u32 x)] ∧ K (.c (.ds 4 (.u8s (num4 x.toNat))))
theorem numberD_ok : DataOK Tryd.prog gl 36 numberDS := by
 refine data_of (Γ := g0) (N := 15) Tryd.func36 rfl rfl fun vs K h => ?_
 obtain ⟨x, rfl, h⟩ := h
 refine ⟨_, h, trivial, by simp, fun w I => ?_⟩
 refine seq_k fun _ hK1 => ?_; refine region_k g0_ok fun _ hK2 => ?_
 refine sS1 ?_
 refine s_nil ?_; apply hK2; apply hK1; refine seq_k fun _ hK3 => ?_; refine region_k g0_ok fun _ hK4 => ?_
 refine sS1 ?_
 refine sS fun _ hS => ?_; (repeat refine aI qSr0 ?_); apply hS; clear hS
 refine sS fun _ hS => ?_; (repeat first | refine aI qSr0 ?_ | refine whole_yes qSr0 ?_ | refine whole_sub ?_); apply hS; clear hS
 refine sS1 ?_
 refine sS fun _ hS => ?_; (repeat refine aI qSr0 ?_); apply hS; clear hS
 refine sS fun _ hS => ?_; (repeat first | refine aI qSr0 ?_ | refine whole_yes qSr0 ?_ | refine whole_sub ?_); apply hS; clear hS
 refine sS1 ?_
 refine sS fun _ hS => ?_; (repeat refine aI qSr0 ?_); apply hS; clear hS
 refine sS fun _ hS => ?_; (repeat first | refine aI qSr0 ?_ | refine whole_yes qSr0 ?_ | refine whole_sub ?_); apply hS; clear hS
 refine sS1 ?_
 refine sS fun _ hS => ?_; (repeat first | refine aI qSr0 ?_ | refine whole_yes qSr0 ?_ | refine whole_sub ?_); apply hS; clear hS
 refine sS fun _ hS => ?_; (repeat refine aI qSr0 ?_); apply hS; clear hS
 refine sS1 ?_
 refine s_nil ?_; apply hK4; apply hK3
 refine WP_ret (Done_data g0_ok (fun _ _ h => h) (trivial) [0] [.tmp 2] rfl ?_)
 repeat' (first | exact trivial | refine aI ?_ ?_ | exact cC0 | refine low_cons' ?_ ?_ | exact cC1 | fail)
 all_goals first | (show (_ : Cont) = _; exact congrArg Cont.u8s (number_eq x)) | (show (_ : Cont) = _; exact (congrArg Cont.u8s (number_eq x)).symm) | (simp; done) | skip

noncomputable def gpu : Ctx := { P := Tryd.prog, ty := ty, glob := gl, fs := [(34, .flat validS), (35, .data recordsS), (36, .data numberDS), (37, .flat checksumS), (38, .own concatS)] }
theorem gpu_ok : gpu.OK := ⟨tyOK, ⟨⟨enters_mk Tryd.func34 (by kernel_rfl) rfl, valid_ok⟩, ⟨enters_mk Tryd.func35 (by kernel_rfl) rfl, records_ok⟩, ⟨enters_mk Tryd.func36 (by kernel_rfl) rfl, numberD_ok⟩, ⟨enters_mk Tryd.func37 (by kernel_rfl) rfl, checksum_ok⟩, ⟨enters_mk Tryd.func38 (by kernel_rfl) rfl, concat_ok⟩, trivial⟩, mixed⟩
@[simp] theorem gpu_ty : gpu.ty = ty := rfl

def putS : QSpec := fun vs K => ∃ (d : Disk) (s : Piece), vs = [diskV d, pieceV s] ∧ (dok d ∧ Piece.wf s ∧ s.b.length ≤ 200000) ∧ K (putV (putL d s))
set_option maxHeartbeats 1000000 in
theorem put_ok : DataOK Tryd.prog gl 14 putS := by
 refine data_ofM (Γ := gpu) (N := 75) Tryd.func14 rfl rfl fun vs K h => ?_
 obtain ⟨d, s, rfl, ⟨⟨hd, hd1, hd2⟩, hsw, hsb⟩, h⟩ := h
 refine ⟨_, h, putV_low0 _ _, by simp, fun w I => ?_⟩
 refine seq_k fun _ hK1 => ?_; refine region_k gpu_ok fun _ hK2 => ?_
 refine sS fun _ hS => ?_; (repeat refine aI qSr1 ?_); apply hS; clear hS
 refine sS fun _ hS => ?_; (repeat refine aI qSr1 ?_); apply hS; clear hS
 refine sS fun _ hS => ?_; (repeat refine aI qSr1 ?_); apply hS; clear hS
 refine sS1 ?_
 refine s_nil ?_; apply hK2; apply hK1; refine seq_k fun _ hK3 => ?_; refine WP_block ?_; refine seq_k fun _ hK4 => ?_; refine region_k gpu_ok fun _ hK5 => ?_
 refine sS fun _ hS => ?_; (repeat refine aI qSr1 ?_); (first | apply hS | (refine whole_yes qSr1 ?_; apply hS) | (refine whole_sub ?_; apply hS)); clear hS
 refine sS fun _ hS => ?_; (repeat first | refine aI qSr1 ?_ | refine whole_yes qSr1 ?_ | refine whole_sub ?_); refine ⟨d, rfl, ⟨by omega, by omega, by omega⟩, ?_⟩; (repeat refine aI qSr1 ?_); (first | apply hS | (intro cap1 hcap1; apply hS)); clear hS
 iterate 2 refine sS1 ?_
 refine s_nil ?_; apply hK5; apply hK4
 refine WP_cond (b := _) rfl (fun h_t10 => ?_) (fun h_t10 => ?_)
 ·simp only [Bool.not_eq_true'] at h_t10
  refine seq_k fun _ hK6 => ?_; refine region_k gpu_ok fun _ hK7 => ?_
  refine s_stepA rfl (by decide) rfl fun _ hS => ?_
  repeat refine aI qSr1 ?_
  refine hS _ (diskV ([], 0)) _ _ (disk0_as) ?_
  clear hS
  refine sS0 fun _ hS => ?_; (repeat refine aI qSr1 ?_); (first | apply hS | (refine splice_full qSr1 ?_; apply hS)); clear hS
  refine sS1 ?_
  refine s_nil ?_; apply hK7; apply hK6
  rw [putV_eq (put_no1 h_t10)]
  refine WP_ret (Done_data0 gpu_ok (fun _ _ h => h) (putV_low0 _ _) [] [.cell 4 37, .tmp 5] rfl ?_)
  repeat' (first | exact trivial | refine aI ?_ ?_ | exact cC0 | refine low_cons' ?_ ?_ | exact cC1 | fail)
  all_goals first | (show 0 + _ * 1 ≤ List.length _; simp; done) | exact (if_pos ⟨rfl, (by show List.length _ = _; simp)⟩).symm | exact Nat.one_pos | (simp; done) | (simp; omega) | skip
 ·simp only [Bool.not_eq_false'] at h_t10
  refine seq_k fun _ hK8 => ?_; refine region_k gpu_ok fun _ hK9 => ?_
  refine sS fun _ hS => ?_; (repeat refine aI qSr1 ?_); apply hS; clear hS
  refine s_stepA rfl (by decide) rfl fun _ hS => ?_
  repeat refine aI qSr1 ?_
  first | refine hS _ (.c (.ds s.b.length (.u8s s.b))) _ _ (as_eq (congrArg SV.c (piece_b hsw))) ?_ | (refine whole_yes qSr1 ?_; refine hS _ (.c (.ds s.b.length (.u8s s.b))) _ _ (as_eq (congrArg SV.c (piece_b hsw))) ?_) | (refine whole_sub ?_; refine hS _ (.c (.ds s.b.length (.u8s s.b))) _ _ (as_eq (congrArg SV.c (piece_b hsw))) ?_)
  clear hS
  refine sS fun _ hS => ?_; (repeat refine aI qSr1 ?_); apply hS; clear hS
  refine sS fun _ hS => ?_; (repeat refine aI qSr1 ?_); apply hS; clear hS
  refine sS1 ?_
  refine s_nil ?_; apply hK9; apply hK8
  refine WP_cond (b := _) rfl (fun h_t15 => ?_) (fun h_t15 => ?_)
  ·try simp only [dQ] at h_t15
   refine seq_k fun _ hK10 => ?_; refine region_k gpu_ok fun _ hK11 => ?_
   refine s_stepA rfl (by decide) rfl fun _ hS => ?_
   repeat refine aI qSr1 ?_
   refine hS _ (diskV ([], 0)) _ _ (disk0_as) ?_
   clear hS
   refine sS0 fun _ hS => ?_; (repeat refine aI qSr1 ?_); (first | apply hS | (refine splice_full qSr1 ?_; apply hS)); clear hS
   refine sS1 ?_
   refine s_nil ?_; apply hK11; apply hK10
   rw [putV_eq (put_no2 h_t10 (by omega))]
   refine WP_ret (Done_data0 gpu_ok (fun _ _ h => h) (putV_low0 _ _) [] [.cell 4 37, .tmp 5] rfl ?_)
   repeat' (first | exact trivial | refine aI ?_ ?_ | exact cC0 | refine low_cons' ?_ ?_ | exact cC1 | fail)
   all_goals first | (show 0 + _ * 1 ≤ List.length _; simp; done) | exact (if_pos ⟨rfl, (by show List.length _ = _; simp)⟩).symm | exact Nat.one_pos | (simp; done) | (simp; omega) | skip
  ·try simp only [dQ] at h_t15
   refine WP_skip ?_; refine done_block ?_; apply hK3; refine seq_k fun _ hK12 => ?_; refine region_k gpu_ok fun _ hK13 => ?_
   refine sS fun _ hS => ?_; (repeat refine aI qSr1 ?_); apply hS; clear hS
   refine sS0 fun _ hS => ?_; (repeat refine aI qSr1 ?_); (first | apply hS | (refine splice_full qSr1 ?_; apply hS)); clear hS; refine s_nil ?_; apply hK13; apply hK12
   refine seq_kC fun _ hK14 => ?_
   refine seq_k fun _ hK15 => ?_
   obtain ⟨ps, hps⟩ : ∃ ps, ps = Go.Sto.pieces d.1 := ⟨_, rfl⟩
   have hwf : allWf ps := hps ▸ wf_pieces d.1
   have hfew := pieces_few d.1
   rw [← hps] at hfew
   have htot := total_le d.1
   rw [← hps] at htot
   have hsm : ∀ s ∈ ps, s.b.length ≤ 65536 := fun s hs => (Go.Sto.pieces_ok d.1 s (hps ▸ hs)).2.2
   have hpv : piecesV d.1 = .tup [psP ps, .c (.int .i64 (total ps : Nat))] := by rw [piecesV, ← hps]
   have hseq := recs_ok d.1 hd
   refine region_k gpu_ok fun _ hK16 => ?_
   refine sS fun _ hS => ?_; (repeat refine aI qSr1 ?_); apply hS; clear hS
   refine sS fun _ hS => ?_; (repeat refine aI qSr1 ?_); (first | apply hS | (refine whole_yes qSr1 ?_; apply hS) | (refine whole_sub ?_; apply hS)); clear hS
   refine sS fun _ hS => ?_; (repeat first | refine aI qSr1 ?_ | refine whole_yes qSr1 ?_ | refine whole_sub ?_); refine ⟨d.1, rfl, ?_⟩; (repeat refine aI qSr1 ?_); (first | apply hS | (intro cap2 hcap2; apply hS)); clear hS; refine s_nil ?_; apply hK16; apply hK15
   refine leW [1] (fun i => if i = 0 then 0 else i + 1) [(2, .c (.ptr 0 0)), (3, .c (.dp (pieceC s) 0)), (4, .c (.ptr 1 0)), (6, .c (.ptr 2 0)), (23, .c (.clo 47 [boxL d.1]))] [(0, .own 37 (.cells [.ds d.1.length (.u8s d.1), .int .i64 d.2]) 2), (1, .own 37 (.cells ([.nils] ++ [.int .i64 0])) 2), (2, .own 3 (.ints .i64 [((total (ps.take 0) : Nat) : Int)]) 1)] 3 [0, 2, 3] ?_ ?_ ?_ ?_ ?_
   ·exact uSr0
   ·exact uSr0
   ·exact uSr0
   ·exact uSr0
   refine WP_block ?_
   refine WP_rangeFg gpu_ok (α := Unit) (caps := [boxL d.1]) (xs := recXs d.1) (enters_mk Tryd.func47 (by kernel_rfl) rfl) hseq rfl (fun v hv => ?_) ⟨by decide, by decide, recXs_two⟩ (.ret) rfl 3 (by omega) (Nat.zero_le _) ?_ (fun k y => [(0, .own 37 (.cells [.ds d.1.length (.u8s d.1), .int .i64 d.2]) 2), (1, .own 37 (.cells ([.nils] ++ [.int .i64 0])) 2), (2, .own 3 (.ints .i64 [((total (ps.take k) : Nat) : Int)]) 1)]) (fun k y => True) () ?_ trivial (fun k y => [(2, .c (.ptr 0 0)), (3, .c (.dp (pieceC s) 0)), (4, .c (.ptr 1 0)), (6, .c (.ptr 2 0)), (23, .c (.clo 47 [boxL d.1])), (7, .c (.int .i64 ((total (ps.take (k + 1)) : Nat) : Int)))]) (fun k y => [(0, .own 37 (.cells [.ds d.1.length (.u8s d.1), .int .i64 d.2]) 2), (1, .own 37 (.cells ([.nils] ++ [.int .i64 0])) 2), (2, .own 3 (.ints .i64 [((total (ps.take k) : Nat) : Int)]) 1)]) (fun k y => False) ?_ ?_ ?_ ?_
   ·rw [List.mem_singleton.1 hv]
    trivial
   ·intro i v hv
    refine Env.low_get (n := 3) (E := [(2, .c (.ptr 0 0)), (3, .c (.dp (pieceC s) 0)), (4, .c (.ptr 1 0)), (6, .c (.ptr 2 0)), (23, .c (.clo 47 [boxL d.1]))]) ?_ hv
    repeat' (first | exact trivial | refine aI ?_ ?_ | exact cC0 | refine low_cons' ?_ ?_ | exact cC1 | fail)
    all_goals first | omega | exact pieceC_isD _ | exact pieceC_low | (show (0 : Nat) < (pieceC _).len; rw [pieceC_len hsw]; omega) | (show (0 : Nat) < List.length _; omega) | (rw [total_zero]; rfl) | exact SV.low_mono (Nat.zero_le _) (boxL_low _) | (simp [total_zero]; done) | skip
   ·rfl
   ·intro k y x hx hP C' ro m Q hC hQ
    obtain ⟨s, hks, rfl⟩ := recXs_inv hx
    rw [← hps] at hks
    try rw [← hps]
    obtain rfl : s = ps.getD k noPiece := by rw [List.getD_eq_getElem?_getD, hks]; rfl
    have hw := hwf _ (List.mem_of_getElem? hks)
    have hsb := hsm _ (List.mem_of_getElem? hks)
    have hkl : k < ps.length := (List.getElem?_eq_some_iff.1 hks).1
    have hT := total_succ hks
    have hTl : total (ps.take (k + 1)) ≤ total ps := total_take_le ps (k + 1)
    refine WPi_n0 fun hn0 => ?_
    refine WPi_region gpu_ok fun _ hK117 => ?_
    refine y_step rfl (by decide) rfl (by intro c h; cases h) fun _ hS => ?_
    apply hS
    clear hS
    refine y_nil ?_
    apply hK117
    refine Done_leq [] id hQ ⟨?_, ?_, (by decide : List.Nodup ([0, 1, 2] : List Nat)), ?_, ?_, ⟨by omega, fun i hi => by
     have hi' : i < 3 := by omega
     first | rfl | (simp; omega) | (match i, hi' with
     | 0, _ => rfl
     | 1, _ => rfl)⟩⟩
    ·exact uSr0
    ·exact uSr0
    ·exact uSr0
    ·exact uSr0
   ·intro k y x hx hP C' ro m Q hC hQ hZ
    obtain ⟨s, hks, rfl⟩ := recXs_inv hx
    rw [← hps] at hks
    try rw [← hps]
    obtain rfl : s = ps.getD k noPiece := by rw [List.getD_eq_getElem?_getD, hks]; rfl
    have hw := hwf _ (List.mem_of_getElem? hks)
    have hsb := hsm _ (List.mem_of_getElem? hks)
    have hkl : k < ps.length := (List.getElem?_eq_some_iff.1 hks).1
    have hT := total_succ hks
    have hTl : total (ps.take (k + 1)) ≤ total ps := total_take_le ps (k + 1)
    refine WPi_n0 fun hn0 => ?_
    refine WPi_block ?_
    refine WPi_region gpu_ok fun _ hK218 => ?_
    refine y_step rfl (by decide) rfl (by intro c h; cases h) fun _ hS => ?_
    apply hS
    clear hS
    refine y_step0 rfl rfl (by intro c h; cases h) fun _ hS => ?_
    repeat refine aI qSr1 ?_
    first | apply hS | (refine splice_full qSr1 ?_; apply hS)
    clear hS
    refine y_nil ?_
    apply hK218; refine done_block ?_
    refine Done_leq [] id (hQ () trivial) ⟨?_, ?_, (by decide : List.Nodup ([0, 1, 2] : List Nat)), ?_, ?_, ⟨by omega, fun i hi => by
     have hi' : i < 3 := by omega
     first | rfl | (simp; omega) | (match i, hi' with
     | 0, _ => rfl
     | 1, _ => rfl)⟩⟩
    ·exact uSr0
    ·exact uSr0
    ·exact uSr0
    ·exact uSr0
   ·intro y β1 I1 w1 d1 hP hH1 hd0 hA
    rw [recXs_length, ← hps] at hH1 hA ⊢
    try rw [recXs_length, ← hps] at hP
    rw [List.take_length] at hH1 hA ⊢
    obtain ⟨T, hTd⟩ : ∃ T, T = total ps := ⟨_, rfl⟩
    rw [← hTd] at hH1 hA ⊢
    have hTT : T ≤ d.1.length := by rw [hTd]; exact htot
    have eT : List.getD [((T : Nat) : Int)] 0 0 = (T : Int) := rfl
    refine done_block ?_
    refine hK14 _ _ _ _ ?_
    refine seq_k fun _ hK319 => ?_; refine WP_block ?_; refine seq_k fun _ hK320 => ?_; refine region_k gpu_ok fun _ hK321 => ?_
    refine sS fun _ hS => ?_; (repeat refine aI qSr1 ?_); (first | apply hS | (refine whole_yes qSr1 ?_; apply hS) | (refine whole_sub ?_; apply hS)); clear hS
    refine sS fun _ hS => ?_; (repeat refine aI qSr1 ?_); apply hS; clear hS
    refine sS fun _ hS => ?_; (repeat refine aI qSr1 ?_); (first | apply hS | (refine whole_yes qSr1 ?_; apply hS) | (refine whole_sub ?_; apply hS)); clear hS
    refine sS fun _ hS => ?_; (repeat refine aI qSr1 ?_); apply hS; clear hS
    refine sS fun _ hS => ?_; (repeat refine aI qSr1 ?_); apply hS; clear hS
    refine sS1 ?_
    refine s_nil ?_; apply hK321; apply hK320
    refine WP_cond (b := _) rfl (fun h_t27 => ?_) (fun h_t27 => ?_)
    ·try simp only [dQ] at h_t27
     refine seq_k fun _ hK322 => ?_; refine region_k gpu_ok fun _ hK323 => ?_
     refine s_stepA rfl (by decide) rfl fun _ hS => ?_
     repeat refine aI qSr1 ?_
     refine hS _ (diskV ([], 0)) _ _ (disk0_as) ?_
     clear hS
     refine sS0 fun _ hS => ?_; (repeat refine aI qSr1 ?_); (first | apply hS | (refine splice_full qSr1 ?_; apply hS)); clear hS
     refine sS1 ?_
     refine s_nil ?_; apply hK323; apply hK322
     rw [putV_eq (put_no3 h_t10 (by omega) (by rw [← hps, ← hTd]; have := h_t27; omega))]
     refine WP_ret (Done_dataM gpu_ok hH1 hd0 hA (fun _ _ h => h) (putV_low0 _ _) [] [.cell 4 37, .tmp 5] rfl ?_)
     repeat' (first | exact trivial | refine aI ?_ ?_ | exact cC0 | refine low_cons' ?_ ?_ | exact cC1 | fail)
     all_goals first | (show 0 + _ * 1 ≤ List.length _; simp; done) | exact (if_pos ⟨rfl, (by show List.length _ = _; simp)⟩).symm | exact Nat.one_pos | (simp; done) | (simp; omega) | skip
    ·try simp only [dQ] at h_t27
     refine seq_k fun _ hK324 => ?_; refine region_k gpu_ok fun _ hK325 => ?_
     refine sS fun _ hS => ?_; (repeat refine aI qSr1 ?_); (first | apply hS | (refine whole_yes qSr1 ?_; apply hS) | (refine whole_sub ?_; apply hS)); clear hS
     refine sS fun _ hS => ?_; (repeat refine aI qSr1 ?_); apply hS; clear hS
     refine sS fun _ hS => ?_; (repeat refine aI qSr1 ?_); apply hS; clear hS
     refine s_stepA rfl (by decide) rfl fun _ hS => ?_
     repeat refine aI qSr1 ?_
     first | refine hS _ (.c (.ds s.b.length (.u8s s.b))) _ _ (as_eq (congrArg SV.c (piece_b hsw))) ?_ | (refine whole_yes qSr1 ?_; refine hS _ (.c (.ds s.b.length (.u8s s.b))) _ _ (as_eq (congrArg SV.c (piece_b hsw))) ?_) | (refine whole_sub ?_; refine hS _ (.c (.ds s.b.length (.u8s s.b))) _ _ (as_eq (congrArg SV.c (piece_b hsw))) ?_)
     clear hS
     refine sS fun _ hS => ?_; (repeat refine aI qSr1 ?_); apply hS; clear hS
     refine sS fun _ hS => ?_; (repeat refine aI qSr1 ?_); apply hS; clear hS
     refine sS fun _ hS => ?_; (repeat refine aI qSr1 ?_); apply hS; clear hS
     refine sS1 ?_
     refine s_nil ?_; apply hK325; apply hK324
     refine WP_cond (b := _) rfl (fun h_t34 => ?_) (fun h_t34 => ?_)
     ·try simp only [dQ] at h_t34
      refine seq_k fun _ hK326 => ?_; refine region_k gpu_ok fun _ hK327 => ?_
      refine s_stepA rfl (by decide) rfl fun _ hS => ?_
      repeat refine aI qSr1 ?_
      refine hS _ (diskV ([], 0)) _ _ (disk0_as) ?_
      clear hS
      refine sS0 fun _ hS => ?_; (repeat refine aI qSr1 ?_); (first | apply hS | (refine splice_full qSr1 ?_; apply hS)); clear hS
      refine sS1 ?_
      refine s_nil ?_; apply hK327; apply hK326
      rw [putV_eq (put_no4 h_t10 (by omega) (by rw [← hps, ← hTd]; omega) (by rw [← hps, ← hTd]; omega))]
      refine WP_ret (Done_dataM gpu_ok hH1 hd0 hA (fun _ _ h => h) (putV_low0 _ _) [] [.cell 4 37, .tmp 5] rfl ?_)
      repeat' (first | exact trivial | refine aI ?_ ?_ | exact cC0 | refine low_cons' ?_ ?_ | exact cC1 | fail)
      all_goals first | (show 0 + _ * 1 ≤ List.length _; simp; done) | exact (if_pos ⟨rfl, (by show List.length _ = _; simp)⟩).symm | exact Nat.one_pos | (simp; done) | (simp; omega) | skip
     ·try simp only [dQ] at h_t34
      refine WP_skip ?_; refine done_block ?_; apply hK319; refine seq_k fun _ hK328 => ?_; refine region_k gpu_ok fun _ hK329 => ?_
      refine sS fun _ hS => ?_; (repeat refine aI qSr1 ?_); apply hS; clear hS
      refine s_stepA rfl (by decide) rfl fun _ hS => ?_
      repeat refine aI qSr1 ?_
      first | refine hS _ (.c (.ds s.b.length (.u8s s.b))) _ _ (as_eq (congrArg SV.c (piece_b hsw))) ?_ | (refine whole_yes qSr1 ?_; refine hS _ (.c (.ds s.b.length (.u8s s.b))) _ _ (as_eq (congrArg SV.c (piece_b hsw))) ?_) | (refine whole_sub ?_; refine hS _ (.c (.ds s.b.length (.u8s s.b))) _ _ (as_eq (congrArg SV.c (piece_b hsw))) ?_)
      clear hS
      refine sS fun _ hS => ?_; (repeat refine aI qSr1 ?_); apply hS; clear hS
      refine sS fun _ hS => ?_; (repeat first | refine aI qSr1 ?_ | refine whole_yes qSr1 ?_ | refine whole_sub ?_); apply hS; clear hS
      refine sS fun _ hS => ?_; (repeat first | refine aI qSr1 ?_ | refine whole_yes qSr1 ?_ | refine whole_sub ?_); refine ⟨UInt32.ofInt (s.b.length : Int), rfl, ?_⟩; rw [len_u32 _ (by omega)]; (repeat refine aI qSr1 ?_); (first | apply hS | (intro cap4 hcap4; apply hS)); clear hS
      refine sS1 ?_
      refine s_nil ?_; apply hK329; apply hK328; refine seq_k fun _ hK330 => ?_
      refine sched_k gpu_ok [(0, true), (1, true), (2, true), (3, true), (4, true), (5, true), (6, false), (7, false), (8, true)] rfl (by kernel_rfl) (by kernel_rfl) fun _ hK331 => ?_
      refine dR fun _ hS => ?_; (repeat refine aI qSr2 ?_); apply hS; clear hS
      refine d_readA rfl rfl (by decide) rfl fun _ hS => ?_
      repeat refine aI qSr2 ?_
      rw [if_neg (by rw [pieceC_len hsw]; simp)]
      first | refine hS _ (.c (.ds 32 (.u8s s.key))) (SV.as_ds (piece_key hsw)) ?_ | (refine ite_yes qSr2 ?_; (repeat refine aI qSr2 ?_); refine hS _ (.c (.ds 32 (.u8s s.key))) (SV.as_ds (piece_key hsw)) ?_)
      clear hS
      refine dR fun _ hS => ?_; (repeat refine aI qSr2 ?_); apply hS; clear hS
      refine d_readA rfl rfl (by decide) rfl fun _ hS => ?_
      repeat refine aI qSr2 ?_
      first | refine hS _ (.c (.ds s.b.length (.u8s s.b))) (as_eq (congrArg SV.c (piece_b hsw))) ?_ | (refine whole_yes qSr2 ?_; refine hS _ (.c (.ds s.b.length (.u8s s.b))) (as_eq (congrArg SV.c (piece_b hsw))) ?_) | (refine whole_sub ?_; refine hS _ (.c (.ds s.b.length (.u8s s.b))) (as_eq (congrArg SV.c (piece_b hsw))) ?_)
      clear hS
      refine dR fun _ hS => ?_; (repeat refine aI qSr2 ?_); apply hS; clear hS
      refine d_readA rfl rfl (by decide) rfl fun _ hS => ?_
      repeat refine aI qSr2 ?_
      rw [if_neg (by rw [pieceC_len hsw]; simp)]
      first | refine hS _ (.c (.ds 32 (.u8s s.seal'))) (SV.as_ds (piece_seal hsw)) ?_ | (refine ite_yes qSr2 ?_; (repeat refine aI qSr2 ?_); refine hS _ (.c (.ds 32 (.u8s s.seal'))) (SV.as_ds (piece_seal hsw)) ?_)
      clear hS
      refine dG fun _ hS => ?_; (repeat refine aI qSr2 ?_); apply hS; clear hS
      refine dG fun _ hS => ?_; (repeat first | refine aI qSr2 ?_ | refine whole_yes qSr2 ?_ | refine whole_sub ?_); refine ⟨[s.key, s.b, s.seal'], by simp [lists, hsw.1, hsw.2], ⟨by simp, by simp [hsw.1, hsw.2]; omega⟩, ?_⟩; rw [show [s.key, s.b, s.seal'].flatten = s.body by simp [Piece.body]]; (repeat refine aI qSr2 ?_); (first | apply hS | (intro cap7 hcap7; apply hS)); clear hS
      refine dD1 ?_
      refine d_nil ?_; apply hK331; apply hK330; refine seq_k fun _ hK332 => ?_
      refine sched_k gpu_ok [(0, true), (1, true), (2, true), (3, true), (7, true), (8, true), (9, true), (10, true), (11, true), (12, true), (13, true), (4, false), (5, false), (6, false), (14, false), (15, false), (16, false), (17, true), (18, false)] rfl (by kernel_rfl) (by kernel_rfl) fun _ hK333 => ?_
      refine dR fun _ hS => ?_; (repeat refine aI qSr2 ?_); apply hS; clear hS
      refine dR fun _ hS => ?_; (repeat refine aI qSr2 ?_); (first | apply hS | (refine whole_yes qSr2 ?_; apply hS) | (refine whole_sub ?_; apply hS)); clear hS
      iterate 2 refine dD1 ?_
      refine dR fun _ hS => ?_; (repeat refine aI qSr2 ?_); apply hS; clear hS
      refine d_readA rfl rfl (by decide) rfl fun _ hS => ?_
      repeat refine aI qSr2 ?_
      rw [if_neg (by rw [pieceC_len hsw]; simp)]
      first | refine hS _ (.c (.ds 32 (.u8s s.key))) (SV.as_ds (piece_key hsw)) ?_ | (refine ite_yes qSr2 ?_; (repeat refine aI qSr2 ?_); refine hS _ (.c (.ds 32 (.u8s s.key))) (SV.as_ds (piece_key hsw)) ?_)
      clear hS
      refine dR fun _ hS => ?_; (repeat refine aI qSr2 ?_); apply hS; clear hS
      refine d_readA rfl rfl (by decide) rfl fun _ hS => ?_
      repeat refine aI qSr2 ?_
      first | refine hS _ (.c (.ds s.b.length (.u8s s.b))) (as_eq (congrArg SV.c (piece_b hsw))) ?_ | (refine whole_yes qSr2 ?_; refine hS _ (.c (.ds s.b.length (.u8s s.b))) (as_eq (congrArg SV.c (piece_b hsw))) ?_) | (refine whole_sub ?_; refine hS _ (.c (.ds s.b.length (.u8s s.b))) (as_eq (congrArg SV.c (piece_b hsw))) ?_)
      clear hS
      refine dR fun _ hS => ?_; (repeat refine aI qSr2 ?_); apply hS; clear hS
      refine d_readA rfl rfl (by decide) rfl fun _ hS => ?_
      repeat refine aI qSr2 ?_
      rw [if_neg (by rw [pieceC_len hsw]; simp)]
      first | refine hS _ (.c (.ds 32 (.u8s s.seal'))) (SV.as_ds (piece_seal hsw)) ?_ | (refine ite_yes qSr2 ?_; (repeat refine aI qSr2 ?_); refine hS _ (.c (.ds 32 (.u8s s.seal'))) (SV.as_ds (piece_seal hsw)) ?_)
      clear hS
      refine dD1 ?_
      refine dG fun _ hS => ?_; (repeat refine aI qSr2 ?_); apply hS; clear hS
      refine dG fun _ hS => ?_; (repeat first | refine aI qSr2 ?_ | refine whole_yes qSr2 ?_ | refine whole_sub ?_); refine ⟨[num4 s.b.length], by simp [lists, num4_length], ⟨by simp, by simp [num4_length]⟩, ?_⟩; rw [show [num4 s.b.length].flatten = num4 s.b.length by simp]; (repeat refine aI qSr2 ?_); (first | apply hS | (intro cap5 hcap5; apply hS)); clear hS
      refine dG fun _ hS => ?_; (repeat first | refine aI qSr2 ?_ | refine whole_yes qSr2 ?_ | refine whole_sub ?_); refine ⟨_, rfl, ?_⟩; (repeat refine aI qSr2 ?_); (first | apply hS | (intro cap6 hcap6; apply hS)); clear hS
      refine dG fun _ hS => ?_; (repeat first | refine aI qSr2 ?_ | refine whole_yes qSr2 ?_ | refine whole_sub ?_); refine ⟨_, rfl, ?_⟩; (repeat refine aI qSr2 ?_); (first | apply hS | (intro cap14 hcap14; apply hS)); clear hS
      refine dG fun _ hS => ?_; (repeat refine aI qSr2 ?_); apply hS; clear hS
      refine dG fun _ hS => ?_; (repeat first | refine aI qSr2 ?_ | refine whole_yes qSr2 ?_ | refine whole_sub ?_); refine ⟨[d.1, num4 s.b.length, num4 (crcL (num4 s.b.length)).toNat, s.key, s.b, s.seal', num4 (crcL s.body).toNat], by simp [lists, num4_length, hsw.1, hsw.2] <;> rfl, ⟨by simp, by rw [put_flat, put_len hsw]; omega⟩, ?_⟩; rw [put_flat]; (repeat refine aI qSr2 ?_); (first | apply hS | (intro cap16 hcap16; apply hS)); clear hS
      refine dR fun _ hS => ?_; (repeat refine aI qSr2 ?_); apply hS; clear hS
      refine d_grow0 rfl rfl rfl fun _ hS => ?_
      repeat refine aI qSr2 ?_
      first | apply hS | (refine splice_full qSr2 ?_; apply hS)
      clear hS; refine d_nil ?_; apply hK333; apply hK332; refine seq_k fun _ hK334 => ?_; refine region_k gpu_ok fun _ hK335 => ?_
      refine sS fun _ hS => ?_; (repeat refine aI qSr1 ?_); (first | apply hS | (refine whole_yes qSr1 ?_; apply hS) | (refine whole_sub ?_; apply hS)); clear hS
      refine sS0 fun _ hS => ?_; (repeat refine aI qSr1 ?_); (first | apply hS | (refine splice_full qSr1 ?_; apply hS)); clear hS
      refine sS1 ?_
      refine s_nil ?_; apply hK335; apply hK334
      rw [putV_eq (put_yes h_t10 (by omega) (by rw [← hps, ← hTd]; omega) (by rw [← hps, ← hTd]; omega))]
      refine WP_ret (Done_dataM gpu_ok hH1 hd0 hA (fun _ _ h => h) (putV_low0 _ _) [6] [.cell 4 37, .tmp 5] rfl ?_)
      repeat' (first | exact trivial | refine aI ?_ ?_ | exact cC0 | refine low_cons' ?_ ?_ | exact cC1 | fail)
      all_goals first | (show 0 + _ * 1 ≤ List.length _; simp; done) | exact (if_pos ⟨rfl, (by show List.length _ = _; simp)⟩).symm | exact Nat.one_pos | (simp; done) | (simp; omega) | skip
   ·intro k y β1 I1 w1 d1 hk hZ
    exact absurd hZ id
   


end Go.Proofs.YtnhmglhbhnhnhaaDoor

namespace Go.Proofs.YtnhmglhbhnhnhaaDoor
set_option linter.unusedVariables false
open Go.Ab Go.RowKit

theorem qSt0 {a : Prop} (h : a := by first | exact vcA | (simp [sealD_len] <;> omega) | exact hsec.symm | exact hsec | (show _ ≤ (pieceL (madeP secret r)).length; have := pieceL_len (madeP_wf secret r); omega) | (show (pieceL (madeP secret r)).length = _; rw [pieceL_len (madeP_wf secret r)]) | (show 0 < (65 : Nat); omega) | (show _ < (rowsOf rawC l).length; rw [rows_len rawR (allT l)]; omega) | exact (pieceC_len ⟨key_len _, by simp⟩).symm | (rw [hp0]; show 0 + 33 + List.length _ ≤ 65; rw [sealD_len]; decide) | exact And.intro (key_len _) (And.intro rfl trivial) | (rw [hp0]; decide) | (rw [hp1]; decide) | (rw [hp2]; decide) | exact hp2 | exact hp2.symm | exact hp1.symm | exact hp0.symm | exact (plainP _).solid | exact (plainPs _).solid | exact sealD_len _ _ | exact And.intro (by omega) (And.intro (by omega) (plainP _).solid) | exact vcB) : a := h
theorem uSt0 {a : Prop} (h : a := by
    repeat' (first | exact trivial | refine aI ?_ ?_ | exact cC0 | refine low_cons' ?_ ?_ | exact cC1 | fail)
    all_goals first | omega | (simp; done) | (simp; omega) | exact rows_toE (plainPs _) hsuc | exact (plainPs _).low | exact (plainP _).low | exact rows_toE (plainP _) (piece_putS (key_len _) (by simp) (sealD_len _ _)) | exact rows_toE (plainP _) ((piece_set (key_len _) _).trans (by rw [madeP, if_pos h_t51]; rfl)) | exact rows_toE (plainP _) (by rw [madeP, if_neg (by simpa using h_t51)]) | exact (plainPs _).to | exact (plainP _).to | skip) : a := h

open Go.Sto
structure Raw where
  key : UInt8
  b : List UInt8
  bad : Bool
def rawC (r : Raw) : List Cell := [.u8 r.key, .ds r.b.length (.u8s r.b), .bool r.bad]
theorem rawR : Rec rawC 3 (fun _ => True) := ⟨fun _ => rfl, fun r => plain_cons rfl (plain_cons rfl (plain_cons rfl plain_nil))⟩
abbrev rawsV (l : List Raw) : SV := recsV rawC l
theorem allT {α : Type} (l : List α) : ∀ a ∈ l, (fun _ => True) a := fun _ _ => trivial
def keyL (k : UInt8) : List UInt8 := (k % 3) :: List.replicate 31 0
def madeB (r : Raw) : List UInt8 := r.b.take 50
def flip0 (l : List UInt8) : List UInt8 := l.set 0 (l.getD 0 0 ^^^ 1)
def sealD (secret : List UInt8) (r : Raw) : List UInt8 := sealL secret (keyL r.key) (madeB r)
def madeP (secret : List UInt8) (r : Raw) : Piece := ⟨keyL r.key, madeB r, if r.bad = true then flip0 (sealD secret r) else sealD secret r⟩
def madeL (secret : List UInt8) (l : List Raw) : List Piece := (l.take 6).map (madeP secret)
theorem min50_as (n : Nat) : SV.as (.c (.int .i64 (if (50 : Int) < (n : Int) then 50 else (n : Int)))) (.c (.int .i64 (min 50 n : Nat))) := as_eq (by congr 2; split <;> omega)
theorem takeB_as (r : Raw) : SV.as (.c (.ds ((min 50 r.b.length : Nat) : Int).toNat ((Cont.u8s r.b).take (((min 50 r.b.length : Nat) : Int).toNat * 1)))) (bytesV (madeB r)) := by
  refine as_dsE (a := r.b.take (((min 50 r.b.length : Nat) : Int).toNat * 1)) ?_ ?_
  · rw [madeB, List.length_take]; omega
  · rw [Nat.mul_one, madeB, Int.toNat_natCast, ← List.take_take, List.take_length]
theorem build_as (k b : List UInt8) (n : Nat) : SV.as (.agg (.cells (k.map Cell.u8 ++ ([Cell.ds n (.u8s b)] ++ ((List.replicate 32 (0 : UInt8)).map Cell.u8 ++ []))))) (.agg (.cells (k.map Cell.u8 ++ [Cell.ds n (.u8s b)] ++ (List.replicate 32 (0 : UInt8)).map Cell.u8))) := as_eq (by rw [List.append_nil, List.append_assoc])
theorem key_len (k : UInt8) : (keyL k).length = 32 := rfl
theorem key_as (k : UInt8) : SV.as (.agg (.u8s ((List.replicate 32 0).set 0 (k % UInt8.ofNat (Int.toNat 3))))) (.agg (.u8s (keyL k))) := as_eq rfl
theorem sealD_len (secret : List UInt8) (r : Raw) : (sealD secret r).length = 32 := by rw [sealD, sealL, keyed_length]
theorem sealD_as (secret : List UInt8) (r : Raw) : SV.as (.agg (.u8s (sealL secret (keyL r.key) (madeB r)))) (.agg (.u8s (sealD secret r))) := as_eq rfl
theorem flip_len (l : List UInt8) : (flip0 l).length = l.length := by rw [flip0, List.length_set]
theorem madeP_wf (secret : List UInt8) (r : Raw) : Piece.wf (madeP secret r) := ⟨rfl, by rw [madeP]; simp only; split <;> simp [flip_len, sealD_len]⟩
theorem madeB_len (r : Raw) : (madeB r).length ≤ 50 := by rw [madeB, List.length_take]; omega
theorem madeL_wf (secret : List UInt8) (l : List Raw) : allWf (madeL secret l) := fun s hs => by
  obtain ⟨r, _, rfl⟩ := List.mem_map.1 hs; exact madeP_wf secret r
theorem madeL_len (secret : List UInt8) (l : List Raw) : (madeL secret l).length = min 6 l.length := by rw [madeL, List.length_map, List.length_take]
theorem madeL_small (secret : List UInt8) (l : List Raw) : ∀ s ∈ madeL secret l, s.b.length ≤ 50 := fun s hs => by
  obtain ⟨r, _, rfl⟩ := List.mem_map.1 hs; exact madeB_len r
theorem made_succ {secret : List UInt8} {l : List Raw} {k : Nat} {r : Raw} (h : l[k]? = some r) (hk : k < 6) : (madeL secret l).take (k + 1) = (madeL secret l).take k ++ [madeP secret r] := by
  rw [List.take_add_one, madeL, List.getElem?_map, List.getElem?_take, if_pos hk, h]; rfl
theorem piece_putS {key b sl s' : List UInt8} (hk : key.length = 32) (hs : sl.length = 32) (hs' : s'.length = 32) : (pieceL ⟨key, b, sl⟩).take 33 ++ s'.map Cell.u8 ++ (pieceL ⟨key, b, sl⟩).drop (33 + s'.length) = pieceL ⟨key, b, s'⟩ := by
  have h1 : (key.map Cell.u8 ++ [Cell.ds b.length (.u8s b)]).length = 33 := by simp [hk]
  rw [pieceL, pieceL, List.take_left' h1, List.drop_eq_nil_of_le (by simp [hk, hs, hs']), List.append_nil]
theorem piece_set {key b sl : List UInt8} (hk : key.length = 32) (x : UInt8) : (pieceL ⟨key, b, sl⟩).set 33 (Cell.u8 x) = pieceL ⟨key, b, sl.set 0 x⟩ := by
  rw [pieceL, pieceL, List.set_append_right _ _ (by simp [hk]), show 33 - (key.map Cell.u8 ++ [Cell.ds b.length (.u8s b)]).length = 0 by simp [hk], List.map_set]
theorem piece_get {key b sl : List UInt8} (hk : key.length = 32) (hs : sl.length = 32) : (pieceC ⟨key, b, sl⟩).get 33 = .u8 (sl.getD 0 0) := by
  show List.getD _ 33 _ = _
  rw [List.getD_eq_getElem?_getD, List.getElem?_append_right (by simp [hk]), show 33 - (key.map Cell.u8 ++ [Cell.ds b.length (.u8s b)]).length = 0 by simp [hk], List.getElem?_map, List.getD_eq_getElem?_getD, List.getElem?_eq_getElem (by rw [hs]; decide)]
  rfl
theorem plainP (s : Piece) : plainL (pieceL s) := plain_app (plain_app (plain_map (fun _ => rfl) _) (plain_cons rfl plain_nil)) (plain_map (fun _ => rfl) _)
theorem plainPs (ps : List Piece) : plainL (pcl ps) := fun x hx => by
  obtain ⟨m, hm, hx⟩ := List.mem_flatten.1 hx
  obtain ⟨a, _, rfl⟩ := List.mem_map.1 hm
  exact plainP a x hx
attribute [local irreducible] keyL madeP sealD
noncomputable def gm : Ctx := { P := Tryd.prog, ty := ty, glob := gl, fs := [(33, .flat sealS)] }
theorem gm_ok : gm.OK := ⟨tyOK, ⟨⟨enters_mk Tryd.func33 (by kernel_rfl) rfl, seal_ok⟩, trivial⟩, mixed⟩
@[simp] theorem gm_ty : gm.ty = ty := rfl

def madeS : QSpec := fun vs K => ∃ (l : List Raw) (secret : List UInt8), vs = [rawsV l, .agg (.u8s secret)] ∧ (l.length ≤ 9223372036854775807 ∧ secret.length = 32 ∧ ∀ r ∈ l, r.b.length ≤ 9223372036854775807) ∧ K (psV (madeL secret l))
set_option maxHeartbeats 1000000 in
theorem made_ok : DataOK Tryd.prog gl 13 madeS := by
 refine data_of (Γ := gm) (N := 63) Tryd.func13 rfl rfl fun vs K h => ?_
 obtain ⟨l, secret, rfl, ⟨hl, hsec, hb⟩, h⟩ := h
 refine ⟨_, h, trivial, by simp, fun w I => ?_⟩
 refine seq_k fun _ hK1 => ?_; refine region_k gm_ok fun _ hK2 => ?_
 refine sS fun _ hS => ?_; (repeat refine aI qSt0 ?_); apply hS; clear hS
 refine sS1 ?_
 refine s_nil ?_; apply hK2; apply hK1; refine seq_k fun _ hK3 => ?_; refine region_k gm_ok fun _ hK4 => ?_
 refine sS fun _ hS => ?_; (repeat refine aI qSt0 ?_); apply hS; clear hS
 refine sS1 ?_
 refine s_nil ?_; apply hK4; apply hK3; refine seq_k fun _ hK5 => ?_; refine seq_k fun _ hK6 => ?_; refine region_k gm_ok fun _ hK7 => ?_
 refine sS1 ?_
 refine s_nil ?_; apply hK7; apply hK6; refine WP_block ?_
 obtain ⟨ms, hms⟩ : ∃ ms, ms = madeL secret l := ⟨_, rfl⟩
 have hmw : allWf ms := hms ▸ madeL_wf secret l
 have hml : ms.length = min 6 l.length := hms ▸ madeL_len secret l
 refine WP_loop (α := Nat × Nat) (fun k => [(0, rawsV l), (3, .c (.ptr 0 0)), (5, .c (.slice 1 0 k.1 k.2)), (6, .c (.int .i64 (k.1 : Nat)))]) (fun k => [(0, .own 24 (.u8s secret) 32), (1, .own 42 (pcells (ms.take k.1)) (k.2 * 65))]) 2 (fun k => k.1 ≤ min 6 l.length) (fun k => 6 - k.1) ?_ ?_
 ·refine dnS [] id (0, 0) (Nat.zero_le _) [0, 1] ?_ ?_ ?_ ?_
  ·exact uSt0
  ·exact uSt0
  ·exact uSt0
  ·exact uSt0
 ·intro k hk
  refine seq_k fun _ hK8 => ?_; refine seq_k fun _ hK9 => ?_; refine region_k gm_ok fun _ hK10 => ?_
  iterate 2 refine sS1 ?_
  refine sS fun _ hS => ?_; (repeat refine aI qSt0 ?_); apply hS; clear hS
  refine sS fun _ hS => ?_; (repeat refine aI qSt0 ?_); apply hS; clear hS
  refine sS fun _ hS => ?_
  refine s_split hS (fun hb4 => ?_) (fun hb4 => ?_)
  ·clear hS
   try simp only [dQ] at hb4
   refine sT fun _ hS => ?_; apply hS; clear hS
   refine sT fun _ hS => ?_; (repeat refine aI qSt0 ?_); apply hS; clear hS
   refine sS1 ?_
   refine s_nil ?_; apply hK10; apply hK9
   refine WP_cond (b := _) rfl (fun h_t16 => ?_) (fun h_t16 => ?_)
   ·try simp only [dQ, if_true] at h_t16
    refine WP_skip ?_; apply hK8; refine seq_k fun _ hK11 => ?_; refine WP_block ?_; refine seq_k fun _ hK12 => ?_
    have hkl : k.1 < l.length := by omega
    obtain ⟨r, hr⟩ : ∃ r, l[k.1]? = some r := ⟨_, List.getElem?_eq_getElem hkl⟩
    have hrb := hb r (List.mem_of_getElem? hr)
    have hp0 : (pieceC ⟨keyL r.key, madeB r, List.replicate 32 0⟩).len = 65 := pieceC_len ⟨key_len _, by simp⟩
    have hp1 : (pieceC ⟨keyL r.key, madeB r, sealD secret r⟩).len = 65 := pieceC_len ⟨key_len _, sealD_len _ _⟩
    have hp2 : (pieceC (madeP secret r)).len = 65 := pieceC_len (madeP_wf _ _)
    have hpl : (pcl (ms.take k.1)).length = k.1 * 65 := by rw [pcl_len (wf_take hmw _), List.length_take]; omega
    have hsuc : pcl (ms.take k.1) ++ pieceL (madeP secret r) = pcl (ms.take (k.1 + 1)) := by rw [hms, made_succ hr (by omega), pcl_app, pcl_one]
    have hmb := madeB_len r
    refine sched_k gm_ok [(0, true), (1, true), (2, true), (3, true), (4, true), (5, true), (6, true), (7, true), (8, true), (9, true), (10, true), (11, true), (12, true), (13, true), (14, true), (15, true), (16, true), (17, true), (18, true), (19, true), (20, true), (21, false), (22, false)] rfl (by kernel_rfl) (by kernel_rfl) fun _ hK13 => ?_
    iterate 2 refine dD1 ?_
    refine dR fun _ hS => ?_; (repeat refine aI qSt0 ?_); apply hS; clear hS
    refine dR fun _ hS => ?_; (repeat refine aI qSt0 ?_); apply hS; clear hS
    refine d_readA rfl rfl (by decide) rfl fun _ hS => ?_
    repeat refine aI qSt0 ?_
    first | refine hS _ (.c (.u8 r.key)) (rows_asC rawR (allT l) (i := k.1) (j := 0) rfl (by decide) hr rfl) ?_ | (refine whole_yes qSt0 ?_; refine hS _ (.c (.u8 r.key)) (rows_asC rawR (allT l) (i := k.1) (j := 0) rfl (by decide) hr rfl) ?_) | (refine whole_sub ?_; refine hS _ (.c (.u8 r.key)) (rows_asC rawR (allT l) (i := k.1) (j := 0) rfl (by decide) hr rfl) ?_)
    clear hS
    refine dR fun _ hS => ?_; (repeat refine aI qSt0 ?_); apply hS; clear hS
    refine d_readA rfl rfl (by decide) rfl fun _ hS => ?_
    repeat refine aI qSt0 ?_
    refine hS _ (.agg (.u8s (keyL r.key))) (key_as _) ?_
    clear hS
    iterate 2 refine dD1 ?_
    refine dR fun _ hS => ?_; (repeat refine aI qSt0 ?_); apply hS; clear hS
    refine dR fun _ hS => ?_; (repeat refine aI qSt0 ?_); apply hS; clear hS
    refine d_readA rfl rfl (by decide) rfl fun _ hS => ?_
    repeat refine aI qSt0 ?_
    first | refine hS _ (.c (.ds r.b.length (.u8s r.b))) (rows_asC rawR (allT l) (i := k.1) (j := 1) rfl (by decide) hr rfl) ?_ | (refine whole_yes qSt0 ?_; refine hS _ (.c (.ds r.b.length (.u8s r.b))) (rows_asC rawR (allT l) (i := k.1) (j := 1) rfl (by decide) hr rfl) ?_) | (refine whole_sub ?_; refine hS _ (.c (.ds r.b.length (.u8s r.b))) (rows_asC rawR (allT l) (i := k.1) (j := 1) rfl (by decide) hr rfl) ?_)
    clear hS
    iterate 2 refine dD1 ?_
    refine dR fun _ hS => ?_; (repeat refine aI qSt0 ?_); apply hS; clear hS
    refine dR fun _ hS => ?_; (repeat refine aI qSt0 ?_); apply hS; clear hS
    refine d_readA rfl rfl (by decide) rfl fun _ hS => ?_
    repeat refine aI qSt0 ?_
    first | refine hS _ (.c (.ds r.b.length (.u8s r.b))) (rows_asC rawR (allT l) (i := k.1) (j := 1) rfl (by decide) hr rfl) ?_ | (refine whole_yes qSt0 ?_; refine hS _ (.c (.ds r.b.length (.u8s r.b))) (rows_asC rawR (allT l) (i := k.1) (j := 1) rfl (by decide) hr rfl) ?_) | (refine whole_sub ?_; refine hS _ (.c (.ds r.b.length (.u8s r.b))) (rows_asC rawR (allT l) (i := k.1) (j := 1) rfl (by decide) hr rfl) ?_)
    clear hS
    refine dR fun _ hS => ?_; (repeat refine aI qSt0 ?_); apply hS; clear hS
    refine d_readA rfl rfl (by decide) rfl fun _ hS => ?_
    repeat refine aI qSt0 ?_
    refine hS _ (.c (.int .i64 (min 50 r.b.length : Nat))) (min50_as _) ?_
    clear hS
    refine d_readA rfl rfl (by decide) rfl fun _ hS => ?_
    repeat refine aI qSt0 ?_
    first | refine hS _ (bytesV (madeB r)) (takeB_as r) ?_ | (refine ite_yes qSt0 ?_; (repeat refine aI qSt0 ?_); refine hS _ (bytesV (madeB r)) (takeB_as r) ?_)
    clear hS
    refine d_readA rfl rfl (by decide) rfl fun _ hS => ?_
    repeat refine aI qSt0 ?_
    refine hS _ (pieceV ⟨keyL r.key, madeB r, List.replicate 32 0⟩) (build_as _ _ _) ?_
    clear hS
    refine dG fun _ hS => ?_; (repeat refine aI qSt0 ?_); apply hS; clear hS
    refine d_grow0 rfl rfl rfl fun _ hS => ?_
    repeat refine aI qSt0 ?_
    first | apply hS | (refine splice_full qSt0 ?_; apply hS)
    clear hS; refine d_nil ?_; apply hK13; apply hK12; refine seq_k fun _ hK14 => ?_; refine region_k gm_ok fun _ hK15 => ?_
    refine sS fun _ hS => ?_; (repeat refine aI qSt0 ?_); (first | apply hS | (refine whole_yes qSt0 ?_; apply hS) | (refine whole_sub ?_; apply hS)); clear hS
    refine sS fun _ hS => ?_; (repeat refine aI qSt0 ?_); apply hS; clear hS
    refine s_stepA rfl (by decide) rfl fun _ hS => ?_
    repeat refine aI qSt0 ?_
    first | refine hS _ (.agg (.u8s (keyL r.key))) _ _ (SV.as_agg (piece_key (s := ⟨keyL r.key, madeB r, List.replicate 32 0⟩) ⟨key_len _, by simp⟩)) ?_ | (refine whole_yes qSt0 ?_; refine hS _ (.agg (.u8s (keyL r.key))) _ _ (SV.as_agg (piece_key (s := ⟨keyL r.key, madeB r, List.replicate 32 0⟩) ⟨key_len _, by simp⟩)) ?_) | (refine whole_sub ?_; refine hS _ (.agg (.u8s (keyL r.key))) _ _ (SV.as_agg (piece_key (s := ⟨keyL r.key, madeB r, List.replicate 32 0⟩) ⟨key_len _, by simp⟩)) ?_)
    clear hS
    refine sS fun _ hS => ?_; (repeat refine aI qSt0 ?_); apply hS; clear hS
    refine s_stepA rfl (by decide) rfl fun _ hS => ?_
    repeat refine aI qSt0 ?_
    first | refine hS _ (bytesV (madeB r)) _ _ (as_eq (congrArg SV.c (piece_b (s := ⟨keyL r.key, madeB r, List.replicate 32 0⟩) ⟨key_len _, by simp⟩))) ?_ | (refine whole_yes qSt0 ?_; refine hS _ (bytesV (madeB r)) _ _ (as_eq (congrArg SV.c (piece_b (s := ⟨keyL r.key, madeB r, List.replicate 32 0⟩) ⟨key_len _, by simp⟩))) ?_) | (refine whole_sub ?_; refine hS _ (bytesV (madeB r)) _ _ (as_eq (congrArg SV.c (piece_b (s := ⟨keyL r.key, madeB r, List.replicate 32 0⟩) ⟨key_len _, by simp⟩))) ?_)
    clear hS
    refine s_stepA rfl (by decide) rfl fun _ hS => ?_
    repeat first | refine aI qSt0 ?_ | refine whole_yes qSt0 ?_ | refine whole_sub ?_
    refine ⟨secret, keyL r.key, madeB r, rfl, ⟨hsec, key_len _, by omega⟩, ?_⟩
    repeat refine aI qSt0 ?_
    first | refine hS _ (.agg (.u8s (sealD secret r))) _ _ (sealD_as _ _) ?_ | (intro cap5 hcap5; refine hS _ (.agg (.u8s (sealD secret r))) _ _ (sealD_as _ _) ?_)
    clear hS
    refine sS fun _ hS => ?_; (repeat refine aI qSt0 ?_); apply hS; clear hS
    refine sS0 fun _ hS => ?_; (repeat refine aI qSt0 ?_); (first | apply hS | (refine splice_full qSt0 ?_; apply hS)); clear hS; refine s_nil ?_; apply hK15; apply hK14; refine seq_k fun _ hK16 => ?_; refine seq_k fun _ hK17 => ?_
    refine leW [] id [(0, rawsV l), (3, .c (.ptr 0 0)), (5, .c (.slice 1 0 k.1 k.2)), (6, .c (.int .i64 (k.1 : Nat))), (7, .c (.ptr 2 0))] [(0, .own 24 (.u8s secret) 32), (1, .own 42 (pcells (ms.take k.1)) (k.2 * 65)), (2, .own 42 (pieceC ⟨keyL r.key, madeB r, sealD secret r⟩) 65)] 3 [0, 1, 2] ?_ ?_ ?_ ?_ ?_
    ·exact uSt0
    ·exact uSt0
    ·exact uSt0
    ·exact uSt0
    refine region_k gm_ok fun _ hK18 => ?_
    iterate 2 refine sS1 ?_
    refine sS fun _ hS => ?_; (repeat refine aI qSt0 ?_); apply hS; clear hS
    refine sS fun _ hS => ?_; (repeat refine aI qSt0 ?_); apply hS; clear hS
    refine s_stepA rfl (by decide) rfl fun _ hS => ?_
    repeat refine aI qSt0 ?_
    first | refine hS _ (.c (.bool r.bad)) _ _ (rows_asC rawR (allT l) (i := k.1) (j := 2) rfl (by decide) hr rfl) ?_ | (refine whole_yes qSt0 ?_; refine hS _ (.c (.bool r.bad)) _ _ (rows_asC rawR (allT l) (i := k.1) (j := 2) rfl (by decide) hr rfl) ?_) | (refine whole_sub ?_; refine hS _ (.c (.bool r.bad)) _ _ (rows_asC rawR (allT l) (i := k.1) (j := 2) rfl (by decide) hr rfl) ?_)
    clear hS; refine s_nil ?_; apply hK18; apply hK17
    refine WP_cond (b := _) rfl (fun h_t51 => ?_) (fun h_t51 => ?_)
    ·try simp only [dQ, if_true, if_false, reduceIte] at h_t51
     refine region_k gm_ok fun _ hK19 => ?_
     refine sS fun _ hS => ?_; (repeat refine aI qSt0 ?_); apply hS; clear hS
     refine sS fun _ hS => ?_; (repeat refine aI qSt0 ?_); apply hS; clear hS
     refine s_stepA rfl (by decide) rfl fun _ hS => ?_
     repeat refine aI qSt0 ?_
     first | refine hS _ (.c (.u8 ((sealD secret r).getD 0 0))) _ _ (as_eq (congrArg SV.c (piece_get (key_len _) (sealD_len _ _)))) ?_ | (refine whole_yes qSt0 ?_; refine hS _ (.c (.u8 ((sealD secret r).getD 0 0))) _ _ (as_eq (congrArg SV.c (piece_get (key_len _) (sealD_len _ _)))) ?_) | (refine whole_sub ?_; refine hS _ (.c (.u8 ((sealD secret r).getD 0 0))) _ _ (as_eq (congrArg SV.c (piece_get (key_len _) (sealD_len _ _)))) ?_)
     clear hS
     refine sS fun _ hS => ?_; (repeat refine aI qSt0 ?_); apply hS; clear hS
     refine sS fun _ hS => ?_; (repeat refine aI qSt0 ?_); apply hS; clear hS
     refine sS fun _ hS => ?_; (repeat refine aI qSt0 ?_); apply hS; clear hS
     refine sS0 fun _ hS => ?_; (repeat refine aI qSt0 ?_); (first | apply hS | (refine splice_full qSt0 ?_; apply hS)); clear hS; refine s_nil ?_; apply hK19; apply hK16
     refine leW [] id [(0, rawsV l), (3, .c (.ptr 0 0)), (5, .c (.slice 1 0 k.1 k.2)), (6, .c (.int .i64 (k.1 : Nat))), (7, .c (.ptr 2 0))] [(0, .own 24 (.u8s secret) 32), (1, .own 42 (pcells (ms.take k.1)) (k.2 * 65)), (2, .own 42 (pieceC (madeP secret r)) 65)] 3 [0, 1, 2] ?_ ?_ ?_ ?_ ?_
     ·exact uSt0
     ·exact uSt0
     ·exact uSt0
     ·exact uSt0
     refine region_k gm_ok fun _ hK20 => ?_
     refine sS1 ?_
     refine sS fun _ hS => ?_; (repeat refine aI qSt0 ?_); (first | apply hS | (refine whole_yes qSt0 ?_; apply hS) | (refine whole_sub ?_; apply hS)); clear hS
     refine sS fun _ hS => ?_; (repeat refine aI qSt0 ?_); apply hS; clear hS
     refine sS fun _ hS => ?_; (repeat first | refine aI qSt0 ?_ | refine whole_yes qSt0 ?_ | refine whole_sub ?_); (intro cap3 hcap3; apply hS); clear hS
     refine sS1 ?_
     refine s_nil ?_; apply hK20; refine done_block ?_; apply hK11; refine region_k gm_ok fun _ hK21 => ?_
     refine sS1 ?_
     refine sS fun _ hS => ?_; (repeat refine aI qSt0 ?_); apply hS; clear hS
     refine sS1 ?_
     refine s_nil ?_; apply hK21
     refine dnS [] (fun i => if i = 1 then 4 else i) (k.1 + 1, cap3) ⟨by omega, by omega⟩ [0, 4] ?_ ?_ ?_ ?_
     ·exact uSt0
     ·exact uSt0
     ·exact uSt0
     ·exact uSt0
    ·try simp only [dQ, if_true, if_false, reduceIte] at h_t51
     refine WP_skip ?_; apply hK16
     refine leW [] id [(0, rawsV l), (3, .c (.ptr 0 0)), (5, .c (.slice 1 0 k.1 k.2)), (6, .c (.int .i64 (k.1 : Nat))), (7, .c (.ptr 2 0))] [(0, .own 24 (.u8s secret) 32), (1, .own 42 (pcells (ms.take k.1)) (k.2 * 65)), (2, .own 42 (pieceC (madeP secret r)) 65)] 3 [0, 1, 2] ?_ ?_ ?_ ?_ ?_
     ·exact uSt0
     ·exact uSt0
     ·exact uSt0
     ·exact uSt0
     refine region_k gm_ok fun _ hK22 => ?_
     refine sS1 ?_
     refine sS fun _ hS => ?_; (repeat refine aI qSt0 ?_); (first | apply hS | (refine whole_yes qSt0 ?_; apply hS) | (refine whole_sub ?_; apply hS)); clear hS
     refine sS fun _ hS => ?_; (repeat refine aI qSt0 ?_); apply hS; clear hS
     refine sS fun _ hS => ?_; (repeat first | refine aI qSt0 ?_ | refine whole_yes qSt0 ?_ | refine whole_sub ?_); (intro cap3 hcap3; apply hS); clear hS
     refine sS1 ?_
     refine s_nil ?_; apply hK22; refine done_block ?_; apply hK11; refine region_k gm_ok fun _ hK23 => ?_
     refine sS1 ?_
     refine sS fun _ hS => ?_; (repeat refine aI qSt0 ?_); apply hS; clear hS
     refine sS1 ?_
     refine s_nil ?_; apply hK23
     refine dnS [] (fun i => if i = 1 then 4 else i) (k.1 + 1, cap3) ⟨by omega, by omega⟩ [0, 4] ?_ ?_ ?_ ?_
     ·exact uSt0
     ·exact uSt0
     ·exact uSt0
     ·exact uSt0
   ·try simp only [dQ, if_true] at h_t16
    refine WP_exit ?_; refine done_thenx ?_; refine done_thenx ?_
    refine Done_hit ?_
    apply hK5; refine seq_k fun _ hK24 => ?_; refine region_k gm_ok fun _ hK25 => ?_
    iterate 2 refine sS1 ?_
    refine s_nil ?_; apply hK25; apply hK24
    obtain ⟨k, cap⟩ := k
    obtain rfl : k = ms.length := by first | omega | (simp at *; omega)
    rw [List.take_length, ← hms]
    refine WP_ret (Done_data gm_ok (fun _ _ h => h) (trivial) [1] [.tmp 4] rfl ?_)
    repeat' (first | exact trivial | refine aI ?_ ?_ | exact cC0 | refine low_cons' ?_ ?_ | exact cC1 | fail)
    all_goals first | exact pcl_isD _ | (show 0 + ms.length * 65 ≤ (pcl ms).length; rw [pcl_len hmw]; omega) | (show (0 : Nat) < 65; decide) | (rw [if_pos ⟨rfl, pcl_len hmw⟩]; done) | exact (if_pos ⟨rfl, pcl_len hmw⟩).symm | skip
  ·clear hS
   try simp only [dQ] at hb4
   refine sN ?_; refine sN ?_
   refine sS1 ?_
   refine s_nil ?_; apply hK10; apply hK9
   refine WP_cond (b := _) rfl (fun h_t16 => ?_) (fun _ => ?_)
   ·exfalso; simp at h_t16
   refine WP_exit ?_; refine done_thenx ?_; refine done_thenx ?_
   refine Done_hit ?_
   apply hK5; refine seq_k fun _ hK26 => ?_; refine region_k gm_ok fun _ hK27 => ?_
   iterate 2 refine sS1 ?_
   refine s_nil ?_; apply hK27; apply hK26
   obtain ⟨k, cap⟩ := k
   obtain rfl : k = ms.length := by first | omega | (simp at *; omega)
   rw [List.take_length, ← hms]
   refine WP_ret (Done_data gm_ok (fun _ _ h => h) (trivial) [1] [.tmp 4] rfl ?_)
   repeat' (first | exact trivial | refine aI ?_ ?_ | exact cC0 | refine low_cons' ?_ ?_ | exact cC1 | fail)
   all_goals first | exact pcl_isD _ | (show 0 + ms.length * 65 ≤ (pcl ms).length; rw [pcl_len hmw]; omega) | (show (0 : Nat) < 65; decide) | (rw [if_pos ⟨rfl, pcl_len hmw⟩]; done) | exact (if_pos ⟨rfl, pcl_len hmw⟩).symm | skip


end Go.Proofs.YtnhmglhbhnhnhaaDoor

namespace Go.Proofs.YtnhmglhbhnhnhaaDoor
set_option linter.unusedVariables false
open Go.Ab Go.RowKit

theorem qSu0 {a : Prop} (h : a := by first | exact vcA | (simp <;> omega) | exact (log_len hx).symm | exact log_len hx | (rw [log_len hx]; decide) | (show _ ≤ (logC x).len; rw [log_len hx]; decide) | exact (log_plain _).solid | exact hx.sec.symm | exact hx.sec | (show _ < (pcl ps).length; rw [pcl_len hpw]; omega) | (show _ ≤ (pcl ps).length; rw [pcl_len hpw]; omega) | exact vcB) : a := h
theorem uSu0 {a : Prop} (h : a := by
    repeat' (first | exact trivial | refine aI ?_ ?_ | exact cC0 | refine low_cons' ?_ ?_ | exact cC1 | fail)
    all_goals first | omega | exact (log_plain _).isD | exact (log_plain _).low | (rw [log_len hx]; omega) | (show (0 : Nat) < (logC x).len; rw [log_len hx]; omega) | (show (_ : Int) = _; rw [dur_zero]; rfl) | (show (_ : Int) = ((durN _ _ _ : Nat) : Int); rw [← dur_keep (by simpa using h_t27)]) | (show (_ : Nat) = (recs (List.take 0 ps)).length; rw [recs_zero]; done) | (show Cont.u8s _ = Cont.u8s (recs (List.take 0 ps)); rw [recs_zero]) | (simp; done) | (simp; omega) | skip) : a := h

open Go.Sto
structure Log where
  l : List Raw
  synced : UInt8
  secret : List UInt8
  b0 : Nat
  b1 : Nat
  cut : Nat
def logL (x : Log) : List Cell := [.ds x.l.length (.cells (rowsOf rawC x.l)), .u8 x.synced] ++ x.secret.map .u8 ++ [.int .u16 (x.b0 : Nat), .int .u16 (x.b1 : Nat), .int .u16 (x.cut : Nat)]
abbrev logC (x : Log) : Cont := .cells (logL x)
structure Log.ok (x : Log) : Prop where
  l : x.l.length ≤ 9223372036854775807
  b : ∀ r ∈ x.l, r.b.length ≤ 9223372036854775807
  sec : x.secret.length = 32
  b0 : x.b0 ≤ 65535
  b1 : x.b1 ≤ 65535
  cut : x.cut ≤ 65535
theorem log_plain (x : Log) : plainL (logL x) := plain_app (plain_app (plain_cons rfl (plain_cons rfl plain_nil)) (plain_map (fun _ => rfl) _)) (plain_cons rfl (plain_cons rfl (plain_cons rfl plain_nil)))
theorem log_len {x : Log} (h : x.ok) : (logC x).len = 37 := by show (logL x).length = 37; simp [logL, h.sec]
theorem log_sec {x : Log} (h : x.ok) : SV.as (.agg ((logC x).sub 2 32)) (.agg (.u8s x.secret)) := by
  refine SV.as_agg ?_
  have e : (logC x).sub 2 32 = .cells (x.secret.map .u8) := by
    show Cont.cells _ = _
    congr 1
    rw [logL, List.append_assoc]
    show List.take 32 (x.secret.map Cell.u8 ++ _) = _
    rw [List.take_left' (by rw [List.length_map, h.sec])]
  rw [e]; exact eqv_u8s _
theorem log_get {x : Log} (h : x.ok) (j : Nat) : (logC x).get (34 + j) = [Cell.int .u16 (x.b0 : Nat), .int .u16 (x.b1 : Nat), .int .u16 (x.cut : Nat)].getD j .nils := by
  show List.getD _ (34 + j) _ = _
  rw [logL, List.getD_eq_getElem?_getD, List.getElem?_append_right (by simp [h.sec]), List.getD_eq_getElem?_getD]
  congr 2
  simp [h.sec]
theorem log_g0 (x : Log) : (logC x).get (0 + 0) = .ds x.l.length (.cells (rowsOf rawC x.l)) := rfl
theorem log_g1 (x : Log) : (logC x).get (0 + 1) = .u8 x.synced := rfl
theorem log_secA {x : Log} (h : x.ok) : SV.as (.agg ((logC x).sub (0 + 2) (32 * 1))) (.agg (.u8s x.secret)) := log_sec h
theorem log_getA {x : Log} (h : x.ok) {o : Nat} (j : Nat) (e : o = 34 + j) {y : Cell} (hy : [Cell.int .u16 (x.b0 : Nat), .int .u16 (x.b1 : Nat), .int .u16 (x.cut : Nat)].getD j .nils = y) : SV.as (.c ((logC x).get o)) (.c y) := as_eq (by rw [e, log_get h j, hy])
def durN (ps : List Piece) (s : UInt8) (i : Nat) : Nat := if s.toNat % 7 < i then total (ps.take (s.toNat % 7)) else 0
def fillD (ps : List Piece) (s : UInt8) (i : Nat) : Disk := (recs (ps.take i), ((durN ps s i : Nat) : Int))
def logPs (x : Log) : List Piece := madeL x.secret x.l
theorem logPs_eq (x : Log) : logPs x = madeL x.secret x.l := rfl
def logD (x : Log) : Disk := fillD (logPs x) x.synced ((logPs x).length + 1)
theorem madeL_ok (secret : List UInt8) (l : List Raw) : ∀ s ∈ madeL secret l, s.ok := fun s hs => ⟨(madeL_wf secret l s hs).1, (madeL_wf secret l s hs).2, by have := madeL_small secret l s hs; omega⟩
theorem ok_take {ps : List Piece} (h : ∀ s ∈ ps, s.ok) (i : Nat) : ∀ s ∈ ps.take i, s.ok := fun s hs => h s (List.mem_of_mem_take hs)
theorem total_bound : ∀ {ps : List Piece} {m : Nat}, (∀ s ∈ ps, s.b.length ≤ m) → total ps ≤ ps.length * (76 + m)
  | [], m, _ => by simp [total]
  | s :: ps, m, h => by
    rw [total_cons, List.length_cons, Nat.succ_mul, Piece.size]
    have := total_bound (m := m) fun x hx => h x (List.mem_cons_of_mem _ hx)
    have := h s List.mem_cons_self
    omega
theorem dur_le {ps : List Piece} {s : UInt8} {i : Nat} (h : ∀ s ∈ ps, s.ok) : durN ps s i ≤ (recs (ps.take i)).length := by
  rw [recs_length (ok_take h i), durN]
  split
  · rw [show ps.take (s.toNat % 7) = (ps.take i).take (s.toNat % 7) by rw [List.take_take, Nat.min_eq_left (by omega)]]
    exact total_take_le _ _
  · omega
theorem fill_valid {ps : List Piece} {s : UInt8} {i : Nat} (h : ∀ s ∈ ps, s.ok) : dvalid (fillD ps s i) = true := by
  have := dur_le (s := s) (i := i) h
  show decide (0 ≤ ((durN ps s i : Nat) : Int) ∧ ((durN ps s i : Nat) : Int) ≤ ((recs (ps.take i)).length : Nat)) = true
  rw [decide_eq_true_eq]; omega
theorem fill_sync {ps : List Piece} {s : UInt8} {i : Nat} (h : ∀ s ∈ ps, s.ok) (e : (i : Int) = ((s.toNat : Nat) : Int) % 7) : syncL (fillD ps s i) = (recs (ps.take i), ((durN ps s (i + 1) : Nat) : Int)) := by
  rw [sync_yes (fill_valid h)]
  have e' : s.toNat % 7 = i := by omega
  rw [durN, if_pos (by omega), e', fillD]
  simp only [Prod.mk.injEq, true_and]
  rw [recs_length (ok_take h i)]
theorem dur_keep {ps : List Piece} {s : UInt8} {i : Nat} (e : ¬ (i : Int) = ((s.toNat : Nat) : Int) % 7) : durN ps s i = durN ps s (i + 1) := by
  rw [durN, durN]
  by_cases h : s.toNat % 7 < i
  · rw [if_pos h, if_pos (by omega)]
  · rw [if_neg h, if_neg (by omega)]
theorem dur_zero (ps : List Piece) (s : UInt8) : durN ps s 0 = 0 := by rw [durN, if_neg (by omega)]
theorem recs_zero (ps : List Piece) : recs (ps.take 0) = [] := rfl
theorem durK {ps : List Piece} {s : UInt8} {k : Nat} (h : ∀ s ∈ ps, s.ok) : durN ps s (k + 1) ≤ (recs (ps.take k)).length := by
  rw [recs_length (ok_take h k), durN]
  split
  · rw [show ps.take (s.toNat % 7) = (ps.take k).take (s.toNat % 7) by rw [List.take_take, Nat.min_eq_left (by omega)]]
    exact total_take_le _ _
  · omega
theorem fill_put {ps : List Piece} {z : Nat} {i : Nat} {p : Piece} (h : ∀ s ∈ ps, s.ok) (hb : ∀ s ∈ ps, s.b.length ≤ 50) (hl : ps.length ≤ 6) (hp : ps[i]? = some p) (hz : z ≤ (recs (ps.take i)).length) : putL (recs (ps.take i), ((z : Nat) : Int)) p = ((recs (ps.take (i + 1)), ((z : Nat) : Int)), 0) := by
  have hi : i < ps.length := (List.getElem?_eq_some_iff.1 hp).1
  have h1 : Go.Sto.pieces (recs (ps.take i)) = ps.take i := recs_pieces (ok_take h i)
  have h2 := recs_length (ok_take h i)
  have h3 : total (ps.take i) ≤ (ps.take i).length * (76 + 50) := total_bound fun s hs => hb s (List.mem_of_mem_take hs)
  have h4 : (ps.take i).length ≤ 6 := by rw [List.length_take]; omega
  have hpb := hb p (List.mem_of_getElem? hp)
  rw [put_yes (by show decide (0 ≤ ((z : Nat) : Int) ∧ ((z : Nat) : Int) ≤ ((recs (ps.take i)).length : Nat)) = true; rw [decide_eq_true_eq]; omega) (by omega) (by show ¬ total (Go.Sto.pieces (recs (ps.take i))) < (recs (ps.take i)).length; rw [h1, h2]; omega) (by show ¬ 1048576 < total (Go.Sto.pieces (recs (ps.take i))) + 76 + _; rw [h1]; omega)]
  rw [List.take_add_one, hp, Option.toList_some, recs_app]
  simp [recs]
theorem fill_len {ps : List Piece} {i : Nat} (h : ∀ s ∈ ps, s.ok) (hb : ∀ s ∈ ps, s.b.length ≤ 50) (hl : ps.length ≤ 6) : (recs (ps.take i)).length ≤ 756 := by
  rw [recs_length (ok_take h i)]
  have h3 : total (ps.take i) ≤ (ps.take i).length * (76 + 50) := total_bound fun s hs => hb s (List.mem_of_mem_take hs)
  have h4 : (ps.take i).length ≤ 6 := by rw [List.length_take]; omega
  omega
def filledV (x : Log) : SV := .tup [psP (logPs x), .agg (.cells [.ds (logD x).1.length (.u8s (logD x).1), .int .i64 (logD x).2]), .c (.bool true)]
theorem tup3_low {n : Nat} {a c : Cell} {b : Cont} (h : a.low n) (k : b.low n) (j : c.low n) : SV.low n (.tup [.c a, .agg b, .c c]) := fun p hp => by
  rcases List.mem_cons.1 hp with rfl | hp
  · exact h
  · rcases List.mem_cons.1 hp with rfl | hp
    · exact k
    · rw [List.mem_singleton.1 hp]; exact j
theorem filled_eq {x : Log} {ps : List Piece} (h : ps = logPs x) : filledV x = .tup [psP ps, .agg (.cells [.ds (recs (ps.take ps.length)).length (.u8s (recs (ps.take ps.length))), .int .i64 (durN ps x.synced (ps.length + 1) : Nat)]), .c (.bool true)] := by
  rw [filledV, logD, ← h, fillD, List.take_of_length_le (Nat.le_succ _), List.take_length]
theorem filledV_low (x : Log) : (filledV x).low 0 := tup3_low trivial (disk_low (logD x)) trivial
theorem ids_piece (s : Piece) : SV.ids (.agg (pieceC s)) = [] := ids_plain (plainP s)
theorem ids_disk (n : Nat) (c : Cont) (x : Int) : SV.ids (.agg (.cells [.ds n c, .int .i64 x])) = [] := rfl
theorem dd_as (d d' : Disk) (h : d = d') : SV.as (diskV d) (diskV d') := h ▸ SV.as_refl _
attribute [local irreducible] recs durN logPs logL madeL
noncomputable def gf : Ctx := { P := Tryd.prog, ty := ty, glob := gl, fs := [(13, .data madeS), (32, .data newS), (23, .data syncS), (14, .data putS)] }
theorem gf_ok : gf.OK := ⟨tyOK, ⟨⟨enters_mk Tryd.func13 (by kernel_rfl) rfl, made_ok⟩, ⟨enters_mk Tryd.func32 (by kernel_rfl) rfl, new_ok⟩, ⟨enters_mk Tryd.func23 (by kernel_rfl) rfl, sync_ok⟩, ⟨enters_mk Tryd.func14 (by kernel_rfl) rfl, put_ok⟩, trivial⟩, mixed⟩
@[simp] theorem gf_ty : gf.ty = ty := rfl

def filledS : QSpec := fun vs K => ∃ x : Log, vs = [.agg (logC x)] ∧ x.ok ∧ K (filledV x)
set_option maxHeartbeats 1000000 in
theorem filled_ok : DataOK Tryd.prog gl 11 filledS := by
 refine data_of (Γ := gf) (N := 52) Tryd.func11 rfl rfl fun vs K h => ?_
 obtain ⟨x, rfl, hx, h⟩ := h
 refine ⟨_, h, filledV_low x, by simp, fun w I => ?_⟩
 refine seq_k fun _ hK1 => ?_; refine region_k gf_ok fun _ hK2 => ?_
 refine sS fun _ hS => ?_; (repeat refine aI qSu0 ?_); apply hS; clear hS
 refine sS1 ?_
 refine sS fun _ hS => ?_; (repeat refine aI qSu0 ?_); apply hS; clear hS
 refine sS1 ?_
 refine s_nil ?_; apply hK2; apply hK1; refine seq_k fun _ hK3 => ?_
 refine leW [0] id [(1, .c (.dp (logC x) 0)), (3, .c (.ptr 1 0))] [(1, .own 37 (.cells [.nils, .int .i64 0]) 2)] 2 [1] ?_ ?_ ?_ ?_ ?_
 ·exact uSu0
 ·exact uSu0
 ·exact uSu0
 ·exact uSu0
 refine region_k gf_ok fun _ hK4 => ?_
 refine sS fun _ hS => ?_; (repeat refine aI qSu0 ?_); apply hS; clear hS
 refine s_stepA rfl (by decide) rfl fun _ hS => ?_
 repeat refine aI qSu0 ?_
 first | refine hS _ (rawsV x.l) _ _ (as_eq (congrArg SV.c (log_g0 x))) ?_ | (refine whole_yes qSu0 ?_; refine hS _ (rawsV x.l) _ _ (as_eq (congrArg SV.c (log_g0 x))) ?_) | (refine whole_sub ?_; refine hS _ (rawsV x.l) _ _ (as_eq (congrArg SV.c (log_g0 x))) ?_)
 clear hS
 refine sS fun _ hS => ?_; (repeat refine aI qSu0 ?_); apply hS; clear hS
 refine s_stepA rfl (by decide) rfl fun _ hS => ?_
 repeat refine aI qSu0 ?_
 first | refine hS _ (.agg (.u8s x.secret)) _ _ (log_secA hx) ?_ | (refine whole_yes qSu0 ?_; refine hS _ (.agg (.u8s x.secret)) _ _ (log_secA hx) ?_) | (refine whole_sub ?_; refine hS _ (.agg (.u8s x.secret)) _ _ (log_secA hx) ?_)
 clear hS
 refine s_stepA rfl (by decide) rfl fun _ hS => ?_
 repeat first | refine aI qSu0 ?_ | refine whole_yes qSu0 ?_ | refine whole_sub ?_
 refine ⟨x.l, x.secret, rfl, ⟨hx.l, hx.sec, hx.b⟩, ?_⟩
 repeat refine aI qSu0 ?_
 first | refine hS _ (psV (logPs x)) _ _ (as_eq (by rw [logPs_eq])) ?_ | (intro cap4 hcap4; refine hS _ (psV (logPs x)) _ _ (as_eq (by rw [logPs_eq])) ?_)
 clear hS
 refine sS fun _ hS => ?_; (repeat first | refine aI qSu0 ?_ | refine whole_yes qSu0 ?_ | refine whole_sub ?_); (first | apply hS | (intro cap5 hcap5; apply hS)); clear hS
 refine sS fun _ hS => ?_; (repeat refine aI qSu0 ?_); apply hS; clear hS
 refine sS1 ?_
 refine sS0 fun _ hS => ?_; (repeat refine aI qSu0 ?_); (first | apply hS | (refine splice_full qSu0 ?_; apply hS)); clear hS; refine s_nil ?_; apply hK4; apply hK3; refine seq_k fun _ hK5 => ?_; refine seq_k fun _ hK6 => ?_; refine region_k gf_ok fun _ hK7 => ?_
 refine sS1 ?_
 refine s_nil ?_; apply hK7; apply hK6; refine WP_block ?_
 obtain ⟨ps, hps⟩ : ∃ ps, ps = logPs x := ⟨_, rfl⟩
 rw [← hps]
 have hpok : ∀ s ∈ ps, s.ok := by rw [hps, logPs_eq]; exact madeL_ok x.secret x.l
 have hpb : ∀ s ∈ ps, s.b.length ≤ 50 := by rw [hps, logPs_eq]; exact madeL_small x.secret x.l
 have hpl : ps.length ≤ 6 := by rw [hps, logPs_eq, madeL_len]; omega
 have hpw : allWf ps := by rw [hps, logPs_eq]; exact madeL_wf x.secret x.l
 have hfl : ∀ i, (recs (ps.take i)).length ≤ 756 := fun i => fill_len hpok hpb hpl
 have hdl : ∀ j i, j ≤ i → durN ps x.synced j ≤ (recs (ps.take i)).length := fun j i hj => Nat.le_trans (dur_le hpok) (by rw [recs_length (ok_take hpok _), recs_length (ok_take hpok _)]; exact (show ps.take j = (ps.take i).take j by rw [List.take_take, Nat.min_eq_left hj]) ▸ total_take_le _ _)
 refine WP_loop (α := Nat) (fun k => [(1, .c (.dp (logC x) 0)), (3, .c (.ptr 0 0)), (5, psV ps), (6, .c (.ptr 1 0)), (7, .c (.int .i64 (k : Nat)))]) (fun k => [(0, .own 37 (.cells [.nils, .int .i64 0]) 2), (1, .own 37 (.cells [.ds (recs (ps.take k)).length (.u8s (recs (ps.take k))), .int .i64 (durN ps x.synced k : Nat)]) 2)]) 2 (fun k => k ≤ ps.length) (fun k => ps.length - k) ?_ ?_
 ·refine dnS [] (fun i => i + 1) 0 (Nat.zero_le _) [1, 2] ?_ ?_ ?_ ?_
  ·exact uSu0
  ·exact uSu0
  ·exact uSu0
  ·exact uSu0
 ·intro k hk
  refine seq_k fun _ hK8 => ?_; refine seq_k fun _ hK9 => ?_; refine region_k gf_ok fun _ hK10 => ?_
  iterate 2 refine sS1 ?_
  refine sS fun _ hS => ?_; (repeat refine aI qSu0 ?_); apply hS; clear hS
  refine sS fun _ hS => ?_; (repeat refine aI qSu0 ?_); apply hS; clear hS; refine s_nil ?_; apply hK10; apply hK9
  refine WP_cond (b := _) rfl (fun h_t19 => ?_) (fun h_t19 => ?_)
  ·try simp only [dQ] at h_t19
   refine WP_skip ?_; apply hK8; refine seq_k fun _ hK11 => ?_; refine WP_block ?_; refine seq_k fun _ hK12 => ?_; refine seq_k fun _ hK13 => ?_; refine region_k gf_ok fun _ hK14 => ?_
   refine sS1 ?_
   refine sS fun _ hS => ?_; (repeat refine aI qSu0 ?_); apply hS; clear hS
   refine s_stepA rfl (by decide) rfl fun _ hS => ?_
   repeat refine aI qSu0 ?_
   first | refine hS _ (.c (.u8 x.synced)) _ _ (as_eq (congrArg SV.c (log_g1 x))) ?_ | (refine whole_yes qSu0 ?_; refine hS _ (.c (.u8 x.synced)) _ _ (as_eq (congrArg SV.c (log_g1 x))) ?_) | (refine whole_sub ?_; refine hS _ (.c (.u8 x.synced)) _ _ (as_eq (congrArg SV.c (log_g1 x))) ?_)
   clear hS
   refine sS fun _ hS => ?_; (repeat first | refine aI qSu0 ?_ | refine whole_yes qSu0 ?_ | refine whole_sub ?_); apply hS; clear hS
   refine sS fun _ hS => ?_; (repeat refine aI qSu0 ?_); apply hS; clear hS
   refine sS fun _ hS => ?_; (repeat refine aI qSu0 ?_); apply hS; clear hS; refine s_nil ?_; apply hK14; apply hK13
   refine WP_cond (b := _) rfl (fun h_t27 => ?_) (fun h_t27 => ?_)
   ·try simp only [dQ] at h_t27
    have hi1 := hfl k
    have hi2 := hdl k k (Nat.le_refl _)
    refine region_k gf_ok fun _ hK15 => ?_
    refine sS fun _ hS => ?_; (repeat refine aI qSu0 ?_); (first | apply hS | (refine whole_yes qSu0 ?_; apply hS) | (refine whole_sub ?_; apply hS)); clear hS
    refine s_stepA rfl (by decide) rfl fun _ hS => ?_
    repeat first | refine aI qSu0 ?_ | refine whole_yes qSu0 ?_ | refine whole_sub ?_
    refine ⟨fillD ps x.synced k, rfl, ⟨by show (recs (ps.take k)).length ≤ _; omega, by show _ ≤ ((durN ps x.synced k : Nat) : Int); omega, by show ((durN ps x.synced k : Nat) : Int) ≤ _; omega⟩, ?_⟩
    repeat refine aI qSu0 ?_
    first | refine hS _ (diskV (recs (ps.take k), ((durN ps x.synced (k + 1) : Nat) : Int))) _ _ (dd_as _ _ (fill_sync hpok (by simpa using h_t27))) ?_ | (intro cap1 hcap1; refine hS _ (diskV (recs (ps.take k), ((durN ps x.synced (k + 1) : Nat) : Int))) _ _ (dd_as _ _ (fill_sync hpok (by simpa using h_t27))) ?_)
    clear hS
    refine sS0 fun _ hS => ?_; (repeat refine aI qSu0 ?_); (first | apply hS | (refine splice_full qSu0 ?_; apply hS)); clear hS; refine s_nil ?_; apply hK15; apply hK12; refine seq_k fun _ hK16 => ?_; refine seq_k fun _ hK17 => ?_
    refine leW [] id [(1, .c (.dp (logC x) 0)), (3, .c (.ptr 0 0)), (5, psV ps), (6, .c (.ptr 1 0)), (7, .c (.int .i64 (k : Nat)))] [(0, .own 37 (.cells [.nils, .int .i64 0]) 2), (1, .own 37 (.cells [.ds (recs (ps.take k)).length (.u8s (recs (ps.take k))), .int .i64 (durN ps x.synced (k + 1) : Nat)]) 2)] 2 [0, 1] ?_ ?_ ?_ ?_ ?_
    ·exact uSu0
    ·exact uSu0
    ·exact uSu0
    ·exact uSu0
    refine region_k gf_ok fun _ hK18 => ?_
    iterate 2 refine sS1 ?_
    refine sS fun _ hS => ?_; (repeat refine aI qSu0 ?_); apply hS; clear hS
    refine sS fun _ hS => ?_; (repeat refine aI qSu0 ?_); apply hS; clear hS; refine s_nil ?_; apply hK18; apply hK17
    refine WP_cond (b := _) rfl (fun h_t33 => ?_) (fun h_t33 => ?_)
    ·try simp only [dQ] at h_t33
     refine seq_k fun _ hK19 => ?_
     refine sched_k gf_ok [(0, true), (1, true), (2, true), (3, false), (4, true)] rfl (by kernel_rfl) (by kernel_rfl) fun _ hK20 => ?_
     refine dD1 ?_
     refine dR fun _ hS => ?_; (repeat refine aI qSu0 ?_); (first | apply hS | (refine whole_yes qSu0 ?_; apply hS) | (refine whole_sub ?_; apply hS)); clear hS
     refine dD1 ?_
     refine d_grow0 rfl rfl rfl fun _ hS => ?_
     repeat refine aI qSu0 ?_
     first | apply hS | (refine splice_full qSu0 ?_; apply hS)
     clear hS
     refine dD1 ?_
     refine d_nil ?_; apply hK20; apply hK19
     obtain rfl : k = ps.length := by omega
     rw [filled_eq hps]
     refine WP_ret (Done_data gf_ok (fun _ _ h => h) (tup3_low trivial (disk_low (recs (ps.take ps.length), ((durN ps x.synced (ps.length + 1) : Nat) : Int))) trivial) [] [.tmp 2, .cell 3 37, .tmp 4] rfl ?_)
     repeat' (first | exact trivial | refine aI ?_ ?_ | exact cC0 | refine low_cons' ?_ ?_ | exact cC1 | fail)
    ·try simp only [dQ] at h_t33
     refine WP_skip ?_; apply hK16; refine seq_k fun _ hK21 => ?_
     have hkl : k < ps.length := by omega
     obtain ⟨s, hks⟩ : ∃ s, ps[k]? = some s := ⟨_, List.getElem?_eq_getElem hkl⟩
     have hw := hpw s (List.mem_of_getElem? hks)
     have hsb := hpb s (List.mem_of_getElem? hks)
     have hi1 := hfl k
     have hi2 : durN ps x.synced (k + 1) ≤ (recs (ps.take k)).length := durK hpok
     refine tree_k gf_ok ?_
     refine WB_run gf_ok (g := 7) (by kernel_rfl) [(0, true), (1, true), (2, true), (3, true), (4, true)] (by kernel_rfl) fun _ hK23 => ?_
     refine dR fun _ hS => ?_; (repeat refine aI qSu0 ?_); (first | apply hS | (refine whole_yes qSu0 ?_; apply hS) | (refine whole_sub ?_; apply hS)); clear hS
     iterate 2 refine dD1 ?_
     refine dR fun _ hS => ?_; (repeat refine aI qSu0 ?_); apply hS; clear hS
     refine d_readA rfl rfl (by decide) rfl fun _ hS => ?_
     repeat refine aI qSu0 ?_
     refine whole_sub ?_
     first | refine hS _ (pieceV s) (pcl_sub hpw hks) ?_ | (refine whole_yes qSu0 ?_; refine hS _ (pieceV s) (pcl_sub hpw hks) ?_) | (refine whole_sub ?_; refine hS _ (pieceV s) (pcl_sub hpw hks) ?_)
     clear hS; refine d_nil ?_; apply hK23
     refine WB_all [5, 9] (by kernel_rfl) (by decide) (List.forall_mem_cons.2 ⟨?_, List.forall_mem_cons.2 ⟨?_, fun _ h => by cases h⟩⟩)
     ·refine WB_force gf_ok rfl rfl (by decide) rfl fun _ hS => ?_
      repeat first | refine aI qSu0 ?_ | refine whole_yes qSu0 ?_ | refine whole_sub ?_
      refine aI (piece_noclo _) ?_
      refine viewL_flat (piece_flat _) ?_
      refine ⟨(recs (ps.take k), ((durN ps x.synced (k + 1) : Nat) : Int)), s, rfl, ⟨⟨by show (recs (ps.take k)).length ≤ _; omega, by show _ ≤ ((durN ps x.synced (k + 1) : Nat) : Int); omega, by show ((durN ps x.synced (k + 1) : Nat) : Int) ≤ _; omega⟩, hw, by omega⟩, ?_⟩
      rw [putV_eq (fill_put hpok hpb hpl hks hi2)]
      simp only [List.flatMap_cons, List.flatMap_nil, ids_piece, ids_disk, List.append_nil, Heap.delAll]
      repeat refine aI qSu0 ?_
      first | apply hS | (intro cap5 hcap5; apply hS)
      clear hS
      refine WB_run gf_ok (g := 0) (by kernel_rfl) [(6, true), (7, true), (8, true), (9, false), (10, false), (11, true)] (by kernel_rfl) fun _ hK24 => ?_
      refine dD1 ?_
      refine dR fun _ hS => ?_; (repeat refine aI qSu0 ?_); apply hS; clear hS
      refine dR fun _ hS => ?_; (repeat refine aI qSu0 ?_); apply hS; clear hS
      refine dG fun _ hS => ?_; (repeat refine aI qSu0 ?_); apply hS; clear hS
      refine d_grow0 rfl rfl rfl fun _ hS => ?_
      repeat refine aI qSu0 ?_
      first | apply hS | (refine splice_full qSu0 ?_; apply hS)
      clear hS
      refine dD1 ?_
      refine d_nil ?_; apply hK24
      refine WB_done (by kernel_rfl) ?_
      apply hK21; refine seq_k fun _ hK25 => ?_; refine seq_k fun _ hK26 => ?_; refine region_k gf_ok fun _ hK27 => ?_
      refine sS1 ?_
      refine sS fun _ hS => ?_; (repeat refine aI qSu0 ?_); apply hS; clear hS; refine s_nil ?_; apply hK27; apply hK26
      refine WP_cond (b := _) rfl (fun h_t46 => ?_) (fun _ => ?_)
      ·exfalso; simp at h_t46
      refine WP_skip ?_; apply hK25; refine region_k gf_ok fun _ hK28 => ?_
      refine sS fun _ hS => ?_; (repeat refine aI qSu0 ?_); (first | apply hS | (refine whole_yes qSu0 ?_; apply hS) | (refine whole_sub ?_; apply hS)); clear hS
      refine sS0 fun _ hS => ?_; (repeat refine aI qSu0 ?_); (first | apply hS | (refine splice_full qSu0 ?_; apply hS)); clear hS; refine s_nil ?_; apply hK28; refine done_block ?_; apply hK11; refine region_k gf_ok fun _ hK29 => ?_
      refine sS1 ?_
      refine sS fun _ hS => ?_; (repeat refine aI qSu0 ?_); apply hS; clear hS
      refine sS1 ?_
      refine s_nil ?_; apply hK29
      refine dnS [] id (k + 1) ⟨by omega, by omega⟩ [0, 1] ?_ ?_ ?_ ?_
      ·exact uSu0
      ·exact uSu0
      ·exact uSu0
      ·exact uSu0
     ·refine WB_force gf_ok rfl rfl (by decide) rfl fun _ hS => ?_
      repeat refine aI qSu0 ?_
      apply hS
      clear hS
      refine WB_run gf_ok (g := 0) (by kernel_rfl) [(5, false), (6, true), (7, true), (8, true), (10, false), (11, true)] (by kernel_rfl) fun _ hK30 => ?_
      refine dG fun _ hS => ?_; (repeat first | refine aI qSu0 ?_ | refine whole_yes qSu0 ?_ | refine whole_sub ?_); refine aI (piece_noclo _) ?_; refine viewL_flat (piece_flat _) ?_; refine ⟨(recs (ps.take k), ((durN ps x.synced (k + 1) : Nat) : Int)), s, rfl, ⟨⟨by show (recs (ps.take k)).length ≤ _; omega, by show _ ≤ ((durN ps x.synced (k + 1) : Nat) : Int); omega, by show ((durN ps x.synced (k + 1) : Nat) : Int) ≤ _; omega⟩, hw, by omega⟩, ?_⟩; rw [putV_eq (fill_put hpok hpb hpl hks hi2)]; simp only [List.flatMap_cons, List.flatMap_nil, ids_piece, ids_disk, List.append_nil, Heap.delAll]; (repeat refine aI qSu0 ?_); (first | apply hS | (intro cap5 hcap5; apply hS)); clear hS
      refine dD1 ?_
      refine dR fun _ hS => ?_; (repeat refine aI qSu0 ?_); apply hS; clear hS
      refine dR fun _ hS => ?_; (repeat refine aI qSu0 ?_); apply hS; clear hS
      refine d_grow0 rfl rfl rfl fun _ hS => ?_
      repeat refine aI qSu0 ?_
      first | apply hS | (refine splice_full qSu0 ?_; apply hS)
      clear hS
      refine dD1 ?_
      refine d_nil ?_; apply hK30
      refine WB_done (by kernel_rfl) ?_
      apply hK21; refine seq_k fun _ hK31 => ?_; refine seq_k fun _ hK32 => ?_; refine region_k gf_ok fun _ hK33 => ?_
      refine sS1 ?_
      refine sS fun _ hS => ?_; (repeat refine aI qSu0 ?_); apply hS; clear hS; refine s_nil ?_; apply hK33; apply hK32
      refine WP_cond (b := _) rfl (fun h_t46 => ?_) (fun _ => ?_)
      ·exfalso; simp at h_t46
      refine WP_skip ?_; apply hK31; refine region_k gf_ok fun _ hK34 => ?_
      refine sS fun _ hS => ?_; (repeat refine aI qSu0 ?_); (first | apply hS | (refine whole_yes qSu0 ?_; apply hS) | (refine whole_sub ?_; apply hS)); clear hS
      refine sS0 fun _ hS => ?_; (repeat refine aI qSu0 ?_); (first | apply hS | (refine splice_full qSu0 ?_; apply hS)); clear hS; refine s_nil ?_; apply hK34; refine done_block ?_; apply hK11; refine region_k gf_ok fun _ hK35 => ?_
      refine sS1 ?_
      refine sS fun _ hS => ?_; (repeat refine aI qSu0 ?_); apply hS; clear hS
      refine sS1 ?_
      refine s_nil ?_; apply hK35
      refine dnS [] id (k + 1) ⟨by omega, by omega⟩ [0, 1] ?_ ?_ ?_ ?_
      ·exact uSu0
      ·exact uSu0
      ·exact uSu0
      ·exact uSu0
   ·try simp only [dQ] at h_t27
    refine WP_skip ?_; apply hK12; refine seq_k fun _ hK36 => ?_; refine seq_k fun _ hK37 => ?_
    refine leW [] id [(1, .c (.dp (logC x) 0)), (3, .c (.ptr 0 0)), (5, psV ps), (6, .c (.ptr 1 0)), (7, .c (.int .i64 (k : Nat)))] [(0, .own 37 (.cells [.nils, .int .i64 0]) 2), (1, .own 37 (.cells [.ds (recs (ps.take k)).length (.u8s (recs (ps.take k))), .int .i64 (durN ps x.synced (k + 1) : Nat)]) 2)] 2 [0, 1] ?_ ?_ ?_ ?_ ?_
    ·exact uSu0
    ·exact uSu0
    ·exact uSu0
    ·exact uSu0
    refine region_k gf_ok fun _ hK38 => ?_
    iterate 2 refine sS1 ?_
    refine sS fun _ hS => ?_; (repeat refine aI qSu0 ?_); apply hS; clear hS
    refine sS fun _ hS => ?_; (repeat refine aI qSu0 ?_); apply hS; clear hS; refine s_nil ?_; apply hK38; apply hK37
    refine WP_cond (b := _) rfl (fun h_t33 => ?_) (fun h_t33 => ?_)
    ·try simp only [dQ] at h_t33
     refine seq_k fun _ hK39 => ?_
     refine sched_k gf_ok [(0, true), (1, true), (2, true), (3, false), (4, true)] rfl (by kernel_rfl) (by kernel_rfl) fun _ hK40 => ?_
     refine dD1 ?_
     refine dR fun _ hS => ?_; (repeat refine aI qSu0 ?_); (first | apply hS | (refine whole_yes qSu0 ?_; apply hS) | (refine whole_sub ?_; apply hS)); clear hS
     refine dD1 ?_
     refine d_grow0 rfl rfl rfl fun _ hS => ?_
     repeat refine aI qSu0 ?_
     first | apply hS | (refine splice_full qSu0 ?_; apply hS)
     clear hS
     refine dD1 ?_
     refine d_nil ?_; apply hK40; apply hK39
     obtain rfl : k = ps.length := by omega
     rw [filled_eq hps]
     refine WP_ret (Done_data gf_ok (fun _ _ h => h) (tup3_low trivial (disk_low (recs (ps.take ps.length), ((durN ps x.synced (ps.length + 1) : Nat) : Int))) trivial) [] [.tmp 2, .cell 3 37, .tmp 4] rfl ?_)
     repeat' (first | exact trivial | refine aI ?_ ?_ | exact cC0 | refine low_cons' ?_ ?_ | exact cC1 | fail)
    ·try simp only [dQ] at h_t33
     refine WP_skip ?_; apply hK36; refine seq_k fun _ hK41 => ?_
     have hkl : k < ps.length := by omega
     obtain ⟨s, hks⟩ : ∃ s, ps[k]? = some s := ⟨_, List.getElem?_eq_getElem hkl⟩
     have hw := hpw s (List.mem_of_getElem? hks)
     have hsb := hpb s (List.mem_of_getElem? hks)
     have hi1 := hfl k
     have hi2 : durN ps x.synced (k + 1) ≤ (recs (ps.take k)).length := durK hpok
     refine tree_k gf_ok ?_
     refine WB_run gf_ok (g := 7) (by kernel_rfl) [(0, true), (1, true), (2, true), (3, true), (4, true)] (by kernel_rfl) fun _ hK43 => ?_
     refine dR fun _ hS => ?_; (repeat refine aI qSu0 ?_); (first | apply hS | (refine whole_yes qSu0 ?_; apply hS) | (refine whole_sub ?_; apply hS)); clear hS
     iterate 2 refine dD1 ?_
     refine dR fun _ hS => ?_; (repeat refine aI qSu0 ?_); apply hS; clear hS
     refine d_readA rfl rfl (by decide) rfl fun _ hS => ?_
     repeat refine aI qSu0 ?_
     refine whole_sub ?_
     first | refine hS _ (pieceV s) (pcl_sub hpw hks) ?_ | (refine whole_yes qSu0 ?_; refine hS _ (pieceV s) (pcl_sub hpw hks) ?_) | (refine whole_sub ?_; refine hS _ (pieceV s) (pcl_sub hpw hks) ?_)
     clear hS; refine d_nil ?_; apply hK43
     refine WB_all [5, 9] (by kernel_rfl) (by decide) (List.forall_mem_cons.2 ⟨?_, List.forall_mem_cons.2 ⟨?_, fun _ h => by cases h⟩⟩)
     ·refine WB_force gf_ok rfl rfl (by decide) rfl fun _ hS => ?_
      repeat first | refine aI qSu0 ?_ | refine whole_yes qSu0 ?_ | refine whole_sub ?_
      refine aI (piece_noclo _) ?_
      refine viewL_flat (piece_flat _) ?_
      refine ⟨(recs (ps.take k), ((durN ps x.synced (k + 1) : Nat) : Int)), s, rfl, ⟨⟨by show (recs (ps.take k)).length ≤ _; omega, by show _ ≤ ((durN ps x.synced (k + 1) : Nat) : Int); omega, by show ((durN ps x.synced (k + 1) : Nat) : Int) ≤ _; omega⟩, hw, by omega⟩, ?_⟩
      rw [putV_eq (fill_put hpok hpb hpl hks hi2)]
      simp only [List.flatMap_cons, List.flatMap_nil, ids_piece, ids_disk, List.append_nil, Heap.delAll]
      repeat refine aI qSu0 ?_
      first | apply hS | (intro cap5 hcap5; apply hS)
      clear hS
      refine WB_run gf_ok (g := 0) (by kernel_rfl) [(6, true), (7, true), (8, true), (9, false), (10, false), (11, true)] (by kernel_rfl) fun _ hK44 => ?_
      refine dD1 ?_
      refine dR fun _ hS => ?_; (repeat refine aI qSu0 ?_); apply hS; clear hS
      refine dR fun _ hS => ?_; (repeat refine aI qSu0 ?_); apply hS; clear hS
      refine dG fun _ hS => ?_; (repeat refine aI qSu0 ?_); apply hS; clear hS
      refine d_grow0 rfl rfl rfl fun _ hS => ?_
      repeat refine aI qSu0 ?_
      first | apply hS | (refine splice_full qSu0 ?_; apply hS)
      clear hS
      refine dD1 ?_
      refine d_nil ?_; apply hK44
      refine WB_done (by kernel_rfl) ?_
      apply hK41; refine seq_k fun _ hK45 => ?_; refine seq_k fun _ hK46 => ?_; refine region_k gf_ok fun _ hK47 => ?_
      refine sS1 ?_
      refine sS fun _ hS => ?_; (repeat refine aI qSu0 ?_); apply hS; clear hS; refine s_nil ?_; apply hK47; apply hK46
      refine WP_cond (b := _) rfl (fun h_t46 => ?_) (fun _ => ?_)
      ·exfalso; simp at h_t46
      refine WP_skip ?_; apply hK45; refine region_k gf_ok fun _ hK48 => ?_
      refine sS fun _ hS => ?_; (repeat refine aI qSu0 ?_); (first | apply hS | (refine whole_yes qSu0 ?_; apply hS) | (refine whole_sub ?_; apply hS)); clear hS
      refine sS0 fun _ hS => ?_; (repeat refine aI qSu0 ?_); (first | apply hS | (refine splice_full qSu0 ?_; apply hS)); clear hS; refine s_nil ?_; apply hK48; refine done_block ?_; apply hK11; refine region_k gf_ok fun _ hK49 => ?_
      refine sS1 ?_
      refine sS fun _ hS => ?_; (repeat refine aI qSu0 ?_); apply hS; clear hS
      refine sS1 ?_
      refine s_nil ?_; apply hK49
      refine dnS [] id (k + 1) ⟨by omega, by omega⟩ [0, 1] ?_ ?_ ?_ ?_
      ·exact uSu0
      ·exact uSu0
      ·exact uSu0
      ·exact uSu0
     ·refine WB_force gf_ok rfl rfl (by decide) rfl fun _ hS => ?_
      repeat refine aI qSu0 ?_
      apply hS
      clear hS
      refine WB_run gf_ok (g := 0) (by kernel_rfl) [(5, false), (6, true), (7, true), (8, true), (10, false), (11, true)] (by kernel_rfl) fun _ hK50 => ?_
      refine dG fun _ hS => ?_; (repeat first | refine aI qSu0 ?_ | refine whole_yes qSu0 ?_ | refine whole_sub ?_); refine aI (piece_noclo _) ?_; refine viewL_flat (piece_flat _) ?_; refine ⟨(recs (ps.take k), ((durN ps x.synced (k + 1) : Nat) : Int)), s, rfl, ⟨⟨by show (recs (ps.take k)).length ≤ _; omega, by show _ ≤ ((durN ps x.synced (k + 1) : Nat) : Int); omega, by show ((durN ps x.synced (k + 1) : Nat) : Int) ≤ _; omega⟩, hw, by omega⟩, ?_⟩; rw [putV_eq (fill_put hpok hpb hpl hks hi2)]; simp only [List.flatMap_cons, List.flatMap_nil, ids_piece, ids_disk, List.append_nil, Heap.delAll]; (repeat refine aI qSu0 ?_); (first | apply hS | (intro cap5 hcap5; apply hS)); clear hS
      refine dD1 ?_
      refine dR fun _ hS => ?_; (repeat refine aI qSu0 ?_); apply hS; clear hS
      refine dR fun _ hS => ?_; (repeat refine aI qSu0 ?_); apply hS; clear hS
      refine d_grow0 rfl rfl rfl fun _ hS => ?_
      repeat refine aI qSu0 ?_
      first | apply hS | (refine splice_full qSu0 ?_; apply hS)
      clear hS
      refine dD1 ?_
      refine d_nil ?_; apply hK50
      refine WB_done (by kernel_rfl) ?_
      apply hK41; refine seq_k fun _ hK51 => ?_; refine seq_k fun _ hK52 => ?_; refine region_k gf_ok fun _ hK53 => ?_
      refine sS1 ?_
      refine sS fun _ hS => ?_; (repeat refine aI qSu0 ?_); apply hS; clear hS; refine s_nil ?_; apply hK53; apply hK52
      refine WP_cond (b := _) rfl (fun h_t46 => ?_) (fun _ => ?_)
      ·exfalso; simp at h_t46
      refine WP_skip ?_; apply hK51; refine region_k gf_ok fun _ hK54 => ?_
      refine sS fun _ hS => ?_; (repeat refine aI qSu0 ?_); (first | apply hS | (refine whole_yes qSu0 ?_; apply hS) | (refine whole_sub ?_; apply hS)); clear hS
      refine sS0 fun _ hS => ?_; (repeat refine aI qSu0 ?_); (first | apply hS | (refine splice_full qSu0 ?_; apply hS)); clear hS; refine s_nil ?_; apply hK54; refine done_block ?_; apply hK11; refine region_k gf_ok fun _ hK55 => ?_
      refine sS1 ?_
      refine sS fun _ hS => ?_; (repeat refine aI qSu0 ?_); apply hS; clear hS
      refine sS1 ?_
      refine s_nil ?_; apply hK55
      refine dnS [] id (k + 1) ⟨by omega, by omega⟩ [0, 1] ?_ ?_ ?_ ?_
      ·exact uSu0
      ·exact uSu0
      ·exact uSu0
      ·exact uSu0
  ·try simp only [dQ] at h_t19
   refine WP_exit ?_; refine done_thenx ?_; refine done_thenx ?_
   refine Done_hit ?_
   apply hK5; refine seq_k fun _ hK56 => ?_
   refine sched_k gf_ok [(0, true), (1, true), (2, true), (3, false), (4, true)] rfl (by kernel_rfl) (by kernel_rfl) fun _ hK57 => ?_
   refine dD1 ?_
   refine dR fun _ hS => ?_; (repeat refine aI qSu0 ?_); (first | apply hS | (refine whole_yes qSu0 ?_; apply hS) | (refine whole_sub ?_; apply hS)); clear hS
   refine dD1 ?_
   refine d_grow0 rfl rfl rfl fun _ hS => ?_
   repeat refine aI qSu0 ?_
   first | apply hS | (refine splice_full qSu0 ?_; apply hS)
   clear hS
   refine dD1 ?_
   refine d_nil ?_; apply hK57; apply hK56
   obtain rfl : k = ps.length := by omega
   rw [filled_eq hps]
   refine WP_ret (Done_data gf_ok (fun _ _ h => h) (tup3_low trivial (disk_low (recs (ps.take ps.length), ((durN ps x.synced (ps.length + 1) : Nat) : Int))) trivial) [] [.tmp 2, .cell 3 37, .tmp 4] rfl ?_)
   repeat' (first | exact trivial | refine aI ?_ ?_ | exact cC0 | refine low_cons' ?_ ?_ | exact cC1 | fail)


end Go.Proofs.YtnhmglhbhnhnhaaDoor

namespace Go.Proofs.YtnhmglhbhnhnhaaDoor
set_option linter.unusedVariables false
open Go.Ab Go.RowKit

theorem qSv0 {a : Prop} (h : a := by first | exact vcA | (simp <;> omega) | exact (log_len hx).symm | exact log_len hx | (rw [log_len hx]; decide) | (show _ ≤ (logC x).len; rw [log_len hx]; decide) | (show _ < (logC x).len; rw [log_len hx]; decide) | exact (log_plain _).solid | (have := hx.b0; have := hx.b1; have := hx.cut; omega) | (have := mod_bd x.b0 (show 0 < d.1.length by omega); omega) | (have := mod_bd x.b0 (show 0 < d.1.length by omega); show _ < List.length _; omega) | (have := mod_bd (x.cut / 2) (show 0 < d.1.length + 1 by omega); omega) | (refine ⟨by omega, by decide, ?_⟩; show _ ≤ (65535 : Int); omega) | exact vcB) : a := h
theorem uSv0 {a : Prop} (h : a := by
    repeat' (first | exact trivial | refine aI ?_ ?_ | exact cC0 | refine low_cons' ?_ ?_ | exact cC1 | fail)
    all_goals first | omega | exact (log_plain _).to | exact log_len hx | exact (log_len hx).symm | exact (log_plain _).low | (show List.set d.1 (0 + _ * 1) _ = _; rw [Nat.zero_add, Nat.mul_one]; exact bentM_yes (by omega) (by simpa using h_t19)) | (show (_ : List UInt8) = _; first | exact bentM_yes (by omega) (by simpa using h_t19) | exact bentM_no (fun hh => h_t19 (by simpa using hh.2)) | exact bentM_no (by omega)) | (show ((T0 : Nat) : Int).toNat - (0 : Int).toNat = bentT x d.1; rw [bentT, if_pos (show x.cut &&& 1 = 1 from bit_yes (c := 1) h_t36), ← hT0]; omega) | (show (_ : Nat) = bentT x d.1; first | exact bentT_yes (l := d.1) (bit_yes (c := 1) h_t36) | exact bentT_no (bit_no (c := 1) h_t36)) | (simp; done) | (simp; omega) | skip) : a := h

open Go.Sto
def bentM (x : Log) (l : List UInt8) : List UInt8 := if 0 < l.length ∧ x.b1 &&& 256 = 0 then l.set (x.b0 % l.length) (UInt8.ofInt (x.b1 : Nat)) else l
def bentT (x : Log) (l : List UInt8) : Nat := if x.cut &&& 1 = 1 then x.cut / 2 % (l.length + 1) else l.length
def bentB (x : Log) (l : List UInt8) : List UInt8 := (bentM x l).take (bentT x l)
def bentD (d : Disk) (x : Log) : Disk := (bentB x d.1, min d.2 ((bentB x d.1).length : Nat))
theorem bentM_len (x : Log) (l : List UInt8) : (bentM x l).length = l.length := by rw [bentM]; split <;> simp
theorem bentT_le (x : Log) (l : List UInt8) : bentT x l ≤ l.length := by
  rw [bentT]; split
  · have := Nat.mod_lt (x.cut / 2) (show 0 < l.length + 1 by omega); omega
  · exact Nat.le_refl _
theorem bentB_len (x : Log) (l : List UInt8) : (bentB x l).length = bentT x l := by
  have := bentT_le x l
  rw [bentB, List.length_take, bentM_len]; omega
theorem sub_take {m : List UInt8} {L : Nat} (h : L ≤ m.length) : Cont.u8s (m.take L) = (if 0 = 0 ∧ (Cont.u8s m).len = L * 1 then Cont.u8s m else (Cont.u8s m).sub 0 (L * 1)) := by
  split
  · rename_i e
    have e : m.length = L * 1 := e.2
    rw [List.take_of_length_le (by omega)]
  · show _ = Cont.u8s ((m.drop 0).take (L * 1))
    rw [List.drop_zero, Nat.mul_one]
theorem bentM_yes {x : Log} {l : List UInt8} (h : 0 < l.length) (h2 : x.b1 &&& 256 = 0) : l.set (((x.b0 : Nat) : Int) % ((l.length : Nat) : Int)).toNat (UInt8.ofInt ((x.b1 : Nat) : Int)) = bentM x l := by
  rw [bentM, if_pos ⟨h, h2⟩, ← Int.natCast_emod, Int.toNat_natCast]
theorem bentM_no {x : Log} {l : List UInt8} (h : ¬ (0 < l.length ∧ x.b1 &&& 256 = 0)) : l = bentM x l := by rw [bentM, if_neg h]
theorem bentT_yes {x : Log} {l : List UInt8} (h : x.cut &&& 1 = 1) : (((x.cut : Nat) : Int) / 2 % (((l.length : Nat) : Int) + 1)).toNat = bentT x l := by
  rw [bentT, if_pos h, show (((l.length : Nat) : Int) + 1) = ((l.length + 1 : Nat) : Int) by omega, show ((x.cut : Nat) : Int) / 2 = ((x.cut / 2 : Nat) : Int) by omega, ← Int.natCast_emod, Int.toNat_natCast]
theorem bentT_no {x : Log} {l : List UInt8} (h : ¬ x.cut &&& 1 = 1) : l.length = bentT x l := by rw [bentT, if_neg h]
theorem bit_yes {a b c : Nat} (h : (((((a : Nat) : Int).toNat &&& b) : Nat) : Int) = ((c : Nat) : Int)) : a &&& b = c := by rw [Int.toNat_natCast] at h; exact Int.ofNat.inj h
theorem bit_no {a b c : Nat} (h : ¬ (((((a : Nat) : Int).toNat &&& b) : Nat) : Int) = ((c : Nat) : Int)) : ¬ a &&& b = c := fun e => h (by rw [Int.toNat_natCast, e])
theorem bentD_eq (d : Disk) (x : Log) : bentD d x = ((bentM x d.1).take (bentT x d.1), min d.2 ((bentT x d.1 : Nat) : Int)) := by rw [bentD, bentB_len, bentB]
theorem mod_bd (a : Nat) {n : Nat} (h : 0 < n) : 0 ≤ ((a : Nat) : Int) % ((n : Nat) : Int) ∧ ((a : Nat) : Int) % ((n : Nat) : Int) < n := ⟨Int.emod_nonneg _ (by omega), Int.emod_lt_of_pos _ (by omega)⟩
attribute [local irreducible] logL
def bentS : QSpec := fun vs K => ∃ (d : Disk) (x : Log), vs = [diskV d, .agg (logC x)] ∧ (dok d ∧ x.ok) ∧ K (diskV (bentD d x))
set_option maxHeartbeats 1000000 in
theorem bent_ok : DataOK Tryd.prog gl 12 bentS := by
 refine data_of (Γ := g0) (N := 54) Tryd.func12 rfl rfl fun vs K h => ?_
 obtain ⟨d, x, rfl, ⟨⟨hd, hd1, hd2⟩, hx⟩, h⟩ := h
 refine ⟨_, h, disk_low _, by simp, fun w I => ?_⟩
 have hb0 := hx.b0
 have hb1 := hx.b1
 have hcu := hx.cut
 have hml := bentM_len x d.1
 have htl := bentT_le x d.1
 refine seq_k fun _ hK1 => ?_; refine region_k g0_ok fun _ hK2 => ?_
 refine sS fun _ hS => ?_; (repeat refine aI qSv0 ?_); apply hS; clear hS
 refine sS fun _ hS => ?_; (repeat refine aI qSv0 ?_); apply hS; clear hS
 refine sS fun _ hS => ?_; (repeat refine aI qSv0 ?_); apply hS; clear hS; refine s_nil ?_; apply hK2; apply hK1; refine seq_k fun _ hK3 => ?_; refine region_k g0_ok fun _ hK4 => ?_
 refine sS fun _ hS => ?_; (repeat refine aI qSv0 ?_); apply hS; clear hS
 refine sS fun _ hS => ?_; (repeat refine aI qSv0 ?_); apply hS; clear hS
 refine sS fun _ hS => ?_; (repeat refine aI qSv0 ?_); (first | apply hS | (refine whole_yes qSv0 ?_; apply hS) | (refine whole_sub ?_; apply hS)); clear hS
 refine sS fun _ hS => ?_; (repeat first | refine aI qSv0 ?_ | refine whole_yes qSv0 ?_ | refine whole_sub ?_); (intro cap3 hcap3; apply hS); clear hS
 refine sS1 ?_
 refine s_nil ?_; apply hK4; apply hK3; refine seq_k fun _ hK5 => ?_; refine seq_k fun _ hK6 => ?_
 refine leW [] id [(2, .c (.ptr 0 0)), (3, .c (.ptr 1 0)), (4, .c (.ptr 2 0)), (5, .c (.slice 4 0 d.1.length cap3))] [(0, .own 37 (.cells [.ds d.1.length (.u8s d.1), .int .i64 d.2]) 2), (1, .own 28 (logC x) 37), (2, .own 37 (.cells [.nils, .int .i64 0]) 2), (4, .own 5 (.u8s (d.1)) cap3)] 5 [0, 1, 2, 4] ?_ ?_ ?_ ?_ ?_
 ·exact uSv0
 ·exact uSv0
 ·exact uSv0
 ·exact uSv0
 refine region_k g0_ok fun _ hK7 => ?_
 refine sS1 ?_
 refine sS fun _ hS => ?_; (repeat refine aI qSv0 ?_); apply hS; clear hS
 refine sS fun _ hS => ?_; (repeat refine aI qSv0 ?_); apply hS; clear hS
 refine sS fun _ hS => ?_
 refine s_split hS (fun hb3 => ?_) (fun hb3 => ?_)
 ·clear hS
  try simp only [dQ] at hb3
  refine sT fun _ hS => ?_; (repeat refine aI qSv0 ?_); apply hS; clear hS
  refine sT fun _ hS => ?_; (repeat refine aI qSv0 ?_); apply hS; clear hS
  refine s_guardA (b := true) rfl (by decide) rfl rfl (fun _ _ hS => ?_) (fun e => absurd e (by decide))
  repeat refine aI qSv0 ?_
  first | refine hS _ (.c (.int .u16 (x.b1 : Nat))) _ _ (log_getA hx 1 rfl rfl) ?_ | (refine whole_yes qSv0 ?_; refine hS _ (.c (.int .u16 (x.b1 : Nat))) _ _ (log_getA hx 1 rfl rfl) ?_) | (refine whole_sub ?_; refine hS _ (.c (.int .u16 (x.b1 : Nat))) _ _ (log_getA hx 1 rfl rfl) ?_)
  clear hS
  refine sT fun _ hS => ?_; (repeat refine aI qSv0 ?_); apply hS; clear hS
  refine sT fun _ hS => ?_; (repeat refine aI qSv0 ?_); apply hS; clear hS
  refine sS1 ?_
  refine s_nil ?_; apply hK7; apply hK6
  refine WP_cond (b := _) rfl (fun h_t19 => ?_) (fun h_t19 => ?_)
  ·try simp only [dQ, if_true] at h_t19
   refine sched_k g0_ok [(0, true), (1, true), (2, true), (3, true), (4, true), (5, true), (6, true), (7, true), (8, true), (9, true), (10, true), (11, true), (12, true), (13, false)] rfl (by kernel_rfl) (by kernel_rfl) fun _ hK8 => ?_
   refine dD1 ?_
   refine dR fun _ hS => ?_; (repeat refine aI qSv0 ?_); apply hS; clear hS
   refine dR fun _ hS => ?_; (repeat refine aI qSv0 ?_); apply hS; clear hS
   refine d_readA rfl rfl (by decide) rfl fun _ hS => ?_
   repeat refine aI qSv0 ?_
   first | refine hS _ (.c (.int .u16 (x.b0 : Nat))) (log_getA hx 0 rfl rfl) ?_ | (refine whole_yes qSv0 ?_; refine hS _ (.c (.int .u16 (x.b0 : Nat))) (log_getA hx 0 rfl rfl) ?_) | (refine whole_sub ?_; refine hS _ (.c (.int .u16 (x.b0 : Nat))) (log_getA hx 0 rfl rfl) ?_)
   clear hS
   refine dR fun _ hS => ?_; (repeat first | refine aI qSv0 ?_ | refine whole_yes qSv0 ?_ | refine whole_sub ?_); apply hS; clear hS
   refine dD1 ?_
   refine dR fun _ hS => ?_; (repeat refine aI qSv0 ?_); apply hS; clear hS
   refine dR fun _ hS => ?_; (repeat refine aI qSv0 ?_); apply hS; clear hS
   refine dR fun _ hS => ?_; (repeat refine aI qSv0 ?_); apply hS; clear hS
   refine dR fun _ hS => ?_; (repeat refine aI qSv0 ?_); apply hS; clear hS
   refine d_readA rfl rfl (by decide) rfl fun _ hS => ?_
   repeat refine aI qSv0 ?_
   first | refine hS _ (.c (.int .u16 (x.b1 : Nat))) (log_getA hx 1 rfl rfl) ?_ | (refine whole_yes qSv0 ?_; refine hS _ (.c (.int .u16 (x.b1 : Nat))) (log_getA hx 1 rfl rfl) ?_) | (refine whole_sub ?_; refine hS _ (.c (.int .u16 (x.b1 : Nat))) (log_getA hx 1 rfl rfl) ?_)
   clear hS
   refine dR fun _ hS => ?_; (repeat first | refine aI qSv0 ?_ | refine whole_yes qSv0 ?_ | refine whole_sub ?_); apply hS; clear hS
   refine dR fun _ hS => ?_; (repeat refine aI qSv0 ?_); apply hS; clear hS
   refine d_grow0 rfl rfl rfl fun _ hS => ?_
   repeat refine aI qSv0 ?_
   first | apply hS | (refine splice_full qSv0 ?_; apply hS)
   clear hS; refine d_nil ?_; apply hK8; apply hK5; refine seq_k fun _ hK9 => ?_; refine seq_k fun _ hK10 => ?_
   refine leW [] id [(2, .c (.ptr 0 0)), (3, .c (.ptr 1 0)), (4, .c (.ptr 2 0)), (5, .c (.slice 4 0 d.1.length cap3))] [(0, .own 37 (.cells [.ds d.1.length (.u8s d.1), .int .i64 d.2]) 2), (1, .own 28 (logC x) 37), (2, .own 37 (.cells [.nils, .int .i64 0]) 2), (4, .own 5 (.u8s (bentM x d.1)) cap3)] 5 [0, 1, 2, 4] ?_ ?_ ?_ ?_ ?_
   ·exact uSv0
   ·exact uSv0
   ·exact uSv0
   ·exact uSv0
   refine region_k g0_ok fun _ hK11 => ?_
   refine sS fun _ hS => ?_; (repeat refine aI qSv0 ?_); apply hS; clear hS
   refine s_stepA rfl (by decide) rfl fun _ hS => ?_
   repeat refine aI qSv0 ?_
   first | refine hS _ (.c (.int .u16 (x.cut : Nat))) _ _ (log_getA hx 2 rfl rfl) ?_ | (refine whole_yes qSv0 ?_; refine hS _ (.c (.int .u16 (x.cut : Nat))) _ _ (log_getA hx 2 rfl rfl) ?_) | (refine whole_sub ?_; refine hS _ (.c (.int .u16 (x.cut : Nat))) _ _ (log_getA hx 2 rfl rfl) ?_)
   clear hS
   refine sS fun _ hS => ?_; (repeat refine aI qSv0 ?_); apply hS; clear hS
   refine sS fun _ hS => ?_; (repeat refine aI qSv0 ?_); apply hS; clear hS; refine s_nil ?_; apply hK11; apply hK10
   refine WP_cond (b := _) rfl (fun h_t36 => ?_) (fun h_t36 => ?_)
   ·try simp only [dQ] at h_t36
    obtain ⟨T0, hT0⟩ : ∃ t, t = x.cut / 2 % (d.1.length + 1) := ⟨_, rfl⟩
    have hT0l : T0 ≤ d.1.length := by have := Nat.mod_lt (x.cut / 2) (show 0 < d.1.length + 1 by omega); omega
    refine region_k g0_ok fun _ hK12 => ?_
    refine sS1 ?_
    refine sS fun _ hS => ?_; (repeat refine aI qSv0 ?_); apply hS; clear hS
    refine s_stepA rfl (by decide) rfl fun _ hS => ?_
    repeat refine aI qSv0 ?_
    first | refine hS _ (.c (.int .u16 (x.cut : Nat))) _ _ (log_getA hx 2 rfl rfl) ?_ | (refine whole_yes qSv0 ?_; refine hS _ (.c (.int .u16 (x.cut : Nat))) _ _ (log_getA hx 2 rfl rfl) ?_) | (refine whole_sub ?_; refine hS _ (.c (.int .u16 (x.cut : Nat))) _ _ (log_getA hx 2 rfl rfl) ?_)
    clear hS
    refine sS fun _ hS => ?_; (repeat refine aI qSv0 ?_); apply hS; clear hS
    refine sS fun _ hS => ?_; (repeat first | refine aI qSv0 ?_ | refine whole_yes qSv0 ?_ | refine whole_sub ?_); apply hS; clear hS
    refine sS1 ?_
    refine sS fun _ hS => ?_; (repeat refine aI qSv0 ?_); apply hS; clear hS
    refine sS fun _ hS => ?_; (repeat refine aI qSv0 ?_); apply hS; clear hS
    refine s_stepA rfl (by decide) rfl fun _ hS => ?_
    repeat refine aI qSv0 ?_
    refine hS _ (.c (.int .i64 (T0 : Nat))) _ _ (as_eq (congrArg (fun v => SV.c (.int .i64 v)) (by rw [hT0]; push_cast; rfl))) ?_
    clear hS
    refine sS fun _ hS => ?_; (repeat refine aI qSv0 ?_); (first | apply hS | (refine ite_yes qSv0 ?_; (repeat refine aI qSv0 ?_); apply hS)); clear hS
    refine sS1 ?_
    refine s_nil ?_; apply hK12; apply hK9; refine seq_k fun _ hK13 => ?_
    refine leW [] id [(2, .c (.ptr 0 0)), (3, .c (.ptr 1 0)), (4, .c (.ptr 2 0)), (5, .c (.slice 4 0 (bentT x d.1) cap3))] [(0, .own 37 (.cells [.ds d.1.length (.u8s d.1), .int .i64 d.2]) 2), (1, .own 28 (logC x) 37), (2, .own 37 (.cells [.nils, .int .i64 0]) 2), (4, .own 5 (.u8s (bentM x d.1)) cap3)] 5 [0, 1, 2, 4] ?_ ?_ ?_ ?_ ?_
    ·exact uSv0
    ·exact uSv0
    ·exact uSv0
    ·exact uSv0
    refine region_k g0_ok fun _ hK14 => ?_
    refine sS1 ?_
    refine sS fun _ hS => ?_; (repeat refine aI qSv0 ?_); apply hS; clear hS
    refine sS fun _ hS => ?_; (repeat refine aI qSv0 ?_); (first | apply hS | (refine whole_yes qSv0 ?_; apply hS) | (refine whole_sub ?_; apply hS)); clear hS
    refine sS1 ?_
    refine sS fun _ hS => ?_; (repeat refine aI qSv0 ?_); apply hS; clear hS
    refine s_stepA rfl (by decide) rfl fun _ hS => ?_
    repeat refine aI qSv0 ?_
    refine hS _ (.c (.int .i64 (min d.2 ((bentT x d.1 : Nat) : Int)))) _ _ (as_eq (by congr 2; split <;> omega)) ?_
    clear hS
    refine sS fun _ hS => ?_; (repeat refine aI qSv0 ?_); apply hS; clear hS
    refine sS0 fun _ hS => ?_; (repeat refine aI qSv0 ?_); (first | apply hS | (refine splice_full qSv0 ?_; apply hS)); clear hS; refine s_nil ?_; apply hK14; apply hK13
    rw [bentD_eq]
    refine WP_ret (Done_data g0_ok (fun _ _ h => h) (disk_low _) [4] [.cell 4 37] rfl ?_)
    repeat' (first | exact trivial | refine aI ?_ ?_ | exact cC0 | refine low_cons' ?_ ?_ | exact cC1 | fail)
    all_goals first | (rw [List.length_take]; omega) | exact sub_take (by omega) | (show 0 + _ * 1 ≤ List.length _; omega) | exact Nat.one_pos | skip
   ·try simp only [dQ] at h_t36
    refine WP_skip ?_; apply hK9; refine seq_k fun _ hK15 => ?_
    refine leW [] id [(2, .c (.ptr 0 0)), (3, .c (.ptr 1 0)), (4, .c (.ptr 2 0)), (5, .c (.slice 4 0 (bentT x d.1) cap3))] [(0, .own 37 (.cells [.ds d.1.length (.u8s d.1), .int .i64 d.2]) 2), (1, .own 28 (logC x) 37), (2, .own 37 (.cells [.nils, .int .i64 0]) 2), (4, .own 5 (.u8s (bentM x d.1)) cap3)] 5 [0, 1, 2, 4] ?_ ?_ ?_ ?_ ?_
    ·exact uSv0
    ·exact uSv0
    ·exact uSv0
    ·exact uSv0
    refine region_k g0_ok fun _ hK16 => ?_
    refine sS1 ?_
    refine sS fun _ hS => ?_; (repeat refine aI qSv0 ?_); apply hS; clear hS
    refine sS fun _ hS => ?_; (repeat refine aI qSv0 ?_); (first | apply hS | (refine whole_yes qSv0 ?_; apply hS) | (refine whole_sub ?_; apply hS)); clear hS
    refine sS1 ?_
    refine sS fun _ hS => ?_; (repeat refine aI qSv0 ?_); apply hS; clear hS
    refine s_stepA rfl (by decide) rfl fun _ hS => ?_
    repeat refine aI qSv0 ?_
    refine hS _ (.c (.int .i64 (min d.2 ((bentT x d.1 : Nat) : Int)))) _ _ (as_eq (by congr 2; split <;> omega)) ?_
    clear hS
    refine sS fun _ hS => ?_; (repeat refine aI qSv0 ?_); apply hS; clear hS
    refine sS0 fun _ hS => ?_; (repeat refine aI qSv0 ?_); (first | apply hS | (refine splice_full qSv0 ?_; apply hS)); clear hS; refine s_nil ?_; apply hK16; apply hK15
    rw [bentD_eq]
    refine WP_ret (Done_data g0_ok (fun _ _ h => h) (disk_low _) [4] [.cell 4 37] rfl ?_)
    repeat' (first | exact trivial | refine aI ?_ ?_ | exact cC0 | refine low_cons' ?_ ?_ | exact cC1 | fail)
    all_goals first | (rw [List.length_take]; omega) | exact sub_take (by omega) | (show 0 + _ * 1 ≤ List.length _; omega) | exact Nat.one_pos | skip
  ·try simp only [dQ, if_true] at h_t19
   refine WP_skip ?_; apply hK5; refine seq_k fun _ hK17 => ?_; refine seq_k fun _ hK18 => ?_
   refine leW [] id [(2, .c (.ptr 0 0)), (3, .c (.ptr 1 0)), (4, .c (.ptr 2 0)), (5, .c (.slice 4 0 d.1.length cap3))] [(0, .own 37 (.cells [.ds d.1.length (.u8s d.1), .int .i64 d.2]) 2), (1, .own 28 (logC x) 37), (2, .own 37 (.cells [.nils, .int .i64 0]) 2), (4, .own 5 (.u8s (bentM x d.1)) cap3)] 5 [0, 1, 2, 4] ?_ ?_ ?_ ?_ ?_
   ·exact uSv0
   ·exact uSv0
   ·exact uSv0
   ·exact uSv0
   refine region_k g0_ok fun _ hK19 => ?_
   refine sS fun _ hS => ?_; (repeat refine aI qSv0 ?_); apply hS; clear hS
   refine s_stepA rfl (by decide) rfl fun _ hS => ?_
   repeat refine aI qSv0 ?_
   first | refine hS _ (.c (.int .u16 (x.cut : Nat))) _ _ (log_getA hx 2 rfl rfl) ?_ | (refine whole_yes qSv0 ?_; refine hS _ (.c (.int .u16 (x.cut : Nat))) _ _ (log_getA hx 2 rfl rfl) ?_) | (refine whole_sub ?_; refine hS _ (.c (.int .u16 (x.cut : Nat))) _ _ (log_getA hx 2 rfl rfl) ?_)
   clear hS
   refine sS fun _ hS => ?_; (repeat refine aI qSv0 ?_); apply hS; clear hS
   refine sS fun _ hS => ?_; (repeat refine aI qSv0 ?_); apply hS; clear hS; refine s_nil ?_; apply hK19; apply hK18
   refine WP_cond (b := _) rfl (fun h_t36 => ?_) (fun h_t36 => ?_)
   ·try simp only [dQ] at h_t36
    obtain ⟨T0, hT0⟩ : ∃ t, t = x.cut / 2 % (d.1.length + 1) := ⟨_, rfl⟩
    have hT0l : T0 ≤ d.1.length := by have := Nat.mod_lt (x.cut / 2) (show 0 < d.1.length + 1 by omega); omega
    refine region_k g0_ok fun _ hK20 => ?_
    refine sS1 ?_
    refine sS fun _ hS => ?_; (repeat refine aI qSv0 ?_); apply hS; clear hS
    refine s_stepA rfl (by decide) rfl fun _ hS => ?_
    repeat refine aI qSv0 ?_
    first | refine hS _ (.c (.int .u16 (x.cut : Nat))) _ _ (log_getA hx 2 rfl rfl) ?_ | (refine whole_yes qSv0 ?_; refine hS _ (.c (.int .u16 (x.cut : Nat))) _ _ (log_getA hx 2 rfl rfl) ?_) | (refine whole_sub ?_; refine hS _ (.c (.int .u16 (x.cut : Nat))) _ _ (log_getA hx 2 rfl rfl) ?_)
    clear hS
    refine sS fun _ hS => ?_; (repeat refine aI qSv0 ?_); apply hS; clear hS
    refine sS fun _ hS => ?_; (repeat first | refine aI qSv0 ?_ | refine whole_yes qSv0 ?_ | refine whole_sub ?_); apply hS; clear hS
    refine sS1 ?_
    refine sS fun _ hS => ?_; (repeat refine aI qSv0 ?_); apply hS; clear hS
    refine sS fun _ hS => ?_; (repeat refine aI qSv0 ?_); apply hS; clear hS
    refine s_stepA rfl (by decide) rfl fun _ hS => ?_
    repeat refine aI qSv0 ?_
    refine hS _ (.c (.int .i64 (T0 : Nat))) _ _ (as_eq (congrArg (fun v => SV.c (.int .i64 v)) (by rw [hT0]; push_cast; rfl))) ?_
    clear hS
    refine sS fun _ hS => ?_; (repeat refine aI qSv0 ?_); (first | apply hS | (refine ite_yes qSv0 ?_; (repeat refine aI qSv0 ?_); apply hS)); clear hS
    refine sS1 ?_
    refine s_nil ?_; apply hK20; apply hK17; refine seq_k fun _ hK21 => ?_
    refine leW [] id [(2, .c (.ptr 0 0)), (3, .c (.ptr 1 0)), (4, .c (.ptr 2 0)), (5, .c (.slice 4 0 (bentT x d.1) cap3))] [(0, .own 37 (.cells [.ds d.1.length (.u8s d.1), .int .i64 d.2]) 2), (1, .own 28 (logC x) 37), (2, .own 37 (.cells [.nils, .int .i64 0]) 2), (4, .own 5 (.u8s (bentM x d.1)) cap3)] 5 [0, 1, 2, 4] ?_ ?_ ?_ ?_ ?_
    ·exact uSv0
    ·exact uSv0
    ·exact uSv0
    ·exact uSv0
    refine region_k g0_ok fun _ hK22 => ?_
    refine sS1 ?_
    refine sS fun _ hS => ?_; (repeat refine aI qSv0 ?_); apply hS; clear hS
    refine sS fun _ hS => ?_; (repeat refine aI qSv0 ?_); (first | apply hS | (refine whole_yes qSv0 ?_; apply hS) | (refine whole_sub ?_; apply hS)); clear hS
    refine sS1 ?_
    refine sS fun _ hS => ?_; (repeat refine aI qSv0 ?_); apply hS; clear hS
    refine s_stepA rfl (by decide) rfl fun _ hS => ?_
    repeat refine aI qSv0 ?_
    refine hS _ (.c (.int .i64 (min d.2 ((bentT x d.1 : Nat) : Int)))) _ _ (as_eq (by congr 2; split <;> omega)) ?_
    clear hS
    refine sS fun _ hS => ?_; (repeat refine aI qSv0 ?_); apply hS; clear hS
    refine sS0 fun _ hS => ?_; (repeat refine aI qSv0 ?_); (first | apply hS | (refine splice_full qSv0 ?_; apply hS)); clear hS; refine s_nil ?_; apply hK22; apply hK21
    rw [bentD_eq]
    refine WP_ret (Done_data g0_ok (fun _ _ h => h) (disk_low _) [4] [.cell 4 37] rfl ?_)
    repeat' (first | exact trivial | refine aI ?_ ?_ | exact cC0 | refine low_cons' ?_ ?_ | exact cC1 | fail)
    all_goals first | (rw [List.length_take]; omega) | exact sub_take (by omega) | (show 0 + _ * 1 ≤ List.length _; omega) | exact Nat.one_pos | skip
   ·try simp only [dQ] at h_t36
    refine WP_skip ?_; apply hK17; refine seq_k fun _ hK23 => ?_
    refine leW [] id [(2, .c (.ptr 0 0)), (3, .c (.ptr 1 0)), (4, .c (.ptr 2 0)), (5, .c (.slice 4 0 (bentT x d.1) cap3))] [(0, .own 37 (.cells [.ds d.1.length (.u8s d.1), .int .i64 d.2]) 2), (1, .own 28 (logC x) 37), (2, .own 37 (.cells [.nils, .int .i64 0]) 2), (4, .own 5 (.u8s (bentM x d.1)) cap3)] 5 [0, 1, 2, 4] ?_ ?_ ?_ ?_ ?_
    ·exact uSv0
    ·exact uSv0
    ·exact uSv0
    ·exact uSv0
    refine region_k g0_ok fun _ hK24 => ?_
    refine sS1 ?_
    refine sS fun _ hS => ?_; (repeat refine aI qSv0 ?_); apply hS; clear hS
    refine sS fun _ hS => ?_; (repeat refine aI qSv0 ?_); (first | apply hS | (refine whole_yes qSv0 ?_; apply hS) | (refine whole_sub ?_; apply hS)); clear hS
    refine sS1 ?_
    refine sS fun _ hS => ?_; (repeat refine aI qSv0 ?_); apply hS; clear hS
    refine s_stepA rfl (by decide) rfl fun _ hS => ?_
    repeat refine aI qSv0 ?_
    refine hS _ (.c (.int .i64 (min d.2 ((bentT x d.1 : Nat) : Int)))) _ _ (as_eq (by congr 2; split <;> omega)) ?_
    clear hS
    refine sS fun _ hS => ?_; (repeat refine aI qSv0 ?_); apply hS; clear hS
    refine sS0 fun _ hS => ?_; (repeat refine aI qSv0 ?_); (first | apply hS | (refine splice_full qSv0 ?_; apply hS)); clear hS; refine s_nil ?_; apply hK24; apply hK23
    rw [bentD_eq]
    refine WP_ret (Done_data g0_ok (fun _ _ h => h) (disk_low _) [4] [.cell 4 37] rfl ?_)
    repeat' (first | exact trivial | refine aI ?_ ?_ | exact cC0 | refine low_cons' ?_ ?_ | exact cC1 | fail)
    all_goals first | (rw [List.length_take]; omega) | exact sub_take (by omega) | (show 0 + _ * 1 ≤ List.length _; omega) | exact Nat.one_pos | skip
 ·clear hS
  try simp only [dQ] at hb3
  refine sN ?_; refine sN ?_; refine sN ?_; refine sN ?_; refine sN ?_
  refine sS1 ?_
  refine s_nil ?_; apply hK7; apply hK6
  refine WP_cond (b := _) rfl (fun h_t19 => ?_) (fun _ => ?_)
  ·exfalso; simp at h_t19
  refine WP_skip ?_; apply hK5; refine seq_k fun _ hK25 => ?_; refine seq_k fun _ hK26 => ?_
  refine leW [] id [(2, .c (.ptr 0 0)), (3, .c (.ptr 1 0)), (4, .c (.ptr 2 0)), (5, .c (.slice 4 0 d.1.length cap3))] [(0, .own 37 (.cells [.ds d.1.length (.u8s d.1), .int .i64 d.2]) 2), (1, .own 28 (logC x) 37), (2, .own 37 (.cells [.nils, .int .i64 0]) 2), (4, .own 5 (.u8s (bentM x d.1)) cap3)] 5 [0, 1, 2, 4] ?_ ?_ ?_ ?_ ?_
  ·exact uSv0
  ·exact uSv0
  ·exact uSv0
  ·exact uSv0
  refine region_k g0_ok fun _ hK27 => ?_
  refine sS fun _ hS => ?_; (repeat refine aI qSv0 ?_); apply hS; clear hS
  refine s_stepA rfl (by decide) rfl fun _ hS => ?_
  repeat refine aI qSv0 ?_
  first | refine hS _ (.c (.int .u16 (x.cut : Nat))) _ _ (log_getA hx 2 rfl rfl) ?_ | (refine whole_yes qSv0 ?_; refine hS _ (.c (.int .u16 (x.cut : Nat))) _ _ (log_getA hx 2 rfl rfl) ?_) | (refine whole_sub ?_; refine hS _ (.c (.int .u16 (x.cut : Nat))) _ _ (log_getA hx 2 rfl rfl) ?_)
  clear hS
  refine sS fun _ hS => ?_; (repeat refine aI qSv0 ?_); apply hS; clear hS
  refine sS fun _ hS => ?_; (repeat refine aI qSv0 ?_); apply hS; clear hS; refine s_nil ?_; apply hK27; apply hK26
  refine WP_cond (b := _) rfl (fun h_t36 => ?_) (fun h_t36 => ?_)
  ·try simp only [dQ] at h_t36
   obtain ⟨T0, hT0⟩ : ∃ t, t = x.cut / 2 % (d.1.length + 1) := ⟨_, rfl⟩
   have hT0l : T0 ≤ d.1.length := by have := Nat.mod_lt (x.cut / 2) (show 0 < d.1.length + 1 by omega); omega
   refine region_k g0_ok fun _ hK28 => ?_
   refine sS1 ?_
   refine sS fun _ hS => ?_; (repeat refine aI qSv0 ?_); apply hS; clear hS
   refine s_stepA rfl (by decide) rfl fun _ hS => ?_
   repeat refine aI qSv0 ?_
   first | refine hS _ (.c (.int .u16 (x.cut : Nat))) _ _ (log_getA hx 2 rfl rfl) ?_ | (refine whole_yes qSv0 ?_; refine hS _ (.c (.int .u16 (x.cut : Nat))) _ _ (log_getA hx 2 rfl rfl) ?_) | (refine whole_sub ?_; refine hS _ (.c (.int .u16 (x.cut : Nat))) _ _ (log_getA hx 2 rfl rfl) ?_)
   clear hS
   refine sS fun _ hS => ?_; (repeat refine aI qSv0 ?_); apply hS; clear hS
   refine sS fun _ hS => ?_; (repeat first | refine aI qSv0 ?_ | refine whole_yes qSv0 ?_ | refine whole_sub ?_); apply hS; clear hS
   refine sS1 ?_
   refine sS fun _ hS => ?_; (repeat refine aI qSv0 ?_); apply hS; clear hS
   refine sS fun _ hS => ?_; (repeat refine aI qSv0 ?_); apply hS; clear hS
   refine s_stepA rfl (by decide) rfl fun _ hS => ?_
   repeat refine aI qSv0 ?_
   refine hS _ (.c (.int .i64 (T0 : Nat))) _ _ (as_eq (congrArg (fun v => SV.c (.int .i64 v)) (by rw [hT0]; push_cast; rfl))) ?_
   clear hS
   refine sS fun _ hS => ?_; (repeat refine aI qSv0 ?_); (first | apply hS | (refine ite_yes qSv0 ?_; (repeat refine aI qSv0 ?_); apply hS)); clear hS
   refine sS1 ?_
   refine s_nil ?_; apply hK28; apply hK25; refine seq_k fun _ hK29 => ?_
   refine leW [] id [(2, .c (.ptr 0 0)), (3, .c (.ptr 1 0)), (4, .c (.ptr 2 0)), (5, .c (.slice 4 0 (bentT x d.1) cap3))] [(0, .own 37 (.cells [.ds d.1.length (.u8s d.1), .int .i64 d.2]) 2), (1, .own 28 (logC x) 37), (2, .own 37 (.cells [.nils, .int .i64 0]) 2), (4, .own 5 (.u8s (bentM x d.1)) cap3)] 5 [0, 1, 2, 4] ?_ ?_ ?_ ?_ ?_
   ·exact uSv0
   ·exact uSv0
   ·exact uSv0
   ·exact uSv0
   refine region_k g0_ok fun _ hK30 => ?_
   refine sS1 ?_
   refine sS fun _ hS => ?_; (repeat refine aI qSv0 ?_); apply hS; clear hS
   refine sS fun _ hS => ?_; (repeat refine aI qSv0 ?_); (first | apply hS | (refine whole_yes qSv0 ?_; apply hS) | (refine whole_sub ?_; apply hS)); clear hS
   refine sS1 ?_
   refine sS fun _ hS => ?_; (repeat refine aI qSv0 ?_); apply hS; clear hS
   refine s_stepA rfl (by decide) rfl fun _ hS => ?_
   repeat refine aI qSv0 ?_
   refine hS _ (.c (.int .i64 (min d.2 ((bentT x d.1 : Nat) : Int)))) _ _ (as_eq (by congr 2; split <;> omega)) ?_
   clear hS
   refine sS fun _ hS => ?_; (repeat refine aI qSv0 ?_); apply hS; clear hS
   refine sS0 fun _ hS => ?_; (repeat refine aI qSv0 ?_); (first | apply hS | (refine splice_full qSv0 ?_; apply hS)); clear hS; refine s_nil ?_; apply hK30; apply hK29
   rw [bentD_eq]
   refine WP_ret (Done_data g0_ok (fun _ _ h => h) (disk_low _) [4] [.cell 4 37] rfl ?_)
   repeat' (first | exact trivial | refine aI ?_ ?_ | exact cC0 | refine low_cons' ?_ ?_ | exact cC1 | fail)
   all_goals first | (rw [List.length_take]; omega) | exact sub_take (by omega) | (show 0 + _ * 1 ≤ List.length _; omega) | exact Nat.one_pos | skip
  ·try simp only [dQ] at h_t36
   refine WP_skip ?_; apply hK25; refine seq_k fun _ hK31 => ?_
   refine leW [] id [(2, .c (.ptr 0 0)), (3, .c (.ptr 1 0)), (4, .c (.ptr 2 0)), (5, .c (.slice 4 0 (bentT x d.1) cap3))] [(0, .own 37 (.cells [.ds d.1.length (.u8s d.1), .int .i64 d.2]) 2), (1, .own 28 (logC x) 37), (2, .own 37 (.cells [.nils, .int .i64 0]) 2), (4, .own 5 (.u8s (bentM x d.1)) cap3)] 5 [0, 1, 2, 4] ?_ ?_ ?_ ?_ ?_
   ·exact uSv0
   ·exact uSv0
   ·exact uSv0
   ·exact uSv0
   refine region_k g0_ok fun _ hK32 => ?_
   refine sS1 ?_
   refine sS fun _ hS => ?_; (repeat refine aI qSv0 ?_); apply hS; clear hS
   refine sS fun _ hS => ?_; (repeat refine aI qSv0 ?_); (first | apply hS | (refine whole_yes qSv0 ?_; apply hS) | (refine whole_sub ?_; apply hS)); clear hS
   refine sS1 ?_
   refine sS fun _ hS => ?_; (repeat refine aI qSv0 ?_); apply hS; clear hS
   refine s_stepA rfl (by decide) rfl fun _ hS => ?_
   repeat refine aI qSv0 ?_
   refine hS _ (.c (.int .i64 (min d.2 ((bentT x d.1 : Nat) : Int)))) _ _ (as_eq (by congr 2; split <;> omega)) ?_
   clear hS
   refine sS fun _ hS => ?_; (repeat refine aI qSv0 ?_); apply hS; clear hS
   refine sS0 fun _ hS => ?_; (repeat refine aI qSv0 ?_); (first | apply hS | (refine splice_full qSv0 ?_; apply hS)); clear hS; refine s_nil ?_; apply hK32; apply hK31
   rw [bentD_eq]
   refine WP_ret (Done_data g0_ok (fun _ _ h => h) (disk_low _) [4] [.cell 4 37] rfl ?_)
   repeat' (first | exact trivial | refine aI ?_ ?_ | exact cC0 | refine low_cons' ?_ ?_ | exact cC1 | fail)
   all_goals first | (rw [List.length_take]; omega) | exact sub_take (by omega) | (show 0 + _ * 1 ≤ List.length _; omega) | exact Nat.one_pos | skip


end Go.Proofs.YtnhmglhbhnhnhaaDoor

namespace Go.Proofs.YtnhmglhbhnhnhaaDoor
set_option linter.unusedVariables false
open Go.Ab Go.RowKit

open Go.Sto
def zs32 : List UInt8 := List.replicate 32 0
def key1 : List UInt8 := 1 :: List.replicate 31 0
def key2 : List UInt8 := 2 :: List.replicate 31 0
def rawA : Raw := ⟨1, [7], false⟩
def rawB : Raw := ⟨2, [8, 9], false⟩
def pA : Piece := madeP key1 rawA
def pB : Piece := madeP key1 rawB
def dA : List UInt8 := pA.rec'
def dB : List UInt8 := pA.rec' ++ pB.rec'
def dC : List UInt8 := dB.take 154
theorem cor_made {secret : List UInt8} {r : Raw} (h : r.bad = false) : corF secret (madeP secret r) = true := by
  rw [corF, decide_eq_true_eq, madeP]
  simp only [h, Bool.false_eq_true, if_false]
  rw [sealD]
theorem made_okP (secret : List UInt8) (r : Raw) : (madeP secret r).ok := ⟨(madeP_wf secret r).1, (madeP_wf secret r).2, by have := madeB_len r; show (madeB r).length ≤ 65536; omega⟩
theorem pA_ok : pA.ok := made_okP _ _
theorem pB_ok : pB.ok := made_okP _ _
theorem no_ok : noPiece.ok := ⟨rfl, rfl, Nat.zero_le _⟩
theorem ps_ok : ∀ s ∈ [pA, pB], s.ok := fun s hs => by
  rcases List.mem_cons.1 hs with rfl | hs
  · exact pA_ok
  · rw [List.mem_singleton.1 hs]; exact pB_ok
theorem recs_ps : recs [pA, pB] = dB := by rw [dB]; simp [recs]
theorem dA_len : dA.length = 77 := rec_length pA_ok
theorem dB_len : dB.length = 155 := by rw [dB, List.length_append, rec_length pA_ok, rec_length pB_ok]; rfl
theorem dC_len : dC.length = 154 := by rw [dC, List.length_take, dB_len]; rfl
theorem no_len : noPiece.rec'.length = 76 := rec_length no_ok
theorem dC_pieces : Go.Sto.pieces dC = [pA] := by
  rw [dC, ← recs_ps, cut_pieces ps_ok]
  rfl
theorem pieces_nil : Go.Sto.pieces [] = [] := rfl
theorem dA_pieces : Go.Sto.pieces dA = [pA] := by
  have := recs_pieces (ps := [pA]) (fun s hs => by rw [List.mem_singleton.1 hs]; exact pA_ok)
  rwa [show recs [pA] = dA by simp [recs, dA]] at this
theorem vld {l : List UInt8} {z : Int} (h : 0 ≤ z ∧ z ≤ l.length) : dvalid (l, z) = true := by simpa [dvalid] using h
theorem put_empty {s : Piece} (h : s.ok) (hb : s.b.length ≤ 50) : putL ([], 0) s = ((s.rec', 0), 0) := by
  rw [put_yes (vld (by simp)) (by omega) (by show ¬ total (Go.Sto.pieces []) < _; rw [pieces_nil]; decide) (by show ¬ 1048576 < total (Go.Sto.pieces []) + 76 + _; rw [pieces_nil]; simp [total]; omega)]
  rfl
theorem put_more {l : List UInt8} {z : Int} {s : Piece} (h : dvalid (l, z) = true) (e : total (Go.Sto.pieces l) = l.length) (h1 : s.b.length ≤ 65536) (h2 : l.length + 76 + s.b.length ≤ 1048576) : putL (l, z) s = ((l ++ s.rec', z), 0) := by
  rw [put_yes h (by omega) (by show ¬ total (Go.Sto.pieces l) < l.length; omega) (by show ¬ 1048576 < total (Go.Sto.pieces l) + 76 + s.b.length; omega)]
theorem pB_b : pB.b.length = 2 := rfl
theorem pA_key : pA.key = key1 := rfl
theorem f1 : putL ([], 0) noPiece = ((noPiece.rec', 0), 0) := put_empty no_ok (Nat.zero_le _)
theorem f2 : putL ([], 0) pA = ((dA, 0), 0) := put_empty pA_ok (by decide)
theorem f3 : syncL (dA, 0) = (dA, 77) := by rw [sync_yes (vld (by simp)), dA_len]; rfl
theorem f4 : putL (dA, 77) pB = ((dB, 77), 0) := by
  have e : total (Go.Sto.pieces dA) = 77 := by rw [dA_pieces]; rfl
  exact put_more (vld (by rw [dA_len]; decide)) (e.trans dA_len.symm) (by rw [pB_b]; decide) (by rw [dA_len, pB_b]; decide)
theorem f5 : crashL (dB, 77) 77 200 0 = (dC, 154) := by
  have k : keepN (dB, 77) 77 = 77 := by rw [keepN, dB_len]; rfl
  rw [crash_plain (vld (by rw [dB_len]; decide)) (by rw [k]; decide), k]
  show (dC, ((dC.length : Nat) : Int)) = _
  rw [dC_len]; rfl
theorem corA : corF key1 pA = true := cor_made rfl
theorem dC_valid : dvalid (dC, 154) = true := vld (by rw [dC_len]; decide)
theorem f6 : loadL (corF key1) (dC, 154) = (([pA], 77), 0) := by
  rw [load_yes dC_valid]
  show (((Go.Sto.pieces dC).filter _, total (Go.Sto.pieces dC)), 0) = _
  rw [dC_pieces, List.filter_cons, if_pos corA]
  rfl
theorem f7 : putL (dC, 154) pB = (([], 0), 290) := put_no3 dC_valid (by decide) (by show total (Go.Sto.pieces dC) < dC.length; rw [dC_pieces, dC_len]; decide)
theorem f8 (c : Piece → Bool) (k : List UInt8) : getL c ([], 0) k = (noPiece, 3) := by rw [get_def (vld (by simp))]; rfl
theorem bad2 : corF key2 pA = false := by decide +kernel
theorem bad0 : corF zs32 pA = false := by decide +kernel
theorem f9 : getL (corF key2) (dC, 154) key1 = (noPiece, 280) := by
  rw [get_def dC_valid]
  show getF _ _ (Go.Sto.pieces dC) = _
  rw [dC_pieces]
  rw [getF, List.foldl_cons, List.foldl_nil]
  rw [getStep, if_pos pA_key, bad2]
  simp
theorem f10 : putL ([], 1) pA = (([], 0), 1) := put_no1 (by decide)
theorem f11 : repairL (corF key1) (dC, 154) = (dC.take 77, 77) := by
  have e : repairN (corF key1) dC = 77 := by rw [repairN, dC_pieces, List.takeWhile_cons, if_pos corA]; rfl
  rw [repair_yes dC_valid e]; rfl
theorem f12 : repairL (corF zs32) (dC, 154) = ([], 0) := by
  have e : repairN (corF zs32) dC = 0 := by rw [repairN, dC_pieces, List.takeWhile_cons, bad0]; rfl
  rw [repair_yes dC_valid e]; rfl
theorem h1 : noPiece.rec'.take 8 = [0, 0, 0, 0, 33, 68, 223, 28] := by decide +kernel
theorem z0 : crcFold 4294967295 [0, 0, 0, 0] = 3736805603 := by decide +kernel
theorem z1 : crcFold 3736805603 [0, 0, 0, 0] = 2598183062 := by decide +kernel
theorem z2 : crcFold 2598183062 [0, 0, 0, 0] = 2217359760 := by decide +kernel
theorem z3 : crcFold 2217359760 [0, 0, 0, 0] = 323269802 := by decide +kernel
theorem z4 : crcFold 323269802 [0, 0, 0, 0] = 4029310066 := by decide +kernel
theorem z5 : crcFold 4029310066 [0, 0, 0, 0] = 1547580895 := by decide +kernel
theorem z6 : crcFold 1547580895 [0, 0, 0, 0] = 2140112918 := by decide +kernel
theorem z7 : crcFold 2140112918 [0, 0, 0, 0] = 3874859602 := by decide +kernel
theorem z8 : crcFold 3874859602 [0, 0, 0, 0] = 2504609066 := by decide +kernel
theorem z9 : crcFold 2504609066 [0, 0, 0, 0] = 370393678 := by decide +kernel
theorem z10 : crcFold 370393678 [0, 0, 0, 0] = 2094766563 := by decide +kernel
theorem z11 : crcFold 2094766563 [0, 0, 0, 0] = 225922154 := by decide +kernel
theorem z12 : crcFold 225922154 [0, 0, 0, 0] = 869593167 := by decide +kernel
theorem z13 : crcFold 869593167 [0, 0, 0, 0] = 741825206 := by decide +kernel
theorem z14 : crcFold 741825206 [0, 0, 0, 0] = 4226643703 := by decide +kernel
theorem z15 : crcFold 4226643703 [0, 0, 0, 0] = 2322767049 := by decide +kernel
theorem z_all : crcFold 4294967295 (List.replicate 64 0) = 2322767049 := by
  rw [show List.replicate 64 (0 : UInt8) = [0, 0, 0, 0] ++ [0, 0, 0, 0] ++ [0, 0, 0, 0] ++ [0, 0, 0, 0] ++ [0, 0, 0, 0] ++ [0, 0, 0, 0] ++ [0, 0, 0, 0] ++ [0, 0, 0, 0] ++ [0, 0, 0, 0] ++ [0, 0, 0, 0] ++ [0, 0, 0, 0] ++ [0, 0, 0, 0] ++ [0, 0, 0, 0] ++ [0, 0, 0, 0] ++ [0, 0, 0, 0] ++ [0, 0, 0, 0] from rfl]
  repeat rw [crcFold_app]
  rw [z0, z1, z2, z3, z4, z5, z6, z7, z8, z9, z10, z11, z12, z13, z14, z15]
theorem no_body : noPiece.body = List.replicate 64 0 := rfl
theorem h2 : noPiece.rec'.drop 72 = [117, 141, 99, 54] := by
  have e : noPiece.rec' = (headB noPiece.b.length ++ noPiece.body) ++ num4 (crcL noPiece.body).toNat := by rw [Piece.rec', List.append_assoc]
  rw [e, List.drop_left' (by rw [List.length_append, headB_length, no_body, List.length_replicate]), crcL, no_body, z_all]
  decide +kernel
theorem made_two : madeL key1 [rawA, rawB] = [pA, pB] := by rw [madeL, pA, pB]; simp

end Go.Proofs.YtnhmglhbhnhnhaaDoor

namespace Go.Proofs.YtnhmglhbhnhnhaaDoor
set_option linter.unusedVariables false
open Go.Ab Go.RowKit

theorem qSy0 {a : Prop} (h : a := by first | exact vcA | (simp [key1_len, key2_len, zs32_len, no_len, dA_len, dB_len, dC_len] <;> omega) | exact key1_len | exact key1_len.symm | exact key2_len | exact key2_len.symm | exact (pieceC_len no_wf).symm | exact (pieceC_len pA_wf).symm | exact pieceC_solid _ | (show _ < (pcl [pA, pB]).length; rw [pcl_len ps_wf]; decide) | (show _ ≤ (pcl [pA, pB]).length; rw [pcl_len ps_wf]; decide) | (show (pcl [pA, pB]).length = _; rw [pcl_len ps_wf]; first | done | rfl) | (show _ ≤ ((noPiece.rec'.length : Nat) : Int); rw [no_len]; decide) | (show (pieceC noPiece).len = _; rw [pieceC_len no_wf]) | exact vcB) : a := h
theorem uSy0 {a : Prop} (h : a := by
    repeat' (first | exact trivial | refine aI ?_ ?_ | exact cC0 | refine low_cons' ?_ ?_ | exact cC1 | fail)
    all_goals first | omega | exact pcl_isD _ | (show (0 : Nat) < List.length _; rw [key1_len]; decide) | exact key1_low | (simp; done) | skip) : a := h

open Go.Sto
theorem ids_arr (l : List UInt8) : SV.ids (.agg (.u8s l)) = [] := rfl
theorem pA_b : pA.b.length = 1 := rfl
theorem no_wf : Piece.wf noPiece := Piece.ok.wf no_ok
theorem pA_wf : Piece.wf pA := Piece.ok.wf pA_ok
theorem pB_wf : Piece.wf pB := Piece.ok.wf pB_ok
theorem ps_wf : allWf [pA, pB] := fun s hs => Piece.ok.wf (ps_ok s hs)
theorem key1_as : SV.as (.agg (.u8s ((List.replicate 32 0).set 0 (UInt8.ofNat (Int.toNat 1))))) (.agg (.u8s key1)) := as_eq rfl
theorem key2_as : SV.as (.agg (.u8s ((List.replicate 32 0).set 0 (UInt8.ofNat (Int.toNat 2))))) (.agg (.u8s key2)) := as_eq rfl
theorem key1_len : key1.length = 32 := rfl
theorem key2_len : key2.length = 32 := rfl
theorem zs32_len : zs32.length = 32 := rfl
theorem zs32_as : SV.as (.agg (.u8s (List.replicate 32 0))) (.agg (.u8s zs32)) := as_eq rfl
theorem disk1_as : SV.as (.agg (.cells [.nils, .int .i64 1])) (diskV ([], 1)) := as_mid (A := []) (B := [.int .i64 1]) Cell.as_nil
theorem pA1_wf : allWf [pA] := fun s hs => by rw [List.mem_singleton.1 hs]; exact pA_wf
theorem pA1_b : ∀ s ∈ [pA], s.b.length ≤ 9223372036854775807 := fun s hs => by rw [List.mem_singleton.1 hs, pA_b]; decide
theorem key1_low {n : Nat} : (Cont.u8s key1).low n := trivial
attribute [local irreducible] key1 key2 zs32 pA pB dA dB dC madeL
noncomputable def gz1 : Ctx := { P := Tryd.prog, ty := ty, glob := gl, fs := [(32, .data newS), (14, .data putS), (13, .data madeS), (23, .data syncS), (25, .data crashS), (18, .data loadS), (16, .data getS), (27, .data repairS), (22, .flat samePiecesS)] }
theorem gz1_ok : gz1.OK := ⟨tyOK, ⟨⟨enters_mk Tryd.func32 (by kernel_rfl) rfl, new_ok⟩, ⟨enters_mk Tryd.func14 (by kernel_rfl) rfl, put_ok⟩, ⟨enters_mk Tryd.func13 (by kernel_rfl) rfl, made_ok⟩, ⟨enters_mk Tryd.func23 (by kernel_rfl) rfl, sync_ok⟩, ⟨enters_mk Tryd.func25 (by kernel_rfl) rfl, crash_ok⟩, ⟨enters_mk Tryd.func18 (by kernel_rfl) rfl, load_ok⟩, ⟨enters_mk Tryd.func16 (by kernel_rfl) rfl, get_ok⟩, ⟨enters_mk Tryd.func27 (by kernel_rfl) rfl, repair_ok⟩, ⟨enters_mk Tryd.func22 (by kernel_rfl) rfl, samePieces_ok⟩, trivial⟩, mixed⟩
@[simp] theorem gz1_ty : gz1.ty = ty := rfl

def sanityS : QSpec := fun vs K => vs = [] ∧ K (.c (.bool true))
set_option maxHeartbeats 4000000 in
theorem sanity_ok : FlatOK Tryd.prog gl 10 sanityS := by
 refine flat_of (Γ := gz1) (N := 185) Tryd.func10 rfl rfl fun vs K h => ?_
 obtain ⟨rfl, h⟩ := h
 refine ⟨_, h, rfl, by simp, fun w I => ?_⟩
 refine seq_k fun _ hK1 => ?_; refine region_k gz1_ok fun _ hK2 => ?_
 refine sS1 ?_
 refine s_nil ?_; apply hK2; apply hK1; refine seq_k fun _ hK3 => ?_; refine region_k gz1_ok fun _ hK4 => ?_
 refine sS fun _ hS => ?_; (repeat first | refine aI qSy0 ?_ | refine whole_yes qSy0 ?_ | refine whole_sub ?_); (first | apply hS | (intro cap0 hcap0; apply hS)); clear hS
 refine s_stepA rfl (by decide) rfl fun _ hS => ?_
 repeat refine aI qSy0 ?_
 refine hS _ (pieceV noPiece) _ _ (zero_as) ?_
 clear hS
 refine sS fun _ hS => ?_; (repeat first | refine aI qSy0 ?_ | refine whole_yes qSy0 ?_ | refine whole_sub ?_); refine aI (piece_noclo _) ?_; refine viewL_flat (piece_flat _) ?_; refine ⟨([], 0), noPiece, rfl, ⟨⟨by decide, by decide, by decide⟩, no_wf, Nat.zero_le _⟩, ?_⟩; rw [putV_eq f1]; simp only [List.flatMap_cons, List.flatMap_nil, ids_piece, ids_disk, List.append_nil, Heap.delAll]; (repeat refine aI qSy0 ?_); (first | apply hS | (intro cap2 hcap2; apply hS)); clear hS
 refine sS1 ?_
 refine sS fun _ hS => ?_; (repeat refine aI qSy0 ?_); apply hS; clear hS
 refine sS fun _ hS => ?_; (repeat refine aI qSy0 ?_); apply hS; clear hS
 refine sS fun _ hS => ?_; (repeat refine aI qSy0 ?_); apply hS; clear hS
 refine sS0 fun _ hS => ?_; (repeat refine aI qSy0 ?_); (first | apply hS | (refine splice_full qSy0 ?_; apply hS)); clear hS
 refine sS1 ?_
 refine s_nil ?_; apply hK4; apply hK3; refine seq_k fun _ hK5 => ?_; refine seq_k fun _ hK6 => ?_
 refine leW [0] id [(1, .c (.dp (.cells [.ds noPiece.rec'.length (.u8s noPiece.rec'), .int .i64 0]) 0)), (2, .c (.int .i64 0))] [] 0 [] ?_ ?_ ?_ ?_ ?_
 ·exact uSy0
 ·exact uSy0
 ·exact uSy0
 ·exact uSy0
 refine region_k gz1_ok fun _ hK7 => ?_
 refine sS fun _ hS => ?_; (repeat refine aI qSy0 ?_); apply hS; clear hS
 refine sS fun _ hS => ?_; (repeat refine aI qSy0 ?_); (first | apply hS | (refine whole_yes qSy0 ?_; apply hS) | (refine whole_sub ?_; apply hS)); clear hS
 refine sS fun _ hS => ?_; (repeat refine aI qSy0 ?_); apply hS; clear hS
 refine sS fun _ hS => ?_; (repeat refine aI qSy0 ?_); apply hS; clear hS; refine s_nil ?_; apply hK7; apply hK6
 refine WP_cond (b := _) rfl (fun h_t31 => ?_) (fun _ => ?_)
 ·exfalso; simp [no_len] at h_t31
 refine WP_skip ?_; apply hK5; refine seq_k fun _ hK8 => ?_; refine region_k gz1_ok fun _ hK9 => ?_
 refine s_stepA rfl (by decide) rfl fun _ hS => ?_
 repeat refine aI qSy0 ?_
 refine hS _ (.agg (.u8s key1)) _ _ (key1_as) ?_
 clear hS
 refine sS fun _ hS => ?_; (repeat refine aI qSy0 ?_); apply hS; clear hS
 refine sS0 fun _ hS => ?_; (repeat refine aI qSy0 ?_); (first | apply hS | (refine splice_full qSy0 ?_; apply hS)); clear hS; refine s_nil ?_; apply hK9; apply hK8; refine seq_k fun _ hK10 => ?_
 refine region_c gz1_ok [5, 1] fun _ hK11 => ?_
 simp only [wpC, List.take_succ_cons, List.take_zero, List.drop_succ_cons, List.drop_zero]
 refine sS fun _ hS => ?_; (repeat refine aI qSy0 ?_); apply hS; clear hS
 refine sS fun _ hS => ?_; (repeat refine aI qSy0 ?_); apply hS; clear hS
 refine sS fun _ hS => ?_; (repeat refine aI qSy0 ?_); apply hS; clear hS
 refine sS fun _ hS => ?_; (repeat refine aI qSy0 ?_); apply hS; clear hS
 refine sS fun _ hS => ?_; (repeat refine aI qSy0 ?_); apply hS; clear hS; refine s_nil ?_
 refine c_le (is := [1, 2]) (ρ := id) (E' := [(1, .c (.dp (.cells [.ds noPiece.rec'.length (.u8s noPiece.rec'), .int .i64 0]) 0)), (2, .c (.int .i64 0)), (3, .c (.ptr 0 0)), (37, .c (.slice 3 0 2 2))]) (H' := [(0, .own 24 (.u8s key1) 32), (3, .own 33 (.cells (rowsOf rawC [rawA, rawB])) 6)]) (n' := 4) ⟨?_, ?_, (by decide : List.Nodup ([0, 3] : List Nat)), ?_, ?_, ?_⟩ ?_
 ·exact uSy0
 ·exact uSy0
 ·exact uSy0
 ·exact uSy0
 ·exact ⟨Nat.zero_le _, fun i hi => absurd hi (Nat.not_lt_zero i)⟩
 refine sS fun _ hS => ?_; (repeat refine aI qSy0 ?_); (first | apply hS | (refine whole_yes qSy0 ?_; apply hS) | (refine whole_sub ?_; apply hS)); clear hS; refine s_nil ?_
 refine c_le (is := [0, 3]) (ρ := id) (E' := [(1, .c (.dp (.cells [.ds noPiece.rec'.length (.u8s noPiece.rec'), .int .i64 0]) 0)), (2, .c (.int .i64 0)), (3, .c (.dp (.u8s key1) 0)), (37, rawsV [rawA, rawB]), (38, .agg (.u8s key1))]) (H' := []) (n' := 0) ⟨?_, ?_, (by decide : List.Nodup ([] : List Nat)), ?_, ?_, ?_⟩ ?_
 ·exact uSy0
 ·exact uSy0
 ·exact uSy0
 ·exact uSy0
 ·exact ⟨Nat.zero_le _, fun i hi => absurd hi (Nat.not_lt_zero i)⟩
 refine sS fun _ hS => ?_; (repeat first | refine aI qSy0 ?_ | refine whole_yes qSy0 ?_ | refine whole_sub ?_); refine ⟨[rawA, rawB], key1, rfl, ⟨by decide, key1_len, by decide⟩, ?_⟩; rw [made_two]; (repeat refine aI qSy0 ?_); (first | apply hS | (intro cap6 hcap6; apply hS)); clear hS
 refine sS1 ?_
 refine s_nil ?_; apply hK11; apply hK10
 refine WP_cut (α := Unit) (fun _ => [(1, .c (.dp (.cells [.ds noPiece.rec'.length (.u8s noPiece.rec'), .int .i64 0]) 0)), (2, .c (.int .i64 0)), (3, .c (.dp (.u8s key1) 0)), (4, psV [pA, pB]), (6, .c (.int .i64 0)), (5, .c (.dp (.cells [.ds dA.length (.u8s dA), .int .i64 0]) 0))]) (fun _ => []) 0 (fun _ => True) ?_ ?_
 ·skip
  refine tree_k gz1_ok ?_
  refine WB_run gz1_ok (g := 8) (by kernel_rfl) [(1, true), (2, true), (3, true)] (by kernel_rfl) fun _ hK13 => ?_
  refine dD1 ?_
  refine dR fun _ hS => ?_; (repeat refine aI qSy0 ?_); apply hS; clear hS
  refine d_readA rfl rfl (by decide) rfl fun _ hS => ?_
  repeat refine aI qSy0 ?_
  first | refine hS _ (pieceV pA) (pcl_sub ps_wf (i := 0) rfl) ?_ | (refine whole_yes qSy0 ?_; refine hS _ (pieceV pA) (pcl_sub ps_wf (i := 0) rfl) ?_) | (refine whole_sub ?_; refine hS _ (pieceV pA) (pcl_sub ps_wf (i := 0) rfl) ?_)
  clear hS; refine d_nil ?_; apply hK13
  refine WB_all [0, 8] (by kernel_rfl) (by decide) (List.forall_mem_cons.2 ⟨?_, List.forall_mem_cons.2 ⟨?_, fun _ h => by cases h⟩⟩)
  ·refine WB_force gz1_ok rfl rfl (by decide) rfl fun _ hS => ?_
   repeat first | refine aI qSy0 ?_ | refine whole_yes qSy0 ?_ | refine whole_sub ?_
   first | apply hS | (intro cap0 hcap0; apply hS)
   clear hS
   refine WB_all [4, 8] (by kernel_rfl) (by decide) (List.forall_mem_cons.2 ⟨?_, List.forall_mem_cons.2 ⟨?_, fun _ h => by cases h⟩⟩)
   ·refine WB_force gz1_ok rfl rfl (by decide) rfl fun _ hS => ?_
    repeat first | refine aI qSy0 ?_ | refine whole_yes qSy0 ?_ | refine whole_sub ?_
    refine aI (piece_noclo _) ?_
    refine viewL_flat (piece_flat _) ?_
    refine ⟨([], 0), pA, rfl, ⟨⟨by decide, by decide, by decide⟩, pA_wf, by rw [pA_b]; decide⟩, ?_⟩
    rw [putV_eq f2]
    simp only [List.flatMap_cons, List.flatMap_nil, ids_piece, ids_disk, ids_arr, List.append_nil, Heap.delAll]
    repeat refine aI qSy0 ?_
    first | apply hS | (intro cap4 hcap4; apply hS)
    clear hS
    refine WB_run gz1_ok (g := 0) (by kernel_rfl) [(5, true), (6, true), (7, true), (8, false), (9, false), (10, true)] (by kernel_rfl) fun _ hK14 => ?_
    refine dD1 ?_
    refine dR fun _ hS => ?_; (repeat refine aI qSy0 ?_); apply hS; clear hS
    refine dR fun _ hS => ?_; (repeat refine aI qSy0 ?_); apply hS; clear hS
    refine dG fun _ hS => ?_; (repeat refine aI qSy0 ?_); apply hS; clear hS
    refine d_grow0 rfl rfl rfl fun _ hS => ?_
    repeat refine aI qSy0 ?_
    first | apply hS | (refine splice_full qSy0 ?_; apply hS)
    clear hS
    refine dD1 ?_
    refine d_nil ?_; apply hK14
    refine WB_done (by kernel_rfl) ?_
    refine dnS [0] id () trivial [] ?_ ?_ ?_ ?_
    ·exact uSy0
    ·exact uSy0
    ·exact uSy0
    ·exact uSy0
   ·refine WB_force gz1_ok rfl rfl (by decide) rfl fun _ hS => ?_
    repeat refine aI qSy0 ?_
    apply hS
    clear hS
    refine WB_run gz1_ok (g := 0) (by kernel_rfl) [(4, false), (5, true), (6, true), (7, true), (9, false), (10, true)] (by kernel_rfl) fun _ hK15 => ?_
    refine dG fun _ hS => ?_; (repeat first | refine aI qSy0 ?_ | refine whole_yes qSy0 ?_ | refine whole_sub ?_); refine aI (piece_noclo _) ?_; refine viewL_flat (piece_flat _) ?_; refine ⟨([], 0), pA, rfl, ⟨⟨by decide, by decide, by decide⟩, pA_wf, by rw [pA_b]; decide⟩, ?_⟩; rw [putV_eq f2]; simp only [List.flatMap_cons, List.flatMap_nil, ids_piece, ids_disk, ids_arr, List.append_nil, Heap.delAll]; (repeat refine aI qSy0 ?_); (first | apply hS | (intro cap4 hcap4; apply hS)); clear hS
    refine dD1 ?_
    refine dR fun _ hS => ?_; (repeat refine aI qSy0 ?_); apply hS; clear hS
    refine dR fun _ hS => ?_; (repeat refine aI qSy0 ?_); apply hS; clear hS
    refine d_grow0 rfl rfl rfl fun _ hS => ?_
    repeat refine aI qSy0 ?_
    first | apply hS | (refine splice_full qSy0 ?_; apply hS)
    clear hS
    refine dD1 ?_
    refine d_nil ?_; apply hK15
    refine WB_done (by kernel_rfl) ?_
    refine dnS [0] id () trivial [] ?_ ?_ ?_ ?_
    ·exact uSy0
    ·exact uSy0
    ·exact uSy0
    ·exact uSy0
  ·refine WB_force gz1_ok rfl rfl (by decide) rfl fun _ hS => ?_
   repeat refine aI qSy0 ?_
   apply hS
   clear hS
   refine WB_run gz1_ok (g := 0) (by kernel_rfl) [(0, false), (4, false), (5, true), (6, true), (7, true), (9, false), (10, true)] (by kernel_rfl) fun _ hK16 => ?_
   refine dG fun _ hS => ?_; (repeat first | refine aI qSy0 ?_ | refine whole_yes qSy0 ?_ | refine whole_sub ?_); (first | apply hS | (intro cap0 hcap0; apply hS)); clear hS
   refine dG fun _ hS => ?_; (repeat first | refine aI qSy0 ?_ | refine whole_yes qSy0 ?_ | refine whole_sub ?_); refine aI (piece_noclo _) ?_; refine viewL_flat (piece_flat _) ?_; refine ⟨([], 0), pA, rfl, ⟨⟨by decide, by decide, by decide⟩, pA_wf, by rw [pA_b]; decide⟩, ?_⟩; rw [putV_eq f2]; simp only [List.flatMap_cons, List.flatMap_nil, ids_piece, ids_disk, ids_arr, List.append_nil, Heap.delAll]; (repeat refine aI qSy0 ?_); (first | apply hS | (intro cap4 hcap4; apply hS)); clear hS
   refine dD1 ?_
   refine dR fun _ hS => ?_; (repeat refine aI qSy0 ?_); apply hS; clear hS
   refine dR fun _ hS => ?_; (repeat refine aI qSy0 ?_); apply hS; clear hS
   refine d_grow0 rfl rfl rfl fun _ hS => ?_
   repeat refine aI qSy0 ?_
   first | apply hS | (refine splice_full qSy0 ?_; apply hS)
   clear hS
   refine dD1 ?_
   refine d_nil ?_; apply hK16
   refine WB_done (by kernel_rfl) ?_
   refine dnS [0] id () trivial [] ?_ ?_ ?_ ?_
   ·exact uSy0
   ·exact uSy0
   ·exact uSy0
   ·exact uSy0
 ·intro _ _
  refine WP_cut (α := Unit) (fun _ => [(1, .c (.dp (.cells [.ds noPiece.rec'.length (.u8s noPiece.rec'), .int .i64 0]) 0)), (2, .c (.int .i64 0)), (3, .c (.dp (.u8s key1) 0)), (4, psV [pA, pB]), (6, .c (.int .i64 0)), (7, .c (.dp (.cells [.ds dB.length (.u8s dB), .int .i64 77]) 0)), (8, .c (.int .i64 0))]) (fun _ => []) 0 (fun _ => True) ?_ ?_
  ·skip
   refine tree_k gz1_ok ?_
   refine WB_run gz1_ok (g := 8) (by kernel_rfl) [(0, true), (2, true), (3, true), (4, true)] (by kernel_rfl) fun _ hK18 => ?_
   refine dR fun _ hS => ?_; (repeat refine aI qSy0 ?_); (first | apply hS | (refine whole_yes qSy0 ?_; apply hS) | (refine whole_sub ?_; apply hS)); clear hS
   refine dD1 ?_
   refine dR fun _ hS => ?_; (repeat refine aI qSy0 ?_); apply hS; clear hS
   refine d_readA rfl rfl (by decide) rfl fun _ hS => ?_
   repeat refine aI qSy0 ?_
   first | refine hS _ (pieceV pB) (pcl_sub ps_wf (i := 1) rfl) ?_ | (refine whole_yes qSy0 ?_; refine hS _ (pieceV pB) (pcl_sub ps_wf (i := 1) rfl) ?_) | (refine whole_sub ?_; refine hS _ (pieceV pB) (pcl_sub ps_wf (i := 1) rfl) ?_)
   clear hS; refine d_nil ?_; apply hK18
   refine WB_all [1, 9] (by kernel_rfl) (by decide) (List.forall_mem_cons.2 ⟨?_, List.forall_mem_cons.2 ⟨?_, fun _ h => by cases h⟩⟩)
   ·refine WB_force gz1_ok rfl rfl (by decide) rfl fun _ hS => ?_
    repeat first | refine aI qSy0 ?_ | refine whole_yes qSy0 ?_ | refine whole_sub ?_
    refine ⟨(dA, 0), rfl, ⟨by show dA.length ≤ _; rw [dA_len]; decide, by decide, by decide⟩, ?_⟩
    rw [f3]
    repeat refine aI qSy0 ?_
    first | apply hS | (intro cap1 hcap1; apply hS)
    clear hS
    refine WB_all [5, 9] (by kernel_rfl) (by decide) (List.forall_mem_cons.2 ⟨?_, List.forall_mem_cons.2 ⟨?_, fun _ h => by cases h⟩⟩)
    ·refine WB_force gz1_ok rfl rfl (by decide) rfl fun _ hS => ?_
     repeat first | refine aI qSy0 ?_ | refine whole_yes qSy0 ?_ | refine whole_sub ?_
     refine aI (piece_noclo _) ?_
     refine viewL_flat (piece_flat _) ?_
     refine ⟨(dA, 77), pB, rfl, ⟨⟨by show dA.length ≤ _; rw [dA_len]; decide, by decide, by decide⟩, pB_wf, by rw [pB_b]; decide⟩, ?_⟩
     rw [putV_eq f4]
     simp only [List.flatMap_cons, List.flatMap_nil, ids_piece, ids_disk, List.append_nil, Heap.delAll]
     repeat refine aI qSy0 ?_
     first | apply hS | (intro cap5 hcap5; apply hS)
     clear hS
     refine WB_run gz1_ok (g := 0) (by kernel_rfl) [(6, true), (7, true), (8, true), (9, false), (10, false), (11, true)] (by kernel_rfl) fun _ hK19 => ?_
     refine dD1 ?_
     refine dR fun _ hS => ?_; (repeat refine aI qSy0 ?_); apply hS; clear hS
     refine dR fun _ hS => ?_; (repeat refine aI qSy0 ?_); apply hS; clear hS
     refine dG fun _ hS => ?_; (repeat refine aI qSy0 ?_); apply hS; clear hS
     refine d_grow0 rfl rfl rfl fun _ hS => ?_
     repeat refine aI qSy0 ?_
     first | apply hS | (refine splice_full qSy0 ?_; apply hS)
     clear hS
     refine dD1 ?_
     refine d_nil ?_; apply hK19
     refine WB_done (by kernel_rfl) ?_
     refine dnS [0] id () trivial [] ?_ ?_ ?_ ?_
     ·exact uSy0
     ·exact uSy0
     ·exact uSy0
     ·exact uSy0
    ·refine WB_force gz1_ok rfl rfl (by decide) rfl fun _ hS => ?_
     repeat refine aI qSy0 ?_
     apply hS
     clear hS
     refine WB_run gz1_ok (g := 0) (by kernel_rfl) [(5, false), (6, true), (7, true), (8, true), (10, false), (11, true)] (by kernel_rfl) fun _ hK20 => ?_
     refine dG fun _ hS => ?_; (repeat first | refine aI qSy0 ?_ | refine whole_yes qSy0 ?_ | refine whole_sub ?_); refine aI (piece_noclo _) ?_; refine viewL_flat (piece_flat _) ?_; refine ⟨(dA, 77), pB, rfl, ⟨⟨by show dA.length ≤ _; rw [dA_len]; decide, by decide, by decide⟩, pB_wf, by rw [pB_b]; decide⟩, ?_⟩; rw [putV_eq f4]; simp only [List.flatMap_cons, List.flatMap_nil, ids_piece, ids_disk, List.append_nil, Heap.delAll]; (repeat refine aI qSy0 ?_); (first | apply hS | (intro cap5 hcap5; apply hS)); clear hS
     refine dD1 ?_
     refine dR fun _ hS => ?_; (repeat refine aI qSy0 ?_); apply hS; clear hS
     refine dR fun _ hS => ?_; (repeat refine aI qSy0 ?_); apply hS; clear hS
     refine d_grow0 rfl rfl rfl fun _ hS => ?_
     repeat refine aI qSy0 ?_
     first | apply hS | (refine splice_full qSy0 ?_; apply hS)
     clear hS
     refine dD1 ?_
     refine d_nil ?_; apply hK20
     refine WB_done (by kernel_rfl) ?_
     refine dnS [0] id () trivial [] ?_ ?_ ?_ ?_
     ·exact uSy0
     ·exact uSy0
     ·exact uSy0
     ·exact uSy0
   ·refine WB_force gz1_ok rfl rfl (by decide) rfl fun _ hS => ?_
    repeat refine aI qSy0 ?_
    apply hS
    clear hS
    refine WB_run gz1_ok (g := 0) (by kernel_rfl) [(1, false), (5, false), (6, true), (7, true), (8, true), (10, false), (11, true)] (by kernel_rfl) fun _ hK21 => ?_
    refine dG fun _ hS => ?_; (repeat first | refine aI qSy0 ?_ | refine whole_yes qSy0 ?_ | refine whole_sub ?_); refine ⟨(dA, 0), rfl, ⟨by show dA.length ≤ _; rw [dA_len]; decide, by decide, by decide⟩, ?_⟩; rw [f3]; (repeat refine aI qSy0 ?_); (first | apply hS | (intro cap1 hcap1; apply hS)); clear hS
    refine dG fun _ hS => ?_; (repeat first | refine aI qSy0 ?_ | refine whole_yes qSy0 ?_ | refine whole_sub ?_); refine aI (piece_noclo _) ?_; refine viewL_flat (piece_flat _) ?_; refine ⟨(dA, 77), pB, rfl, ⟨⟨by show dA.length ≤ _; rw [dA_len]; decide, by decide, by decide⟩, pB_wf, by rw [pB_b]; decide⟩, ?_⟩; rw [putV_eq f4]; simp only [List.flatMap_cons, List.flatMap_nil, ids_piece, ids_disk, List.append_nil, Heap.delAll]; (repeat refine aI qSy0 ?_); (first | apply hS | (intro cap5 hcap5; apply hS)); clear hS
    refine dD1 ?_
    refine dR fun _ hS => ?_; (repeat refine aI qSy0 ?_); apply hS; clear hS
    refine dR fun _ hS => ?_; (repeat refine aI qSy0 ?_); apply hS; clear hS
    refine d_grow0 rfl rfl rfl fun _ hS => ?_
    repeat refine aI qSy0 ?_
    first | apply hS | (refine splice_full qSy0 ?_; apply hS)
    clear hS
    refine dD1 ?_
    refine d_nil ?_; apply hK21
    refine WB_done (by kernel_rfl) ?_
    refine dnS [0] id () trivial [] ?_ ?_ ?_ ?_
    ·exact uSy0
    ·exact uSy0
    ·exact uSy0
    ·exact uSy0
  ·intro _ _
   refine seq_k fun _ hK22 => ?_; refine region_k gz1_ok fun _ hK23 => ?_
   refine sS fun _ hS => ?_; (repeat refine aI qSy0 ?_); (first | apply hS | (refine whole_yes qSy0 ?_; apply hS) | (refine whole_sub ?_; apply hS)); clear hS
   refine s_stepA rfl (by decide) rfl fun _ hS => ?_
   repeat refine aI qSy0 ?_
   refine hS _ (crV 77 200 0) _ _ (as_eq rfl) ?_
   clear hS
   refine sS fun _ hS => ?_; (repeat first | refine aI qSy0 ?_ | refine whole_yes qSy0 ?_ | refine whole_sub ?_); refine ⟨(dB, 77), 77, 200, 0, rfl, ⟨⟨by show dB.length ≤ _; rw [dB_len]; decide, by decide, by decide⟩, by decide, by decide, by decide, by decide⟩, ?_⟩; rw [f5]; (repeat refine aI qSy0 ?_); (first | apply hS | (intro cap2 hcap2; apply hS)); clear hS
   refine sS fun _ hS => ?_; (repeat refine aI qSy0 ?_); apply hS; clear hS
   refine sS0 fun _ hS => ?_; (repeat refine aI qSy0 ?_); (first | apply hS | (refine splice_full qSy0 ?_; apply hS)); clear hS; refine s_nil ?_; apply hK23; apply hK22; refine seq_k fun _ hK24 => ?_
   refine leW [0] id [(1, .c (.dp (.cells [.ds noPiece.rec'.length (.u8s noPiece.rec'), .int .i64 0]) 0)), (2, .c (.int .i64 0)), (3, .c (.dp (.u8s key1) 0)), (4, psV [pA, pB]), (6, .c (.int .i64 0)), (7, .c (.dp (.cells [.ds dB.length (.u8s dB), .int .i64 77]) 0)), (8, .c (.int .i64 0)), (9, .c (.dp (.cells [.ds dC.length (.u8s dC), .int .i64 154]) 0))] [] 0 [] ?_ ?_ ?_ ?_ ?_
   ·exact uSy0
   ·exact uSy0
   ·exact uSy0
   ·exact uSy0
   refine region_k gz1_ok fun _ hK25 => ?_
   refine sS fun _ hS => ?_; (repeat refine aI qSy0 ?_); (first | apply hS | (refine whole_yes qSy0 ?_; apply hS) | (refine whole_sub ?_; apply hS)); clear hS
   refine sS fun _ hS => ?_; (repeat refine aI qSy0 ?_); (first | apply hS | (refine whole_yes qSy0 ?_; apply hS) | (refine whole_sub ?_; apply hS)); clear hS
   refine sS fun _ hS => ?_; (repeat first | refine aI qSy0 ?_ | refine whole_yes qSy0 ?_ | refine whole_sub ?_); refine ⟨(dC, 154), key1, rfl, ⟨⟨by show dC.length ≤ _; rw [dC_len]; decide, by decide, by decide⟩, key1_len⟩, ?_⟩; rw [loadV_eq f6]; (repeat refine aI qSy0 ?_); (first | apply hS | (intro cap2 hcap2; apply hS)); clear hS
   refine sS1 ?_
   refine sS fun _ hS => ?_; (repeat refine aI qSy0 ?_); apply hS; clear hS
   refine sS fun _ hS => ?_; (repeat refine aI qSy0 ?_); apply hS; clear hS
   refine sS fun _ hS => ?_; (repeat refine aI qSy0 ?_); apply hS; clear hS
   iterate 3 refine sS1 ?_
   refine s_nil ?_; apply hK25; apply hK24
   refine WP_cut (α := Unit) (fun _ => [(1, .c (.dp (.cells [.ds noPiece.rec'.length (.u8s noPiece.rec'), .int .i64 0]) 0)), (2, .c (.int .i64 0)), (3, .c (.dp (.u8s key1) 0)), (4, psV [pA, pB]), (6, .c (.int .i64 0)), (7, .c (.dp (.cells [.ds dB.length (.u8s dB), .int .i64 77]) 0)), (8, .c (.int .i64 0)), (9, .c (.dp (.cells [.ds dC.length (.u8s dC), .int .i64 154]) 0)), (10, psV [pA]), (11, .c (.int .i64 77)), (12, .c (.int .i64 0)), (14, .c (.int .i64 290))]) (fun _ => []) 0 (fun _ => True) ?_ ?_
   ·skip
    refine tree_k gz1_ok ?_
    refine WB_run gz1_ok (g := 7) (by kernel_rfl) [(0, true), (1, true), (2, true), (3, true)] (by kernel_rfl) fun _ hK27 => ?_
    refine dR fun _ hS => ?_; (repeat refine aI qSy0 ?_); (first | apply hS | (refine whole_yes qSy0 ?_; apply hS) | (refine whole_sub ?_; apply hS)); clear hS
    refine dD1 ?_
    refine dR fun _ hS => ?_; (repeat refine aI qSy0 ?_); apply hS; clear hS
    refine d_readA rfl rfl (by decide) rfl fun _ hS => ?_
    repeat refine aI qSy0 ?_
    first | refine hS _ (pieceV pB) (pcl_sub ps_wf (i := 1) rfl) ?_ | (refine whole_yes qSy0 ?_; refine hS _ (pieceV pB) (pcl_sub ps_wf (i := 1) rfl) ?_) | (refine whole_sub ?_; refine hS _ (pieceV pB) (pcl_sub ps_wf (i := 1) rfl) ?_)
    clear hS; refine d_nil ?_; apply hK27
    refine WB_all [4, 8] (by kernel_rfl) (by decide) (List.forall_mem_cons.2 ⟨?_, List.forall_mem_cons.2 ⟨?_, fun _ h => by cases h⟩⟩)
    ·refine WB_force gz1_ok rfl rfl (by decide) rfl fun _ hS => ?_
     repeat first | refine aI qSy0 ?_ | refine whole_yes qSy0 ?_ | refine whole_sub ?_
     refine aI (piece_noclo _) ?_
     refine viewL_flat (piece_flat _) ?_
     refine ⟨(dC, 154), pB, rfl, ⟨⟨by show dC.length ≤ _; rw [dC_len]; decide, by decide, by decide⟩, pB_wf, by rw [pB_b]; decide⟩, ?_⟩
     rw [putV_eq f7]
     simp only [List.flatMap_cons, List.flatMap_nil, ids_piece, ids_disk, ids_arr, List.append_nil, Heap.delAll]
     repeat refine aI qSy0 ?_
     first | apply hS | (intro cap4 hcap4; apply hS)
     clear hS
     refine WB_run gz1_ok (g := 0) (by kernel_rfl) [(5, true), (6, true), (7, true), (8, false), (9, false), (10, true)] (by kernel_rfl) fun _ hK28 => ?_
     refine dD1 ?_
     refine dR fun _ hS => ?_; (repeat refine aI qSy0 ?_); apply hS; clear hS
     refine dR fun _ hS => ?_; (repeat refine aI qSy0 ?_); apply hS; clear hS
     refine dG fun _ hS => ?_; (repeat refine aI qSy0 ?_); apply hS; clear hS
     refine d_grow0 rfl rfl rfl fun _ hS => ?_
     repeat refine aI qSy0 ?_
     first | apply hS | (refine splice_full qSy0 ?_; apply hS)
     clear hS
     refine dD1 ?_
     refine d_nil ?_; apply hK28
     refine WB_done (by kernel_rfl) ?_
     refine dnS [0] id () trivial [] ?_ ?_ ?_ ?_
     ·exact uSy0
     ·exact uSy0
     ·exact uSy0
     ·exact uSy0
    ·refine WB_force gz1_ok rfl rfl (by decide) rfl fun _ hS => ?_
     repeat refine aI qSy0 ?_
     apply hS
     clear hS
     refine WB_run gz1_ok (g := 0) (by kernel_rfl) [(4, false), (5, true), (6, true), (7, true), (9, false), (10, true)] (by kernel_rfl) fun _ hK29 => ?_
     refine dG fun _ hS => ?_; (repeat first | refine aI qSy0 ?_ | refine whole_yes qSy0 ?_ | refine whole_sub ?_); refine aI (piece_noclo _) ?_; refine viewL_flat (piece_flat _) ?_; refine ⟨(dC, 154), pB, rfl, ⟨⟨by show dC.length ≤ _; rw [dC_len]; decide, by decide, by decide⟩, pB_wf, by rw [pB_b]; decide⟩, ?_⟩; rw [putV_eq f7]; simp only [List.flatMap_cons, List.flatMap_nil, ids_piece, ids_disk, ids_arr, List.append_nil, Heap.delAll]; (repeat refine aI qSy0 ?_); (first | apply hS | (intro cap4 hcap4; apply hS)); clear hS
     refine dD1 ?_
     refine dR fun _ hS => ?_; (repeat refine aI qSy0 ?_); apply hS; clear hS
     refine dR fun _ hS => ?_; (repeat refine aI qSy0 ?_); apply hS; clear hS
     refine d_grow0 rfl rfl rfl fun _ hS => ?_
     repeat refine aI qSy0 ?_
     first | apply hS | (refine splice_full qSy0 ?_; apply hS)
     clear hS
     refine dD1 ?_
     refine d_nil ?_; apply hK29
     refine WB_done (by kernel_rfl) ?_
     refine dnS [0] id () trivial [] ?_ ?_ ?_ ?_
     ·exact uSy0
     ·exact uSy0
     ·exact uSy0
     ·exact uSy0
   ·intro _ _
    refine WP_cut (α := Unit) (fun _ => [(1, .c (.dp (.cells [.ds noPiece.rec'.length (.u8s noPiece.rec'), .int .i64 0]) 0)), (2, .c (.int .i64 0)), (3, .c (.dp (.u8s key1) 0)), (4, psV [pA, pB]), (6, .c (.int .i64 0)), (7, .c (.dp (.cells [.ds dB.length (.u8s dB), .int .i64 77]) 0)), (8, .c (.int .i64 0)), (9, .c (.dp (.cells [.ds dC.length (.u8s dC), .int .i64 154]) 0)), (10, psV [pA]), (11, .c (.int .i64 77)), (12, .c (.int .i64 0)), (14, .c (.int .i64 290)), (16, .c (.int .i64 3))]) (fun _ => []) 0 (fun _ => True) ?_ ?_
    ·skip
     refine tree_k gz1_ok ?_
     refine WB_run gz1_ok (g := 8) (by kernel_rfl) [(1, true), (2, true)] (by kernel_rfl) fun _ hK31 => ?_
     refine d_readA rfl rfl (by decide) rfl fun _ hS => ?_
     repeat refine aI qSy0 ?_
     refine hS _ (.agg (.u8s zs32)) (zs32_as) ?_
     clear hS
     refine dR fun _ hS => ?_; (repeat refine aI qSy0 ?_); (first | apply hS | (refine whole_yes qSy0 ?_; apply hS) | (refine whole_sub ?_; apply hS)); clear hS; refine d_nil ?_; apply hK31
     refine WB_all [0, 7] (by kernel_rfl) (by decide) (List.forall_mem_cons.2 ⟨?_, List.forall_mem_cons.2 ⟨?_, fun _ h => by cases h⟩⟩)
     ·refine WB_force gz1_ok rfl rfl (by decide) rfl fun _ hS => ?_
      repeat first | refine aI qSy0 ?_ | refine whole_yes qSy0 ?_ | refine whole_sub ?_
      first | apply hS | (intro cap0 hcap0; apply hS)
      clear hS
      refine WB_all [3, 7] (by kernel_rfl) (by decide) (List.forall_mem_cons.2 ⟨?_, List.forall_mem_cons.2 ⟨?_, fun _ h => by cases h⟩⟩)
      ·refine WB_force gz1_ok rfl rfl (by decide) rfl fun _ hS => ?_
       repeat first | refine aI qSy0 ?_ | refine whole_yes qSy0 ?_ | refine whole_sub ?_
       refine ⟨([], 0), zs32, key1, rfl, ⟨⟨by decide, by decide, by decide⟩, zs32_len, key1_len⟩, ?_⟩
       rw [getV_eq (f8 _ _)]
       simp only [List.flatMap_cons, List.flatMap_nil, ids_disk, ids_arr, List.append_nil, Heap.delAll]
       repeat refine aI qSy0 ?_
       first | apply hS | (intro cap3 hcap3; apply hS)
       clear hS
       refine WB_run gz1_ok (g := 0) (by kernel_rfl) [(4, true), (5, true), (6, true), (7, false), (8, false), (9, true)] (by kernel_rfl) fun _ hK32 => ?_
       refine dD1 ?_
       refine dR fun _ hS => ?_; (repeat refine aI qSy0 ?_); apply hS; clear hS
       refine dR fun _ hS => ?_; (repeat refine aI qSy0 ?_); apply hS; clear hS
       refine dG fun _ hS => ?_; (repeat refine aI qSy0 ?_); apply hS; clear hS
       refine d_grow0 rfl rfl rfl fun _ hS => ?_
       repeat refine aI qSy0 ?_
       first | apply hS | (refine splice_full qSy0 ?_; apply hS)
       clear hS
       refine dD1 ?_
       refine d_nil ?_; apply hK32
       refine WB_done (by kernel_rfl) ?_
       refine dnS [0] id () trivial [] ?_ ?_ ?_ ?_
       ·exact uSy0
       ·exact uSy0
       ·exact uSy0
       ·exact uSy0
      ·refine WB_force gz1_ok rfl rfl (by decide) rfl fun _ hS => ?_
       repeat refine aI qSy0 ?_
       apply hS
       clear hS
       refine WB_run gz1_ok (g := 0) (by kernel_rfl) [(3, false), (4, true), (5, true), (6, true), (8, false), (9, true)] (by kernel_rfl) fun _ hK33 => ?_
       refine dG fun _ hS => ?_; (repeat first | refine aI qSy0 ?_ | refine whole_yes qSy0 ?_ | refine whole_sub ?_); refine ⟨([], 0), zs32, key1, rfl, ⟨⟨by decide, by decide, by decide⟩, zs32_len, key1_len⟩, ?_⟩; rw [getV_eq (f8 _ _)]; simp only [List.flatMap_cons, List.flatMap_nil, ids_disk, ids_arr, List.append_nil, Heap.delAll]; (repeat refine aI qSy0 ?_); (first | apply hS | (intro cap3 hcap3; apply hS)); clear hS
       refine dD1 ?_
       refine dR fun _ hS => ?_; (repeat refine aI qSy0 ?_); apply hS; clear hS
       refine dR fun _ hS => ?_; (repeat refine aI qSy0 ?_); apply hS; clear hS
       refine d_grow0 rfl rfl rfl fun _ hS => ?_
       repeat refine aI qSy0 ?_
       first | apply hS | (refine splice_full qSy0 ?_; apply hS)
       clear hS
       refine dD1 ?_
       refine d_nil ?_; apply hK33
       refine WB_done (by kernel_rfl) ?_
       refine dnS [0] id () trivial [] ?_ ?_ ?_ ?_
       ·exact uSy0
       ·exact uSy0
       ·exact uSy0
       ·exact uSy0
     ·refine WB_force gz1_ok rfl rfl (by decide) rfl fun _ hS => ?_
      repeat refine aI qSy0 ?_
      apply hS
      clear hS
      refine WB_run gz1_ok (g := 0) (by kernel_rfl) [(0, false), (3, false), (4, true), (5, true), (6, true), (8, false), (9, true)] (by kernel_rfl) fun _ hK34 => ?_
      refine dG fun _ hS => ?_; (repeat first | refine aI qSy0 ?_ | refine whole_yes qSy0 ?_ | refine whole_sub ?_); (first | apply hS | (intro cap0 hcap0; apply hS)); clear hS
      refine dG fun _ hS => ?_; (repeat first | refine aI qSy0 ?_ | refine whole_yes qSy0 ?_ | refine whole_sub ?_); refine ⟨([], 0), zs32, key1, rfl, ⟨⟨by decide, by decide, by decide⟩, zs32_len, key1_len⟩, ?_⟩; rw [getV_eq (f8 _ _)]; simp only [List.flatMap_cons, List.flatMap_nil, ids_disk, ids_arr, List.append_nil, Heap.delAll]; (repeat refine aI qSy0 ?_); (first | apply hS | (intro cap3 hcap3; apply hS)); clear hS
      refine dD1 ?_
      refine dR fun _ hS => ?_; (repeat refine aI qSy0 ?_); apply hS; clear hS
      refine dR fun _ hS => ?_; (repeat refine aI qSy0 ?_); apply hS; clear hS
      refine d_grow0 rfl rfl rfl fun _ hS => ?_
      repeat refine aI qSy0 ?_
      first | apply hS | (refine splice_full qSy0 ?_; apply hS)
      clear hS
      refine dD1 ?_
      refine d_nil ?_; apply hK34
      refine WB_done (by kernel_rfl) ?_
      refine dnS [0] id () trivial [] ?_ ?_ ?_ ?_
      ·exact uSy0
      ·exact uSy0
      ·exact uSy0
      ·exact uSy0
    ·intro _ _
     refine seq_k fun _ hK35 => ?_; refine region_k gz1_ok fun _ hK36 => ?_
     refine sS fun _ hS => ?_; (repeat refine aI qSy0 ?_); (first | apply hS | (refine whole_yes qSy0 ?_; apply hS) | (refine whole_sub ?_; apply hS)); clear hS
     refine s_stepA rfl (by decide) rfl fun _ hS => ?_
     repeat refine aI qSy0 ?_
     refine hS _ (.agg (.u8s key1)) _ _ (key1_as) ?_
     clear hS
     refine s_stepA rfl (by decide) rfl fun _ hS => ?_
     repeat refine aI qSy0 ?_
     refine hS _ (.agg (.u8s key2)) _ _ (key2_as) ?_
     clear hS
     refine sS fun _ hS => ?_; (repeat first | refine aI qSy0 ?_ | refine whole_yes qSy0 ?_ | refine whole_sub ?_); refine ⟨(dC, 154), key1, key2, rfl, ⟨⟨by show dC.length ≤ _; rw [dC_len]; decide, by decide, by decide⟩, key1_len, key2_len⟩, ?_⟩; rw [getV_eq f9]; simp only [List.flatMap_cons, List.flatMap_nil, ids_disk, ids_arr, List.append_nil, Heap.delAll]; (repeat refine aI qSy0 ?_); (first | apply hS | (intro cap3 hcap3; apply hS)); clear hS
     refine sS1 ?_
     refine sS fun _ hS => ?_; (repeat refine aI qSy0 ?_); apply hS; clear hS
     refine sS fun _ hS => ?_; (repeat refine aI qSy0 ?_); apply hS; clear hS
     refine sS fun _ hS => ?_; (repeat refine aI qSy0 ?_); apply hS; clear hS
     refine sS0 fun _ hS => ?_; (repeat refine aI qSy0 ?_); (first | apply hS | (refine splice_full qSy0 ?_; apply hS)); clear hS
     refine sS1 ?_
     refine s_nil ?_; apply hK36; apply hK35; refine seq_k fun _ hK37 => ?_
     refine leW [0] id [(1, .c (.dp (.cells [.ds noPiece.rec'.length (.u8s noPiece.rec'), .int .i64 0]) 0)), (2, .c (.int .i64 0)), (3, .c (.dp (.u8s key1) 0)), (4, psV [pA, pB]), (6, .c (.int .i64 0)), (7, .c (.dp (.cells [.ds dB.length (.u8s dB), .int .i64 77]) 0)), (8, .c (.int .i64 0)), (9, .c (.dp (.cells [.ds dC.length (.u8s dC), .int .i64 154]) 0)), (10, psV [pA]), (11, .c (.int .i64 77)), (12, .c (.int .i64 0)), (14, .c (.int .i64 290)), (16, .c (.int .i64 3)), (18, .c (.int .i64 280))] [] 0 [] ?_ ?_ ?_ ?_ ?_
     ·exact uSy0
     ·exact uSy0
     ·exact uSy0
     ·exact uSy0
     refine region_k gz1_ok fun _ hK38 => ?_
     refine s_stepA rfl (by decide) rfl fun _ hS => ?_
     repeat refine aI qSy0 ?_
     refine hS _ (diskV ([], 1)) _ _ (disk1_as) ?_
     clear hS
     refine sS1 ?_
     refine sS fun _ hS => ?_; (repeat refine aI qSy0 ?_); apply hS; clear hS
     refine s_stepA rfl (by decide) rfl fun _ hS => ?_
     repeat refine aI qSy0 ?_
     first | refine hS _ (pieceV pA) _ _ (pcl_sub ps_wf (i := 0) rfl) ?_ | (refine whole_yes qSy0 ?_; refine hS _ (pieceV pA) _ _ (pcl_sub ps_wf (i := 0) rfl) ?_) | (refine whole_sub ?_; refine hS _ (pieceV pA) _ _ (pcl_sub ps_wf (i := 0) rfl) ?_)
     clear hS
     refine sS fun _ hS => ?_; (repeat first | refine aI qSy0 ?_ | refine whole_yes qSy0 ?_ | refine whole_sub ?_); refine aI (piece_noclo _) ?_; refine viewL_flat (piece_flat _) ?_; refine ⟨([], 1), pA, rfl, ⟨⟨by decide, by decide, by decide⟩, pA_wf, by rw [pA_b]; decide⟩, ?_⟩; rw [putV_eq f10]; simp only [List.flatMap_cons, List.flatMap_nil, ids_piece, ids_disk, List.append_nil, Heap.delAll]; (repeat refine aI qSy0 ?_); (first | apply hS | (intro cap4 hcap4; apply hS)); clear hS
     refine sS1 ?_
     refine sS fun _ hS => ?_; (repeat refine aI qSy0 ?_); apply hS; clear hS
     refine sS fun _ hS => ?_; (repeat refine aI qSy0 ?_); apply hS; clear hS
     refine sS fun _ hS => ?_; (repeat refine aI qSy0 ?_); apply hS; clear hS
     refine sS0 fun _ hS => ?_; (repeat refine aI qSy0 ?_); (first | apply hS | (refine splice_full qSy0 ?_; apply hS)); clear hS
     refine sS1 ?_
     refine s_nil ?_; apply hK38; apply hK37; refine seq_k fun _ hK39 => ?_
     refine leW [0] id [(1, .c (.dp (.cells [.ds noPiece.rec'.length (.u8s noPiece.rec'), .int .i64 0]) 0)), (2, .c (.int .i64 0)), (3, .c (.dp (.u8s key1) 0)), (4, psV [pA, pB]), (6, .c (.int .i64 0)), (7, .c (.dp (.cells [.ds dB.length (.u8s dB), .int .i64 77]) 0)), (8, .c (.int .i64 0)), (9, .c (.dp (.cells [.ds dC.length (.u8s dC), .int .i64 154]) 0)), (10, psV [pA]), (11, .c (.int .i64 77)), (12, .c (.int .i64 0)), (14, .c (.int .i64 290)), (16, .c (.int .i64 3)), (18, .c (.int .i64 280)), (20, .c (.int .i64 1))] [] 0 [] ?_ ?_ ?_ ?_ ?_
     ·exact uSy0
     ·exact uSy0
     ·exact uSy0
     ·exact uSy0
     refine region_k gz1_ok fun _ hK40 => ?_
     refine sS fun _ hS => ?_; (repeat refine aI qSy0 ?_); apply hS; clear hS
     refine sS fun _ hS => ?_; (repeat refine aI qSy0 ?_); (first | apply hS | (refine whole_yes qSy0 ?_; apply hS) | (refine whole_sub ?_; apply hS)); clear hS
     refine sS fun _ hS => ?_; (repeat refine aI qSy0 ?_); (first | apply hS | (refine ite_yes qSy0 ?_; (repeat refine aI qSy0 ?_); apply hS)); clear hS
     refine sS fun _ hS => ?_; (repeat first | refine aI qSy0 ?_ | refine whole_yes qSy0 ?_ | refine whole_sub ?_); apply hS; clear hS
     refine sS fun _ hS => ?_; (repeat refine aI qSy0 ?_); apply hS; clear hS
     refine sS fun _ hS => ?_
     refine s_split hS (fun hb5 => ?_) (fun hb5 => ?_)
     rotate_left 1
     ·exfalso; exact of_decide_eq_false hb5 h1
     clear hS
     refine sT fun _ hS => ?_; (repeat refine aI qSy0 ?_); apply hS; clear hS
     refine sT fun _ hS => ?_; (repeat refine aI qSy0 ?_); (first | apply hS | (refine whole_yes qSy0 ?_; apply hS) | (refine whole_sub ?_; apply hS)); clear hS
     refine sT fun _ hS => ?_; (repeat refine aI qSy0 ?_); (first | apply hS | (refine ite_yes qSy0 ?_; (repeat refine aI qSy0 ?_); apply hS)); clear hS
     refine sT fun _ hS => ?_; (repeat first | refine aI qSy0 ?_ | refine whole_yes qSy0 ?_ | refine whole_sub ?_); apply hS; clear hS
     refine sT fun _ hS => ?_; (repeat refine aI qSy0 ?_); apply hS; clear hS
     iterate 2 refine sS1 ?_
     refine s_nil ?_; apply hK40; apply hK39; refine seq_k fun _ hK41 => ?_; refine region_k gz1_ok fun _ hK42 => ?_
     refine sS1 ?_
     refine sS fun _ hS => ?_; (repeat refine aI qSy0 ?_); apply hS; clear hS
     refine sS fun _ hS => ?_
     refine s_split hS (fun hb2 => ?_) (fun hb2 => ?_)
     rotate_left 1
     ·exfalso; first | (simp at hb2; done) | exact absurd hb2 (by decide) | (simp [dA_len, dB_len, dC_len, no_len] at hb2; done) | (simp at hb2; exact hb2 h1)
     clear hS
     refine sT fun _ hS => ?_; apply hS; clear hS
     refine sS1 ?_
     refine sS fun _ hS => ?_
     refine s_split hS (fun hb5 => ?_) (fun hb5 => ?_)
     rotate_left 1
     ·exfalso; (simp only [if_true] at hb5; exact of_decide_eq_false hb5 h2)
     clear hS
     refine sT fun _ hS => ?_; apply hS; clear hS
     refine sT fun _ hS => ?_; (repeat refine aI qSy0 ?_); apply hS; clear hS
     refine sS1 ?_
     refine sS fun _ hS => ?_
     refine s_split hS (fun hb9 => ?_) (fun hb9 => ?_)
     rotate_left 1
     ·exfalso; first | (simp at hb9; done) | exact absurd hb9 (by decide) | (simp [dA_len, dB_len, dC_len, no_len] at hb9; done) | (simp at hb9; exact hb9 h1)
     clear hS
     refine sT fun _ hS => ?_; apply hS; clear hS
     refine sT fun _ hS => ?_; (repeat refine aI qSy0 ?_); apply hS; clear hS
     refine sS1 ?_
     refine sS fun _ hS => ?_
     refine s_split hS (fun hb13 => ?_) (fun hb13 => ?_)
     rotate_left 1
     ·exfalso; first | (simp at hb13; done) | exact absurd hb13 (by decide) | (simp [dA_len, dB_len, dC_len, no_len] at hb13; done) | (simp at hb13; exact hb13 h1)
     clear hS
     refine sT fun _ hS => ?_; (repeat refine aI qSy0 ?_); apply hS; clear hS
     refine sT fun _ hS => ?_; (repeat refine aI qSy0 ?_); (first | apply hS | (refine whole_yes qSy0 ?_; apply hS) | (refine whole_sub ?_; apply hS)); clear hS
     refine sT fun _ hS => ?_; (repeat refine aI qSy0 ?_); apply hS; clear hS
     refine sT fun _ hS => ?_; (repeat refine aI qSy0 ?_); apply hS; clear hS
     refine sS1 ?_
     refine sS fun _ hS => ?_
     refine s_split hS (fun hb19 => ?_) (fun hb19 => ?_)
     rotate_left 1
     ·exfalso; first | (simp at hb19; done) | exact absurd hb19 (by decide) | (simp [dB_len] at hb19; done) | (simp at hb19; exact hb19 h1)
     clear hS
     refine sT fun _ hS => ?_; (repeat refine aI qSy0 ?_); apply hS; clear hS
     refine sT fun _ hS => ?_; (repeat refine aI qSy0 ?_); (first | apply hS | (refine whole_yes qSy0 ?_; apply hS) | (refine whole_sub ?_; apply hS)); clear hS
     refine sT fun _ hS => ?_; (repeat refine aI qSy0 ?_); apply hS; clear hS
     refine sS1 ?_
     refine sS fun _ hS => ?_
     refine s_split hS (fun hb24 => ?_) (fun hb24 => ?_)
     rotate_left 1
     ·exfalso; first | (simp at hb24; done) | exact absurd hb24 (by decide) | (simp [dA_len, dB_len, dC_len, no_len] at hb24; done) | (simp at hb24; exact hb24 h1)
     clear hS
     refine sT fun _ hS => ?_; (repeat refine aI qSy0 ?_); apply hS; clear hS
     refine sT fun _ hS => ?_; (repeat refine aI qSy0 ?_); (first | apply hS | (refine whole_yes qSy0 ?_; apply hS) | (refine whole_sub ?_; apply hS)); clear hS
     refine sT fun _ hS => ?_; (repeat refine aI qSy0 ?_); apply hS; clear hS
     refine sT fun _ hS => ?_; (repeat refine aI qSy0 ?_); apply hS; clear hS
     refine sS1 ?_
     refine sS fun _ hS => ?_
     refine s_split hS (fun hb30 => ?_) (fun hb30 => ?_)
     rotate_left 1
     ·exfalso; first | (simp at hb30; done) | exact absurd hb30 (by decide) | (simp [dC_len] at hb30; done) | (simp at hb30; exact hb30 h1)
     clear hS
     refine sT fun _ hS => ?_; apply hS; clear hS
     refine sT fun _ hS => ?_; (repeat refine aI qSy0 ?_); apply hS; clear hS
     refine sS1 ?_
     refine sS fun _ hS => ?_
     refine s_split hS (fun hb34 => ?_) (fun hb34 => ?_)
     rotate_left 1
     ·exfalso; first | (simp at hb34; done) | exact absurd hb34 (by decide) | (simp [dA_len, dB_len, dC_len, no_len] at hb34; done) | (simp at hb34; exact hb34 h1)
     clear hS
     refine sT fun _ hS => ?_; apply hS; clear hS
     refine sT fun _ hS => ?_; (repeat refine aI qSy0 ?_); apply hS; clear hS
     refine sS1 ?_
     refine sS fun _ hS => ?_
     refine s_split hS (fun hb38 => ?_) (fun hb38 => ?_)
     rotate_left 1
     ·exfalso; first | (simp at hb38; done) | exact absurd hb38 (by decide) | (simp [dA_len, dB_len, dC_len, no_len] at hb38; done) | (simp at hb38; exact hb38 h1)
     clear hS
     refine sT fun _ hS => ?_; apply hS; clear hS
     refine sT fun _ hS => ?_; apply hS; clear hS
     refine s_guardA (b := true) rfl (by decide) rfl rfl (fun _ _ hS => ?_) (fun e => absurd e (by decide))
     repeat refine aI qSy0 ?_
     first | refine hS _ (psV [pA]) _ _ (psTake_as ps_wf (n := 1) (by decide)) ?_ | (refine ite_yes qSy0 ?_; (repeat refine aI qSy0 ?_); refine hS _ (psV [pA]) _ _ (psTake_as ps_wf (n := 1) (by decide)) ?_)
     clear hS
     refine sT fun _ hS => ?_; (repeat first | refine aI qSy0 ?_ | refine whole_yes qSy0 ?_ | refine whole_sub ?_); refine ⟨[pA], [pA], rfl, ⟨pA1_wf, pA1_wf, by decide, by decide, pA1_b, pA1_b⟩, ?_⟩; rw [decide_eq_true (rfl : [pA] = [pA])]; (repeat refine aI qSy0 ?_); (first | apply hS | (intro cap42 hcap42; apply hS)); clear hS
     refine sS1 ?_
     refine sS fun _ hS => ?_
     refine s_split hS (fun hb44 => ?_) (fun hb44 => ?_)
     rotate_left 1
     ·exfalso; first | (simp at hb44; done) | exact absurd hb44 (by decide) | (simp [dA_len, dB_len, dC_len, no_len] at hb44; done) | (simp at hb44; exact hb44 h1)
     clear hS
     refine sT fun _ hS => ?_; apply hS; clear hS
     refine sT fun _ hS => ?_; (repeat refine aI qSy0 ?_); apply hS; clear hS
     refine sS1 ?_
     refine sS fun _ hS => ?_
     refine s_split hS (fun hb48 => ?_) (fun hb48 => ?_)
     rotate_left 1
     ·exfalso; first | (simp at hb48; done) | exact absurd hb48 (by decide) | (simp [dA_len, dB_len, dC_len, no_len] at hb48; done) | (simp at hb48; exact hb48 h1)
     clear hS
     refine sT fun _ hS => ?_; (repeat refine aI qSy0 ?_); (first | apply hS | (refine whole_yes qSy0 ?_; apply hS) | (refine whole_sub ?_; apply hS)); clear hS
     refine sT fun _ hS => ?_; (repeat refine aI qSy0 ?_); (first | apply hS | (refine whole_yes qSy0 ?_; apply hS) | (refine whole_sub ?_; apply hS)); clear hS
     refine sT fun _ hS => ?_; (repeat first | refine aI qSy0 ?_ | refine whole_yes qSy0 ?_ | refine whole_sub ?_); refine ⟨(dC, 154), key1, rfl, ⟨⟨by show dC.length ≤ _; rw [dC_len]; decide, by decide, by decide⟩, key1_len⟩, ?_⟩; rw [f11]; (repeat refine aI qSy0 ?_); (first | apply hS | (intro cap51 hcap51; apply hS)); clear hS
     refine sT fun _ hS => ?_; (repeat refine aI qSy0 ?_); apply hS; clear hS
     refine sT fun _ hS => ?_; (repeat refine aI qSy0 ?_); apply hS; clear hS
     refine sT fun _ hS => ?_; (repeat refine aI qSy0 ?_); apply hS; clear hS
     refine sS1 ?_
     refine sS fun _ hS => ?_
     refine s_split hS (fun hb56 => ?_) (fun hb56 => ?_)
     rotate_left 1
     ·exfalso; first | (simp at hb56; done) | exact absurd hb56 (by decide) | (simp [dC_len] at hb56; done) | (simp at hb56; exact hb56 h1)
     clear hS
     refine sT fun _ hS => ?_; (repeat refine aI qSy0 ?_); (first | apply hS | (refine whole_yes qSy0 ?_; apply hS) | (refine whole_sub ?_; apply hS)); clear hS
     refine s_guardA (b := true) rfl (by decide) rfl rfl (fun _ _ hS => ?_) (fun e => absurd e (by decide))
     repeat refine aI qSy0 ?_
     refine hS _ (.agg (.u8s zs32)) _ _ (zs32_as) ?_
     clear hS
     refine sT fun _ hS => ?_; (repeat first | refine aI qSy0 ?_ | refine whole_yes qSy0 ?_ | refine whole_sub ?_); refine ⟨(dC, 154), zs32, rfl, ⟨⟨by show dC.length ≤ _; rw [dC_len]; decide, by decide, by decide⟩, zs32_len⟩, ?_⟩; rw [f12]; (repeat refine aI qSy0 ?_); (first | apply hS | (intro cap59 hcap59; apply hS)); clear hS
     refine sT fun _ hS => ?_; (repeat refine aI qSy0 ?_); apply hS; clear hS
     refine sT fun _ hS => ?_; (repeat refine aI qSy0 ?_); apply hS; clear hS
     refine sT fun _ hS => ?_; (repeat refine aI qSy0 ?_); apply hS; clear hS
     refine sS1 ?_
     refine sS fun _ hS => ?_
     refine s_split hS (fun hb64 => ?_) (fun hb64 => ?_)
     rotate_left 1
     ·exfalso; first | (simp at hb64; done) | exact absurd hb64 (by decide) | (simp [dA_len, dB_len, dC_len, no_len] at hb64; done) | (simp at hb64; exact hb64 h1)
     clear hS
     refine sT fun _ hS => ?_; apply hS; clear hS
     refine sT fun _ hS => ?_; (repeat refine aI qSy0 ?_); apply hS; clear hS
     refine sS1 ?_
     refine sS fun _ hS => ?_
     refine s_split hS (fun hb68 => ?_) (fun hb68 => ?_)
     rotate_left 1
     ·exfalso; first | (simp at hb68; done) | exact absurd hb68 (by decide) | (simp [dA_len, dB_len, dC_len, no_len] at hb68; done) | (simp at hb68; exact hb68 h1)
     clear hS
     refine sT fun _ hS => ?_; apply hS; clear hS
     refine sT fun _ hS => ?_; (repeat refine aI qSy0 ?_); apply hS; clear hS
     refine sS1 ?_
     refine sS fun _ hS => ?_
     refine s_split hS (fun hb72 => ?_) (fun hb72 => ?_)
     rotate_left 1
     ·exfalso; first | (simp at hb72; done) | exact absurd hb72 (by decide) | (simp [dA_len, dB_len, dC_len, no_len] at hb72; done) | (simp at hb72; exact hb72 h1)
     clear hS
     refine sT fun _ hS => ?_; apply hS; clear hS
     refine sT fun _ hS => ?_; (repeat refine aI qSy0 ?_); apply hS; clear hS
     iterate 2 refine sS1 ?_
     refine s_nil ?_; apply hK42; apply hK41
     refine WP_ret (Done_flat gz1_ok (fun _ _ h => h) (by first | rfl | assumption) [.tmp 0] rfl ?_)
     repeat refine aI (by first | omega | exact trivial | rfl | (simp <;> omega)) ?_
     try refine ite_yes (by first | omega | exact trivial | rfl | (simp <;> omega)) ?_
     show _ = _
     rfl


end Go.Proofs.YtnhmglhbhnhnhaaDoor

namespace Go.Proofs.YtnhmglhbhnhnhaaDoor
set_option linter.unusedVariables false
open Go.Ab Go.RowKit

open Go.Sto
theorem ids_log (x : Log) : SV.ids (.agg (.cells (logL x))) = [] := ids_plain (log_plain x)
theorem made_one (secret : List UInt8) (r : Raw) : madeL secret [r] = [madeP secret r] := rfl
theorem logD_eq (x : Log) : logD x = (recs (logPs x), ((durN (logPs x) x.synced ((logPs x).length + 1) : Nat) : Int)) := by
  rw [logD, fillD, List.take_of_length_le (Nat.le_succ _)]
theorem logPs_ok (x : Log) : ∀ s ∈ logPs x, s.ok := by rw [logPs_eq]; exact madeL_ok x.secret x.l
theorem logPs_small (x : Log) : ∀ s ∈ logPs x, s.b.length ≤ 50 := by rw [logPs_eq]; exact madeL_small x.secret x.l
theorem logPs_len (x : Log) : (logPs x).length ≤ 6 := by rw [logPs_eq, madeL_len]; omega
theorem logD_len (x : Log) : (logD x).1.length ≤ 756 := by
  have := fill_len (i := (logPs x).length + 1) (logPs_ok x) (logPs_small x) (logPs_len x)
  rw [logD]; exact this
theorem logD_dur (x : Log) : 0 ≤ (logD x).2 ∧ (logD x).2 ≤ ((logD x).1.length : Nat) := by
  have := dur_le (s := x.synced) (i := (logPs x).length + 1) (logPs_ok x)
  rw [logD]
  exact ⟨Int.natCast_nonneg _, Int.ofNat_le.2 this⟩
theorem logD_ok (x : Log) : dok (logD x) := by
  have h1 := logD_len x
  have h2 := logD_dur x
  exact ⟨by omega, by omega, by omega⟩
theorem bentD_ok (x : Log) (d : Disk) (h : dok d) (h0 : 0 ≤ d.2) : dok (bentD d x) := by
  have h1 := bentB_len x d.1
  have h2 := bentT_le x d.1
  refine ⟨?_, ?_, ?_⟩
  · show (bentB x d.1).length ≤ 900000
    have := h.1; omega
  · show _ ≤ min d.2 (((bentB x d.1).length : Nat) : Int)
    omega
  · show min d.2 (((bentB x d.1).length : Nat) : Int) ≤ _
    have := h.2.2; omega
theorem getF_ok {cor : Piece → Bool} {key : List UInt8} : ∀ {ps : List Piece}, (∀ s ∈ ps, s.ok) → (getF cor key ps).1.ok := by
  intro ps
  refine snocRec (P := fun ps => (∀ s ∈ ps, s.ok) → (getF cor key ps).1.ok) (fun _ => no_ok) (fun ps s ih h => ?_) ps
  rw [getF_snoc, getStep]
  have hs := h s (by simp)
  have hp := ih fun x hx => h x (by simp [hx])
  split
  · split
    · exact hs
    · split <;> exact hp
  · exact hp
theorem getL_ok (cor : Piece → Bool) (d : Disk) (key : List UInt8) : (getL cor d key).1.ok := by
  rw [getL]
  split
  · exact getF_ok (Go.Sto.pieces_ok d.1)
  · exact no_ok
theorem loadL_ok (cor : Piece → Bool) (d : Disk) : ∀ s ∈ (loadL cor d).1.1, s.ok := by
  rw [loadL]
  split
  · intro s hs
    exact Go.Sto.pieces_ok d.1 s (List.mem_filter.1 hs).1
  · intro s hs; cases hs
theorem loadL_few (cor : Piece → Bool) (d : Disk) : (loadL cor d).1.1.length ≤ d.1.length := by
  rw [loadL]
  split
  · exact Nat.le_trans (List.length_filter_le _ _) (pieces_few d.1)
  · exact Nat.zero_le _
theorem putL_len (d : Disk) (s : Piece) (h : Piece.wf s) : (putL d s).1.1.length ≤ d.1.length + (76 + s.b.length) := by
  have := recW_length h
  rw [Piece.size] at this
  rw [putL]
  (repeat' split) <;> simp <;> omega
theorem syncL_len (d : Disk) : (syncL d).1.length ≤ d.1.length := by rw [syncL]; split <;> simp
theorem crashL_len (d : Disk) (k a : Int) (b : UInt8) : (crashL d k a b).1.length ≤ d.1.length := by
  rw [crashL]
  split
  · show (crashB d k a b).length ≤ _
    rw [crashB]
    split <;> simp <;> omega
  · exact Nat.zero_le _
theorem repairL_len (cor : Piece → Bool) (d : Disk) : (repairL cor d).1.length ≤ d.1.length := by
  rw [repairL]
  split
  · show (d.1.take _).length ≤ _
    rw [List.length_take]; omega
  · exact Nat.zero_le _
theorem wf_of {ps : List Piece} (h : ∀ s ∈ ps, s.ok) : allWf ps := fun s hs => Piece.ok.wf (h s hs)
theorem one_wf {s : Piece} (h : Piece.wf s) : allWf [s] := fun t ht => by rw [List.mem_singleton.1 ht]; exact h
theorem b_of {ps : List Piece} (h : ∀ s ∈ ps, s.ok) : ∀ s ∈ ps, s.b.length ≤ 9223372036854775807 := fun s hs => by have := (h s hs).2.2; omega
theorem true_same {α : Type} [DecidableEq α] (a : α) : decide (a = a) = true := decide_eq_true rfl
theorem crc_isD (k a : Int) (b : UInt8) : (Cont.cells [.int .i64 k, .int .i64 a, .u8 b]).isD := ⟨trivial, trivial, trivial, trivial⟩
theorem raw_isD (r : Raw) : (Cont.cells (rawC r)).isD := ⟨trivial, trivial, trivial, trivial⟩
noncomputable def glw : Ctx := { P := Tryd.prog, ty := ty, glob := gl, fs := [(10, .flat sanityS), (11, .data filledS), (12, .data bentS), (13, .data madeS), (14, .data putS), (15, .data putRS), (16, .data getS), (17, .data getRS), (18, .data loadS), (19, .data loadRS), (23, .data syncS), (24, .data syncRS), (25, .data crashS), (26, .data crashRS), (27, .data repairS), (28, .data repairRS), (20, .flat sameS), (21, .flat samePieceS), (22, .flat samePiecesS), (29, .data corsS), (30, .flat beginsS), (31, .flat correctRS)] }
theorem glw_ok : glw.OK := ⟨tyOK, ⟨⟨enters_mk Tryd.func10 (by kernel_rfl) rfl, sanity_ok⟩, ⟨enters_mk Tryd.func11 (by kernel_rfl) rfl, filled_ok⟩, ⟨enters_mk Tryd.func12 (by kernel_rfl) rfl, bent_ok⟩, ⟨enters_mk Tryd.func13 (by kernel_rfl) rfl, made_ok⟩, ⟨enters_mk Tryd.func14 (by kernel_rfl) rfl, put_ok⟩, ⟨enters_mk Tryd.func15 (by kernel_rfl) rfl, putR_ok⟩, ⟨enters_mk Tryd.func16 (by kernel_rfl) rfl, get_ok⟩, ⟨enters_mk Tryd.func17 (by kernel_rfl) rfl, getR_ok⟩, ⟨enters_mk Tryd.func18 (by kernel_rfl) rfl, load_ok⟩, ⟨enters_mk Tryd.func19 (by kernel_rfl) rfl, loadR_ok⟩, ⟨enters_mk Tryd.func23 (by kernel_rfl) rfl, sync_ok⟩, ⟨enters_mk Tryd.func24 (by kernel_rfl) rfl, syncR_ok⟩, ⟨enters_mk Tryd.func25 (by kernel_rfl) rfl, crash_ok⟩, ⟨enters_mk Tryd.func26 (by kernel_rfl) rfl, crashR_ok⟩, ⟨enters_mk Tryd.func27 (by kernel_rfl) rfl, repair_ok⟩, ⟨enters_mk Tryd.func28 (by kernel_rfl) rfl, repairR_ok⟩, ⟨enters_mk Tryd.func20 (by kernel_rfl) rfl, same_ok⟩, ⟨enters_mk Tryd.func21 (by kernel_rfl) rfl, samePiece_ok⟩, ⟨enters_mk Tryd.func22 (by kernel_rfl) rfl, samePieces_ok⟩, ⟨enters_mk Tryd.func29 (by kernel_rfl) rfl, cors_ok⟩, ⟨enters_mk Tryd.func30 (by kernel_rfl) rfl, begins_ok⟩, ⟨enters_mk Tryd.func31 (by kernel_rfl) rfl, correctR_ok⟩, trivial⟩, mixed⟩
@[simp] theorem glw_ty : glw.ty = ty := rfl

attribute [local irreducible] logL logPs logD durN recs madeL

end Go.Proofs.YtnhmglhbhnhnhaaDoor

namespace Go.Proofs.YtnhmglhbhnhnhaaDoor
set_option linter.unusedVariables false
open Go.Ab Go.RowKit Go.ChangeShapes Go.Sto

theorem own : ownKnob Tryd.prog.godebug = none := by kernel_rfl
theorem laidOut : laidOutB Tryd.prog = true := by kernel_rfl
theorem gTab : Tryd.prog.globalNamed "univocal/digest.rounds" = some 0 := by kernel_rfl
theorem gTabType : (Tryd.prog.globals[0]?).map (·.type) = some 106 := by kernel_rfl
theorem cellsTAB : Tryd.prog.cellsOf 106 = 64 := by kernel_rfl
theorem cellsU32 : Tryd.prog.cellsOf 73 = 1 := by kernel_rfl
theorem cellsU8 : Tryd.prog.cellsOf 5 = 1 := by kernel_rfl
theorem cellsDG : Tryd.prog.cellsOf 24 = 32 := by kernel_rfl
noncomputable def roundZs : List Int := [1116352408, 1899447441, 3049323471, 3921009573, 961987163, 1508970993, 2453635748, 2870763221, 3624381080, 310598401, 607225278, 1426881987, 1925078388, 2162078206, 2614888103, 3248222580, 3835390401, 4022224774, 264347078, 604807628, 770255983, 1249150122, 1555081692, 1996064986, 2554220882, 2821834349, 2952996808, 3210313671, 3336571891, 3584528711, 113926993, 338241895, 666307205, 773529912, 1294757372, 1396182291, 1695183700, 1986661051, 2177026350, 2456956037, 2730485921, 2820302411, 3259730800, 3345764771, 3516065817, 3600352804, 4094571909, 275423344, 430227734, 506948616, 659060556, 883997877, 958139571, 1322822218, 1537002063, 1747873779, 1955562222, 2024104815, 2227730452, 2361852424, 2428436474, 2756734187, 3204031479, 3329325298]
theorem roundZs_eq : roundZs = Sha.consts.map (fun x => (x.toNat : Int)) := by decide +kernel
noncomputable abbrev laidL : List (String × DataW Unit) := [("univocal/digest.rounds", Rows.laid_univocal_digest_rounds)]
theorem table {W : World} (h : laidMetH Tryd.prog laidL W) : Lib.TabIs Tryd.prog W "univocal/digest.rounds" .u32 roundZs :=
  Lib.tabIs_of_head (rest := []) gTab gTabType Tryd.underlying106 Tryd.underlying73 cellsU32 cellsTAB h
theorem globOK {W : World} (h : laidMetH Tryd.prog laidL W) : GlobOK gl (oldI W) W := by
  intro g c hg
  unfold gl at hg
  split at hg
  · rename_i e
    cases hg
    subst e
    have hlen : Sha.consts.length = 64 := by decide
    have hc : ∀ j, j < 64 → W.cell? ⟨0, j, none⟩ = some (.int .u32 (roundZs.getD j 0)) := fun j hj => (table h).cell gTab j (by rw [roundZs_eq, List.length_map, hlen]; exact hj)
    refine CellD.dp (.u32s Sha.consts) 0 0 0 (fun j => .int .u32 (roundZs.getD j 0)) (spot_none (hc 0 (by decide))).2 (by show 0 < Sha.consts.length; omega) (fun j hj => ?_) (fun j hj => ?_)
    · rw [Nat.zero_add]; exact hc j (hlen ▸ hj)
    · have hj' : j < Sha.consts.length := hj
      have e : roundZs.getD j 0 = ((Sha.consts.getD j 0).toNat : Int) := by
        rw [roundZs_eq]
        simp [List.getD_eq_getElem?_getD, hj']
      show CellD _ _ (.u32 (Sha.consts.getD j 0)) (.int .u32 (roundZs.getD j 0))
      rw [e]
      exact .flat (.u32 _) rfl
  · cases hg
noncomputable def laidWorld (os : Os) : World :=
  { World.holding Tryd.prog os ⟨#[], #[], []⟩ with heap := (World.holding Tryd.prog os ⟨#[], #[], []⟩).heap.modify 0 fun
      | .cells _ t frozen => .cells (roundZs.map (Value.int .u32)).toArray t frozen
      | o => o }
abbrev logW : Value := .agg ((#[.slice none 0 0, .int .u8 0] : Array Value) ++ (Array.replicate 32 (.int .u8 0) : Array Value) ++ (#[.int .u16 0, .int .u16 0, .int .u16 0] : Array Value))
theorem cellsU16 : Tryd.prog.cellsOf 25 = 1 := by kernel_rfl
theorem cellsRAW : Tryd.prog.cellsOf 33 = 3 := by kernel_rfl
theorem cellsBE : Tryd.prog.cellsOf 26 = 2 * 1 := by kernel_rfl
section
variable {H : Type} {enc : TypeId × Value → H} {W : World}
theorem u16_nat {n : Int} (h : inR .u16 n) : ∃ m : Nat, n = (m : Nat) ∧ m ≤ 65535 := by
  have h1 : (0 : Int) ≤ n := h.1
  have h2 : n ≤ 65535 := h.2
  obtain ⟨m, rfl⟩ := Int.eq_ofNat_of_zero_le h1
  exact ⟨m, rfl, by omega⟩
theorem raw_fit : FitN enc Tryd.prog W 33 fun l => ∃ r : Raw, l = rawC r ∧ r.b.length ≤ 9223372036854775807 :=
  (fitN_struct Tryd.underlying33 (by kernel_rfl) (show FitFs enc Tryd.prog W 0 _ [_, _, _] from ⟨rfl, fitN_one (fit_u8 Tryd.underlying5), by kernel_rfl, fitN_one (fit_bytes Tryd.underlying31 cellsU8 Tryd.underlying5), by kernel_rfl, fitN_one (fit_bool Tryd.underlying4), trivial⟩)).mono fun l ⟨ls, e, h⟩ => by
    obtain ⟨l0, ls0, rfl, h0, h⟩ := allS_cons h
    obtain ⟨l1, ls1, rfl, h1, h⟩ := allS_cons h
    obtain ⟨l2, ls2, rfl, h2, h⟩ := allS_cons h
    obtain rfl := allS_nil h
    obtain ⟨_, rfl, k, rfl⟩ := h0
    obtain ⟨_, rfl, b, rfl, hb⟩ := h1
    obtain ⟨_, rfl, q, rfl⟩ := h2
    exact ⟨⟨k, b, q⟩, e, hb⟩
theorem crash_fit : FitN enc Tryd.prog W 30 fun l => ∃ (kp a : Int) (b : UInt8), l = [.int .i64 kp, .int .i64 a, .u8 b] ∧ inR .i64 kp ∧ inR .i64 a :=
  (fitN_struct Tryd.underlying30 (by kernel_rfl) (show FitFs enc Tryd.prog W 0 _ [_, _, _] from ⟨rfl, fitN_one (fit_int Tryd.underlying3), by kernel_rfl, fitN_one (fit_int Tryd.underlying3), by kernel_rfl, fitN_one (fit_u8 Tryd.underlying5), trivial⟩)).mono fun l ⟨ls, e, h⟩ => by
    obtain ⟨l0, ls0, rfl, h0, h⟩ := allS_cons h
    obtain ⟨l1, ls1, rfl, h1, h⟩ := allS_cons h
    obtain ⟨l2, ls2, rfl, h2, h⟩ := allS_cons h
    obtain rfl := allS_nil h
    obtain ⟨_, rfl, k, rfl, hk⟩ := h0
    obtain ⟨_, rfl, a, rfl, ha⟩ := h1
    obtain ⟨_, rfl, b, rfl⟩ := h2
    exact ⟨k, a, b, e, hk, ha⟩
theorem bend_fit : FitN enc Tryd.prog W 26 fun l => ∃ a b : Nat, l = [.int .u16 (a : Nat), .int .u16 (b : Nat)] ∧ a ≤ 65535 ∧ b ≤ 65535 :=
  (fitN_array Tryd.underlying26 cellsU16 cellsBE (fitN_one (fit_int Tryd.underlying25))).mono fun l ⟨ls, e, hl, h⟩ => by
    match ls, hl with
    | [x, y], _ =>
      obtain ⟨_, rfl, a, rfl, ha⟩ := h x (by simp)
      obtain ⟨_, rfl, b, rfl, hb⟩ := h y (by simp)
      obtain ⟨m, rfl, hm⟩ := u16_nat ha
      obtain ⟨n, rfl, hn⟩ := u16_nat hb
      exact ⟨m, n, e, hm, hn⟩
theorem log_fit : FitN enc Tryd.prog W 28 fun l => ∃ x : Log, l = logL x ∧ x.ok :=
  (fitN_struct Tryd.underlying28 (by kernel_rfl) (show FitFs enc Tryd.prog W 0 _ [_, _, _, _, _] from ⟨rfl, fitN_one (fit_recs Tryd.underlying22 cellsRAW (by decide) raw_fit), by kernel_rfl, fitN_one (fit_u8 Tryd.underlying5), by kernel_rfl, fitN_u8s Tryd.underlying24 cellsU8 cellsDG Tryd.underlying5, by kernel_rfl, bend_fit, by kernel_rfl, fitN_one (fit_int Tryd.underlying25), trivial⟩)).mono fun l ⟨ls, e, h⟩ => by
    obtain ⟨l0, ls0, rfl, h0, h⟩ := allS_cons h
    obtain ⟨l1, ls1, rfl, h1, h⟩ := allS_cons h
    obtain ⟨l2, ls2, rfl, h2, h⟩ := allS_cons h
    obtain ⟨l3, ls3, rfl, h3, h⟩ := allS_cons h
    obtain ⟨l4, ls4, rfl, h4, h⟩ := allS_cons h
    obtain rfl := allS_nil h
    obtain ⟨_, rfl, l, rfl, hl, hr⟩ := h0
    obtain ⟨_, rfl, s, rfl⟩ := h1
    obtain ⟨sec, rfl, hs⟩ := h2
    obtain ⟨a, b, rfl, ha, hb⟩ := h3
    obtain ⟨_, rfl, z, rfl, hz⟩ := h4
    obtain ⟨c, rfl, hc⟩ := u16_nat hz
    refine ⟨⟨l, s, sec, a, b, c⟩, ?_, ⟨hl, hr, hs, ha, hb, hc⟩⟩
    rw [e]
    simp [logL]
end

end Go.Proofs.YtnhmglhbhnhnhaaDoor

namespace Go.Proofs.YtnhmglhbhnhnhaaDoor
set_option linter.unusedVariables false
open Go.Ab Go.RowKit


open Go.Sto
theorem rep_to {tf : Nat → Ty} {H : Heap} {is : List Nat} {ρ : Nat → Nat} : ∀ n : Nat, allTo (Cell.to tf H is ρ) (List.replicate n (.u8 0)) ((List.replicate n (0 : UInt8)).map Cell.u8)
  | 0 => trivial
  | n + 1 => ⟨rfl, rep_to n⟩
theorem long_to {tf : Nat → Ty} {H : Heap} {is : List Nat} {ρ : Nat → Nat} {p : Piece} {t : Nat} {x : Cell} (hp : p = ⟨zs32, List.replicate t 0, zs32⟩) (h : x.to tf H is ρ (.ds t (.u8s (List.replicate t 0)))) : (Cont.cells (List.replicate 32 (.u8 0) ++ ([x] ++ (List.replicate 32 (.u8 0) ++ [])))).to tf H is ρ (pieceC p) := by
  subst hp
  show allTo _ _ (zs32.map Cell.u8 ++ [.ds (List.replicate t (0 : UInt8)).length (.u8s (List.replicate t 0))] ++ zs32.map Cell.u8)
  rw [List.append_nil, ← List.append_assoc, List.length_replicate, zs32]
  exact allTo_app (allTo_app (rep_to 32) ⟨h, trivial⟩) (rep_to 32)
end Go.Proofs.YtnhmglhbhnhnhaaDoor

namespace Go.Proofs.YtnhmglhbhnhnhaaDoor
set_option linter.unusedVariables false
open Go.Ab Go.RowKit


open Go.Sto
def key4 (k : UInt8) : List UInt8 := (k % 4) :: List.replicate 31 0
theorem key4_len (k : UInt8) : (key4 k).length = 32 := rfl
theorem key4_as (k : UInt8) : SV.as (.agg (.u8s ((List.replicate 32 0).set 0 (k % UInt8.ofNat (Int.toNat 4))))) (.agg (.u8s (key4 k))) := as_eq rfl
theorem logD_b (x : Log) : (logD x).1 = recs (logPs x) := by rw [logD_eq]
theorem logD_pieces (x : Log) : Go.Sto.pieces (logD x).1 = logPs x := by rw [logD_b]; exact recs_pieces (logPs_ok x)
theorem logD_total (x : Log) : total (logPs x) = (logD x).1.length := by rw [logD_b, recs_length (logPs_ok x)]
theorem logD_valid (x : Log) : dvalid (logD x) = true := by
  have := logD_dur x
  simpa [dvalid] using this
theorem load_log (cor : Piece → Bool) (x : Log) : loadL cor (logD x) = (((logPs x).filter cor, (logD x).1.length), 0) := by rw [load_yes (logD_valid x), logD_pieces, logD_total]
theorem get_log (cor : Piece → Bool) (x : Log) (k : List UInt8) : getL cor (logD x) k = getF cor k (logPs x) := by rw [get_def (logD_valid x), logD_pieces]
def anyK (kk : List UInt8) (ps : List Piece) : Bool := ps.any (fun s => decide (s.key = kk))
theorem anyK_succ {kk : List UInt8} {ps : List Piece} {i : Nat} {s : Piece} (h : ps[i]? = some s) : anyK kk (ps.take (i + 1)) = (anyK kk (ps.take i) || decide (s.key = kk)) := by
  rw [anyK, List.take_add_one, h, Option.toList_some, List.any_append, anyK]; simp
theorem get_last {cor : Piece → Bool} {kk : List UInt8} {ps bk : List Piece} (hb : bk = ps.filter cor) {j : Nat} {s : Piece} (h : bk[j]? = some s) (hk : s.key = kk) (hn : ∀ t ∈ bk.drop (j + 1), t.key ≠ kk) : getF cor kk ps = (s, 0) := by
  have hj : j < bk.length := (List.getElem?_eq_some_iff.1 h).1
  have e : bk = bk.take j ++ s :: bk.drop (j + 1) := by
    have := List.getElem?_eq_some_iff.1 h
    obtain ⟨_, h2⟩ := this
    rw [← h2, ← List.drop_eq_getElem_cons hj, List.take_append_drop]
  rw [getF_spec, ← hb, e, List.reverse_append, List.reverse_cons, List.append_assoc, List.find?_append]
  have h0 : (bk.drop (j + 1)).reverse.find? (fun s => decide (s.key = kk)) = none := by
    rw [List.find?_eq_none]
    intro t ht
    have := hn t (List.mem_reverse.1 ht)
    simpa using this
  rw [h0]
  simp [hk]
theorem get_nothing {cor : Piece → Bool} {kk : List UInt8} {ps bk : List Piece} (hb : bk = ps.filter cor) (hn : ∀ t ∈ bk, t.key ≠ kk) : getF cor kk ps = (noPiece, if anyK kk ps = true then 280 else 3) := by
  have h0 : bk.reverse.find? (fun s => decide (s.key = kk)) = none := by
    rw [List.find?_eq_none]
    intro t ht
    have := hn t (List.mem_reverse.1 ht)
    simpa using this
  rw [getF_spec, ← hb, h0]
  rfl
end Go.Proofs.YtnhmglhbhnhnhaaDoor

namespace Go.Proofs.YtnhmglhbhnhnhaaDoor
set_option linter.unusedVariables false
open Go.Ab Go.RowKit


open Go.Sto
theorem cor_log {x : Log} (h : ∀ r ∈ x.l, r.bad = false) : ∀ s ∈ logPs x, corF x.secret s = true := fun s hs => by
  rw [logPs_eq] at hs
  obtain ⟨r, hr, rfl⟩ := List.mem_map.1 hs
  exact cor_made (h r (List.mem_of_mem_take hr))
theorem filter_none {cor : Piece → Bool} {ps : List Piece} (h : ∀ s ∈ ps, cor s = false) : ps.filter cor = [] ∧ ps.takeWhile cor = [] := by
  refine ⟨List.filter_eq_nil_iff.2 fun s hs => by rw [h s hs]; decide, ?_⟩
  cases ps with
  | nil => rfl
  | cons s ps => rw [List.takeWhile_cons, h s List.mem_cons_self]; rfl
theorem load_none {cor : Piece → Bool} {x : Log} (h : ∀ s ∈ logPs x, cor s = false) : loadL cor (logD x) = (([], (logD x).1.length), 0) := by rw [load_log, (filter_none h).1]
theorem get_seal {cor : Piece → Bool} {x : Log} {s : Piece} (h : ∀ s ∈ logPs x, cor s = false) (hs : s ∈ logPs x) : getL cor (logD x) s.key = (noPiece, 280) := by
  rw [get_log, get_nothing (bk := []) (filter_none h).1.symm (fun t ht => by cases ht), if_pos]
  rw [anyK, List.any_eq_true]
  exact ⟨s, hs, decide_eq_true rfl⟩
theorem repair_none {cor : Piece → Bool} {x : Log} (h : ∀ s ∈ logPs x, cor s = false) : repairL cor (logD x) = ([], 0) := by
  have e : repairN cor (logD x).1 = 0 := by rw [repairN, logD_pieces, (filter_none h).2]; rfl
  rw [repair_yes (logD_valid x) e, List.take_zero]
  have := logD_dur x
  congr 1
  omega
theorem repair_all {cor : Piece → Bool} {x : Log} (h : ∀ s ∈ logPs x, cor s = true) : repairL cor (logD x) = logD x := by
  have e : repairN cor (logD x).1 = (logD x).1.length := by rw [repairN, logD_pieces, (filter_all h).2, logD_total]
  rw [repair_yes (logD_valid x) e, List.take_length]
  have := logD_dur x
  have e2 : min (logD x).2 (((logD x).1.length : Nat) : Int) = (logD x).2 := by omega
  rw [e2]
end Go.Proofs.YtnhmglhbhnhnhaaDoor

namespace Go.Proofs.YtnhmglhbhnhnhaaDoor
set_option linter.unusedVariables false
open Go.Ab Go.RowKit


open Go.Sto
def djN (x : Log) : Nat := if x.synced.toNat % 7 ≤ (logPs x).length then x.synced.toNat % 7 else 0
theorem djN_le (x : Log) : djN x ≤ (logPs x).length := by rw [djN]; split <;> omega
theorem djN_eq {x : Log} (h : x.synced.toNat % 7 ≤ (logPs x).length) : djN x = x.synced.toNat % 7 := by rw [djN, if_pos h]
theorem logD_2 (x : Log) : (logD x).2 = ((total ((logPs x).take (djN x)) : Nat) : Int) := by
  rw [logD_eq, durN, djN]
  by_cases h : x.synced.toNat % 7 ≤ (logPs x).length
  · rw [if_pos h, if_pos (by omega)]
  · rw [if_neg h, if_neg (by omega), List.take_zero]; rfl
theorem dur_load {cor : Piece → Bool} {x : Log} (h : ∀ s ∈ logPs x, cor s = true) : ∃ n, loadL cor ((logD x).1.take (logD x).2.toNat, (logD x).2) = (((logPs x).take (djN x), n), 0) := by
  have h1 := logD_dur x
  have e : Go.Sto.pieces ((logD x).1.take (logD x).2.toNat) = (logPs x).take (djN x) := by
    rw [logD_b, logD_2, Int.toNat_natCast]
    exact take_pieces (logPs_ok x) (djN_le x)
  refine ⟨total (Go.Sto.pieces ((logD x).1.take (logD x).2.toNat)), ?_⟩
  rw [load_yes (by simp only [dvalid, decide_eq_true_eq, List.length_take]; omega)]
  show (((Go.Sto.pieces ((logD x).1.take (logD x).2.toNat)).filter cor, total (Go.Sto.pieces ((logD x).1.take (logD x).2.toNat))), 0) = _
  rw [e, (filter_all fun s hs => h s (List.mem_of_mem_take hs)).1]
theorem crash_load {cor : Piece → Bool} {x : Log} (h : ∀ s ∈ logPs x, cor s = true) (kp a : Int) (b : UInt8) : ∃ m n, djN x ≤ m ∧ m ≤ (logPs x).length ∧ loadL cor (crashL (logD x) kp a b) = (((logPs x).take m, n), 0) ∧ n ≤ (crashL (logD x) kp a b).1.length ∧ (crashL (logD x) kp a b).2 = (((crashL (logD x) kp a b).1.length : Nat) : Int) := by
  obtain ⟨m, h1, h2, h3⟩ := crash_pieces (logPs_ok x) (djN_le x) kp a b
  have ed : (recs (logPs x), ((total ((logPs x).take (djN x)) : Nat) : Int)) = logD x := by rw [← logD_2, ← logD_b]
  rw [ed] at h3
  have ec : crashL (logD x) kp a b = (crashB (logD x) kp a b, (((crashB (logD x) kp a b).length : Nat) : Int)) := by rw [crashL, if_pos (logD_valid x)]
  refine ⟨m, total ((logPs x).take m), h1, h2, ?_, ?_, ?_⟩
  · rw [ec, load_yes (by simp [dvalid])]
    show (((Go.Sto.pieces (crashB (logD x) kp a b)).filter cor, total (Go.Sto.pieces (crashB (logD x) kp a b))), 0) = _
    rw [h3, (filter_all fun s hs => h s (List.mem_of_mem_take hs)).1]
  · rw [ec]
    show _ ≤ (crashB (logD x) kp a b).length
    rw [← h3]; exact total_le _
  · rw [ec]
theorem beg_take {ps : List Piece} {i j : Nat} (h : i ≤ j) (hj : j ≤ ps.length) : begB (ps.take j) (ps.take i) = true := by
  rw [begB, decide_eq_true_eq, show (ps.take i).length = i by rw [List.length_take]; omega, List.take_take, Nat.min_eq_left h]
theorem beg_full {ps : List Piece} {i : Nat} (h : i ≤ ps.length) : begB ps (ps.take i) = true := by
  rw [begB, decide_eq_true_eq, List.length_take, Nat.min_eq_left h]
end Go.Proofs.YtnhmglhbhnhnhaaDoor

namespace Go.Proofs.YtnhmglhbhnhnhaaDoor
set_option linter.unusedVariables false
open Go.Ab Go.RowKit


open Go.Sto
theorem bent_valid (x : Log) : dvalid (bentD (logD x) x) = true := by
  have h := logD_dur x
  show decide (0 ≤ min (logD x).2 (((bentB x (logD x).1).length : Nat) : Int) ∧ min (logD x).2 (((bentB x (logD x).1).length : Nat) : Int) ≤ (((bentB x (logD x).1).length : Nat) : Int)) = true
  rw [decide_eq_true_eq]; omega
theorem rep_eq {cor : Piece → Bool} {e : Disk} (h : dvalid e = true) : repairL cor e = (e.1.take (repairN cor e.1), min e.2 ((repairN cor e.1 : Nat) : Int)) := repair_yes h rfl
theorem rep_len {cor : Piece → Bool} {e : Disk} (h : dvalid e = true) : (repairL cor e).1.length = repairN cor e.1 := by rw [rep_eq h]; exact repair_len cor e.1
theorem rep_valid {cor : Piece → Bool} {e : Disk} (h : dvalid e = true) : dvalid (repairL cor e) = true := by
  have h1 := rep_len (cor := cor) h
  have h2 := dvalid_iff h
  rw [rep_eq h] at h1 ⊢
  simp only at h1
  show decide (0 ≤ min e.2 ((repairN cor e.1 : Nat) : Int) ∧ min e.2 ((repairN cor e.1 : Nat) : Int) ≤ (((e.1.take (repairN cor e.1)).length : Nat) : Int)) = true
  rw [decide_eq_true_eq]; omega
theorem rep_pieces {cor : Piece → Bool} {e : Disk} (h : dvalid e = true) : Go.Sto.pieces (repairL cor e).1 = (Go.Sto.pieces e.1).takeWhile cor := by rw [rep_eq h]; exact repair_pieces cor e.1
theorem rep_total {cor : Piece → Bool} {e : Disk} (h : dvalid e = true) : total ((Go.Sto.pieces e.1).takeWhile cor) = (repairL cor e).1.length := by rw [rep_len h]; rfl
theorem rep_load {cor : Piece → Bool} {e : Disk} (h : dvalid e = true) : loadL cor (repairL cor e) = (((Go.Sto.pieces e.1).takeWhile cor, (repairL cor e).1.length), 0) := by
  rw [load_yes (rep_valid h), rep_pieces h, (filter_all (takeWhile_cor cor _)).1, rep_total h]
theorem rep_put {cor : Piece → Bool} {e : Disk} (h : dvalid e = true) {p : Piece} (hb : p.b.length ≤ 50) (hl : e.1.length ≤ 900000) : putL (repairL cor e) p = (((repairL cor e).1 ++ p.rec', (repairL cor e).2), 0) := by
  have h1 := rep_len (cor := cor) h
  have h2 := repairL_len cor e
  have hv : dvalid ((repairL cor e).1, (repairL cor e).2) = true := rep_valid h
  have ht : total (Go.Sto.pieces (repairL cor e).1) = (repairL cor e).1.length := by rw [rep_pieces h, rep_total h]
  exact put_more (l := (repairL cor e).1) (z := (repairL cor e).2) hv ht (by omega) (by omega)
theorem rep_get {cor : Piece → Bool} {e : Disk} (h : dvalid e = true) {p : Piece} (hp : p.ok) (hc : cor p = true) : getL cor ((repairL cor e).1 ++ p.rec', (repairL cor e).2) p.key = (p, 0) := by
  have hv := dvalid_iff (rep_valid (cor := cor) h)
  have e1 : (repairL cor e).1 ++ p.rec' = recs ((Go.Sto.pieces e.1).takeWhile cor ++ [p]) := by
    rw [recs_app, rep_eq h]
    show e.1.take (repairN cor e.1) ++ _ = _
    rw [(repair_take cor e.1).1]
    simp [recs]
  have hok : ∀ s ∈ (Go.Sto.pieces e.1).takeWhile cor ++ [p], s.ok := fun s hs => by
    rcases List.mem_append.1 hs with hs | hs
    · exact (repair_take cor e.1).2.2 s hs
    · rw [List.mem_singleton.1 hs]; exact hp
  rw [get_def (by simp only [dvalid, decide_eq_true_eq, List.length_append]; omega)]
  show getF cor p.key (Go.Sto.pieces ((repairL cor e).1 ++ p.rec')) = _
  rw [e1, recs_pieces hok, getF_snoc, getStep, if_pos rfl, if_pos hc]
theorem rep_beg {cor : Piece → Bool} (ps : List Piece) : begB (ps.filter cor) (ps.takeWhile cor) = true := by
  obtain ⟨r, _, h⟩ := takeWhile_split cor ps
  rw [begB, decide_eq_true_eq, h, List.take_left' rfl]
theorem rep_again {cor : Piece → Bool} {e : Disk} (h : dvalid e = true) : repairL cor (repairL cor e) = repairL cor e := by
  have h1 := rep_len (cor := cor) h
  have h2 : repairN cor (repairL cor e).1 = (repairL cor e).1.length := by rw [h1, rep_eq h]; exact repair_again cor e.1
  have h3 := dvalid_iff (rep_valid (cor := cor) h)
  rw [repair_yes (rep_valid h) h2, List.take_length]
  have e2 : min (repairL cor e).2 (((repairL cor e).1.length : Nat) : Int) = (repairL cor e).2 := by omega
  rw [e2]
theorem rep_sync {cor : Piece → Bool} {e : Disk} (h : dvalid e = true) : (repairL cor e).2 = min e.2 (((repairL cor e).1.length : Nat) : Int) := by
  rw [rep_len h]
  rw [rep_eq h]
theorem rep_take {cor : Piece → Bool} {e : Disk} (h : dvalid e = true) : (repairL cor e).1 = e.1.take (repairL cor e).1.length := by
  rw [rep_len h]
  rw [rep_eq h]
def good (r : Raw) : Raw := ⟨r.key, r.b, false⟩
theorem good_as (r : Raw) : SV.as (.agg (.cells [.u8 r.key, .ds r.b.length (.u8s r.b), .bool false])) (.agg (.cells (rawC (good r)))) := as_eq rfl
theorem load_all {cor : Piece → Bool} {e : Disk} (h : dvalid e = true) : loadL cor e = (((Go.Sto.pieces e.1).filter cor, total (Go.Sto.pieces e.1)), 0) := load_yes h
end Go.Proofs.YtnhmglhbhnhnhaaDoor

namespace Go.Proofs.YtnhmglhbhnhnhaaDoor
set_option linter.unusedVariables false
open Go.Ab Go.RowKit


open Go.Sto
theorem few_none {l : List UInt8} (h : l.length ≤ 60) : Go.Sto.pieces l = [] := by
  cases hr : recordL l with
  | none => exact pieces_none hr
  | some q =>
    obtain ⟨s, n⟩ := q
    obtain ⟨_, h2, h3, _⟩ := Go.Sto.record_ok hr
    rw [Piece.size] at h2
    omega
theorem torn_put {x : Log} {l : List UInt8} {p : Piece} (h : l.length ≤ 60) (h0 : 0 < l.length) (hb : p.b.length ≤ 50) : putL ((logD x).1 ++ l, (logD x).2) p = (([], 0), 290) := by
  have hd := logD_dur x
  have e : Go.Sto.pieces ((logD x).1 ++ l) = logPs x := by
    rw [logD_b, pieces_app (logPs_ok x), few_none h, List.append_nil]
  refine put_no3 (by simp only [dvalid, decide_eq_true_eq, List.length_append]; omega) (by omega) ?_
  show total (Go.Sto.pieces ((logD x).1 ++ l)) < ((logD x).1 ++ l).length
  rw [e, logD_total, List.length_append]; omega
theorem app_put {x : Log} {p : Piece} (hb : p.b.length ≤ 50) : putL (logD x) p = (((logD x).1 ++ p.rec', (logD x).2), 0) := by
  have h := logD_len x
  exact put_more (l := (logD x).1) (z := (logD x).2) (logD_valid x) (by rw [logD_pieces, logD_total]) (by omega) (by omega)
theorem ids_sl (i o n c : Nat) (x : Int) : SV.ids (.agg (.cells [.slice i o n c, .int .i64 x])) = [i] := rfl
theorem min60_as (n : Nat) : SV.as (.c (.int .i64 (if (60 : Int) < (n : Int) then 60 else (n : Int)))) (.c (.int .i64 (min 60 n : Nat))) := as_eq (by congr 2; split <;> omega)
theorem take60_as (l : List UInt8) : SV.as (.c (.ds ((min 60 l.length : Nat) : Int).toNat ((Cont.u8s l).take (((min 60 l.length : Nat) : Int).toNat * 1)))) (bytesV (l.take 60)) := by
  refine as_dsE (a := l.take (((min 60 l.length : Nat) : Int).toNat * 1)) ?_ ?_
  · rw [List.length_take]; omega
  · rw [Nat.mul_one, Int.toNat_natCast, ← List.take_take, List.take_length]
end Go.Proofs.YtnhmglhbhnhnhaaDoor
