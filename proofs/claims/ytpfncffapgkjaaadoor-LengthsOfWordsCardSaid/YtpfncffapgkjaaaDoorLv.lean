/- The reference: made automata. -/
import Derived.Test.YtpfncffapgkjaaaDoorAb14
import Derived.Test.YtpfncffapgkjaaaDoorAb21
import Derived.Test.YtpfncffapgkjaaaDoorAb22
import Derived.Test.YtpfncffapgkjaaaDoorCtx
import Derived.Test.YtpfncffapgkjaaaDoorLa
import Derived.Test.YtpfncffapgkjaaaDoorLm
import Derived.Test.YtpfncffapgkjaaaDoorLva
namespace Go.Proofs.YtpfncffapgkjaaaDoor
set_option linter.unusedVariables false
open Go.Ab Go.RowKit

theorem qLv0 {a : Prop} (h : a := by first | omega | exact trivial | rfl | (simp only [len_u8s, len_u32s, len_u64s, len_ints, len_bools, len_cells]; omega) | exact inR_i64.mpr ⟨by omega, by omega⟩ | (simp <;> omega) | (refine And.intro ?_ ?_ <;> exact trivial) | exact ⟨trivial, trivial, trivial⟩ | decide | (refine And.intro rfl ?_; (repeat first | exact trivial | refine And.intro rfl ?_); done) | exact Nat.succ_pos _ | exact Nat.le_refl _ | (refine And.intro trivial ?_; (repeat first | exact trivial | refine And.intro trivial ?_); done)) : a := h
theorem qLv1 {a : Prop} (h : a := by first | omega | exact trivial | rfl | (simp only [len_u8s, len_u32s, len_u64s, len_ints, len_bools, len_cells]; omega) | exact inR_i64.mpr ⟨by omega, by omega⟩ | (simp <;> omega) | decide | (simp <;> omega) | (refine And.intro ?_ ?_ <;> exact trivial) | exact ⟨trivial, trivial, trivial⟩ | decide | (refine And.intro rfl ?_; (repeat first | exact trivial | refine And.intro rfl ?_); done) | exact Nat.succ_pos _ | exact Nat.le_refl _ | (refine And.intro trivial ?_; (repeat first | exact trivial | refine And.intro trivial ?_); done)) : a := h
theorem qLv2 {a : Prop} (h : a := by first | omega | exact trivial | rfl | (simp only [len_u8s, len_u32s, len_u64s, len_ints, len_bools, len_cells]; omega) | exact inR_i64.mpr ⟨by omega, by omega⟩ | (simp <;> omega) | decide | (refine And.intro ?_ ?_ <;> exact trivial) | exact ⟨trivial, trivial, trivial⟩ | decide | (refine And.intro rfl ?_; (repeat first | exact trivial | refine And.intro rfl ?_); done) | exact Nat.succ_pos _ | exact Nat.le_refl _ | (refine And.intro trivial ?_; (repeat first | exact trivial | refine And.intro trivial ?_); done)) : a := h
theorem qLv3 {a : Prop} (h : a := by first | omega | exact trivial | rfl | (simp only [len_u8s, len_u32s, len_u64s, len_ints, len_bools, len_cells]; omega) | exact inR_i64.mpr ⟨by omega, by omega⟩ | (simp <;> omega) | (refine ⟨by omega, by omega, ?_⟩; exact And.intro trivial trivial) | (refine ⟨by omega, by omega⟩) | (simp <;> omega) | (refine And.intro ?_ ?_ <;> exact trivial) | exact ⟨trivial, trivial, trivial⟩ | decide | (refine And.intro rfl ?_; (repeat first | exact trivial | refine And.intro rfl ?_); done) | exact Nat.succ_pos _ | exact Nat.le_refl _ | (refine And.intro trivial ?_; (repeat first | exact trivial | refine And.intro trivial ?_); done)) : a := h
theorem qLv4 {a : Prop} (h : a := by first | omega | exact trivial | rfl | (simp only [len_u8s, len_u32s, len_u64s, len_ints, len_bools, len_cells]; omega) | exact inR_i64.mpr ⟨by omega, by omega⟩ | (simp <;> omega) | (refine ⟨by split <;> omega, by split <;> omega, trivial⟩) | (simp <;> omega) | (refine And.intro ?_ ?_ <;> exact trivial) | exact ⟨trivial, trivial, trivial⟩ | decide | (refine And.intro rfl ?_; (repeat first | exact trivial | refine And.intro rfl ?_); done) | exact Nat.succ_pos _ | exact Nat.le_refl _ | (refine And.intro trivial ?_; (repeat first | exact trivial | refine And.intro trivial ?_); done)) : a := h
theorem qLv5 {a : Prop} (h : a := by first | omega | exact trivial | rfl | (simp only [len_u8s, len_u32s, len_u64s, len_ints, len_bools, len_cells]; omega) | exact inR_i64.mpr ⟨by omega, by omega⟩ | (simp <;> omega) | (refine ⟨by omega, by omega, ?_⟩; exact And.intro trivial trivial) | (simp <;> omega) | (refine And.intro ?_ ?_ <;> exact trivial) | exact ⟨trivial, trivial, trivial⟩ | decide | (refine And.intro rfl ?_; (repeat first | exact trivial | refine And.intro rfl ?_); done) | exact Nat.succ_pos _ | exact Nat.le_refl _ | (refine And.intro trivial ?_; (repeat first | exact trivial | refine And.intro trivial ?_); done)) : a := h

theorem uLv0 {a : Prop} (h : a := by
    repeat' (first | exact trivial | refine And.intro ?_ ?_ | rfl | omega | decide | (show (_ : Nat) < _; decide) | exact low_nil' | refine low_cons' ?_ ?_ | exact Nat.le_refl _ | exact Nat.succ_pos _)
    all_goals first | (rw [hn1]; push_cast; rfl) | (rw [machN, if_neg h_t13]; rfl) | skip) : a := h
theorem uLv1 {a : Prop} (h : a := by
    repeat' (first | exact trivial | refine And.intro ?_ ?_ | rfl | omega | decide | (show (_ : Nat) < _; decide) | exact low_nil' | refine low_cons' ?_ ?_ | exact Nat.le_refl _ | exact Nat.succ_pos _)
    all_goals first | omega | exact low_rows _ | exact allTo_rows _ | (show (_ : List Bool) = _; first | exact hacc | exact machA_step _ _ | exact machA_stay _ _ hc3 | rfl | (simp [machA, machAc]; done)) | (show (_ : List Int) = _; first | rfl | exact hrow2 | exact hrow | exact machRow_stay _ _ _ | (simp [machRow]; done)) | (simp; done) | (simp <;> omega) | (dsimp only; (repeat' split) <;> omega) | skip) : a := h
theorem uLv2 {a : Prop} (h : a := by
    repeat' (first | exact trivial | refine And.intro ?_ ?_ | rfl | omega | decide | (show (_ : Nat) < _; decide) | exact low_nil' | refine low_cons' ?_ ?_ | exact Nat.le_refl _ | exact Nat.succ_pos _)
    all_goals first | omega | exact low_rows _ | exact allTo_rows _ | (show (_ : List Bool) = _; first | exact hacc | exact machA_step _ _ | exact machA_stay _ _ hc3 | rfl | (simp [machA, machAc]; done)) | (show (_ : List Int) = _; first | rfl | exact hrow2 | exact hrow | exact machRow_stay _ _ _ | (simp [machRow]; done)) | (simp; done) | (simp <;> omega) | (dsimp only; (repeat' split) <;> omega) | skip
    all_goals first | (rw [hidx]; rfl) | (rw [machK_ge l (by omega)]; rfl) | skip) : a := h

def machineS : QSpec := fun vs K => ∃ l : List UInt8, vs = [.c (.ds l.length (.u8s l))] ∧ l.length ≤ 9223372036854775807 ∧ K (dfaV (machL l))
set_option maxHeartbeats 2000000 in
theorem machine_ok : DataOK Tryd.prog gl 29 machineS := by
 refine data_of (Γ := g0) (N := 85) Tryd.func29 rfl rfl fun vs K h => ?_
 obtain ⟨l, rfl, hl, h⟩ := h
 refine ⟨_, h, low_cons' trivial (low_cons' trivial (low_cons' trivial low_nil')), by simp, fun w I => ?_⟩
 refine seq_k fun _ hK1 => ?_
 refine region_k g0_ok fun _ hK2 => ?_
 refine s_step rfl (by decide) rfl fun _ hS => ?_
 repeat refine And.intro qLv0 ?_
 refine hS _ _ _ ?_
 clear hS
 refine s_nil ?_
 refine hK2 _ _ _ ?_
 refine hK1 _ _ _ ?_
 refine seq_k fun _ hK3 => ?_
 refine region_k g0_ok fun _ hK4 => ?_
 refine s_step rfl (by decide) rfl fun _ hS => ?_
 refine hS _ _ _ ?_
 clear hS
 refine s_nil ?_
 refine hK4 _ _ _ ?_
 refine hK3 _ _ _ ?_
 refine WP_cut (α := Unit) (fun _ => [(0, .c (.ds l.length (.u8s l))), (2, .c (.ptr 0 0)), (3, .c (.int .i64 (machN l)))]) (fun _ => [(0, .own 40 (.cells [.nils, .nils, .nils]) 3)]) 1 (fun _ => True) ?_ ?_
 ·skip
  refine seq_k fun _ hK5 => ?_
  refine region_k g0_ok fun _ hK6 => ?_
  refine s_step rfl (by decide) rfl fun _ hS => ?_
  refine hS _ _ _ ?_
  clear hS
  refine s_step rfl (by decide) rfl fun _ hS => ?_
  repeat refine And.intro qLv0 ?_
  refine hS _ _ _ ?_
  clear hS
  refine s_step rfl (by decide) rfl fun _ hS => ?_
  repeat refine And.intro qLv0 ?_
  refine hS _ _ _ ?_
  clear hS
  refine s_nil ?_
  refine hK6 _ _ _ ?_
  refine hK5 _ _ _ ?_
  refine WP_cond (b := _) rfl (fun h_t13 => ?_) (fun h_t13 => ?_)
  ·try simp only [decide_eq_true_eq] at h_t13
   replace h_t13 : 0 < l.length := by omega
   refine region_k g0_ok fun _ hK7 => ?_
   refine s_step rfl (by decide) rfl fun _ hS => ?_
   refine hS _ _ _ ?_
   clear hS
   refine s_step rfl (by decide) rfl fun _ hS => ?_
   repeat refine And.intro qLv1 ?_
   refine hS _ _ _ ?_
   clear hS
   refine s_step rfl (by decide) rfl fun _ hS => ?_
   repeat refine And.intro qLv1 ?_
   first | refine hS _ _ _ ?_ | (refine whole_yes qLv1 ?_; refine hS _ _ _ ?_) | (refine whole_sub ?_; refine hS _ _ _ ?_)
   clear hS
   refine s_step rfl (by decide) rfl fun _ hS => ?_
   repeat refine And.intro qLv1 ?_
   refine hS _ _ _ ?_
   clear hS
   refine s_step rfl (by decide) rfl fun _ hS => ?_
   repeat first | refine And.intro qLv1 ?_ | refine whole_yes qLv1 ?_ | refine whole_sub ?_
   refine hS _ _ _ ?_
   clear hS
   refine s_step rfl (by decide) rfl fun _ hS => ?_
   repeat refine And.intro qLv1 ?_
   refine hS _ _ _ ?_
   clear hS
   refine s_step rfl (by decide) rfl fun _ hS => ?_
   refine hS _ _ _ ?_
   clear hS
   refine s_nil ?_
   refine hK7 _ _ _ ?_
   have hn1 : machN l = 1 + (l.getD 0 0 % 8).toNat := by rw [machN, if_pos h_t13]
   refine Done_some [] id () trivial ⟨?_, ?_, (by decide : List.Nodup ([0] : List Nat)), ?_, ?_, ⟨Nat.zero_le _, fun i hi => absurd hi (Nat.not_lt_zero i)⟩⟩
   ·exact uLv0
   ·exact uLv1
   ·exact uLv1
   ·exact uLv1
  ·try simp only [decide_eq_false_iff_not, Int.not_lt] at h_t13
   replace h_t13 : ¬ 0 < l.length := by omega
   refine WP_skip ?_
   refine Done_some [] id () trivial ⟨?_, ?_, (by decide : List.Nodup ([0] : List Nat)), ?_, ?_, ⟨Nat.zero_le _, fun i hi => absurd hi (Nat.not_lt_zero i)⟩⟩
   ·exact uLv0
   ·exact uLv1
   ·exact uLv1
   ·exact uLv1
 ·intro _ _
  obtain ⟨hmn0, hmn8⟩ := machN_pos l
  refine seq_k fun _ hK8 => ?_
  refine region_k g0_ok fun _ hK9 => ?_
  refine s_step rfl (by decide) rfl fun _ hS => ?_
  repeat refine And.intro qLv0 ?_
  refine hS _ _ _ ?_
  clear hS
  refine s_step rfl (by decide) rfl fun _ hS => ?_
  repeat refine And.intro qLv0 ?_
  refine hS _ _ _ ?_
  clear hS
  refine s_step0 rfl rfl fun _ hS => ?_
  repeat refine And.intro qLv0 ?_
  first | refine hS _ _ _ ?_ | (refine splice_full qLv0 ?_; refine hS _ _ _ ?_)
  clear hS
  refine s_nil ?_
  refine hK9 _ _ _ ?_
  refine hK8 _ _ _ ?_
  refine seq_k fun _ hK10 => ?_
  refine region_k g0_ok fun _ hK11 => ?_
  refine s_step rfl (by decide) rfl fun _ hS => ?_
  repeat refine And.intro qLv0 ?_
  refine hS _ _ _ ?_
  clear hS
  refine s_step rfl (by decide) rfl fun _ hS => ?_
  repeat refine And.intro qLv0 ?_
  refine hS _ _ _ ?_
  clear hS
  refine s_step0 rfl rfl fun _ hS => ?_
  repeat refine And.intro qLv0 ?_
  first | refine hS _ _ _ ?_ | (refine splice_full qLv0 ?_; refine hS _ _ _ ?_)
  clear hS
  refine s_nil ?_
  refine hK11 _ _ _ ?_
  refine hK10 _ _ _ ?_
  refine seq_k fun _ hK12 => ?_
  refine region_k g0_ok fun _ hK13 => ?_
  refine s_step rfl (by decide) rfl fun _ hS => ?_
  repeat refine And.intro qLv2 ?_
  refine hS _ _ _ ?_
  clear hS
  refine s_step0 rfl rfl fun _ hS => ?_
  repeat refine And.intro qLv2 ?_
  first | refine hS _ _ _ ?_ | (refine splice_full qLv2 ?_; refine hS _ _ _ ?_)
  clear hS
  refine s_nil ?_
  refine hK13 _ _ _ ?_
  refine hK12 _ _ _ ?_
  refine seq_k fun _ hK14 => ?_
  refine region_k g0_ok fun _ hK15 => ?_
  refine s_step rfl (by decide) rfl fun _ hS => ?_
  repeat refine And.intro qLv2 ?_
  refine hS _ _ _ ?_
  clear hS
  refine s_step0 rfl rfl fun _ hS => ?_
  repeat refine And.intro qLv2 ?_
  first | refine hS _ _ _ ?_ | (refine splice_full qLv2 ?_; refine hS _ _ _ ?_)
  clear hS
  refine s_nil ?_
  refine hK15 _ _ _ ?_
  refine hK14 _ _ _ ?_
  refine WP_cut (α := Unit) (fun _ => [(0, .c (.ds l.length (.u8s l))), (2, .c (.ptr 0 0)), (3, .c (.int .i64 (machN l))), (6, .c (.ptr 1 0))]) (fun _ => [(0, .own 40 (.cells [.nils, .nils, .nils]) 3), (1, .own 40 (.cells [.ds 3 (.u64s mcls), .nils, .nils]) 3)]) 2 (fun _ => True) ?_ ?_
  ·skip
   refine region_k g0_ok fun _ hK16 => ?_
   refine s_step rfl (by decide) rfl fun _ hS => ?_
   repeat refine And.intro qLv2 ?_
   refine hS _ _ _ ?_
   clear hS
   refine s_step rfl (by decide) rfl fun _ hS => ?_
   repeat refine And.intro qLv2 ?_
   first | refine hS _ _ _ ?_ | (refine whole_yes qLv2 ?_; refine hS _ _ _ ?_) | (refine whole_sub ?_; refine hS _ _ _ ?_)
   clear hS
   refine s_step rfl (by decide) rfl fun _ hS => ?_
   repeat refine And.intro qLv2 ?_
   refine hS _ _ _ ?_
   clear hS
   refine s_step rfl (by decide) rfl fun _ hS => ?_
   repeat refine And.intro qLv2 ?_
   refine hS _ _ _ ?_
   clear hS
   refine s_step rfl (by decide) rfl fun _ hS => ?_
   repeat refine And.intro qLv2 ?_
   first | refine hS _ _ _ ?_ | (refine whole_yes qLv2 ?_; refine hS _ _ _ ?_) | (refine whole_sub ?_; refine hS _ _ _ ?_)
   clear hS
   refine s_step rfl (by decide) rfl fun _ hS => ?_
   repeat refine And.intro qLv2 ?_
   refine hS _ _ _ ?_
   clear hS
   refine s_step rfl (by decide) rfl fun _ hS => ?_
   repeat refine And.intro qLv2 ?_
   refine hS _ _ _ ?_
   clear hS
   refine s_step rfl (by decide) rfl fun _ hS => ?_
   repeat refine And.intro qLv2 ?_
   first | refine hS _ _ _ ?_ | (refine whole_yes qLv2 ?_; refine hS _ _ _ ?_) | (refine whole_sub ?_; refine hS _ _ _ ?_)
   clear hS
   refine s_step rfl (by decide) rfl fun _ hS => ?_
   repeat refine And.intro qLv2 ?_
   first | refine hS _ _ _ ?_ | (refine whole_yes qLv2 ?_; refine hS _ _ _ ?_) | (refine whole_sub ?_; refine hS _ _ _ ?_)
   clear hS
   refine s_step rfl (by decide) rfl fun _ hS => ?_
   repeat refine And.intro qLv2 ?_
   refine hS _ _ _ ?_
   clear hS
   refine s_step rfl (by decide) rfl fun _ hS => ?_
   repeat refine And.intro qLv2 ?_
   refine hS _ _ _ ?_
   clear hS
   refine s_step rfl (by decide) rfl fun _ hS => ?_
   repeat refine And.intro qLv2 ?_
   refine hS _ _ _ ?_
   clear hS
   refine s_step0 rfl rfl fun _ hS => ?_
   repeat refine And.intro qLv2 ?_
   first | refine hS _ _ _ ?_ | (refine splice_full qLv2 ?_; refine hS _ _ _ ?_)
   clear hS
   refine s_nil ?_
   refine hK16 _ _ _ ?_
   refine Done_some [3] (fun i => if i = 1 then 4 else i) () trivial ⟨?_, ?_, (by decide : List.Nodup ([0, 4] : List Nat)), ?_, ?_, ⟨Nat.zero_le _, fun i hi => absurd hi (Nat.not_lt_zero i)⟩⟩
   ·exact uLv1
   ·repeat' (first | exact trivial | refine And.intro ?_ ?_ | rfl | omega | decide | (show (_ : Nat) < _; decide) | exact low_nil' | refine low_cons' ?_ ?_ | exact Nat.le_refl _ | exact Nat.succ_pos _)
    all_goals first | omega | exact low_rows _ | exact allTo_rows _ | (show (_ : List Bool) = _; first | exact hacc | exact machA_step _ _ | exact machA_stay _ _ hc3 | rfl | (simp [machA, machAc]; done)) | (show (_ : List Int) = _; first | rfl | exact hrow2 | exact hrow | exact machRow_stay _ _ _ | (simp [machRow]; done)) | (simp; done) | (simp <;> omega) | (dsimp only; (repeat' split) <;> omega) | skip
    all_goals first | (rw [if_pos ⟨rfl, rfl⟩]; rfl) | skip
   ·exact uLv1
   ·exact uLv1
  ·intro _ _
   refine seq_k fun _ hK17 => ?_
   refine seq_k fun _ hK18 => ?_
   refine region_k g0_ok fun _ hK19 => ?_
   refine s_step rfl (by decide) rfl fun _ hS => ?_
   refine hS _ _ _ ?_
   clear hS
   refine s_nil ?_
   refine hK19 _ _ _ ?_
   refine hK18 _ _ _ ?_
   refine WP_block ?_
   refine WP_nilat 1 1 47 (.cells []) rfl rfl rfl low_nil' ?_
   refine WP_nilat 1 2 4 (.bools []) rfl rfl rfl trivial ?_
   refine WP_loop (α := Nat × Nat × Nat) (fun s => [(0, .c (.ds l.length (.u8s l))), (2, .c (.ptr 0 0)), (3, .c (.int .i64 (machN l))), (6, .c (.ptr 1 0)), (7, .c (.int .i64 s.1))]) (fun s => [(0, .own 40 (.cells [.nils, .nils, .nils]) 3), (1, .own 40 (.cells [.ds 3 (.u64s mcls), .slice 2 0 s.1 s.2.1, .slice 3 0 s.1 s.2.2]) 3), (2, .own 47 (.cells (rowsC (machNx l (machN l) s.1))) s.2.1), (3, .own 4 (.bools (machAc l s.1)) s.2.2)]) 4 (fun s => s.1 ≤ machN l) (fun s => machN l - s.1) ?_ ?_
   ·refine Done_some [] id (0, 0, 0) (Nat.zero_le _) ⟨?_, ?_, (by decide : List.Nodup ([0, 1, 2, 3] : List Nat)), ?_, ?_, ⟨Nat.zero_le _, fun i hi => absurd hi (Nat.not_lt_zero i)⟩⟩
    ·exact uLv1
    ·exact uLv1
    ·exact uLv1
    ·exact uLv1
   ·intro s hs
    refine seq_k fun _ hK20 => ?_
    refine seq_k fun _ hK21 => ?_
    refine region_k g0_ok fun _ hK22 => ?_
    refine s_step rfl (by decide) rfl fun _ hS => ?_
    refine hS _ _ _ ?_
    clear hS
    refine s_step rfl (by decide) rfl fun _ hS => ?_
    refine hS _ _ _ ?_
    clear hS
    refine s_step rfl (by decide) rfl fun _ hS => ?_
    repeat refine And.intro qLv0 ?_
    refine hS _ _ _ ?_
    clear hS
    refine s_nil ?_
    refine hK22 _ _ _ ?_
    refine hK21 _ _ _ ?_
    refine WP_cond (b := _) rfl (fun h_t37 => ?_) (fun h_t37 => ?_)
    ·try try simp only [decide_eq_true_eq] at h_t37
     refine WP_skip ?_
     refine hK20 _ _ _ ?_
     refine seq_k fun _ hK23 => ?_
     refine WP_block ?_
     refine seq_k fun _ hK24 => ?_
     refine region_k g0_ok fun _ hK25 => ?_
     refine s_step rfl (by decide) rfl fun _ hS => ?_
     repeat refine And.intro qLv0 ?_
     refine hS _ _ _ ?_
     clear hS
     refine s_step rfl (by decide) rfl fun _ hS => ?_
     refine hS _ _ _ ?_
     clear hS
     refine s_nil ?_
     refine hK25 _ _ _ ?_
     refine hK24 _ _ _ ?_
     refine seq_k fun _ hK26 => ?_
     refine seq_k fun _ hK27 => ?_
     refine region_k g0_ok fun _ hK28 => ?_
     refine s_step rfl (by decide) rfl fun _ hS => ?_
     refine hS _ _ _ ?_
     clear hS
     refine s_nil ?_
     refine hK28 _ _ _ ?_
     refine hK27 _ _ _ ?_
     refine WP_block ?_
     refine WP_loop (α := Nat × Nat × Nat) (fun k => [(0, .c (.ds l.length (.u8s l))), (2, .c (.ptr 0 0)), (3, .c (.int .i64 (machN l))), (6, .c (.ptr 1 0)), (7, .c (.int .i64 s.1)), (8, .c (.slice 4 0 (min k.1 3) k.2.1)), (9, .c (.int .i64 k.1))]) (fun k => [(0, .own 40 (.cells [.nils, .nils, .nils]) 3), (1, .own 40 (.cells [.ds 3 (.u64s mcls), .slice 2 0 s.1 s.2.1, .slice 3 0 (if k.1 = 4 then s.1 + 1 else s.1) k.2.2]) 3), (2, .own 47 (.cells (rowsC (machNx l (machN l) s.1))) s.2.1), (3, .own 4 (.bools (machA l s.1 k.1)) k.2.2), (4, .own 3 (.ints .i64 (machRow l (machN l) s.1 k.1)) k.2.1)]) 5 (fun k => k.1 ≤ 4) (fun k => 4 - k.1) ?_ ?_
     ·refine Done_some [] id (0, 0, s.2.2) (Nat.zero_le _) ⟨?_, ?_, (by decide : List.Nodup ([0, 1, 2, 3, 4] : List Nat)), ?_, ?_, ⟨Nat.zero_le _, fun i hi => absurd hi (Nat.not_lt_zero i)⟩⟩
      ·exact uLv1
      ·exact uLv1
      ·exact uLv1
      ·exact uLv1
     ·intro k hk
      refine seq_k fun _ hK29 => ?_
      refine seq_k fun _ hK30 => ?_
      refine region_k g0_ok fun _ hK31 => ?_
      refine s_step rfl (by decide) rfl fun _ hS => ?_
      refine hS _ _ _ ?_
      clear hS
      refine s_step rfl (by decide) rfl fun _ hS => ?_
      repeat refine And.intro qLv0 ?_
      refine hS _ _ _ ?_
      clear hS
      refine s_nil ?_
      refine hK31 _ _ _ ?_
      refine hK30 _ _ _ ?_
      refine WP_cond (b := _) rfl (fun h_t42 => ?_) (fun h_t42 => ?_)
      ·try try simp only [decide_eq_true_eq] at h_t42
       refine WP_skip ?_
       refine hK29 _ _ _ ?_
       refine seq_k fun _ hK32 => ?_
       refine WP_block ?_
       refine seq_k fun _ hK33 => ?_
       refine region_k g0_ok fun _ hK34 => ?_
       refine s_step rfl (by decide) rfl fun _ hS => ?_
       refine hS _ _ _ ?_
       clear hS
       refine s_nil ?_
       refine hK34 _ _ _ ?_
       refine hK33 _ _ _ ?_
       refine WP_cut (α := Unit) (fun _ => [(0, .c (.ds l.length (.u8s l))), (2, .c (.ptr 0 0)), (3, .c (.int .i64 (machN l))), (6, .c (.ptr 1 0)), (7, .c (.int .i64 s.1)), (8, .c (.slice 4 0 (min k.1 3) k.2.1)), (9, .c (.int .i64 k.1)), (10, .c (.int .i64 (machK l s.1 k.1)))]) (fun _ => [(0, .own 40 (.cells [.nils, .nils, .nils]) 3), (1, .own 40 (.cells [.ds 3 (.u64s mcls), .slice 2 0 s.1 s.2.1, .slice 3 0 (if k.1 = 4 then s.1 + 1 else s.1) k.2.2]) 3), (2, .own 47 (.cells (rowsC (machNx l (machN l) s.1))) s.2.1), (3, .own 4 (.bools (machA l s.1 k.1)) k.2.2), (4, .own 3 (.ints .i64 (machRow l (machN l) s.1 k.1)) k.2.1)]) 5 (fun _ => True) ?_ ?_
       ·skip
        refine seq_k fun _ hK35 => ?_
        refine region_k g0_ok fun _ hK36 => ?_
        refine s_step rfl (by decide) rfl fun _ hS => ?_
        refine hS _ _ _ ?_
        clear hS
        refine s_step rfl (by decide) rfl fun _ hS => ?_
        repeat refine And.intro qLv0 ?_
        refine hS _ _ _ ?_
        clear hS
        refine s_step rfl (by decide) rfl fun _ hS => ?_
        repeat refine And.intro qLv0 ?_
        refine hS _ _ _ ?_
        clear hS
        refine s_step rfl (by decide) rfl fun _ hS => ?_
        refine hS _ _ _ ?_
        clear hS
        refine s_step rfl (by decide) rfl fun _ hS => ?_
        repeat refine And.intro qLv0 ?_
        refine hS _ _ _ ?_
        clear hS
        refine s_step rfl (by decide) rfl fun _ hS => ?_
        refine hS _ _ _ ?_
        clear hS
        refine s_step rfl (by decide) rfl fun _ hS => ?_
        repeat refine And.intro qLv0 ?_
        refine hS _ _ _ ?_
        clear hS
        refine s_step rfl (by decide) rfl fun _ hS => ?_
        repeat refine And.intro qLv0 ?_
        refine hS _ _ _ ?_
        clear hS
        refine s_nil ?_
        refine hK36 _ _ _ ?_
        refine hK35 _ _ _ ?_
        refine WP_cond (b := _) rfl (fun h_t52 => ?_) (fun h_t52 => ?_)
        ·try try simp only [decide_eq_true_eq] at h_t52
         refine region_k g0_ok fun _ hK37 => ?_
         refine s_step rfl (by decide) rfl fun _ hS => ?_
         refine hS _ _ _ ?_
         clear hS
         refine s_step rfl (by decide) rfl fun _ hS => ?_
         refine hS _ _ _ ?_
         clear hS
         refine s_step rfl (by decide) rfl fun _ hS => ?_
         repeat refine And.intro qLv0 ?_
         refine hS _ _ _ ?_
         clear hS
         refine s_step rfl (by decide) rfl fun _ hS => ?_
         repeat refine And.intro qLv0 ?_
         refine hS _ _ _ ?_
         clear hS
         refine s_step rfl (by decide) rfl fun _ hS => ?_
         refine hS _ _ _ ?_
         clear hS
         refine s_step rfl (by decide) rfl fun _ hS => ?_
         repeat refine And.intro qLv0 ?_
         refine hS _ _ _ ?_
         clear hS
         refine s_step rfl (by decide) rfl fun _ hS => ?_
         repeat refine And.intro qLv0 ?_
         refine hS _ _ _ ?_
         clear hS
         refine s_step rfl (by decide) rfl fun _ hS => ?_
         repeat refine And.intro qLv0 ?_
         first | refine hS _ _ _ ?_ | (refine whole_yes qLv0 ?_; refine hS _ _ _ ?_) | (refine whole_sub ?_; refine hS _ _ _ ?_)
         clear hS
         refine s_step rfl (by decide) rfl fun _ hS => ?_
         repeat first | refine And.intro qLv0 ?_ | refine whole_yes qLv0 ?_ | refine whole_sub ?_
         refine hS _ _ _ ?_
         clear hS
         refine s_step rfl (by decide) rfl fun _ hS => ?_
         refine hS _ _ _ ?_
         clear hS
         refine s_nil ?_
         refine hK37 _ _ _ ?_
         have hidx : (1 + 4 * (s.1 : Int) + (k.1 : Int)).toNat * 1 = 1 + 4 * s.1 + k.1 := by omega
         refine Done_some [] id () trivial ⟨?_, ?_, (by decide : List.Nodup ([0, 1, 2, 3, 4] : List Nat)), ?_, ?_, ⟨Nat.zero_le _, fun i hi => absurd hi (Nat.not_lt_zero i)⟩⟩
         ·exact uLv2
         ·exact uLv1
         ·exact uLv1
         ·exact uLv1
        ·try try simp only [decide_eq_false_iff_not, Int.not_lt] at h_t52
         refine WP_skip ?_
         refine Done_some [] id () trivial ⟨?_, ?_, (by decide : List.Nodup ([0, 1, 2, 3, 4] : List Nat)), ?_, ?_, ⟨Nat.zero_le _, fun i hi => absurd hi (Nat.not_lt_zero i)⟩⟩
         ·exact uLv2
         ·exact uLv1
         ·exact uLv1
         ·exact uLv1
       ·intro _ _
        refine seq_k fun _ hK38 => ?_
        refine region_k g0_ok fun _ hK39 => ?_
        refine s_step rfl (by decide) rfl fun _ hS => ?_
        refine hS _ _ _ ?_
        clear hS
        refine s_step rfl (by decide) rfl fun _ hS => ?_
        repeat refine And.intro qLv0 ?_
        refine hS _ _ _ ?_
        clear hS
        refine s_nil ?_
        refine hK39 _ _ _ ?_
        refine hK38 _ _ _ ?_
        refine WP_cond (b := _) rfl (fun h_t63 => ?_) (fun h_t63 => ?_)
        ·try try simp only [decide_eq_true_eq] at h_t63
         have hc3 : k.1 < 3 := by omega
         have hkl := machK_lt l s.1 k.1
         refine region_k g0_ok fun _ hK40 => ?_
         refine s_step rfl (by decide) rfl fun _ hS => ?_
         refine hS _ _ _ ?_
         clear hS
         refine s_step rfl (by decide) rfl fun _ hS => ?_
         refine hS _ _ _ ?_
         clear hS
         refine s_step rfl (by decide) rfl fun _ hS => ?_
         refine hS _ _ _ ?_
         clear hS
         refine s_step rfl (by decide) rfl fun _ hS => ?_
         repeat refine And.intro qLv3 ?_
         refine hS _ _ _ ?_
         clear hS
         refine s_step rfl (by decide) rfl fun _ hS => ?_
         repeat refine And.intro qLv3 ?_
         refine hS _ _ _ ?_
         clear hS
         refine s_step rfl (by decide) rfl fun _ hS => ?_
         repeat first | refine And.intro qLv3 ?_ | refine whole_yes qLv3 ?_ | refine whole_sub ?_
         intro cap5 hcap5; refine hS _ _ _ ?_
         clear hS
         refine s_step rfl (by decide) rfl fun _ hS => ?_
         refine hS _ _ _ ?_
         clear hS
         refine s_nil ?_
         refine hK40 _ _ _ ?_
         have hrow : machRow l (machN l) s.1 k.1 ++ ([] ++ [((machK l s.1 k.1 : Nat) : Int) % ((machN l : Nat) : Int)]) = machRow l (machN l) s.1 (k.1 + 1) := by rw [List.nil_append, ← machRow_step l _ s.1 hc3]; congr 2
         refine done_block ?_
         refine hK32 _ _ _ ?_
         refine region_k g0_ok fun _ hK41 => ?_
         refine s_step rfl (by decide) rfl fun _ hS => ?_
         refine hS _ _ _ ?_
         clear hS
         refine s_step rfl (by decide) rfl fun _ hS => ?_
         repeat refine And.intro qLv0 ?_
         refine hS _ _ _ ?_
         clear hS
         refine s_step rfl (by decide) rfl fun _ hS => ?_
         refine hS _ _ _ ?_
         clear hS
         refine s_nil ?_
         refine hK41 _ _ _ ?_
         refine Done_some [] (fun i => if i = 4 then 6 else i) (k.1 + 1, cap5, k.2.2) ⟨by omega, by omega⟩ ⟨?_, ?_, (by decide : List.Nodup ([0, 1, 2, 3, 6] : List Nat)), ?_, ?_, ⟨Nat.zero_le _, fun i hi => absurd hi (Nat.not_lt_zero i)⟩⟩
         ·exact uLv1
         ·exact uLv1
         ·exact uLv1
         ·exact uLv1
        ·try try simp only [decide_eq_false_iff_not, Int.not_lt] at h_t63
         have hc3 : k.1 = 3 := by omega
         refine region_k g0_ok fun _ hK42 => ?_
         refine s_step rfl (by decide) rfl fun _ hS => ?_
         repeat refine And.intro qLv4 ?_
         refine hS _ _ _ ?_
         clear hS
         refine s_step rfl (by decide) rfl fun _ hS => ?_
         repeat refine And.intro qLv4 ?_
         first | refine hS _ _ _ ?_ | (refine whole_yes qLv4 ?_; refine hS _ _ _ ?_) | (refine whole_sub ?_; refine hS _ _ _ ?_)
         clear hS
         refine s_step rfl (by decide) rfl fun _ hS => ?_
         refine hS _ _ _ ?_
         clear hS
         refine s_step rfl (by decide) rfl fun _ hS => ?_
         repeat refine And.intro qLv4 ?_
         refine hS _ _ _ ?_
         clear hS
         refine s_step rfl (by decide) rfl fun _ hS => ?_
         repeat refine And.intro qLv4 ?_
         refine hS _ _ _ ?_
         clear hS
         refine s_step rfl (by decide) rfl fun _ hS => ?_
         repeat refine And.intro qLv4 ?_
         refine hS _ _ _ ?_
         clear hS
         refine s_step rfl (by decide) rfl fun _ hS => ?_
         repeat first | refine And.intro qLv4 ?_ | refine whole_yes qLv4 ?_ | refine whole_sub ?_
         intro cap6 hcap6; refine hS _ _ _ ?_
         clear hS
         refine s_step rfl (by decide) rfl fun _ hS => ?_
         repeat refine And.intro qLv4 ?_
         refine hS _ _ _ ?_
         clear hS
         refine s_step0 rfl rfl fun _ hS => ?_
         repeat refine And.intro qLv4 ?_
         first | refine hS _ _ _ ?_ | (refine splice_full qLv4 ?_; refine hS _ _ _ ?_)
         clear hS
         refine s_nil ?_
         refine hK42 _ _ _ ?_
         have hacc : machA l s.1 k.1 ++ ([] ++ [decide (((machK l s.1 k.1 : Nat) : Int) % 3 = 1)]) = machA l s.1 (k.1 + 1) := by rw [hc3, List.nil_append, show (decide (((machK l s.1 3 : Nat) : Int) % 3 = 1)) = decide (machK l s.1 3 % 3 = 1) from decide_eq_decide.2 (by omega), machA_step]
         have hrow2 : machRow l (machN l) s.1 k.1 = machRow l (machN l) s.1 (k.1 + 1) := by rw [hc3]; rfl
         refine done_block ?_
         refine hK32 _ _ _ ?_
         refine region_k g0_ok fun _ hK43 => ?_
         refine s_step rfl (by decide) rfl fun _ hS => ?_
         refine hS _ _ _ ?_
         clear hS
         refine s_step rfl (by decide) rfl fun _ hS => ?_
         repeat refine And.intro qLv0 ?_
         refine hS _ _ _ ?_
         clear hS
         refine s_step rfl (by decide) rfl fun _ hS => ?_
         refine hS _ _ _ ?_
         clear hS
         refine s_nil ?_
         refine hK43 _ _ _ ?_
         refine Done_some [] (fun i => if i = 3 then 6 else i) (k.1 + 1, k.2.1, cap6) ⟨by omega, by omega⟩ ⟨?_, ?_, (by decide : List.Nodup ([0, 1, 2, 6, 4] : List Nat)), ?_, ?_, ⟨Nat.zero_le _, fun i hi => absurd hi (Nat.not_lt_zero i)⟩⟩
         ·exact uLv1
         ·exact uLv1
         ·exact uLv1
         ·exact uLv1
      ·try try simp only [decide_eq_false_iff_not, Int.not_lt] at h_t42
       refine WP_exit ?_
       refine done_thenx ?_
       refine done_thenx ?_
       refine Done_hit ?_
       refine hK26 _ _ _ ?_
       refine region_k g0_ok fun _ hK44 => ?_
       refine s_step rfl (by decide) rfl fun _ hS => ?_
       repeat refine And.intro qLv5 ?_
       refine hS _ _ _ ?_
       clear hS
       refine s_step rfl (by decide) rfl fun _ hS => ?_
       repeat refine And.intro qLv5 ?_
       first | refine hS _ _ _ ?_ | (refine whole_yes qLv5 ?_; refine hS _ _ _ ?_) | (refine whole_sub ?_; refine hS _ _ _ ?_)
       clear hS
       refine s_step rfl (by decide) rfl fun _ hS => ?_
       refine hS _ _ _ ?_
       clear hS
       refine s_step rfl (by decide) rfl fun _ hS => ?_
       repeat refine And.intro qLv5 ?_
       refine hS _ _ _ ?_
       clear hS
       refine s_step rfl (by decide) rfl fun _ hS => ?_
       repeat first | refine And.intro qLv5 ?_ | refine whole_yes qLv5 ?_ | refine whole_sub ?_
       intro cap4 hcap4; refine hS _ _ _ ?_
       clear hS
       refine s_step rfl (by decide) rfl fun _ hS => ?_
       repeat refine And.intro qLv5 ?_
       refine hS _ _ _ ?_
       clear hS
       refine s_step0 rfl rfl fun _ hS => ?_
       repeat refine And.intro qLv5 ?_
       first | refine hS _ _ _ ?_ | (refine splice_full qLv5 ?_; refine hS _ _ _ ?_)
       clear hS
       refine s_nil ?_
       refine hK44 _ _ _ ?_
       refine done_block ?_
       refine hK23 _ _ _ ?_
       refine region_k g0_ok fun _ hK45 => ?_
       refine s_step rfl (by decide) rfl fun _ hS => ?_
       refine hS _ _ _ ?_
       clear hS
       refine s_step rfl (by decide) rfl fun _ hS => ?_
       repeat refine And.intro qLv0 ?_
       refine hS _ _ _ ?_
       clear hS
       refine s_step rfl (by decide) rfl fun _ hS => ?_
       refine hS _ _ _ ?_
       clear hS
       refine s_nil ?_
       refine hK45 _ _ _ ?_
       have hk4 : k.1 = 4 := by omega
       refine Done_some [4] (fun i => if i = 2 then 6 else i) (s.1 + 1, cap4, k.2.2) ⟨by omega, by omega⟩ ⟨?_, ?_, (by decide : List.Nodup ([0, 1, 6, 3] : List Nat)), ?_, ?_, ⟨Nat.zero_le _, fun i hi => absurd hi (Nat.not_lt_zero i)⟩⟩
       ·repeat' (first | exact trivial | refine And.intro ?_ ?_ | rfl | omega | decide | (show (_ : Nat) < _; decide) | exact low_nil' | refine low_cons' ?_ ?_ | exact Nat.le_refl _ | exact Nat.succ_pos _)
        all_goals first | omega | (rw [hk4]; rfl) | exact low_rows _ | exact allTo_rows _ | (show (_ : List Bool) = _; first | exact hacc | exact machA_step _ _ | exact machA_stay _ _ hc3 | rfl | (simp [machA, machAc]; done)) | (show (_ : List Int) = _; first | rfl | exact hrow2 | exact hrow | exact machRow_stay _ _ _ | (simp [machRow]; done)) | (simp; done) | (simp <;> omega) | (dsimp only; (repeat' split) <;> omega) | skip
       ·repeat' (first | exact trivial | refine And.intro ?_ ?_ | rfl | omega | decide | (show (_ : Nat) < _; decide) | exact low_nil' | refine low_cons' ?_ ?_ | exact Nat.le_refl _ | exact Nat.succ_pos _)
        all_goals first | omega | (rw [hk4]; rfl) | (show Cell.to1 _ _ _ _ _ _; exact True.elim) | (show allTo _ (rowsC _ ++ _) (rowsC _); rw [← machNx_step, ← rowsC_append]; exact allTo_app' (allTo_rows _) ⟨⟨List.mem_singleton.2 rfl, trivial, by simp, Nat.one_pos, by simp; omega, by rw [hk4, if_pos ⟨rfl, by simp⟩]; rfl⟩, trivial⟩) | (show (_ : List Bool) = _; rw [hk4]; simp [machA]; done) | exact low_rows _ | exact allTo_rows _ | (show (_ : List Bool) = _; first | exact hacc | exact machA_step _ _ | exact machA_stay _ _ hc3 | rfl | (simp [machA, machAc]; done)) | (show (_ : List Int) = _; first | rfl | exact hrow2 | exact hrow | exact machRow_stay _ _ _ | (simp [machRow]; done)) | (simp; done) | (simp <;> omega) | (dsimp only; (repeat' split) <;> omega) | skip
       ·exact uLv1
       ·exact uLv1
    ·try try simp only [decide_eq_false_iff_not, Int.not_lt] at h_t37
     refine WP_exit ?_
     refine done_thenx ?_
     refine done_thenx ?_
     refine Done_hit ?_
     refine hK17 _ _ _ ?_
     refine seq_k fun _ hK46 => ?_
     obtain ⟨s, cN, cA⟩ := s
     obtain rfl : s = machN l := by have := hs; simp at h_t37 this; omega
     refine region_k g0_ok fun _ hK47 => ?_
     refine s_step rfl (by decide) rfl fun _ hS => ?_
     repeat refine And.intro qLv0 ?_
     first | refine hS _ _ _ ?_ | (refine whole_yes qLv0 ?_; refine hS _ _ _ ?_) | (refine whole_sub ?_; refine hS _ _ _ ?_)
     clear hS
     refine s_step0 rfl rfl fun _ hS => ?_
     repeat refine And.intro qLv0 ?_
     first | refine hS _ _ _ ?_ | (refine splice_full qLv0 ?_; refine hS _ _ _ ?_)
     clear hS
     refine s_nil ?_
     refine hK47 _ _ _ ?_
     refine hK46 _ _ _ ?_
     refine WP_ret (Done_data g0_ok (fun _ _ h => h) (low_cons' trivial (low_cons' trivial (low_cons' trivial low_nil'))) [2, 3] [.cell 2 40] rfl ?_)
     repeat' (first | exact trivial | refine And.intro ?_ ?_ | rfl | omega | decide | (show (_ : Nat) < _; decide) | exact low_nil' | refine low_cons' ?_ ?_ | exact Nat.le_refl _ | exact Nat.succ_pos _)
     all_goals first | omega | exact allD_rows _ | (simp [machL]; done) | (simp [machL] <;> omega) | skip
end Go.Proofs.YtpfncffapgkjaaaDoor
