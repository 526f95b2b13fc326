/- The reference: sets of states read. -/
import Derived.Test.YtpfncffapgkjaaaDoorAb14
import Derived.Test.YtpfncffapgkjaaaDoorAb21
import Derived.Test.YtpfncffapgkjaaaDoorAb22
import Derived.Test.YtpfncffapgkjaaaDoorCtx
import Derived.Test.YtpfncffapgkjaaaDoorLa
import Derived.Test.YtpfncffapgkjaaaDoorLd
import Derived.Test.YtpfncffapgkjaaaDoorLi
import Derived.Test.YtpfncffapgkjaaaDoorLj
import Derived.Test.YtpfncffapgkjaaaDoorLm
import Derived.Test.YtpfncffapgkjaaaDoorLs
namespace Go.Proofs.YtpfncffapgkjaaaDoor
set_option linter.unusedVariables false
open Go.Ab Go.RowKit

theorem qLt0 {a : Prop} (h : a := by first | omega | exact trivial | rfl | (simp only [len_u8s, len_u32s, len_u64s, len_ints, len_bools, len_cells]; omega) | exact inR_i64.mpr ⟨by omega, by omega⟩ | (simp <;> omega) | (refine And.intro ?_ ?_ <;> exact trivial) | exact ⟨trivial, trivial, trivial⟩ | decide | (refine And.intro rfl ?_; (repeat first | exact trivial | refine And.intro rfl ?_); done) | exact Nat.succ_pos _ | exact Nat.le_refl _ | (refine And.intro trivial ?_; (repeat first | exact trivial | refine And.intro trivial ?_); done)) : a := h
theorem qLt1 {a : Prop} (h : a := by first | omega | exact trivial | rfl | (simp only [len_u8s, len_u32s, len_u64s, len_ints, len_bools, len_cells]; omega) | exact inR_i64.mpr ⟨by omega, by omega⟩ | (simp <;> omega) | (simp only [len_bools]; omega) | (refine And.intro ?_ ?_ <;> exact trivial) | exact ⟨trivial, trivial, trivial⟩ | decide | (refine And.intro rfl ?_; (repeat first | exact trivial | refine And.intro rfl ?_); done) | exact Nat.succ_pos _ | exact Nat.le_refl _ | (refine And.intro trivial ?_; (repeat first | exact trivial | refine And.intro trivial ?_); done)) : a := h
theorem qLt2 {a : Prop} (h : a := by first | omega | exact trivial | rfl | (simp only [len_u8s, len_u32s, len_u64s, len_ints, len_bools, len_cells]; omega) | exact inR_i64.mpr ⟨by omega, by omega⟩ | (simp <;> omega) | (simp <;> omega) | (refine And.intro ?_ ?_ <;> exact trivial) | exact ⟨trivial, trivial, trivial⟩ | decide | (refine And.intro rfl ?_; (repeat first | exact trivial | refine And.intro rfl ?_); done) | exact Nat.succ_pos _ | exact Nat.le_refl _ | (refine And.intro trivial ?_; (repeat first | exact trivial | refine And.intro trivial ?_); done)) : a := h

theorem uLt0 {a : Prop} (h : a := by
    repeat' (first | exact trivial | refine And.intro ?_ ?_ | rfl | omega | decide | (show (_ : Nat) < _; decide) | exact low_nil' | refine low_cons' ?_ ?_ | exact Nat.le_refl _ | exact Nat.succ_pos _)
    all_goals first | omega | exact low_rows _ | exact low_sets _ | (exact allTo_sets _) | exact low_cons' trivial (low_cons' trivial (low_cons' trivial low_nil')) | (show (_ : List Bool) = _; first | exact preL_step _ hka | exact postL_step _ hka | exact preL_stay _ hka | exact postL_stay _ hka | exact hst | (rw [← hst]; simp [hb3]; done) | (simp [preL, postL]; done)) | (simp; done) | (simp <;> omega) | exact maxI _ _ | skip) : a := h
theorem uLt1 {a : Prop} (h : a := by
    repeat' (first | exact trivial | refine And.intro ?_ ?_ | rfl | omega | decide | (show (_ : Nat) < _; decide) | exact low_nil' | refine low_cons' ?_ ?_ | exact Nat.le_refl _ | exact Nat.succ_pos _)
    all_goals first | omega | (show (_ : Bool) = _; simp [hb1]; done) | (show (_ : Bool) = _; rw [hb1, h9]; simp; done) | (show (_ : Bool) = _; rw [h9]; simp [hb1]; done) | exact low_rows _ | exact low_sets _ | (exact allTo_sets _) | exact low_cons' trivial (low_cons' trivial (low_cons' trivial low_nil')) | (show (_ : List Bool) = _; first | exact preL_step _ hka | exact postL_step _ hka | exact preL_stay _ hka | exact postL_stay _ hka | exact hst | (rw [← hst]; simp [hb3]; done) | (simp [preL, postL]; done)) | (simp; done) | (simp <;> omega) | exact maxI _ _ | skip) : a := h

def readS : QSpec := fun vs K => ∃ d l, ∃ h : Nat, vs = [dfaV d, .c (.ds l.length (.cells (setsC l))), .c (.int .i64 h)] ∧ d.wf ∧ (h ≤ l.length ∧ l.length ≤ 1048576 ∧ ∀ b ∈ l, b.length ≤ d.acc.length ∧ b.length ≤ 64) ∧ K (lsV (tabL (fun n => accR d (l.getD n [])) h (l.length - h)).1 (tabL (fun n => accR d (l.getD n [])) h (l.length - h)).2)
set_option maxHeartbeats 1000000 in
theorem read_ok : DataOK Tryd.prog gl 50 readS := by
 refine data_of (Γ := g0) (N := 60) Tryd.func50 rfl rfl fun vs K h => ?_
 obtain ⟨d, l, h, rfl, ⟨hw1, hw2, hw3, hw4, hw5⟩, ⟨hh, hl, hlen⟩, hK⟩ := h
 refine ⟨_, hK, low_lsC, by simp, fun w I => ?_⟩
 refine seq_k fun _ hK1 => ?_
 refine region_k g0_ok fun _ hK2 => ?_
 refine s_step rfl (by decide) rfl fun _ hS => ?_
 repeat refine And.intro qLt0 ?_
 refine hS _ _ _ ?_
 clear hS
 refine s_step rfl (by decide) rfl fun _ hS => ?_
 repeat refine And.intro qLt0 ?_
 refine hS _ _ _ ?_
 clear hS
 refine s_nil ?_
 refine hK2 _ _ _ ?_
 refine hK1 _ _ _ ?_
 refine seq_k fun _ hK3 => ?_
 refine region_k g0_ok fun _ hK4 => ?_
 refine s_step rfl (by decide) rfl fun _ hS => ?_
 repeat refine And.intro qLt0 ?_
 refine hS _ _ _ ?_
 clear hS
 refine s_step rfl (by decide) rfl fun _ hS => ?_
 repeat refine And.intro qLt0 ?_
 refine hS _ _ _ ?_
 clear hS
 refine s_step0 rfl rfl fun _ hS => ?_
 repeat refine And.intro qLt0 ?_
 first | refine hS _ _ _ ?_ | (refine splice_full qLt0 ?_; refine hS _ _ _ ?_)
 clear hS
 refine s_nil ?_
 refine hK4 _ _ _ ?_
 refine hK3 _ _ _ ?_
 refine seq_k fun _ hK5 => ?_
 refine seq_k fun _ hK6 => ?_
 refine region_k g0_ok fun _ hK7 => ?_
 refine s_step rfl (by decide) rfl fun _ hS => ?_
 refine hS _ _ _ ?_
 clear hS
 refine s_nil ?_
 refine hK7 _ _ _ ?_
 refine hK6 _ _ _ ?_
 refine WP_block ?_
 refine WP_nilat 2 0 4 (.bools []) rfl rfl rfl trivial ?_
 refine WP_nilat 2 1 4 (.bools []) rfl rfl rfl trivial ?_
 refine WP_loop (α := Nat × Nat × Nat) (fun k => [(1, .c (.ds l.length (.cells (setsC l)))), (2, .c (.int .i64 h)), (3, .c (.ptr 0 0)), (6, .c (.ptr 1 0)), (7, .c (.ptr 2 0)), (8, .c (.int .i64 k.1))]) (fun k => [(0, .own 40 (dfaC d) 3), (1, .own 24 (.cells [.nils, .nils]) 2), (2, .own 24 (.cells [.slice 3 0 (preL (fun n => accR d (l.getD n [])) h k.1).length k.2.1, .slice 4 0 (postL (fun n => accR d (l.getD n [])) h k.1).length k.2.2]) 2), (3, .own 4 (.bools (preL (fun n => accR d (l.getD n [])) h k.1)) k.2.1), (4, .own 4 (.bools (postL (fun n => accR d (l.getD n [])) h k.1)) k.2.2)]) 5 (fun k => k.1 ≤ l.length) (fun k => l.length - k.1) ?_ ?_
 ·refine Done_some [] id (0, 0, 0) (Nat.zero_le _) ⟨?_, ?_, (by decide : List.Nodup ([0, 1, 2, 3, 4] : List Nat)), ?_, ?_, ⟨Nat.zero_le _, fun i hi => absurd hi (Nat.not_lt_zero i)⟩⟩
  ·exact uLt0
  ·exact uLt0
  ·exact uLt0
  ·exact uLt0
 ·intro k hk
  refine seq_k fun _ hK8 => ?_
  refine seq_k fun _ hK9 => ?_
  refine region_k g0_ok fun _ hK10 => ?_
  refine s_step rfl (by decide) rfl fun _ hS => ?_
  refine hS _ _ _ ?_
  clear hS
  refine s_step rfl (by decide) rfl fun _ hS => ?_
  refine hS _ _ _ ?_
  clear hS
  refine s_step rfl (by decide) rfl fun _ hS => ?_
  repeat refine And.intro qLt0 ?_
  refine hS _ _ _ ?_
  clear hS
  refine s_step rfl (by decide) rfl fun _ hS => ?_
  repeat refine And.intro qLt0 ?_
  refine hS _ _ _ ?_
  clear hS
  refine s_nil ?_
  refine hK10 _ _ _ ?_
  refine hK9 _ _ _ ?_
  refine WP_cond (b := _) rfl (fun h_t15 => ?_) (fun h_t15 => ?_)
  ·try try simp only [decide_eq_true_eq] at h_t15
   refine WP_skip ?_
   refine hK8 _ _ _ ?_
   refine seq_k fun _ hK11 => ?_
   refine WP_block ?_
   refine seq_k fun _ hK12 => ?_
   have hkl : k.1 < l.length := by omega
   have hln := hlen _ (getD_mem (d := []) hkl)
   refine region_k g0_ok fun _ hK13 => ?_
   refine s_step rfl (by decide) rfl fun _ hS => ?_
   refine hS _ _ _ ?_
   clear hS
   refine s_nil ?_
   refine hK13 _ _ _ ?_
   refine hK12 _ _ _ ?_
   refine WP_cut (α := Unit) (fun _ => [(1, .c (.ds l.length (.cells (setsC l)))), (2, .c (.int .i64 h)), (3, .c (.ptr 0 0)), (6, .c (.ptr 1 0)), (7, .c (.ptr 2 0)), (8, .c (.int .i64 k.1)), (9, .c (.bool ((fun n => accR d (l.getD n [])) k.1)))]) (fun _ => [(0, .own 40 (dfaC d) 3), (1, .own 24 (.cells [.nils, .nils]) 2), (2, .own 24 (.cells [.slice 3 0 (preL (fun n => accR d (l.getD n [])) h k.1).length k.2.1, .slice 4 0 (postL (fun n => accR d (l.getD n [])) h k.1).length k.2.2]) 2), (3, .own 4 (.bools (preL (fun n => accR d (l.getD n [])) h k.1)) k.2.1), (4, .own 4 (.bools (postL (fun n => accR d (l.getD n [])) h k.1)) k.2.2)]) 5 (fun _ => True) ?_ ?_
   ·skip
    refine seq_k fun _ hK14 => ?_
    refine region_k g0_ok fun _ hK15 => ?_
    refine s_step rfl (by decide) rfl fun _ hS => ?_
    refine hS _ _ _ ?_
    clear hS
    refine s_nil ?_
    refine hK15 _ _ _ ?_
    refine hK14 _ _ _ ?_
    refine WP_block ?_
    refine WP_loop (α := Nat × Bool) (fun x => [(1, .c (.ds l.length (.cells (setsC l)))), (2, .c (.int .i64 h)), (3, .c (.ptr 0 0)), (6, .c (.ptr 1 0)), (7, .c (.ptr 2 0)), (8, .c (.int .i64 k.1)), (9, .c (.bool x.2)), (10, .c (.int .i64 x.1))]) (fun x => [(0, .own 40 (dfaC d) 3), (1, .own 24 (.cells [.nils, .nils]) 2), (2, .own 24 (.cells [.slice 3 0 (preL (fun n => accR d (l.getD n [])) h k.1).length k.2.1, .slice 4 0 (postL (fun n => accR d (l.getD n [])) h k.1).length k.2.2]) 2), (3, .own 4 (.bools (preL (fun n => accR d (l.getD n [])) h k.1)) k.2.1), (4, .own 4 (.bools (postL (fun n => accR d (l.getD n [])) h k.1)) k.2.2)]) 5 (fun x => x.1 ≤ (l.getD k.1 []).length ∧ x.2 = (List.range x.1).any (fun s => (l.getD k.1 []).getD s false && d.acc.getD s false)) (fun x => (l.getD k.1 []).length - x.1) ?_ ?_
    ·refine Done_some [] id (0, false) ⟨Nat.zero_le _, rfl⟩ ⟨?_, ?_, (by decide : List.Nodup ([0, 1, 2, 3, 4] : List Nat)), ?_, ?_, ⟨Nat.zero_le _, fun i hi => absurd hi (Nat.not_lt_zero i)⟩⟩
     ·exact uLt0
     ·exact uLt0
     ·exact uLt0
     ·exact uLt0
    ·intro x hx
     refine seq_k fun _ hK16 => ?_
     refine seq_k fun _ hK17 => ?_
     refine region_k g0_ok fun _ hK18 => ?_
     refine s_step rfl (by decide) rfl fun _ hS => ?_
     refine hS _ _ _ ?_
     clear hS
     refine s_step rfl (by decide) rfl fun _ hS => ?_
     refine hS _ _ _ ?_
     clear hS
     refine s_step rfl (by decide) rfl fun _ hS => ?_
     refine hS _ _ _ ?_
     clear hS
     refine s_step rfl (by decide) rfl fun _ hS => ?_
     repeat refine And.intro qLt0 ?_
     refine hS _ _ _ ?_
     clear hS
     refine s_step rfl (by decide) rfl fun _ hS => ?_
     repeat refine And.intro qLt0 ?_
     rw [show (k.1 : Int).toNat * 1 = k.1 by omega, get_sets hkl]
     first | refine hS _ _ _ ?_ | (refine whole_yes qLt0 ?_; refine hS _ _ _ ?_) | (refine whole_sub ?_; refine hS _ _ _ ?_)
     clear hS
     refine s_step rfl (by decide) rfl fun _ hS => ?_
     repeat refine And.intro qLt0 ?_
     refine hS _ _ _ ?_
     clear hS
     refine s_step rfl (by decide) rfl fun _ hS => ?_
     repeat refine And.intro qLt0 ?_
     refine hS _ _ _ ?_
     clear hS
     refine s_nil ?_
     refine hK18 _ _ _ ?_
     refine hK17 _ _ _ ?_
     refine WP_cond (b := _) rfl (fun h_t24 => ?_) (fun h_t24 => ?_)
     ·try simp only [decide_eq_true_eq] at h_t24
      refine WP_skip ?_
      refine hK16 _ _ _ ?_
      refine seq_k fun _ hK19 => ?_
      refine WP_block ?_
      have hsl : x.1 < (l.getD k.1 []).length := by omega
      refine region_k g0_ok fun _ hK20 => ?_
      refine s_step rfl (by decide) rfl fun _ hS => ?_
      refine hS _ _ _ ?_
      clear hS
      refine s_step rfl (by decide) rfl fun _ hS => ?_
      refine s_split hS (fun hb1 => ?_) (fun hb1 => ?_)
      ·clear hS
       try simp only [decide_eq_true_eq, decide_eq_false_iff_not, Int.not_lt, Int.not_le, Bool.not_eq_true', Bool.not_eq_false', Bool.not_eq_eq_eq_not, Bool.not_true, Bool.not_false, if_true, if_false, reduceIte, Bool.false_eq_true, Int.natCast_inj] at hb1
       refine s_guard (b := true) rfl (by decide) rfl rfl (fun e => absurd e (by decide)) (fun _ => ?_)
       refine s_guard (b := true) rfl (by decide) rfl rfl (fun e => absurd e (by decide)) (fun _ => ?_)
       refine s_guard (b := true) rfl (by decide) rfl rfl (fun e => absurd e (by decide)) (fun _ => ?_)
       refine s_guard (b := true) rfl (by decide) rfl rfl (fun e => absurd e (by decide)) (fun _ => ?_)
       refine s_guard (b := true) rfl (by decide) rfl rfl (fun e => absurd e (by decide)) (fun _ => ?_)
       refine s_guard (b := true) rfl (by decide) rfl rfl (fun e => absurd e (by decide)) (fun _ => ?_)
       refine s_guard (b := true) rfl (by decide) rfl rfl (fun e => absurd e (by decide)) (fun _ => ?_)
       refine s_guard (b := true) rfl (by decide) rfl rfl (fun e => absurd e (by decide)) (fun _ => ?_)
       refine s_guard0 rfl (by decide) rfl rfl ?_
       refine s_guard0 rfl (by decide) rfl rfl ?_
       refine s_guard0 rfl (by decide) rfl rfl ?_
       refine s_guard0 rfl (by decide) rfl rfl ?_
       refine s_guard0 rfl (by decide) rfl rfl ?_
       refine s_guard (b := true) rfl (by decide) rfl rfl (fun e => absurd e (by decide)) (fun _ => ?_)
       refine s_step rfl (by decide) rfl fun _ hS => ?_
       refine hS _ _ _ ?_
       clear hS
       refine s_step rfl (by decide) rfl fun _ hS => ?_
       refine hS _ _ _ ?_
       clear hS
       refine s_nil ?_
       refine hK20 _ _ _ ?_
       refine done_block ?_
       refine hK19 _ _ _ ?_
       refine region_k g0_ok fun _ hK21 => ?_
       refine s_step rfl (by decide) rfl fun _ hS => ?_
       refine hS _ _ _ ?_
       clear hS
       refine s_step rfl (by decide) rfl fun _ hS => ?_
       repeat refine And.intro qLt0 ?_
       refine hS _ _ _ ?_
       clear hS
       refine s_step rfl (by decide) rfl fun _ hS => ?_
       refine hS _ _ _ ?_
       clear hS
       refine s_nil ?_
       refine hK21 _ _ _ ?_
       refine Done_some [] id (x.1 + 1, x.2 || ((l.getD k.1 []).getD x.1 false && d.acc.getD x.1 false)) ⟨⟨by omega, by rw [any_range_succ, ← hx.2]⟩, by omega⟩ ⟨?_, ?_, (by decide : List.Nodup ([0, 1, 2, 3, 4] : List Nat)), ?_, ?_, ⟨Nat.zero_le _, fun i hi => absurd hi (Nat.not_lt_zero i)⟩⟩
       ·exact uLt1
       ·exact uLt0
       ·exact uLt0
       ·exact uLt0
      ·clear hS
       try simp only [decide_eq_true_eq, decide_eq_false_iff_not, Int.not_lt, Int.not_le, Bool.not_eq_true', Bool.not_eq_false', Bool.not_eq_eq_eq_not, Bool.not_true, Bool.not_false, if_true, if_false, reduceIte, Bool.false_eq_true, Int.natCast_inj] at hb1
       refine s_guard (b := false) rfl (by decide) rfl rfl (fun _ _ hS => ?_) (fun e => absurd e (by decide))
       refine hS _ _ _ ?_
       clear hS
       refine s_guard (b := false) rfl (by decide) rfl rfl (fun _ _ hS => ?_) (fun e => absurd e (by decide))
       refine hS _ _ _ ?_
       clear hS
       refine s_guard (b := false) rfl (by decide) rfl rfl (fun _ _ hS => ?_) (fun e => absurd e (by decide))
       repeat refine And.intro qLt1 ?_
       refine hS _ _ _ ?_
       clear hS
       refine s_guard (b := false) rfl (by decide) rfl rfl (fun _ _ hS => ?_) (fun e => absurd e (by decide))
       repeat refine And.intro qLt1 ?_
       rw [show (k.1 : Int).toNat * 1 = k.1 by omega, get_sets hkl]
       first | refine hS _ _ _ ?_ | (refine whole_yes qLt1 ?_; refine hS _ _ _ ?_) | (refine whole_sub ?_; refine hS _ _ _ ?_)
       clear hS
       refine s_guard (b := false) rfl (by decide) rfl rfl (fun _ _ hS => ?_) (fun e => absurd e (by decide))
       refine hS _ _ _ ?_
       clear hS
       refine s_guard (b := false) rfl (by decide) rfl rfl (fun _ _ hS => ?_) (fun e => absurd e (by decide))
       repeat refine And.intro qLt1 ?_
       refine hS _ _ _ ?_
       clear hS
       refine s_guard (b := false) rfl (by decide) rfl rfl (fun _ _ hS => ?_) (fun e => absurd e (by decide))
       repeat refine And.intro qLt1 ?_
       first | refine hS _ _ _ ?_ | (refine whole_yes qLt1 ?_; refine hS _ _ _ ?_) | (refine whole_sub ?_; refine hS _ _ _ ?_)
       clear hS
       refine s_guard (b := false) rfl (by decide) rfl rfl (fun _ _ hS => ?_) (fun e => absurd e (by decide))
       refine s_split hS (fun hb9 => ?_) (fun hb9 => ?_)
       ·clear hS
        have h9 : (l.getD k.1 []).getD x.1 false = true := by simpa using hb9
        refine s_guard (b := true) rfl (by decide) rfl rfl (fun _ _ hS => ?_) (fun e => absurd e (by decide))
        repeat refine And.intro qLt1 ?_
        refine hS _ _ _ ?_
        clear hS
        refine s_guard (b := true) rfl (by decide) rfl rfl (fun _ _ hS => ?_) (fun e => absurd e (by decide))
        repeat refine And.intro qLt1 ?_
        first | refine hS _ _ _ ?_ | (refine whole_yes qLt1 ?_; refine hS _ _ _ ?_) | (refine whole_sub ?_; refine hS _ _ _ ?_)
        clear hS
        refine s_guard (b := true) rfl (by decide) rfl rfl (fun _ _ hS => ?_) (fun e => absurd e (by decide))
        refine hS _ _ _ ?_
        clear hS
        refine s_guard (b := true) rfl (by decide) rfl rfl (fun _ _ hS => ?_) (fun e => absurd e (by decide))
        repeat refine And.intro qLt1 ?_
        refine hS _ _ _ ?_
        clear hS
        refine s_guard (b := true) rfl (by decide) rfl rfl (fun _ _ hS => ?_) (fun e => absurd e (by decide))
        repeat refine And.intro qLt1 ?_
        first | refine hS _ _ _ ?_ | (refine whole_yes qLt1 ?_; refine hS _ _ _ ?_) | (refine whole_sub ?_; refine hS _ _ _ ?_)
        clear hS
        refine s_guard (b := false) rfl (by decide) rfl rfl (fun _ _ hS => ?_) (fun e => absurd e (by decide))
        refine hS _ _ _ ?_
        clear hS
        refine s_step rfl (by decide) rfl fun _ hS => ?_
        refine hS _ _ _ ?_
        clear hS
        refine s_step rfl (by decide) rfl fun _ hS => ?_
        refine hS _ _ _ ?_
        clear hS
        refine s_nil ?_
        refine hK20 _ _ _ ?_
        refine done_block ?_
        refine hK19 _ _ _ ?_
        refine region_k g0_ok fun _ hK22 => ?_
        refine s_step rfl (by decide) rfl fun _ hS => ?_
        refine hS _ _ _ ?_
        clear hS
        refine s_step rfl (by decide) rfl fun _ hS => ?_
        repeat refine And.intro qLt0 ?_
        refine hS _ _ _ ?_
        clear hS
        refine s_step rfl (by decide) rfl fun _ hS => ?_
        refine hS _ _ _ ?_
        clear hS
        refine s_nil ?_
        refine hK22 _ _ _ ?_
        refine Done_some [] id (x.1 + 1, x.2 || ((l.getD k.1 []).getD x.1 false && d.acc.getD x.1 false)) ⟨⟨by omega, by rw [any_range_succ, ← hx.2]⟩, by omega⟩ ⟨?_, ?_, (by decide : List.Nodup ([0, 1, 2, 3, 4] : List Nat)), ?_, ?_, ⟨Nat.zero_le _, fun i hi => absurd hi (Nat.not_lt_zero i)⟩⟩
        ·exact uLt1
        ·exact uLt0
        ·exact uLt0
        ·exact uLt0
       ·clear hS
        have h9 : (l.getD k.1 []).getD x.1 false = false := by simpa using hb9
        refine s_guard (b := false) rfl (by decide) rfl rfl (fun e => absurd e (by decide)) (fun _ => ?_)
        refine s_guard (b := false) rfl (by decide) rfl rfl (fun e => absurd e (by decide)) (fun _ => ?_)
        refine s_guard (b := false) rfl (by decide) rfl rfl (fun e => absurd e (by decide)) (fun _ => ?_)
        refine s_guard (b := false) rfl (by decide) rfl rfl (fun e => absurd e (by decide)) (fun _ => ?_)
        refine s_guard (b := false) rfl (by decide) rfl rfl (fun e => absurd e (by decide)) (fun _ => ?_)
        refine s_guard (b := false) rfl (by decide) rfl rfl (fun _ _ hS => ?_) (fun e => absurd e (by decide))
        refine hS _ _ _ ?_
        clear hS
        refine s_step rfl (by decide) rfl fun _ hS => ?_
        refine hS _ _ _ ?_
        clear hS
        refine s_step rfl (by decide) rfl fun _ hS => ?_
        refine hS _ _ _ ?_
        clear hS
        refine s_nil ?_
        refine hK20 _ _ _ ?_
        refine done_block ?_
        refine hK19 _ _ _ ?_
        refine region_k g0_ok fun _ hK23 => ?_
        refine s_step rfl (by decide) rfl fun _ hS => ?_
        refine hS _ _ _ ?_
        clear hS
        refine s_step rfl (by decide) rfl fun _ hS => ?_
        repeat refine And.intro qLt0 ?_
        refine hS _ _ _ ?_
        clear hS
        refine s_step rfl (by decide) rfl fun _ hS => ?_
        refine hS _ _ _ ?_
        clear hS
        refine s_nil ?_
        refine hK23 _ _ _ ?_
        refine Done_some [] id (x.1 + 1, x.2 || ((l.getD k.1 []).getD x.1 false && d.acc.getD x.1 false)) ⟨⟨by omega, by rw [any_range_succ, ← hx.2]⟩, by omega⟩ ⟨?_, ?_, (by decide : List.Nodup ([0, 1, 2, 3, 4] : List Nat)), ?_, ?_, ⟨Nat.zero_le _, fun i hi => absurd hi (Nat.not_lt_zero i)⟩⟩
        ·exact uLt1
        ·exact uLt0
        ·exact uLt0
        ·exact uLt0
     ·try simp only [decide_eq_false_iff_not, Int.not_lt] at h_t24
      have hfin : x.2 = (fun n => accR d (l.getD n [])) k.1 := by rw [hx.2, show x.1 = (l.getD k.1 []).length by omega]; rfl
      refine WP_exit ?_
      refine done_thenx ?_
      refine done_thenx ?_
      refine Done_hit ?_
      refine Done_some [] id () trivial ⟨?_, ?_, (by decide : List.Nodup ([0, 1, 2, 3, 4] : List Nat)), ?_, ?_, ⟨Nat.zero_le _, fun i hi => absurd hi (Nat.not_lt_zero i)⟩⟩
      ·repeat' (first | exact trivial | refine And.intro ?_ ?_ | rfl | omega | decide | (show (_ : Nat) < _; decide) | exact low_nil' | refine low_cons' ?_ ?_ | exact Nat.le_refl _ | exact Nat.succ_pos _)
       all_goals first | omega | (show (_ : Bool) = _; exact hfin) | exact low_rows _ | exact low_sets _ | (exact allTo_sets _) | exact low_cons' trivial (low_cons' trivial (low_cons' trivial low_nil')) | (show (_ : List Bool) = _; first | exact preL_step _ hka | exact postL_step _ hka | exact preL_stay _ hka | exact postL_stay _ hka | exact hst | (rw [← hst]; simp [hb3]; done) | (simp [preL, postL]; done)) | (simp; done) | (simp <;> omega) | exact maxI _ _ | skip
      ·exact uLt0
      ·exact uLt0
      ·exact uLt0
   ·intro _ _
    refine seq_k fun _ hK24 => ?_
    refine region_k g0_ok fun _ hK25 => ?_
    refine s_step rfl (by decide) rfl fun _ hS => ?_
    refine hS _ _ _ ?_
    clear hS
    refine s_step rfl (by decide) rfl fun _ hS => ?_
    refine hS _ _ _ ?_
    clear hS
    refine s_step rfl (by decide) rfl fun _ hS => ?_
    repeat refine And.intro qLt0 ?_
    refine hS _ _ _ ?_
    clear hS
    refine s_nil ?_
    refine hK25 _ _ _ ?_
    refine hK24 _ _ _ ?_
    refine WP_cond (b := _) rfl (fun h_t46 => ?_) (fun h_t46 => ?_)
    ·try simp only [decide_eq_true_eq] at h_t46
     have hka : k.1 < h := by omega
     have hst := preL_step (fun n => accR d (l.getD n [])) hka
     refine region_k g0_ok fun _ hK26 => ?_
     refine s_step rfl (by decide) rfl fun _ hS => ?_
     repeat refine And.intro qLt2 ?_
     refine hS _ _ _ ?_
     clear hS
     refine s_step rfl (by decide) rfl fun _ hS => ?_
     repeat refine And.intro qLt2 ?_
     first | refine hS _ _ _ ?_ | (refine whole_yes qLt2 ?_; refine hS _ _ _ ?_) | (refine whole_sub ?_; refine hS _ _ _ ?_)
     clear hS
     refine s_step rfl (by decide) rfl fun _ hS => ?_
     refine hS _ _ _ ?_
     clear hS
     refine s_step rfl (by decide) rfl fun _ hS => ?_
     repeat refine And.intro qLt2 ?_
     refine hS _ _ _ ?_
     clear hS
     refine s_step rfl (by decide) rfl fun _ hS => ?_
     repeat first | refine And.intro qLt2 ?_ | refine whole_yes qLt2 ?_ | refine whole_sub ?_
     intro cap4 hcap4; refine hS _ _ _ ?_
     clear hS
     refine s_step rfl (by decide) rfl fun _ hS => ?_
     repeat refine And.intro qLt2 ?_
     refine hS _ _ _ ?_
     clear hS
     refine s_step0 rfl rfl fun _ hS => ?_
     repeat refine And.intro qLt2 ?_
     first | refine hS _ _ _ ?_ | (refine splice_full qLt2 ?_; refine hS _ _ _ ?_)
     clear hS
     refine s_nil ?_
     refine hK26 _ _ _ ?_
     refine done_block ?_
     refine hK11 _ _ _ ?_
     refine region_k g0_ok fun _ hK27 => ?_
     refine s_step rfl (by decide) rfl fun _ hS => ?_
     refine hS _ _ _ ?_
     clear hS
     refine s_step rfl (by decide) rfl fun _ hS => ?_
     repeat refine And.intro qLt0 ?_
     refine hS _ _ _ ?_
     clear hS
     refine s_step rfl (by decide) rfl fun _ hS => ?_
     refine hS _ _ _ ?_
     clear hS
     refine s_nil ?_
     refine hK27 _ _ _ ?_
     refine Done_some [] (fun i => if i = 3 then 6 else i) (k.1 + 1, cap4, k.2.2) ⟨by omega, by omega⟩ ⟨?_, ?_, (by decide : List.Nodup ([0, 1, 2, 6, 4] : List Nat)), ?_, ?_, ⟨Nat.zero_le _, fun i hi => absurd hi (Nat.not_lt_zero i)⟩⟩
     ·exact uLt0
     ·exact uLt0
     ·exact uLt0
     ·exact uLt0
    ·try simp only [decide_eq_false_iff_not, Int.not_lt] at h_t46
     have hka : h ≤ k.1 := by omega
     have hst := postL_step (fun n => accR d (l.getD n [])) hka
     refine region_k g0_ok fun _ hK28 => ?_
     refine s_step rfl (by decide) rfl fun _ hS => ?_
     repeat refine And.intro qLt2 ?_
     refine hS _ _ _ ?_
     clear hS
     refine s_step rfl (by decide) rfl fun _ hS => ?_
     repeat refine And.intro qLt2 ?_
     first | refine hS _ _ _ ?_ | (refine whole_yes qLt2 ?_; refine hS _ _ _ ?_) | (refine whole_sub ?_; refine hS _ _ _ ?_)
     clear hS
     refine s_step rfl (by decide) rfl fun _ hS => ?_
     refine hS _ _ _ ?_
     clear hS
     refine s_step rfl (by decide) rfl fun _ hS => ?_
     repeat refine And.intro qLt2 ?_
     refine hS _ _ _ ?_
     clear hS
     refine s_step rfl (by decide) rfl fun _ hS => ?_
     repeat first | refine And.intro qLt2 ?_ | refine whole_yes qLt2 ?_ | refine whole_sub ?_
     intro cap4 hcap4; refine hS _ _ _ ?_
     clear hS
     refine s_step rfl (by decide) rfl fun _ hS => ?_
     repeat refine And.intro qLt2 ?_
     refine hS _ _ _ ?_
     clear hS
     refine s_step0 rfl rfl fun _ hS => ?_
     repeat refine And.intro qLt2 ?_
     first | refine hS _ _ _ ?_ | (refine splice_full qLt2 ?_; refine hS _ _ _ ?_)
     clear hS
     refine s_nil ?_
     refine hK28 _ _ _ ?_
     refine done_block ?_
     refine hK11 _ _ _ ?_
     refine region_k g0_ok fun _ hK29 => ?_
     refine s_step rfl (by decide) rfl fun _ hS => ?_
     refine hS _ _ _ ?_
     clear hS
     refine s_step rfl (by decide) rfl fun _ hS => ?_
     repeat refine And.intro qLt0 ?_
     refine hS _ _ _ ?_
     clear hS
     refine s_step rfl (by decide) rfl fun _ hS => ?_
     refine hS _ _ _ ?_
     clear hS
     refine s_nil ?_
     refine hK29 _ _ _ ?_
     refine Done_some [] (fun i => if i = 4 then 6 else i) (k.1 + 1, k.2.1, cap4) ⟨by omega, by omega⟩ ⟨?_, ?_, (by decide : List.Nodup ([0, 1, 2, 3, 6] : List Nat)), ?_, ?_, ⟨Nat.zero_le _, fun i hi => absurd hi (Nat.not_lt_zero i)⟩⟩
     ·exact uLt0
     ·exact uLt0
     ·exact uLt0
     ·exact uLt0
  ·try try simp only [decide_eq_false_iff_not, Int.not_lt] at h_t15
   refine WP_exit ?_
   refine done_thenx ?_
   refine done_thenx ?_
   refine Done_hit ?_
   refine hK5 _ _ _ ?_
   refine seq_k fun _ hK30 => ?_
   obtain ⟨k, c1, c2⟩ := k
   obtain rfl : k = l.length := by have := hk; simp at h_t15 this; omega
   refine region_k g0_ok fun _ hK31 => ?_
   refine s_step rfl (by decide) rfl fun _ hS => ?_
   repeat refine And.intro qLt0 ?_
   first | refine hS _ _ _ ?_ | (refine whole_yes qLt0 ?_; refine hS _ _ _ ?_) | (refine whole_sub ?_; refine hS _ _ _ ?_)
   clear hS
   refine s_step0 rfl rfl fun _ hS => ?_
   repeat refine And.intro qLt0 ?_
   first | refine hS _ _ _ ?_ | (refine splice_full qLt0 ?_; refine hS _ _ _ ?_)
   clear hS
   refine s_nil ?_
   refine hK31 _ _ _ ?_
   refine hK30 _ _ _ ?_
   refine WP_ret (Done_data g0_ok (fun _ _ h => h) (low_lsC) [3, 4] [.cell 6 24] rfl ?_)
   repeat' (first | exact trivial | refine And.intro ?_ ?_ | rfl | omega | decide | (show (_ : Nat) < _; decide) | exact low_nil' | refine low_cons' ?_ ?_ | exact Nat.le_refl _ | exact Nat.succ_pos _)
   all_goals first | omega | (simp [tabL, show h + (l.length - h) = l.length by omega]; done) | (simp [tabL] <;> omega) | (show (_ : List Bool) = _; rw [tabL, show h + (l.length - h) = l.length by omega]) | skip


end Go.Proofs.YtpfncffapgkjaaaDoor
