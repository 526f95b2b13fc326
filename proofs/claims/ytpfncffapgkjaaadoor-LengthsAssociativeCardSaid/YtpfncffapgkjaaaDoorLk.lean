/- The reference: made sets. -/
import Derived.Test.YtpfncffapgkjaaaDoorAb14
import Derived.Test.YtpfncffapgkjaaaDoorAb21
import Derived.Test.YtpfncffapgkjaaaDoorAb22
import Derived.Test.YtpfncffapgkjaaaDoorCtx
import Derived.Test.YtpfncffapgkjaaaDoorLa
import Derived.Test.YtpfncffapgkjaaaDoorLd
import Derived.Test.YtpfncffapgkjaaaDoorLi
namespace Go.Proofs.YtpfncffapgkjaaaDoor
set_option linter.unusedVariables false
open Go.Ab Go.RowKit

theorem qLk0 {a : Prop} (h : a := by first | omega | exact trivial | rfl | (simp only [len_u8s, len_u32s, len_u64s, len_ints, len_bools, len_cells]; omega) | exact inR_i64.mpr ⟨by omega, by omega⟩ | (simp <;> omega) | (refine And.intro ?_ ?_ <;> exact trivial) | exact ⟨trivial, trivial, trivial⟩ | decide | (refine And.intro rfl ?_; (repeat first | exact trivial | refine And.intro rfl ?_); done) | exact Nat.succ_pos _ | exact Nat.le_refl _ | (refine And.intro trivial ?_; (repeat first | exact trivial | refine And.intro trivial ?_); done)) : a := h
theorem qLk1 {a : Prop} (h : a := by first | omega | exact trivial | rfl | (simp only [len_u8s, len_u32s, len_u64s, len_ints, len_bools, len_cells]; omega) | exact inR_i64.mpr ⟨by omega, by omega⟩ | (simp [List.length_take] <;> omega) | (simp <;> omega) | (refine And.intro ?_ ?_ <;> exact trivial) | exact ⟨trivial, trivial, trivial⟩ | decide | (refine And.intro rfl ?_; (repeat first | exact trivial | refine And.intro rfl ?_); done) | exact Nat.succ_pos _ | exact Nat.le_refl _ | (refine And.intro trivial ?_; (repeat first | exact trivial | refine And.intro trivial ?_); done)) : a := h
theorem qLk2 {a : Prop} (h : a := by first | omega | exact trivial | rfl | (simp only [len_u8s, len_u32s, len_u64s, len_ints, len_bools, len_cells]; omega) | exact inR_i64.mpr ⟨by omega, by omega⟩ | (simp <;> omega) | (simp <;> omega) | (refine And.intro ?_ ?_ <;> exact trivial) | exact ⟨trivial, trivial, trivial⟩ | decide | (refine And.intro rfl ?_; (repeat first | exact trivial | refine And.intro rfl ?_); done) | exact Nat.succ_pos _ | exact Nat.le_refl _ | (refine And.intro trivial ?_; (repeat first | exact trivial | refine And.intro trivial ?_); done)) : a := h

theorem uLk0 {a : Prop} (h : a := by
    repeat' (first | exact trivial | refine And.intro ?_ ?_ | rfl | omega | decide | (show (_ : Nat) < _; decide) | exact low_nil' | refine low_cons' ?_ ?_ | exact Nat.le_refl _ | exact Nat.succ_pos _)
    all_goals first | omega | (show (_ : List Bool) = _; first | exact hst | (rw [List.nil_append, Int.toNat_natCast, Nat.mul_one]; exact hst) | rfl | (simp; done)) | (simp; done) | (simp <;> omega) | skip) : a := h
theorem uLk1 {a : Prop} (h : a := by
    repeat' (first | exact trivial | refine And.intro ?_ ?_ | rfl | omega | decide | (show (_ : Nat) < _; decide) | exact low_nil' | refine low_cons' ?_ ?_ | exact Nat.le_refl _ | exact Nat.succ_pos _)
    all_goals first | omega | (show (_ : List Bool) = _; first | exact hfin | (rw [List.nil_append, Int.toNat_natCast, Nat.mul_one]; exact hfin) | rfl | (simp; done)) | (simp; done) | (simp <;> omega) | skip) : a := h
theorem uLk2 {a : Prop} (h : a := by
    repeat' (first | exact trivial | refine And.intro ?_ ?_ | rfl | omega | decide | (show (_ : Nat) < _; decide) | exact low_nil' | refine low_cons' ?_ ?_ | exact Nat.le_refl _ | exact Nat.succ_pos _)
    all_goals first | omega | (show (_ : List Bool) = _; rw [hfin]; done) | (show (_ : List Bool) = _; first | exact hfin | (rw [List.nil_append, Int.toNat_natCast, Nat.mul_one]; exact hfin) | rfl | (simp; done)) | (simp; done) | (simp <;> omega) | skip) : a := h

def madeL (h c : List Bool) (n m : Nat) : List Bool × List Bool := (h.take n, if (c.take m).length = 0 then [false] else c.take m)
theorem take_step (l : List Bool) {k : Nat} (h : k < l.length) : l.take k ++ [l.getD k false] = l.take (k + 1) := by
  rw [List.take_add_one, List.getD_eq_getElem?_getD, List.getElem?_eq_getElem h]; rfl
theorem take_min {α : Type} (l : List α) {k n : Nat} (h : k ≤ n) (h2 : k = n ∨ l.length ≤ k) : l.take k = l.take n := by
  rcases h2 with rfl | h2
  · rfl
  · rw [List.take_of_length_le h2, List.take_of_length_le (by omega)]
def madeS : QSpec := fun vs K => ∃ a b : List Bool, ∃ n m : Nat, vs = [lsV a b, .c (.int .i64 n), .c (.int .i64 m)] ∧ (a.length ≤ 9223372036854775807 ∧ b.length ≤ 9223372036854775807 ∧ n ≤ 1048576 ∧ m ≤ 1048576) ∧ K (lsV (madeL a b n m).1 (madeL a b n m).2)
set_option maxHeartbeats 1000000 in
theorem made_ok : DataOK Tryd.prog gl 13 madeS := by
 refine data_of (Γ := h3) (N := 65) Tryd.func13 rfl rfl fun vs K h => ?_
 obtain ⟨a, b, n, m, rfl, ⟨hl1, hl2, hn, hm⟩, h⟩ := h
 refine ⟨_, h, low_lsC, by simp, fun w I => ?_⟩
 refine seq_k fun _ hK1 => ?_
 refine region_k h3_ok fun _ hK2 => ?_
 refine s_step rfl (by decide) rfl fun _ hS => ?_
 repeat refine And.intro qLk0 ?_
 refine hS _ _ _ ?_
 clear hS
 refine s_step rfl (by decide) rfl fun _ hS => ?_
 repeat refine And.intro qLk0 ?_
 refine hS _ _ _ ?_
 clear hS
 refine s_nil ?_
 refine hK2 _ _ _ ?_
 refine hK1 _ _ _ ?_
 refine seq_k fun _ hK3 => ?_
 refine region_k h3_ok fun _ hK4 => ?_
 refine s_step rfl (by decide) rfl fun _ hS => ?_
 repeat refine And.intro qLk0 ?_
 refine hS _ _ _ ?_
 clear hS
 refine s_step rfl (by decide) rfl fun _ hS => ?_
 repeat refine And.intro qLk0 ?_
 refine hS _ _ _ ?_
 clear hS
 refine s_step0 rfl rfl fun _ hS => ?_
 repeat refine And.intro qLk0 ?_
 first | refine hS _ _ _ ?_ | (refine splice_full qLk0 ?_; refine hS _ _ _ ?_)
 clear hS
 refine s_nil ?_
 refine hK4 _ _ _ ?_
 refine hK3 _ _ _ ?_
 refine WP_cut (α := Nat) (fun capA => [(1, .c (.int .i64 n)), (2, .c (.int .i64 m)), (3, .c (.ptr 0 0)), (6, .c (.ptr 1 0)), (7, .c (.ptr 2 0))]) (fun capA => [(0, .own 24 (.cells [.ds a.length (.bools a), .ds b.length (.bools b)]) 2), (1, .own 24 (.cells [.nils, .nils]) 2), (2, .own 24 (.cells [.slice 3 0 (a.take n).length capA, .slice 4 0 ([] : List Bool).length 0]) 2), (3, .own 4 (.bools (a.take n)) capA), (4, .own 4 (.bools ([] : List Bool)) 0)]) 5 (fun capA => True) ?_ ?_
 ·skip
  refine seq_k fun _ hK5 => ?_
  refine region_k h3_ok fun _ hK6 => ?_
  refine s_step rfl (by decide) rfl fun _ hS => ?_
  refine hS _ _ _ ?_
  clear hS
  refine s_nil ?_
  refine hK6 _ _ _ ?_
  refine hK5 _ _ _ ?_
  refine WP_block ?_
  refine WP_nilat 2 0 4 (.bools []) rfl rfl rfl trivial ?_
  refine WP_nilat 2 1 4 (.bools []) rfl rfl rfl trivial ?_
  refine WP_loop (α := Nat × Nat) (fun k => [(1, .c (.int .i64 n)), (2, .c (.int .i64 m)), (3, .c (.ptr 0 0)), (6, .c (.ptr 1 0)), (7, .c (.ptr 2 0)), (8, .c (.int .i64 k.1))]) (fun k => [(0, .own 24 (.cells [.ds a.length (.bools a), .ds b.length (.bools b)]) 2), (1, .own 24 (.cells [.nils, .nils]) 2), (2, .own 24 (.cells [.slice 3 0 (a.take k.1).length k.2, .slice 4 0 ([] : List Bool).length 0]) 2), (3, .own 4 (.bools (a.take k.1)) k.2), (4, .own 4 (.bools ([] : List Bool)) 0)]) 5 (fun k => k.1 ≤ a.length ∧ k.1 ≤ n) (fun k => a.length - k.1) ?_ ?_
  ·refine Done_some [] id (0, 0) ⟨Nat.zero_le _, Nat.zero_le _⟩ ⟨?_, ?_, (by decide : List.Nodup ([0, 1, 2, 3, 4] : List Nat)), ?_, ?_, ⟨Nat.zero_le _, fun i hi => absurd hi (Nat.not_lt_zero i)⟩⟩
   ·exact uLk0
   ·exact uLk0
   ·exact uLk0
   ·exact uLk0
  ·intro k hk
   refine seq_k fun _ hK7 => ?_
   refine seq_k fun _ hK8 => ?_
   refine region_k h3_ok fun _ hK9 => ?_
   refine s_step rfl (by decide) rfl fun _ hS => ?_
   refine hS _ _ _ ?_
   clear hS
   refine s_step rfl (by decide) rfl fun _ hS => ?_
   repeat refine And.intro qLk0 ?_
   refine hS _ _ _ ?_
   clear hS
   refine s_step rfl (by decide) rfl fun _ hS => ?_
   repeat refine And.intro qLk0 ?_
   first | refine hS _ _ _ ?_ | (refine whole_yes qLk0 ?_; refine hS _ _ _ ?_) | (refine whole_sub ?_; refine hS _ _ _ ?_)
   clear hS
   refine s_step rfl (by decide) rfl fun _ hS => ?_
   repeat refine And.intro qLk0 ?_
   refine hS _ _ _ ?_
   clear hS
   refine s_step rfl (by decide) rfl fun _ hS => ?_
   repeat refine And.intro qLk0 ?_
   refine hS _ _ _ ?_
   clear hS
   refine s_step rfl (by decide) rfl fun _ hS => ?_
   refine s_split hS (fun hb5 => ?_) (fun hb5 => ?_)
   ·clear hS
    try simp only [decide_eq_true_eq] at hb5
    refine s_guard (b := true) rfl (by decide) rfl rfl (fun _ _ hS => ?_) (fun e => absurd e (by decide))
    refine hS _ _ _ ?_
    clear hS
    refine s_guard (b := true) rfl (by decide) rfl rfl (fun _ _ hS => ?_) (fun e => absurd e (by decide))
    refine hS _ _ _ ?_
    clear hS
    refine s_guard (b := true) rfl (by decide) rfl rfl (fun _ _ hS => ?_) (fun e => absurd e (by decide))
    repeat refine And.intro qLk0 ?_
    refine hS _ _ _ ?_
    clear hS
    refine s_step rfl (by decide) rfl fun _ hS => ?_
    refine hS _ _ _ ?_
    clear hS
    refine s_nil ?_
    refine hK9 _ _ _ ?_
    refine hK8 _ _ _ ?_
    refine WP_cond (b := _) rfl (fun h_t20 => ?_) (fun h_t20 => ?_)
    ·try simp only [decide_eq_true_eq, if_true] at h_t20
     refine WP_skip ?_
     refine hK7 _ _ _ ?_
     refine seq_k fun _ hK10 => ?_
     refine WP_block ?_
     have hka : k.1 < a.length := by omega
     have hst := take_step a hka
     refine sched_k h3_ok [(0, true), (1, true), (2, true), (3, true), (4, true), (5, true), (6, true), (7, false), (8, false), (9, true), (10, false)] rfl (by kernel_rfl) (by kernel_rfl) fun _ hK11 => ?_
     refine d_read rfl rfl (by decide) rfl fun _ hS => ?_
     repeat refine And.intro qLk1 ?_
     refine hS _ ?_
     clear hS
     refine d_read rfl rfl (by decide) rfl fun _ hS => ?_
     repeat refine And.intro qLk1 ?_
     first | refine hS _ ?_ | (refine whole_yes qLk1 ?_; refine hS _ ?_) | (refine whole_sub ?_; refine hS _ ?_)
     clear hS
     refine d_read rfl rfl (by decide) rfl fun _ hS => ?_
     repeat refine And.intro qLk1 ?_
     refine hS _ ?_
     clear hS
     refine d_read rfl rfl (by decide) rfl fun _ hS => ?_
     repeat refine And.intro qLk1 ?_
     first | refine hS _ ?_ | (refine whole_yes qLk1 ?_; refine hS _ ?_) | (refine whole_sub ?_; refine hS _ ?_)
     clear hS
     refine d_read rfl rfl (by decide) rfl fun _ hS => ?_
     refine hS _ ?_
     clear hS
     refine d_read rfl rfl (by decide) rfl fun _ hS => ?_
     repeat refine And.intro qLk1 ?_
     refine hS _ ?_
     clear hS
     refine d_read rfl rfl (by decide) rfl fun _ hS => ?_
     repeat refine And.intro qLk1 ?_
     first | refine hS _ ?_ | (refine whole_yes qLk1 ?_; refine hS _ ?_) | (refine whole_sub ?_; refine hS _ ?_)
     clear hS
     refine d_grow rfl rfl (by decide) rfl fun _ hS => ?_
     repeat refine And.intro qLk1 ?_
     refine hS _ _ _ ?_
     clear hS
     refine d_grow rfl rfl (by decide) rfl fun _ hS => ?_
     repeat first | refine And.intro qLk1 ?_ | refine whole_yes qLk1 ?_ | refine whole_sub ?_
     intro cap8 hcap8; refine hS _ _ _ ?_
     clear hS
     refine d_read rfl rfl (by decide) rfl fun _ hS => ?_
     repeat refine And.intro qLk1 ?_
     refine hS _ ?_
     clear hS
     refine d_grow0 rfl rfl rfl fun _ hS => ?_
     repeat refine And.intro qLk1 ?_
     first | refine hS _ _ _ ?_ | (refine splice_full qLk1 ?_; refine hS _ _ _ ?_)
     clear hS
     refine d_nil ?_
     refine hK11 _ _ _ ?_
     refine done_block ?_
     refine hK10 _ _ _ ?_
     refine region_k h3_ok fun _ hK12 => ?_
     refine s_step rfl (by decide) rfl fun _ hS => ?_
     refine hS _ _ _ ?_
     clear hS
     refine s_step rfl (by decide) rfl fun _ hS => ?_
     repeat refine And.intro qLk0 ?_
     refine hS _ _ _ ?_
     clear hS
     refine s_step rfl (by decide) rfl fun _ hS => ?_
     refine hS _ _ _ ?_
     clear hS
     refine s_nil ?_
     refine hK12 _ _ _ ?_
     refine Done_some [] (fun i => if i = 3 then 6 else i) (k.1 + 1, cap8) ⟨⟨by omega, by omega⟩, by omega⟩ ⟨?_, ?_, (by decide : List.Nodup ([0, 1, 2, 6, 4] : List Nat)), ?_, ?_, ⟨Nat.zero_le _, fun i hi => absurd hi (Nat.not_lt_zero i)⟩⟩
     ·exact uLk0
     ·exact uLk0
     ·exact uLk0
     ·exact uLk0
    ·try simp only [decide_eq_false_iff_not, Int.not_lt, if_true] at h_t20
     have hfin : a.take k.1 = a.take n := take_min a hk.2 (.inl (by omega))
     refine WP_exit ?_
     refine done_thenx ?_
     refine done_thenx ?_
     refine Done_hit ?_
     refine Done_some [] id k.2 trivial ⟨?_, ?_, (by decide : List.Nodup ([0, 1, 2, 3, 4] : List Nat)), ?_, ?_, ⟨Nat.zero_le _, fun i hi => absurd hi (Nat.not_lt_zero i)⟩⟩
     ·exact uLk1
     ·exact uLk2
     ·exact uLk0
     ·exact uLk0
   ·clear hS
    try simp only [decide_eq_false_iff_not, Int.not_lt] at hb5
    refine s_guard (b := false) rfl (by decide) rfl rfl (fun e => absurd e (by decide)) (fun _ => ?_)
    refine s_guard (b := false) rfl (by decide) rfl rfl (fun e => absurd e (by decide)) (fun _ => ?_)
    refine s_guard (b := false) rfl (by decide) rfl rfl (fun e => absurd e (by decide)) (fun _ => ?_)
    refine s_step rfl (by decide) rfl fun _ hS => ?_
    refine hS _ _ _ ?_
    clear hS
    refine s_nil ?_
    refine hK9 _ _ _ ?_
    refine hK8 _ _ _ ?_
    have hfin : a.take k.1 = a.take n := take_min a hk.2 (.inr (by omega))
    refine WP_cond (b := _) rfl (fun h_t20 => ?_) (fun _ => ?_)
    ·exfalso; cases h_t20
    refine WP_exit ?_
    refine done_thenx ?_
    refine done_thenx ?_
    refine Done_hit ?_
    refine Done_some [] id k.2 trivial ⟨?_, ?_, (by decide : List.Nodup ([0, 1, 2, 3, 4] : List Nat)), ?_, ?_, ⟨Nat.zero_le _, fun i hi => absurd hi (Nat.not_lt_zero i)⟩⟩
    ·exact uLk1
    ·exact uLk2
    ·exact uLk0
    ·exact uLk0
 ·intro capA _
  refine WP_cut (α := Nat) (fun capB => [(1, .c (.int .i64 n)), (2, .c (.int .i64 m)), (3, .c (.ptr 0 0)), (6, .c (.ptr 1 0)), (7, .c (.ptr 2 0))]) (fun capB => [(0, .own 24 (.cells [.ds a.length (.bools a), .ds b.length (.bools b)]) 2), (1, .own 24 (.cells [.nils, .nils]) 2), (2, .own 24 (.cells [.slice 3 0 (a.take n).length capA, .slice 4 0 (b.take m).length capB]) 2), (3, .own 4 (.bools (a.take n)) capA), (4, .own 4 (.bools (b.take m)) capB)]) 5 (fun capB => True) ?_ ?_
  ·skip
   refine seq_k fun _ hK13 => ?_
   refine region_k h3_ok fun _ hK14 => ?_
   refine s_step rfl (by decide) rfl fun _ hS => ?_
   refine hS _ _ _ ?_
   clear hS
   refine s_nil ?_
   refine hK14 _ _ _ ?_
   refine hK13 _ _ _ ?_
   refine WP_block ?_
   refine WP_loop (α := Nat × Nat) (fun k => [(1, .c (.int .i64 n)), (2, .c (.int .i64 m)), (3, .c (.ptr 0 0)), (6, .c (.ptr 1 0)), (7, .c (.ptr 2 0)), (9, .c (.int .i64 k.1))]) (fun k => [(0, .own 24 (.cells [.ds a.length (.bools a), .ds b.length (.bools b)]) 2), (1, .own 24 (.cells [.nils, .nils]) 2), (2, .own 24 (.cells [.slice 3 0 (a.take n).length capA, .slice 4 0 (b.take k.1).length k.2]) 2), (3, .own 4 (.bools (a.take n)) capA), (4, .own 4 (.bools (b.take k.1)) k.2)]) 5 (fun k => k.1 ≤ b.length ∧ k.1 ≤ m) (fun k => b.length - k.1) ?_ ?_
   ·refine Done_some [] id (0, 0) ⟨Nat.zero_le _, Nat.zero_le _⟩ ⟨?_, ?_, (by decide : List.Nodup ([0, 1, 2, 3, 4] : List Nat)), ?_, ?_, ⟨Nat.zero_le _, fun i hi => absurd hi (Nat.not_lt_zero i)⟩⟩
    ·exact uLk0
    ·exact uLk0
    ·exact uLk0
    ·exact uLk0
   ·intro k hk
    refine seq_k fun _ hK15 => ?_
    refine seq_k fun _ hK16 => ?_
    refine region_k h3_ok fun _ hK17 => ?_
    refine s_step rfl (by decide) rfl fun _ hS => ?_
    refine hS _ _ _ ?_
    clear hS
    refine s_step rfl (by decide) rfl fun _ hS => ?_
    repeat refine And.intro qLk0 ?_
    refine hS _ _ _ ?_
    clear hS
    refine s_step rfl (by decide) rfl fun _ hS => ?_
    repeat refine And.intro qLk0 ?_
    first | refine hS _ _ _ ?_ | (refine whole_yes qLk0 ?_; refine hS _ _ _ ?_) | (refine whole_sub ?_; refine hS _ _ _ ?_)
    clear hS
    refine s_step rfl (by decide) rfl fun _ hS => ?_
    repeat refine And.intro qLk0 ?_
    refine hS _ _ _ ?_
    clear hS
    refine s_step rfl (by decide) rfl fun _ hS => ?_
    repeat refine And.intro qLk0 ?_
    refine hS _ _ _ ?_
    clear hS
    refine s_step rfl (by decide) rfl fun _ hS => ?_
    refine s_split hS (fun hb5 => ?_) (fun hb5 => ?_)
    ·clear hS
     try simp only [decide_eq_true_eq] at hb5
     refine s_guard (b := true) rfl (by decide) rfl rfl (fun _ _ hS => ?_) (fun e => absurd e (by decide))
     refine hS _ _ _ ?_
     clear hS
     refine s_guard (b := true) rfl (by decide) rfl rfl (fun _ _ hS => ?_) (fun e => absurd e (by decide))
     refine hS _ _ _ ?_
     clear hS
     refine s_guard (b := true) rfl (by decide) rfl rfl (fun _ _ hS => ?_) (fun e => absurd e (by decide))
     repeat refine And.intro qLk0 ?_
     refine hS _ _ _ ?_
     clear hS
     refine s_step rfl (by decide) rfl fun _ hS => ?_
     refine hS _ _ _ ?_
     clear hS
     refine s_nil ?_
     refine hK17 _ _ _ ?_
     refine hK16 _ _ _ ?_
     refine WP_cond (b := _) rfl (fun h_t42 => ?_) (fun h_t42 => ?_)
     ·try simp only [decide_eq_true_eq, if_true] at h_t42
      refine WP_skip ?_
      refine hK15 _ _ _ ?_
      refine seq_k fun _ hK18 => ?_
      refine WP_block ?_
      have hka : k.1 < b.length := by omega
      have hst := take_step b hka
      refine sched_k h3_ok [(0, true), (1, true), (2, true), (3, true), (4, true), (5, true), (6, true), (7, false), (8, false), (9, true), (10, false)] rfl (by kernel_rfl) (by kernel_rfl) fun _ hK19 => ?_
      refine d_read rfl rfl (by decide) rfl fun _ hS => ?_
      repeat refine And.intro qLk2 ?_
      refine hS _ ?_
      clear hS
      refine d_read rfl rfl (by decide) rfl fun _ hS => ?_
      repeat refine And.intro qLk2 ?_
      first | refine hS _ ?_ | (refine whole_yes qLk2 ?_; refine hS _ ?_) | (refine whole_sub ?_; refine hS _ ?_)
      clear hS
      refine d_read rfl rfl (by decide) rfl fun _ hS => ?_
      repeat refine And.intro qLk2 ?_
      refine hS _ ?_
      clear hS
      refine d_read rfl rfl (by decide) rfl fun _ hS => ?_
      repeat refine And.intro qLk2 ?_
      first | refine hS _ ?_ | (refine whole_yes qLk2 ?_; refine hS _ ?_) | (refine whole_sub ?_; refine hS _ ?_)
      clear hS
      refine d_read rfl rfl (by decide) rfl fun _ hS => ?_
      refine hS _ ?_
      clear hS
      refine d_read rfl rfl (by decide) rfl fun _ hS => ?_
      repeat refine And.intro qLk2 ?_
      refine hS _ ?_
      clear hS
      refine d_read rfl rfl (by decide) rfl fun _ hS => ?_
      repeat refine And.intro qLk2 ?_
      first | refine hS _ ?_ | (refine whole_yes qLk2 ?_; refine hS _ ?_) | (refine whole_sub ?_; refine hS _ ?_)
      clear hS
      refine d_grow rfl rfl (by decide) rfl fun _ hS => ?_
      repeat refine And.intro qLk2 ?_
      refine hS _ _ _ ?_
      clear hS
      refine d_grow rfl rfl (by decide) rfl fun _ hS => ?_
      repeat first | refine And.intro qLk2 ?_ | refine whole_yes qLk2 ?_ | refine whole_sub ?_
      intro cap8 hcap8; refine hS _ _ _ ?_
      clear hS
      refine d_read rfl rfl (by decide) rfl fun _ hS => ?_
      repeat refine And.intro qLk2 ?_
      refine hS _ ?_
      clear hS
      refine d_grow0 rfl rfl rfl fun _ hS => ?_
      repeat refine And.intro qLk2 ?_
      first | refine hS _ _ _ ?_ | (refine splice_full qLk2 ?_; refine hS _ _ _ ?_)
      clear hS
      refine d_nil ?_
      refine hK19 _ _ _ ?_
      refine done_block ?_
      refine hK18 _ _ _ ?_
      refine region_k h3_ok fun _ hK20 => ?_
      refine s_step rfl (by decide) rfl fun _ hS => ?_
      refine hS _ _ _ ?_
      clear hS
      refine s_step rfl (by decide) rfl fun _ hS => ?_
      repeat refine And.intro qLk0 ?_
      refine hS _ _ _ ?_
      clear hS
      refine s_step rfl (by decide) rfl fun _ hS => ?_
      refine hS _ _ _ ?_
      clear hS
      refine s_nil ?_
      refine hK20 _ _ _ ?_
      refine Done_some [] (fun i => if i = 4 then 6 else i) (k.1 + 1, cap8) ⟨⟨by omega, by omega⟩, by omega⟩ ⟨?_, ?_, (by decide : List.Nodup ([0, 1, 2, 3, 6] : List Nat)), ?_, ?_, ⟨Nat.zero_le _, fun i hi => absurd hi (Nat.not_lt_zero i)⟩⟩
      ·exact uLk0
      ·exact uLk0
      ·exact uLk0
      ·exact uLk0
     ·try simp only [decide_eq_false_iff_not, Int.not_lt, if_true] at h_t42
      have hfin : b.take k.1 = b.take m := take_min b hk.2 (.inl (by omega))
      refine WP_exit ?_
      refine done_thenx ?_
      refine done_thenx ?_
      refine Done_hit ?_
      refine Done_some [] id k.2 trivial ⟨?_, ?_, (by decide : List.Nodup ([0, 1, 2, 3, 4] : List Nat)), ?_, ?_, ⟨Nat.zero_le _, fun i hi => absurd hi (Nat.not_lt_zero i)⟩⟩
      ·exact uLk1
      ·exact uLk2
      ·exact uLk0
      ·exact uLk0
    ·clear hS
     try simp only [decide_eq_false_iff_not, Int.not_lt] at hb5
     refine s_guard (b := false) rfl (by decide) rfl rfl (fun e => absurd e (by decide)) (fun _ => ?_)
     refine s_guard (b := false) rfl (by decide) rfl rfl (fun e => absurd e (by decide)) (fun _ => ?_)
     refine s_guard (b := false) rfl (by decide) rfl rfl (fun e => absurd e (by decide)) (fun _ => ?_)
     refine s_step rfl (by decide) rfl fun _ hS => ?_
     refine hS _ _ _ ?_
     clear hS
     refine s_nil ?_
     refine hK17 _ _ _ ?_
     refine hK16 _ _ _ ?_
     have hfin : b.take k.1 = b.take m := take_min b hk.2 (.inr (by omega))
     refine WP_cond (b := _) rfl (fun h_t42 => ?_) (fun _ => ?_)
     ·exfalso; cases h_t42
     refine WP_exit ?_
     refine done_thenx ?_
     refine done_thenx ?_
     refine Done_hit ?_
     refine Done_some [] id k.2 trivial ⟨?_, ?_, (by decide : List.Nodup ([0, 1, 2, 3, 4] : List Nat)), ?_, ?_, ⟨Nat.zero_le _, fun i hi => absurd hi (Nat.not_lt_zero i)⟩⟩
     ·exact uLk1
     ·exact uLk2
     ·exact uLk0
     ·exact uLk0
  ·intro capB _
   refine seq_k fun _ hK21 => ?_
   refine seq_k fun _ hK22 => ?_
   refine region_k h3_ok fun _ hK23 => ?_
   refine s_step rfl (by decide) rfl fun _ hS => ?_
   repeat refine And.intro qLk0 ?_
   refine hS _ _ _ ?_
   clear hS
   refine s_step rfl (by decide) rfl fun _ hS => ?_
   repeat refine And.intro qLk0 ?_
   first | refine hS _ _ _ ?_ | (refine whole_yes qLk0 ?_; refine hS _ _ _ ?_) | (refine whole_sub ?_; refine hS _ _ _ ?_)
   clear hS
   refine s_step rfl (by decide) rfl fun _ hS => ?_
   repeat refine And.intro qLk0 ?_
   refine hS _ _ _ ?_
   clear hS
   refine s_step rfl (by decide) rfl fun _ hS => ?_
   repeat refine And.intro qLk0 ?_
   refine hS _ _ _ ?_
   clear hS
   refine s_nil ?_
   refine hK23 _ _ _ ?_
   refine hK22 _ _ _ ?_
   refine WP_cond (b := _) rfl (fun h_t58 => ?_) (fun h_t58 => ?_)
   ·try simp only [decide_eq_true_eq] at h_t58
    have h0 : (b.take m).length = 0 := by omega
    have h00 : b.take m = [] := List.eq_nil_of_length_eq_zero h0
    refine region_k h3_ok fun _ hK24 => ?_
    refine s_step rfl (by decide) rfl fun _ hS => ?_
    repeat refine And.intro qLk2 ?_
    refine hS _ _ _ ?_
    clear hS
    refine s_step rfl (by decide) rfl fun _ hS => ?_
    repeat refine And.intro qLk2 ?_
    first | refine hS _ _ _ ?_ | (refine whole_yes qLk2 ?_; refine hS _ _ _ ?_) | (refine whole_sub ?_; refine hS _ _ _ ?_)
    clear hS
    refine s_step rfl (by decide) rfl fun _ hS => ?_
    repeat refine And.intro qLk2 ?_
    refine hS _ _ _ ?_
    clear hS
    refine s_step rfl (by decide) rfl fun _ hS => ?_
    repeat first | refine And.intro qLk2 ?_ | refine whole_yes qLk2 ?_ | refine whole_sub ?_
    intro cap3 hcap3; refine hS _ _ _ ?_
    clear hS
    refine s_step rfl (by decide) rfl fun _ hS => ?_
    repeat refine And.intro qLk2 ?_
    refine hS _ _ _ ?_
    clear hS
    refine s_step0 rfl rfl fun _ hS => ?_
    repeat refine And.intro qLk2 ?_
    first | refine hS _ _ _ ?_ | (refine splice_full qLk2 ?_; refine hS _ _ _ ?_)
    clear hS
    refine s_nil ?_
    refine hK24 _ _ _ ?_
    refine hK21 _ _ _ ?_
    refine seq_k fun _ hK25 => ?_
    refine region_k h3_ok fun _ hK26 => ?_
    refine s_step rfl (by decide) rfl fun _ hS => ?_
    repeat refine And.intro qLk0 ?_
    first | refine hS _ _ _ ?_ | (refine whole_yes qLk0 ?_; refine hS _ _ _ ?_) | (refine whole_sub ?_; refine hS _ _ _ ?_)
    clear hS
    refine s_step0 rfl rfl fun _ hS => ?_
    repeat refine And.intro qLk0 ?_
    first | refine hS _ _ _ ?_ | (refine splice_full qLk0 ?_; refine hS _ _ _ ?_)
    clear hS
    refine s_nil ?_
    refine hK26 _ _ _ ?_
    refine hK25 _ _ _ ?_
    refine WP_ret (Done_data h3_ok (fun _ _ h => h) (low_lsC) [3, 6] [.cell 6 24] rfl ?_)
    rw [madeL, if_pos h0]
    repeat' (first | exact trivial | refine And.intro ?_ ?_ | rfl | omega | decide | (show (_ : Nat) < _; decide) | exact low_nil' | refine low_cons' ?_ ?_ | exact Nat.le_refl _ | exact Nat.succ_pos _)
    all_goals first | omega | (simp [h00]; done) | (simp [h00] <;> omega) | skip
   ·try simp only [decide_eq_false_iff_not] at h_t58
    have h0 : ¬ (b.take m).length = 0 := by omega
    refine WP_skip ?_
    refine hK21 _ _ _ ?_
    refine seq_k fun _ hK27 => ?_
    refine region_k h3_ok fun _ hK28 => ?_
    refine s_step rfl (by decide) rfl fun _ hS => ?_
    repeat refine And.intro qLk0 ?_
    first | refine hS _ _ _ ?_ | (refine whole_yes qLk0 ?_; refine hS _ _ _ ?_) | (refine whole_sub ?_; refine hS _ _ _ ?_)
    clear hS
    refine s_step0 rfl rfl fun _ hS => ?_
    repeat refine And.intro qLk0 ?_
    first | refine hS _ _ _ ?_ | (refine splice_full qLk0 ?_; refine hS _ _ _ ?_)
    clear hS
    refine s_nil ?_
    refine hK28 _ _ _ ?_
    refine hK27 _ _ _ ?_
    refine WP_ret (Done_data h3_ok (fun _ _ h => h) (low_lsC) [3, 4] [.cell 6 24] rfl ?_)
    rw [madeL, if_neg h0]
    repeat' (first | exact trivial | refine And.intro ?_ ?_ | rfl | omega | decide | (show (_ : Nat) < _; decide) | exact low_nil' | refine low_cons' ?_ ?_ | exact Nat.le_refl _ | exact Nat.succ_pos _)
    all_goals first | omega | (simp; done) | (simp <;> omega) | skip


end Go.Proofs.YtpfncffapgkjaaaDoor
