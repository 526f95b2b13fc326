/- The canonical form of a set; intersections and unions. -/
import Derived.Test.YtpfncffapgkjaaaDoorAb14
import Derived.Test.YtpfncffapgkjaaaDoorAb21
import Derived.Test.YtpfncffapgkjaaaDoorCtx
import Derived.Test.YtpfncffapgkjaaaDoorLa
import Derived.Test.YtpfncffapgkjaaaDoorLc
import Derived.Test.YtpfncffapgkjaaaDoorLd
namespace Go.Proofs.YtpfncffapgkjaaaDoor
set_option linter.unusedVariables false
open Go.Ab Go.RowKit

theorem qLe0 {a : Prop} (h : a := by first | omega | exact trivial | rfl | (simp only [len_u8s, len_u32s, len_u64s, len_ints, len_bools, len_cells]; omega) | exact inR_i64.mpr ⟨by omega, by omega⟩ | (simp <;> omega) | (refine And.intro ?_ ?_ <;> exact trivial) | exact ⟨trivial, trivial, trivial⟩ | decide | (refine And.intro rfl ?_; (repeat first | exact trivial | refine And.intro rfl ?_); done) | exact Nat.succ_pos _ | exact Nat.le_refl _ | (refine And.intro trivial ?_; (repeat first | exact trivial | refine And.intro trivial ?_); done)) : a := h
theorem qLe1 {a : Prop} (h : a := by first | omega | exact trivial | rfl | (simp only [len_u8s, len_u32s, len_u64s, len_ints, len_bools, len_cells]; omega) | exact inR_i64.mpr ⟨by omega, by omega⟩ | (simp <;> omega) | exact And.intro (fun x hx => by cases hx) trivial | (refine And.intro ?_ ?_ <;> exact trivial) | exact ⟨trivial, trivial, trivial⟩ | decide | (refine And.intro rfl ?_; (repeat first | exact trivial | refine And.intro rfl ?_); done) | exact Nat.succ_pos _ | exact Nat.le_refl _ | (refine And.intro trivial ?_; (repeat first | exact trivial | refine And.intro trivial ?_); done)) : a := h


def canonL (h c : List Bool) : LOut := if 0 < c.length ∧ h.length + c.length ≤ 512 then canonO (atL h c) h.length c.length else errO 1
def mergeL (op : Bool → Bool → Bool) (a b c d : List Bool) : LOut := if (0 < b.length ∧ a.length + b.length ≤ 512) ∧ 0 < d.length ∧ c.length + d.length ≤ 512 then canonO (fun n => op (atL a b n) (atL c d n)) (max a.length c.length) (lcmL b.length d.length) else errO 1
abbrev B2 (a b c d : List Bool) : Prop := a.length ≤ 9223372036854775807 ∧ b.length ≤ 9223372036854775807 ∧ c.length ≤ 9223372036854775807 ∧ d.length ≤ 9223372036854775807
noncomputable def g6 : Ctx := { P := Tryd.prog, ty := ty, glob := gl, fs := [(17, .flat validS), (32, .data (canonS 33 canon1S))] }
theorem g6_ok : g6.OK := ⟨tyOK, ⟨⟨enters_mk Tryd.func17 (by kernel_rfl) rfl, valid_ok⟩, ⟨enters_mk Tryd.func32 (by kernel_rfl) rfl, canon_ok (enters_mk Tryd.func33 (by kernel_rfl) rfl) ⟨by decide, by decide⟩ canon1_ok⟩, trivial⟩, mixed⟩
@[simp] theorem g6_ty : g6.ty = ty := rfl

def canonPS : QSpec := fun vs K => ∃ a b, vs = [lsV a b] ∧ (a.length ≤ 9223372036854775807 ∧ b.length ≤ 9223372036854775807) ∧ K (outV (canonL a b))
theorem canonP_ok : DataOK Tryd.prog gl 14 canonPS := by
 refine data_of (Γ := g6) (N := 18) Tryd.func14 rfl rfl fun vs K h => ?_
 obtain ⟨a, b, rfl, ⟨hl1, hl2⟩, h⟩ := h
 refine ⟨_, h, low_outV, by simp, fun w I => ?_⟩
 refine seq_k fun _ hK1 => ?_
 refine region_k g6_ok fun _ hK2 => ?_
 refine s_step rfl (by decide) rfl fun _ hS => ?_
 repeat refine And.intro qLe0 ?_
 refine hS _ _ _ ?_
 clear hS
 refine s_step rfl (by decide) rfl fun _ hS => ?_
 repeat refine And.intro qLe0 ?_
 refine hS _ _ _ ?_
 clear hS
 refine s_step rfl (by decide) rfl fun _ hS => ?_
 refine hS _ _ _ ?_
 clear hS
 refine s_nil ?_
 refine hK2 _ _ _ ?_
 refine hK1 _ _ _ ?_
 refine seq_k fun _ hK3 => ?_
 refine seq_k fun _ hK4 => ?_
 refine region_k g6_ok fun _ hK5 => ?_
 refine s_step rfl (by decide) rfl fun _ hS => ?_
 repeat refine And.intro qLe0 ?_
 first | refine hS _ _ _ ?_ | (refine whole_yes qLe0 ?_; refine hS _ _ _ ?_) | (refine whole_sub ?_; refine hS _ _ _ ?_)
 clear hS
 refine s_step rfl (by decide) rfl fun _ hS => ?_
 repeat first | refine And.intro qLe0 ?_ | refine whole_yes qLe0 ?_ | refine whole_sub ?_
 refine ⟨a, b, rfl, ⟨hl1, hl2⟩, ?_⟩
 repeat refine And.intro qLe0 ?_
 first | refine hS _ _ _ ?_ | (intro cap1 hcap1; refine hS _ _ _ ?_)
 clear hS
 refine s_step rfl (by decide) rfl fun _ hS => ?_
 refine hS _ _ _ ?_
 clear hS
 refine s_nil ?_
 refine hK5 _ _ _ ?_
 refine hK4 _ _ _ ?_
 refine WP_cond (b := _) rfl (fun h_t6 => ?_) (fun h_t6 => ?_)
 ·try try simp only [decide_eq_false_iff_not, Bool.not_eq_eq_eq_not, Bool.not_true] at h_t6
  refine seq_k fun _ hK6 => ?_
  refine region_k g6_ok fun _ hK7 => ?_
  refine s_step rfl (by decide) rfl fun _ hS => ?_
  repeat refine And.intro qLe0 ?_
  refine hS _ _ _ ?_
  clear hS
  refine s_step0 rfl rfl fun _ hS => ?_
  repeat refine And.intro qLe0 ?_
  first | refine hS _ _ _ ?_ | (refine splice_full qLe0 ?_; refine hS _ _ _ ?_)
  clear hS
  refine s_step rfl (by decide) rfl fun _ hS => ?_
  refine hS _ _ _ ?_
  clear hS
  refine s_nil ?_
  refine hK7 _ _ _ ?_
  refine hK6 _ _ _ ?_
  refine WP_ret (Done_data g6_ok (fun _ _ h => h) (low_outV) [] [.cell 2 24, .tmp 3] rfl ?_)
  rw [canonL, if_neg (by omega)]
  repeat' (first | exact trivial | refine And.intro ?_ ?_ | rfl | omega | decide | (show (_ : Nat) < _; decide) | exact low_nil' | refine low_cons' ?_ ?_ | exact Nat.le_refl _ | exact Nat.succ_pos _)
 ·try try simp only [decide_eq_true_eq, Bool.not_eq_eq_eq_not, Bool.not_false] at h_t6
  refine WP_skip ?_
  refine hK3 _ _ _ ?_
  refine seq_k fun _ hK8 => ?_
  refine region_k g6_ok fun _ hK9 => ?_
  refine s_step rfl (by decide) rfl fun _ hS => ?_
  repeat refine And.intro qLe0 ?_
  refine hS _ _ _ ?_
  clear hS
  refine s_step rfl (by decide) rfl fun _ hS => ?_
  repeat refine And.intro qLe0 ?_
  first | refine hS _ _ _ ?_ | (refine whole_yes qLe0 ?_; refine hS _ _ _ ?_) | (refine whole_sub ?_; refine hS _ _ _ ?_)
  clear hS
  refine s_step rfl (by decide) rfl fun _ hS => ?_
  repeat refine And.intro qLe0 ?_
  refine hS _ _ _ ?_
  clear hS
  refine s_step rfl (by decide) rfl fun _ hS => ?_
  repeat refine And.intro qLe0 ?_
  refine hS _ _ _ ?_
  clear hS
  refine s_step rfl (by decide) rfl fun _ hS => ?_
  repeat refine And.intro qLe0 ?_
  first | refine hS _ _ _ ?_ | (refine whole_yes qLe0 ?_; refine hS _ _ _ ?_) | (refine whole_sub ?_; refine hS _ _ _ ?_)
  clear hS
  refine s_step rfl (by decide) rfl fun _ hS => ?_
  repeat refine And.intro qLe0 ?_
  refine hS _ _ _ ?_
  clear hS
  refine s_step rfl (by decide) rfl fun _ hS => ?_
  repeat refine And.intro qLe0 ?_
  refine hS _ _ _ ?_
  clear hS
  refine s_step rfl (by decide) rfl fun _ hS => ?_
  repeat first | refine And.intro qLe0 ?_ | refine whole_yes qLe0 ?_ | refine whole_sub ?_
  refine ⟨_, atL a b, a.length, b.length, rfl, ⟨by omega, by omega⟩, ⟨dataC_cons dataC_dp dataC_nil, fun n hn => ⟨a, b, n, rfl, ⟨by omega, by omega, by omega, by omega⟩, rfl⟩⟩, ?_⟩
  repeat refine And.intro qLe0 ?_
  first | refine hS _ _ _ ?_ | (intro cap7 hcap7; refine hS _ _ _ ?_)
  clear hS
  refine s_step rfl (by decide) rfl fun _ hS => ?_
  repeat refine And.intro qLe0 ?_
  refine hS _ _ _ ?_
  clear hS
  refine s_step rfl (by decide) rfl fun _ hS => ?_
  repeat refine And.intro qLe0 ?_
  refine hS _ _ _ ?_
  clear hS
  refine s_step0 rfl rfl fun _ hS => ?_
  repeat refine And.intro qLe0 ?_
  first | refine hS _ _ _ ?_ | (refine splice_full qLe0 ?_; refine hS _ _ _ ?_)
  clear hS
  refine s_step rfl (by decide) rfl fun _ hS => ?_
  refine hS _ _ _ ?_
  clear hS
  refine s_nil ?_
  refine hK9 _ _ _ ?_
  refine hK8 _ _ _ ?_
  refine WP_ret (Done_data g6_ok (fun _ _ h => h) (low_outV) [] [.cell 2 24, .tmp 3] rfl ?_)
  rw [canonL, if_pos (by omega)]
  repeat' (first | exact trivial | refine And.intro ?_ ?_ | rfl | omega | decide | (show (_ : Nat) < _; decide) | exact low_nil' | refine low_cons' ?_ ?_ | exact Nat.le_refl _ | exact Nat.succ_pos _)

noncomputable def gmergeA : Ctx := { P := Tryd.prog, ty := ty, glob := gl, fs := [(17, .flat validS), (42, .flat commonS), (32, .data (canonS 55 mergeAndS))] }
theorem gmergeA_ok : gmergeA.OK := ⟨tyOK, ⟨⟨enters_mk Tryd.func17 (by kernel_rfl) rfl, valid_ok⟩, ⟨enters_mk Tryd.func42 (by kernel_rfl) rfl, common_ok⟩, ⟨enters_mk Tryd.func32 (by kernel_rfl) rfl, canon_ok (enters_mk Tryd.func55 (by kernel_rfl) rfl) ⟨by decide, by decide⟩ mergeAnd_ok⟩, trivial⟩, mixed⟩
@[simp] theorem gmergeA_ty : gmergeA.ty = ty := rfl

def mergeAS : QSpec := fun vs K => ∃ a b c d, vs = [lsV a b, lsV c d, .c (.clo 39 [])] ∧ B2 a b c d ∧ K (outV (mergeL (fun x y => x && y) a b c d))
theorem mergeA_ok : DataOK Tryd.prog gl 38 mergeAS := by
 refine data_of (Γ := gmergeA) (N := 35) Tryd.func38 rfl rfl fun vs K h => ?_
 obtain ⟨a, b, c, d, rfl, ⟨hl1, hl2, hl3, hl4⟩, h⟩ := h
 refine ⟨_, h, low_outV, by simp, fun w I => ?_⟩
 have maxI : ∀ x y : Nat, (if (x : Int) < y then (y : Int) else x) = ((max x y : Nat) : Int) := fun x y => by split <;> omega
 refine seq_k fun _ hK1 => ?_
 refine region_k gmergeA_ok fun _ hK2 => ?_
 refine s_step rfl (by decide) rfl fun _ hS => ?_
 repeat refine And.intro qLe0 ?_
 refine hS _ _ _ ?_
 clear hS
 refine s_step rfl (by decide) rfl fun _ hS => ?_
 repeat refine And.intro qLe0 ?_
 refine hS _ _ _ ?_
 clear hS
 refine s_step rfl (by decide) rfl fun _ hS => ?_
 repeat refine And.intro qLe0 ?_
 refine hS _ _ _ ?_
 clear hS
 refine s_step rfl (by decide) rfl fun _ hS => ?_
 repeat refine And.intro qLe0 ?_
 refine hS _ _ _ ?_
 clear hS
 refine s_step rfl (by decide) rfl fun _ hS => ?_
 refine hS _ _ _ ?_
 clear hS
 refine s_nil ?_
 refine hK2 _ _ _ ?_
 refine hK1 _ _ _ ?_
 refine seq_k fun _ hK3 => ?_
 refine seq_k fun _ hK4 => ?_
 refine region_k gmergeA_ok fun _ hK5 => ?_
 refine s_step rfl (by decide) rfl fun _ hS => ?_
 repeat refine And.intro qLe0 ?_
 first | refine hS _ _ _ ?_ | (refine whole_yes qLe0 ?_; refine hS _ _ _ ?_) | (refine whole_sub ?_; refine hS _ _ _ ?_)
 clear hS
 refine s_step rfl (by decide) rfl fun _ hS => ?_
 repeat first | refine And.intro qLe0 ?_ | refine whole_yes qLe0 ?_ | refine whole_sub ?_
 refine ⟨a, b, rfl, ⟨hl1, hl2⟩, ?_⟩
 repeat refine And.intro qLe0 ?_
 first | refine hS _ _ _ ?_ | (intro cap1 hcap1; refine hS _ _ _ ?_)
 clear hS
 refine s_step rfl (by decide) rfl fun _ hS => ?_
 refine hS _ _ _ ?_
 clear hS
 refine s_step rfl (by decide) rfl fun _ hS => ?_
 refine s_split hS (fun hb3 => ?_) (fun hb3 => ?_)
 ·clear hS
  try simp only [decide_eq_false_iff_not, Bool.not_eq_eq_eq_not, Bool.not_true] at hb3
  refine s_guard (b := true) rfl (by decide) rfl rfl (fun e => absurd e (by decide)) (fun _ => ?_)
  refine s_guard (b := true) rfl (by decide) rfl rfl (fun e => absurd e (by decide)) (fun _ => ?_)
  refine s_guard (b := true) rfl (by decide) rfl rfl (fun e => absurd e (by decide)) (fun _ => ?_)
  refine s_step rfl (by decide) rfl fun _ hS => ?_
  refine hS _ _ _ ?_
  clear hS
  refine s_nil ?_
  refine hK5 _ _ _ ?_
  refine hK4 _ _ _ ?_
  refine WP_cond (b := _) rfl (fun _ => ?_) (fun h_t15 => ?_)
  rotate_left 1
  ·exfalso; simp at h_t15
  refine seq_k fun _ hK6 => ?_
  refine region_k gmergeA_ok fun _ hK7 => ?_
  refine s_step rfl (by decide) rfl fun _ hS => ?_
  repeat refine And.intro qLe0 ?_
  refine hS _ _ _ ?_
  clear hS
  refine s_step0 rfl rfl fun _ hS => ?_
  repeat refine And.intro qLe0 ?_
  first | refine hS _ _ _ ?_ | (refine splice_full qLe0 ?_; refine hS _ _ _ ?_)
  clear hS
  refine s_step rfl (by decide) rfl fun _ hS => ?_
  refine hS _ _ _ ?_
  clear hS
  refine s_nil ?_
  refine hK7 _ _ _ ?_
  refine hK6 _ _ _ ?_
  refine WP_ret (Done_data gmergeA_ok (fun _ _ h => h) (low_outV) [] [.cell 6 24, .tmp 7] rfl ?_)
  have hneg : ¬ ((0 < b.length ∧ a.length + b.length ≤ 512) ∧ 0 < d.length ∧ c.length + d.length ≤ 512) := fun hh => hb3 hh.1
  rw [mergeL, if_neg hneg]
  repeat' (first | exact trivial | refine And.intro ?_ ?_ | rfl | omega | decide | (show (_ : Nat) < _; decide) | exact low_nil' | refine low_cons' ?_ ?_ | exact Nat.le_refl _ | exact Nat.succ_pos _)
 ·clear hS
  try simp only [decide_eq_true_eq, Bool.not_eq_eq_eq_not, Bool.not_false] at hb3
  refine s_guard (b := false) rfl (by decide) rfl rfl (fun _ _ hS => ?_) (fun e => absurd e (by decide))
  repeat refine And.intro qLe0 ?_
  first | refine hS _ _ _ ?_ | (refine whole_yes qLe0 ?_; refine hS _ _ _ ?_) | (refine whole_sub ?_; refine hS _ _ _ ?_)
  clear hS
  refine s_guard (b := false) rfl (by decide) rfl rfl (fun _ _ hS => ?_) (fun e => absurd e (by decide))
  repeat first | refine And.intro qLe0 ?_ | refine whole_yes qLe0 ?_ | refine whole_sub ?_
  refine ⟨c, d, rfl, ⟨hl3, hl4⟩, ?_⟩
  repeat refine And.intro qLe0 ?_
  first | refine hS _ _ _ ?_ | (intro cap5 hcap5; refine hS _ _ _ ?_)
  clear hS
  refine s_guard (b := false) rfl (by decide) rfl rfl (fun _ _ hS => ?_) (fun e => absurd e (by decide))
  refine hS _ _ _ ?_
  clear hS
  refine s_step rfl (by decide) rfl fun _ hS => ?_
  refine hS _ _ _ ?_
  clear hS
  refine s_nil ?_
  refine hK5 _ _ _ ?_
  refine hK4 _ _ _ ?_
  refine WP_cond (b := _) rfl (fun h_t15 => ?_) (fun h_t15 => ?_)
  ·try try simp only [decide_eq_false_iff_not, Bool.not_eq_eq_eq_not, Bool.not_true, if_false, Bool.false_eq_true] at h_t15
   refine seq_k fun _ hK8 => ?_
   refine region_k gmergeA_ok fun _ hK9 => ?_
   refine s_step rfl (by decide) rfl fun _ hS => ?_
   repeat refine And.intro qLe0 ?_
   refine hS _ _ _ ?_
   clear hS
   refine s_step0 rfl rfl fun _ hS => ?_
   repeat refine And.intro qLe0 ?_
   first | refine hS _ _ _ ?_ | (refine splice_full qLe0 ?_; refine hS _ _ _ ?_)
   clear hS
   refine s_step rfl (by decide) rfl fun _ hS => ?_
   refine hS _ _ _ ?_
   clear hS
   refine s_nil ?_
   refine hK9 _ _ _ ?_
   refine hK8 _ _ _ ?_
   refine WP_ret (Done_data gmergeA_ok (fun _ _ h => h) (low_outV) [] [.cell 6 24, .tmp 7] rfl ?_)
   have hneg : ¬ ((0 < b.length ∧ a.length + b.length ≤ 512) ∧ 0 < d.length ∧ c.length + d.length ≤ 512) := fun hh => h_t15 hh.2
   rw [mergeL, if_neg hneg]
   repeat' (first | exact trivial | refine And.intro ?_ ?_ | rfl | omega | decide | (show (_ : Nat) < _; decide) | exact low_nil' | refine low_cons' ?_ ?_ | exact Nat.le_refl _ | exact Nat.succ_pos _)
  ·try try simp only [decide_eq_true_eq, Bool.not_eq_eq_eq_not, Bool.not_false, if_false, Bool.false_eq_true] at h_t15
   refine WP_skip ?_
   refine hK3 _ _ _ ?_
   refine seq_k fun _ hK10 => ?_
   have hv : (0 < b.length ∧ a.length + b.length ≤ 512) ∧ 0 < d.length ∧ c.length + d.length ≤ 512 := by
    first | omega | (simp at h_t15; omega)
   have hlp := lcmL_pos hv.1.1 hv.2.1
   have hle := lcmL_le b.length d.length
   have hmu : b.length * d.length ≤ 512 * 512 := Nat.mul_le_mul (by omega) (by omega)
   refine sched_k gmergeA_ok [(0, true), (1, true), (2, true), (3, true), (4, true), (5, true), (6, true), (7, true), (8, true), (9, true), (10, true), (11, true), (12, true), (14, true), (13, false), (15, false), (16, true), (17, true), (18, false), (19, true)] rfl (by kernel_rfl) (by kernel_rfl) fun _ hK11 => ?_
   refine d_read rfl rfl (by decide) rfl fun _ hS => ?_
   repeat refine And.intro qLe1 ?_
   refine hS _ ?_
   clear hS
   refine d_read rfl rfl (by decide) rfl fun _ hS => ?_
   repeat refine And.intro qLe1 ?_
   first | refine hS _ ?_ | (refine whole_yes qLe1 ?_; refine hS _ ?_) | (refine whole_sub ?_; refine hS _ ?_)
   clear hS
   refine d_read rfl rfl (by decide) rfl fun _ hS => ?_
   repeat refine And.intro qLe1 ?_
   refine hS _ ?_
   clear hS
   refine d_read rfl rfl (by decide) rfl fun _ hS => ?_
   repeat refine And.intro qLe1 ?_
   refine hS _ ?_
   clear hS
   refine d_read rfl rfl (by decide) rfl fun _ hS => ?_
   repeat refine And.intro qLe1 ?_
   first | refine hS _ ?_ | (refine whole_yes qLe1 ?_; refine hS _ ?_) | (refine whole_sub ?_; refine hS _ ?_)
   clear hS
   refine d_read rfl rfl (by decide) rfl fun _ hS => ?_
   repeat refine And.intro qLe1 ?_
   refine hS _ ?_
   clear hS
   refine d_read rfl rfl (by decide) rfl fun _ hS => ?_
   repeat refine And.intro qLe1 ?_
   refine hS _ ?_
   clear hS
   refine d_read rfl rfl (by decide) rfl fun _ hS => ?_
   repeat refine And.intro qLe1 ?_
   refine hS _ ?_
   clear hS
   refine d_read rfl rfl (by decide) rfl fun _ hS => ?_
   repeat refine And.intro qLe1 ?_
   first | refine hS _ ?_ | (refine whole_yes qLe1 ?_; refine hS _ ?_) | (refine whole_sub ?_; refine hS _ ?_)
   clear hS
   refine d_read rfl rfl (by decide) rfl fun _ hS => ?_
   repeat refine And.intro qLe1 ?_
   refine hS _ ?_
   clear hS
   refine d_read rfl rfl (by decide) rfl fun _ hS => ?_
   repeat refine And.intro qLe1 ?_
   refine hS _ ?_
   clear hS
   refine d_read rfl rfl (by decide) rfl fun _ hS => ?_
   repeat refine And.intro qLe1 ?_
   first | refine hS _ ?_ | (refine whole_yes qLe1 ?_; refine hS _ ?_) | (refine whole_sub ?_; refine hS _ ?_)
   clear hS
   refine d_read rfl rfl (by decide) rfl fun _ hS => ?_
   repeat refine And.intro qLe1 ?_
   refine hS _ ?_
   clear hS
   refine d_read rfl rfl (by decide) rfl fun _ hS => ?_
   repeat refine And.intro qLe1 ?_
   refine hS _ ?_
   clear hS
   refine d_grow rfl rfl (by decide) rfl fun _ hS => ?_
   repeat first | refine And.intro qLe1 ?_ | refine whole_yes qLe1 ?_ | refine whole_sub ?_
   refine ⟨b.length, d.length, rfl, ⟨by omega, by omega, by omega, by omega⟩, ?_⟩
   repeat refine And.intro qLe1 ?_
   first | refine hS _ _ _ ?_ | (intro cap13 hcap13; refine hS _ _ _ ?_)
   clear hS
   refine d_grow rfl rfl (by decide) rfl fun _ hS => ?_
   repeat first | refine And.intro qLe1 ?_ | refine whole_yes qLe1 ?_ | refine whole_sub ?_
   refine ⟨_, fun n => (fun x y => x && y) (atL a b n) (atL c d n), max a.length c.length, lcmL b.length d.length, by rw [maxI], ⟨by omega, by omega⟩, ⟨dataC_cons dataC_dp (dataC_cons dataC_dp (dataC_cons dataC_dp dataC_nil)), fun n hn => ⟨a, b, c, d, n, rfl, ⟨by omega, by omega, by omega, by omega, by omega, by omega, by omega⟩, rfl⟩⟩, ?_⟩
   repeat refine And.intro qLe1 ?_
   first | refine hS _ _ _ ?_ | (intro cap15 hcap15; refine hS _ _ _ ?_)
   clear hS
   refine d_read rfl rfl (by decide) rfl fun _ hS => ?_
   repeat refine And.intro qLe1 ?_
   refine hS _ ?_
   clear hS
   refine d_read rfl rfl (by decide) rfl fun _ hS => ?_
   repeat refine And.intro qLe1 ?_
   refine hS _ ?_
   clear hS
   refine d_grow0 rfl rfl rfl fun _ hS => ?_
   repeat refine And.intro qLe1 ?_
   first | refine hS _ _ _ ?_ | (refine splice_full qLe1 ?_; refine hS _ _ _ ?_)
   clear hS
   refine d_read rfl rfl (by decide) rfl fun _ hS => ?_
   refine hS _ ?_
   clear hS
   refine d_nil ?_
   refine hK11 _ _ _ ?_
   refine hK10 _ _ _ ?_
   refine WP_ret (Done_data gmergeA_ok (fun _ _ h => h) (low_outV) [] [.cell 6 24, .tmp 7] rfl ?_)
   rw [mergeL, if_pos hv]
   repeat' (first | exact trivial | refine And.intro ?_ ?_ | rfl | omega | decide | (show (_ : Nat) < _; decide) | exact low_nil' | refine low_cons' ?_ ?_ | exact Nat.le_refl _ | exact Nat.succ_pos _)

noncomputable def gmergeO : Ctx := { P := Tryd.prog, ty := ty, glob := gl, fs := [(17, .flat validS), (42, .flat commonS), (32, .data (canonS 55 mergeOrS))] }
theorem gmergeO_ok : gmergeO.OK := ⟨tyOK, ⟨⟨enters_mk Tryd.func17 (by kernel_rfl) rfl, valid_ok⟩, ⟨enters_mk Tryd.func42 (by kernel_rfl) rfl, common_ok⟩, ⟨enters_mk Tryd.func32 (by kernel_rfl) rfl, canon_ok (enters_mk Tryd.func55 (by kernel_rfl) rfl) ⟨by decide, by decide⟩ mergeOr_ok⟩, trivial⟩, mixed⟩
@[simp] theorem gmergeO_ty : gmergeO.ty = ty := rfl

def mergeOS : QSpec := fun vs K => ∃ a b c d, vs = [lsV a b, lsV c d, .c (.clo 41 [])] ∧ B2 a b c d ∧ K (outV (mergeL (fun x y => x || y) a b c d))
theorem mergeO_ok : DataOK Tryd.prog gl 38 mergeOS := by
 refine data_of (Γ := gmergeO) (N := 35) Tryd.func38 rfl rfl fun vs K h => ?_
 obtain ⟨a, b, c, d, rfl, ⟨hl1, hl2, hl3, hl4⟩, h⟩ := h
 refine ⟨_, h, low_outV, by simp, fun w I => ?_⟩
 have maxI : ∀ x y : Nat, (if (x : Int) < y then (y : Int) else x) = ((max x y : Nat) : Int) := fun x y => by split <;> omega
 refine seq_k fun _ hK1 => ?_
 refine region_k gmergeO_ok fun _ hK2 => ?_
 refine s_step rfl (by decide) rfl fun _ hS => ?_
 repeat refine And.intro qLe0 ?_
 refine hS _ _ _ ?_
 clear hS
 refine s_step rfl (by decide) rfl fun _ hS => ?_
 repeat refine And.intro qLe0 ?_
 refine hS _ _ _ ?_
 clear hS
 refine s_step rfl (by decide) rfl fun _ hS => ?_
 repeat refine And.intro qLe0 ?_
 refine hS _ _ _ ?_
 clear hS
 refine s_step rfl (by decide) rfl fun _ hS => ?_
 repeat refine And.intro qLe0 ?_
 refine hS _ _ _ ?_
 clear hS
 refine s_step rfl (by decide) rfl fun _ hS => ?_
 refine hS _ _ _ ?_
 clear hS
 refine s_nil ?_
 refine hK2 _ _ _ ?_
 refine hK1 _ _ _ ?_
 refine seq_k fun _ hK3 => ?_
 refine seq_k fun _ hK4 => ?_
 refine region_k gmergeO_ok fun _ hK5 => ?_
 refine s_step rfl (by decide) rfl fun _ hS => ?_
 repeat refine And.intro qLe0 ?_
 first | refine hS _ _ _ ?_ | (refine whole_yes qLe0 ?_; refine hS _ _ _ ?_) | (refine whole_sub ?_; refine hS _ _ _ ?_)
 clear hS
 refine s_step rfl (by decide) rfl fun _ hS => ?_
 repeat first | refine And.intro qLe0 ?_ | refine whole_yes qLe0 ?_ | refine whole_sub ?_
 refine ⟨a, b, rfl, ⟨hl1, hl2⟩, ?_⟩
 repeat refine And.intro qLe0 ?_
 first | refine hS _ _ _ ?_ | (intro cap1 hcap1; refine hS _ _ _ ?_)
 clear hS
 refine s_step rfl (by decide) rfl fun _ hS => ?_
 refine hS _ _ _ ?_
 clear hS
 refine s_step rfl (by decide) rfl fun _ hS => ?_
 refine s_split hS (fun hb3 => ?_) (fun hb3 => ?_)
 ·clear hS
  try simp only [decide_eq_false_iff_not, Bool.not_eq_eq_eq_not, Bool.not_true] at hb3
  refine s_guard (b := true) rfl (by decide) rfl rfl (fun e => absurd e (by decide)) (fun _ => ?_)
  refine s_guard (b := true) rfl (by decide) rfl rfl (fun e => absurd e (by decide)) (fun _ => ?_)
  refine s_guard (b := true) rfl (by decide) rfl rfl (fun e => absurd e (by decide)) (fun _ => ?_)
  refine s_step rfl (by decide) rfl fun _ hS => ?_
  refine hS _ _ _ ?_
  clear hS
  refine s_nil ?_
  refine hK5 _ _ _ ?_
  refine hK4 _ _ _ ?_
  refine WP_cond (b := _) rfl (fun _ => ?_) (fun h_t15 => ?_)
  rotate_left 1
  ·exfalso; simp at h_t15
  refine seq_k fun _ hK6 => ?_
  refine region_k gmergeO_ok fun _ hK7 => ?_
  refine s_step rfl (by decide) rfl fun _ hS => ?_
  repeat refine And.intro qLe0 ?_
  refine hS _ _ _ ?_
  clear hS
  refine s_step0 rfl rfl fun _ hS => ?_
  repeat refine And.intro qLe0 ?_
  first | refine hS _ _ _ ?_ | (refine splice_full qLe0 ?_; refine hS _ _ _ ?_)
  clear hS
  refine s_step rfl (by decide) rfl fun _ hS => ?_
  refine hS _ _ _ ?_
  clear hS
  refine s_nil ?_
  refine hK7 _ _ _ ?_
  refine hK6 _ _ _ ?_
  refine WP_ret (Done_data gmergeO_ok (fun _ _ h => h) (low_outV) [] [.cell 6 24, .tmp 7] rfl ?_)
  have hneg : ¬ ((0 < b.length ∧ a.length + b.length ≤ 512) ∧ 0 < d.length ∧ c.length + d.length ≤ 512) := fun hh => hb3 hh.1
  rw [mergeL, if_neg hneg]
  repeat' (first | exact trivial | refine And.intro ?_ ?_ | rfl | omega | decide | (show (_ : Nat) < _; decide) | exact low_nil' | refine low_cons' ?_ ?_ | exact Nat.le_refl _ | exact Nat.succ_pos _)
 ·clear hS
  try simp only [decide_eq_true_eq, Bool.not_eq_eq_eq_not, Bool.not_false] at hb3
  refine s_guard (b := false) rfl (by decide) rfl rfl (fun _ _ hS => ?_) (fun e => absurd e (by decide))
  repeat refine And.intro qLe0 ?_
  first | refine hS _ _ _ ?_ | (refine whole_yes qLe0 ?_; refine hS _ _ _ ?_) | (refine whole_sub ?_; refine hS _ _ _ ?_)
  clear hS
  refine s_guard (b := false) rfl (by decide) rfl rfl (fun _ _ hS => ?_) (fun e => absurd e (by decide))
  repeat first | refine And.intro qLe0 ?_ | refine whole_yes qLe0 ?_ | refine whole_sub ?_
  refine ⟨c, d, rfl, ⟨hl3, hl4⟩, ?_⟩
  repeat refine And.intro qLe0 ?_
  first | refine hS _ _ _ ?_ | (intro cap5 hcap5; refine hS _ _ _ ?_)
  clear hS
  refine s_guard (b := false) rfl (by decide) rfl rfl (fun _ _ hS => ?_) (fun e => absurd e (by decide))
  refine hS _ _ _ ?_
  clear hS
  refine s_step rfl (by decide) rfl fun _ hS => ?_
  refine hS _ _ _ ?_
  clear hS
  refine s_nil ?_
  refine hK5 _ _ _ ?_
  refine hK4 _ _ _ ?_
  refine WP_cond (b := _) rfl (fun h_t15 => ?_) (fun h_t15 => ?_)
  ·try try simp only [decide_eq_false_iff_not, Bool.not_eq_eq_eq_not, Bool.not_true, if_false, Bool.false_eq_true] at h_t15
   refine seq_k fun _ hK8 => ?_
   refine region_k gmergeO_ok fun _ hK9 => ?_
   refine s_step rfl (by decide) rfl fun _ hS => ?_
   repeat refine And.intro qLe0 ?_
   refine hS _ _ _ ?_
   clear hS
   refine s_step0 rfl rfl fun _ hS => ?_
   repeat refine And.intro qLe0 ?_
   first | refine hS _ _ _ ?_ | (refine splice_full qLe0 ?_; refine hS _ _ _ ?_)
   clear hS
   refine s_step rfl (by decide) rfl fun _ hS => ?_
   refine hS _ _ _ ?_
   clear hS
   refine s_nil ?_
   refine hK9 _ _ _ ?_
   refine hK8 _ _ _ ?_
   refine WP_ret (Done_data gmergeO_ok (fun _ _ h => h) (low_outV) [] [.cell 6 24, .tmp 7] rfl ?_)
   have hneg : ¬ ((0 < b.length ∧ a.length + b.length ≤ 512) ∧ 0 < d.length ∧ c.length + d.length ≤ 512) := fun hh => h_t15 hh.2
   rw [mergeL, if_neg hneg]
   repeat' (first | exact trivial | refine And.intro ?_ ?_ | rfl | omega | decide | (show (_ : Nat) < _; decide) | exact low_nil' | refine low_cons' ?_ ?_ | exact Nat.le_refl _ | exact Nat.succ_pos _)
  ·try try simp only [decide_eq_true_eq, Bool.not_eq_eq_eq_not, Bool.not_false, if_false, Bool.false_eq_true] at h_t15
   refine WP_skip ?_
   refine hK3 _ _ _ ?_
   refine seq_k fun _ hK10 => ?_
   have hv : (0 < b.length ∧ a.length + b.length ≤ 512) ∧ 0 < d.length ∧ c.length + d.length ≤ 512 := by
    first | omega | (simp at h_t15; omega)
   have hlp := lcmL_pos hv.1.1 hv.2.1
   have hle := lcmL_le b.length d.length
   have hmu : b.length * d.length ≤ 512 * 512 := Nat.mul_le_mul (by omega) (by omega)
   refine sched_k gmergeO_ok [(0, true), (1, true), (2, true), (3, true), (4, true), (5, true), (6, true), (7, true), (8, true), (9, true), (10, true), (11, true), (12, true), (14, true), (13, false), (15, false), (16, true), (17, true), (18, false), (19, true)] rfl (by kernel_rfl) (by kernel_rfl) fun _ hK11 => ?_
   refine d_read rfl rfl (by decide) rfl fun _ hS => ?_
   repeat refine And.intro qLe1 ?_
   refine hS _ ?_
   clear hS
   refine d_read rfl rfl (by decide) rfl fun _ hS => ?_
   repeat refine And.intro qLe1 ?_
   first | refine hS _ ?_ | (refine whole_yes qLe1 ?_; refine hS _ ?_) | (refine whole_sub ?_; refine hS _ ?_)
   clear hS
   refine d_read rfl rfl (by decide) rfl fun _ hS => ?_
   repeat refine And.intro qLe1 ?_
   refine hS _ ?_
   clear hS
   refine d_read rfl rfl (by decide) rfl fun _ hS => ?_
   repeat refine And.intro qLe1 ?_
   refine hS _ ?_
   clear hS
   refine d_read rfl rfl (by decide) rfl fun _ hS => ?_
   repeat refine And.intro qLe1 ?_
   first | refine hS _ ?_ | (refine whole_yes qLe1 ?_; refine hS _ ?_) | (refine whole_sub ?_; refine hS _ ?_)
   clear hS
   refine d_read rfl rfl (by decide) rfl fun _ hS => ?_
   repeat refine And.intro qLe1 ?_
   refine hS _ ?_
   clear hS
   refine d_read rfl rfl (by decide) rfl fun _ hS => ?_
   repeat refine And.intro qLe1 ?_
   refine hS _ ?_
   clear hS
   refine d_read rfl rfl (by decide) rfl fun _ hS => ?_
   repeat refine And.intro qLe1 ?_
   refine hS _ ?_
   clear hS
   refine d_read rfl rfl (by decide) rfl fun _ hS => ?_
   repeat refine And.intro qLe1 ?_
   first | refine hS _ ?_ | (refine whole_yes qLe1 ?_; refine hS _ ?_) | (refine whole_sub ?_; refine hS _ ?_)
   clear hS
   refine d_read rfl rfl (by decide) rfl fun _ hS => ?_
   repeat refine And.intro qLe1 ?_
   refine hS _ ?_
   clear hS
   refine d_read rfl rfl (by decide) rfl fun _ hS => ?_
   repeat refine And.intro qLe1 ?_
   refine hS _ ?_
   clear hS
   refine d_read rfl rfl (by decide) rfl fun _ hS => ?_
   repeat refine And.intro qLe1 ?_
   first | refine hS _ ?_ | (refine whole_yes qLe1 ?_; refine hS _ ?_) | (refine whole_sub ?_; refine hS _ ?_)
   clear hS
   refine d_read rfl rfl (by decide) rfl fun _ hS => ?_
   repeat refine And.intro qLe1 ?_
   refine hS _ ?_
   clear hS
   refine d_read rfl rfl (by decide) rfl fun _ hS => ?_
   repeat refine And.intro qLe1 ?_
   refine hS _ ?_
   clear hS
   refine d_grow rfl rfl (by decide) rfl fun _ hS => ?_
   repeat first | refine And.intro qLe1 ?_ | refine whole_yes qLe1 ?_ | refine whole_sub ?_
   refine ⟨b.length, d.length, rfl, ⟨by omega, by omega, by omega, by omega⟩, ?_⟩
   repeat refine And.intro qLe1 ?_
   first | refine hS _ _ _ ?_ | (intro cap13 hcap13; refine hS _ _ _ ?_)
   clear hS
   refine d_grow rfl rfl (by decide) rfl fun _ hS => ?_
   repeat first | refine And.intro qLe1 ?_ | refine whole_yes qLe1 ?_ | refine whole_sub ?_
   refine ⟨_, fun n => (fun x y => x || y) (atL a b n) (atL c d n), max a.length c.length, lcmL b.length d.length, by rw [maxI], ⟨by omega, by omega⟩, ⟨dataC_cons dataC_dp (dataC_cons dataC_dp (dataC_cons dataC_dp dataC_nil)), fun n hn => ⟨a, b, c, d, n, rfl, ⟨by omega, by omega, by omega, by omega, by omega, by omega, by omega⟩, rfl⟩⟩, ?_⟩
   repeat refine And.intro qLe1 ?_
   first | refine hS _ _ _ ?_ | (intro cap15 hcap15; refine hS _ _ _ ?_)
   clear hS
   refine d_read rfl rfl (by decide) rfl fun _ hS => ?_
   repeat refine And.intro qLe1 ?_
   refine hS _ ?_
   clear hS
   refine d_read rfl rfl (by decide) rfl fun _ hS => ?_
   repeat refine And.intro qLe1 ?_
   refine hS _ ?_
   clear hS
   refine d_grow0 rfl rfl rfl fun _ hS => ?_
   repeat refine And.intro qLe1 ?_
   first | refine hS _ _ _ ?_ | (refine splice_full qLe1 ?_; refine hS _ _ _ ?_)
   clear hS
   refine d_read rfl rfl (by decide) rfl fun _ hS => ?_
   refine hS _ ?_
   clear hS
   refine d_nil ?_
   refine hK11 _ _ _ ?_
   refine hK10 _ _ _ ?_
   refine WP_ret (Done_data gmergeO_ok (fun _ _ h => h) (low_outV) [] [.cell 6 24, .tmp 7] rfl ?_)
   rw [mergeL, if_pos hv]
   repeat' (first | exact trivial | refine And.intro ?_ ?_ | rfl | omega | decide | (show (_ : Nat) < _; decide) | exact low_nil' | refine low_cons' ?_ ?_ | exact Nat.le_refl _ | exact Nat.succ_pos _)

noncomputable def gandP : Ctx := { P := Tryd.prog, ty := ty, glob := gl, fs := [(38, .data mergeAS)] }
theorem gandP_ok : gandP.OK := ⟨tyOK, ⟨⟨enters_mk Tryd.func38 (by kernel_rfl) rfl, mergeA_ok⟩, trivial⟩, mixed⟩
@[simp] theorem gandP_ty : gandP.ty = ty := rfl

def andPS : QSpec := fun vs K => ∃ a b c d, vs = [lsV a b, lsV c d] ∧ B2 a b c d ∧ K (outV (mergeL (fun x y => x && y) a b c d))
theorem andP_ok : DataOK Tryd.prog gl 23 andPS := by
 refine data_of (Γ := gandP) (N := 11) Tryd.func23 rfl rfl fun vs K h => ?_
 obtain ⟨a, b, c, d, rfl, hl, h⟩ := h
 refine ⟨_, h, low_outV, by simp, fun w I => ?_⟩
 refine seq_k fun _ hK1 => ?_
 refine region_k gandP_ok fun _ hK2 => ?_
 refine s_step rfl (by decide) rfl fun _ hS => ?_
 repeat refine And.intro qLe0 ?_
 refine hS _ _ _ ?_
 clear hS
 refine s_step rfl (by decide) rfl fun _ hS => ?_
 repeat refine And.intro qLe0 ?_
 refine hS _ _ _ ?_
 clear hS
 refine s_step rfl (by decide) rfl fun _ hS => ?_
 repeat refine And.intro qLe0 ?_
 refine hS _ _ _ ?_
 clear hS
 refine s_step rfl (by decide) rfl fun _ hS => ?_
 refine hS _ _ _ ?_
 clear hS
 refine s_nil ?_
 refine hK2 _ _ _ ?_
 refine hK1 _ _ _ ?_
 refine seq_k fun _ hK3 => ?_
 refine region_k gandP_ok fun _ hK4 => ?_
 refine s_step rfl (by decide) rfl fun _ hS => ?_
 repeat refine And.intro qLe0 ?_
 first | refine hS _ _ _ ?_ | (refine whole_yes qLe0 ?_; refine hS _ _ _ ?_) | (refine whole_sub ?_; refine hS _ _ _ ?_)
 clear hS
 refine s_step rfl (by decide) rfl fun _ hS => ?_
 repeat refine And.intro qLe0 ?_
 first | refine hS _ _ _ ?_ | (refine whole_yes qLe0 ?_; refine hS _ _ _ ?_) | (refine whole_sub ?_; refine hS _ _ _ ?_)
 clear hS
 refine s_step rfl (by decide) rfl fun _ hS => ?_
 repeat first | refine And.intro qLe0 ?_ | refine whole_yes qLe0 ?_ | refine whole_sub ?_
 refine ⟨a, b, c, d, rfl, hl, ?_⟩
 repeat refine And.intro qLe0 ?_
 first | refine hS _ _ _ ?_ | (intro cap2 hcap2; refine hS _ _ _ ?_)
 clear hS
 refine s_step rfl (by decide) rfl fun _ hS => ?_
 repeat refine And.intro qLe0 ?_
 refine hS _ _ _ ?_
 clear hS
 refine s_step rfl (by decide) rfl fun _ hS => ?_
 repeat refine And.intro qLe0 ?_
 refine hS _ _ _ ?_
 clear hS
 refine s_step0 rfl rfl fun _ hS => ?_
 repeat refine And.intro qLe0 ?_
 first | refine hS _ _ _ ?_ | (refine splice_full qLe0 ?_; refine hS _ _ _ ?_)
 clear hS
 refine s_step rfl (by decide) rfl fun _ hS => ?_
 refine hS _ _ _ ?_
 clear hS
 refine s_nil ?_
 refine hK4 _ _ _ ?_
 refine hK3 _ _ _ ?_
 refine WP_ret (Done_data gandP_ok (fun _ _ h => h) (low_outV) [] [.cell 4 24, .tmp 5] rfl ?_)
 skip
 repeat' (first | exact trivial | refine And.intro ?_ ?_ | rfl | omega | decide | (show (_ : Nat) < _; decide) | exact low_nil' | refine low_cons' ?_ ?_ | exact Nat.le_refl _ | exact Nat.succ_pos _)

noncomputable def gorP : Ctx := { P := Tryd.prog, ty := ty, glob := gl, fs := [(38, .data mergeOS)] }
theorem gorP_ok : gorP.OK := ⟨tyOK, ⟨⟨enters_mk Tryd.func38 (by kernel_rfl) rfl, mergeO_ok⟩, trivial⟩, mixed⟩
@[simp] theorem gorP_ty : gorP.ty = ty := rfl

def orPS : QSpec := fun vs K => ∃ a b c d, vs = [lsV a b, lsV c d] ∧ B2 a b c d ∧ K (outV (mergeL (fun x y => x || y) a b c d))
theorem orP_ok : DataOK Tryd.prog gl 25 orPS := by
 refine data_of (Γ := gorP) (N := 11) Tryd.func25 rfl rfl fun vs K h => ?_
 obtain ⟨a, b, c, d, rfl, hl, h⟩ := h
 refine ⟨_, h, low_outV, by simp, fun w I => ?_⟩
 refine seq_k fun _ hK1 => ?_
 refine region_k gorP_ok fun _ hK2 => ?_
 refine s_step rfl (by decide) rfl fun _ hS => ?_
 repeat refine And.intro qLe0 ?_
 refine hS _ _ _ ?_
 clear hS
 refine s_step rfl (by decide) rfl fun _ hS => ?_
 repeat refine And.intro qLe0 ?_
 refine hS _ _ _ ?_
 clear hS
 refine s_step rfl (by decide) rfl fun _ hS => ?_
 repeat refine And.intro qLe0 ?_
 refine hS _ _ _ ?_
 clear hS
 refine s_step rfl (by decide) rfl fun _ hS => ?_
 refine hS _ _ _ ?_
 clear hS
 refine s_nil ?_
 refine hK2 _ _ _ ?_
 refine hK1 _ _ _ ?_
 refine seq_k fun _ hK3 => ?_
 refine region_k gorP_ok fun _ hK4 => ?_
 refine s_step rfl (by decide) rfl fun _ hS => ?_
 repeat refine And.intro qLe0 ?_
 first | refine hS _ _ _ ?_ | (refine whole_yes qLe0 ?_; refine hS _ _ _ ?_) | (refine whole_sub ?_; refine hS _ _ _ ?_)
 clear hS
 refine s_step rfl (by decide) rfl fun _ hS => ?_
 repeat refine And.intro qLe0 ?_
 first | refine hS _ _ _ ?_ | (refine whole_yes qLe0 ?_; refine hS _ _ _ ?_) | (refine whole_sub ?_; refine hS _ _ _ ?_)
 clear hS
 refine s_step rfl (by decide) rfl fun _ hS => ?_
 repeat first | refine And.intro qLe0 ?_ | refine whole_yes qLe0 ?_ | refine whole_sub ?_
 refine ⟨a, b, c, d, rfl, hl, ?_⟩
 repeat refine And.intro qLe0 ?_
 first | refine hS _ _ _ ?_ | (intro cap2 hcap2; refine hS _ _ _ ?_)
 clear hS
 refine s_step rfl (by decide) rfl fun _ hS => ?_
 repeat refine And.intro qLe0 ?_
 refine hS _ _ _ ?_
 clear hS
 refine s_step rfl (by decide) rfl fun _ hS => ?_
 repeat refine And.intro qLe0 ?_
 refine hS _ _ _ ?_
 clear hS
 refine s_step0 rfl rfl fun _ hS => ?_
 repeat refine And.intro qLe0 ?_
 first | refine hS _ _ _ ?_ | (refine splice_full qLe0 ?_; refine hS _ _ _ ?_)
 clear hS
 refine s_step rfl (by decide) rfl fun _ hS => ?_
 refine hS _ _ _ ?_
 clear hS
 refine s_nil ?_
 refine hK4 _ _ _ ?_
 refine hK3 _ _ _ ?_
 refine WP_ret (Done_data gorP_ok (fun _ _ h => h) (low_outV) [] [.cell 4 24, .tmp 5] rfl ?_)
 skip
 repeat' (first | exact trivial | refine And.intro ?_ ?_ | rfl | omega | decide | (show (_ : Nat) < _; decide) | exact low_nil' | refine low_cons' ?_ ?_ | exact Nat.le_refl _ | exact Nat.succ_pos _)


end Go.Proofs.YtpfncffapgkjaaaDoor
