/- The reference: sums. -/
import Derived.Test.YtpfncffapgkjaaaDoorAb14
import Derived.Test.YtpfncffapgkjaaaDoorAb21
import Derived.Test.YtpfncffapgkjaaaDoorAb22
import Derived.Test.YtpfncffapgkjaaaDoorCtx
import Derived.Test.YtpfncffapgkjaaaDoorLa
import Derived.Test.YtpfncffapgkjaaaDoorLd
import Derived.Test.YtpfncffapgkjaaaDoorLe
import Derived.Test.YtpfncffapgkjaaaDoorLi
namespace Go.Proofs.YtpfncffapgkjaaaDoor
set_option linter.unusedVariables false
open Go.Ab Go.RowKit

theorem qLj0 {a : Prop} (h : a := by first | omega | exact trivial | rfl | (simp only [len_u8s, len_u32s, len_u64s, len_ints, len_bools, len_cells]; omega) | exact inR_i64.mpr ⟨by omega, by omega⟩ | (simp <;> omega) | (refine And.intro ?_ ?_ <;> exact trivial) | exact ⟨trivial, trivial, trivial⟩ | decide | (refine And.intro rfl ?_; (repeat first | exact trivial | refine And.intro rfl ?_); done) | exact Nat.succ_pos _ | exact Nat.le_refl _ | (refine And.intro trivial ?_; (repeat first | exact trivial | refine And.intro trivial ?_); done)) : a := h
theorem qLj1 {a : Prop} (h : a := by first | omega | exact trivial | rfl | (simp only [len_u8s, len_u32s, len_u64s, len_ints, len_bools, len_cells]; omega) | exact inR_i64.mpr ⟨by omega, by omega⟩ | (simp [hPI] <;> omega) | (rw [inR_i64, hPI]; omega) | (refine And.intro ?_ ?_ <;> exact trivial) | exact ⟨trivial, trivial, trivial⟩ | decide | (refine And.intro rfl ?_; (repeat first | exact trivial | refine And.intro rfl ?_); done) | exact Nat.succ_pos _ | exact Nat.le_refl _ | (refine And.intro trivial ?_; (repeat first | exact trivial | refine And.intro trivial ?_); done)) : a := h
theorem qLj2 {a : Prop} (h : a := by first | omega | exact trivial | rfl | (simp only [len_u8s, len_u32s, len_u64s, len_ints, len_bools, len_cells]; omega) | exact inR_i64.mpr ⟨by omega, by omega⟩ | (simp [hPI] <;> omega) | (rw [inR_i64]; rw [hPI]; omega) | (rw [inR_i64, hPI]; omega) | (refine And.intro ?_ ?_ <;> exact trivial) | exact ⟨trivial, trivial, trivial⟩ | decide | (refine And.intro rfl ?_; (repeat first | exact trivial | refine And.intro rfl ?_); done) | exact Nat.succ_pos _ | exact Nat.le_refl _ | (refine And.intro trivial ?_; (repeat first | exact trivial | refine And.intro trivial ?_); done)) : a := h
theorem qLj3 {a : Prop} (h : a := by first | omega | exact trivial | rfl | (simp only [len_u8s, len_u32s, len_u64s, len_ints, len_bools, len_cells]; omega) | exact inR_i64.mpr ⟨by omega, by omega⟩ | (simp [hPI] <;> omega) | (refine And.intro ?_ ?_ <;> exact trivial) | exact ⟨trivial, trivial, trivial⟩ | decide | (refine And.intro rfl ?_; (repeat first | exact trivial | refine And.intro rfl ?_); done) | exact Nat.succ_pos _ | exact Nat.le_refl _ | (refine And.intro trivial ?_; (repeat first | exact trivial | refine And.intro trivial ?_); done)) : a := h
theorem qLj4 {a : Prop} (h : a := by first | omega | exact trivial | rfl | (simp only [len_u8s, len_u32s, len_u64s, len_ints, len_bools, len_cells]; omega) | exact inR_i64.mpr ⟨by omega, by omega⟩ | (simp <;> omega) | (simp <;> omega) | (refine And.intro ?_ ?_ <;> exact trivial) | exact ⟨trivial, trivial, trivial⟩ | decide | (refine And.intro rfl ?_; (repeat first | exact trivial | refine And.intro rfl ?_); done) | exact Nat.succ_pos _ | exact Nat.le_refl _ | (refine And.intro trivial ?_; (repeat first | exact trivial | refine And.intro trivial ?_); done)) : a := h

theorem uLj0 {a : Prop} (h : a := by
    repeat' (first | exact trivial | refine And.intro ?_ ?_ | rfl | omega | decide | (show (_ : Nat) < _; decide) | exact low_nil' | refine low_cons' ?_ ?_ | exact Nat.le_refl _ | exact Nat.succ_pos _)
    all_goals first | omega | (show (_ : List Bool) = _; first | exact preL_step _ hka | exact postL_step _ hka | exact preL_stay _ hka | exact postL_stay _ hka | exact hst | (rw [← hst]; simp [hb3]; done) | (simp [preL, postL]; done)) | (simp; done) | (simp <;> omega) | exact maxI _ _ | skip) : a := h
theorem uLj1 {a : Prop} (h : a := by
    repeat' (first | exact trivial | refine And.intro ?_ ?_ | rfl | omega | decide | (show (_ : Nat) < _; decide) | exact low_nil' | refine low_cons' ?_ ?_ | exact Nat.le_refl _ | exact Nat.succ_pos _)
    all_goals first | omega | (show (_ : Bool) = _; simp [hb3]; done) | (show (_ : List Bool) = _; first | exact preL_step _ hka | exact postL_step _ hka | exact preL_stay _ hka | exact postL_stay _ hka | exact hst | (rw [← hst]; simp [hb3]; done) | (simp [preL, postL]; done)) | (simp; done) | (simp <;> omega) | exact maxI _ _ | skip) : a := h
theorem uLj2 {a : Prop} (h : a := by
    repeat' (first | exact trivial | refine And.intro ?_ ?_ | rfl | omega | decide | (show (_ : Nat) < _; decide) | exact low_nil' | refine low_cons' ?_ ?_ | exact Nat.le_refl _ | exact Nat.succ_pos _)
    all_goals first | (show (_ : Bool) = _; exact hfin) | skip) : a := h

noncomputable def handR : Ctx := { P := Tryd.prog, ty := ty, glob := gl, fs := [(40, .data combAS)] }
theorem handR_ok : handR.OK := ⟨tyOK, ⟨⟨enters_mk Tryd.func40 (by kernel_rfl) rfl, combA_ok⟩, trivial⟩, mixed⟩
@[simp] theorem handR_ty : handR.ty = ty := rfl

def andRS : QSpec := fun vs K => ∃ a b c d, vs = [lsV a b, lsV c d] ∧ B2 a b c d ∧ K (outV (combL (fun x y => x && y) a b c d))
theorem andR_ok : DataOK Tryd.prog gl 24 andRS := by
 refine data_of (Γ := handR) (N := 11) Tryd.func24 rfl rfl fun vs K h => ?_
 obtain ⟨a, b, c, d, rfl, hl, h⟩ := h
 refine ⟨_, h, low_outV, by simp, fun w I => ?_⟩
 refine seq_k fun _ hK1 => ?_
 refine region_k handR_ok fun _ hK2 => ?_
 refine s_step rfl (by decide) rfl fun _ hS => ?_
 repeat refine And.intro qLj0 ?_
 refine hS _ _ _ ?_
 clear hS
 refine s_step rfl (by decide) rfl fun _ hS => ?_
 repeat refine And.intro qLj0 ?_
 refine hS _ _ _ ?_
 clear hS
 refine s_step rfl (by decide) rfl fun _ hS => ?_
 repeat refine And.intro qLj0 ?_
 refine hS _ _ _ ?_
 clear hS
 refine s_step rfl (by decide) rfl fun _ hS => ?_
 refine hS _ _ _ ?_
 clear hS
 refine s_nil ?_
 refine hK2 _ _ _ ?_
 refine hK1 _ _ _ ?_
 refine seq_k fun _ hK3 => ?_
 refine region_k handR_ok fun _ hK4 => ?_
 refine s_step rfl (by decide) rfl fun _ hS => ?_
 repeat refine And.intro qLj0 ?_
 first | refine hS _ _ _ ?_ | (refine whole_yes qLj0 ?_; refine hS _ _ _ ?_) | (refine whole_sub ?_; refine hS _ _ _ ?_)
 clear hS
 refine s_step rfl (by decide) rfl fun _ hS => ?_
 repeat refine And.intro qLj0 ?_
 first | refine hS _ _ _ ?_ | (refine whole_yes qLj0 ?_; refine hS _ _ _ ?_) | (refine whole_sub ?_; refine hS _ _ _ ?_)
 clear hS
 refine s_step rfl (by decide) rfl fun _ hS => ?_
 repeat first | refine And.intro qLj0 ?_ | refine whole_yes qLj0 ?_ | refine whole_sub ?_
 refine ⟨a, b, c, d, rfl, hl, ?_⟩
 repeat refine And.intro qLj0 ?_
 first | refine hS _ _ _ ?_ | (intro cap2 hcap2; refine hS _ _ _ ?_)
 clear hS
 refine s_step rfl (by decide) rfl fun _ hS => ?_
 repeat refine And.intro qLj0 ?_
 refine hS _ _ _ ?_
 clear hS
 refine s_step rfl (by decide) rfl fun _ hS => ?_
 repeat refine And.intro qLj0 ?_
 refine hS _ _ _ ?_
 clear hS
 refine s_step0 rfl rfl fun _ hS => ?_
 repeat refine And.intro qLj0 ?_
 first | refine hS _ _ _ ?_ | (refine splice_full qLj0 ?_; refine hS _ _ _ ?_)
 clear hS
 refine s_step rfl (by decide) rfl fun _ hS => ?_
 refine hS _ _ _ ?_
 clear hS
 refine s_nil ?_
 refine hK4 _ _ _ ?_
 refine hK3 _ _ _ ?_
 refine WP_ret (Done_data handR_ok (fun _ _ h => h) (low_outV) [] [.cell 4 24, .tmp 5] rfl ?_)
 skip
 repeat' (first | exact trivial | refine And.intro ?_ ?_ | rfl | omega | decide | (show (_ : Nat) < _; decide) | exact low_nil' | refine low_cons' ?_ ?_ | exact Nat.le_refl _ | exact Nat.succ_pos _)

noncomputable def horR : Ctx := { P := Tryd.prog, ty := ty, glob := gl, fs := [(40, .data combOS)] }
theorem horR_ok : horR.OK := ⟨tyOK, ⟨⟨enters_mk Tryd.func40 (by kernel_rfl) rfl, combO_ok⟩, trivial⟩, mixed⟩
@[simp] theorem horR_ty : horR.ty = ty := rfl

def orRS : QSpec := fun vs K => ∃ a b c d, vs = [lsV a b, lsV c d] ∧ B2 a b c d ∧ K (outV (combL (fun x y => x || y) a b c d))
theorem orR_ok : DataOK Tryd.prog gl 26 orRS := by
 refine data_of (Γ := horR) (N := 11) Tryd.func26 rfl rfl fun vs K h => ?_
 obtain ⟨a, b, c, d, rfl, hl, h⟩ := h
 refine ⟨_, h, low_outV, by simp, fun w I => ?_⟩
 refine seq_k fun _ hK1 => ?_
 refine region_k horR_ok fun _ hK2 => ?_
 refine s_step rfl (by decide) rfl fun _ hS => ?_
 repeat refine And.intro qLj0 ?_
 refine hS _ _ _ ?_
 clear hS
 refine s_step rfl (by decide) rfl fun _ hS => ?_
 repeat refine And.intro qLj0 ?_
 refine hS _ _ _ ?_
 clear hS
 refine s_step rfl (by decide) rfl fun _ hS => ?_
 repeat refine And.intro qLj0 ?_
 refine hS _ _ _ ?_
 clear hS
 refine s_step rfl (by decide) rfl fun _ hS => ?_
 refine hS _ _ _ ?_
 clear hS
 refine s_nil ?_
 refine hK2 _ _ _ ?_
 refine hK1 _ _ _ ?_
 refine seq_k fun _ hK3 => ?_
 refine region_k horR_ok fun _ hK4 => ?_
 refine s_step rfl (by decide) rfl fun _ hS => ?_
 repeat refine And.intro qLj0 ?_
 first | refine hS _ _ _ ?_ | (refine whole_yes qLj0 ?_; refine hS _ _ _ ?_) | (refine whole_sub ?_; refine hS _ _ _ ?_)
 clear hS
 refine s_step rfl (by decide) rfl fun _ hS => ?_
 repeat refine And.intro qLj0 ?_
 first | refine hS _ _ _ ?_ | (refine whole_yes qLj0 ?_; refine hS _ _ _ ?_) | (refine whole_sub ?_; refine hS _ _ _ ?_)
 clear hS
 refine s_step rfl (by decide) rfl fun _ hS => ?_
 repeat first | refine And.intro qLj0 ?_ | refine whole_yes qLj0 ?_ | refine whole_sub ?_
 refine ⟨a, b, c, d, rfl, hl, ?_⟩
 repeat refine And.intro qLj0 ?_
 first | refine hS _ _ _ ?_ | (intro cap2 hcap2; refine hS _ _ _ ?_)
 clear hS
 refine s_step rfl (by decide) rfl fun _ hS => ?_
 repeat refine And.intro qLj0 ?_
 refine hS _ _ _ ?_
 clear hS
 refine s_step rfl (by decide) rfl fun _ hS => ?_
 repeat refine And.intro qLj0 ?_
 refine hS _ _ _ ?_
 clear hS
 refine s_step0 rfl rfl fun _ hS => ?_
 repeat refine And.intro qLj0 ?_
 first | refine hS _ _ _ ?_ | (refine splice_full qLj0 ?_; refine hS _ _ _ ?_)
 clear hS
 refine s_step rfl (by decide) rfl fun _ hS => ?_
 refine hS _ _ _ ?_
 clear hS
 refine s_nil ?_
 refine hK4 _ _ _ ?_
 refine hK3 _ _ _ ?_
 refine WP_ret (Done_data horR_ok (fun _ _ h => h) (low_outV) [] [.cell 4 24, .tmp 5] rfl ?_)
 skip
 repeat' (first | exact trivial | refine And.intro ?_ ?_ | rfl | omega | decide | (show (_ : Nat) < _; decide) | exact low_nil' | refine low_cons' ?_ ?_ | exact Nat.le_refl _ | exact Nat.succ_pos _)

theorem any_range_succ (t : Nat → Bool) (n : Nat) : (List.range (n + 1)).any t = ((List.range n).any t || t n) := by rw [List.range_succ, List.any_append]; simp
theorem any_range_mono (t : Nat → Bool) {m n : Nat} (h : m ≤ n) (ht : (List.range m).any t = true) : (List.range n).any t = true := by
  simp only [List.any_eq_true, List.mem_range] at ht ⊢
  obtain ⟨x, hx, h1⟩ := ht
  exact ⟨x, by omega, h1⟩
def sumRS : QSpec := fun vs K => ∃ a b c d, vs = [lsV a b, lsV c d] ∧ B2 a b c d ∧ K (outV (sumRL a b c d))
set_option maxHeartbeats 2000000 in
theorem sumR_ok : DataOK Tryd.prog gl 28 sumRS := by
 refine data_of (Γ := h3) (N := 83) Tryd.func28 rfl rfl fun vs K h => ?_
 obtain ⟨a, b, c, d, rfl, ⟨hl1, hl2, hl3, hl4⟩, h⟩ := h
 refine ⟨_, h, low_outV, by simp, fun w I => ?_⟩
 refine seq_k fun _ hK1 => ?_
 refine region_k h3_ok fun _ hK2 => ?_
 refine s_step rfl (by decide) rfl fun _ hS => ?_
 repeat refine And.intro qLj0 ?_
 refine hS _ _ _ ?_
 clear hS
 refine s_step rfl (by decide) rfl fun _ hS => ?_
 repeat refine And.intro qLj0 ?_
 refine hS _ _ _ ?_
 clear hS
 refine s_step rfl (by decide) rfl fun _ hS => ?_
 repeat refine And.intro qLj0 ?_
 refine hS _ _ _ ?_
 clear hS
 refine s_step rfl (by decide) rfl fun _ hS => ?_
 refine hS _ _ _ ?_
 clear hS
 refine s_nil ?_
 refine hK2 _ _ _ ?_
 refine hK1 _ _ _ ?_
 refine seq_k fun _ hK3 => ?_
 refine seq_k fun _ hK4 => ?_
 refine region_k h3_ok fun _ hK5 => ?_
 refine s_step rfl (by decide) rfl fun _ hS => ?_
 repeat refine And.intro qLj0 ?_
 first | refine hS _ _ _ ?_ | (refine whole_yes qLj0 ?_; refine hS _ _ _ ?_) | (refine whole_sub ?_; refine hS _ _ _ ?_)
 clear hS
 refine s_step rfl (by decide) rfl fun _ hS => ?_
 repeat first | refine And.intro qLj0 ?_ | refine whole_yes qLj0 ?_ | refine whole_sub ?_
 refine ⟨a, b, rfl, ⟨hl1, hl2⟩, ?_⟩
 repeat refine And.intro qLj0 ?_
 first | refine hS _ _ _ ?_ | (intro cap1 hcap1; refine hS _ _ _ ?_)
 clear hS
 refine s_step rfl (by decide) rfl fun _ hS => ?_
 refine hS _ _ _ ?_
 clear hS
 refine s_step rfl (by decide) rfl fun _ hS => ?_
 refine s_split hS (fun hb3 => ?_) (fun hb3 => ?_)
 ·clear hS
  try simp only [decide_eq_false_iff_not, Bool.not_eq_eq_eq_not, Bool.not_true] at hb3
  refine s_guard (b := true) rfl (by decide) rfl rfl (fun e => absurd e (by decide)) (fun _ => ?_)
  refine s_guard (b := true) rfl (by decide) rfl rfl (fun e => absurd e (by decide)) (fun _ => ?_)
  refine s_guard (b := true) rfl (by decide) rfl rfl (fun e => absurd e (by decide)) (fun _ => ?_)
  refine s_step rfl (by decide) rfl fun _ hS => ?_
  refine hS _ _ _ ?_
  clear hS
  refine s_nil ?_
  refine hK5 _ _ _ ?_
  refine hK4 _ _ _ ?_
  refine WP_cond (b := _) rfl (fun _ => ?_) (fun h_t19 => ?_)
  rotate_left 1
  ·exfalso; simp at h_t19
  refine seq_k fun _ hK6 => ?_
  refine region_k h3_ok fun _ hK7 => ?_
  refine s_step rfl (by decide) rfl fun _ hS => ?_
  repeat refine And.intro qLj0 ?_
  refine hS _ _ _ ?_
  clear hS
  refine s_step0 rfl rfl fun _ hS => ?_
  repeat refine And.intro qLj0 ?_
  first | refine hS _ _ _ ?_ | (refine splice_full qLj0 ?_; refine hS _ _ _ ?_)
  clear hS
  refine s_step rfl (by decide) rfl fun _ hS => ?_
  refine hS _ _ _ ?_
  clear hS
  refine s_nil ?_
  refine hK7 _ _ _ ?_
  refine hK6 _ _ _ ?_
  refine WP_ret (Done_data h3_ok (fun _ _ h => h) (low_outV) [] [.cell 4 24, .tmp 5] rfl ?_)
  have hneg : ¬ ((0 < b.length ∧ a.length + b.length ≤ 512) ∧ 0 < d.length ∧ c.length + d.length ≤ 512) := fun hh => hb3 hh.1
  rw [sumRL, if_neg hneg]
  repeat' (first | exact trivial | refine And.intro ?_ ?_ | rfl | omega | decide | (show (_ : Nat) < _; decide) | exact low_nil' | refine low_cons' ?_ ?_ | exact Nat.le_refl _ | exact Nat.succ_pos _)
 ·clear hS
  try simp only [decide_eq_true_eq, Bool.not_eq_eq_eq_not, Bool.not_false] at hb3
  refine s_guard (b := false) rfl (by decide) rfl rfl (fun _ _ hS => ?_) (fun e => absurd e (by decide))
  repeat refine And.intro qLj0 ?_
  first | refine hS _ _ _ ?_ | (refine whole_yes qLj0 ?_; refine hS _ _ _ ?_) | (refine whole_sub ?_; refine hS _ _ _ ?_)
  clear hS
  refine s_guard (b := false) rfl (by decide) rfl rfl (fun _ _ hS => ?_) (fun e => absurd e (by decide))
  repeat first | refine And.intro qLj0 ?_ | refine whole_yes qLj0 ?_ | refine whole_sub ?_
  refine ⟨c, d, rfl, ⟨hl3, hl4⟩, ?_⟩
  repeat refine And.intro qLj0 ?_
  first | refine hS _ _ _ ?_ | (intro cap5 hcap5; refine hS _ _ _ ?_)
  clear hS
  refine s_guard (b := false) rfl (by decide) rfl rfl (fun _ _ hS => ?_) (fun e => absurd e (by decide))
  refine hS _ _ _ ?_
  clear hS
  refine s_step rfl (by decide) rfl fun _ hS => ?_
  refine hS _ _ _ ?_
  clear hS
  refine s_nil ?_
  refine hK5 _ _ _ ?_
  refine hK4 _ _ _ ?_
  refine WP_cond (b := _) rfl (fun h_t19 => ?_) (fun h_t19 => ?_)
  ·try try simp only [decide_eq_false_iff_not, Bool.not_eq_eq_eq_not, Bool.not_true, if_false, Bool.false_eq_true] at h_t19
   refine seq_k fun _ hK8 => ?_
   refine region_k h3_ok fun _ hK9 => ?_
   refine s_step rfl (by decide) rfl fun _ hS => ?_
   repeat refine And.intro qLj0 ?_
   refine hS _ _ _ ?_
   clear hS
   refine s_step0 rfl rfl fun _ hS => ?_
   repeat refine And.intro qLj0 ?_
   first | refine hS _ _ _ ?_ | (refine splice_full qLj0 ?_; refine hS _ _ _ ?_)
   clear hS
   refine s_step rfl (by decide) rfl fun _ hS => ?_
   refine hS _ _ _ ?_
   clear hS
   refine s_nil ?_
   refine hK9 _ _ _ ?_
   refine hK8 _ _ _ ?_
   refine WP_ret (Done_data h3_ok (fun _ _ h => h) (low_outV) [] [.cell 4 24, .tmp 5] rfl ?_)
   have hneg : ¬ ((0 < b.length ∧ a.length + b.length ≤ 512) ∧ 0 < d.length ∧ c.length + d.length ≤ 512) := fun hh => h_t19 hh.2
   rw [sumRL, if_neg hneg]
   repeat' (first | exact trivial | refine And.intro ?_ ?_ | rfl | omega | decide | (show (_ : Nat) < _; decide) | exact low_nil' | refine low_cons' ?_ ?_ | exact Nat.le_refl _ | exact Nat.succ_pos _)
  ·try try simp only [decide_eq_true_eq, Bool.not_eq_eq_eq_not, Bool.not_false, if_false, Bool.false_eq_true] at h_t19
   refine WP_skip ?_
   refine hK3 _ _ _ ?_
   refine seq_k fun _ hK10 => ?_
   have hv : (0 < b.length ∧ a.length + b.length ≤ 512) ∧ 0 < d.length ∧ c.length + d.length ≤ 512 := by
    first | omega | (simp at h_t19; omega)
   have hmu : b.length * d.length ≤ 512 * 512 := Nat.mul_le_mul (by omega) (by omega)
   have hmp : 0 < b.length * d.length := Nat.mul_pos (by omega) (by omega)
   obtain ⟨P, hP⟩ : ∃ P, P = b.length * d.length := ⟨_, rfl⟩
   have hPI : (b.length : Int) * (d.length : Int) = (P : Int) := by rw [hP]; push_cast; rfl
   rw [← hP] at hmu hmp
   refine region_k h3_ok fun _ hK11 => ?_
   refine s_step rfl (by decide) rfl fun _ hS => ?_
   repeat refine And.intro qLj1 ?_
   refine hS _ _ _ ?_
   clear hS
   refine s_step rfl (by decide) rfl fun _ hS => ?_
   repeat refine And.intro qLj1 ?_
   first | refine hS _ _ _ ?_ | (refine whole_yes qLj1 ?_; refine hS _ _ _ ?_) | (refine whole_sub ?_; refine hS _ _ _ ?_)
   clear hS
   refine s_step rfl (by decide) rfl fun _ hS => ?_
   repeat refine And.intro qLj1 ?_
   refine hS _ _ _ ?_
   clear hS
   refine s_step rfl (by decide) rfl fun _ hS => ?_
   repeat refine And.intro qLj1 ?_
   refine hS _ _ _ ?_
   clear hS
   refine s_step rfl (by decide) rfl fun _ hS => ?_
   repeat refine And.intro qLj1 ?_
   first | refine hS _ _ _ ?_ | (refine whole_yes qLj1 ?_; refine hS _ _ _ ?_) | (refine whole_sub ?_; refine hS _ _ _ ?_)
   clear hS
   refine s_step rfl (by decide) rfl fun _ hS => ?_
   repeat refine And.intro qLj1 ?_
   refine hS _ _ _ ?_
   clear hS
   refine s_step rfl (by decide) rfl fun _ hS => ?_
   repeat refine And.intro qLj1 ?_
   refine hS _ _ _ ?_
   clear hS
   refine s_step rfl (by decide) rfl fun _ hS => ?_
   refine hS _ _ _ ?_
   clear hS
   refine s_nil ?_
   refine hK11 _ _ _ ?_
   refine hK10 _ _ _ ?_
   refine seq_k fun _ hK12 => ?_
   refine region_k h3_ok fun _ hK13 => ?_
   refine s_step rfl (by decide) rfl fun _ hS => ?_
   repeat refine And.intro qLj2 ?_
   refine hS _ _ _ ?_
   clear hS
   refine s_step rfl (by decide) rfl fun _ hS => ?_
   repeat refine And.intro qLj2 ?_
   first | refine hS _ _ _ ?_ | (refine whole_yes qLj2 ?_; refine hS _ _ _ ?_) | (refine whole_sub ?_; refine hS _ _ _ ?_)
   clear hS
   refine s_step rfl (by decide) rfl fun _ hS => ?_
   repeat refine And.intro qLj2 ?_
   refine hS _ _ _ ?_
   clear hS
   refine s_step rfl (by decide) rfl fun _ hS => ?_
   repeat refine And.intro qLj2 ?_
   refine hS _ _ _ ?_
   clear hS
   refine s_step rfl (by decide) rfl fun _ hS => ?_
   repeat refine And.intro qLj2 ?_
   first | refine hS _ _ _ ?_ | (refine whole_yes qLj2 ?_; refine hS _ _ _ ?_) | (refine whole_sub ?_; refine hS _ _ _ ?_)
   clear hS
   refine s_step rfl (by decide) rfl fun _ hS => ?_
   repeat refine And.intro qLj2 ?_
   refine hS _ _ _ ?_
   clear hS
   refine s_step rfl (by decide) rfl fun _ hS => ?_
   repeat refine And.intro qLj2 ?_
   refine hS _ _ _ ?_
   clear hS
   refine s_step rfl (by decide) rfl fun _ hS => ?_
   refine hS _ _ _ ?_
   clear hS
   refine s_step rfl (by decide) rfl fun _ hS => ?_
   repeat refine And.intro qLj2 ?_
   refine hS _ _ _ ?_
   clear hS
   refine s_step rfl (by decide) rfl fun _ hS => ?_
   refine hS _ _ _ ?_
   clear hS
   refine s_nil ?_
   refine hK13 _ _ _ ?_
   refine hK12 _ _ _ ?_
   refine seq_k fun _ hK14 => ?_
   refine region_k h3_ok fun _ hK15 => ?_
   refine s_step rfl (by decide) rfl fun _ hS => ?_
   repeat refine And.intro qLj3 ?_
   refine hS _ _ _ ?_
   clear hS
   refine s_step rfl (by decide) rfl fun _ hS => ?_
   repeat refine And.intro qLj3 ?_
   refine hS _ _ _ ?_
   clear hS
   refine s_step0 rfl rfl fun _ hS => ?_
   repeat refine And.intro qLj3 ?_
   first | refine hS _ _ _ ?_ | (refine splice_full qLj3 ?_; refine hS _ _ _ ?_)
   clear hS
   refine s_nil ?_
   refine hK15 _ _ _ ?_
   refine hK14 _ _ _ ?_
   refine seq_k fun _ hK16 => ?_
   refine seq_k fun _ hK17 => ?_
   refine region_k h3_ok fun _ hK18 => ?_
   refine s_step rfl (by decide) rfl fun _ hS => ?_
   refine hS _ _ _ ?_
   clear hS
   refine s_nil ?_
   refine hK18 _ _ _ ?_
   refine hK17 _ _ _ ?_
   refine WP_block ?_
   refine WP_nilat 3 0 4 (.bools []) rfl rfl rfl trivial ?_
   refine WP_nilat 3 1 4 (.bools []) rfl rfl rfl trivial ?_
   refine WP_loop (α := Nat × Nat × Nat) (fun k => [(2, .c (.ptr 0 0)), (3, .c (.ptr 1 0)), (4, .c (.ptr 2 0)), (6, .c (.int .i64 P)), (7, .c (.int .i64 ((a.length + c.length + P : Nat) : Int))), (8, .c (.ptr 3 0)), (9, .c (.int .i64 k.1))]) (fun k => [(0, .own 24 (.cells [.ds a.length (.bools a), .ds b.length (.bools b)]) 2), (1, .own 24 (.cells [.ds c.length (.bools c), .ds d.length (.bools d)]) 2), (2, .own 24 (.cells [.nils, .nils]) 2), (3, .own 24 (.cells [.slice 4 0 (preL (sumAt a b c d) (a.length + c.length + P) k.1).length k.2.1, .slice 5 0 (postL (sumAt a b c d) (a.length + c.length + P) k.1).length k.2.2]) 2), (4, .own 4 (.bools (preL (sumAt a b c d) (a.length + c.length + P) k.1)) k.2.1), (5, .own 4 (.bools (postL (sumAt a b c d) (a.length + c.length + P) k.1)) k.2.2)]) 6 (fun k => k.1 ≤ (a.length + c.length + P) + P) (fun k => (a.length + c.length + P) + P - k.1) ?_ ?_
   ·refine Done_some [] id (0, 0, 0) (Nat.zero_le _) ⟨?_, ?_, (by decide : List.Nodup ([0, 1, 2, 3, 4, 5] : List Nat)), ?_, ?_, ⟨Nat.zero_le _, fun i hi => absurd hi (Nat.not_lt_zero i)⟩⟩
    ·exact uLj0
    ·exact uLj0
    ·exact uLj0
    ·exact uLj0
   ·intro k hk
    refine seq_k fun _ hK19 => ?_
    refine seq_k fun _ hK20 => ?_
    refine region_k h3_ok fun _ hK21 => ?_
    refine s_step rfl (by decide) rfl fun _ hS => ?_
    refine hS _ _ _ ?_
    clear hS
    refine s_step rfl (by decide) rfl fun _ hS => ?_
    refine hS _ _ _ ?_
    clear hS
    refine s_step rfl (by decide) rfl fun _ hS => ?_
    refine hS _ _ _ ?_
    clear hS
    refine s_step rfl (by decide) rfl fun _ hS => ?_
    repeat refine And.intro qLj0 ?_
    refine hS _ _ _ ?_
    clear hS
    refine s_step rfl (by decide) rfl fun _ hS => ?_
    repeat refine And.intro qLj0 ?_
    refine hS _ _ _ ?_
    clear hS
    refine s_nil ?_
    refine hK21 _ _ _ ?_
    refine hK20 _ _ _ ?_
    refine WP_cond (b := _) rfl (fun h_t42 => ?_) (fun h_t42 => ?_)
    ·try try simp only [decide_eq_true_eq] at h_t42
     refine WP_skip ?_
     refine hK19 _ _ _ ?_
     refine seq_k fun _ hK22 => ?_
     refine WP_block ?_
     refine seq_k fun _ hK23 => ?_
     refine region_k h3_ok fun _ hK24 => ?_
     refine s_step rfl (by decide) rfl fun _ hS => ?_
     refine hS _ _ _ ?_
     clear hS
     refine s_nil ?_
     refine hK24 _ _ _ ?_
     refine hK23 _ _ _ ?_
     refine WP_cut (α := Unit) (fun _ => [(2, .c (.ptr 0 0)), (3, .c (.ptr 1 0)), (4, .c (.ptr 2 0)), (6, .c (.int .i64 P)), (7, .c (.int .i64 ((a.length + c.length + P : Nat) : Int))), (8, .c (.ptr 3 0)), (9, .c (.int .i64 k.1)), (10, .c (.bool (sumAt a b c d k.1)))]) (fun _ => [(0, .own 24 (.cells [.ds a.length (.bools a), .ds b.length (.bools b)]) 2), (1, .own 24 (.cells [.ds c.length (.bools c), .ds d.length (.bools d)]) 2), (2, .own 24 (.cells [.nils, .nils]) 2), (3, .own 24 (.cells [.slice 4 0 (preL (sumAt a b c d) (a.length + c.length + P) k.1).length k.2.1, .slice 5 0 (postL (sumAt a b c d) (a.length + c.length + P) k.1).length k.2.2]) 2), (4, .own 4 (.bools (preL (sumAt a b c d) (a.length + c.length + P) k.1)) k.2.1), (5, .own 4 (.bools (postL (sumAt a b c d) (a.length + c.length + P) k.1)) k.2.2)]) 6 (fun _ => True) ?_ ?_
     ·skip
      refine seq_k fun _ hK25 => ?_
      refine region_k h3_ok fun _ hK26 => ?_
      refine s_step rfl (by decide) rfl fun _ hS => ?_
      refine hS _ _ _ ?_
      clear hS
      refine s_nil ?_
      refine hK26 _ _ _ ?_
      refine hK25 _ _ _ ?_
      refine WP_block ?_
      refine WP_loop (α := Nat × Bool) (fun x => [(2, .c (.ptr 0 0)), (3, .c (.ptr 1 0)), (4, .c (.ptr 2 0)), (6, .c (.int .i64 P)), (7, .c (.int .i64 ((a.length + c.length + P : Nat) : Int))), (8, .c (.ptr 3 0)), (9, .c (.int .i64 k.1)), (10, .c (.bool x.2)), (11, .c (.int .i64 x.1))]) (fun x => [(0, .own 24 (.cells [.ds a.length (.bools a), .ds b.length (.bools b)]) 2), (1, .own 24 (.cells [.ds c.length (.bools c), .ds d.length (.bools d)]) 2), (2, .own 24 (.cells [.nils, .nils]) 2), (3, .own 24 (.cells [.slice 4 0 (preL (sumAt a b c d) (a.length + c.length + P) k.1).length k.2.1, .slice 5 0 (postL (sumAt a b c d) (a.length + c.length + P) k.1).length k.2.2]) 2), (4, .own 4 (.bools (preL (sumAt a b c d) (a.length + c.length + P) k.1)) k.2.1), (5, .own 4 (.bools (postL (sumAt a b c d) (a.length + c.length + P) k.1)) k.2.2)]) 6 (fun x => x.1 ≤ k.1 + 1 ∧ x.2 = (List.range x.1).any (fun x => atL a b x && atL c d (k.1 - x))) (fun x => k.1 + 1 - x.1) ?_ ?_
      ·refine Done_some [] id (0, false) ⟨Nat.zero_le _, rfl⟩ ⟨?_, ?_, (by decide : List.Nodup ([0, 1, 2, 3, 4, 5] : List Nat)), ?_, ?_, ⟨Nat.zero_le _, fun i hi => absurd hi (Nat.not_lt_zero i)⟩⟩
       ·exact uLj0
       ·exact uLj0
       ·exact uLj0
       ·exact uLj0
      ·intro x hx
       refine seq_k fun _ hK27 => ?_
       refine seq_k fun _ hK28 => ?_
       refine region_k h3_ok fun _ hK29 => ?_
       refine s_step rfl (by decide) rfl fun _ hS => ?_
       refine hS _ _ _ ?_
       clear hS
       refine s_step rfl (by decide) rfl fun _ hS => ?_
       refine hS _ _ _ ?_
       clear hS
       refine s_step rfl (by decide) rfl fun _ hS => ?_
       repeat refine And.intro qLj0 ?_
       refine hS _ _ _ ?_
       clear hS
       refine s_step rfl (by decide) rfl fun _ hS => ?_
       refine s_split hS (fun hb3 => ?_) (fun hb3 => ?_)
       ·clear hS
        try simp only [decide_eq_true_eq] at hb3
        refine s_guard (b := true) rfl (by decide) rfl rfl (fun _ _ hS => ?_) (fun e => absurd e (by decide))
        refine hS _ _ _ ?_
        clear hS
        refine s_guard (b := true) rfl (by decide) rfl rfl (fun _ _ hS => ?_) (fun e => absurd e (by decide))
        refine hS _ _ _ ?_
        clear hS
        refine s_step rfl (by decide) rfl fun _ hS => ?_
        refine hS _ _ _ ?_
        clear hS
        refine s_nil ?_
        refine hK29 _ _ _ ?_
        refine hK28 _ _ _ ?_
        refine WP_cond (b := _) rfl (fun h_t51 => ?_) (fun h_t51 => ?_)
        ·simp only [if_true, Bool.not_eq_true'] at h_t51
         refine WP_skip ?_
         refine hK27 _ _ _ ?_
         refine seq_k fun _ hK30 => ?_
         refine WP_block ?_
         refine region_k h3_ok fun _ hK31 => ?_
         refine s_step rfl (by decide) rfl fun _ hS => ?_
         repeat refine And.intro qLj0 ?_
         first | refine hS _ _ _ ?_ | (refine whole_yes qLj0 ?_; refine hS _ _ _ ?_) | (refine whole_sub ?_; refine hS _ _ _ ?_)
         clear hS
         refine s_step rfl (by decide) rfl fun _ hS => ?_
         refine hS _ _ _ ?_
         clear hS
         refine s_step rfl (by decide) rfl fun _ hS => ?_
         repeat first | refine And.intro qLj0 ?_ | refine whole_yes qLj0 ?_ | refine whole_sub ?_
         refine ⟨a, b, x.1, rfl, ⟨by omega, by omega, by omega, by omega⟩, ?_⟩
         repeat refine And.intro qLj0 ?_
         first | refine hS _ _ _ ?_ | (intro cap2 hcap2; refine hS _ _ _ ?_)
         clear hS
         refine s_step rfl (by decide) rfl fun _ hS => ?_
         refine s_split hS (fun hb3 => ?_) (fun hb3 => ?_)
         ·clear hS
          try simp only [decide_eq_true_eq, decide_eq_false_iff_not, Int.not_lt, Int.not_le, Bool.not_eq_true', Bool.not_eq_false', Bool.not_eq_eq_eq_not, Bool.not_true, Bool.not_false, if_true, if_false, reduceIte, Bool.false_eq_true, Int.natCast_inj] at hb3
          refine s_guard (b := true) rfl (by decide) rfl rfl (fun _ _ hS => ?_) (fun e => absurd e (by decide))
          repeat refine And.intro qLj0 ?_
          first | refine hS _ _ _ ?_ | (refine whole_yes qLj0 ?_; refine hS _ _ _ ?_) | (refine whole_sub ?_; refine hS _ _ _ ?_)
          clear hS
          refine s_guard (b := true) rfl (by decide) rfl rfl (fun _ _ hS => ?_) (fun e => absurd e (by decide))
          refine hS _ _ _ ?_
          clear hS
          refine s_guard (b := true) rfl (by decide) rfl rfl (fun _ _ hS => ?_) (fun e => absurd e (by decide))
          refine hS _ _ _ ?_
          clear hS
          refine s_guard (b := true) rfl (by decide) rfl rfl (fun _ _ hS => ?_) (fun e => absurd e (by decide))
          repeat refine And.intro qLj0 ?_
          refine hS _ _ _ ?_
          clear hS
          refine s_guard (b := true) rfl (by decide) rfl rfl (fun _ _ hS => ?_) (fun e => absurd e (by decide))
          repeat first | refine And.intro qLj0 ?_ | refine whole_yes qLj0 ?_ | refine whole_sub ?_
          refine ⟨c, d, k.1 - x.1, by rw [show ((k.1 - x.1 : Nat) : Int) = (k.1 : Int) - x.1 by omega], ⟨by omega, by omega, by omega, by omega⟩, ?_⟩
          repeat refine And.intro qLj0 ?_
          first | refine hS _ _ _ ?_ | (intro cap8 hcap8; refine hS _ _ _ ?_)
          clear hS
          refine s_step rfl (by decide) rfl fun _ hS => ?_
          refine hS _ _ _ ?_
          clear hS
          refine s_step rfl (by decide) rfl fun _ hS => ?_
          refine hS _ _ _ ?_
          clear hS
          refine s_nil ?_
          refine hK31 _ _ _ ?_
          refine done_block ?_
          refine hK30 _ _ _ ?_
          refine region_k h3_ok fun _ hK32 => ?_
          refine s_step rfl (by decide) rfl fun _ hS => ?_
          refine hS _ _ _ ?_
          clear hS
          refine s_step rfl (by decide) rfl fun _ hS => ?_
          repeat refine And.intro qLj0 ?_
          refine hS _ _ _ ?_
          clear hS
          refine s_step rfl (by decide) rfl fun _ hS => ?_
          refine hS _ _ _ ?_
          clear hS
          refine s_nil ?_
          refine hK32 _ _ _ ?_
          refine Done_some [] id (x.1 + 1, atL a b x.1 && atL c d (k.1 - x.1)) ⟨⟨by omega, by rw [any_range_succ, ← hx.2, h_t51, Bool.false_or]⟩, by omega⟩ ⟨?_, ?_, (by decide : List.Nodup ([0, 1, 2, 3, 4, 5] : List Nat)), ?_, ?_, ⟨Nat.zero_le _, fun i hi => absurd hi (Nat.not_lt_zero i)⟩⟩
          ·exact uLj1
          ·exact uLj0
          ·exact uLj0
          ·exact uLj0
         ·clear hS
          try simp only [decide_eq_true_eq, decide_eq_false_iff_not, Int.not_lt, Int.not_le, Bool.not_eq_true', Bool.not_eq_false', Bool.not_eq_eq_eq_not, Bool.not_true, Bool.not_false, if_true, if_false, reduceIte, Bool.false_eq_true, Int.natCast_inj] at hb3
          refine s_guard (b := false) rfl (by decide) rfl rfl (fun e => absurd e (by decide)) (fun _ => ?_)
          refine s_guard (b := false) rfl (by decide) rfl rfl (fun e => absurd e (by decide)) (fun _ => ?_)
          refine s_guard (b := false) rfl (by decide) rfl rfl (fun e => absurd e (by decide)) (fun _ => ?_)
          refine s_guard (b := false) rfl (by decide) rfl rfl (fun e => absurd e (by decide)) (fun _ => ?_)
          refine s_guard (b := false) rfl (by decide) rfl rfl (fun e => absurd e (by decide)) (fun _ => ?_)
          refine s_step rfl (by decide) rfl fun _ hS => ?_
          refine hS _ _ _ ?_
          clear hS
          refine s_step rfl (by decide) rfl fun _ hS => ?_
          refine hS _ _ _ ?_
          clear hS
          refine s_nil ?_
          refine hK31 _ _ _ ?_
          refine done_block ?_
          refine hK30 _ _ _ ?_
          refine region_k h3_ok fun _ hK33 => ?_
          refine s_step rfl (by decide) rfl fun _ hS => ?_
          refine hS _ _ _ ?_
          clear hS
          refine s_step rfl (by decide) rfl fun _ hS => ?_
          repeat refine And.intro qLj0 ?_
          refine hS _ _ _ ?_
          clear hS
          refine s_step rfl (by decide) rfl fun _ hS => ?_
          refine hS _ _ _ ?_
          clear hS
          refine s_nil ?_
          refine hK33 _ _ _ ?_
          refine Done_some [] id (x.1 + 1, atL a b x.1 && atL c d (k.1 - x.1)) ⟨⟨by omega, by rw [any_range_succ, ← hx.2, h_t51, Bool.false_or]⟩, by omega⟩ ⟨?_, ?_, (by decide : List.Nodup ([0, 1, 2, 3, 4, 5] : List Nat)), ?_, ?_, ⟨Nat.zero_le _, fun i hi => absurd hi (Nat.not_lt_zero i)⟩⟩
          ·exact uLj1
          ·exact uLj0
          ·exact uLj0
          ·exact uLj0
        ·simp only [if_true, Bool.not_eq_false'] at h_t51
         have hfin : x.2 = sumAt a b c d k.1 := by
          rw [h_t51, sumAt]
          exact (any_range_mono _ (show x.1 ≤ k.1 + 1 by omega) (by rw [← hx.2]; exact h_t51)).symm
         refine WP_exit ?_
         refine done_thenx ?_
         refine done_thenx ?_
         refine Done_hit ?_
         refine Done_some [] id () trivial ⟨?_, ?_, (by decide : List.Nodup ([0, 1, 2, 3, 4, 5] : List Nat)), ?_, ?_, ⟨Nat.zero_le _, fun i hi => absurd hi (Nat.not_lt_zero i)⟩⟩
         ·exact uLj2
         ·exact uLj0
         ·exact uLj0
         ·exact uLj0
       ·clear hS
        try simp only [decide_eq_false_iff_not, Int.not_le] at hb3
        refine s_guard (b := false) rfl (by decide) rfl rfl (fun e => absurd e (by decide)) (fun _ => ?_)
        refine s_guard (b := false) rfl (by decide) rfl rfl (fun e => absurd e (by decide)) (fun _ => ?_)
        refine s_step rfl (by decide) rfl fun _ hS => ?_
        refine hS _ _ _ ?_
        clear hS
        refine s_nil ?_
        refine hK29 _ _ _ ?_
        refine hK28 _ _ _ ?_
        have hfin : x.2 = sumAt a b c d k.1 := by
         rw [hx.2, sumAt, show x.1 = k.1 + 1 by omega]
        refine WP_cond (b := _) rfl (fun h_t51 => ?_) (fun _ => ?_)
        ·exfalso; cases h_t51
        refine WP_exit ?_
        refine done_thenx ?_
        refine done_thenx ?_
        refine Done_hit ?_
        refine Done_some [] id () trivial ⟨?_, ?_, (by decide : List.Nodup ([0, 1, 2, 3, 4, 5] : List Nat)), ?_, ?_, ⟨Nat.zero_le _, fun i hi => absurd hi (Nat.not_lt_zero i)⟩⟩
        ·exact uLj2
        ·exact uLj0
        ·exact uLj0
        ·exact uLj0
     ·intro _ _
      refine seq_k fun _ hK34 => ?_
      refine region_k h3_ok fun _ hK35 => ?_
      refine s_step rfl (by decide) rfl fun _ hS => ?_
      refine hS _ _ _ ?_
      clear hS
      refine s_step rfl (by decide) rfl fun _ hS => ?_
      refine hS _ _ _ ?_
      clear hS
      refine s_step rfl (by decide) rfl fun _ hS => ?_
      repeat refine And.intro qLj0 ?_
      refine hS _ _ _ ?_
      clear hS
      refine s_nil ?_
      refine hK35 _ _ _ ?_
      refine hK34 _ _ _ ?_
      refine WP_cond (b := _) rfl (fun h_t66 => ?_) (fun h_t66 => ?_)
      ·try simp only [decide_eq_true_eq] at h_t66
       have hka : k.1 < (a.length + c.length + P) := by omega
       have hst := preL_step (sumAt a b c d) hka
       refine region_k h3_ok fun _ hK36 => ?_
       refine s_step rfl (by decide) rfl fun _ hS => ?_
       repeat refine And.intro qLj4 ?_
       refine hS _ _ _ ?_
       clear hS
       refine s_step rfl (by decide) rfl fun _ hS => ?_
       repeat refine And.intro qLj4 ?_
       first | refine hS _ _ _ ?_ | (refine whole_yes qLj4 ?_; refine hS _ _ _ ?_) | (refine whole_sub ?_; refine hS _ _ _ ?_)
       clear hS
       refine s_step rfl (by decide) rfl fun _ hS => ?_
       refine hS _ _ _ ?_
       clear hS
       refine s_step rfl (by decide) rfl fun _ hS => ?_
       repeat refine And.intro qLj4 ?_
       refine hS _ _ _ ?_
       clear hS
       refine s_step rfl (by decide) rfl fun _ hS => ?_
       repeat first | refine And.intro qLj4 ?_ | refine whole_yes qLj4 ?_ | refine whole_sub ?_
       intro cap4 hcap4; refine hS _ _ _ ?_
       clear hS
       refine s_step rfl (by decide) rfl fun _ hS => ?_
       repeat refine And.intro qLj4 ?_
       refine hS _ _ _ ?_
       clear hS
       refine s_step0 rfl rfl fun _ hS => ?_
       repeat refine And.intro qLj4 ?_
       first | refine hS _ _ _ ?_ | (refine splice_full qLj4 ?_; refine hS _ _ _ ?_)
       clear hS
       refine s_nil ?_
       refine hK36 _ _ _ ?_
       refine done_block ?_
       refine hK22 _ _ _ ?_
       refine region_k h3_ok fun _ hK37 => ?_
       refine s_step rfl (by decide) rfl fun _ hS => ?_
       refine hS _ _ _ ?_
       clear hS
       refine s_step rfl (by decide) rfl fun _ hS => ?_
       repeat refine And.intro qLj0 ?_
       refine hS _ _ _ ?_
       clear hS
       refine s_step rfl (by decide) rfl fun _ hS => ?_
       refine hS _ _ _ ?_
       clear hS
       refine s_nil ?_
       refine hK37 _ _ _ ?_
       refine Done_some [] (fun i => if i = 4 then 7 else i) (k.1 + 1, cap4, k.2.2) ⟨by omega, by omega⟩ ⟨?_, ?_, (by decide : List.Nodup ([0, 1, 2, 3, 7, 5] : List Nat)), ?_, ?_, ⟨Nat.zero_le _, fun i hi => absurd hi (Nat.not_lt_zero i)⟩⟩
       ·exact uLj0
       ·exact uLj0
       ·exact uLj0
       ·exact uLj0
      ·try simp only [decide_eq_false_iff_not, Int.not_lt] at h_t66
       have hka : (a.length + c.length + P) ≤ k.1 := by omega
       have hst := postL_step (sumAt a b c d) hka
       refine region_k h3_ok fun _ hK38 => ?_
       refine s_step rfl (by decide) rfl fun _ hS => ?_
       repeat refine And.intro qLj4 ?_
       refine hS _ _ _ ?_
       clear hS
       refine s_step rfl (by decide) rfl fun _ hS => ?_
       repeat refine And.intro qLj4 ?_
       first | refine hS _ _ _ ?_ | (refine whole_yes qLj4 ?_; refine hS _ _ _ ?_) | (refine whole_sub ?_; refine hS _ _ _ ?_)
       clear hS
       refine s_step rfl (by decide) rfl fun _ hS => ?_
       refine hS _ _ _ ?_
       clear hS
       refine s_step rfl (by decide) rfl fun _ hS => ?_
       repeat refine And.intro qLj4 ?_
       refine hS _ _ _ ?_
       clear hS
       refine s_step rfl (by decide) rfl fun _ hS => ?_
       repeat first | refine And.intro qLj4 ?_ | refine whole_yes qLj4 ?_ | refine whole_sub ?_
       intro cap4 hcap4; refine hS _ _ _ ?_
       clear hS
       refine s_step rfl (by decide) rfl fun _ hS => ?_
       repeat refine And.intro qLj4 ?_
       refine hS _ _ _ ?_
       clear hS
       refine s_step0 rfl rfl fun _ hS => ?_
       repeat refine And.intro qLj4 ?_
       first | refine hS _ _ _ ?_ | (refine splice_full qLj4 ?_; refine hS _ _ _ ?_)
       clear hS
       refine s_nil ?_
       refine hK38 _ _ _ ?_
       refine done_block ?_
       refine hK22 _ _ _ ?_
       refine region_k h3_ok fun _ hK39 => ?_
       refine s_step rfl (by decide) rfl fun _ hS => ?_
       refine hS _ _ _ ?_
       clear hS
       refine s_step rfl (by decide) rfl fun _ hS => ?_
       repeat refine And.intro qLj0 ?_
       refine hS _ _ _ ?_
       clear hS
       refine s_step rfl (by decide) rfl fun _ hS => ?_
       refine hS _ _ _ ?_
       clear hS
       refine s_nil ?_
       refine hK39 _ _ _ ?_
       refine Done_some [] (fun i => if i = 5 then 7 else i) (k.1 + 1, k.2.1, cap4) ⟨by omega, by omega⟩ ⟨?_, ?_, (by decide : List.Nodup ([0, 1, 2, 3, 4, 7] : List Nat)), ?_, ?_, ⟨Nat.zero_le _, fun i hi => absurd hi (Nat.not_lt_zero i)⟩⟩
       ·exact uLj0
       ·exact uLj0
       ·exact uLj0
       ·exact uLj0
    ·try try simp only [decide_eq_false_iff_not, Int.not_lt] at h_t42
     refine WP_exit ?_
     refine done_thenx ?_
     refine done_thenx ?_
     refine Done_hit ?_
     refine hK16 _ _ _ ?_
     refine seq_k fun _ hK40 => ?_
     obtain ⟨k, c1, c2⟩ := k
     obtain rfl : k = (a.length + c.length + P) + P := by have := hk; simp at h_t42 this; omega
     refine region_k h3_ok fun _ hK41 => ?_
     refine s_step rfl (by decide) rfl fun _ hS => ?_
     repeat refine And.intro qLj0 ?_
     first | refine hS _ _ _ ?_ | (refine whole_yes qLj0 ?_; refine hS _ _ _ ?_) | (refine whole_sub ?_; refine hS _ _ _ ?_)
     clear hS
     refine s_step rfl (by decide) rfl fun _ hS => ?_
     repeat first | refine And.intro qLj0 ?_ | refine whole_yes qLj0 ?_ | refine whole_sub ?_
     refine ⟨(tabL (sumAt a b c d) (a.length + c.length + P) P).1, (tabL (sumAt a b c d) (a.length + c.length + P) P).2, rfl, ⟨by simp [tabL]; omega, by simp [tabL]; omega⟩, ?_⟩
     repeat refine And.intro qLj0 ?_
     first | refine hS _ _ _ ?_ | (intro cap1 hcap1; refine hS _ _ _ ?_)
     clear hS
     refine s_step rfl (by decide) rfl fun _ hS => ?_
     repeat refine And.intro qLj0 ?_
     refine hS _ _ _ ?_
     clear hS
     refine s_step rfl (by decide) rfl fun _ hS => ?_
     repeat refine And.intro qLj0 ?_
     refine hS _ _ _ ?_
     clear hS
     refine s_step0 rfl rfl fun _ hS => ?_
     repeat refine And.intro qLj0 ?_
     first | refine hS _ _ _ ?_ | (refine splice_full qLj0 ?_; refine hS _ _ _ ?_)
     clear hS
     refine s_step rfl (by decide) rfl fun _ hS => ?_
     refine hS _ _ _ ?_
     clear hS
     refine s_nil ?_
     refine hK41 _ _ _ ?_
     refine hK40 _ _ _ ?_
     refine WP_ret (Done_data h3_ok (fun _ _ h => h) (low_outV) [] [.cell 4 24, .tmp 5] rfl ?_)
     rw [sumRL, if_pos hv, tabOut, ← hP]
     repeat' (first | exact trivial | refine And.intro ?_ ?_ | rfl | omega | decide | (show (_ : Nat) < _; decide) | exact low_nil' | refine low_cons' ?_ ?_ | exact Nat.le_refl _ | exact Nat.succ_pos _)


end Go.Proofs.YtpfncffapgkjaaaDoor
