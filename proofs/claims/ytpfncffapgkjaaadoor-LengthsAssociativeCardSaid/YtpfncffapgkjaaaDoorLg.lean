/- Sums. -/
import Derived.Test.YtpfncffapgkjaaaDoorAb14
import Derived.Test.YtpfncffapgkjaaaDoorAb21
import Derived.Test.YtpfncffapgkjaaaDoorCtx
import Derived.Test.YtpfncffapgkjaaaDoorLa
import Derived.Test.YtpfncffapgkjaaaDoorLc
import Derived.Test.YtpfncffapgkjaaaDoorLd
import Derived.Test.YtpfncffapgkjaaaDoorLe
namespace Go.Proofs.YtpfncffapgkjaaaDoor
set_option linter.unusedVariables false
open Go.Ab Go.RowKit

theorem qLg0 {a : Prop} (h : a := by first | omega | exact trivial | rfl | (simp only [len_u8s, len_u32s, len_u64s, len_ints, len_bools, len_cells]; omega) | exact inR_i64.mpr ⟨by omega, by omega⟩ | (simp <;> omega) | (refine And.intro ?_ ?_ <;> exact trivial) | exact ⟨trivial, trivial, trivial⟩ | decide | (refine And.intro rfl ?_; (repeat first | exact trivial | refine And.intro rfl ?_); done) | exact Nat.succ_pos _ | exact Nat.le_refl _ | (refine And.intro trivial ?_; (repeat first | exact trivial | refine And.intro trivial ?_); done)) : a := h
theorem qLg1 {a : Prop} (h : a := by first | omega | exact trivial | rfl | (simp only [len_u8s, len_u32s, len_u64s, len_ints, len_bools, len_cells]; omega) | exact inR_i64.mpr ⟨by omega, by omega⟩ | (simp [hkl] <;> omega) | (refine And.intro ?_ ?_ <;> exact trivial) | exact ⟨trivial, trivial, trivial⟩ | decide | (refine And.intro rfl ?_; (repeat first | exact trivial | refine And.intro rfl ?_); done) | exact Nat.succ_pos _ | exact Nat.le_refl _ | (refine And.intro trivial ?_; (repeat first | exact trivial | refine And.intro trivial ?_); done)) : a := h
theorem qLg2 {a : Prop} (h : a := by first | omega | exact trivial | rfl | (simp only [len_u8s, len_u32s, len_u64s, len_ints, len_bools, len_cells]; omega) | exact inR_i64.mpr ⟨by omega, by omega⟩ | (simp [sumN, sumH] <;> omega) | (refine And.intro ?_ ?_ <;> exact trivial) | exact ⟨trivial, trivial, trivial⟩ | decide | (refine And.intro rfl ?_; (repeat first | exact trivial | refine And.intro rfl ?_); done) | exact Nat.succ_pos _ | exact Nat.le_refl _ | (refine And.intro trivial ?_; (repeat first | exact trivial | refine And.intro trivial ?_); done)) : a := h

theorem uLg0 {a : Prop} (h : a := by
    repeat' (first | exact trivial | refine And.intro ?_ ?_ | rfl | omega | decide | (show (_ : Nat) < _; decide) | exact low_nil' | refine low_cons' ?_ ?_ | exact Nat.le_refl _ | exact Nat.succ_pos _)
    all_goals first | omega | (show (_ : List Bool) = _; simp only [shiftK, hi1]; congr 1; first | (simp only [hg, Bool.true_or, if_true]; done) | (simp only [hg, Bool.false_or, if_false, Bool.false_eq_true]; done) | skip) | (simp; done) | (simp <;> omega) | skip) : a := h
theorem uLg1 {a : Prop} (h : a := by
    repeat' (first | exact trivial | refine And.intro ?_ ?_ | rfl | omega | decide | (show (_ : Nat) < _; decide) | exact low_nil' | refine low_cons' ?_ ?_ | exact Nat.le_refl _ | exact Nat.succ_pos _)
    all_goals first | omega | exact low_caps (dataC_cons dataC_dp dataC_nil) | (show (_ : List Bool) = _; rw [shiftsL, if_pos hbit]; done) | (show (_ : List Bool) = _; rw [shiftsL, if_pos hbit, Nat.zero_add]; done) | (show (_ : List Bool) = _; rw [shiftsL, if_neg (by rw [hbit]; decide)]; done) | (show (_ : List Bool) = _; rw [hi1, repL]; congr 1; first | (rw [hg]; rfl) | (rw [hg, hi2]; rfl)) | (simp [sumN, sumH]; done) | (simp [sumN, sumH] <;> omega) | skip) : a := h

def shiftK (c d l : List Bool) (m : Nat) : Nat → List Bool
  | 0 => l
  | k + 1 => (shiftK c d l m k).set (m + k) ((shiftK c d l m k).getD (m + k) false || atL c d k)
@[simp] theorem shiftK_length (c d l : List Bool) (m : Nat) : ∀ k, (shiftK c d l m k).length = l.length
  | 0 => rfl
  | k + 1 => by rw [shiftK, List.length_set, shiftK_length c d l m k]
def shiftL (c d l : List Bool) (m : Nat) : List Bool := shiftK c d l m (l.length - m)
@[simp] theorem shiftL_length (c d l : List Bool) (m : Nat) : (shiftL c d l m).length = l.length := shiftK_length ..
/-- A list, shifted by the place of each true element. -/
def shiftsL (c d bits : List Bool) (off : Nat) (l : List Bool) : Nat → List Bool
  | 0 => l
  | k + 1 => if bits.getD k false then shiftL c d (shiftsL c d bits off l k) (off + k) else shiftsL c d bits off l k
@[simp] theorem shiftsL_length (c d bits : List Bool) (off : Nat) (l : List Bool) : ∀ k, (shiftsL c d bits off l k).length = l.length
  | 0 => rfl
  | k + 1 => by
    have := shiftsL_length c d bits off l k
    rw [shiftsL]; split <;> simp [this]
def repL (m : Nat) (l : List Bool) : Nat → List Bool
  | 0 => l
  | k + 1 => (repL m l k).set (m + k) ((repL m l k).getD (m + k) false || (repL m l k).getD k false)
@[simp] theorem repL_length (m : Nat) (l : List Bool) : ∀ k, (repL m l k).length = l.length
  | 0 => rfl
  | k + 1 => by rw [repL, List.length_set, repL_length m l k]
theorem lcmL_ge (a b : Nat) (h : 0 < a) (hb : 0 < b) : a ≤ lcmL a b := by
  have e : a / Nat.gcd a b * Nat.gcd a b = a := Nat.div_mul_cancel (Nat.gcd_dvd_left a b)
  have h2 : Nat.gcd a b ≤ b := Nat.le_of_dvd hb (Nat.gcd_dvd_right a b)
  calc a = a / Nat.gcd a b * Nat.gcd a b := e.symm
    _ ≤ a / Nat.gcd a b * b := Nat.mul_le_mul_left _ h2
def sumH (a b c d : List Bool) : Nat := a.length + c.length + lcmL b.length d.length
def sumN (a b c d : List Bool) : Nat := sumH a b c d + lcmL b.length d.length
def onceL (a b c d : List Bool) : List Bool := shiftsL c d a 0 (List.replicate (sumN a b c d) false) a.length
def againL (a b c d : List Bool) : List Bool := repL b.length (shiftsL c d b a.length (List.replicate (sumN a b c d) false) b.length) (sumN a b c d - b.length)
def sumG (a b c d : List Bool) (n : Nat) : Bool := (onceL a b c d).getD n false || (againL a b c d).getD n false
def sumL (a b c d : List Bool) : LOut := if (0 < b.length ∧ a.length + b.length ≤ 512) ∧ 0 < d.length ∧ c.length + d.length ≤ 512 then canonO (sumG a b c d) (sumH a b c d) (lcmL b.length d.length) else errO 1

def shiftS : LSpec := fun te k cap len capS vs K => ∃ c d l, ∃ m : Nat, (te = 4 ∧ k = .bools l ∧ len = l.length ∧ vs = [.c (.int .i64 m), .c (.dp (lsC c d) 0)]) ∧ (0 < d.length ∧ c.length ≤ 9223372036854775807 ∧ d.length ≤ 9223372036854775807 ∧ m ≤ l.length ∧ l.length ≤ 1048576) ∧ K (.bools (shiftL c d l m)) undefV
noncomputable def g8 : Ctx := { P := Tryd.prog, ty := ty, glob := gl, fs := [(34, .flat memberS)] }
theorem g8_ok : g8.OK := ⟨tyOK, ⟨⟨enters_mk Tryd.func34 (by kernel_rfl) rfl, member_ok⟩, trivial⟩, mixed⟩
@[simp] theorem g8_ty : g8.ty = ty := rfl

set_option maxHeartbeats 400000 in
theorem shift_ok : SlcOK Tryd.prog gl 43 shiftS := by
 refine slc_of (Γ := g8) (N := 27) Tryd.func43 rfl rfl fun te k0 cap len capS vs K h => ?_
 obtain ⟨c, d, l, m, ⟨rfl, rfl, rfl, rfl⟩, ⟨hl0, hl1, hl2, hl3, hl4⟩, h⟩ := h
 refine ⟨_, _, h, rfl, rfl, by simp, fun w I b => ?_⟩
 refine seq_k fun _ hK1 => ?_
 refine region_k g8_ok fun _ hK2 => ?_
 refine s_step rfl (by decide) rfl fun _ hS => ?_
 refine hS _ _ _ ?_
 clear hS
 refine s_step rfl (by decide) rfl fun _ hS => ?_
 refine hS _ _ _ ?_
 clear hS
 refine s_nil ?_
 refine hK2 _ _ _ ?_
 refine hK1 _ _ _ ?_
 refine WP_block ?_
 refine WP_loop (α := Nat) (fun k => [(0, .c (.slice 0 0 l.length capS)), (1, .c (.int .i64 m)), (2, .c (.dp (lsC c d) 0)), (5, .c (.int .i64 ((m + k : Nat) : Int)))]) (fun k => [(0, .own 4 (.bools (shiftK c d l m k)) cap)]) 1 (fun k => m + k ≤ l.length) (fun k => l.length - (m + k)) ?_ ?_
 ·refine Done_some [] id 0 hl3 ⟨?_, ?_, (by decide : List.Nodup ([0] : List Nat)), ?_, ?_, ⟨Nat.le_refl _, fun i hi => rfl⟩⟩
  ·exact uLg0
  ·exact uLg0
  ·exact uLg0
  ·exact uLg0
 ·intro k hk
  have hkl := shiftK_length c d l m k
  refine seq_k fun _ hK3 => ?_
  refine seq_k fun _ hK4 => ?_
  refine region_k g8_ok fun _ hK5 => ?_
  refine s_step rfl (by decide) rfl fun _ hS => ?_
  refine hS _ _ _ ?_
  clear hS
  refine s_step rfl (by decide) rfl fun _ hS => ?_
  refine hS _ _ _ ?_
  clear hS
  refine s_step rfl (by decide) rfl fun _ hS => ?_
  repeat refine And.intro qLg0 ?_
  refine hS _ _ _ ?_
  clear hS
  refine s_step rfl (by decide) rfl fun _ hS => ?_
  repeat refine And.intro qLg0 ?_
  refine hS _ _ _ ?_
  clear hS
  refine s_nil ?_
  refine hK5 _ _ _ ?_
  refine hK4 _ _ _ ?_
  refine WP_cond (b := _) rfl (fun h_t10 => ?_) (fun h_t10 => ?_)
  ·try try simp only [decide_eq_true_eq] at h_t10
   refine WP_skip ?_
   refine hK3 _ _ _ ?_
   refine seq_k fun _ hK6 => ?_
   refine WP_block ?_
   have hkl2 : m + k < l.length := by omega
   have hi1 : 0 + (((m + k : Nat) : Int)).toNat * 1 = m + k := by omega
   refine region_k g8_ok fun _ hK7 => ?_
   refine s_step rfl (by decide) rfl fun _ hS => ?_
   refine hS _ _ _ ?_
   clear hS
   refine s_step rfl (by decide) rfl fun _ hS => ?_
   refine hS _ _ _ ?_
   clear hS
   refine s_step rfl (by decide) rfl fun _ hS => ?_
   refine hS _ _ _ ?_
   clear hS
   refine s_step rfl (by decide) rfl fun _ hS => ?_
   refine hS _ _ _ ?_
   clear hS
   refine s_step rfl (by decide) rfl fun _ hS => ?_
   repeat refine And.intro qLg1 ?_
   refine hS _ _ _ ?_
   clear hS
   refine s_step rfl (by decide) rfl fun _ hS => ?_
   repeat refine And.intro qLg1 ?_
   first | refine hS _ _ _ ?_ | (refine whole_yes qLg1 ?_; refine hS _ _ _ ?_) | (refine whole_sub ?_; refine hS _ _ _ ?_)
   clear hS
   refine s_step rfl (by decide) rfl fun _ hS => ?_
   refine s_split hS (fun hb6 => ?_) (fun hb6 => ?_)
   ·clear hS
    try simp only [decide_eq_true_eq, decide_eq_false_iff_not, Int.not_lt, Int.not_le, Bool.not_eq_true', Bool.not_eq_false', Bool.not_eq_eq_eq_not, Bool.not_true, Bool.not_false, if_true, if_false, reduceIte, Bool.false_eq_true, Int.natCast_inj] at hb6
    refine s_guard (b := true) rfl (by decide) rfl rfl (fun e => absurd e (by decide)) (fun _ => ?_)
    refine s_guard (b := true) rfl (by decide) rfl rfl (fun e => absurd e (by decide)) (fun _ => ?_)
    refine s_guard (b := true) rfl (by decide) rfl rfl (fun e => absurd e (by decide)) (fun _ => ?_)
    refine s_guard (b := true) rfl (by decide) rfl rfl (fun e => absurd e (by decide)) (fun _ => ?_)
    refine s_guard (b := true) rfl (by decide) rfl rfl (fun e => absurd e (by decide)) (fun _ => ?_)
    refine s_step rfl (by decide) rfl fun _ hS => ?_
    refine hS _ _ _ ?_
    clear hS
    refine s_step rfl (by decide) rfl fun _ hS => ?_
    repeat refine And.intro qLg1 ?_
    refine hS _ _ _ ?_
    clear hS
    refine s_step0 rfl rfl fun _ hS => ?_
    repeat refine And.intro qLg1 ?_
    first | refine hS _ _ _ ?_ | (refine splice_full qLg1 ?_; refine hS _ _ _ ?_)
    clear hS
    refine s_nil ?_
    refine hK7 _ _ _ ?_
    first | (have hg : (shiftK c d l m k).getD (m + k) false = true := by first | (rw [hi1] at hb6; exact hb6) | (simpa using hb6)) | (have hg : (shiftK c d l m k).getD (m + k) false = false := by first | (rw [hi1] at hb6; exact hb6) | (simpa using hb6))
    refine done_block ?_
    refine hK6 _ _ _ ?_
    refine region_k g8_ok fun _ hK8 => ?_
    refine s_step rfl (by decide) rfl fun _ hS => ?_
    refine hS _ _ _ ?_
    clear hS
    refine s_step rfl (by decide) rfl fun _ hS => ?_
    repeat refine And.intro qLg0 ?_
    refine hS _ _ _ ?_
    clear hS
    refine s_step rfl (by decide) rfl fun _ hS => ?_
    refine hS _ _ _ ?_
    clear hS
    refine s_nil ?_
    refine hK8 _ _ _ ?_
    refine Done_some [] id (k + 1) ⟨by omega, by omega⟩ ⟨?_, ?_, (by decide : List.Nodup ([0] : List Nat)), ?_, ?_, ⟨Nat.le_refl _, fun i hi => rfl⟩⟩
    ·exact uLg0
    ·exact uLg0
    ·exact uLg0
    ·exact uLg0
   ·clear hS
    try simp only [decide_eq_true_eq, decide_eq_false_iff_not, Int.not_lt, Int.not_le, Bool.not_eq_true', Bool.not_eq_false', Bool.not_eq_eq_eq_not, Bool.not_true, Bool.not_false, if_true, if_false, reduceIte, Bool.false_eq_true, Int.natCast_inj] at hb6
    refine s_guard (b := false) rfl (by decide) rfl rfl (fun _ _ hS => ?_) (fun e => absurd e (by decide))
    repeat refine And.intro qLg1 ?_
    first | refine hS _ _ _ ?_ | (refine whole_yes qLg1 ?_; refine hS _ _ _ ?_) | (refine whole_sub ?_; refine hS _ _ _ ?_)
    clear hS
    refine s_guard (b := false) rfl (by decide) rfl rfl (fun _ _ hS => ?_) (fun e => absurd e (by decide))
    refine hS _ _ _ ?_
    clear hS
    refine s_guard (b := false) rfl (by decide) rfl rfl (fun _ _ hS => ?_) (fun e => absurd e (by decide))
    refine hS _ _ _ ?_
    clear hS
    refine s_guard (b := false) rfl (by decide) rfl rfl (fun _ _ hS => ?_) (fun e => absurd e (by decide))
    repeat refine And.intro qLg1 ?_
    refine hS _ _ _ ?_
    clear hS
    refine s_guard (b := false) rfl (by decide) rfl rfl (fun _ _ hS => ?_) (fun e => absurd e (by decide))
    repeat first | refine And.intro qLg1 ?_ | refine whole_yes qLg1 ?_ | refine whole_sub ?_
    refine ⟨c, d, k, by congr 4; omega, ⟨hl0, hl1, hl2, by omega⟩, ?_⟩
    repeat refine And.intro qLg1 ?_
    first | refine hS _ _ _ ?_ | (intro cap11 hcap11; refine hS _ _ _ ?_)
    clear hS
    refine s_step rfl (by decide) rfl fun _ hS => ?_
    refine hS _ _ _ ?_
    clear hS
    refine s_step rfl (by decide) rfl fun _ hS => ?_
    repeat refine And.intro qLg1 ?_
    refine hS _ _ _ ?_
    clear hS
    refine s_step0 rfl rfl fun _ hS => ?_
    repeat refine And.intro qLg1 ?_
    first | refine hS _ _ _ ?_ | (refine splice_full qLg1 ?_; refine hS _ _ _ ?_)
    clear hS
    refine s_nil ?_
    refine hK7 _ _ _ ?_
    first | (have hg : (shiftK c d l m k).getD (m + k) false = true := by first | (rw [hi1] at hb6; exact hb6) | (simpa using hb6)) | (have hg : (shiftK c d l m k).getD (m + k) false = false := by first | (rw [hi1] at hb6; exact hb6) | (simpa using hb6))
    refine done_block ?_
    refine hK6 _ _ _ ?_
    refine region_k g8_ok fun _ hK9 => ?_
    refine s_step rfl (by decide) rfl fun _ hS => ?_
    refine hS _ _ _ ?_
    clear hS
    refine s_step rfl (by decide) rfl fun _ hS => ?_
    repeat refine And.intro qLg0 ?_
    refine hS _ _ _ ?_
    clear hS
    refine s_step rfl (by decide) rfl fun _ hS => ?_
    refine hS _ _ _ ?_
    clear hS
    refine s_nil ?_
    refine hK9 _ _ _ ?_
    refine Done_some [] id (k + 1) ⟨by omega, by omega⟩ ⟨?_, ?_, (by decide : List.Nodup ([0] : List Nat)), ?_, ?_, ⟨Nat.le_refl _, fun i hi => rfl⟩⟩
    ·exact uLg0
    ·exact uLg0
    ·exact uLg0
    ·exact uLg0
  ·try try simp only [decide_eq_false_iff_not, Int.not_lt] at h_t10
   refine WP_exit ?_
   refine done_thenx ?_
   refine done_thenx ?_
   refine Done_hit ?_
   refine Done_ptr0 g8_ok (fun _ _ h => h) rfl ?_
   show Option.some (SObj.own 4 (.bools (shiftK c d l m k)) cap) = _
   rw [shiftL, show l.length - m = k by omega]
noncomputable def g9 : Ctx := { P := Tryd.prog, ty := ty, glob := gl, fs := [(17, .flat validS), (42, .flat commonS), (43, .gen (slcS shiftS)), (32, .data (canonS 44 sum2S))] }
theorem g9_ok : g9.OK := ⟨tyOK, ⟨⟨enters_mk Tryd.func17 (by kernel_rfl) rfl, valid_ok⟩, ⟨enters_mk Tryd.func42 (by kernel_rfl) rfl, common_ok⟩, ⟨enters_mk Tryd.func43 (by kernel_rfl) rfl, gen_slice shift_ok⟩, ⟨enters_mk Tryd.func32 (by kernel_rfl) rfl, canon_ok (enters_mk Tryd.func44 (by kernel_rfl) rfl) ⟨by decide, by decide⟩ sum2_ok⟩, trivial⟩, mixed⟩
@[simp] theorem g9_ty : g9.ty = ty := rfl

def sumPS : QSpec := fun vs K => ∃ a b c d, vs = [lsV a b, lsV c d] ∧ B2 a b c d ∧ K (outV (sumL a b c d))
set_option maxHeartbeats 1000000 in
theorem sumP_ok : DataOK Tryd.prog gl 27 sumPS := by
 refine data_of (Γ := g9) (N := 114) Tryd.func27 rfl rfl fun vs K h => ?_
 obtain ⟨a, b, c, d, rfl, ⟨hl1, hl2, hl3, hl4⟩, h⟩ := h
 refine ⟨_, h, low_outV, by simp, fun w I => ?_⟩
 refine seq_k fun _ hK1 => ?_
 refine region_k g9_ok fun _ hK2 => ?_
 refine s_step rfl (by decide) rfl fun _ hS => ?_
 repeat refine And.intro qLg2 ?_
 refine hS _ _ _ ?_
 clear hS
 refine s_step rfl (by decide) rfl fun _ hS => ?_
 repeat refine And.intro qLg2 ?_
 refine hS _ _ _ ?_
 clear hS
 refine s_step rfl (by decide) rfl fun _ hS => ?_
 repeat refine And.intro qLg2 ?_
 refine hS _ _ _ ?_
 clear hS
 refine s_step rfl (by decide) rfl fun _ hS => ?_
 refine hS _ _ _ ?_
 clear hS
 refine s_nil ?_
 refine hK2 _ _ _ ?_
 refine hK1 _ _ _ ?_
 refine seq_k fun _ hK3 => ?_
 refine seq_k fun _ hK4 => ?_
 refine region_k g9_ok fun _ hK5 => ?_
 refine s_step rfl (by decide) rfl fun _ hS => ?_
 repeat refine And.intro qLg2 ?_
 first | refine hS _ _ _ ?_ | (refine whole_yes qLg2 ?_; refine hS _ _ _ ?_) | (refine whole_sub ?_; refine hS _ _ _ ?_)
 clear hS
 refine s_step rfl (by decide) rfl fun _ hS => ?_
 repeat first | refine And.intro qLg2 ?_ | refine whole_yes qLg2 ?_ | refine whole_sub ?_
 refine ⟨a, b, rfl, ⟨hl1, hl2⟩, ?_⟩
 repeat refine And.intro qLg2 ?_
 first | refine hS _ _ _ ?_ | (intro cap1 hcap1; refine hS _ _ _ ?_)
 clear hS
 refine s_step rfl (by decide) rfl fun _ hS => ?_
 refine hS _ _ _ ?_
 clear hS
 refine s_step rfl (by decide) rfl fun _ hS => ?_
 refine s_split hS (fun hb3 => ?_) (fun hb3 => ?_)
 ·clear hS
  try simp only [decide_eq_false_iff_not, Bool.not_eq_eq_eq_not, Bool.not_true] at hb3
  refine s_guard (b := true) rfl (by decide) rfl rfl (fun e => absurd e (by decide)) (fun _ => ?_)
  refine s_guard (b := true) rfl (by decide) rfl rfl (fun e => absurd e (by decide)) (fun _ => ?_)
  refine s_guard (b := true) rfl (by decide) rfl rfl (fun e => absurd e (by decide)) (fun _ => ?_)
  refine s_step rfl (by decide) rfl fun _ hS => ?_
  refine hS _ _ _ ?_
  clear hS
  refine s_nil ?_
  refine hK5 _ _ _ ?_
  refine hK4 _ _ _ ?_
  refine WP_cond (b := _) rfl (fun _ => ?_) (fun h_t23 => ?_)
  rotate_left 1
  ·exfalso; simp at h_t23
  refine seq_k fun _ hK6 => ?_
  refine region_k g9_ok fun _ hK7 => ?_
  refine s_step rfl (by decide) rfl fun _ hS => ?_
  repeat refine And.intro qLg2 ?_
  refine hS _ _ _ ?_
  clear hS
  refine s_step0 rfl rfl fun _ hS => ?_
  repeat refine And.intro qLg2 ?_
  first | refine hS _ _ _ ?_ | (refine splice_full qLg2 ?_; refine hS _ _ _ ?_)
  clear hS
  refine s_step rfl (by decide) rfl fun _ hS => ?_
  refine hS _ _ _ ?_
  clear hS
  refine s_nil ?_
  refine hK7 _ _ _ ?_
  refine hK6 _ _ _ ?_
  refine WP_ret (Done_data g9_ok (fun _ _ h => h) (low_outV) [] [.cell 4 24, .tmp 5] rfl ?_)
  have hneg : ¬ ((0 < b.length ∧ a.length + b.length ≤ 512) ∧ 0 < d.length ∧ c.length + d.length ≤ 512) := fun hh => hb3 hh.1
  rw [sumL, if_neg hneg]
  repeat' (first | exact trivial | refine And.intro ?_ ?_ | rfl | omega | decide | (show (_ : Nat) < _; decide) | exact low_nil' | refine low_cons' ?_ ?_ | exact Nat.le_refl _ | exact Nat.succ_pos _)
 ·clear hS
  try simp only [decide_eq_true_eq, Bool.not_eq_eq_eq_not, Bool.not_false] at hb3
  refine s_guard (b := false) rfl (by decide) rfl rfl (fun _ _ hS => ?_) (fun e => absurd e (by decide))
  repeat refine And.intro qLg2 ?_
  first | refine hS _ _ _ ?_ | (refine whole_yes qLg2 ?_; refine hS _ _ _ ?_) | (refine whole_sub ?_; refine hS _ _ _ ?_)
  clear hS
  refine s_guard (b := false) rfl (by decide) rfl rfl (fun _ _ hS => ?_) (fun e => absurd e (by decide))
  repeat first | refine And.intro qLg2 ?_ | refine whole_yes qLg2 ?_ | refine whole_sub ?_
  refine ⟨c, d, rfl, ⟨hl3, hl4⟩, ?_⟩
  repeat refine And.intro qLg2 ?_
  first | refine hS _ _ _ ?_ | (intro cap5 hcap5; refine hS _ _ _ ?_)
  clear hS
  refine s_guard (b := false) rfl (by decide) rfl rfl (fun _ _ hS => ?_) (fun e => absurd e (by decide))
  refine hS _ _ _ ?_
  clear hS
  refine s_step rfl (by decide) rfl fun _ hS => ?_
  refine hS _ _ _ ?_
  clear hS
  refine s_nil ?_
  refine hK5 _ _ _ ?_
  refine hK4 _ _ _ ?_
  refine WP_cond (b := _) rfl (fun h_t23 => ?_) (fun h_t23 => ?_)
  ·try try simp only [decide_eq_false_iff_not, Bool.not_eq_eq_eq_not, Bool.not_true, if_false, Bool.false_eq_true] at h_t23
   refine seq_k fun _ hK8 => ?_
   refine region_k g9_ok fun _ hK9 => ?_
   refine s_step rfl (by decide) rfl fun _ hS => ?_
   repeat refine And.intro qLg2 ?_
   refine hS _ _ _ ?_
   clear hS
   refine s_step0 rfl rfl fun _ hS => ?_
   repeat refine And.intro qLg2 ?_
   first | refine hS _ _ _ ?_ | (refine splice_full qLg2 ?_; refine hS _ _ _ ?_)
   clear hS
   refine s_step rfl (by decide) rfl fun _ hS => ?_
   refine hS _ _ _ ?_
   clear hS
   refine s_nil ?_
   refine hK9 _ _ _ ?_
   refine hK8 _ _ _ ?_
   refine WP_ret (Done_data g9_ok (fun _ _ h => h) (low_outV) [] [.cell 4 24, .tmp 5] rfl ?_)
   have hneg : ¬ ((0 < b.length ∧ a.length + b.length ≤ 512) ∧ 0 < d.length ∧ c.length + d.length ≤ 512) := fun hh => h_t23 hh.2
   rw [sumL, if_neg hneg]
   repeat' (first | exact trivial | refine And.intro ?_ ?_ | rfl | omega | decide | (show (_ : Nat) < _; decide) | exact low_nil' | refine low_cons' ?_ ?_ | exact Nat.le_refl _ | exact Nat.succ_pos _)
  ·try try simp only [decide_eq_true_eq, Bool.not_eq_eq_eq_not, Bool.not_false, if_false, Bool.false_eq_true] at h_t23
   refine WP_skip ?_
   refine hK3 _ _ _ ?_
   refine seq_k fun _ hK10 => ?_
   have hv : (0 < b.length ∧ a.length + b.length ≤ 512) ∧ 0 < d.length ∧ c.length + d.length ≤ 512 := by
    first | omega | (simp at h_t23; omega)
   have hlp := lcmL_pos hv.1.1 hv.2.1
   have hle := lcmL_le b.length d.length
   have hge := lcmL_ge b.length d.length hv.1.1 hv.2.1
   have hmu : b.length * d.length ≤ 512 * 512 := Nat.mul_le_mul (by omega) (by omega)
   have hN : sumN a b c d = a.length + c.length + lcmL b.length d.length + lcmL b.length d.length := rfl
   have hH : sumH a b c d = a.length + c.length + lcmL b.length d.length := rfl
   refine region_k g9_ok fun _ hK11 => ?_
   refine s_step rfl (by decide) rfl fun _ hS => ?_
   repeat refine And.intro qLg2 ?_
   refine hS _ _ _ ?_
   clear hS
   refine s_step rfl (by decide) rfl fun _ hS => ?_
   repeat refine And.intro qLg2 ?_
   first | refine hS _ _ _ ?_ | (refine whole_yes qLg2 ?_; refine hS _ _ _ ?_) | (refine whole_sub ?_; refine hS _ _ _ ?_)
   clear hS
   refine s_step rfl (by decide) rfl fun _ hS => ?_
   repeat refine And.intro qLg2 ?_
   refine hS _ _ _ ?_
   clear hS
   refine s_step rfl (by decide) rfl fun _ hS => ?_
   repeat refine And.intro qLg2 ?_
   refine hS _ _ _ ?_
   clear hS
   refine s_step rfl (by decide) rfl fun _ hS => ?_
   repeat refine And.intro qLg2 ?_
   first | refine hS _ _ _ ?_ | (refine whole_yes qLg2 ?_; refine hS _ _ _ ?_) | (refine whole_sub ?_; refine hS _ _ _ ?_)
   clear hS
   refine s_step rfl (by decide) rfl fun _ hS => ?_
   repeat refine And.intro qLg2 ?_
   refine hS _ _ _ ?_
   clear hS
   refine s_step rfl (by decide) rfl fun _ hS => ?_
   repeat first | refine And.intro qLg2 ?_ | refine whole_yes qLg2 ?_ | refine whole_sub ?_
   refine ⟨b.length, d.length, rfl, ⟨by omega, by omega, by omega, by omega⟩, ?_⟩
   repeat refine And.intro qLg2 ?_
   first | refine hS _ _ _ ?_ | (intro cap6 hcap6; refine hS _ _ _ ?_)
   clear hS
   refine s_step rfl (by decide) rfl fun _ hS => ?_
   refine hS _ _ _ ?_
   clear hS
   refine s_nil ?_
   refine hK11 _ _ _ ?_
   refine hK10 _ _ _ ?_
   refine seq_k fun _ hK12 => ?_
   refine region_k g9_ok fun _ hK13 => ?_
   refine s_step rfl (by decide) rfl fun _ hS => ?_
   repeat refine And.intro qLg2 ?_
   refine hS _ _ _ ?_
   clear hS
   refine s_step rfl (by decide) rfl fun _ hS => ?_
   repeat refine And.intro qLg2 ?_
   first | refine hS _ _ _ ?_ | (refine whole_yes qLg2 ?_; refine hS _ _ _ ?_) | (refine whole_sub ?_; refine hS _ _ _ ?_)
   clear hS
   refine s_step rfl (by decide) rfl fun _ hS => ?_
   repeat refine And.intro qLg2 ?_
   refine hS _ _ _ ?_
   clear hS
   refine s_step rfl (by decide) rfl fun _ hS => ?_
   repeat refine And.intro qLg2 ?_
   refine hS _ _ _ ?_
   clear hS
   refine s_step rfl (by decide) rfl fun _ hS => ?_
   repeat refine And.intro qLg2 ?_
   first | refine hS _ _ _ ?_ | (refine whole_yes qLg2 ?_; refine hS _ _ _ ?_) | (refine whole_sub ?_; refine hS _ _ _ ?_)
   clear hS
   refine s_step rfl (by decide) rfl fun _ hS => ?_
   repeat refine And.intro qLg2 ?_
   refine hS _ _ _ ?_
   clear hS
   refine s_step rfl (by decide) rfl fun _ hS => ?_
   repeat refine And.intro qLg2 ?_
   refine hS _ _ _ ?_
   clear hS
   refine s_step rfl (by decide) rfl fun _ hS => ?_
   refine hS _ _ _ ?_
   clear hS
   refine s_step rfl (by decide) rfl fun _ hS => ?_
   repeat refine And.intro qLg2 ?_
   refine hS _ _ _ ?_
   clear hS
   refine s_step rfl (by decide) rfl fun _ hS => ?_
   refine hS _ _ _ ?_
   clear hS
   refine s_nil ?_
   refine hK13 _ _ _ ?_
   refine hK12 _ _ _ ?_
   refine WP_cut (α := Unit) (fun _ => [(2, .c (.dp (lsC a b) 0)), (3, .c (.dp (lsC c d) 0)), (4, .c (.ptr 0 0)), (6, .c (.int .i64 (lcmL b.length d.length))), (7, .c (.int .i64 (sumH a b c d))), (8, .c (.ptr 3 0)), (9, .c (.ptr 4 0))]) (fun _ => [(0, .own 24 (.cells [.nils, .nils]) 2), (1, .own 4 (.bools (List.replicate (sumN a b c d) false)) (sumN a b c d)), (2, .own 4 (.bools (List.replicate (sumN a b c d) false)) (sumN a b c d)), (3, .own 22 (.cells [.slice 1 0 (sumN a b c d) (sumN a b c d)]) 1), (4, .own 22 (.cells [.slice 2 0 (sumN a b c d) (sumN a b c d)]) 1)]) 5 (fun _ => True) ?_ ?_
   ·skip
    refine WP_le (is := [0, 1]) (ρ := id) (E' := [(2, .c (.dp (lsC a b) 0)), (3, .c (.dp (lsC c d) 0)), (4, .c (.ptr 2 0)), (6, .c (.int .i64 (lcmL b.length d.length))), (7, .c (.int .i64 (sumH a b c d)))]) (H' := [(2, .own 24 (.cells [.nils, .nils]) 2)]) (n' := 3) ⟨?_, ?_, (by decide : List.Nodup ([2] : List Nat)), ?_, ?_, ⟨Nat.zero_le _, fun i hi => absurd hi (Nat.not_lt_zero i)⟩⟩ ?_
    ·exact uLg1
    ·exact uLg1
    ·exact uLg1
    ·exact uLg1
    refine tree_k g9_ok ?_
    refine WB_run g9_ok (g := 6) (by kernel_rfl) [(0, true), (1, true), (2, true), (4, true), (5, true), (6, true)] (by kernel_rfl) fun _ hK15 => ?_
    refine d_read rfl rfl (by decide) rfl fun _ hS => ?_
    refine hS _ ?_
    clear hS
    refine d_read rfl rfl (by decide) rfl fun _ hS => ?_
    refine hS _ ?_
    clear hS
    refine d_read rfl rfl (by decide) rfl fun _ hS => ?_
    repeat refine And.intro qLg2 ?_
    refine hS _ ?_
    clear hS
    refine d_read rfl rfl (by decide) rfl fun _ hS => ?_
    refine hS _ ?_
    clear hS
    refine d_read rfl rfl (by decide) rfl fun _ hS => ?_
    refine hS _ ?_
    clear hS
    refine d_read rfl rfl (by decide) rfl fun _ hS => ?_
    repeat refine And.intro qLg2 ?_
    refine hS _ ?_
    clear hS
    refine d_nil ?_
    refine hK15 _ _ _ ?_
    refine WB_all [3, 7, 8, 9] (by kernel_rfl) (by decide) (List.forall_mem_cons.2 ⟨?_, List.forall_mem_cons.2 ⟨?_, List.forall_mem_cons.2 ⟨?_, List.forall_mem_cons.2 ⟨?_, fun _ h => by cases h⟩⟩⟩⟩)
    ·refine WB_force g9_ok rfl rfl (by decide) rfl fun _ hS => ?_
     repeat refine And.intro qLg2 ?_
     refine hS _ _ _ ?_
     clear hS
     refine WB_all [7, 8, 9] (by kernel_rfl) (by decide) (List.forall_mem_cons.2 ⟨?_, List.forall_mem_cons.2 ⟨?_, List.forall_mem_cons.2 ⟨?_, fun _ h => by cases h⟩⟩⟩)
     ·refine WB_force g9_ok rfl rfl (by decide) rfl fun _ hS => ?_
      repeat refine And.intro qLg2 ?_
      refine hS _ _ _ ?_
      clear hS
      refine WB_all [8, 9] (by kernel_rfl) (by decide) (List.forall_mem_cons.2 ⟨?_, List.forall_mem_cons.2 ⟨?_, fun _ h => by cases h⟩⟩)
      ·refine WB_force g9_ok rfl rfl (by decide) rfl fun _ hS => ?_
       repeat refine And.intro qLg2 ?_
       refine hS _ _ _ ?_
       clear hS
       refine WB_run g9_ok (g := 0) (by kernel_rfl) [(9, false), (10, false), (11, false)] (by kernel_rfl) fun _ hK16 => ?_
       refine d_grow rfl rfl (by decide) rfl fun _ hS => ?_
       repeat refine And.intro qLg2 ?_
       refine hS _ _ _ ?_
       clear hS
       refine d_grow0 rfl rfl rfl fun _ hS => ?_
       repeat refine And.intro qLg2 ?_
       first | refine hS _ _ _ ?_ | (refine splice_full qLg2 ?_; refine hS _ _ _ ?_)
       clear hS
       refine d_grow0 rfl rfl rfl fun _ hS => ?_
       repeat refine And.intro qLg2 ?_
       first | refine hS _ _ _ ?_ | (refine splice_full qLg2 ?_; refine hS _ _ _ ?_)
       clear hS
       refine d_nil ?_
       refine hK16 _ _ _ ?_
       refine WB_done (by kernel_rfl) ?_
       refine Done_some [] (fun i => if i = 0 then 2 else if i = 1 then 3 else if i = 2 then 4 else if i = 3 then 5 else 6) () trivial ⟨?_, ?_, (by decide : List.Nodup ([2, 3, 4, 5, 6] : List Nat)), ?_, ?_, ⟨Nat.zero_le _, fun i hi => absurd hi (Nat.not_lt_zero i)⟩⟩
       ·exact uLg1
       ·exact uLg1
       ·exact uLg1
       ·exact uLg1
      ·refine WB_force g9_ok rfl rfl (by decide) rfl fun _ hS => ?_
       repeat refine And.intro qLg2 ?_
       refine hS _ _ _ ?_
       clear hS
       refine WB_run g9_ok (g := 0) (by kernel_rfl) [(8, false), (10, false), (11, false)] (by kernel_rfl) fun _ hK17 => ?_
       refine d_grow rfl rfl (by decide) rfl fun _ hS => ?_
       repeat refine And.intro qLg2 ?_
       refine hS _ _ _ ?_
       clear hS
       refine d_grow0 rfl rfl rfl fun _ hS => ?_
       repeat refine And.intro qLg2 ?_
       first | refine hS _ _ _ ?_ | (refine splice_full qLg2 ?_; refine hS _ _ _ ?_)
       clear hS
       refine d_grow0 rfl rfl rfl fun _ hS => ?_
       repeat refine And.intro qLg2 ?_
       first | refine hS _ _ _ ?_ | (refine splice_full qLg2 ?_; refine hS _ _ _ ?_)
       clear hS
       refine d_nil ?_
       refine hK17 _ _ _ ?_
       refine WB_done (by kernel_rfl) ?_
       refine Done_some [] (fun i => if i = 0 then 2 else if i = 1 then 3 else if i = 2 then 4 else if i = 3 then 6 else 5) () trivial ⟨?_, ?_, (by decide : List.Nodup ([2, 3, 4, 6, 5] : List Nat)), ?_, ?_, ⟨Nat.zero_le _, fun i hi => absurd hi (Nat.not_lt_zero i)⟩⟩
       ·exact uLg1
       ·exact uLg1
       ·exact uLg1
       ·exact uLg1
     ·refine WB_force g9_ok rfl rfl (by decide) rfl fun _ hS => ?_
      repeat refine And.intro qLg2 ?_
      refine hS _ _ _ ?_
      clear hS
      refine WB_all [7, 9] (by kernel_rfl) (by decide) (List.forall_mem_cons.2 ⟨?_, List.forall_mem_cons.2 ⟨?_, fun _ h => by cases h⟩⟩)
      ·refine WB_force g9_ok rfl rfl (by decide) rfl fun _ hS => ?_
       repeat refine And.intro qLg2 ?_
       refine hS _ _ _ ?_
       clear hS
       refine WB_run g9_ok (g := 0) (by kernel_rfl) [(9, false), (10, false), (11, false)] (by kernel_rfl) fun _ hK18 => ?_
       refine d_grow rfl rfl (by decide) rfl fun _ hS => ?_
       repeat refine And.intro qLg2 ?_
       refine hS _ _ _ ?_
       clear hS
       refine d_grow0 rfl rfl rfl fun _ hS => ?_
       repeat refine And.intro qLg2 ?_
       first | refine hS _ _ _ ?_ | (refine splice_full qLg2 ?_; refine hS _ _ _ ?_)
       clear hS
       refine d_grow0 rfl rfl rfl fun _ hS => ?_
       repeat refine And.intro qLg2 ?_
       first | refine hS _ _ _ ?_ | (refine splice_full qLg2 ?_; refine hS _ _ _ ?_)
       clear hS
       refine d_nil ?_
       refine hK18 _ _ _ ?_
       refine WB_done (by kernel_rfl) ?_
       refine Done_some [] (fun i => if i = 0 then 2 else if i = 1 then 3 else if i = 2 then 5 else if i = 3 then 4 else 6) () trivial ⟨?_, ?_, (by decide : List.Nodup ([2, 3, 5, 4, 6] : List Nat)), ?_, ?_, ⟨Nat.zero_le _, fun i hi => absurd hi (Nat.not_lt_zero i)⟩⟩
       ·exact uLg1
       ·exact uLg1
       ·exact uLg1
       ·exact uLg1
      ·refine WB_force g9_ok rfl rfl (by decide) rfl fun _ hS => ?_
       repeat refine And.intro qLg2 ?_
       refine hS _ _ _ ?_
       clear hS
       refine WB_all [7, 10] (by kernel_rfl) (by decide) (List.forall_mem_cons.2 ⟨?_, List.forall_mem_cons.2 ⟨?_, fun _ h => by cases h⟩⟩)
       ·refine WB_force g9_ok rfl rfl (by decide) rfl fun _ hS => ?_
        repeat refine And.intro qLg2 ?_
        refine hS _ _ _ ?_
        clear hS
        refine WB_run g9_ok (g := 0) (by kernel_rfl) [(10, false), (11, false)] (by kernel_rfl) fun _ hK19 => ?_
        refine d_grow0 rfl rfl rfl fun _ hS => ?_
        repeat refine And.intro qLg2 ?_
        first | refine hS _ _ _ ?_ | (refine splice_full qLg2 ?_; refine hS _ _ _ ?_)
        clear hS
        refine d_grow0 rfl rfl rfl fun _ hS => ?_
        repeat refine And.intro qLg2 ?_
        first | refine hS _ _ _ ?_ | (refine splice_full qLg2 ?_; refine hS _ _ _ ?_)
        clear hS
        refine d_nil ?_
        refine hK19 _ _ _ ?_
        refine WB_done (by kernel_rfl) ?_
        refine Done_some [] (fun i => if i = 0 then 2 else if i = 1 then 3 else if i = 2 then 6 else if i = 3 then 4 else 5) () trivial ⟨?_, ?_, (by decide : List.Nodup ([2, 3, 6, 4, 5] : List Nat)), ?_, ?_, ⟨Nat.zero_le _, fun i hi => absurd hi (Nat.not_lt_zero i)⟩⟩
        ·exact uLg1
        ·exact uLg1
        ·exact uLg1
        ·exact uLg1
       ·refine WB_force0 g9_ok rfl rfl rfl fun _ hS => ?_
        repeat refine And.intro qLg2 ?_
        first | refine hS _ _ _ ?_ | (refine splice_full qLg2 ?_; refine hS _ _ _ ?_)
        clear hS
        refine WB_run g9_ok (g := 0) (by kernel_rfl) [(7, false), (11, false)] (by kernel_rfl) fun _ hK20 => ?_
        refine d_grow rfl rfl (by decide) rfl fun _ hS => ?_
        repeat refine And.intro qLg2 ?_
        refine hS _ _ _ ?_
        clear hS
        refine d_grow0 rfl rfl rfl fun _ hS => ?_
        repeat refine And.intro qLg2 ?_
        first | refine hS _ _ _ ?_ | (refine splice_full qLg2 ?_; refine hS _ _ _ ?_)
        clear hS
        refine d_nil ?_
        refine hK20 _ _ _ ?_
        refine WB_done (by kernel_rfl) ?_
        refine Done_some [] (fun i => if i = 0 then 2 else if i = 1 then 3 else if i = 2 then 6 else if i = 3 then 4 else 5) () trivial ⟨?_, ?_, (by decide : List.Nodup ([2, 3, 6, 4, 5] : List Nat)), ?_, ?_, ⟨Nat.zero_le _, fun i hi => absurd hi (Nat.not_lt_zero i)⟩⟩
        ·exact uLg1
        ·exact uLg1
        ·exact uLg1
        ·exact uLg1
     ·refine WB_force g9_ok rfl rfl (by decide) rfl fun _ hS => ?_
      repeat refine And.intro qLg2 ?_
      refine hS _ _ _ ?_
      clear hS
      refine WB_all [7, 8] (by kernel_rfl) (by decide) (List.forall_mem_cons.2 ⟨?_, List.forall_mem_cons.2 ⟨?_, fun _ h => by cases h⟩⟩)
      ·refine WB_force g9_ok rfl rfl (by decide) rfl fun _ hS => ?_
       repeat refine And.intro qLg2 ?_
       refine hS _ _ _ ?_
       clear hS
       refine WB_run g9_ok (g := 0) (by kernel_rfl) [(8, false), (10, false), (11, false)] (by kernel_rfl) fun _ hK21 => ?_
       refine d_grow rfl rfl (by decide) rfl fun _ hS => ?_
       repeat refine And.intro qLg2 ?_
       refine hS _ _ _ ?_
       clear hS
       refine d_grow0 rfl rfl rfl fun _ hS => ?_
       repeat refine And.intro qLg2 ?_
       first | refine hS _ _ _ ?_ | (refine splice_full qLg2 ?_; refine hS _ _ _ ?_)
       clear hS
       refine d_grow0 rfl rfl rfl fun _ hS => ?_
       repeat refine And.intro qLg2 ?_
       first | refine hS _ _ _ ?_ | (refine splice_full qLg2 ?_; refine hS _ _ _ ?_)
       clear hS
       refine d_nil ?_
       refine hK21 _ _ _ ?_
       refine WB_done (by kernel_rfl) ?_
       refine Done_some [] (fun i => if i = 0 then 2 else if i = 1 then 3 else if i = 2 then 5 else if i = 3 then 6 else 4) () trivial ⟨?_, ?_, (by decide : List.Nodup ([2, 3, 5, 6, 4] : List Nat)), ?_, ?_, ⟨Nat.zero_le _, fun i hi => absurd hi (Nat.not_lt_zero i)⟩⟩
       ·exact uLg1
       ·exact uLg1
       ·exact uLg1
       ·exact uLg1
      ·refine WB_force g9_ok rfl rfl (by decide) rfl fun _ hS => ?_
       repeat refine And.intro qLg2 ?_
       refine hS _ _ _ ?_
       clear hS
       refine WB_all [7, 10] (by kernel_rfl) (by decide) (List.forall_mem_cons.2 ⟨?_, List.forall_mem_cons.2 ⟨?_, fun _ h => by cases h⟩⟩)
       ·refine WB_force g9_ok rfl rfl (by decide) rfl fun _ hS => ?_
        repeat refine And.intro qLg2 ?_
        refine hS _ _ _ ?_
        clear hS
        refine WB_run g9_ok (g := 0) (by kernel_rfl) [(10, false), (11, false)] (by kernel_rfl) fun _ hK22 => ?_
        refine d_grow0 rfl rfl rfl fun _ hS => ?_
        repeat refine And.intro qLg2 ?_
        first | refine hS _ _ _ ?_ | (refine splice_full qLg2 ?_; refine hS _ _ _ ?_)
        clear hS
        refine d_grow0 rfl rfl rfl fun _ hS => ?_
        repeat refine And.intro qLg2 ?_
        first | refine hS _ _ _ ?_ | (refine splice_full qLg2 ?_; refine hS _ _ _ ?_)
        clear hS
        refine d_nil ?_
        refine hK22 _ _ _ ?_
        refine WB_done (by kernel_rfl) ?_
        refine Done_some [] (fun i => if i = 0 then 2 else if i = 1 then 3 else if i = 2 then 6 else if i = 3 then 5 else 4) () trivial ⟨?_, ?_, (by decide : List.Nodup ([2, 3, 6, 5, 4] : List Nat)), ?_, ?_, ⟨Nat.zero_le _, fun i hi => absurd hi (Nat.not_lt_zero i)⟩⟩
        ·exact uLg1
        ·exact uLg1
        ·exact uLg1
        ·exact uLg1
       ·refine WB_force0 g9_ok rfl rfl rfl fun _ hS => ?_
        repeat refine And.intro qLg2 ?_
        first | refine hS _ _ _ ?_ | (refine splice_full qLg2 ?_; refine hS _ _ _ ?_)
        clear hS
        refine WB_run g9_ok (g := 0) (by kernel_rfl) [(7, false), (11, false)] (by kernel_rfl) fun _ hK23 => ?_
        refine d_grow rfl rfl (by decide) rfl fun _ hS => ?_
        repeat refine And.intro qLg2 ?_
        refine hS _ _ _ ?_
        clear hS
        refine d_grow0 rfl rfl rfl fun _ hS => ?_
        repeat refine And.intro qLg2 ?_
        first | refine hS _ _ _ ?_ | (refine splice_full qLg2 ?_; refine hS _ _ _ ?_)
        clear hS
        refine d_nil ?_
        refine hK23 _ _ _ ?_
        refine WB_done (by kernel_rfl) ?_
        refine Done_some [] (fun i => if i = 0 then 2 else if i = 1 then 3 else if i = 2 then 6 else if i = 3 then 5 else 4) () trivial ⟨?_, ?_, (by decide : List.Nodup ([2, 3, 6, 5, 4] : List Nat)), ?_, ?_, ⟨Nat.zero_le _, fun i hi => absurd hi (Nat.not_lt_zero i)⟩⟩
        ·exact uLg1
        ·exact uLg1
        ·exact uLg1
        ·exact uLg1
    ·refine WB_force g9_ok rfl rfl (by decide) rfl fun _ hS => ?_
     repeat refine And.intro qLg2 ?_
     refine hS _ _ _ ?_
     clear hS
     refine WB_all [3, 8, 9] (by kernel_rfl) (by decide) (List.forall_mem_cons.2 ⟨?_, List.forall_mem_cons.2 ⟨?_, List.forall_mem_cons.2 ⟨?_, fun _ h => by cases h⟩⟩⟩)
     ·refine WB_force g9_ok rfl rfl (by decide) rfl fun _ hS => ?_
      repeat refine And.intro qLg2 ?_
      refine hS _ _ _ ?_
      clear hS
      refine WB_all [8, 9] (by kernel_rfl) (by decide) (List.forall_mem_cons.2 ⟨?_, List.forall_mem_cons.2 ⟨?_, fun _ h => by cases h⟩⟩)
      ·refine WB_force g9_ok rfl rfl (by decide) rfl fun _ hS => ?_
       repeat refine And.intro qLg2 ?_
       refine hS _ _ _ ?_
       clear hS
       refine WB_run g9_ok (g := 0) (by kernel_rfl) [(9, false), (10, false), (11, false)] (by kernel_rfl) fun _ hK24 => ?_
       refine d_grow rfl rfl (by decide) rfl fun _ hS => ?_
       repeat refine And.intro qLg2 ?_
       refine hS _ _ _ ?_
       clear hS
       refine d_grow0 rfl rfl rfl fun _ hS => ?_
       repeat refine And.intro qLg2 ?_
       first | refine hS _ _ _ ?_ | (refine splice_full qLg2 ?_; refine hS _ _ _ ?_)
       clear hS
       refine d_grow0 rfl rfl rfl fun _ hS => ?_
       repeat refine And.intro qLg2 ?_
       first | refine hS _ _ _ ?_ | (refine splice_full qLg2 ?_; refine hS _ _ _ ?_)
       clear hS
       refine d_nil ?_
       refine hK24 _ _ _ ?_
       refine WB_done (by kernel_rfl) ?_
       refine Done_some [] (fun i => if i = 0 then 2 else if i = 1 then 4 else if i = 2 then 3 else if i = 3 then 5 else 6) () trivial ⟨?_, ?_, (by decide : List.Nodup ([2, 4, 3, 5, 6] : List Nat)), ?_, ?_, ⟨Nat.zero_le _, fun i hi => absurd hi (Nat.not_lt_zero i)⟩⟩
       ·exact uLg1
       ·exact uLg1
       ·exact uLg1
       ·exact uLg1
      ·refine WB_force g9_ok rfl rfl (by decide) rfl fun _ hS => ?_
       repeat refine And.intro qLg2 ?_
       refine hS _ _ _ ?_
       clear hS
       refine WB_run g9_ok (g := 0) (by kernel_rfl) [(8, false), (10, false), (11, false)] (by kernel_rfl) fun _ hK25 => ?_
       refine d_grow rfl rfl (by decide) rfl fun _ hS => ?_
       repeat refine And.intro qLg2 ?_
       refine hS _ _ _ ?_
       clear hS
       refine d_grow0 rfl rfl rfl fun _ hS => ?_
       repeat refine And.intro qLg2 ?_
       first | refine hS _ _ _ ?_ | (refine splice_full qLg2 ?_; refine hS _ _ _ ?_)
       clear hS
       refine d_grow0 rfl rfl rfl fun _ hS => ?_
       repeat refine And.intro qLg2 ?_
       first | refine hS _ _ _ ?_ | (refine splice_full qLg2 ?_; refine hS _ _ _ ?_)
       clear hS
       refine d_nil ?_
       refine hK25 _ _ _ ?_
       refine WB_done (by kernel_rfl) ?_
       refine Done_some [] (fun i => if i = 0 then 2 else if i = 1 then 4 else if i = 2 then 3 else if i = 3 then 6 else 5) () trivial ⟨?_, ?_, (by decide : List.Nodup ([2, 4, 3, 6, 5] : List Nat)), ?_, ?_, ⟨Nat.zero_le _, fun i hi => absurd hi (Nat.not_lt_zero i)⟩⟩
       ·exact uLg1
       ·exact uLg1
       ·exact uLg1
       ·exact uLg1
     ·refine WB_force g9_ok rfl rfl (by decide) rfl fun _ hS => ?_
      repeat refine And.intro qLg2 ?_
      refine hS _ _ _ ?_
      clear hS
      refine WB_all [3, 9] (by kernel_rfl) (by decide) (List.forall_mem_cons.2 ⟨?_, List.forall_mem_cons.2 ⟨?_, fun _ h => by cases h⟩⟩)
      ·refine WB_force g9_ok rfl rfl (by decide) rfl fun _ hS => ?_
       repeat refine And.intro qLg2 ?_
       refine hS _ _ _ ?_
       clear hS
       refine WB_run g9_ok (g := 0) (by kernel_rfl) [(9, false), (10, false), (11, false)] (by kernel_rfl) fun _ hK26 => ?_
       refine d_grow rfl rfl (by decide) rfl fun _ hS => ?_
       repeat refine And.intro qLg2 ?_
       refine hS _ _ _ ?_
       clear hS
       refine d_grow0 rfl rfl rfl fun _ hS => ?_
       repeat refine And.intro qLg2 ?_
       first | refine hS _ _ _ ?_ | (refine splice_full qLg2 ?_; refine hS _ _ _ ?_)
       clear hS
       refine d_grow0 rfl rfl rfl fun _ hS => ?_
       repeat refine And.intro qLg2 ?_
       first | refine hS _ _ _ ?_ | (refine splice_full qLg2 ?_; refine hS _ _ _ ?_)
       clear hS
       refine d_nil ?_
       refine hK26 _ _ _ ?_
       refine WB_done (by kernel_rfl) ?_
       refine Done_some [] (fun i => if i = 0 then 2 else if i = 1 then 5 else if i = 2 then 3 else if i = 3 then 4 else 6) () trivial ⟨?_, ?_, (by decide : List.Nodup ([2, 5, 3, 4, 6] : List Nat)), ?_, ?_, ⟨Nat.zero_le _, fun i hi => absurd hi (Nat.not_lt_zero i)⟩⟩
       ·exact uLg1
       ·exact uLg1
       ·exact uLg1
       ·exact uLg1
      ·refine WB_force g9_ok rfl rfl (by decide) rfl fun _ hS => ?_
       repeat refine And.intro qLg2 ?_
       refine hS _ _ _ ?_
       clear hS
       refine WB_run g9_ok (g := 0) (by kernel_rfl) [(3, false), (10, false), (11, false)] (by kernel_rfl) fun _ hK27 => ?_
       refine d_grow rfl rfl (by decide) rfl fun _ hS => ?_
       repeat refine And.intro qLg2 ?_
       refine hS _ _ _ ?_
       clear hS
       refine d_grow0 rfl rfl rfl fun _ hS => ?_
       repeat refine And.intro qLg2 ?_
       first | refine hS _ _ _ ?_ | (refine splice_full qLg2 ?_; refine hS _ _ _ ?_)
       clear hS
       refine d_grow0 rfl rfl rfl fun _ hS => ?_
       repeat refine And.intro qLg2 ?_
       first | refine hS _ _ _ ?_ | (refine splice_full qLg2 ?_; refine hS _ _ _ ?_)
       clear hS
       refine d_nil ?_
       refine hK27 _ _ _ ?_
       refine WB_done (by kernel_rfl) ?_
       refine Done_some [] (fun i => if i = 0 then 2 else if i = 1 then 6 else if i = 2 then 3 else if i = 3 then 4 else 5) () trivial ⟨?_, ?_, (by decide : List.Nodup ([2, 6, 3, 4, 5] : List Nat)), ?_, ?_, ⟨Nat.zero_le _, fun i hi => absurd hi (Nat.not_lt_zero i)⟩⟩
       ·exact uLg1
       ·exact uLg1
       ·exact uLg1
       ·exact uLg1
     ·refine WB_force g9_ok rfl rfl (by decide) rfl fun _ hS => ?_
      repeat refine And.intro qLg2 ?_
      refine hS _ _ _ ?_
      clear hS
      refine WB_all [3, 8] (by kernel_rfl) (by decide) (List.forall_mem_cons.2 ⟨?_, List.forall_mem_cons.2 ⟨?_, fun _ h => by cases h⟩⟩)
      ·refine WB_force g9_ok rfl rfl (by decide) rfl fun _ hS => ?_
       repeat refine And.intro qLg2 ?_
       refine hS _ _ _ ?_
       clear hS
       refine WB_run g9_ok (g := 0) (by kernel_rfl) [(8, false), (10, false), (11, false)] (by kernel_rfl) fun _ hK28 => ?_
       refine d_grow rfl rfl (by decide) rfl fun _ hS => ?_
       repeat refine And.intro qLg2 ?_
       refine hS _ _ _ ?_
       clear hS
       refine d_grow0 rfl rfl rfl fun _ hS => ?_
       repeat refine And.intro qLg2 ?_
       first | refine hS _ _ _ ?_ | (refine splice_full qLg2 ?_; refine hS _ _ _ ?_)
       clear hS
       refine d_grow0 rfl rfl rfl fun _ hS => ?_
       repeat refine And.intro qLg2 ?_
       first | refine hS _ _ _ ?_ | (refine splice_full qLg2 ?_; refine hS _ _ _ ?_)
       clear hS
       refine d_nil ?_
       refine hK28 _ _ _ ?_
       refine WB_done (by kernel_rfl) ?_
       refine Done_some [] (fun i => if i = 0 then 2 else if i = 1 then 5 else if i = 2 then 3 else if i = 3 then 6 else 4) () trivial ⟨?_, ?_, (by decide : List.Nodup ([2, 5, 3, 6, 4] : List Nat)), ?_, ?_, ⟨Nat.zero_le _, fun i hi => absurd hi (Nat.not_lt_zero i)⟩⟩
       ·exact uLg1
       ·exact uLg1
       ·exact uLg1
       ·exact uLg1
      ·refine WB_force g9_ok rfl rfl (by decide) rfl fun _ hS => ?_
       repeat refine And.intro qLg2 ?_
       refine hS _ _ _ ?_
       clear hS
       refine WB_run g9_ok (g := 0) (by kernel_rfl) [(3, false), (10, false), (11, false)] (by kernel_rfl) fun _ hK29 => ?_
       refine d_grow rfl rfl (by decide) rfl fun _ hS => ?_
       repeat refine And.intro qLg2 ?_
       refine hS _ _ _ ?_
       clear hS
       refine d_grow0 rfl rfl rfl fun _ hS => ?_
       repeat refine And.intro qLg2 ?_
       first | refine hS _ _ _ ?_ | (refine splice_full qLg2 ?_; refine hS _ _ _ ?_)
       clear hS
       refine d_grow0 rfl rfl rfl fun _ hS => ?_
       repeat refine And.intro qLg2 ?_
       first | refine hS _ _ _ ?_ | (refine splice_full qLg2 ?_; refine hS _ _ _ ?_)
       clear hS
       refine d_nil ?_
       refine hK29 _ _ _ ?_
       refine WB_done (by kernel_rfl) ?_
       refine Done_some [] (fun i => if i = 0 then 2 else if i = 1 then 6 else if i = 2 then 3 else if i = 3 then 5 else 4) () trivial ⟨?_, ?_, (by decide : List.Nodup ([2, 6, 3, 5, 4] : List Nat)), ?_, ?_, ⟨Nat.zero_le _, fun i hi => absurd hi (Nat.not_lt_zero i)⟩⟩
       ·exact uLg1
       ·exact uLg1
       ·exact uLg1
       ·exact uLg1
    ·refine WB_force g9_ok rfl rfl (by decide) rfl fun _ hS => ?_
     repeat refine And.intro qLg2 ?_
     refine hS _ _ _ ?_
     clear hS
     refine WB_all [3, 7, 9] (by kernel_rfl) (by decide) (List.forall_mem_cons.2 ⟨?_, List.forall_mem_cons.2 ⟨?_, List.forall_mem_cons.2 ⟨?_, fun _ h => by cases h⟩⟩⟩)
     ·refine WB_force g9_ok rfl rfl (by decide) rfl fun _ hS => ?_
      repeat refine And.intro qLg2 ?_
      refine hS _ _ _ ?_
      clear hS
      refine WB_all [7, 9] (by kernel_rfl) (by decide) (List.forall_mem_cons.2 ⟨?_, List.forall_mem_cons.2 ⟨?_, fun _ h => by cases h⟩⟩)
      ·refine WB_force g9_ok rfl rfl (by decide) rfl fun _ hS => ?_
       repeat refine And.intro qLg2 ?_
       refine hS _ _ _ ?_
       clear hS
       refine WB_run g9_ok (g := 0) (by kernel_rfl) [(9, false), (10, false), (11, false)] (by kernel_rfl) fun _ hK30 => ?_
       refine d_grow rfl rfl (by decide) rfl fun _ hS => ?_
       repeat refine And.intro qLg2 ?_
       refine hS _ _ _ ?_
       clear hS
       refine d_grow0 rfl rfl rfl fun _ hS => ?_
       repeat refine And.intro qLg2 ?_
       first | refine hS _ _ _ ?_ | (refine splice_full qLg2 ?_; refine hS _ _ _ ?_)
       clear hS
       refine d_grow0 rfl rfl rfl fun _ hS => ?_
       repeat refine And.intro qLg2 ?_
       first | refine hS _ _ _ ?_ | (refine splice_full qLg2 ?_; refine hS _ _ _ ?_)
       clear hS
       refine d_nil ?_
       refine hK30 _ _ _ ?_
       refine WB_done (by kernel_rfl) ?_
       refine Done_some [] (fun i => if i = 0 then 2 else if i = 1 then 4 else if i = 2 then 5 else if i = 3 then 3 else 6) () trivial ⟨?_, ?_, (by decide : List.Nodup ([2, 4, 5, 3, 6] : List Nat)), ?_, ?_, ⟨Nat.zero_le _, fun i hi => absurd hi (Nat.not_lt_zero i)⟩⟩
       ·exact uLg1
       ·exact uLg1
       ·exact uLg1
       ·exact uLg1
      ·refine WB_force g9_ok rfl rfl (by decide) rfl fun _ hS => ?_
       repeat refine And.intro qLg2 ?_
       refine hS _ _ _ ?_
       clear hS
       refine WB_all [7, 10] (by kernel_rfl) (by decide) (List.forall_mem_cons.2 ⟨?_, List.forall_mem_cons.2 ⟨?_, fun _ h => by cases h⟩⟩)
       ·refine WB_force g9_ok rfl rfl (by decide) rfl fun _ hS => ?_
        repeat refine And.intro qLg2 ?_
        refine hS _ _ _ ?_
        clear hS
        refine WB_run g9_ok (g := 0) (by kernel_rfl) [(10, false), (11, false)] (by kernel_rfl) fun _ hK31 => ?_
        refine d_grow0 rfl rfl rfl fun _ hS => ?_
        repeat refine And.intro qLg2 ?_
        first | refine hS _ _ _ ?_ | (refine splice_full qLg2 ?_; refine hS _ _ _ ?_)
        clear hS
        refine d_grow0 rfl rfl rfl fun _ hS => ?_
        repeat refine And.intro qLg2 ?_
        first | refine hS _ _ _ ?_ | (refine splice_full qLg2 ?_; refine hS _ _ _ ?_)
        clear hS
        refine d_nil ?_
        refine hK31 _ _ _ ?_
        refine WB_done (by kernel_rfl) ?_
        refine Done_some [] (fun i => if i = 0 then 2 else if i = 1 then 4 else if i = 2 then 6 else if i = 3 then 3 else 5) () trivial ⟨?_, ?_, (by decide : List.Nodup ([2, 4, 6, 3, 5] : List Nat)), ?_, ?_, ⟨Nat.zero_le _, fun i hi => absurd hi (Nat.not_lt_zero i)⟩⟩
        ·exact uLg1
        ·exact uLg1
        ·exact uLg1
        ·exact uLg1
       ·refine WB_force0 g9_ok rfl rfl rfl fun _ hS => ?_
        repeat refine And.intro qLg2 ?_
        first | refine hS _ _ _ ?_ | (refine splice_full qLg2 ?_; refine hS _ _ _ ?_)
        clear hS
        refine WB_run g9_ok (g := 0) (by kernel_rfl) [(7, false), (11, false)] (by kernel_rfl) fun _ hK32 => ?_
        refine d_grow rfl rfl (by decide) rfl fun _ hS => ?_
        repeat refine And.intro qLg2 ?_
        refine hS _ _ _ ?_
        clear hS
        refine d_grow0 rfl rfl rfl fun _ hS => ?_
        repeat refine And.intro qLg2 ?_
        first | refine hS _ _ _ ?_ | (refine splice_full qLg2 ?_; refine hS _ _ _ ?_)
        clear hS
        refine d_nil ?_
        refine hK32 _ _ _ ?_
        refine WB_done (by kernel_rfl) ?_
        refine Done_some [] (fun i => if i = 0 then 2 else if i = 1 then 4 else if i = 2 then 6 else if i = 3 then 3 else 5) () trivial ⟨?_, ?_, (by decide : List.Nodup ([2, 4, 6, 3, 5] : List Nat)), ?_, ?_, ⟨Nat.zero_le _, fun i hi => absurd hi (Nat.not_lt_zero i)⟩⟩
        ·exact uLg1
        ·exact uLg1
        ·exact uLg1
        ·exact uLg1
     ·refine WB_force g9_ok rfl rfl (by decide) rfl fun _ hS => ?_
      repeat refine And.intro qLg2 ?_
      refine hS _ _ _ ?_
      clear hS
      refine WB_all [3, 9] (by kernel_rfl) (by decide) (List.forall_mem_cons.2 ⟨?_, List.forall_mem_cons.2 ⟨?_, fun _ h => by cases h⟩⟩)
      ·refine WB_force g9_ok rfl rfl (by decide) rfl fun _ hS => ?_
       repeat refine And.intro qLg2 ?_
       refine hS _ _ _ ?_
       clear hS
       refine WB_run g9_ok (g := 0) (by kernel_rfl) [(9, false), (10, false), (11, false)] (by kernel_rfl) fun _ hK33 => ?_
       refine d_grow rfl rfl (by decide) rfl fun _ hS => ?_
       repeat refine And.intro qLg2 ?_
       refine hS _ _ _ ?_
       clear hS
       refine d_grow0 rfl rfl rfl fun _ hS => ?_
       repeat refine And.intro qLg2 ?_
       first | refine hS _ _ _ ?_ | (refine splice_full qLg2 ?_; refine hS _ _ _ ?_)
       clear hS
       refine d_grow0 rfl rfl rfl fun _ hS => ?_
       repeat refine And.intro qLg2 ?_
       first | refine hS _ _ _ ?_ | (refine splice_full qLg2 ?_; refine hS _ _ _ ?_)
       clear hS
       refine d_nil ?_
       refine hK33 _ _ _ ?_
       refine WB_done (by kernel_rfl) ?_
       refine Done_some [] (fun i => if i = 0 then 2 else if i = 1 then 5 else if i = 2 then 4 else if i = 3 then 3 else 6) () trivial ⟨?_, ?_, (by decide : List.Nodup ([2, 5, 4, 3, 6] : List Nat)), ?_, ?_, ⟨Nat.zero_le _, fun i hi => absurd hi (Nat.not_lt_zero i)⟩⟩
       ·exact uLg1
       ·exact uLg1
       ·exact uLg1
       ·exact uLg1
      ·refine WB_force g9_ok rfl rfl (by decide) rfl fun _ hS => ?_
       repeat refine And.intro qLg2 ?_
       refine hS _ _ _ ?_
       clear hS
       refine WB_run g9_ok (g := 0) (by kernel_rfl) [(3, false), (10, false), (11, false)] (by kernel_rfl) fun _ hK34 => ?_
       refine d_grow rfl rfl (by decide) rfl fun _ hS => ?_
       repeat refine And.intro qLg2 ?_
       refine hS _ _ _ ?_
       clear hS
       refine d_grow0 rfl rfl rfl fun _ hS => ?_
       repeat refine And.intro qLg2 ?_
       first | refine hS _ _ _ ?_ | (refine splice_full qLg2 ?_; refine hS _ _ _ ?_)
       clear hS
       refine d_grow0 rfl rfl rfl fun _ hS => ?_
       repeat refine And.intro qLg2 ?_
       first | refine hS _ _ _ ?_ | (refine splice_full qLg2 ?_; refine hS _ _ _ ?_)
       clear hS
       refine d_nil ?_
       refine hK34 _ _ _ ?_
       refine WB_done (by kernel_rfl) ?_
       refine Done_some [] (fun i => if i = 0 then 2 else if i = 1 then 6 else if i = 2 then 4 else if i = 3 then 3 else 5) () trivial ⟨?_, ?_, (by decide : List.Nodup ([2, 6, 4, 3, 5] : List Nat)), ?_, ?_, ⟨Nat.zero_le _, fun i hi => absurd hi (Nat.not_lt_zero i)⟩⟩
       ·exact uLg1
       ·exact uLg1
       ·exact uLg1
       ·exact uLg1
     ·refine WB_force g9_ok rfl rfl (by decide) rfl fun _ hS => ?_
      repeat refine And.intro qLg2 ?_
      refine hS _ _ _ ?_
      clear hS
      refine WB_all [3, 7] (by kernel_rfl) (by decide) (List.forall_mem_cons.2 ⟨?_, List.forall_mem_cons.2 ⟨?_, fun _ h => by cases h⟩⟩)
      ·refine WB_force g9_ok rfl rfl (by decide) rfl fun _ hS => ?_
       repeat refine And.intro qLg2 ?_
       refine hS _ _ _ ?_
       clear hS
       refine WB_all [7, 10] (by kernel_rfl) (by decide) (List.forall_mem_cons.2 ⟨?_, List.forall_mem_cons.2 ⟨?_, fun _ h => by cases h⟩⟩)
       ·refine WB_force g9_ok rfl rfl (by decide) rfl fun _ hS => ?_
        repeat refine And.intro qLg2 ?_
        refine hS _ _ _ ?_
        clear hS
        refine WB_run g9_ok (g := 0) (by kernel_rfl) [(10, false), (11, false)] (by kernel_rfl) fun _ hK35 => ?_
        refine d_grow0 rfl rfl rfl fun _ hS => ?_
        repeat refine And.intro qLg2 ?_
        first | refine hS _ _ _ ?_ | (refine splice_full qLg2 ?_; refine hS _ _ _ ?_)
        clear hS
        refine d_grow0 rfl rfl rfl fun _ hS => ?_
        repeat refine And.intro qLg2 ?_
        first | refine hS _ _ _ ?_ | (refine splice_full qLg2 ?_; refine hS _ _ _ ?_)
        clear hS
        refine d_nil ?_
        refine hK35 _ _ _ ?_
        refine WB_done (by kernel_rfl) ?_
        refine Done_some [] (fun i => if i = 0 then 2 else if i = 1 then 5 else if i = 2 then 6 else if i = 3 then 3 else 4) () trivial ⟨?_, ?_, (by decide : List.Nodup ([2, 5, 6, 3, 4] : List Nat)), ?_, ?_, ⟨Nat.zero_le _, fun i hi => absurd hi (Nat.not_lt_zero i)⟩⟩
        ·exact uLg1
        ·exact uLg1
        ·exact uLg1
        ·exact uLg1
       ·refine WB_force0 g9_ok rfl rfl rfl fun _ hS => ?_
        repeat refine And.intro qLg2 ?_
        first | refine hS _ _ _ ?_ | (refine splice_full qLg2 ?_; refine hS _ _ _ ?_)
        clear hS
        refine WB_run g9_ok (g := 0) (by kernel_rfl) [(7, false), (11, false)] (by kernel_rfl) fun _ hK36 => ?_
        refine d_grow rfl rfl (by decide) rfl fun _ hS => ?_
        repeat refine And.intro qLg2 ?_
        refine hS _ _ _ ?_
        clear hS
        refine d_grow0 rfl rfl rfl fun _ hS => ?_
        repeat refine And.intro qLg2 ?_
        first | refine hS _ _ _ ?_ | (refine splice_full qLg2 ?_; refine hS _ _ _ ?_)
        clear hS
        refine d_nil ?_
        refine hK36 _ _ _ ?_
        refine WB_done (by kernel_rfl) ?_
        refine Done_some [] (fun i => if i = 0 then 2 else if i = 1 then 5 else if i = 2 then 6 else if i = 3 then 3 else 4) () trivial ⟨?_, ?_, (by decide : List.Nodup ([2, 5, 6, 3, 4] : List Nat)), ?_, ?_, ⟨Nat.zero_le _, fun i hi => absurd hi (Nat.not_lt_zero i)⟩⟩
        ·exact uLg1
        ·exact uLg1
        ·exact uLg1
        ·exact uLg1
      ·refine WB_force g9_ok rfl rfl (by decide) rfl fun _ hS => ?_
       repeat refine And.intro qLg2 ?_
       refine hS _ _ _ ?_
       clear hS
       refine WB_run g9_ok (g := 0) (by kernel_rfl) [(3, false), (10, false), (11, false)] (by kernel_rfl) fun _ hK37 => ?_
       refine d_grow rfl rfl (by decide) rfl fun _ hS => ?_
       repeat refine And.intro qLg2 ?_
       refine hS _ _ _ ?_
       clear hS
       refine d_grow0 rfl rfl rfl fun _ hS => ?_
       repeat refine And.intro qLg2 ?_
       first | refine hS _ _ _ ?_ | (refine splice_full qLg2 ?_; refine hS _ _ _ ?_)
       clear hS
       refine d_grow0 rfl rfl rfl fun _ hS => ?_
       repeat refine And.intro qLg2 ?_
       first | refine hS _ _ _ ?_ | (refine splice_full qLg2 ?_; refine hS _ _ _ ?_)
       clear hS
       refine d_nil ?_
       refine hK37 _ _ _ ?_
       refine WB_done (by kernel_rfl) ?_
       refine Done_some [] (fun i => if i = 0 then 2 else if i = 1 then 6 else if i = 2 then 5 else if i = 3 then 3 else 4) () trivial ⟨?_, ?_, (by decide : List.Nodup ([2, 6, 5, 3, 4] : List Nat)), ?_, ?_, ⟨Nat.zero_le _, fun i hi => absurd hi (Nat.not_lt_zero i)⟩⟩
       ·exact uLg1
       ·exact uLg1
       ·exact uLg1
       ·exact uLg1
    ·refine WB_force g9_ok rfl rfl (by decide) rfl fun _ hS => ?_
     repeat refine And.intro qLg2 ?_
     refine hS _ _ _ ?_
     clear hS
     refine WB_all [3, 7, 8] (by kernel_rfl) (by decide) (List.forall_mem_cons.2 ⟨?_, List.forall_mem_cons.2 ⟨?_, List.forall_mem_cons.2 ⟨?_, fun _ h => by cases h⟩⟩⟩)
     ·refine WB_force g9_ok rfl rfl (by decide) rfl fun _ hS => ?_
      repeat refine And.intro qLg2 ?_
      refine hS _ _ _ ?_
      clear hS
      refine WB_all [7, 8] (by kernel_rfl) (by decide) (List.forall_mem_cons.2 ⟨?_, List.forall_mem_cons.2 ⟨?_, fun _ h => by cases h⟩⟩)
      ·refine WB_force g9_ok rfl rfl (by decide) rfl fun _ hS => ?_
       repeat refine And.intro qLg2 ?_
       refine hS _ _ _ ?_
       clear hS
       refine WB_run g9_ok (g := 0) (by kernel_rfl) [(8, false), (10, false), (11, false)] (by kernel_rfl) fun _ hK38 => ?_
       refine d_grow rfl rfl (by decide) rfl fun _ hS => ?_
       repeat refine And.intro qLg2 ?_
       refine hS _ _ _ ?_
       clear hS
       refine d_grow0 rfl rfl rfl fun _ hS => ?_
       repeat refine And.intro qLg2 ?_
       first | refine hS _ _ _ ?_ | (refine splice_full qLg2 ?_; refine hS _ _ _ ?_)
       clear hS
       refine d_grow0 rfl rfl rfl fun _ hS => ?_
       repeat refine And.intro qLg2 ?_
       first | refine hS _ _ _ ?_ | (refine splice_full qLg2 ?_; refine hS _ _ _ ?_)
       clear hS
       refine d_nil ?_
       refine hK38 _ _ _ ?_
       refine WB_done (by kernel_rfl) ?_
       refine Done_some [] (fun i => if i = 0 then 2 else if i = 1 then 4 else if i = 2 then 5 else if i = 3 then 6 else 3) () trivial ⟨?_, ?_, (by decide : List.Nodup ([2, 4, 5, 6, 3] : List Nat)), ?_, ?_, ⟨Nat.zero_le _, fun i hi => absurd hi (Nat.not_lt_zero i)⟩⟩
       ·exact uLg1
       ·exact uLg1
       ·exact uLg1
       ·exact uLg1
      ·refine WB_force g9_ok rfl rfl (by decide) rfl fun _ hS => ?_
       repeat refine And.intro qLg2 ?_
       refine hS _ _ _ ?_
       clear hS
       refine WB_all [7, 10] (by kernel_rfl) (by decide) (List.forall_mem_cons.2 ⟨?_, List.forall_mem_cons.2 ⟨?_, fun _ h => by cases h⟩⟩)
       ·refine WB_force g9_ok rfl rfl (by decide) rfl fun _ hS => ?_
        repeat refine And.intro qLg2 ?_
        refine hS _ _ _ ?_
        clear hS
        refine WB_run g9_ok (g := 0) (by kernel_rfl) [(10, false), (11, false)] (by kernel_rfl) fun _ hK39 => ?_
        refine d_grow0 rfl rfl rfl fun _ hS => ?_
        repeat refine And.intro qLg2 ?_
        first | refine hS _ _ _ ?_ | (refine splice_full qLg2 ?_; refine hS _ _ _ ?_)
        clear hS
        refine d_grow0 rfl rfl rfl fun _ hS => ?_
        repeat refine And.intro qLg2 ?_
        first | refine hS _ _ _ ?_ | (refine splice_full qLg2 ?_; refine hS _ _ _ ?_)
        clear hS
        refine d_nil ?_
        refine hK39 _ _ _ ?_
        refine WB_done (by kernel_rfl) ?_
        refine Done_some [] (fun i => if i = 0 then 2 else if i = 1 then 4 else if i = 2 then 6 else if i = 3 then 5 else 3) () trivial ⟨?_, ?_, (by decide : List.Nodup ([2, 4, 6, 5, 3] : List Nat)), ?_, ?_, ⟨Nat.zero_le _, fun i hi => absurd hi (Nat.not_lt_zero i)⟩⟩
        ·exact uLg1
        ·exact uLg1
        ·exact uLg1
        ·exact uLg1
       ·refine WB_force0 g9_ok rfl rfl rfl fun _ hS => ?_
        repeat refine And.intro qLg2 ?_
        first | refine hS _ _ _ ?_ | (refine splice_full qLg2 ?_; refine hS _ _ _ ?_)
        clear hS
        refine WB_run g9_ok (g := 0) (by kernel_rfl) [(7, false), (11, false)] (by kernel_rfl) fun _ hK40 => ?_
        refine d_grow rfl rfl (by decide) rfl fun _ hS => ?_
        repeat refine And.intro qLg2 ?_
        refine hS _ _ _ ?_
        clear hS
        refine d_grow0 rfl rfl rfl fun _ hS => ?_
        repeat refine And.intro qLg2 ?_
        first | refine hS _ _ _ ?_ | (refine splice_full qLg2 ?_; refine hS _ _ _ ?_)
        clear hS
        refine d_nil ?_
        refine hK40 _ _ _ ?_
        refine WB_done (by kernel_rfl) ?_
        refine Done_some [] (fun i => if i = 0 then 2 else if i = 1 then 4 else if i = 2 then 6 else if i = 3 then 5 else 3) () trivial ⟨?_, ?_, (by decide : List.Nodup ([2, 4, 6, 5, 3] : List Nat)), ?_, ?_, ⟨Nat.zero_le _, fun i hi => absurd hi (Nat.not_lt_zero i)⟩⟩
        ·exact uLg1
        ·exact uLg1
        ·exact uLg1
        ·exact uLg1
     ·refine WB_force g9_ok rfl rfl (by decide) rfl fun _ hS => ?_
      repeat refine And.intro qLg2 ?_
      refine hS _ _ _ ?_
      clear hS
      refine WB_all [3, 8] (by kernel_rfl) (by decide) (List.forall_mem_cons.2 ⟨?_, List.forall_mem_cons.2 ⟨?_, fun _ h => by cases h⟩⟩)
      ·refine WB_force g9_ok rfl rfl (by decide) rfl fun _ hS => ?_
       repeat refine And.intro qLg2 ?_
       refine hS _ _ _ ?_
       clear hS
       refine WB_run g9_ok (g := 0) (by kernel_rfl) [(8, false), (10, false), (11, false)] (by kernel_rfl) fun _ hK41 => ?_
       refine d_grow rfl rfl (by decide) rfl fun _ hS => ?_
       repeat refine And.intro qLg2 ?_
       refine hS _ _ _ ?_
       clear hS
       refine d_grow0 rfl rfl rfl fun _ hS => ?_
       repeat refine And.intro qLg2 ?_
       first | refine hS _ _ _ ?_ | (refine splice_full qLg2 ?_; refine hS _ _ _ ?_)
       clear hS
       refine d_grow0 rfl rfl rfl fun _ hS => ?_
       repeat refine And.intro qLg2 ?_
       first | refine hS _ _ _ ?_ | (refine splice_full qLg2 ?_; refine hS _ _ _ ?_)
       clear hS
       refine d_nil ?_
       refine hK41 _ _ _ ?_
       refine WB_done (by kernel_rfl) ?_
       refine Done_some [] (fun i => if i = 0 then 2 else if i = 1 then 5 else if i = 2 then 4 else if i = 3 then 6 else 3) () trivial ⟨?_, ?_, (by decide : List.Nodup ([2, 5, 4, 6, 3] : List Nat)), ?_, ?_, ⟨Nat.zero_le _, fun i hi => absurd hi (Nat.not_lt_zero i)⟩⟩
       ·exact uLg1
       ·exact uLg1
       ·exact uLg1
       ·exact uLg1
      ·refine WB_force g9_ok rfl rfl (by decide) rfl fun _ hS => ?_
       repeat refine And.intro qLg2 ?_
       refine hS _ _ _ ?_
       clear hS
       refine WB_run g9_ok (g := 0) (by kernel_rfl) [(3, false), (10, false), (11, false)] (by kernel_rfl) fun _ hK42 => ?_
       refine d_grow rfl rfl (by decide) rfl fun _ hS => ?_
       repeat refine And.intro qLg2 ?_
       refine hS _ _ _ ?_
       clear hS
       refine d_grow0 rfl rfl rfl fun _ hS => ?_
       repeat refine And.intro qLg2 ?_
       first | refine hS _ _ _ ?_ | (refine splice_full qLg2 ?_; refine hS _ _ _ ?_)
       clear hS
       refine d_grow0 rfl rfl rfl fun _ hS => ?_
       repeat refine And.intro qLg2 ?_
       first | refine hS _ _ _ ?_ | (refine splice_full qLg2 ?_; refine hS _ _ _ ?_)
       clear hS
       refine d_nil ?_
       refine hK42 _ _ _ ?_
       refine WB_done (by kernel_rfl) ?_
       refine Done_some [] (fun i => if i = 0 then 2 else if i = 1 then 6 else if i = 2 then 4 else if i = 3 then 5 else 3) () trivial ⟨?_, ?_, (by decide : List.Nodup ([2, 6, 4, 5, 3] : List Nat)), ?_, ?_, ⟨Nat.zero_le _, fun i hi => absurd hi (Nat.not_lt_zero i)⟩⟩
       ·exact uLg1
       ·exact uLg1
       ·exact uLg1
       ·exact uLg1
     ·refine WB_force g9_ok rfl rfl (by decide) rfl fun _ hS => ?_
      repeat refine And.intro qLg2 ?_
      refine hS _ _ _ ?_
      clear hS
      refine WB_all [3, 7] (by kernel_rfl) (by decide) (List.forall_mem_cons.2 ⟨?_, List.forall_mem_cons.2 ⟨?_, fun _ h => by cases h⟩⟩)
      ·refine WB_force g9_ok rfl rfl (by decide) rfl fun _ hS => ?_
       repeat refine And.intro qLg2 ?_
       refine hS _ _ _ ?_
       clear hS
       refine WB_all [7, 10] (by kernel_rfl) (by decide) (List.forall_mem_cons.2 ⟨?_, List.forall_mem_cons.2 ⟨?_, fun _ h => by cases h⟩⟩)
       ·refine WB_force g9_ok rfl rfl (by decide) rfl fun _ hS => ?_
        repeat refine And.intro qLg2 ?_
        refine hS _ _ _ ?_
        clear hS
        refine WB_run g9_ok (g := 0) (by kernel_rfl) [(10, false), (11, false)] (by kernel_rfl) fun _ hK43 => ?_
        refine d_grow0 rfl rfl rfl fun _ hS => ?_
        repeat refine And.intro qLg2 ?_
        first | refine hS _ _ _ ?_ | (refine splice_full qLg2 ?_; refine hS _ _ _ ?_)
        clear hS
        refine d_grow0 rfl rfl rfl fun _ hS => ?_
        repeat refine And.intro qLg2 ?_
        first | refine hS _ _ _ ?_ | (refine splice_full qLg2 ?_; refine hS _ _ _ ?_)
        clear hS
        refine d_nil ?_
        refine hK43 _ _ _ ?_
        refine WB_done (by kernel_rfl) ?_
        refine Done_some [] (fun i => if i = 0 then 2 else if i = 1 then 5 else if i = 2 then 6 else if i = 3 then 4 else 3) () trivial ⟨?_, ?_, (by decide : List.Nodup ([2, 5, 6, 4, 3] : List Nat)), ?_, ?_, ⟨Nat.zero_le _, fun i hi => absurd hi (Nat.not_lt_zero i)⟩⟩
        ·exact uLg1
        ·exact uLg1
        ·exact uLg1
        ·exact uLg1
       ·refine WB_force0 g9_ok rfl rfl rfl fun _ hS => ?_
        repeat refine And.intro qLg2 ?_
        first | refine hS _ _ _ ?_ | (refine splice_full qLg2 ?_; refine hS _ _ _ ?_)
        clear hS
        refine WB_run g9_ok (g := 0) (by kernel_rfl) [(7, false), (11, false)] (by kernel_rfl) fun _ hK44 => ?_
        refine d_grow rfl rfl (by decide) rfl fun _ hS => ?_
        repeat refine And.intro qLg2 ?_
        refine hS _ _ _ ?_
        clear hS
        refine d_grow0 rfl rfl rfl fun _ hS => ?_
        repeat refine And.intro qLg2 ?_
        first | refine hS _ _ _ ?_ | (refine splice_full qLg2 ?_; refine hS _ _ _ ?_)
        clear hS
        refine d_nil ?_
        refine hK44 _ _ _ ?_
        refine WB_done (by kernel_rfl) ?_
        refine Done_some [] (fun i => if i = 0 then 2 else if i = 1 then 5 else if i = 2 then 6 else if i = 3 then 4 else 3) () trivial ⟨?_, ?_, (by decide : List.Nodup ([2, 5, 6, 4, 3] : List Nat)), ?_, ?_, ⟨Nat.zero_le _, fun i hi => absurd hi (Nat.not_lt_zero i)⟩⟩
        ·exact uLg1
        ·exact uLg1
        ·exact uLg1
        ·exact uLg1
      ·refine WB_force g9_ok rfl rfl (by decide) rfl fun _ hS => ?_
       repeat refine And.intro qLg2 ?_
       refine hS _ _ _ ?_
       clear hS
       refine WB_run g9_ok (g := 0) (by kernel_rfl) [(3, false), (10, false), (11, false)] (by kernel_rfl) fun _ hK45 => ?_
       refine d_grow rfl rfl (by decide) rfl fun _ hS => ?_
       repeat refine And.intro qLg2 ?_
       refine hS _ _ _ ?_
       clear hS
       refine d_grow0 rfl rfl rfl fun _ hS => ?_
       repeat refine And.intro qLg2 ?_
       first | refine hS _ _ _ ?_ | (refine splice_full qLg2 ?_; refine hS _ _ _ ?_)
       clear hS
       refine d_grow0 rfl rfl rfl fun _ hS => ?_
       repeat refine And.intro qLg2 ?_
       first | refine hS _ _ _ ?_ | (refine splice_full qLg2 ?_; refine hS _ _ _ ?_)
       clear hS
       refine d_nil ?_
       refine hK45 _ _ _ ?_
       refine WB_done (by kernel_rfl) ?_
       refine Done_some [] (fun i => if i = 0 then 2 else if i = 1 then 6 else if i = 2 then 5 else if i = 3 then 4 else 3) () trivial ⟨?_, ?_, (by decide : List.Nodup ([2, 6, 5, 4, 3] : List Nat)), ?_, ?_, ⟨Nat.zero_le _, fun i hi => absurd hi (Nat.not_lt_zero i)⟩⟩
       ·exact uLg1
       ·exact uLg1
       ·exact uLg1
       ·exact uLg1
   ·intro _ _
    refine seq_k fun _ hK46 => ?_
    refine region_k g9_ok fun _ hK47 => ?_
    refine s_step rfl (by decide) rfl fun _ hS => ?_
    repeat refine And.intro qLg2 ?_
    refine hS _ _ _ ?_
    clear hS
    refine s_step rfl (by decide) rfl fun _ hS => ?_
    refine hS _ _ _ ?_
    clear hS
    refine s_nil ?_
    refine hK47 _ _ _ ?_
    refine hK46 _ _ _ ?_
    refine seq_k fun _ hK48 => ?_
    refine seq_k fun _ hK49 => ?_
    refine region_k g9_ok fun _ hK50 => ?_
    refine s_step rfl (by decide) rfl fun _ hS => ?_
    repeat refine And.intro qLg2 ?_
    refine hS _ _ _ ?_
    clear hS
    refine s_step rfl (by decide) rfl fun _ hS => ?_
    repeat refine And.intro qLg2 ?_
    first | refine hS _ _ _ ?_ | (refine whole_yes qLg2 ?_; refine hS _ _ _ ?_) | (refine whole_sub ?_; refine hS _ _ _ ?_)
    clear hS
    refine s_step rfl (by decide) rfl fun _ hS => ?_
    repeat refine And.intro qLg2 ?_
    refine hS _ _ _ ?_
    clear hS
    refine s_step rfl (by decide) rfl fun _ hS => ?_
    refine hS _ _ _ ?_
    clear hS
    refine s_nil ?_
    refine hK50 _ _ _ ?_
    refine hK49 _ _ _ ?_
    refine WP_block ?_
    refine WP_loop (α := Nat) (fun k => [(2, .c (.dp (lsC a b) 0)), (3, .c (.dp (lsC c d) 0)), (4, .c (.ptr 0 0)), (6, .c (.int .i64 (lcmL b.length d.length))), (7, .c (.int .i64 (sumH a b c d))), (8, .c (.ptr 3 0)), (9, .c (.ptr 4 0)), (10, .c (.clo 43 [.dp (lsC c d) 0])), (51, .c (.ds a.length (.bools a))), (52, .c (.int .i64 a.length)), (53, .c (.int .i64 k))]) (fun k => [(0, .own 24 (.cells [.nils, .nils]) 2), (1, .own 4 (.bools (shiftsL c d a 0 (List.replicate (sumN a b c d) false) k)) (sumN a b c d)), (2, .own 4 (.bools (List.replicate (sumN a b c d) false)) (sumN a b c d)), (3, .own 22 (.cells [.slice 1 0 (sumN a b c d) (sumN a b c d)]) 1), (4, .own 22 (.cells [.slice 2 0 (sumN a b c d) (sumN a b c d)]) 1)]) 5 (fun k => k ≤ a.length) (fun k => a.length - k) ?_ ?_
    ·refine Done_some [] id 0 (Nat.zero_le _) ⟨?_, ?_, (by decide : List.Nodup ([0, 1, 2, 3, 4] : List Nat)), ?_, ?_, ⟨Nat.zero_le _, fun i hi => absurd hi (Nat.not_lt_zero i)⟩⟩
     ·exact uLg1
     ·exact uLg1
     ·exact uLg1
     ·exact uLg1
    ·intro k hk
     refine seq_k fun _ hK51 => ?_
     refine region_k g9_ok fun _ hK52 => ?_
     refine s_step rfl (by decide) rfl fun _ hS => ?_
     repeat refine And.intro qLg2 ?_
     refine hS _ _ _ ?_
     clear hS
     refine s_nil ?_
     refine hK52 _ _ _ ?_
     refine hK51 _ _ _ ?_
     refine seq_k fun _ hK53 => ?_
     refine WP_cond (b := _) rfl (fun h_t54 => ?_) (fun h_t54 => ?_)
     ·try try simp only [decide_eq_true_eq] at h_t54
      refine WP_skip ?_
      refine hK53 _ _ _ ?_
      refine seq_k fun _ hK54 => ?_
      refine WP_block ?_
      refine seq_k fun _ hK55 => ?_
      have hka : k < a.length := by omega
      refine region_k g9_ok fun _ hK56 => ?_
      refine s_step rfl (by decide) rfl fun _ hS => ?_
      refine hS _ _ _ ?_
      clear hS
      refine s_step rfl (by decide) rfl fun _ hS => ?_
      repeat refine And.intro qLg2 ?_
      refine hS _ _ _ ?_
      clear hS
      refine s_step rfl (by decide) rfl fun _ hS => ?_
      repeat refine And.intro qLg2 ?_
      first | refine hS _ _ _ ?_ | (refine whole_yes qLg2 ?_; refine hS _ _ _ ?_) | (refine whole_sub ?_; refine hS _ _ _ ?_)
      clear hS
      refine s_step rfl (by decide) rfl fun _ hS => ?_
      refine hS _ _ _ ?_
      clear hS
      refine s_step rfl (by decide) rfl fun _ hS => ?_
      refine hS _ _ _ ?_
      clear hS
      refine s_nil ?_
      refine hK56 _ _ _ ?_
      refine hK55 _ _ _ ?_
      refine seq_k fun _ hK57 => ?_
      refine region_k g9_ok fun _ hK58 => ?_
      refine s_step rfl (by decide) rfl fun _ hS => ?_
      refine hS _ _ _ ?_
      clear hS
      refine s_nil ?_
      refine hK58 _ _ _ ?_
      refine hK57 _ _ _ ?_
      refine WP_cond (b := _) rfl (fun h_t58 => ?_) (fun h_t58 => ?_)
      ·have hbit : a.getD k false = true := by simpa using h_t58
       refine region_k g9_ok fun _ hK59 => ?_
       refine s_step rfl (by decide) rfl fun _ hS => ?_
       refine hS _ _ _ ?_
       clear hS
       refine s_step rfl (by decide) rfl fun _ hS => ?_
       repeat refine And.intro qLg2 ?_
       first | refine hS _ _ _ ?_ | (refine whole_yes qLg2 ?_; refine hS _ _ _ ?_) | (refine whole_sub ?_; refine hS _ _ _ ?_)
       clear hS
       refine s_step rfl (by decide) rfl fun _ hS => ?_
       refine hS _ _ _ ?_
       clear hS
       refine s_step rfl (by decide) rfl fun _ hS => ?_
       repeat first | refine And.intro qLg2 ?_ | refine whole_yes qLg2 ?_ | refine whole_sub ?_
       refine And.intro (And.intro rfl (And.intro (by simp; omega) (List.forall_mem_cons.2 ⟨trivial, List.forall_mem_cons.2 ⟨trivial, fun _ h => by cases h⟩⟩))) ?_
       refine ⟨c, d, (shiftsL c d a 0 (List.replicate (sumN a b c d) false) k), k, ⟨rfl, rfl, by simp, by rfl⟩, ⟨by omega, by omega, by omega, by simp; omega, by simp; omega⟩, ?_⟩
       repeat refine And.intro qLg2 ?_
       first | refine hS _ _ _ ?_ | (intro cap3 hcap3; refine hS _ _ _ ?_)
       clear hS
       refine s_nil ?_
       refine hK59 _ _ _ ?_
       refine done_block ?_
       refine hK54 _ _ _ ?_
       refine region_k g9_ok fun _ hK60 => ?_
       refine s_step rfl (by decide) rfl fun _ hS => ?_
       repeat refine And.intro qLg2 ?_
       refine hS _ _ _ ?_
       clear hS
       refine s_step rfl (by decide) rfl fun _ hS => ?_
       refine hS _ _ _ ?_
       clear hS
       refine s_nil ?_
       refine hK60 _ _ _ ?_
       refine Done_some [] id (k + 1) ⟨by omega, by omega⟩ ⟨?_, ?_, (by decide : List.Nodup ([0, 1, 2, 3, 4] : List Nat)), ?_, ?_, ⟨Nat.zero_le _, fun i hi => absurd hi (Nat.not_lt_zero i)⟩⟩
       ·exact uLg1
       ·exact uLg1
       ·exact uLg1
       ·exact uLg1
      ·have hbit : a.getD k false = false := by simpa using h_t58
       refine WP_skip ?_
       refine done_block ?_
       refine hK54 _ _ _ ?_
       refine region_k g9_ok fun _ hK61 => ?_
       refine s_step rfl (by decide) rfl fun _ hS => ?_
       repeat refine And.intro qLg2 ?_
       refine hS _ _ _ ?_
       clear hS
       refine s_step rfl (by decide) rfl fun _ hS => ?_
       refine hS _ _ _ ?_
       clear hS
       refine s_nil ?_
       refine hK61 _ _ _ ?_
       refine Done_some [] id (k + 1) ⟨by omega, by omega⟩ ⟨?_, ?_, (by decide : List.Nodup ([0, 1, 2, 3, 4] : List Nat)), ?_, ?_, ⟨Nat.zero_le _, fun i hi => absurd hi (Nat.not_lt_zero i)⟩⟩
       ·exact uLg1
       ·exact uLg1
       ·exact uLg1
       ·exact uLg1
     ·try try simp only [decide_eq_false_iff_not, Int.not_lt] at h_t54
      refine WP_exit ?_
      refine done_thenx ?_
      refine done_thenx ?_
      refine Done_hit ?_
      refine hK48 _ _ _ ?_
      refine seq_k fun _ hK62 => ?_
      refine seq_k fun _ hK63 => ?_
      refine region_k g9_ok fun _ hK64 => ?_
      refine s_step rfl (by decide) rfl fun _ hS => ?_
      repeat refine And.intro qLg2 ?_
      refine hS _ _ _ ?_
      clear hS
      refine s_step rfl (by decide) rfl fun _ hS => ?_
      repeat refine And.intro qLg2 ?_
      first | refine hS _ _ _ ?_ | (refine whole_yes qLg2 ?_; refine hS _ _ _ ?_) | (refine whole_sub ?_; refine hS _ _ _ ?_)
      clear hS
      refine s_step rfl (by decide) rfl fun _ hS => ?_
      repeat refine And.intro qLg2 ?_
      refine hS _ _ _ ?_
      clear hS
      refine s_step rfl (by decide) rfl fun _ hS => ?_
      refine hS _ _ _ ?_
      clear hS
      refine s_nil ?_
      refine hK64 _ _ _ ?_
      refine hK63 _ _ _ ?_
      refine WP_block ?_
      obtain rfl : k = a.length := by omega
      refine WP_loop (α := Nat) (fun k => [(2, .c (.dp (lsC a b) 0)), (3, .c (.dp (lsC c d) 0)), (4, .c (.ptr 0 0)), (6, .c (.int .i64 (lcmL b.length d.length))), (7, .c (.int .i64 (sumH a b c d))), (8, .c (.ptr 3 0)), (9, .c (.ptr 4 0)), (10, .c (.clo 43 [.dp (lsC c d) 0])), (65, .c (.ds b.length (.bools b))), (66, .c (.int .i64 b.length)), (67, .c (.int .i64 k))]) (fun k => [(0, .own 24 (.cells [.nils, .nils]) 2), (1, .own 4 (.bools (shiftsL c d a 0 (List.replicate (sumN a b c d) false) a.length)) (sumN a b c d)), (2, .own 4 (.bools (shiftsL c d b a.length (List.replicate (sumN a b c d) false) k)) (sumN a b c d)), (3, .own 22 (.cells [.slice 1 0 (sumN a b c d) (sumN a b c d)]) 1), (4, .own 22 (.cells [.slice 2 0 (sumN a b c d) (sumN a b c d)]) 1)]) 5 (fun k => k ≤ b.length) (fun k => b.length - k) ?_ ?_
      ·refine Done_some [] id 0 (Nat.zero_le _) ⟨?_, ?_, (by decide : List.Nodup ([0, 1, 2, 3, 4] : List Nat)), ?_, ?_, ⟨Nat.zero_le _, fun i hi => absurd hi (Nat.not_lt_zero i)⟩⟩
       ·exact uLg1
       ·exact uLg1
       ·exact uLg1
       ·exact uLg1
      ·intro k hk
       refine seq_k fun _ hK65 => ?_
       refine region_k g9_ok fun _ hK66 => ?_
       refine s_step rfl (by decide) rfl fun _ hS => ?_
       repeat refine And.intro qLg2 ?_
       refine hS _ _ _ ?_
       clear hS
       refine s_nil ?_
       refine hK66 _ _ _ ?_
       refine hK65 _ _ _ ?_
       refine seq_k fun _ hK67 => ?_
       refine WP_cond (b := _) rfl (fun h_t68 => ?_) (fun h_t68 => ?_)
       ·try try simp only [decide_eq_true_eq] at h_t68
        refine WP_skip ?_
        refine hK67 _ _ _ ?_
        refine seq_k fun _ hK68 => ?_
        refine WP_block ?_
        refine seq_k fun _ hK69 => ?_
        have hkb : k < b.length := by omega
        refine region_k g9_ok fun _ hK70 => ?_
        refine s_step rfl (by decide) rfl fun _ hS => ?_
        refine hS _ _ _ ?_
        clear hS
        refine s_step rfl (by decide) rfl fun _ hS => ?_
        repeat refine And.intro qLg2 ?_
        refine hS _ _ _ ?_
        clear hS
        refine s_step rfl (by decide) rfl fun _ hS => ?_
        repeat refine And.intro qLg2 ?_
        first | refine hS _ _ _ ?_ | (refine whole_yes qLg2 ?_; refine hS _ _ _ ?_) | (refine whole_sub ?_; refine hS _ _ _ ?_)
        clear hS
        refine s_step rfl (by decide) rfl fun _ hS => ?_
        refine hS _ _ _ ?_
        clear hS
        refine s_step rfl (by decide) rfl fun _ hS => ?_
        refine hS _ _ _ ?_
        clear hS
        refine s_nil ?_
        refine hK70 _ _ _ ?_
        refine hK69 _ _ _ ?_
        refine seq_k fun _ hK71 => ?_
        refine region_k g9_ok fun _ hK72 => ?_
        refine s_step rfl (by decide) rfl fun _ hS => ?_
        refine hS _ _ _ ?_
        clear hS
        refine s_nil ?_
        refine hK72 _ _ _ ?_
        refine hK71 _ _ _ ?_
        refine WP_cond (b := _) rfl (fun h_t72 => ?_) (fun h_t72 => ?_)
        ·have hbit : b.getD k false = true := by simpa using h_t72
         refine region_k g9_ok fun _ hK73 => ?_
         refine s_step rfl (by decide) rfl fun _ hS => ?_
         refine hS _ _ _ ?_
         clear hS
         refine s_step rfl (by decide) rfl fun _ hS => ?_
         repeat refine And.intro qLg2 ?_
         first | refine hS _ _ _ ?_ | (refine whole_yes qLg2 ?_; refine hS _ _ _ ?_) | (refine whole_sub ?_; refine hS _ _ _ ?_)
         clear hS
         refine s_step rfl (by decide) rfl fun _ hS => ?_
         repeat refine And.intro qLg2 ?_
         refine hS _ _ _ ?_
         clear hS
         refine s_step rfl (by decide) rfl fun _ hS => ?_
         repeat refine And.intro qLg2 ?_
         first | refine hS _ _ _ ?_ | (refine whole_yes qLg2 ?_; refine hS _ _ _ ?_) | (refine whole_sub ?_; refine hS _ _ _ ?_)
         clear hS
         refine s_step rfl (by decide) rfl fun _ hS => ?_
         repeat refine And.intro qLg2 ?_
         refine hS _ _ _ ?_
         clear hS
         refine s_step rfl (by decide) rfl fun _ hS => ?_
         refine hS _ _ _ ?_
         clear hS
         refine s_step rfl (by decide) rfl fun _ hS => ?_
         repeat refine And.intro qLg2 ?_
         refine hS _ _ _ ?_
         clear hS
         refine s_step rfl (by decide) rfl fun _ hS => ?_
         repeat first | refine And.intro qLg2 ?_ | refine whole_yes qLg2 ?_ | refine whole_sub ?_
         refine And.intro (And.intro rfl (And.intro (by simp; omega) (List.forall_mem_cons.2 ⟨trivial, List.forall_mem_cons.2 ⟨trivial, fun _ h => by cases h⟩⟩))) ?_
         refine ⟨c, d, (shiftsL c d b a.length (List.replicate (sumN a b c d) false) k), a.length + k, ⟨rfl, rfl, by simp, by first | rfl | simp⟩, ⟨by omega, by omega, by omega, by simp; omega, by simp; omega⟩, ?_⟩
         repeat refine And.intro qLg2 ?_
         first | refine hS _ _ _ ?_ | (intro cap7 hcap7; refine hS _ _ _ ?_)
         clear hS
         refine s_nil ?_
         refine hK73 _ _ _ ?_
         refine done_block ?_
         refine hK68 _ _ _ ?_
         refine region_k g9_ok fun _ hK74 => ?_
         refine s_step rfl (by decide) rfl fun _ hS => ?_
         repeat refine And.intro qLg2 ?_
         refine hS _ _ _ ?_
         clear hS
         refine s_step rfl (by decide) rfl fun _ hS => ?_
         refine hS _ _ _ ?_
         clear hS
         refine s_nil ?_
         refine hK74 _ _ _ ?_
         refine Done_some [] id (k + 1) ⟨by omega, by omega⟩ ⟨?_, ?_, (by decide : List.Nodup ([0, 1, 2, 3, 4] : List Nat)), ?_, ?_, ⟨Nat.zero_le _, fun i hi => absurd hi (Nat.not_lt_zero i)⟩⟩
         ·exact uLg1
         ·exact uLg1
         ·exact uLg1
         ·exact uLg1
        ·have hbit : b.getD k false = false := by simpa using h_t72
         refine WP_skip ?_
         refine done_block ?_
         refine hK68 _ _ _ ?_
         refine region_k g9_ok fun _ hK75 => ?_
         refine s_step rfl (by decide) rfl fun _ hS => ?_
         repeat refine And.intro qLg2 ?_
         refine hS _ _ _ ?_
         clear hS
         refine s_step rfl (by decide) rfl fun _ hS => ?_
         refine hS _ _ _ ?_
         clear hS
         refine s_nil ?_
         refine hK75 _ _ _ ?_
         refine Done_some [] id (k + 1) ⟨by omega, by omega⟩ ⟨?_, ?_, (by decide : List.Nodup ([0, 1, 2, 3, 4] : List Nat)), ?_, ?_, ⟨Nat.zero_le _, fun i hi => absurd hi (Nat.not_lt_zero i)⟩⟩
         ·exact uLg1
         ·exact uLg1
         ·exact uLg1
         ·exact uLg1
       ·try try simp only [decide_eq_false_iff_not, Int.not_lt] at h_t68
        refine WP_exit ?_
        refine done_thenx ?_
        refine done_thenx ?_
        refine Done_hit ?_
        refine hK62 _ _ _ ?_
        refine seq_k fun _ hK76 => ?_
        refine seq_k fun _ hK77 => ?_
        refine region_k g9_ok fun _ hK78 => ?_
        refine s_step rfl (by decide) rfl fun _ hS => ?_
        repeat refine And.intro qLg2 ?_
        refine hS _ _ _ ?_
        clear hS
        refine s_step rfl (by decide) rfl fun _ hS => ?_
        repeat refine And.intro qLg2 ?_
        first | refine hS _ _ _ ?_ | (refine whole_yes qLg2 ?_; refine hS _ _ _ ?_) | (refine whole_sub ?_; refine hS _ _ _ ?_)
        clear hS
        refine s_step rfl (by decide) rfl fun _ hS => ?_
        repeat refine And.intro qLg2 ?_
        refine hS _ _ _ ?_
        clear hS
        refine s_step rfl (by decide) rfl fun _ hS => ?_
        refine hS _ _ _ ?_
        clear hS
        refine s_nil ?_
        refine hK78 _ _ _ ?_
        refine hK77 _ _ _ ?_
        refine WP_block ?_
        obtain rfl : k = b.length := by omega
        refine WP_loop (α := Nat) (fun k => [(2, .c (.dp (lsC a b) 0)), (3, .c (.dp (lsC c d) 0)), (4, .c (.ptr 0 0)), (6, .c (.int .i64 (lcmL b.length d.length))), (7, .c (.int .i64 (sumH a b c d))), (8, .c (.ptr 3 0)), (9, .c (.ptr 4 0)), (15, .c (.int .i64 ((b.length + k : Nat) : Int)))]) (fun k => [(0, .own 24 (.cells [.nils, .nils]) 2), (1, .own 4 (.bools (shiftsL c d a 0 (List.replicate (sumN a b c d) false) a.length)) (sumN a b c d)), (2, .own 4 (.bools (repL b.length (shiftsL c d b a.length (List.replicate (sumN a b c d) false) b.length) k)) (sumN a b c d)), (3, .own 22 (.cells [.slice 1 0 (sumN a b c d) (sumN a b c d)]) 1), (4, .own 22 (.cells [.slice 2 0 (sumN a b c d) (sumN a b c d)]) 1)]) 5 (fun k => b.length + k ≤ sumN a b c d) (fun k => sumN a b c d - (b.length + k)) ?_ ?_
        ·refine Done_some [] id 0 (by omega) ⟨?_, ?_, (by decide : List.Nodup ([0, 1, 2, 3, 4] : List Nat)), ?_, ?_, ⟨Nat.zero_le _, fun i hi => absurd hi (Nat.not_lt_zero i)⟩⟩
         ·exact uLg1
         ·exact uLg1
         ·exact uLg1
         ·exact uLg1
        ·intro k hk
         refine seq_k fun _ hK79 => ?_
         refine seq_k fun _ hK80 => ?_
         refine region_k g9_ok fun _ hK81 => ?_
         refine s_step rfl (by decide) rfl fun _ hS => ?_
         refine hS _ _ _ ?_
         clear hS
         refine s_step rfl (by decide) rfl fun _ hS => ?_
         repeat refine And.intro qLg2 ?_
         first | refine hS _ _ _ ?_ | (refine whole_yes qLg2 ?_; refine hS _ _ _ ?_) | (refine whole_sub ?_; refine hS _ _ _ ?_)
         clear hS
         refine s_step rfl (by decide) rfl fun _ hS => ?_
         repeat refine And.intro qLg2 ?_
         refine hS _ _ _ ?_
         clear hS
         refine s_step rfl (by decide) rfl fun _ hS => ?_
         repeat refine And.intro qLg2 ?_
         refine hS _ _ _ ?_
         clear hS
         refine s_nil ?_
         refine hK81 _ _ _ ?_
         refine hK80 _ _ _ ?_
         refine WP_cond (b := _) rfl (fun h_t88 => ?_) (fun h_t88 => ?_)
         ·try try simp only [decide_eq_true_eq] at h_t88
          refine WP_skip ?_
          refine hK79 _ _ _ ?_
          refine seq_k fun _ hK82 => ?_
          refine WP_block ?_
          have hkn : b.length + k < sumN a b c d := by omega
          have hi1 : 0 + (((b.length + k : Nat) : Int)).toNat * 1 = b.length + k := by omega
          have hi2 : 0 + (((b.length + k : Nat) : Int) - (b.length : Nat)).toNat * 1 = k := by omega
          refine sched_k g9_ok [(0, true), (1, true), (2, true), (3, true), (4, true), (5, true), (6, true), (7, true), (8, true), (9, true), (10, true), (11, true), (12, true), (13, true), (14, true), (15, true), (16, true), (17, false)] rfl (by kernel_rfl) (by kernel_rfl) fun _ hK83 => ?_
          refine d_read rfl rfl (by decide) rfl fun _ hS => ?_
          repeat refine And.intro qLg2 ?_
          first | refine hS _ ?_ | (refine whole_yes qLg2 ?_; refine hS _ ?_) | (refine whole_sub ?_; refine hS _ ?_)
          clear hS
          refine d_read rfl rfl (by decide) rfl fun _ hS => ?_
          refine hS _ ?_
          clear hS
          refine d_read rfl rfl (by decide) rfl fun _ hS => ?_
          repeat refine And.intro qLg2 ?_
          first | refine hS _ ?_ | (refine whole_yes qLg2 ?_; refine hS _ ?_) | (refine whole_sub ?_; refine hS _ ?_)
          clear hS
          refine d_read rfl rfl (by decide) rfl fun _ hS => ?_
          refine hS _ ?_
          clear hS
          refine d_read rfl rfl (by decide) rfl fun _ hS => ?_
          repeat refine And.intro qLg2 ?_
          refine hS _ ?_
          clear hS
          refine d_read rfl rfl (by decide) rfl fun _ hS => ?_
          repeat refine And.intro qLg2 ?_
          first | refine hS _ ?_ | (refine whole_yes qLg2 ?_; refine hS _ ?_) | (refine whole_sub ?_; refine hS _ ?_)
          clear hS
          refine d_read rfl rfl (by decide) rfl fun _ hS => ?_
          refine d_split hS (fun hb6 => ?_) (fun hb6 => ?_)
          ·clear hS
           try simp only [decide_eq_true_eq, decide_eq_false_iff_not, Int.not_lt, Int.not_le, Bool.not_eq_true', Bool.not_eq_false', Bool.not_eq_eq_eq_not, Bool.not_true, Bool.not_false, if_true, if_false, reduceIte, Bool.false_eq_true, Int.natCast_inj] at hb6
           refine d_readg (b := true) rfl rfl (by decide) rfl rfl (fun e => absurd e (by decide)) (fun _ => ?_)
           refine d_readg (b := true) rfl rfl (by decide) rfl rfl (fun e => absurd e (by decide)) (fun _ => ?_)
           refine d_readg (b := true) rfl rfl (by decide) rfl rfl (fun e => absurd e (by decide)) (fun _ => ?_)
           refine d_readg (b := true) rfl rfl (by decide) rfl rfl (fun e => absurd e (by decide)) (fun _ => ?_)
           refine d_readg (b := true) rfl rfl (by decide) rfl rfl (fun e => absurd e (by decide)) (fun _ => ?_)
           refine d_readg (b := true) rfl rfl (by decide) rfl rfl (fun e => absurd e (by decide)) (fun _ => ?_)
           refine d_readg (b := true) rfl rfl (by decide) rfl rfl (fun e => absurd e (by decide)) (fun _ => ?_)
           refine d_readg (b := true) rfl rfl (by decide) rfl rfl (fun e => absurd e (by decide)) (fun _ => ?_)
           refine d_read rfl rfl (by decide) rfl fun _ hS => ?_
           refine hS _ ?_
           clear hS
           refine d_read rfl rfl (by decide) rfl fun _ hS => ?_
           repeat refine And.intro qLg2 ?_
           refine hS _ ?_
           clear hS
           refine d_grow0 rfl rfl rfl fun _ hS => ?_
           repeat refine And.intro qLg2 ?_
           first | refine hS _ _ _ ?_ | (refine splice_full qLg2 ?_; refine hS _ _ _ ?_)
           clear hS
           refine d_nil ?_
           refine hK83 _ _ _ ?_
           first | (have hg : (repL b.length (shiftsL c d b a.length (List.replicate (sumN a b c d) false) b.length) k).getD (b.length + k) false = true := by rw [hi1] at hb6; exact hb6) | (have hg : (repL b.length (shiftsL c d b a.length (List.replicate (sumN a b c d) false) b.length) k).getD (b.length + k) false = false := by rw [hi1] at hb6; exact hb6)
           refine done_block ?_
           refine hK82 _ _ _ ?_
           refine region_k g9_ok fun _ hK84 => ?_
           refine s_step rfl (by decide) rfl fun _ hS => ?_
           refine hS _ _ _ ?_
           clear hS
           refine s_step rfl (by decide) rfl fun _ hS => ?_
           repeat refine And.intro qLg2 ?_
           refine hS _ _ _ ?_
           clear hS
           refine s_step rfl (by decide) rfl fun _ hS => ?_
           refine hS _ _ _ ?_
           clear hS
           refine s_nil ?_
           refine hK84 _ _ _ ?_
           refine Done_some [] id (k + 1) ⟨by omega, by omega⟩ ⟨?_, ?_, (by decide : List.Nodup ([0, 1, 2, 3, 4] : List Nat)), ?_, ?_, ⟨Nat.zero_le _, fun i hi => absurd hi (Nat.not_lt_zero i)⟩⟩
           ·exact uLg1
           ·exact uLg1
           ·exact uLg1
           ·exact uLg1
          ·clear hS
           try simp only [decide_eq_true_eq, decide_eq_false_iff_not, Int.not_lt, Int.not_le, Bool.not_eq_true', Bool.not_eq_false', Bool.not_eq_eq_eq_not, Bool.not_true, Bool.not_false, if_true, if_false, reduceIte, Bool.false_eq_true, Int.natCast_inj] at hb6
           refine d_readg (b := false) rfl rfl (by decide) rfl rfl (fun _ _ hS => ?_) (fun e => absurd e (by decide))
           repeat refine And.intro qLg2 ?_
           first | refine hS _ ?_ | (refine whole_yes qLg2 ?_; refine hS _ ?_) | (refine whole_sub ?_; refine hS _ ?_)
           clear hS
           refine d_readg (b := false) rfl rfl (by decide) rfl rfl (fun _ _ hS => ?_) (fun e => absurd e (by decide))
           refine hS _ ?_
           clear hS
           refine d_readg (b := false) rfl rfl (by decide) rfl rfl (fun _ _ hS => ?_) (fun e => absurd e (by decide))
           repeat refine And.intro qLg2 ?_
           refine hS _ ?_
           clear hS
           refine d_readg (b := false) rfl rfl (by decide) rfl rfl (fun _ _ hS => ?_) (fun e => absurd e (by decide))
           repeat refine And.intro qLg2 ?_
           first | refine hS _ ?_ | (refine whole_yes qLg2 ?_; refine hS _ ?_) | (refine whole_sub ?_; refine hS _ ?_)
           clear hS
           refine d_readg (b := false) rfl rfl (by decide) rfl rfl (fun _ _ hS => ?_) (fun e => absurd e (by decide))
           repeat refine And.intro qLg2 ?_
           refine hS _ ?_
           clear hS
           refine d_readg (b := false) rfl rfl (by decide) rfl rfl (fun _ _ hS => ?_) (fun e => absurd e (by decide))
           repeat refine And.intro qLg2 ?_
           refine hS _ ?_
           clear hS
           refine d_readg (b := false) rfl rfl (by decide) rfl rfl (fun _ _ hS => ?_) (fun e => absurd e (by decide))
           repeat refine And.intro qLg2 ?_
           refine hS _ ?_
           clear hS
           refine d_readg (b := false) rfl rfl (by decide) rfl rfl (fun _ _ hS => ?_) (fun e => absurd e (by decide))
           repeat refine And.intro qLg2 ?_
           first | refine hS _ ?_ | (refine whole_yes qLg2 ?_; refine hS _ ?_) | (refine whole_sub ?_; refine hS _ ?_)
           clear hS
           refine d_read rfl rfl (by decide) rfl fun _ hS => ?_
           refine hS _ ?_
           clear hS
           refine d_read rfl rfl (by decide) rfl fun _ hS => ?_
           repeat refine And.intro qLg2 ?_
           refine hS _ ?_
           clear hS
           refine d_grow0 rfl rfl rfl fun _ hS => ?_
           repeat refine And.intro qLg2 ?_
           first | refine hS _ _ _ ?_ | (refine splice_full qLg2 ?_; refine hS _ _ _ ?_)
           clear hS
           refine d_nil ?_
           refine hK83 _ _ _ ?_
           first | (have hg : (repL b.length (shiftsL c d b a.length (List.replicate (sumN a b c d) false) b.length) k).getD (b.length + k) false = true := by rw [hi1] at hb6; exact hb6) | (have hg : (repL b.length (shiftsL c d b a.length (List.replicate (sumN a b c d) false) b.length) k).getD (b.length + k) false = false := by rw [hi1] at hb6; exact hb6)
           refine done_block ?_
           refine hK82 _ _ _ ?_
           refine region_k g9_ok fun _ hK85 => ?_
           refine s_step rfl (by decide) rfl fun _ hS => ?_
           refine hS _ _ _ ?_
           clear hS
           refine s_step rfl (by decide) rfl fun _ hS => ?_
           repeat refine And.intro qLg2 ?_
           refine hS _ _ _ ?_
           clear hS
           refine s_step rfl (by decide) rfl fun _ hS => ?_
           refine hS _ _ _ ?_
           clear hS
           refine s_nil ?_
           refine hK85 _ _ _ ?_
           refine Done_some [] id (k + 1) ⟨by omega, by omega⟩ ⟨?_, ?_, (by decide : List.Nodup ([0, 1, 2, 3, 4] : List Nat)), ?_, ?_, ⟨Nat.zero_le _, fun i hi => absurd hi (Nat.not_lt_zero i)⟩⟩
           ·exact uLg1
           ·exact uLg1
           ·exact uLg1
           ·exact uLg1
         ·try try simp only [decide_eq_false_iff_not, Int.not_lt] at h_t88
          refine WP_exit ?_
          refine done_thenx ?_
          refine done_thenx ?_
          refine Done_hit ?_
          refine hK76 _ _ _ ?_
          refine seq_k fun _ hK86 => ?_
          have hkk : k = sumN a b c d - b.length := by omega
          subst hkk
          have e1 : (onceL a b c d).length = sumN a b c d := by simp [onceL]
          have e2 : (againL a b c d).length = sumN a b c d := by simp [againL]
          refine WP_le (is := [1, 2]) (ρ := id) (E' := [(4, .c (.ptr 0 0)), (6, .c (.int .i64 (lcmL b.length d.length))), (7, .c (.int .i64 (sumH a b c d))), (8, .c (.ptr 3 0)), (9, .c (.ptr 4 0))]) (H' := [(0, .own 24 (.cells [.nils, .nils]) 2), (3, .own 22 (.cells [.ds (onceL a b c d).length (.bools (onceL a b c d))]) 1), (4, .own 22 (.cells [.ds (againL a b c d).length (.bools (againL a b c d))]) 1)]) (n' := 5) ⟨?_, ?_, (by decide : List.Nodup ([0, 3, 4] : List Nat)), ?_, ?_, ⟨Nat.zero_le _, fun i hi => absurd hi (Nat.not_lt_zero i)⟩⟩ ?_
          ·exact uLg1
          ·repeat' (first | exact trivial | refine And.intro ?_ ?_ | rfl | omega | decide | (show (_ : Nat) < _; decide) | exact low_nil' | refine low_cons' ?_ ?_ | exact Nat.le_refl _ | exact Nat.succ_pos _)
           all_goals first | omega | (exact e1.symm) | (exact e2.symm) | (show sumN a b c d = _; omega) | (simp; done) | (simp; omega) | (rw [if_pos ⟨rfl, by simp⟩]; rfl) | skip
          ·exact uLg1
          ·exact uLg1
          refine WP_le (is := [3, 4]) (ρ := id) (E' := [(4, .c (.ptr 0 0)), (6, .c (.int .i64 (lcmL b.length d.length))), (7, .c (.int .i64 (sumH a b c d))), (8, .c (.dp (.cells [.ds (onceL a b c d).length (.bools (onceL a b c d))]) 0)), (9, .c (.dp (.cells [.ds (againL a b c d).length (.bools (againL a b c d))]) 0))]) (H' := [(0, .own 24 (.cells [.nils, .nils]) 2)]) (n' := 5) ⟨?_, ?_, (by decide : List.Nodup ([0] : List Nat)), ?_, ?_, ⟨Nat.zero_le _, fun i hi => absurd hi (Nat.not_lt_zero i)⟩⟩ ?_
          ·exact uLg1
          ·exact uLg1
          ·exact uLg1
          ·exact uLg1
          refine region_k g9_ok fun _ hK87 => ?_
          refine s_step rfl (by decide) rfl fun _ hS => ?_
          refine hS _ _ _ ?_
          clear hS
          refine s_step rfl (by decide) rfl fun _ hS => ?_
          refine hS _ _ _ ?_
          clear hS
          refine s_step rfl (by decide) rfl fun _ hS => ?_
          repeat refine And.intro qLg2 ?_
          refine hS _ _ _ ?_
          clear hS
          refine s_step rfl (by decide) rfl fun _ hS => ?_
          repeat first | refine And.intro qLg2 ?_ | refine whole_yes qLg2 ?_ | refine whole_sub ?_
          refine ⟨_, sumG a b c d, sumH a b c d, lcmL b.length d.length, rfl, ⟨by omega, by omega⟩, ⟨dataC_cons dataC_dp (dataC_cons dataC_dp dataC_nil), fun n hn => ⟨onceL a b c d, againL a b c d, n, rfl, ⟨by simp [onceL]; omega, by simp [againL]; omega, by simp [onceL]; omega⟩, rfl⟩⟩, ?_⟩
          repeat refine And.intro qLg2 ?_
          first | refine hS _ _ _ ?_ | (intro cap3 hcap3; refine hS _ _ _ ?_)
          clear hS
          refine s_step rfl (by decide) rfl fun _ hS => ?_
          repeat refine And.intro qLg2 ?_
          refine hS _ _ _ ?_
          clear hS
          refine s_step rfl (by decide) rfl fun _ hS => ?_
          repeat refine And.intro qLg2 ?_
          refine hS _ _ _ ?_
          clear hS
          refine s_step0 rfl rfl fun _ hS => ?_
          repeat refine And.intro qLg2 ?_
          first | refine hS _ _ _ ?_ | (refine splice_full qLg2 ?_; refine hS _ _ _ ?_)
          clear hS
          refine s_step rfl (by decide) rfl fun _ hS => ?_
          refine hS _ _ _ ?_
          clear hS
          refine s_nil ?_
          refine hK87 _ _ _ ?_
          refine hK86 _ _ _ ?_
          refine WP_ret (Done_data g9_ok (fun _ _ h => h) (low_outV) [] [.cell 4 24, .tmp 5] rfl ?_)
          rw [sumL, if_pos hv]
          repeat' (first | exact trivial | refine And.intro ?_ ?_ | rfl | omega | decide | (show (_ : Nat) < _; decide) | exact low_nil' | refine low_cons' ?_ ?_ | exact Nat.le_refl _ | exact Nat.succ_pos _)


end Go.Proofs.YtpfncffapgkjaaaDoor
