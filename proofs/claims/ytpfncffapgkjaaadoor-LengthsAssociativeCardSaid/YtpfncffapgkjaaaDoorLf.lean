/- The least members. -/
import Derived.Test.YtpfncffapgkjaaaDoorAb14
import Derived.Test.YtpfncffapgkjaaaDoorAb21
import Derived.Test.YtpfncffapgkjaaaDoorCtx
import Derived.Test.YtpfncffapgkjaaaDoorLa
import Derived.Test.YtpfncffapgkjaaaDoorLc
namespace Go.Proofs.YtpfncffapgkjaaaDoor
set_option linter.unusedVariables false
open Go.Ab Go.RowKit

theorem qLf0 {a : Prop} (h : a := by first | omega | exact trivial | rfl | (simp only [len_u8s, len_u32s, len_u64s, len_ints, len_bools, len_cells]; omega) | exact inR_i64.mpr ⟨by omega, by omega⟩ | (simp <;> omega) | (refine And.intro ?_ ?_ <;> exact trivial) | exact ⟨trivial, trivial, trivial⟩ | decide | (refine And.intro rfl ?_; (repeat first | exact trivial | refine And.intro rfl ?_); done) | exact Nat.succ_pos _ | exact Nat.le_refl _ | (refine And.intro trivial ?_; (repeat first | exact trivial | refine And.intro trivial ?_); done)) : a := h
theorem qLf1 {a : Prop} (h : a := by first | omega | exact trivial | rfl | (simp only [len_u8s, len_u32s, len_u64s, len_ints, len_bools, len_cells]; omega) | exact inR_i64.mpr ⟨by omega, by omega⟩ | (simp [maxI] <;> omega) | (refine And.intro ?_ ?_ <;> exact trivial) | exact ⟨trivial, trivial, trivial⟩ | decide | (refine And.intro rfl ?_; (repeat first | exact trivial | refine And.intro rfl ?_); done) | exact Nat.succ_pos _ | exact Nat.le_refl _ | (refine And.intro trivial ?_; (repeat first | exact trivial | refine And.intro trivial ?_); done)) : a := h
theorem qLf2 {a : Prop} (h : a := by first | omega | exact trivial | rfl | (simp only [len_u8s, len_u32s, len_u64s, len_ints, len_bools, len_cells]; omega) | exact inR_i64.mpr ⟨by omega, by omega⟩ | (simp [maxI, max0] <;> omega) | (rw [max0, maxI, inR_i64]; omega) | (refine And.intro ?_ ?_ <;> exact trivial) | exact ⟨trivial, trivial, trivial⟩ | decide | (refine And.intro rfl ?_; (repeat first | exact trivial | refine And.intro rfl ?_); done) | exact Nat.succ_pos _ | exact Nat.le_refl _ | (refine And.intro trivial ?_; (repeat first | exact trivial | refine And.intro trivial ?_); done)) : a := h

theorem uLf0 {a : Prop} (h : a := by
    repeat' (first | exact trivial | refine And.intro ?_ ?_ | rfl | omega | decide | (show (_ : Nat) < _; decide) | exact low_nil' | refine low_cons' ?_ ?_ | exact Nat.le_refl _ | exact Nat.succ_pos _)) : a := h

/-- The first number that passes a test, or -1. -/
def firstL (t : Nat → Bool) : Nat → Nat → Int
  | 0, _ => -1
  | k + 1, n => if t n then n else firstL t k (n + 1)
def leastL (h c : List Bool) (from_ : Int) : Int :=
  if (0 < c.length ∧ h.length + c.length ≤ 512) ∧ from_ ≤ 1099511627776 then firstL (atL h c) (max from_.toNat h.length + c.length - from_.toNat) from_.toNat else -1
noncomputable def g7 : Ctx := { P := Tryd.prog, ty := ty, glob := gl, fs := [(17, .flat validS), (18, .flat validRS), (34, .flat memberS), (37, .flat atRS)] }
theorem g7_ok : g7.OK := ⟨tyOK, ⟨⟨enters_mk Tryd.func17 (by kernel_rfl) rfl, valid_ok⟩, ⟨enters_mk Tryd.func18 (by kernel_rfl) rfl, validR_ok⟩, ⟨enters_mk Tryd.func34 (by kernel_rfl) rfl, member_ok⟩, ⟨enters_mk Tryd.func37 (by kernel_rfl) rfl, atR_ok⟩, trivial⟩, mixed⟩
@[simp] theorem g7_ty : g7.ty = ty := rfl

def leastS : QSpec := fun vs K => ∃ a b, ∃ m : Int, vs = [lsV a b, .c (.int .i64 m)] ∧ (a.length ≤ 9223372036854775807 ∧ b.length ≤ 9223372036854775807 ∧ -9223372036854775808 ≤ m ∧ m ≤ 9223372036854775807) ∧ K (.c (.int .i64 (leastL a b m)))
theorem least_ok : FlatOK Tryd.prog gl 21 leastS := by
 refine flat_of (Γ := g7) (N := 33) Tryd.func21 rfl rfl fun vs K h => ?_
 obtain ⟨a, b, m, rfl, ⟨hl1, hl2, hl3, hl4⟩, h⟩ := h
 refine ⟨_, h, rfl, by simp, fun w I => ?_⟩
 have maxI : ∀ x y : Nat, (if (x : Int) < y then (y : Int) else x) = ((max x y : Nat) : Int) := fun x y => by split <;> omega
 have max0 : ∀ x : Int, (if x < 0 then (0 : Int) else x) = ((x.toNat : Nat) : Int) := fun x => by split <;> omega
 refine seq_k fun _ hK1 => ?_
 refine region_k g7_ok fun _ hK2 => ?_
 refine s_step rfl (by decide) rfl fun _ hS => ?_
 repeat refine And.intro qLf0 ?_
 refine hS _ _ _ ?_
 clear hS
 refine s_step rfl (by decide) rfl fun _ hS => ?_
 refine hS _ _ _ ?_
 clear hS
 refine s_nil ?_
 refine hK2 _ _ _ ?_
 refine hK1 _ _ _ ?_
 refine seq_k fun _ hK3 => ?_
 refine seq_k fun _ hK4 => ?_
 refine region_k g7_ok fun _ hK5 => ?_
 refine s_step rfl (by decide) rfl fun _ hS => ?_
 repeat refine And.intro qLf0 ?_
 first | refine hS _ _ _ ?_ | (refine whole_yes qLf0 ?_; refine hS _ _ _ ?_) | (refine whole_sub ?_; refine hS _ _ _ ?_)
 clear hS
 refine s_step rfl (by decide) rfl fun _ hS => ?_
 repeat first | refine And.intro qLf0 ?_ | refine whole_yes qLf0 ?_ | refine whole_sub ?_
 refine ⟨a, b, rfl, ⟨hl1, hl2⟩, ?_⟩
 repeat refine And.intro qLf0 ?_
 first | refine hS _ _ _ ?_ | (intro cap1 hcap1; refine hS _ _ _ ?_)
 clear hS
 refine s_step rfl (by decide) rfl fun _ hS => ?_
 refine hS _ _ _ ?_
 clear hS
 refine s_step rfl (by decide) rfl fun _ hS => ?_
 refine s_split hS (fun hb3 => ?_) (fun hb3 => ?_)
 ·clear hS
  try simp only [decide_eq_false_iff_not, Bool.not_eq_eq_eq_not, Bool.not_true] at hb3
  refine s_guard (b := true) rfl (by decide) rfl rfl (fun e => absurd e (by decide)) (fun _ => ?_)
  refine s_guard (b := true) rfl (by decide) rfl rfl (fun e => absurd e (by decide)) (fun _ => ?_)
  refine s_step rfl (by decide) rfl fun _ hS => ?_
  refine hS _ _ _ ?_
  clear hS
  refine s_nil ?_
  refine hK5 _ _ _ ?_
  refine hK4 _ _ _ ?_
  refine WP_cond (b := _) rfl (fun _ => ?_) (fun h_t12 => ?_)
  rotate_left 1
  ·exfalso; simp at h_t12
  refine seq_k fun _ hK6 => ?_
  refine region_k g7_ok fun _ hK7 => ?_
  refine s_step rfl (by decide) rfl fun _ hS => ?_
  refine hS _ _ _ ?_
  clear hS
  refine s_nil ?_
  refine hK7 _ _ _ ?_
  refine hK6 _ _ _ ?_
  refine WP_ret (Done_flat g7_ok (fun _ _ h => h) (by first | rfl | assumption) [.tmp 4] rfl ?_)
  repeat refine And.intro (by first | omega | exact trivial | rfl | (simp <;> omega)) ?_
  try refine ite_yes (by first | omega | exact trivial | rfl | (simp <;> omega)) ?_
  show SV.c (.int .i64 _) = SV.c (.int .i64 _)
  congr 2
  rw [leastL, if_neg (fun hh => hb3 hh.1)]
 ·clear hS
  try simp only [decide_eq_true_eq, Bool.not_eq_eq_eq_not, Bool.not_false] at hb3
  refine s_guard (b := false) rfl (by decide) rfl rfl (fun _ _ hS => ?_) (fun e => absurd e (by decide))
  refine hS _ _ _ ?_
  clear hS
  refine s_guard (b := false) rfl (by decide) rfl rfl (fun _ _ hS => ?_) (fun e => absurd e (by decide))
  repeat refine And.intro qLf0 ?_
  refine hS _ _ _ ?_
  clear hS
  refine s_step rfl (by decide) rfl fun _ hS => ?_
  refine hS _ _ _ ?_
  clear hS
  refine s_nil ?_
  refine hK5 _ _ _ ?_
  refine hK4 _ _ _ ?_
  refine WP_cond (b := _) rfl (fun h_t12 => ?_) (fun h_t12 => ?_)
  ·try try simp only [decide_eq_true_eq, if_false, Bool.false_eq_true] at h_t12
   refine seq_k fun _ hK8 => ?_
   refine region_k g7_ok fun _ hK9 => ?_
   refine s_step rfl (by decide) rfl fun _ hS => ?_
   refine hS _ _ _ ?_
   clear hS
   refine s_nil ?_
   refine hK9 _ _ _ ?_
   refine hK8 _ _ _ ?_
   refine WP_ret (Done_flat g7_ok (fun _ _ h => h) (by first | rfl | assumption) [.tmp 4] rfl ?_)
   repeat refine And.intro (by first | omega | exact trivial | rfl | (simp <;> omega)) ?_
   try refine ite_yes (by first | omega | exact trivial | rfl | (simp <;> omega)) ?_
   show SV.c (.int .i64 _) = SV.c (.int .i64 _)
   congr 2
   rw [leastL, if_neg (fun hh => by omega)]
  ·try try simp only [decide_eq_false_iff_not, Int.not_lt, if_false, Bool.false_eq_true] at h_t12
   refine WP_skip ?_
   refine hK3 _ _ _ ?_
   refine seq_k fun _ hK10 => ?_
   refine region_k g7_ok fun _ hK11 => ?_
   refine s_step rfl (by decide) rfl fun _ hS => ?_
   refine hS _ _ _ ?_
   clear hS
   refine s_step rfl (by decide) rfl fun _ hS => ?_
   repeat refine And.intro qLf0 ?_
   refine hS _ _ _ ?_
   clear hS
   refine s_step rfl (by decide) rfl fun _ hS => ?_
   refine hS _ _ _ ?_
   clear hS
   refine s_nil ?_
   refine hK11 _ _ _ ?_
   refine hK10 _ _ _ ?_
   refine seq_k fun _ hK12 => ?_
   refine seq_k fun _ hK13 => ?_
   refine region_k g7_ok fun _ hK14 => ?_
   refine s_step rfl (by decide) rfl fun _ hS => ?_
   refine hS _ _ _ ?_
   clear hS
   refine s_step rfl (by decide) rfl fun _ hS => ?_
   refine hS _ _ _ ?_
   clear hS
   refine s_nil ?_
   refine hK14 _ _ _ ?_
   refine hK13 _ _ _ ?_
   refine WP_block ?_
   have hv : (0 < b.length ∧ a.length + b.length ≤ 512) ∧ m ≤ 1099511627776 := by first | omega | (simp at h_t12; omega)
   obtain ⟨L, hL⟩ : ∃ L, L = max m.toNat a.length + b.length - m.toNat := ⟨_, rfl⟩
   have hle : leastL a b m = firstL (atL a b) L m.toNat := by rw [leastL, if_pos hv, hL]
   refine WP_loop (α := Nat) (fun k => [(1, .c (.int .i64 m.toNat)), (2, .c (.ptr 0 0)), (5, .c (.int .i64 ((m.toNat + k : Nat) : Int)))]) (fun k => [(0, .own 24 (.cells [.ds a.length (.bools a), .ds b.length (.bools b)]) 2)]) 1 (fun k => k ≤ L ∧ firstL (atL a b) (L - k) (m.toNat + k) = firstL (atL a b) L m.toNat) (fun k => L - k) ?_ ?_
   ·refine Done_some [] id 0 ⟨Nat.zero_le _, rfl⟩ ⟨?_, ?_, (by decide : List.Nodup ([0] : List Nat)), ?_, ?_, ⟨Nat.zero_le _, fun i hi => absurd hi (Nat.not_lt_zero i)⟩⟩
    ·repeat' (first | exact trivial | refine And.intro ?_ ?_ | rfl | omega | decide | (show (_ : Nat) < _; decide) | exact low_nil' | refine low_cons' ?_ ?_ | exact Nat.le_refl _ | exact Nat.succ_pos _)
     all_goals first | exact max0 m | (simp; done) | (simp <;> omega)
    ·exact uLf0
    ·exact uLf0
    ·exact uLf0
   ·intro k hk
    refine seq_k fun _ hK15 => ?_
    refine seq_k fun _ hK16 => ?_
    refine region_k g7_ok fun _ hK17 => ?_
    refine s_step rfl (by decide) rfl fun _ hS => ?_
    refine hS _ _ _ ?_
    clear hS
    refine s_step rfl (by decide) rfl fun _ hS => ?_
    refine hS _ _ _ ?_
    clear hS
    refine s_step rfl (by decide) rfl fun _ hS => ?_
    repeat refine And.intro qLf1 ?_
    refine hS _ _ _ ?_
    clear hS
    refine s_step rfl (by decide) rfl fun _ hS => ?_
    repeat refine And.intro qLf1 ?_
    first | refine hS _ _ _ ?_ | (refine whole_yes qLf1 ?_; refine hS _ _ _ ?_) | (refine whole_sub ?_; refine hS _ _ _ ?_)
    clear hS
    refine s_step rfl (by decide) rfl fun _ hS => ?_
    repeat refine And.intro qLf1 ?_
    refine hS _ _ _ ?_
    clear hS
    refine s_step rfl (by decide) rfl fun _ hS => ?_
    repeat refine And.intro qLf1 ?_
    refine hS _ _ _ ?_
    clear hS
    refine s_step rfl (by decide) rfl fun _ hS => ?_
    repeat refine And.intro qLf1 ?_
    refine hS _ _ _ ?_
    clear hS
    refine s_step rfl (by decide) rfl fun _ hS => ?_
    repeat refine And.intro qLf1 ?_
    first | refine hS _ _ _ ?_ | (refine whole_yes qLf1 ?_; refine hS _ _ _ ?_) | (refine whole_sub ?_; refine hS _ _ _ ?_)
    clear hS
    refine s_step rfl (by decide) rfl fun _ hS => ?_
    repeat refine And.intro qLf1 ?_
    refine hS _ _ _ ?_
    clear hS
    refine s_step rfl (by decide) rfl fun _ hS => ?_
    repeat refine And.intro qLf1 ?_
    refine hS _ _ _ ?_
    clear hS
    refine s_step rfl (by decide) rfl fun _ hS => ?_
    repeat refine And.intro qLf1 ?_
    refine hS _ _ _ ?_
    clear hS
    refine s_nil ?_
    refine hK17 _ _ _ ?_
    refine hK16 _ _ _ ?_
    refine WP_cond (b := _) rfl (fun h_t26 => ?_) (fun h_t26 => ?_)
    ·try simp only [decide_eq_true_eq] at h_t26
     rw [maxI] at h_t26
     refine WP_skip ?_
     refine hK15 _ _ _ ?_
     refine seq_k fun _ hK18 => ?_
     refine WP_block ?_
     refine seq_k fun _ hK19 => ?_
     refine region_k g7_ok fun _ hK20 => ?_
     refine s_step rfl (by decide) rfl fun _ hS => ?_
     repeat refine And.intro qLf0 ?_
     first | refine hS _ _ _ ?_ | (refine whole_yes qLf0 ?_; refine hS _ _ _ ?_) | (refine whole_sub ?_; refine hS _ _ _ ?_)
     clear hS
     refine s_step rfl (by decide) rfl fun _ hS => ?_
     refine hS _ _ _ ?_
     clear hS
     refine s_step rfl (by decide) rfl fun _ hS => ?_
     repeat first | refine And.intro qLf0 ?_ | refine whole_yes qLf0 ?_ | refine whole_sub ?_
     refine ⟨a, b, m.toNat + k, rfl, ⟨by omega, hl1, hl2, by omega⟩, ?_⟩
     repeat refine And.intro qLf0 ?_
     first | refine hS _ _ _ ?_ | (intro cap2 hcap2; refine hS _ _ _ ?_)
     clear hS
     refine s_nil ?_
     refine hK20 _ _ _ ?_
     refine hK19 _ _ _ ?_
     refine WP_cond (b := _) rfl (fun h_t31 => ?_) (fun h_t31 => ?_)
     ·skip
      refine seq_k fun _ hK21 => ?_
      refine region_k g7_ok fun _ hK22 => ?_
      refine s_step rfl (by decide) rfl fun _ hS => ?_
      refine hS _ _ _ ?_
      clear hS
      refine s_step rfl (by decide) rfl fun _ hS => ?_
      refine hS _ _ _ ?_
      clear hS
      refine s_nil ?_
      refine hK22 _ _ _ ?_
      refine hK21 _ _ _ ?_
      refine WP_ret (Done_flat g7_ok (fun _ _ h => h) (by first | rfl | assumption) [.tmp 4] rfl ?_)
      repeat refine And.intro (by first | omega | exact trivial | rfl | (simp <;> omega)) ?_
      try refine ite_yes (by first | omega | exact trivial | rfl | (simp <;> omega)) ?_
      show SV.c (.int .i64 _) = SV.c (.int .i64 _)
      congr 2
      rw [hle, ← hk.2, show L - k = (L - k - 1) + 1 by omega, firstL, if_pos h_t31]
     ·skip
      refine WP_skip ?_
      refine done_block ?_
      refine hK18 _ _ _ ?_
      refine region_k g7_ok fun _ hK23 => ?_
      refine s_step rfl (by decide) rfl fun _ hS => ?_
      refine hS _ _ _ ?_
      clear hS
      refine s_step rfl (by decide) rfl fun _ hS => ?_
      repeat refine And.intro qLf0 ?_
      refine hS _ _ _ ?_
      clear hS
      refine s_step rfl (by decide) rfl fun _ hS => ?_
      refine hS _ _ _ ?_
      clear hS
      refine s_nil ?_
      refine hK23 _ _ _ ?_
      refine Done_some [] id (k + 1) ⟨⟨by omega, by rw [← hk.2, show L - k = (L - (k + 1)) + 1 by omega, firstL, if_neg (by simpa using h_t31)]; rfl⟩, by omega⟩ ⟨?_, ?_, (by decide : List.Nodup ([0] : List Nat)), ?_, ?_, ⟨Nat.zero_le _, fun i hi => absurd hi (Nat.not_lt_zero i)⟩⟩
      ·exact uLf0
      ·exact uLf0
      ·exact uLf0
      ·exact uLf0
    ·try simp only [decide_eq_false_iff_not, Int.not_lt] at h_t26
     rw [maxI] at h_t26
     refine WP_exit ?_
     refine done_thenx ?_
     refine done_thenx ?_
     refine Done_hit ?_
     refine hK12 _ _ _ ?_
     refine seq_k fun _ hK24 => ?_
     refine region_k g7_ok fun _ hK25 => ?_
     refine s_step rfl (by decide) rfl fun _ hS => ?_
     refine hS _ _ _ ?_
     clear hS
     refine s_nil ?_
     refine hK25 _ _ _ ?_
     refine hK24 _ _ _ ?_
     refine WP_ret (Done_flat g7_ok (fun _ _ h => h) (by first | rfl | assumption) [.tmp 4] rfl ?_)
     repeat refine And.intro (by first | omega | exact trivial | rfl | (simp <;> omega)) ?_
     try refine ite_yes (by first | omega | exact trivial | rfl | (simp <;> omega)) ?_
     show SV.c (.int .i64 _) = SV.c (.int .i64 _)
     congr 2
     rw [hle, ← hk.2, show L - k = 0 by omega]
     rfl

def leastRS : QSpec := fun vs K => ∃ a b, ∃ m : Int, vs = [lsV a b, .c (.int .i64 m)] ∧ (a.length ≤ 9223372036854775807 ∧ b.length ≤ 9223372036854775807 ∧ -9223372036854775808 ≤ m ∧ m ≤ 9223372036854775807) ∧ K (.c (.int .i64 (leastL a b m)))
theorem leastR_ok : FlatOK Tryd.prog gl 22 leastRS := by
 refine flat_of (Γ := g7) (N := 34) Tryd.func22 rfl rfl fun vs K h => ?_
 obtain ⟨a, b, m, rfl, ⟨hl1, hl2, hl3, hl4⟩, h⟩ := h
 refine ⟨_, h, rfl, by simp, fun w I => ?_⟩
 have maxI : ∀ x y : Nat, (if (x : Int) < y then (y : Int) else x) = ((max x y : Nat) : Int) := fun x y => by split <;> omega
 have max0 : ∀ x : Int, (if x < 0 then (0 : Int) else x) = ((x.toNat : Nat) : Int) := fun x => by split <;> omega
 refine seq_k fun _ hK1 => ?_
 refine region_k g7_ok fun _ hK2 => ?_
 refine s_step rfl (by decide) rfl fun _ hS => ?_
 repeat refine And.intro qLf0 ?_
 refine hS _ _ _ ?_
 clear hS
 refine s_step rfl (by decide) rfl fun _ hS => ?_
 refine hS _ _ _ ?_
 clear hS
 refine s_nil ?_
 refine hK2 _ _ _ ?_
 refine hK1 _ _ _ ?_
 refine seq_k fun _ hK3 => ?_
 refine seq_k fun _ hK4 => ?_
 refine region_k g7_ok fun _ hK5 => ?_
 refine s_step rfl (by decide) rfl fun _ hS => ?_
 repeat refine And.intro qLf0 ?_
 first | refine hS _ _ _ ?_ | (refine whole_yes qLf0 ?_; refine hS _ _ _ ?_) | (refine whole_sub ?_; refine hS _ _ _ ?_)
 clear hS
 refine s_step rfl (by decide) rfl fun _ hS => ?_
 repeat first | refine And.intro qLf0 ?_ | refine whole_yes qLf0 ?_ | refine whole_sub ?_
 refine ⟨a, b, rfl, ⟨hl1, hl2⟩, ?_⟩
 repeat refine And.intro qLf0 ?_
 first | refine hS _ _ _ ?_ | (intro cap1 hcap1; refine hS _ _ _ ?_)
 clear hS
 refine s_step rfl (by decide) rfl fun _ hS => ?_
 refine hS _ _ _ ?_
 clear hS
 refine s_step rfl (by decide) rfl fun _ hS => ?_
 refine s_split hS (fun hb3 => ?_) (fun hb3 => ?_)
 ·clear hS
  try simp only [decide_eq_false_iff_not, Bool.not_eq_eq_eq_not, Bool.not_true] at hb3
  refine s_guard (b := true) rfl (by decide) rfl rfl (fun e => absurd e (by decide)) (fun _ => ?_)
  refine s_guard (b := true) rfl (by decide) rfl rfl (fun e => absurd e (by decide)) (fun _ => ?_)
  refine s_step rfl (by decide) rfl fun _ hS => ?_
  refine hS _ _ _ ?_
  clear hS
  refine s_nil ?_
  refine hK5 _ _ _ ?_
  refine hK4 _ _ _ ?_
  refine WP_cond (b := _) rfl (fun _ => ?_) (fun h_t13 => ?_)
  rotate_left 1
  ·exfalso; simp at h_t13
  refine seq_k fun _ hK6 => ?_
  refine region_k g7_ok fun _ hK7 => ?_
  refine s_step rfl (by decide) rfl fun _ hS => ?_
  refine hS _ _ _ ?_
  clear hS
  refine s_nil ?_
  refine hK7 _ _ _ ?_
  refine hK6 _ _ _ ?_
  refine WP_ret (Done_flat g7_ok (fun _ _ h => h) (by first | rfl | assumption) [.tmp 4] rfl ?_)
  repeat refine And.intro (by first | omega | exact trivial | rfl | (simp <;> omega)) ?_
  try refine ite_yes (by first | omega | exact trivial | rfl | (simp <;> omega)) ?_
  show SV.c (.int .i64 _) = SV.c (.int .i64 _)
  congr 2
  rw [leastL, if_neg (fun hh => hb3 hh.1)]
 ·clear hS
  try simp only [decide_eq_true_eq, Bool.not_eq_eq_eq_not, Bool.not_false] at hb3
  refine s_guard (b := false) rfl (by decide) rfl rfl (fun _ _ hS => ?_) (fun e => absurd e (by decide))
  refine hS _ _ _ ?_
  clear hS
  refine s_guard (b := false) rfl (by decide) rfl rfl (fun _ _ hS => ?_) (fun e => absurd e (by decide))
  repeat refine And.intro qLf0 ?_
  refine hS _ _ _ ?_
  clear hS
  refine s_step rfl (by decide) rfl fun _ hS => ?_
  refine hS _ _ _ ?_
  clear hS
  refine s_nil ?_
  refine hK5 _ _ _ ?_
  refine hK4 _ _ _ ?_
  refine WP_cond (b := _) rfl (fun h_t13 => ?_) (fun h_t13 => ?_)
  ·try try simp only [decide_eq_true_eq, if_false, Bool.false_eq_true] at h_t13
   refine seq_k fun _ hK8 => ?_
   refine region_k g7_ok fun _ hK9 => ?_
   refine s_step rfl (by decide) rfl fun _ hS => ?_
   refine hS _ _ _ ?_
   clear hS
   refine s_nil ?_
   refine hK9 _ _ _ ?_
   refine hK8 _ _ _ ?_
   refine WP_ret (Done_flat g7_ok (fun _ _ h => h) (by first | rfl | assumption) [.tmp 4] rfl ?_)
   repeat refine And.intro (by first | omega | exact trivial | rfl | (simp <;> omega)) ?_
   try refine ite_yes (by first | omega | exact trivial | rfl | (simp <;> omega)) ?_
   show SV.c (.int .i64 _) = SV.c (.int .i64 _)
   congr 2
   rw [leastL, if_neg (fun hh => by omega)]
  ·try try simp only [decide_eq_false_iff_not, Int.not_lt, if_false, Bool.false_eq_true] at h_t13
   refine WP_skip ?_
   refine hK3 _ _ _ ?_
   refine seq_k fun _ hK10 => ?_
   refine region_k g7_ok fun _ hK11 => ?_
   refine s_step rfl (by decide) rfl fun _ hS => ?_
   refine hS _ _ _ ?_
   clear hS
   refine s_step rfl (by decide) rfl fun _ hS => ?_
   repeat refine And.intro qLf0 ?_
   refine hS _ _ _ ?_
   clear hS
   refine s_step rfl (by decide) rfl fun _ hS => ?_
   refine hS _ _ _ ?_
   clear hS
   refine s_nil ?_
   refine hK11 _ _ _ ?_
   refine hK10 _ _ _ ?_
   refine seq_k fun _ hK12 => ?_
   have hv : (0 < b.length ∧ a.length + b.length ≤ 512) ∧ m ≤ 1099511627776 := by first | omega | (simp at h_t13; omega)
   refine region_k g7_ok fun _ hK13 => ?_
   refine s_step rfl (by decide) rfl fun _ hS => ?_
   refine hS _ _ _ ?_
   clear hS
   refine s_step rfl (by decide) rfl fun _ hS => ?_
   repeat refine And.intro qLf2 ?_
   refine hS _ _ _ ?_
   clear hS
   refine s_step rfl (by decide) rfl fun _ hS => ?_
   repeat refine And.intro qLf2 ?_
   first | refine hS _ _ _ ?_ | (refine whole_yes qLf2 ?_; refine hS _ _ _ ?_) | (refine whole_sub ?_; refine hS _ _ _ ?_)
   clear hS
   refine s_step rfl (by decide) rfl fun _ hS => ?_
   repeat refine And.intro qLf2 ?_
   refine hS _ _ _ ?_
   clear hS
   refine s_step rfl (by decide) rfl fun _ hS => ?_
   repeat refine And.intro qLf2 ?_
   refine hS _ _ _ ?_
   clear hS
   refine s_step rfl (by decide) rfl fun _ hS => ?_
   repeat refine And.intro qLf2 ?_
   refine hS _ _ _ ?_
   clear hS
   refine s_step rfl (by decide) rfl fun _ hS => ?_
   repeat refine And.intro qLf2 ?_
   first | refine hS _ _ _ ?_ | (refine whole_yes qLf2 ?_; refine hS _ _ _ ?_) | (refine whole_sub ?_; refine hS _ _ _ ?_)
   clear hS
   refine s_step rfl (by decide) rfl fun _ hS => ?_
   repeat refine And.intro qLf2 ?_
   refine hS _ _ _ ?_
   clear hS
   refine s_step rfl (by decide) rfl fun _ hS => ?_
   repeat refine And.intro qLf2 ?_
   refine hS _ _ _ ?_
   clear hS
   refine s_step rfl (by decide) rfl fun _ hS => ?_
   refine hS _ _ _ ?_
   clear hS
   refine s_nil ?_
   refine hK13 _ _ _ ?_
   refine hK12 _ _ _ ?_
   refine seq_k fun _ hK14 => ?_
   refine WP_block ?_
   obtain ⟨L, hL⟩ : ∃ L, L = max m.toNat a.length + b.length - m.toNat := ⟨_, rfl⟩
   have hle : leastL a b m = firstL (atL a b) L m.toNat := by rw [leastL, if_pos hv, hL]
   refine WP_loop (α := Nat) (fun k => [(2, .c (.ptr 0 0)), (5, .c (.int .i64 ((m.toNat + k : Nat) : Int))), (6, .c (.int .i64 ((m.toNat + L : Nat) : Int)))]) (fun k => [(0, .own 24 (.cells [.ds a.length (.bools a), .ds b.length (.bools b)]) 2)]) 1 (fun k => k ≤ L ∧ firstL (atL a b) (L - k) (m.toNat + k) = firstL (atL a b) L m.toNat) (fun k => L - k) ?_ ?_
   ·refine Done_some [] id 0 ⟨Nat.zero_le _, rfl⟩ ⟨?_, ?_, (by decide : List.Nodup ([0] : List Nat)), ?_, ?_, ⟨Nat.zero_le _, fun i hi => absurd hi (Nat.not_lt_zero i)⟩⟩
    ·repeat' (first | exact trivial | refine And.intro ?_ ?_ | rfl | omega | decide | (show (_ : Nat) < _; decide) | exact low_nil' | refine low_cons' ?_ ?_ | exact Nat.le_refl _ | exact Nat.succ_pos _)
     all_goals first | exact max0 m | (rw [max0, maxI]; omega) | (simp; done) | (simp <;> omega)
    ·exact uLf0
    ·exact uLf0
    ·exact uLf0
   ·intro k hk
    refine seq_k fun _ hK15 => ?_
    refine seq_k fun _ hK16 => ?_
    refine region_k g7_ok fun _ hK17 => ?_
    refine s_step rfl (by decide) rfl fun _ hS => ?_
    refine hS _ _ _ ?_
    clear hS
    refine s_step rfl (by decide) rfl fun _ hS => ?_
    refine hS _ _ _ ?_
    clear hS
    refine s_step rfl (by decide) rfl fun _ hS => ?_
    repeat refine And.intro qLf0 ?_
    refine hS _ _ _ ?_
    clear hS
    refine s_nil ?_
    refine hK17 _ _ _ ?_
    refine hK16 _ _ _ ?_
    refine WP_cond (b := _) rfl (fun h_t27 => ?_) (fun h_t27 => ?_)
    ·try try simp only [decide_eq_true_eq] at h_t27
     refine WP_skip ?_
     refine hK15 _ _ _ ?_
     refine WP_block ?_
     refine seq_k fun _ hK18 => ?_
     refine seq_k fun _ hK19 => ?_
     refine region_k g7_ok fun _ hK20 => ?_
     refine s_step rfl (by decide) rfl fun _ hS => ?_
     repeat refine And.intro qLf0 ?_
     first | refine hS _ _ _ ?_ | (refine whole_yes qLf0 ?_; refine hS _ _ _ ?_) | (refine whole_sub ?_; refine hS _ _ _ ?_)
     clear hS
     refine s_step rfl (by decide) rfl fun _ hS => ?_
     refine hS _ _ _ ?_
     clear hS
     refine s_step rfl (by decide) rfl fun _ hS => ?_
     repeat first | refine And.intro qLf0 ?_ | refine whole_yes qLf0 ?_ | refine whole_sub ?_
     refine ⟨a, b, m.toNat + k, rfl, ⟨by omega, hl1, hl2, by omega⟩, ?_⟩
     repeat refine And.intro qLf0 ?_
     first | refine hS _ _ _ ?_ | (intro cap2 hcap2; refine hS _ _ _ ?_)
     clear hS
     refine s_nil ?_
     refine hK20 _ _ _ ?_
     refine hK19 _ _ _ ?_
     refine WP_cond (b := _) rfl (fun h_t30 => ?_) (fun h_t30 => ?_)
     ·skip
      refine seq_k fun _ hK21 => ?_
      refine region_k g7_ok fun _ hK22 => ?_
      refine s_step rfl (by decide) rfl fun _ hS => ?_
      refine hS _ _ _ ?_
      clear hS
      refine s_step rfl (by decide) rfl fun _ hS => ?_
      refine hS _ _ _ ?_
      clear hS
      refine s_nil ?_
      refine hK22 _ _ _ ?_
      refine hK21 _ _ _ ?_
      refine WP_ret (Done_flat g7_ok (fun _ _ h => h) (by first | rfl | assumption) [.tmp 4] rfl ?_)
      repeat refine And.intro (by first | omega | exact trivial | rfl | (simp <;> omega)) ?_
      try refine ite_yes (by first | omega | exact trivial | rfl | (simp <;> omega)) ?_
      show SV.c (.int .i64 _) = SV.c (.int .i64 _)
      congr 2
      rw [hle, ← hk.2, show L - k = (L - k - 1) + 1 by omega, firstL, if_pos h_t30]
     ·skip
      refine WP_skip ?_
      refine hK18 _ _ _ ?_
      refine region_k g7_ok fun _ hK23 => ?_
      refine s_step rfl (by decide) rfl fun _ hS => ?_
      refine hS _ _ _ ?_
      clear hS
      refine s_step rfl (by decide) rfl fun _ hS => ?_
      repeat refine And.intro qLf0 ?_
      refine hS _ _ _ ?_
      clear hS
      refine s_step rfl (by decide) rfl fun _ hS => ?_
      refine hS _ _ _ ?_
      clear hS
      refine s_nil ?_
      refine hK23 _ _ _ ?_
      refine done_block ?_
      refine Done_some [] id (k + 1) ⟨⟨by omega, by rw [← hk.2, show L - k = (L - (k + 1)) + 1 by omega, firstL, if_neg (by simpa using h_t30)]; rfl⟩, by omega⟩ ⟨?_, ?_, (by decide : List.Nodup ([0] : List Nat)), ?_, ?_, ⟨Nat.zero_le _, fun i hi => absurd hi (Nat.not_lt_zero i)⟩⟩
      ·exact uLf0
      ·exact uLf0
      ·exact uLf0
      ·exact uLf0
    ·try try simp only [decide_eq_false_iff_not, Int.not_lt] at h_t27
     refine WP_exit ?_
     refine done_thenx ?_
     refine done_thenx ?_
     refine Done_hit ?_
     refine hK14 _ _ _ ?_
     refine seq_k fun _ hK24 => ?_
     refine region_k g7_ok fun _ hK25 => ?_
     refine s_step rfl (by decide) rfl fun _ hS => ?_
     refine hS _ _ _ ?_
     clear hS
     refine s_nil ?_
     refine hK25 _ _ _ ?_
     refine hK24 _ _ _ ?_
     refine WP_ret (Done_flat g7_ok (fun _ _ h => h) (by first | rfl | assumption) [.tmp 4] rfl ?_)
     repeat refine And.intro (by first | omega | exact trivial | rfl | (simp <;> omega)) ?_
     try refine ite_yes (by first | omega | exact trivial | rfl | (simp <;> omega)) ?_
     show SV.c (.int .i64 _) = SV.c (.int .i64 _)
     congr 2
     rw [hle, ← hk.2, show L - k = 0 by omega]
     rfl


end Go.Proofs.YtpfncffapgkjaaaDoor
