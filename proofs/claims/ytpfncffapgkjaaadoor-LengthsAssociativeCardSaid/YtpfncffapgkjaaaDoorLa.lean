/- Membership in a set of lengths; lists of truth values compared. -/
import Derived.Test.YtpfncffapgkjaaaDoorCtx
import Derived.Test.YtpfncffapgkjaaaDoorAb14
import Derived.Test.YtpfncffapgkjaaaDoorAb21
namespace Go.Proofs.YtpfncffapgkjaaaDoor
set_option linter.unusedVariables false
open Go.Ab Go.RowKit

theorem qLa0 {a : Prop} (h : a := by first | omega | exact trivial | rfl | (simp only [len_u8s, len_u32s, len_u64s, len_ints, len_bools, len_cells]; omega) | exact inR_i64.mpr ⟨by omega, by omega⟩ | (simp <;> omega) | (refine And.intro ?_ ?_ <;> exact trivial) | exact ⟨trivial, trivial, trivial⟩ | decide | (refine And.intro rfl ?_; (repeat first | exact trivial | refine And.intro rfl ?_); done) | exact Nat.succ_pos _ | exact Nat.le_refl _ | (refine And.intro trivial ?_; (repeat first | exact trivial | refine And.intro trivial ?_); done)) : a := h
theorem qLa1 {a : Prop} (h : a := by first | omega | exact trivial | rfl | (simp only [len_u8s, len_u32s, len_u64s, len_ints, len_bools, len_cells]; omega) | exact inR_i64.mpr ⟨by omega, by omega⟩ | (simp <;> omega) | (simp; omega) | (refine And.intro ?_ ?_ <;> exact trivial) | exact ⟨trivial, trivial, trivial⟩ | decide | (refine And.intro rfl ?_; (repeat first | exact trivial | refine And.intro rfl ?_); done) | exact Nat.succ_pos _ | exact Nat.le_refl _ | (refine And.intro trivial ?_; (repeat first | exact trivial | refine And.intro trivial ?_); done)) : a := h

theorem uLa0 {a : Prop} (h : a := by
    repeat' (first | exact trivial | refine And.intro ?_ ?_ | rfl | omega | decide | (show (_ : Nat) < _; decide) | exact low_nil' | refine low_cons' ?_ ?_ | exact Nat.le_refl _ | exact Nat.succ_pos _)) : a := h

/-- The one table the program reads. -/
def debruijn : List UInt8 := [0, 1, 56, 2, 57, 49, 28, 3, 61, 58, 42, 50, 38, 29, 17, 4, 62, 47, 59, 36, 45, 43, 51, 22, 53, 39, 33, 30, 24, 18, 12, 5, 63, 55, 48, 27, 60, 41, 37, 16, 46, 35, 44, 21, 52, 32, 23, 11, 54, 26, 40, 15, 34, 20, 31, 10, 25, 14, 19, 9, 13, 8, 7, 6]
def gl : Nat → Option Cont := fun g => if g = 0 then some (.u8s debruijn) else none
noncomputable def g0 : Ctx := { P := Tryd.prog, ty := ty, glob := gl, fs := [] }
theorem g0_ok : g0.OK := ⟨tyOK, trivial, mixed⟩
@[simp] theorem g0_ty : g0.ty = ty := rfl

/-- A set of lengths, as data. -/
abbrev lsC (h c : List Bool) : Cont := .cells [.ds h.length (.bools h), .ds c.length (.bools c)]
abbrev lsV (h c : List Bool) : SV := .agg (lsC h c)
def atL (h c : List Bool) (n : Nat) : Bool := if n < h.length then h.getD n false else c.getD ((n - h.length) % c.length) false
theorem toNat_sub_emod (n a b : Nat) (h : a ≤ n) : (((n : Int) - a) % b).toNat = (n - a) % b := by
  rw [← Int.ofNat_sub h]; omega
def memberS : QSpec := fun vs K => ∃ h c, ∃ n : Nat, vs = [lsV h c, .c (.int .i64 n)] ∧ (0 < c.length ∧ h.length ≤ 9223372036854775807 ∧ c.length ≤ 9223372036854775807 ∧ n ≤ 9223372036854775807) ∧ K (.c (.bool (atL h c n)))
theorem member_ok : FlatOK Tryd.prog gl 34 memberS := by
 refine flat_of (Γ := g0) (N := 28) Tryd.func34 rfl rfl fun vs K h => ?_
 obtain ⟨hd, cy, m, rfl, ⟨hc, hb1, hb2, hb3⟩, h⟩ := h
 refine ⟨_, h, rfl, by simp, fun w I => ?_⟩
 refine seq_k fun _ hK1 => ?_
 refine region_k g0_ok fun _ hK2 => ?_
 refine s_step rfl (by decide) rfl fun _ hS => ?_
 repeat refine And.intro qLa0 ?_
 refine hS _ _ _ ?_
 clear hS
 refine s_step rfl (by decide) rfl fun _ hS => ?_
 refine hS _ _ _ ?_
 clear hS
 refine s_nil ?_
 refine hK2 _ _ _ ?_
 refine hK1 _ _ _ ?_
 refine seq_k fun _ hK3 => ?_
 refine seq_k fun _ hK4 => ?_
 refine region_k g0_ok fun _ hK5 => ?_
 refine s_step rfl (by decide) rfl fun _ hS => ?_
 refine hS _ _ _ ?_
 clear hS
 refine s_step rfl (by decide) rfl fun _ hS => ?_
 repeat refine And.intro qLa0 ?_
 refine hS _ _ _ ?_
 clear hS
 refine s_step rfl (by decide) rfl fun _ hS => ?_
 repeat refine And.intro qLa0 ?_
 first | refine hS _ _ _ ?_ | (refine whole_yes qLa0 ?_; refine hS _ _ _ ?_) | (refine whole_sub ?_; refine hS _ _ _ ?_)
 clear hS
 refine s_step rfl (by decide) rfl fun _ hS => ?_
 repeat refine And.intro qLa0 ?_
 refine hS _ _ _ ?_
 clear hS
 refine s_step rfl (by decide) rfl fun _ hS => ?_
 repeat refine And.intro qLa0 ?_
 refine hS _ _ _ ?_
 clear hS
 refine s_nil ?_
 refine hK5 _ _ _ ?_
 refine hK4 _ _ _ ?_
 refine WP_cond (b := _) rfl (fun h_t9 => ?_) (fun h_t9 => ?_)
 ·try try simp only [decide_eq_true_eq] at h_t9
  refine seq_k fun _ hK6 => ?_
  refine region_k g0_ok fun _ hK7 => ?_
  refine s_step rfl (by decide) rfl fun _ hS => ?_
  repeat refine And.intro qLa1 ?_
  refine hS _ _ _ ?_
  clear hS
  refine s_step rfl (by decide) rfl fun _ hS => ?_
  repeat refine And.intro qLa1 ?_
  first | refine hS _ _ _ ?_ | (refine whole_yes qLa1 ?_; refine hS _ _ _ ?_) | (refine whole_sub ?_; refine hS _ _ _ ?_)
  clear hS
  refine s_step rfl (by decide) rfl fun _ hS => ?_
  refine hS _ _ _ ?_
  clear hS
  refine s_step rfl (by decide) rfl fun _ hS => ?_
  repeat refine And.intro qLa1 ?_
  refine hS _ _ _ ?_
  clear hS
  refine s_step rfl (by decide) rfl fun _ hS => ?_
  repeat refine And.intro qLa1 ?_
  first | refine hS _ _ _ ?_ | (refine whole_yes qLa1 ?_; refine hS _ _ _ ?_) | (refine whole_sub ?_; refine hS _ _ _ ?_)
  clear hS
  refine s_step rfl (by decide) rfl fun _ hS => ?_
  refine hS _ _ _ ?_
  clear hS
  refine s_nil ?_
  refine hK7 _ _ _ ?_
  refine hK6 _ _ _ ?_
  refine WP_ret (Done_flat g0_ok (fun _ _ h => h) (by first | rfl | assumption) [.tmp 4] rfl ?_)
  repeat refine And.intro (by first | omega | exact trivial | rfl | (simp <;> omega)) ?_
  try refine ite_yes (by first | omega | exact trivial | rfl | (simp <;> omega)) ?_
  show SV.c (.bool (hd.getD _ false)) = _
  rw [Nat.mul_one, Int.toNat_natCast, atL, if_pos (by omega)]
 ·try try simp only [decide_eq_false_iff_not, Int.not_lt] at h_t9
  refine WP_skip ?_
  refine hK3 _ _ _ ?_
  refine seq_k fun _ hK8 => ?_
  have hz := Int.emod_nonneg ((m : Int) - hd.length) (show (cy.length : Int) ≠ 0 by omega)
  have hlt := Int.emod_lt_of_pos ((m : Int) - hd.length) (show (0 : Int) < cy.length by omega)
  refine quiet_k g0_ok (by kernel_rfl) fun _ hK9 => ?_
  refine q_step rfl (by decide) rfl fun _ hS => ?_
  repeat refine And.intro qLa1 ?_
  refine hS _ ?_
  clear hS
  refine q_step rfl (by decide) rfl fun _ hS => ?_
  repeat refine And.intro qLa1 ?_
  first | refine hS _ ?_ | (refine whole_yes qLa1 ?_; refine hS _ ?_) | (refine whole_sub ?_; refine hS _ ?_)
  clear hS
  refine q_step rfl (by decide) rfl fun _ hS => ?_
  refine hS _ ?_
  clear hS
  refine q_step rfl (by decide) rfl fun _ hS => ?_
  repeat refine And.intro qLa1 ?_
  refine hS _ ?_
  clear hS
  refine q_step rfl (by decide) rfl fun _ hS => ?_
  repeat refine And.intro qLa1 ?_
  first | refine hS _ ?_ | (refine whole_yes qLa1 ?_; refine hS _ ?_) | (refine whole_sub ?_; refine hS _ ?_)
  clear hS
  refine q_step rfl (by decide) rfl fun _ hS => ?_
  repeat refine And.intro qLa1 ?_
  refine hS _ ?_
  clear hS
  refine q_step rfl (by decide) rfl fun _ hS => ?_
  repeat refine And.intro qLa1 ?_
  refine hS _ ?_
  clear hS
  refine q_step rfl (by decide) rfl fun _ hS => ?_
  repeat refine And.intro qLa1 ?_
  refine hS _ ?_
  clear hS
  refine q_step rfl (by decide) rfl fun _ hS => ?_
  repeat refine And.intro qLa1 ?_
  first | refine hS _ ?_ | (refine whole_yes qLa1 ?_; refine hS _ ?_) | (refine whole_sub ?_; refine hS _ ?_)
  clear hS
  refine q_step rfl (by decide) rfl fun _ hS => ?_
  repeat refine And.intro qLa1 ?_
  refine hS _ ?_
  clear hS
  refine q_step rfl (by decide) rfl fun _ hS => ?_
  repeat refine And.intro qLa1 ?_
  refine hS _ ?_
  clear hS
  refine q_step rfl (by decide) rfl fun _ hS => ?_
  repeat refine And.intro qLa1 ?_
  refine hS _ ?_
  clear hS
  refine q_step rfl (by decide) rfl fun _ hS => ?_
  repeat refine And.intro qLa1 ?_
  first | refine hS _ ?_ | (refine whole_yes qLa1 ?_; refine hS _ ?_) | (refine whole_sub ?_; refine hS _ ?_)
  clear hS
  refine q_step rfl (by decide) rfl fun _ hS => ?_
  refine hS _ ?_
  clear hS
  refine q_nil ?_
  refine hK9 _ ?_
  refine hK8 _ _ _ ?_
  refine WP_ret (Done_flat g0_ok (fun _ _ h => h) (by first | rfl | assumption) [.tmp 4] rfl ?_)
  repeat refine And.intro (by first | omega | exact trivial | rfl | (simp <;> omega)) ?_
  try refine ite_yes (by first | omega | exact trivial | rfl | (simp <;> omega)) ?_
  show SV.c (.bool (cy.getD _ false)) = _
  rw [Nat.mul_one, toNat_sub_emod _ _ _ (by omega), atL, if_neg (by omega)]

def atRS : QSpec := fun vs K => ∃ h c, ∃ n : Nat, vs = [lsV h c, .c (.int .i64 n)] ∧ (0 < c.length ∧ h.length ≤ 9223372036854775807 ∧ c.length ≤ 9223372036854775807 ∧ n ≤ 9223372036854775807) ∧ K (.c (.bool (atL h c n)))
theorem atR_ok : FlatOK Tryd.prog gl 37 atRS := by
 refine flat_of (Γ := g0) (N := 28) Tryd.func37 rfl rfl fun vs K h => ?_
 obtain ⟨hd, cy, m, rfl, ⟨hc, hb1, hb2, hb3⟩, h⟩ := h
 refine ⟨_, h, rfl, by simp, fun w I => ?_⟩
 refine seq_k fun _ hK1 => ?_
 refine region_k g0_ok fun _ hK2 => ?_
 refine s_step rfl (by decide) rfl fun _ hS => ?_
 repeat refine And.intro qLa0 ?_
 refine hS _ _ _ ?_
 clear hS
 refine s_step rfl (by decide) rfl fun _ hS => ?_
 refine hS _ _ _ ?_
 clear hS
 refine s_nil ?_
 refine hK2 _ _ _ ?_
 refine hK1 _ _ _ ?_
 refine seq_k fun _ hK3 => ?_
 refine seq_k fun _ hK4 => ?_
 refine region_k g0_ok fun _ hK5 => ?_
 refine s_step rfl (by decide) rfl fun _ hS => ?_
 refine hS _ _ _ ?_
 clear hS
 refine s_step rfl (by decide) rfl fun _ hS => ?_
 repeat refine And.intro qLa0 ?_
 refine hS _ _ _ ?_
 clear hS
 refine s_step rfl (by decide) rfl fun _ hS => ?_
 repeat refine And.intro qLa0 ?_
 first | refine hS _ _ _ ?_ | (refine whole_yes qLa0 ?_; refine hS _ _ _ ?_) | (refine whole_sub ?_; refine hS _ _ _ ?_)
 clear hS
 refine s_step rfl (by decide) rfl fun _ hS => ?_
 repeat refine And.intro qLa0 ?_
 refine hS _ _ _ ?_
 clear hS
 refine s_step rfl (by decide) rfl fun _ hS => ?_
 repeat refine And.intro qLa0 ?_
 refine hS _ _ _ ?_
 clear hS
 refine s_nil ?_
 refine hK5 _ _ _ ?_
 refine hK4 _ _ _ ?_
 refine WP_cond (b := _) rfl (fun h_t9 => ?_) (fun h_t9 => ?_)
 ·try try simp only [decide_eq_true_eq] at h_t9
  refine seq_k fun _ hK6 => ?_
  refine region_k g0_ok fun _ hK7 => ?_
  refine s_step rfl (by decide) rfl fun _ hS => ?_
  repeat refine And.intro qLa1 ?_
  refine hS _ _ _ ?_
  clear hS
  refine s_step rfl (by decide) rfl fun _ hS => ?_
  repeat refine And.intro qLa1 ?_
  first | refine hS _ _ _ ?_ | (refine whole_yes qLa1 ?_; refine hS _ _ _ ?_) | (refine whole_sub ?_; refine hS _ _ _ ?_)
  clear hS
  refine s_step rfl (by decide) rfl fun _ hS => ?_
  refine hS _ _ _ ?_
  clear hS
  refine s_step rfl (by decide) rfl fun _ hS => ?_
  repeat refine And.intro qLa1 ?_
  refine hS _ _ _ ?_
  clear hS
  refine s_step rfl (by decide) rfl fun _ hS => ?_
  repeat refine And.intro qLa1 ?_
  first | refine hS _ _ _ ?_ | (refine whole_yes qLa1 ?_; refine hS _ _ _ ?_) | (refine whole_sub ?_; refine hS _ _ _ ?_)
  clear hS
  refine s_step rfl (by decide) rfl fun _ hS => ?_
  refine hS _ _ _ ?_
  clear hS
  refine s_nil ?_
  refine hK7 _ _ _ ?_
  refine hK6 _ _ _ ?_
  refine WP_ret (Done_flat g0_ok (fun _ _ h => h) (by first | rfl | assumption) [.tmp 4] rfl ?_)
  repeat refine And.intro (by first | omega | exact trivial | rfl | (simp <;> omega)) ?_
  try refine ite_yes (by first | omega | exact trivial | rfl | (simp <;> omega)) ?_
  show SV.c (.bool (hd.getD _ false)) = _
  rw [Nat.mul_one, Int.toNat_natCast, atL, if_pos (by omega)]
 ·try try simp only [decide_eq_false_iff_not, Int.not_lt] at h_t9
  refine WP_skip ?_
  refine hK3 _ _ _ ?_
  refine seq_k fun _ hK8 => ?_
  have hz := Int.emod_nonneg ((m : Int) - hd.length) (show (cy.length : Int) ≠ 0 by omega)
  have hlt := Int.emod_lt_of_pos ((m : Int) - hd.length) (show (0 : Int) < cy.length by omega)
  refine quiet_k g0_ok (by kernel_rfl) fun _ hK9 => ?_
  refine q_step rfl (by decide) rfl fun _ hS => ?_
  repeat refine And.intro qLa1 ?_
  refine hS _ ?_
  clear hS
  refine q_step rfl (by decide) rfl fun _ hS => ?_
  repeat refine And.intro qLa1 ?_
  first | refine hS _ ?_ | (refine whole_yes qLa1 ?_; refine hS _ ?_) | (refine whole_sub ?_; refine hS _ ?_)
  clear hS
  refine q_step rfl (by decide) rfl fun _ hS => ?_
  refine hS _ ?_
  clear hS
  refine q_step rfl (by decide) rfl fun _ hS => ?_
  repeat refine And.intro qLa1 ?_
  refine hS _ ?_
  clear hS
  refine q_step rfl (by decide) rfl fun _ hS => ?_
  repeat refine And.intro qLa1 ?_
  first | refine hS _ ?_ | (refine whole_yes qLa1 ?_; refine hS _ ?_) | (refine whole_sub ?_; refine hS _ ?_)
  clear hS
  refine q_step rfl (by decide) rfl fun _ hS => ?_
  repeat refine And.intro qLa1 ?_
  refine hS _ ?_
  clear hS
  refine q_step rfl (by decide) rfl fun _ hS => ?_
  repeat refine And.intro qLa1 ?_
  refine hS _ ?_
  clear hS
  refine q_step rfl (by decide) rfl fun _ hS => ?_
  repeat refine And.intro qLa1 ?_
  refine hS _ ?_
  clear hS
  refine q_step rfl (by decide) rfl fun _ hS => ?_
  repeat refine And.intro qLa1 ?_
  first | refine hS _ ?_ | (refine whole_yes qLa1 ?_; refine hS _ ?_) | (refine whole_sub ?_; refine hS _ ?_)
  clear hS
  refine q_step rfl (by decide) rfl fun _ hS => ?_
  repeat refine And.intro qLa1 ?_
  refine hS _ ?_
  clear hS
  refine q_step rfl (by decide) rfl fun _ hS => ?_
  repeat refine And.intro qLa1 ?_
  refine hS _ ?_
  clear hS
  refine q_step rfl (by decide) rfl fun _ hS => ?_
  repeat refine And.intro qLa1 ?_
  refine hS _ ?_
  clear hS
  refine q_step rfl (by decide) rfl fun _ hS => ?_
  repeat refine And.intro qLa1 ?_
  first | refine hS _ ?_ | (refine whole_yes qLa1 ?_; refine hS _ ?_) | (refine whole_sub ?_; refine hS _ ?_)
  clear hS
  refine q_step rfl (by decide) rfl fun _ hS => ?_
  refine hS _ ?_
  clear hS
  refine q_nil ?_
  refine hK9 _ ?_
  refine hK8 _ _ _ ?_
  refine WP_ret (Done_flat g0_ok (fun _ _ h => h) (by first | rfl | assumption) [.tmp 4] rfl ?_)
  repeat refine And.intro (by first | omega | exact trivial | rfl | (simp <;> omega)) ?_
  try refine ite_yes (by first | omega | exact trivial | rfl | (simp <;> omega)) ?_
  show SV.c (.bool (cy.getD _ false)) = _
  rw [Nat.mul_one, toNat_sub_emod _ _ _ (by omega), atL, if_neg (by omega)]

theorem take_eq_step {α : Type} [Inhabited α] {a b : List α} {k : Nat} {d : α} (h : a.take k = b.take k) (h1 : k < a.length) (h2 : k < b.length) (e : a.getD k d = b.getD k d) : a.take (k + 1) = b.take (k + 1) := by
  rw [List.getD_eq_getElem?_getD, List.getD_eq_getElem?_getD, List.getElem?_eq_getElem h1, List.getElem?_eq_getElem h2, Option.getD_some, Option.getD_some] at e
  rw [List.take_add_one, List.take_add_one, h, List.getElem?_eq_getElem h1, List.getElem?_eq_getElem h2, e]
theorem take_eq_all {α : Type} {a b : List α} {k : Nat} (h : a.take k = b.take k) (h1 : a.length ≤ k) (h2 : b.length ≤ k) : a = b := by
  rwa [List.take_of_length_le h1, List.take_of_length_le h2] at h
def equalRS : QSpec := fun vs K => ∃ a b : List Bool, vs = [.c (.ds a.length (.bools a)), .c (.ds b.length (.bools b))] ∧ (a.length ≤ 9223372036854775807 ∧ b.length ≤ 9223372036854775807 ∧ a.length = b.length) ∧ K (.c (.bool (decide (a = b))))
theorem equalR_ok : FlatOK Tryd.prog gl 49 equalRS := by
 refine flat_of (Γ := g0) (N := 21) Tryd.func49 rfl rfl fun vs K h => ?_
 obtain ⟨a, b, rfl, ⟨hb1, hb2, hl⟩, h⟩ := h
 refine ⟨_, h, rfl, by simp, fun w I => ?_⟩
 refine seq_k fun _ hK1 => ?_
 refine region_k g0_ok fun _ hK2 => ?_
 refine s_step rfl (by decide) rfl fun _ hS => ?_
 refine hS _ _ _ ?_
 clear hS
 refine s_nil ?_
 refine hK2 _ _ _ ?_
 refine hK1 _ _ _ ?_
 refine seq_k fun _ hK3 => ?_
 refine seq_k fun _ hK4 => ?_
 refine region_k g0_ok fun _ hK5 => ?_
 refine s_step rfl (by decide) rfl fun _ hS => ?_
 refine hS _ _ _ ?_
 clear hS
 refine s_nil ?_
 refine hK5 _ _ _ ?_
 refine hK4 _ _ _ ?_
 refine WP_block ?_
 refine WP_loop (α := Nat) (fun k => [(0, .c (.ds a.length (.bools a))), (1, .c (.ds b.length (.bools b))), (5, .c (.int .i64 k))]) (fun k => []) 0 (fun k => k ≤ a.length ∧ a.take k = b.take k) (fun k => a.length - k) ?_ ?_
 ·refine Done_some [] id 0 ⟨Nat.zero_le _, rfl⟩ ⟨?_, ?_, (by decide : List.Nodup ([] : List Nat)), ?_, ?_, ⟨Nat.zero_le _, fun i hi => absurd hi (Nat.not_lt_zero i)⟩⟩
  ·exact uLa0
  ·exact uLa0
  ·exact uLa0
  ·exact uLa0
 ·intro k hk
  refine seq_k fun _ hK6 => ?_
  refine seq_k fun _ hK7 => ?_
  refine region_k g0_ok fun _ hK8 => ?_
  refine s_step rfl (by decide) rfl fun _ hS => ?_
  refine hS _ _ _ ?_
  clear hS
  refine s_step rfl (by decide) rfl fun _ hS => ?_
  refine hS _ _ _ ?_
  clear hS
  refine s_step rfl (by decide) rfl fun _ hS => ?_
  repeat refine And.intro qLa0 ?_
  refine hS _ _ _ ?_
  clear hS
  refine s_step rfl (by decide) rfl fun _ hS => ?_
  repeat refine And.intro qLa0 ?_
  refine hS _ _ _ ?_
  clear hS
  refine s_nil ?_
  refine hK8 _ _ _ ?_
  refine hK7 _ _ _ ?_
  refine WP_cond (b := _) rfl (fun h_t9 => ?_) (fun h_t9 => ?_)
  ·try try simp only [decide_eq_true_eq] at h_t9
   refine WP_skip ?_
   refine hK6 _ _ _ ?_
   refine seq_k fun _ hK9 => ?_
   refine WP_block ?_
   refine seq_k fun _ hK10 => ?_
   have hka : k < a.length := by omega
   have hkb : k < b.length := by omega
   refine quiet_k g0_ok (by kernel_rfl) fun _ hK11 => ?_
   refine q_step rfl (by decide) rfl fun _ hS => ?_
   refine hS _ ?_
   clear hS
   refine q_step rfl (by decide) rfl fun _ hS => ?_
   refine hS _ ?_
   clear hS
   refine q_step rfl (by decide) rfl fun _ hS => ?_
   repeat refine And.intro qLa0 ?_
   refine hS _ ?_
   clear hS
   refine q_step rfl (by decide) rfl fun _ hS => ?_
   repeat refine And.intro qLa0 ?_
   first | refine hS _ ?_ | (refine whole_yes qLa0 ?_; refine hS _ ?_) | (refine whole_sub ?_; refine hS _ ?_)
   clear hS
   refine q_step rfl (by decide) rfl fun _ hS => ?_
   refine hS _ ?_
   clear hS
   refine q_step rfl (by decide) rfl fun _ hS => ?_
   refine hS _ ?_
   clear hS
   refine q_step rfl (by decide) rfl fun _ hS => ?_
   repeat refine And.intro qLa0 ?_
   refine hS _ ?_
   clear hS
   refine q_step rfl (by decide) rfl fun _ hS => ?_
   repeat refine And.intro qLa0 ?_
   first | refine hS _ ?_ | (refine whole_yes qLa0 ?_; refine hS _ ?_) | (refine whole_sub ?_; refine hS _ ?_)
   clear hS
   refine q_step rfl (by decide) rfl fun _ hS => ?_
   repeat refine And.intro qLa0 ?_
   refine hS _ ?_
   clear hS
   refine q_nil ?_
   refine hK11 _ ?_
   refine hK10 _ _ _ ?_
   refine WP_cond (b := _) rfl (fun h_t20 => ?_) (fun h_t20 => ?_)
   ·simp only [Int.toNat_natCast, Nat.mul_one, Bool.not_eq_true', decide_eq_false_iff_not] at h_t20
    refine seq_k fun _ hK12 => ?_
    refine region_k g0_ok fun _ hK13 => ?_
    refine s_step rfl (by decide) rfl fun _ hS => ?_
    refine hS _ _ _ ?_
    clear hS
    refine s_nil ?_
    refine hK13 _ _ _ ?_
    refine hK12 _ _ _ ?_
    refine WP_ret (Done_flat g0_ok (fun _ _ h => h) (by first | rfl | assumption) [.tmp 4] rfl ?_)
    repeat refine And.intro (by first | omega | exact trivial | rfl | (simp <;> omega)) ?_
    try refine ite_yes (by first | omega | exact trivial | rfl | (simp <;> omega)) ?_
    show SV.c (.bool false) = _
    rw [decide_eq_false (fun e => h_t20 (by rw [e]))]
   ·simp only [Int.toNat_natCast, Nat.mul_one, Bool.not_eq_false', decide_eq_true_eq] at h_t20
    refine WP_skip ?_
    refine done_block ?_
    refine hK9 _ _ _ ?_
    refine region_k g0_ok fun _ hK14 => ?_
    refine s_step rfl (by decide) rfl fun _ hS => ?_
    refine hS _ _ _ ?_
    clear hS
    refine s_step rfl (by decide) rfl fun _ hS => ?_
    repeat refine And.intro qLa0 ?_
    refine hS _ _ _ ?_
    clear hS
    refine s_step rfl (by decide) rfl fun _ hS => ?_
    refine hS _ _ _ ?_
    clear hS
    refine s_nil ?_
    refine hK14 _ _ _ ?_
    refine Done_some [] id (k + 1) ⟨⟨by omega, take_eq_step (d := false) hk.2 hka hkb h_t20⟩, by omega⟩ ⟨?_, ?_, (by decide : List.Nodup ([] : List Nat)), ?_, ?_, ⟨Nat.zero_le _, fun i hi => absurd hi (Nat.not_lt_zero i)⟩⟩
    ·exact uLa0
    ·exact uLa0
    ·exact uLa0
    ·exact uLa0
  ·try try simp only [decide_eq_false_iff_not, Int.not_lt] at h_t9
   refine WP_exit ?_
   refine done_thenx ?_
   refine done_thenx ?_
   refine Done_hit ?_
   refine hK3 _ _ _ ?_
   refine seq_k fun _ hK15 => ?_
   refine region_k g0_ok fun _ hK16 => ?_
   refine s_step rfl (by decide) rfl fun _ hS => ?_
   refine hS _ _ _ ?_
   clear hS
   refine s_nil ?_
   refine hK16 _ _ _ ?_
   refine hK15 _ _ _ ?_
   refine WP_ret (Done_flat g0_ok (fun _ _ h => h) (by first | rfl | assumption) [.tmp 4] rfl ?_)
   repeat refine And.intro (by first | omega | exact trivial | rfl | (simp <;> omega)) ?_
   try refine ite_yes (by first | omega | exact trivial | rfl | (simp <;> omega)) ?_
   obtain rfl : k = a.length := by omega
   show SV.c (.bool true) = _
   rw [decide_eq_true (take_eq_all hk.2 (Nat.le_refl _) (by omega))]

def equalS : QSpec := fun vs K => ∃ a b : List Bool, vs = [.c (.ds a.length (.bools a)), .c (.ds b.length (.bools b))] ∧ (a.length ≤ 9223372036854775807 ∧ b.length ≤ 9223372036854775807) ∧ K (.c (.bool (decide (a = b))))
theorem equal_ok : FlatOK Tryd.prog gl 52 equalS := by
 refine flat_of (Γ := g0) (N := 26) Tryd.func52 rfl rfl fun vs K h => ?_
 obtain ⟨a, b, rfl, ⟨hb1, hb2⟩, h⟩ := h
 refine ⟨_, h, rfl, by simp, fun w I => ?_⟩
 refine seq_k fun _ hK1 => ?_
 refine region_k g0_ok fun _ hK2 => ?_
 refine s_step rfl (by decide) rfl fun _ hS => ?_
 refine hS _ _ _ ?_
 clear hS
 refine s_nil ?_
 refine hK2 _ _ _ ?_
 refine hK1 _ _ _ ?_
 refine seq_k fun _ hK3 => ?_
 refine seq_k fun _ hK4 => ?_
 refine region_k g0_ok fun _ hK5 => ?_
 refine s_step rfl (by decide) rfl fun _ hS => ?_
 refine hS _ _ _ ?_
 clear hS
 refine s_step rfl (by decide) rfl fun _ hS => ?_
 repeat refine And.intro qLa0 ?_
 refine hS _ _ _ ?_
 clear hS
 refine s_step rfl (by decide) rfl fun _ hS => ?_
 refine hS _ _ _ ?_
 clear hS
 refine s_step rfl (by decide) rfl fun _ hS => ?_
 repeat refine And.intro qLa0 ?_
 refine hS _ _ _ ?_
 clear hS
 refine s_step rfl (by decide) rfl fun _ hS => ?_
 repeat refine And.intro qLa0 ?_
 refine hS _ _ _ ?_
 clear hS
 refine s_nil ?_
 refine hK5 _ _ _ ?_
 refine hK4 _ _ _ ?_
 refine WP_cond (b := _) rfl (fun h_t10 => ?_) (fun h_t10 => ?_)
 ·try try simp only [decide_eq_false_iff_not, Bool.not_eq_eq_eq_not, Bool.not_true, Int.natCast_inj] at h_t10
  refine seq_k fun _ hK6 => ?_
  refine region_k g0_ok fun _ hK7 => ?_
  refine s_step rfl (by decide) rfl fun _ hS => ?_
  refine hS _ _ _ ?_
  clear hS
  refine s_nil ?_
  refine hK7 _ _ _ ?_
  refine hK6 _ _ _ ?_
  refine WP_ret (Done_flat g0_ok (fun _ _ h => h) (by first | rfl | assumption) [.tmp 4] rfl ?_)
  repeat refine And.intro (by first | omega | exact trivial | rfl | (simp <;> omega)) ?_
  try refine ite_yes (by first | omega | exact trivial | rfl | (simp <;> omega)) ?_
  show SV.c (.bool false) = _
  rw [decide_eq_false (fun e => h_t10 (by rw [e]))]
 ·try try simp only [decide_eq_true_eq, Bool.not_eq_eq_eq_not, Bool.not_false, Int.natCast_inj] at h_t10
  refine WP_skip ?_
  refine hK3 _ _ _ ?_
  refine seq_k fun _ hK8 => ?_
  refine seq_k fun _ hK9 => ?_
  refine region_k g0_ok fun _ hK10 => ?_
  refine s_step rfl (by decide) rfl fun _ hS => ?_
  refine hS _ _ _ ?_
  clear hS
  refine s_step rfl (by decide) rfl fun _ hS => ?_
  repeat refine And.intro qLa0 ?_
  refine hS _ _ _ ?_
  clear hS
  refine s_step rfl (by decide) rfl fun _ hS => ?_
  refine hS _ _ _ ?_
  clear hS
  refine s_nil ?_
  refine hK10 _ _ _ ?_
  refine hK9 _ _ _ ?_
  refine WP_block ?_
  have hl : a.length = b.length := by omega
  refine WP_loop (α := Nat) (fun k => [(0, .c (.ds a.length (.bools a))), (1, .c (.ds b.length (.bools b))), (13, .c (.int .i64 k)), (12, .c (.int .i64 a.length))]) (fun k => []) 0 (fun k => k ≤ a.length ∧ a.take k = b.take k) (fun k => a.length - k) ?_ ?_
  ·refine Done_some [] id 0 ⟨Nat.zero_le _, rfl⟩ ⟨?_, ?_, (by decide : List.Nodup ([] : List Nat)), ?_, ?_, ⟨Nat.zero_le _, fun i hi => absurd hi (Nat.not_lt_zero i)⟩⟩
   ·exact uLa0
   ·exact uLa0
   ·exact uLa0
   ·exact uLa0
  ·intro k hk
   refine seq_k fun _ hK11 => ?_
   refine region_k g0_ok fun _ hK12 => ?_
   refine s_step rfl (by decide) rfl fun _ hS => ?_
   repeat refine And.intro qLa0 ?_
   refine hS _ _ _ ?_
   clear hS
   refine s_nil ?_
   refine hK12 _ _ _ ?_
   refine hK11 _ _ _ ?_
   refine seq_k fun _ hK13 => ?_
   refine WP_cond (b := _) rfl (fun h_t14 => ?_) (fun h_t14 => ?_)
   ·try try simp only [decide_eq_true_eq] at h_t14
    refine WP_skip ?_
    refine hK13 _ _ _ ?_
    refine seq_k fun _ hK14 => ?_
    refine WP_block ?_
    refine seq_k fun _ hK15 => ?_
    refine region_k g0_ok fun _ hK16 => ?_
    refine s_step rfl (by decide) rfl fun _ hS => ?_
    refine hS _ _ _ ?_
    clear hS
    refine s_step rfl (by decide) rfl fun _ hS => ?_
    refine hS _ _ _ ?_
    clear hS
    refine s_nil ?_
    refine hK16 _ _ _ ?_
    refine hK15 _ _ _ ?_
    refine seq_k fun _ hK17 => ?_
    have hka : k < a.length := by omega
    have hkb : k < b.length := by omega
    refine quiet_k g0_ok (by kernel_rfl) fun _ hK18 => ?_
    refine q_step rfl (by decide) rfl fun _ hS => ?_
    refine hS _ ?_
    clear hS
    refine q_step rfl (by decide) rfl fun _ hS => ?_
    refine hS _ ?_
    clear hS
    refine q_step rfl (by decide) rfl fun _ hS => ?_
    repeat refine And.intro qLa0 ?_
    refine hS _ ?_
    clear hS
    refine q_step rfl (by decide) rfl fun _ hS => ?_
    repeat refine And.intro qLa0 ?_
    first | refine hS _ ?_ | (refine whole_yes qLa0 ?_; refine hS _ ?_) | (refine whole_sub ?_; refine hS _ ?_)
    clear hS
    refine q_step rfl (by decide) rfl fun _ hS => ?_
    refine hS _ ?_
    clear hS
    refine q_step rfl (by decide) rfl fun _ hS => ?_
    refine hS _ ?_
    clear hS
    refine q_step rfl (by decide) rfl fun _ hS => ?_
    repeat refine And.intro qLa0 ?_
    refine hS _ ?_
    clear hS
    refine q_step rfl (by decide) rfl fun _ hS => ?_
    repeat refine And.intro qLa0 ?_
    first | refine hS _ ?_ | (refine whole_yes qLa0 ?_; refine hS _ ?_) | (refine whole_sub ?_; refine hS _ ?_)
    clear hS
    refine q_step rfl (by decide) rfl fun _ hS => ?_
    repeat refine And.intro qLa0 ?_
    refine hS _ ?_
    clear hS
    refine q_nil ?_
    refine hK18 _ ?_
    refine hK17 _ _ _ ?_
    refine WP_cond (b := _) rfl (fun h_t24 => ?_) (fun h_t24 => ?_)
    ·simp only [Int.toNat_natCast, Nat.mul_one, Bool.not_eq_true', decide_eq_false_iff_not] at h_t24
     refine seq_k fun _ hK19 => ?_
     refine region_k g0_ok fun _ hK20 => ?_
     refine s_step rfl (by decide) rfl fun _ hS => ?_
     refine hS _ _ _ ?_
     clear hS
     refine s_nil ?_
     refine hK20 _ _ _ ?_
     refine hK19 _ _ _ ?_
     refine WP_ret (Done_flat g0_ok (fun _ _ h => h) (by first | rfl | assumption) [.tmp 4] rfl ?_)
     repeat refine And.intro (by first | omega | exact trivial | rfl | (simp <;> omega)) ?_
     try refine ite_yes (by first | omega | exact trivial | rfl | (simp <;> omega)) ?_
     show SV.c (.bool false) = _
     rw [decide_eq_false (fun e => h_t24 (by rw [e]))]
    ·simp only [Int.toNat_natCast, Nat.mul_one, Bool.not_eq_false', decide_eq_true_eq] at h_t24
     refine WP_skip ?_
     refine done_block ?_
     refine hK14 _ _ _ ?_
     refine region_k g0_ok fun _ hK21 => ?_
     refine s_step rfl (by decide) rfl fun _ hS => ?_
     repeat refine And.intro qLa0 ?_
     refine hS _ _ _ ?_
     clear hS
     refine s_step rfl (by decide) rfl fun _ hS => ?_
     refine hS _ _ _ ?_
     clear hS
     refine s_nil ?_
     refine hK21 _ _ _ ?_
     refine Done_some [] id (k + 1) ⟨⟨by omega, take_eq_step (d := false) hk.2 hka hkb h_t24⟩, by omega⟩ ⟨?_, ?_, (by decide : List.Nodup ([] : List Nat)), ?_, ?_, ⟨Nat.zero_le _, fun i hi => absurd hi (Nat.not_lt_zero i)⟩⟩
     ·exact uLa0
     ·exact uLa0
     ·exact uLa0
     ·exact uLa0
   ·try try simp only [decide_eq_false_iff_not, Int.not_lt] at h_t14
    refine WP_exit ?_
    refine done_thenx ?_
    refine done_thenx ?_
    refine Done_hit ?_
    refine hK8 _ _ _ ?_
    refine seq_k fun _ hK22 => ?_
    refine region_k g0_ok fun _ hK23 => ?_
    refine s_step rfl (by decide) rfl fun _ hS => ?_
    refine hS _ _ _ ?_
    clear hS
    refine s_nil ?_
    refine hK23 _ _ _ ?_
    refine hK22 _ _ _ ?_
    refine WP_ret (Done_flat g0_ok (fun _ _ h => h) (by first | rfl | assumption) [.tmp 4] rfl ?_)
    repeat refine And.intro (by first | omega | exact trivial | rfl | (simp <;> omega)) ?_
    try refine ite_yes (by first | omega | exact trivial | rfl | (simp <;> omega)) ?_
    obtain rfl : k = a.length := by omega
    show SV.c (.bool true) = _
    rw [decide_eq_true (take_eq_all hk.2 (Nat.le_refl _) (by omega))]


end Go.Proofs.YtpfncffapgkjaaaDoor
