/- The reference: the shortest form. -/
/- The reference: canonical forms, intersections and unions. -/
import Derived.Test.YtpfncffapgkjaaaDoorAb14
import Derived.Test.YtpfncffapgkjaaaDoorAb21
import Derived.Test.YtpfncffapgkjaaaDoorAb22
import Derived.Test.YtpfncffapgkjaaaDoorCtx
import Derived.Test.YtpfncffapgkjaaaDoorLa
import Derived.Test.YtpfncffapgkjaaaDoorLd
import Derived.Test.YtpfncffapgkjaaaDoorLc
import Derived.Test.YtpfncffapgkjaaaDoorLe
namespace Go.Proofs.YtpfncffapgkjaaaDoor
set_option linter.unusedVariables false
open Go.Ab Go.RowKit
section
theorem qLh0 {a : Prop} (h : a := by first | omega | exact trivial | rfl | (simp only [len_u8s, len_u32s, len_u64s, len_ints, len_bools, len_cells]; omega) | exact inR_i64.mpr ⟨by omega, by omega⟩ | (simp <;> omega) | (refine ⟨by omega, by omega, ?_⟩; simp; omega) | (refine And.intro ?_ ?_ <;> exact trivial) | exact ⟨trivial, trivial, trivial⟩ | decide | (refine And.intro rfl ?_; (repeat first | exact trivial | refine And.intro rfl ?_); done) | exact Nat.succ_pos _ | exact Nat.le_refl _ | (refine And.intro trivial ?_; (repeat first | exact trivial | refine And.intro trivial ?_); done)) : a := h
theorem qLh1 {a : Prop} (h : a := by first | omega | exact trivial | rfl | (simp only [len_u8s, len_u32s, len_u64s, len_ints, len_bools, len_cells]; omega) | exact inR_i64.mpr ⟨by omega, by omega⟩ | (simp <;> omega) | (refine And.intro ?_ ?_ <;> exact trivial) | exact ⟨trivial, trivial, trivial⟩ | decide | (refine And.intro rfl ?_; (repeat first | exact trivial | refine And.intro rfl ?_); done) | exact Nat.succ_pos _ | exact Nat.le_refl _ | (refine And.intro trivial ?_; (repeat first | exact trivial | refine And.intro trivial ?_); done)) : a := h
theorem qLh2 {a : Prop} (h : a := by first | omega | exact trivial | rfl | (simp only [len_u8s, len_u32s, len_u64s, len_ints, len_bools, len_cells]; omega) | exact inR_i64.mpr ⟨by omega, by omega⟩ | (simp <;> omega) | (simp; omega) | (refine And.intro ?_ ?_ <;> exact trivial) | exact ⟨trivial, trivial, trivial⟩ | decide | (refine And.intro rfl ?_; (repeat first | exact trivial | refine And.intro rfl ?_); done) | exact Nat.succ_pos _ | exact Nat.le_refl _ | (refine And.intro trivial ?_; (repeat first | exact trivial | refine And.intro trivial ?_); done)) : a := h
theorem qLh3 {a : Prop} (h : a := by first | omega | exact trivial | rfl | (simp only [len_u8s, len_u32s, len_u64s, len_ints, len_bools, len_cells]; omega) | exact inR_i64.mpr ⟨by omega, by omega⟩ | (simp <;> omega) | (simp <;> omega) | (refine And.intro ?_ ?_ <;> exact trivial) | exact ⟨trivial, trivial, trivial⟩ | decide | (refine And.intro rfl ?_; (repeat first | exact trivial | refine And.intro rfl ?_); done) | exact Nat.succ_pos _ | exact Nat.le_refl _ | (refine And.intro trivial ?_; (repeat first | exact trivial | refine And.intro trivial ?_); done)) : a := h

theorem uLh0 {a : Prop} (h : a := by
    repeat' (first | exact trivial | refine And.intro ?_ ?_ | rfl | omega | decide | (show (_ : Nat) < _; decide) | exact low_nil' | refine low_cons' ?_ ?_ | exact Nat.le_refl _ | exact Nat.succ_pos _)) : a := h
theorem uLh1 {a : Prop} (h : a := by
    repeat' (first | exact trivial | refine And.intro ?_ ?_ | rfl | omega | decide | (show (_ : Nat) < _; decide) | exact low_nil' | refine low_cons' ?_ ?_ | exact Nat.le_refl _ | exact Nat.succ_pos _)
    all_goals first | omega | (simp; done) | (simp <;> omega) | skip) : a := h
theorem uLh2 {a : Prop} (h : a := by
    repeat' (first | exact trivial | refine And.intro ?_ ?_ | rfl | omega | decide | (show (_ : Nat) < _; decide) | exact low_nil' | refine low_cons' ?_ ?_ | exact Nat.le_refl _ | exact Nat.succ_pos _)
    all_goals first | omega | (show (_ : List Bool) = _; first | exact preL_step _ hka | exact postL_step _ hka | exact preL_stay _ hka | exact postL_stay _ hka | (simp [preL, postL]; done)) | (simp; done) | (simp <;> omega) | skip) : a := h

/-- A cycle consists of repetitions of its first p elements. -/
def repB (c : List Bool) (p : Nat) : Bool := decide (c.length % p = 0 ∧ ∀ i, i < c.length → c.getD i false = c.getD (i % p) false)
theorem repB_all (c : List Bool) : repB c c.length = true := by
  simp only [repB, decide_eq_true_eq]
  exact ⟨Nat.mod_self _, fun i hi => by rw [Nat.mod_eq_of_lt hi]⟩
def headL (g : Nat → Bool) (p : Nat) : Nat → Nat
  | 0 => 0
  | h + 1 => if g h = g (h + p) then headL g p h else h + 1
theorem headL_le (g : Nat → Bool) (p : Nat) : ∀ h, headL g p h ≤ h
  | 0 => Nat.le_refl _
  | h + 1 => by
    have := headL_le g p h
    rw [headL]; split <;> omega
def preL (g : Nat → Bool) (a k : Nat) : List Bool := (List.range (min k a)).map g
def postL (g : Nat → Bool) (a k : Nat) : List Bool := (List.range (k - a)).map fun i => g (a + i)
@[simp] theorem preL_length (g : Nat → Bool) (a k : Nat) : (preL g a k).length = min k a := by simp [preL]
@[simp] theorem postL_length (g : Nat → Bool) (a k : Nat) : (postL g a k).length = k - a := by simp [postL]
theorem preL_step (g : Nat → Bool) {a k : Nat} (h : k < a) : preL g a k ++ [g k] = preL g a (k + 1) := by
  rw [preL, preL, show min k a = k by omega, show min (k + 1) a = k + 1 by omega, List.range_succ, List.map_append]; rfl
theorem preL_stay (g : Nat → Bool) {a k : Nat} (h : a ≤ k) : preL g a k = preL g a (k + 1) := by
  rw [preL, preL, show min k a = a by omega, show min (k + 1) a = a by omega]
theorem postL_step (g : Nat → Bool) {a k : Nat} (h : a ≤ k) : postL g a k ++ [g k] = postL g a (k + 1) := by
  rw [postL, postL, show k + 1 - a = k - a + 1 by omega, List.range_succ, List.map_append]
  show _ = _ ++ [g (a + (k - a))]
  rw [show a + (k - a) = k by omega]
theorem postL_stay (g : Nat → Bool) {a k : Nat} (h : k < a) : postL g a k = postL g a (k + 1) := by
  rw [postL, postL, show k - a = 0 by omega, show k + 1 - a = 0 by omega]
/-- The first a values, and the next p. -/
def tabL (g : Nat → Bool) (a p : Nat) : List Bool × List Bool := (preL g a (a + p), postL g a (a + p))
def shortL (h c : List Bool) : List Bool × List Bool :=
  let p := findQ (repB c) (c.length - 1) 1
  tabL (atL h c) (headL (atL h c) p h.length) p
def boundL (h c : List Bool) : LOut := if 0 < (shortL h c).2.length ∧ (shortL h c).1.length + (shortL h c).2.length ≤ 512 then (shortL h c, 0) else errO 2
theorem findQ_at {t : Nat → Bool} {q : Nat} (h : t q = true) : ∀ n, findQ t n q = q
  | 0 => rfl
  | n + 1 => by rw [findQ, if_pos h]
def repeatsS : QSpec := fun vs K => ∃ c : List Bool, ∃ p : Nat, vs = [.c (.ds c.length (.bools c)), .c (.int .i64 p)] ∧ (0 < p ∧ c.length ≤ 9223372036854775807 ∧ p ≤ 9223372036854775807) ∧ K (.c (.bool (repB c p)))
theorem repeats_ok : FlatOK Tryd.prog gl 60 repeatsS := by
 refine flat_of (Γ := g0) (N := 28) Tryd.func60 rfl rfl fun vs K h => ?_
 obtain ⟨c, p, rfl, ⟨hp, hl1, hl2⟩, h⟩ := h
 refine ⟨_, h, rfl, by simp, fun w I => ?_⟩
 refine seq_k fun _ hK1 => ?_
 refine region_k g0_ok fun _ hK2 => ?_
 refine s_step rfl (by decide) rfl fun _ hS => ?_
 refine hS _ _ _ ?_
 clear hS
 refine s_nil ?_
 refine hK2 _ _ _ ?_
 refine hK1 _ _ _ ?_
 refine seq_k fun _ hK3 => ?_
 refine seq_k fun _ hK4 => ?_
 refine region_k g0_ok fun _ hK5 => ?_
 refine s_step rfl (by decide) rfl fun _ hS => ?_
 refine hS _ _ _ ?_
 clear hS
 refine s_step rfl (by decide) rfl fun _ hS => ?_
 repeat refine And.intro qLh0 ?_
 refine hS _ _ _ ?_
 clear hS
 refine s_step rfl (by decide) rfl fun _ hS => ?_
 refine hS _ _ _ ?_
 clear hS
 refine s_step rfl (by decide) rfl fun _ hS => ?_
 repeat refine And.intro qLh0 ?_
 refine hS _ _ _ ?_
 clear hS
 refine s_step rfl (by decide) rfl fun _ hS => ?_
 repeat refine And.intro qLh0 ?_
 refine hS _ _ _ ?_
 clear hS
 refine s_nil ?_
 refine hK5 _ _ _ ?_
 refine hK4 _ _ _ ?_
 refine WP_cond (b := _) rfl (fun h_t10 => ?_) (fun h_t10 => ?_)
 ·try simp only [decide_eq_false_iff_not, Bool.not_eq_eq_eq_not, Bool.not_true] at h_t10
  have hmod : c.length % p ≠ 0 := fun e => h_t10 (by exact_mod_cast e)
  refine seq_k fun _ hK6 => ?_
  refine region_k g0_ok fun _ hK7 => ?_
  refine s_step rfl (by decide) rfl fun _ hS => ?_
  refine hS _ _ _ ?_
  clear hS
  refine s_nil ?_
  refine hK7 _ _ _ ?_
  refine hK6 _ _ _ ?_
  refine WP_ret (Done_flat g0_ok (fun _ _ h => h) (by first | rfl | assumption) [.tmp 4] rfl ?_)
  repeat refine And.intro (by first | omega | exact trivial | rfl | (simp <;> omega)) ?_
  try refine ite_yes (by first | omega | exact trivial | rfl | (simp <;> omega)) ?_
  show SV.c (.bool false) = _
  rw [repB, decide_eq_false (fun hh => hmod hh.1)]
 ·try simp only [decide_eq_true_eq, Bool.not_eq_eq_eq_not, Bool.not_false] at h_t10
  have hmod : c.length % p = 0 := by exact_mod_cast h_t10
  refine WP_skip ?_
  refine hK3 _ _ _ ?_
  refine seq_k fun _ hK8 => ?_
  refine seq_k fun _ hK9 => ?_
  refine region_k g0_ok fun _ hK10 => ?_
  refine s_step rfl (by decide) rfl fun _ hS => ?_
  refine hS _ _ _ ?_
  clear hS
  refine s_nil ?_
  refine hK10 _ _ _ ?_
  refine hK9 _ _ _ ?_
  refine WP_block ?_
  refine WP_loop (α := Nat) (fun k => [(0, .c (.ds c.length (.bools c))), (1, .c (.int .i64 p)), (5, .c (.int .i64 k))]) (fun k => []) 0 (fun k => k ≤ c.length ∧ ∀ i, i < k → c.getD i false = c.getD (i % p) false) (fun k => c.length - k) ?_ ?_
  ·refine Done_some [] id 0 ⟨Nat.zero_le _, fun i hi => absurd hi (Nat.not_lt_zero i)⟩ ⟨?_, ?_, (by decide : List.Nodup ([] : List Nat)), ?_, ?_, ⟨Nat.zero_le _, fun i hi => absurd hi (Nat.not_lt_zero i)⟩⟩
   ·exact uLh0
   ·exact uLh0
   ·exact uLh0
   ·exact uLh0
  ·intro k hk
   refine seq_k fun _ hK11 => ?_
   refine seq_k fun _ hK12 => ?_
   refine region_k g0_ok fun _ hK13 => ?_
   refine s_step rfl (by decide) rfl fun _ hS => ?_
   refine hS _ _ _ ?_
   clear hS
   refine s_step rfl (by decide) rfl fun _ hS => ?_
   refine hS _ _ _ ?_
   clear hS
   refine s_step rfl (by decide) rfl fun _ hS => ?_
   repeat refine And.intro qLh1 ?_
   refine hS _ _ _ ?_
   clear hS
   refine s_step rfl (by decide) rfl fun _ hS => ?_
   repeat refine And.intro qLh1 ?_
   refine hS _ _ _ ?_
   clear hS
   refine s_nil ?_
   refine hK13 _ _ _ ?_
   refine hK12 _ _ _ ?_
   refine WP_cond (b := _) rfl (fun h_t14 => ?_) (fun h_t14 => ?_)
   ·try try simp only [decide_eq_true_eq] at h_t14
    refine WP_skip ?_
    refine hK11 _ _ _ ?_
    refine seq_k fun _ hK14 => ?_
    refine WP_block ?_
    refine seq_k fun _ hK15 => ?_
    have hkl : k < c.length := by omega
    have hz := Int.emod_nonneg (k : Int) (show (p : Int) ≠ 0 by omega)
    have hlt := Int.emod_lt_of_pos (k : Int) (show (0 : Int) < p by omega)
    have hme : ((k : Int) % p).toNat = k % p := by omega
    have hml := Nat.mod_le k p
    have hmi : (k : Int) % p ≤ k := by omega
    refine sched_k g0_ok [(0, true), (1, true), (2, true), (3, true), (4, true), (5, true), (6, true), (7, true), (8, true), (9, true), (10, true)] rfl (by kernel_rfl) (by kernel_rfl) fun _ hK16 => ?_
    refine d_read rfl rfl (by decide) rfl fun _ hS => ?_
    refine hS _ ?_
    clear hS
    refine d_read rfl rfl (by decide) rfl fun _ hS => ?_
    refine hS _ ?_
    clear hS
    refine d_read rfl rfl (by decide) rfl fun _ hS => ?_
    repeat refine And.intro qLh2 ?_
    refine hS _ ?_
    clear hS
    refine d_read rfl rfl (by decide) rfl fun _ hS => ?_
    repeat refine And.intro qLh2 ?_
    first | refine hS _ ?_ | (refine whole_yes qLh2 ?_; refine hS _ ?_) | (refine whole_sub ?_; refine hS _ ?_)
    clear hS
    refine d_read rfl rfl (by decide) rfl fun _ hS => ?_
    refine hS _ ?_
    clear hS
    refine d_read rfl rfl (by decide) rfl fun _ hS => ?_
    refine hS _ ?_
    clear hS
    refine d_read rfl rfl (by decide) rfl fun _ hS => ?_
    refine hS _ ?_
    clear hS
    refine d_read rfl rfl (by decide) rfl fun _ hS => ?_
    repeat refine And.intro qLh2 ?_
    refine hS _ ?_
    clear hS
    refine d_read rfl rfl (by decide) rfl fun _ hS => ?_
    repeat refine And.intro qLh2 ?_
    refine hS _ ?_
    clear hS
    refine d_read rfl rfl (by decide) rfl fun _ hS => ?_
    repeat refine And.intro qLh2 ?_
    first | refine hS _ ?_ | (refine whole_yes qLh2 ?_; refine hS _ ?_) | (refine whole_sub ?_; refine hS _ ?_)
    clear hS
    refine d_read rfl rfl (by decide) rfl fun _ hS => ?_
    repeat refine And.intro qLh2 ?_
    refine hS _ ?_
    clear hS
    refine d_nil ?_
    refine hK16 _ _ _ ?_
    refine hK15 _ _ _ ?_
    refine WP_cond (b := _) rfl (fun h_t27 => ?_) (fun h_t27 => ?_)
    ·simp only [Int.toNat_natCast, Nat.mul_one, hme, Bool.not_eq_true', decide_eq_false_iff_not] at h_t27
     refine seq_k fun _ hK17 => ?_
     refine region_k g0_ok fun _ hK18 => ?_
     refine s_step rfl (by decide) rfl fun _ hS => ?_
     refine hS _ _ _ ?_
     clear hS
     refine s_nil ?_
     refine hK18 _ _ _ ?_
     refine hK17 _ _ _ ?_
     refine WP_ret (Done_flat g0_ok (fun _ _ h => h) (by first | rfl | assumption) [.tmp 4] rfl ?_)
     repeat refine And.intro (by first | omega | exact trivial | rfl | (simp <;> omega)) ?_
     try refine ite_yes (by first | omega | exact trivial | rfl | (simp <;> omega)) ?_
     show SV.c (.bool false) = _
     rw [repB, decide_eq_false (fun hh => h_t27 (hh.2 k hkl))]
    ·simp only [Int.toNat_natCast, Nat.mul_one, hme, Bool.not_eq_false', decide_eq_true_eq] at h_t27
     have heq : c.getD k false = c.getD (k % p) false := h_t27
     refine WP_skip ?_
     refine done_block ?_
     refine hK14 _ _ _ ?_
     refine region_k g0_ok fun _ hK19 => ?_
     refine s_step rfl (by decide) rfl fun _ hS => ?_
     refine hS _ _ _ ?_
     clear hS
     refine s_step rfl (by decide) rfl fun _ hS => ?_
     repeat refine And.intro qLh1 ?_
     refine hS _ _ _ ?_
     clear hS
     refine s_step rfl (by decide) rfl fun _ hS => ?_
     refine hS _ _ _ ?_
     clear hS
     refine s_nil ?_
     refine hK19 _ _ _ ?_
     refine Done_some [] id (k + 1) ⟨⟨by omega, fun i hi => (Nat.lt_or_ge i k).elim (hk.2 i) (fun h1 => by rw [show i = k by omega]; exact heq)⟩, by omega⟩ ⟨?_, ?_, (by decide : List.Nodup ([] : List Nat)), ?_, ?_, ⟨Nat.zero_le _, fun i hi => absurd hi (Nat.not_lt_zero i)⟩⟩
     ·exact uLh0
     ·exact uLh0
     ·exact uLh0
     ·exact uLh0
   ·try try simp only [decide_eq_false_iff_not, Int.not_lt] at h_t14
    refine WP_exit ?_
    refine done_thenx ?_
    refine done_thenx ?_
    refine Done_hit ?_
    refine hK8 _ _ _ ?_
    refine seq_k fun _ hK20 => ?_
    refine region_k g0_ok fun _ hK21 => ?_
    refine s_step rfl (by decide) rfl fun _ hS => ?_
    refine hS _ _ _ ?_
    clear hS
    refine s_nil ?_
    refine hK21 _ _ _ ?_
    refine hK20 _ _ _ ?_
    refine WP_ret (Done_flat g0_ok (fun _ _ h => h) (by first | rfl | assumption) [.tmp 4] rfl ?_)
    repeat refine And.intro (by first | omega | exact trivial | rfl | (simp <;> omega)) ?_
    try refine ite_yes (by first | omega | exact trivial | rfl | (simp <;> omega)) ?_
    show SV.c (.bool true) = _
    rw [repB, decide_eq_true ⟨hmod, fun i hi => hk.2 i (by omega)⟩]

noncomputable def h1 : Ctx := { P := Tryd.prog, ty := ty, glob := gl, fs := [(60, .flat repeatsS), (37, .flat atRS)] }
theorem h1_ok : h1.OK := ⟨tyOK, ⟨⟨enters_mk Tryd.func60 (by kernel_rfl) rfl, repeats_ok⟩, ⟨enters_mk Tryd.func37 (by kernel_rfl) rfl, atR_ok⟩, trivial⟩, mixed⟩
@[simp] theorem h1_ty : h1.ty = ty := rfl

@[simp] theorem bools_len (l : List Bool) : (Cont.bools l).len = l.length := rfl
def shortestS : QSpec := fun vs K => ∃ a b : List Bool, vs = [lsV a b] ∧ (0 < b.length ∧ a.length + b.length ≤ 1048576) ∧ K (lsV (shortL a b).1 (shortL a b).2)
set_option maxHeartbeats 1000000 in
theorem shortest_ok : DataOK Tryd.prog gl 54 shortestS := by
 refine data_of (Γ := h1) (N := 62) Tryd.func54 rfl rfl fun vs K h => ?_
 obtain ⟨a, b, rfl, ⟨hb0, hl1⟩, h⟩ := h
 refine ⟨_, h, low_lsC, by simp, fun w I => ?_⟩
 refine seq_k fun _ hK1 => ?_
 refine region_k h1_ok fun _ hK2 => ?_
 refine s_step rfl (by decide) rfl fun _ hS => ?_
 repeat refine And.intro qLh1 ?_
 refine hS _ _ _ ?_
 clear hS
 refine s_step rfl (by decide) rfl fun _ hS => ?_
 repeat refine And.intro qLh1 ?_
 refine hS _ _ _ ?_
 clear hS
 refine s_nil ?_
 refine hK2 _ _ _ ?_
 refine hK1 _ _ _ ?_
 refine seq_k fun _ hK3 => ?_
 refine region_k h1_ok fun _ hK4 => ?_
 refine s_step rfl (by decide) rfl fun _ hS => ?_
 refine hS _ _ _ ?_
 clear hS
 refine s_nil ?_
 refine hK4 _ _ _ ?_
 refine hK3 _ _ _ ?_
 refine seq_k fun _ hK5 => ?_
 refine WP_block ?_
 refine WP_loop (α := Nat) (fun p => [(1, .c (.ptr 0 0)), (2, .c (.ptr 1 0)), (3, .c (.int .i64 p))]) (fun p => [(0, .own 24 (.cells [.ds a.length (.bools a), .ds b.length (.bools b)]) 2), (1, .own 24 (.cells [.nils, .nils]) 2)]) 2 (fun p => 1 ≤ p ∧ p ≤ b.length ∧ findQ (repB b) (b.length - p) p = findQ (repB b) (b.length - 1) 1) (fun p => b.length - p) ?_ ?_
 ·refine Done_some [] id 1 ⟨Nat.le_refl _, hb0, rfl⟩ ⟨?_, ?_, (by decide : List.Nodup ([0, 1] : List Nat)), ?_, ?_, ⟨Nat.zero_le _, fun i hi => absurd hi (Nat.not_lt_zero i)⟩⟩
  ·exact uLh1
  ·exact uLh1
  ·exact uLh1
  ·exact uLh1
 ·intro p hp
  refine seq_k fun _ hK6 => ?_
  refine seq_k fun _ hK7 => ?_
  refine region_k h1_ok fun _ hK8 => ?_
  refine s_step rfl (by decide) rfl fun _ hS => ?_
  repeat refine And.intro qLh1 ?_
  refine hS _ _ _ ?_
  clear hS
  refine s_step rfl (by decide) rfl fun _ hS => ?_
  repeat refine And.intro qLh1 ?_
  first | refine hS _ _ _ ?_ | (refine whole_yes qLh1 ?_; refine hS _ _ _ ?_) | (refine whole_sub ?_; refine hS _ _ _ ?_)
  clear hS
  refine s_step rfl (by decide) rfl fun _ hS => ?_
  refine hS _ _ _ ?_
  clear hS
  refine s_step rfl (by decide) rfl fun _ hS => ?_
  repeat first | refine And.intro qLh1 ?_ | refine whole_yes qLh1 ?_ | refine whole_sub ?_
  refine ⟨b, p, rfl, ⟨by omega, by omega, by omega⟩, ?_⟩
  repeat refine And.intro qLh1 ?_
  first | refine hS _ _ _ ?_ | (intro cap3 hcap3; refine hS _ _ _ ?_)
  clear hS
  refine s_step rfl (by decide) rfl fun _ hS => ?_
  refine hS _ _ _ ?_
  clear hS
  refine s_nil ?_
  refine hK8 _ _ _ ?_
  refine hK7 _ _ _ ?_
  refine WP_cond (b := _) rfl (fun h_t11 => ?_) (fun h_t11 => ?_)
  ·simp only [Bool.not_eq_true'] at h_t11
   have hnr : repB b p = false := h_t11
   have hpl : p < b.length := by
    rcases Nat.lt_or_ge p b.length with h1 | h1
    ·exact h1
    ·have : p = b.length := by omega
     rw [this, repB_all] at hnr; cases hnr
   refine WP_skip ?_
   refine hK6 _ _ _ ?_
   refine WP_block ?_
   refine region_k h1_ok fun _ hK9 => ?_
   refine s_step rfl (by decide) rfl fun _ hS => ?_
   refine hS _ _ _ ?_
   clear hS
   refine s_step rfl (by decide) rfl fun _ hS => ?_
   repeat refine And.intro qLh1 ?_
   refine hS _ _ _ ?_
   clear hS
   refine s_step rfl (by decide) rfl fun _ hS => ?_
   refine hS _ _ _ ?_
   clear hS
   refine s_nil ?_
   refine hK9 _ _ _ ?_
   refine done_block ?_
   refine Done_some [] id (p + 1) ⟨⟨by omega, by omega, by rw [← hp.2.2, show b.length - p = (b.length - (p + 1)) + 1 by omega, findQ, if_neg (by rw [hnr]; decide)]⟩, by omega⟩ ⟨?_, ?_, (by decide : List.Nodup ([0, 1] : List Nat)), ?_, ?_, ⟨Nat.zero_le _, fun i hi => absurd hi (Nat.not_lt_zero i)⟩⟩
   ·exact uLh1
   ·exact uLh1
   ·exact uLh1
   ·exact uLh1
  ·simp only [Bool.not_eq_false'] at h_t11
   have hyr : repB b p = true := h_t11
   refine WP_exit ?_
   refine done_thenx ?_
   refine done_thenx ?_
   refine Done_hit ?_
   refine hK5 _ _ _ ?_
   refine seq_k fun _ hK10 => ?_
   obtain ⟨q, hq⟩ : ∃ q, q = findQ (repB b) (b.length - 1) 1 := ⟨_, rfl⟩
   obtain rfl : q = p := by rw [hq, ← hp.2.2, findQ_at hyr]
   have hqb := hp.2.1
   have hq0 := hp.1
   refine region_k h1_ok fun _ hK11 => ?_
   refine s_step rfl (by decide) rfl fun _ hS => ?_
   repeat refine And.intro qLh1 ?_
   refine hS _ _ _ ?_
   clear hS
   refine s_step rfl (by decide) rfl fun _ hS => ?_
   repeat refine And.intro qLh1 ?_
   first | refine hS _ _ _ ?_ | (refine whole_yes qLh1 ?_; refine hS _ _ _ ?_) | (refine whole_sub ?_; refine hS _ _ _ ?_)
   clear hS
   refine s_step rfl (by decide) rfl fun _ hS => ?_
   repeat refine And.intro qLh1 ?_
   refine hS _ _ _ ?_
   clear hS
   refine s_step rfl (by decide) rfl fun _ hS => ?_
   refine hS _ _ _ ?_
   clear hS
   refine s_nil ?_
   refine hK11 _ _ _ ?_
   refine hK10 _ _ _ ?_
   refine WP_cut (α := Nat) (fun h => [(1, .c (.ptr 0 0)), (2, .c (.ptr 1 0)), (3, .c (.int .i64 q)), (4, .c (.int .i64 h))]) (fun h => [(0, .own 24 (.cells [.ds a.length (.bools a), .ds b.length (.bools b)]) 2), (1, .own 24 (.cells [.nils, .nils]) 2)]) 2 (fun h => h = headL (atL a b) q a.length ∧ h ≤ a.length) ?_ ?_
   ·skip
    refine WP_block ?_
    refine WP_loop (α := Nat) (fun k => [(1, .c (.ptr 0 0)), (2, .c (.ptr 1 0)), (3, .c (.int .i64 q)), (4, .c (.int .i64 k))]) (fun k => [(0, .own 24 (.cells [.ds a.length (.bools a), .ds b.length (.bools b)]) 2), (1, .own 24 (.cells [.nils, .nils]) 2)]) 2 (fun k => k ≤ a.length ∧ headL (atL a b) q k = headL (atL a b) q a.length) (fun k => k) ?_ ?_
    ·refine Done_some [] id a.length ⟨Nat.le_refl _, rfl⟩ ⟨?_, ?_, (by decide : List.Nodup ([0, 1] : List Nat)), ?_, ?_, ⟨Nat.zero_le _, fun i hi => absurd hi (Nat.not_lt_zero i)⟩⟩
     ·exact uLh1
     ·exact uLh1
     ·exact uLh1
     ·exact uLh1
    ·intro k hk
     refine seq_k fun _ hK12 => ?_
     refine seq_k fun _ hK13 => ?_
     refine sched_k h1_ok [(0, true), (1, true), (2, true), (3, true), (4, true), (5, true), (7, true), (8, true), (9, true), (10, true), (11, true), (6, false), (12, false), (13, true), (14, true)] rfl (by kernel_rfl) (by kernel_rfl) fun _ hK14 => ?_
     refine d_read rfl rfl (by decide) rfl fun _ hS => ?_
     refine hS _ ?_
     clear hS
     refine d_read rfl rfl (by decide) rfl fun _ hS => ?_
     repeat refine And.intro qLh3 ?_
     refine hS _ ?_
     clear hS
     refine d_read rfl rfl (by decide) rfl fun _ hS => ?_
     refine d_split hS (fun hb2 => ?_) (fun hb2 => ?_)
     ·clear hS
      try simp only [decide_eq_true_eq] at hb2
      refine d_readg (b := true) rfl rfl (by decide) rfl rfl (fun _ _ hS => ?_) (fun e => absurd e (by decide))
      repeat refine And.intro qLh3 ?_
      first | refine hS _ ?_ | (refine whole_yes qLh3 ?_; refine hS _ ?_) | (refine whole_sub ?_; refine hS _ ?_)
      clear hS
      refine d_readg (b := true) rfl rfl (by decide) rfl rfl (fun _ _ hS => ?_) (fun e => absurd e (by decide))
      refine hS _ ?_
      clear hS
      refine d_readg (b := true) rfl rfl (by decide) rfl rfl (fun _ _ hS => ?_) (fun e => absurd e (by decide))
      repeat refine And.intro qLh3 ?_
      refine hS _ ?_
      clear hS
      refine d_readg (b := true) rfl rfl (by decide) rfl rfl (fun _ _ hS => ?_) (fun e => absurd e (by decide))
      repeat refine And.intro qLh3 ?_
      first | refine hS _ ?_ | (refine whole_yes qLh3 ?_; refine hS _ ?_) | (refine whole_sub ?_; refine hS _ ?_)
      clear hS
      refine d_readg (b := true) rfl rfl (by decide) rfl rfl (fun _ _ hS => ?_) (fun e => absurd e (by decide))
      refine hS _ ?_
      clear hS
      refine d_readg (b := true) rfl rfl (by decide) rfl rfl (fun _ _ hS => ?_) (fun e => absurd e (by decide))
      repeat refine And.intro qLh3 ?_
      refine hS _ ?_
      clear hS
      refine d_readg (b := true) rfl rfl (by decide) rfl rfl (fun _ _ hS => ?_) (fun e => absurd e (by decide))
      refine hS _ ?_
      clear hS
      refine d_readg (b := true) rfl rfl (by decide) rfl rfl (fun _ _ hS => ?_) (fun e => absurd e (by decide))
      repeat refine And.intro qLh3 ?_
      refine hS _ ?_
      clear hS
      refine d_growg (b := true) rfl rfl (by decide) rfl rfl (fun _ _ hS => ?_) (fun e => absurd e (by decide))
      repeat first | refine And.intro qLh3 ?_ | refine whole_yes qLh3 ?_ | refine whole_sub ?_
      refine ⟨a, b, k - 1, by rw [show ((k - 1 : Nat) : Int) = (k : Int) - 1 by omega], ⟨hb0, by omega, by omega, by omega⟩, ?_⟩
      repeat refine And.intro qLh3 ?_
      first | refine hS _ _ _ ?_ | (intro cap6 hcap6; refine hS _ _ _ ?_)
      clear hS
      refine d_growg (b := true) rfl rfl (by decide) rfl rfl (fun _ _ hS => ?_) (fun e => absurd e (by decide))
      repeat first | refine And.intro qLh3 ?_ | refine whole_yes qLh3 ?_ | refine whole_sub ?_
      refine ⟨a, b, k - 1 + q, by rw [show ((k - 1 + q : Nat) : Int) = (k : Int) - 1 + q by omega], ⟨hb0, by omega, by omega, by omega⟩, ?_⟩
      repeat refine And.intro qLh3 ?_
      first | refine hS _ _ _ ?_ | (intro cap12 hcap12; refine hS _ _ _ ?_)
      clear hS
      refine d_readg (b := true) rfl rfl (by decide) rfl rfl (fun _ _ hS => ?_) (fun e => absurd e (by decide))
      repeat refine And.intro qLh3 ?_
      refine hS _ ?_
      clear hS
      refine d_read rfl rfl (by decide) rfl fun _ hS => ?_
      refine hS _ ?_
      clear hS
      refine d_nil ?_
      refine hK14 _ _ _ ?_
      refine hK13 _ _ _ ?_
      refine WP_cond (b := _) rfl (fun h_t31 => ?_) (fun h_t31 => ?_)
      ·try simp only [decide_eq_true_eq, if_true] at h_t31
       refine WP_skip ?_
       refine hK12 _ _ _ ?_
       refine WP_block ?_
       refine region_k h1_ok fun _ hK15 => ?_
       refine s_step rfl (by decide) rfl fun _ hS => ?_
       refine hS _ _ _ ?_
       clear hS
       refine s_step rfl (by decide) rfl fun _ hS => ?_
       repeat refine And.intro qLh1 ?_
       refine hS _ _ _ ?_
       clear hS
       refine s_step rfl (by decide) rfl fun _ hS => ?_
       refine hS _ _ _ ?_
       clear hS
       refine s_nil ?_
       refine hK15 _ _ _ ?_
       refine done_block ?_
       refine Done_some [] id (k - 1) ⟨⟨by omega, by rw [← hk.2]; conv => rhs; rw [show k = (k - 1) + 1 by omega, headL, if_pos h_t31]⟩, by omega⟩ ⟨?_, ?_, (by decide : List.Nodup ([0, 1] : List Nat)), ?_, ?_, ⟨Nat.zero_le _, fun i hi => absurd hi (Nat.not_lt_zero i)⟩⟩
       ·exact uLh1
       ·exact uLh1
       ·exact uLh1
       ·exact uLh1
      ·try simp only [decide_eq_false_iff_not, if_true] at h_t31
       have hkfin : k = headL (atL a b) q a.length := by
        rw [← hk.2]
        conv => rhs; rw [show k = (k - 1) + 1 by omega, headL, if_neg h_t31]
        omega
       refine WP_exit ?_
       refine done_thenx ?_
       refine done_thenx ?_
       refine Done_hit ?_
       refine Done_some [] id k ⟨hkfin, hk.1⟩ ⟨?_, ?_, (by decide : List.Nodup ([0, 1] : List Nat)), ?_, ?_, ⟨Nat.zero_le _, fun i hi => absurd hi (Nat.not_lt_zero i)⟩⟩
       ·exact uLh1
       ·exact uLh1
       ·exact uLh1
       ·exact uLh1
     ·clear hS
      try simp only [decide_eq_false_iff_not, Int.not_lt] at hb2
      refine d_readg (b := false) rfl rfl (by decide) rfl rfl (fun e => absurd e (by decide)) (fun _ => ?_)
      refine d_readg (b := false) rfl rfl (by decide) rfl rfl (fun e => absurd e (by decide)) (fun _ => ?_)
      refine d_readg (b := false) rfl rfl (by decide) rfl rfl (fun e => absurd e (by decide)) (fun _ => ?_)
      refine d_readg (b := false) rfl rfl (by decide) rfl rfl (fun e => absurd e (by decide)) (fun _ => ?_)
      refine d_readg (b := false) rfl rfl (by decide) rfl rfl (fun e => absurd e (by decide)) (fun _ => ?_)
      refine d_readg (b := false) rfl rfl (by decide) rfl rfl (fun e => absurd e (by decide)) (fun _ => ?_)
      refine d_readg (b := false) rfl rfl (by decide) rfl rfl (fun e => absurd e (by decide)) (fun _ => ?_)
      refine d_readg (b := false) rfl rfl (by decide) rfl rfl (fun e => absurd e (by decide)) (fun _ => ?_)
      refine d_growg (b := false) rfl rfl (by decide) rfl rfl (fun e => absurd e (by decide)) (fun _ => ?_)
      refine d_growg (b := false) rfl rfl (by decide) rfl rfl (fun e => absurd e (by decide)) (fun _ => ?_)
      refine d_readg (b := false) rfl rfl (by decide) rfl rfl (fun e => absurd e (by decide)) (fun _ => ?_)
      refine d_read rfl rfl (by decide) rfl fun _ hS => ?_
      refine hS _ ?_
      clear hS
      refine d_nil ?_
      refine hK14 _ _ _ ?_
      refine hK13 _ _ _ ?_
      have hkfin : k = headL (atL a b) q a.length := by
       rw [← hk.2]
       obtain rfl : k = 0 := by omega
       rfl
      refine WP_cond (b := _) rfl (fun h_t31 => ?_) (fun _ => ?_)
      ·exfalso; cases h_t31
      refine WP_exit ?_
      refine done_thenx ?_
      refine done_thenx ?_
      refine Done_hit ?_
      refine Done_some [] id k ⟨hkfin, hk.1⟩ ⟨?_, ?_, (by decide : List.Nodup ([0, 1] : List Nat)), ?_, ?_, ⟨Nat.zero_le _, fun i hi => absurd hi (Nat.not_lt_zero i)⟩⟩
      ·exact uLh1
      ·exact uLh1
      ·exact uLh1
      ·exact uLh1
   ·intro h hh
    have hS : shortL a b = tabL (atL a b) h q := by rw [shortL, ← hq, ← hh.1]
    refine seq_k fun _ hK16 => ?_
    refine region_k h1_ok fun _ hK17 => ?_
    refine s_step rfl (by decide) rfl fun _ hS => ?_
    repeat refine And.intro qLh1 ?_
    refine hS _ _ _ ?_
    clear hS
    refine s_step rfl (by decide) rfl fun _ hS => ?_
    repeat refine And.intro qLh1 ?_
    refine hS _ _ _ ?_
    clear hS
    refine s_step0 rfl rfl fun _ hS => ?_
    repeat refine And.intro qLh1 ?_
    first | refine hS _ _ _ ?_ | (refine splice_full qLh1 ?_; refine hS _ _ _ ?_)
    clear hS
    refine s_nil ?_
    refine hK17 _ _ _ ?_
    refine hK16 _ _ _ ?_
    refine seq_k fun _ hK18 => ?_
    refine seq_k fun _ hK19 => ?_
    refine region_k h1_ok fun _ hK20 => ?_
    refine s_step rfl (by decide) rfl fun _ hS => ?_
    refine hS _ _ _ ?_
    clear hS
    refine s_nil ?_
    refine hK20 _ _ _ ?_
    refine hK19 _ _ _ ?_
    refine WP_block ?_
    refine WP_nilat 2 0 4 (.bools []) rfl rfl rfl trivial ?_
    refine WP_nilat 2 1 4 (.bools []) rfl rfl rfl trivial ?_
    refine WP_loop (α := Nat × Nat × Nat) (fun k => [(1, .c (.ptr 0 0)), (2, .c (.ptr 1 0)), (3, .c (.int .i64 q)), (4, .c (.int .i64 h)), (5, .c (.ptr 2 0)), (6, .c (.int .i64 k.1))]) (fun k => [(0, .own 24 (.cells [.ds a.length (.bools a), .ds b.length (.bools b)]) 2), (1, .own 24 (.cells [.nils, .nils]) 2), (2, .own 24 (.cells [.slice 3 0 (preL (atL a b) h k.1).length k.2.1, .slice 4 0 (postL (atL a b) h k.1).length k.2.2]) 2), (3, .own 4 (.bools (preL (atL a b) h k.1)) k.2.1), (4, .own 4 (.bools (postL (atL a b) h k.1)) k.2.2)]) 5 (fun k => k.1 ≤ h + q) (fun k => h + q - k.1) ?_ ?_
    ·refine Done_some [] id (0, 0, 0) (Nat.zero_le _) ⟨?_, ?_, (by decide : List.Nodup ([0, 1, 2, 3, 4] : List Nat)), ?_, ?_, ⟨Nat.zero_le _, fun i hi => absurd hi (Nat.not_lt_zero i)⟩⟩
     ·exact uLh2
     ·exact uLh2
     ·exact uLh2
     ·exact uLh2
    ·intro k hk
     refine seq_k fun _ hK21 => ?_
     refine seq_k fun _ hK22 => ?_
     refine region_k h1_ok fun _ hK23 => ?_
     refine s_step rfl (by decide) rfl fun _ hS => ?_
     refine hS _ _ _ ?_
     clear hS
     refine s_step rfl (by decide) rfl fun _ hS => ?_
     refine hS _ _ _ ?_
     clear hS
     refine s_step rfl (by decide) rfl fun _ hS => ?_
     refine hS _ _ _ ?_
     clear hS
     refine s_step rfl (by decide) rfl fun _ hS => ?_
     repeat refine And.intro qLh1 ?_
     refine hS _ _ _ ?_
     clear hS
     refine s_step rfl (by decide) rfl fun _ hS => ?_
     repeat refine And.intro qLh1 ?_
     refine hS _ _ _ ?_
     clear hS
     refine s_nil ?_
     refine hK23 _ _ _ ?_
     refine hK22 _ _ _ ?_
     refine WP_cond (b := _) rfl (fun h_t39 => ?_) (fun h_t39 => ?_)
     ·try try simp only [decide_eq_true_eq] at h_t39
      refine WP_skip ?_
      refine hK21 _ _ _ ?_
      refine seq_k fun _ hK24 => ?_
      refine WP_block ?_
      refine seq_k fun _ hK25 => ?_
      refine region_k h1_ok fun _ hK26 => ?_
      refine s_step rfl (by decide) rfl fun _ hS => ?_
      refine hS _ _ _ ?_
      clear hS
      refine s_step rfl (by decide) rfl fun _ hS => ?_
      refine hS _ _ _ ?_
      clear hS
      refine s_step rfl (by decide) rfl fun _ hS => ?_
      repeat refine And.intro qLh1 ?_
      refine hS _ _ _ ?_
      clear hS
      refine s_nil ?_
      refine hK26 _ _ _ ?_
      refine hK25 _ _ _ ?_
      refine WP_cond (b := _) rfl (fun h_t44 => ?_) (fun h_t44 => ?_)
      ·try simp only [decide_eq_true_eq] at h_t44
       have hka : k.1 < h := by omega
       have hkk : k.1 < h + q := by omega
       refine sched_k h1_ok [(0, true), (1, true), (2, true), (3, true), (4, false), (5, false), (6, false), (7, true), (8, false)] rfl (by kernel_rfl) (by kernel_rfl) fun _ hK27 => ?_
       refine d_read rfl rfl (by decide) rfl fun _ hS => ?_
       repeat refine And.intro qLh3 ?_
       refine hS _ ?_
       clear hS
       refine d_read rfl rfl (by decide) rfl fun _ hS => ?_
       repeat refine And.intro qLh3 ?_
       first | refine hS _ ?_ | (refine whole_yes qLh3 ?_; refine hS _ ?_) | (refine whole_sub ?_; refine hS _ ?_)
       clear hS
       refine d_read rfl rfl (by decide) rfl fun _ hS => ?_
       repeat refine And.intro qLh3 ?_
       first | refine hS _ ?_ | (refine whole_yes qLh3 ?_; refine hS _ ?_) | (refine whole_sub ?_; refine hS _ ?_)
       clear hS
       refine d_read rfl rfl (by decide) rfl fun _ hS => ?_
       refine hS _ ?_
       clear hS
       refine d_grow rfl rfl (by decide) rfl fun _ hS => ?_
       repeat first | refine And.intro qLh3 ?_ | refine whole_yes qLh3 ?_ | refine whole_sub ?_
       refine ⟨a, b, k.1, rfl, ⟨hb0, by omega, by omega, by omega⟩, ?_⟩
       repeat refine And.intro qLh3 ?_
       first | refine hS _ _ _ ?_ | (intro cap4 hcap4; refine hS _ _ _ ?_)
       clear hS
       refine d_grow rfl rfl (by decide) rfl fun _ hS => ?_
       repeat refine And.intro qLh3 ?_
       refine hS _ _ _ ?_
       clear hS
       refine d_grow rfl rfl (by decide) rfl fun _ hS => ?_
       repeat first | refine And.intro qLh3 ?_ | refine whole_yes qLh3 ?_ | refine whole_sub ?_
       intro cap6 hcap6; refine hS _ _ _ ?_
       clear hS
       refine d_read rfl rfl (by decide) rfl fun _ hS => ?_
       repeat refine And.intro qLh3 ?_
       refine hS _ ?_
       clear hS
       refine d_grow0 rfl rfl rfl fun _ hS => ?_
       repeat refine And.intro qLh3 ?_
       first | refine hS _ _ _ ?_ | (refine splice_full qLh3 ?_; refine hS _ _ _ ?_)
       clear hS
       refine d_nil ?_
       refine hK27 _ _ _ ?_
       refine done_block ?_
       refine hK24 _ _ _ ?_
       refine region_k h1_ok fun _ hK28 => ?_
       refine s_step rfl (by decide) rfl fun _ hS => ?_
       refine hS _ _ _ ?_
       clear hS
       refine s_step rfl (by decide) rfl fun _ hS => ?_
       repeat refine And.intro qLh1 ?_
       refine hS _ _ _ ?_
       clear hS
       refine s_step rfl (by decide) rfl fun _ hS => ?_
       refine hS _ _ _ ?_
       clear hS
       refine s_nil ?_
       refine hK28 _ _ _ ?_
       refine Done_some [] (fun i => if i = 3 then 6 else i) (k.1 + 1, cap6, k.2.2) ⟨by omega, by omega⟩ ⟨?_, ?_, (by decide : List.Nodup ([0, 1, 2, 6, 4] : List Nat)), ?_, ?_, ⟨Nat.zero_le _, fun i hi => absurd hi (Nat.not_lt_zero i)⟩⟩
       ·exact uLh2
       ·exact uLh2
       ·exact uLh2
       ·exact uLh2
      ·try simp only [decide_eq_false_iff_not, Int.not_lt] at h_t44
       have hka : h ≤ k.1 := by omega
       have hkk : k.1 < h + q := by omega
       refine sched_k h1_ok [(0, true), (1, true), (2, true), (3, true), (4, false), (5, false), (6, false), (7, true), (8, false)] rfl (by kernel_rfl) (by kernel_rfl) fun _ hK29 => ?_
       refine d_read rfl rfl (by decide) rfl fun _ hS => ?_
       repeat refine And.intro qLh3 ?_
       refine hS _ ?_
       clear hS
       refine d_read rfl rfl (by decide) rfl fun _ hS => ?_
       repeat refine And.intro qLh3 ?_
       first | refine hS _ ?_ | (refine whole_yes qLh3 ?_; refine hS _ ?_) | (refine whole_sub ?_; refine hS _ ?_)
       clear hS
       refine d_read rfl rfl (by decide) rfl fun _ hS => ?_
       repeat refine And.intro qLh3 ?_
       first | refine hS _ ?_ | (refine whole_yes qLh3 ?_; refine hS _ ?_) | (refine whole_sub ?_; refine hS _ ?_)
       clear hS
       refine d_read rfl rfl (by decide) rfl fun _ hS => ?_
       refine hS _ ?_
       clear hS
       refine d_grow rfl rfl (by decide) rfl fun _ hS => ?_
       repeat first | refine And.intro qLh3 ?_ | refine whole_yes qLh3 ?_ | refine whole_sub ?_
       refine ⟨a, b, k.1, rfl, ⟨hb0, by omega, by omega, by omega⟩, ?_⟩
       repeat refine And.intro qLh3 ?_
       first | refine hS _ _ _ ?_ | (intro cap4 hcap4; refine hS _ _ _ ?_)
       clear hS
       refine d_grow rfl rfl (by decide) rfl fun _ hS => ?_
       repeat refine And.intro qLh3 ?_
       refine hS _ _ _ ?_
       clear hS
       refine d_grow rfl rfl (by decide) rfl fun _ hS => ?_
       repeat first | refine And.intro qLh3 ?_ | refine whole_yes qLh3 ?_ | refine whole_sub ?_
       intro cap6 hcap6; refine hS _ _ _ ?_
       clear hS
       refine d_read rfl rfl (by decide) rfl fun _ hS => ?_
       repeat refine And.intro qLh3 ?_
       refine hS _ ?_
       clear hS
       refine d_grow0 rfl rfl rfl fun _ hS => ?_
       repeat refine And.intro qLh3 ?_
       first | refine hS _ _ _ ?_ | (refine splice_full qLh3 ?_; refine hS _ _ _ ?_)
       clear hS
       refine d_nil ?_
       refine hK29 _ _ _ ?_
       refine done_block ?_
       refine hK24 _ _ _ ?_
       refine region_k h1_ok fun _ hK30 => ?_
       refine s_step rfl (by decide) rfl fun _ hS => ?_
       refine hS _ _ _ ?_
       clear hS
       refine s_step rfl (by decide) rfl fun _ hS => ?_
       repeat refine And.intro qLh1 ?_
       refine hS _ _ _ ?_
       clear hS
       refine s_step rfl (by decide) rfl fun _ hS => ?_
       refine hS _ _ _ ?_
       clear hS
       refine s_nil ?_
       refine hK30 _ _ _ ?_
       refine Done_some [] (fun i => if i = 4 then 6 else i) (k.1 + 1, k.2.1, cap6) ⟨by omega, by omega⟩ ⟨?_, ?_, (by decide : List.Nodup ([0, 1, 2, 3, 6] : List Nat)), ?_, ?_, ⟨Nat.zero_le _, fun i hi => absurd hi (Nat.not_lt_zero i)⟩⟩
       ·exact uLh2
       ·exact uLh2
       ·exact uLh2
       ·exact uLh2
     ·try try simp only [decide_eq_false_iff_not, Int.not_lt] at h_t39
      refine WP_exit ?_
      refine done_thenx ?_
      refine done_thenx ?_
      refine Done_hit ?_
      refine hK18 _ _ _ ?_
      refine seq_k fun _ hK31 => ?_
      obtain ⟨k, c1, c2⟩ := k
      obtain rfl : k = h + q := by have := hk; simp at h_t39 this; omega
      refine region_k h1_ok fun _ hK32 => ?_
      refine s_step rfl (by decide) rfl fun _ hS => ?_
      repeat refine And.intro qLh1 ?_
      first | refine hS _ _ _ ?_ | (refine whole_yes qLh1 ?_; refine hS _ _ _ ?_) | (refine whole_sub ?_; refine hS _ _ _ ?_)
      clear hS
      refine s_step0 rfl rfl fun _ hS => ?_
      repeat refine And.intro qLh1 ?_
      first | refine hS _ _ _ ?_ | (refine splice_full qLh1 ?_; refine hS _ _ _ ?_)
      clear hS
      refine s_nil ?_
      refine hK32 _ _ _ ?_
      refine hK31 _ _ _ ?_
      refine WP_ret (Done_data h1_ok (fun _ _ h => h) (low_lsC) [3, 4] [.cell 2 24] rfl ?_)
      rw [hS]
      repeat' (first | exact trivial | refine And.intro ?_ ?_ | rfl | omega | decide | (show (_ : Nat) < _; decide) | exact low_nil' | refine low_cons' ?_ ?_ | exact Nat.le_refl _ | exact Nat.succ_pos _)
      all_goals first | omega | (simp [tabL]; done) | (simp [tabL] <;> omega) | skip
end
section
theorem qLi0 {a : Prop} (h : a := by first | omega | exact trivial | rfl | (simp only [len_u8s, len_u32s, len_u64s, len_ints, len_bools, len_cells]; omega) | exact inR_i64.mpr ⟨by omega, by omega⟩ | (simp <;> omega) | (refine And.intro ?_ ?_ <;> exact trivial) | exact ⟨trivial, trivial, trivial⟩ | decide | (refine And.intro rfl ?_; (repeat first | exact trivial | refine And.intro rfl ?_); done) | exact Nat.succ_pos _ | exact Nat.le_refl _ | (refine And.intro trivial ?_; (repeat first | exact trivial | refine And.intro trivial ?_); done)) : a := h
theorem qLi1 {a : Prop} (h : a := by first | omega | exact trivial | rfl | (simp only [len_u8s, len_u32s, len_u64s, len_ints, len_bools, len_cells]; omega) | exact inR_i64.mpr ⟨by omega, by omega⟩ | (simp [maxI] <;> omega) | (refine And.intro ?_ ?_ <;> exact trivial) | exact ⟨trivial, trivial, trivial⟩ | decide | (refine And.intro rfl ?_; (repeat first | exact trivial | refine And.intro rfl ?_); done) | exact Nat.succ_pos _ | exact Nat.le_refl _ | (refine And.intro trivial ?_; (repeat first | exact trivial | refine And.intro trivial ?_); done)) : a := h
theorem qLi2 {a : Prop} (h : a := by first | omega | exact trivial | rfl | (simp only [len_u8s, len_u32s, len_u64s, len_ints, len_bools, len_cells]; omega) | exact inR_i64.mpr ⟨by omega, by omega⟩ | (simp [maxI, hPI] <;> omega) | (rw [hPI, inR_i64]; omega) | (rw [inR_i64, hPI]; omega) | (refine And.intro ?_ ?_ <;> exact trivial) | exact ⟨trivial, trivial, trivial⟩ | decide | (refine And.intro rfl ?_; (repeat first | exact trivial | refine And.intro rfl ?_); done) | exact Nat.succ_pos _ | exact Nat.le_refl _ | (refine And.intro trivial ?_; (repeat first | exact trivial | refine And.intro trivial ?_); done)) : a := h
theorem qLi3 {a : Prop} (h : a := by first | omega | exact trivial | rfl | (simp only [len_u8s, len_u32s, len_u64s, len_ints, len_bools, len_cells]; omega) | exact inR_i64.mpr ⟨by omega, by omega⟩ | (simp <;> omega) | (simp <;> omega) | (refine And.intro ?_ ?_ <;> exact trivial) | exact ⟨trivial, trivial, trivial⟩ | decide | (refine And.intro rfl ?_; (repeat first | exact trivial | refine And.intro rfl ?_); done) | exact Nat.succ_pos _ | exact Nat.le_refl _ | (refine And.intro trivial ?_; (repeat first | exact trivial | refine And.intro trivial ?_); done)) : a := h

theorem uLi0 {a : Prop} (h : a := by
    repeat' (first | exact trivial | refine And.intro ?_ ?_ | rfl | omega | decide | (show (_ : Nat) < _; decide) | exact low_nil' | refine low_cons' ?_ ?_ | exact Nat.le_refl _ | exact Nat.succ_pos _)
    all_goals first | omega | (show (_ : List Bool) = _; first | exact preL_step _ hka | exact postL_step _ hka | exact preL_stay _ hka | exact postL_stay _ hka | exact hst | (rw [← hst]; simp [hb3]; done) | (simp [preL, postL]; done)) | (simp; done) | (simp <;> omega) | exact maxI _ _ | skip) : a := h

def canonRL (h c : List Bool) : LOut := if 0 < c.length ∧ h.length + c.length ≤ 512 then boundL h c else errO 1
def tabOut (t : List Bool × List Bool) : LOut := boundL t.1 t.2
def combL (op : Bool → Bool → Bool) (a b c d : List Bool) : LOut := if (0 < b.length ∧ a.length + b.length ≤ 512) ∧ 0 < d.length ∧ c.length + d.length ≤ 512 then tabOut (tabL (fun n => op (atL a b n) (atL c d n)) (max a.length c.length) (b.length * d.length)) else errO 1
/-- Is a number the sum of a member of each set? -/
def sumAt (a b c d : List Bool) (n : Nat) : Bool := (List.range (n + 1)).any fun x => atL a b x && atL c d (n - x)
def sumRL (a b c d : List Bool) : LOut := if (0 < b.length ∧ a.length + b.length ≤ 512) ∧ 0 < d.length ∧ c.length + d.length ≤ 512 then tabOut (tabL (sumAt a b c d) (a.length + c.length + b.length * d.length) (b.length * d.length)) else errO 1
theorem shortL_pos {h c : List Bool} : 0 < (shortL h c).2.length := by
  have := (findQ_le (repB c) (c.length - 1) 1).1
  simp [shortL, tabL]
  omega
theorem shortL_le {h c : List Bool} (hc : 0 < c.length) : (shortL h c).1.length ≤ h.length ∧ (shortL h c).2.length ≤ c.length := by
  have h1 := (findQ_le (repB c) (c.length - 1) 1).2
  have h2 := headL_le (atL h c) (findQ (repB c) (c.length - 1) 1) h.length
  simp [shortL, tabL]
  omega
noncomputable def h2 : Ctx := { P := Tryd.prog, ty := ty, glob := gl, fs := [(54, .data shortestS), (18, .flat validRS)] }
theorem h2_ok : h2.OK := ⟨tyOK, ⟨⟨enters_mk Tryd.func54 (by kernel_rfl) rfl, shortest_ok⟩, ⟨enters_mk Tryd.func18 (by kernel_rfl) rfl, validR_ok⟩, trivial⟩, mixed⟩
@[simp] theorem h2_ty : h2.ty = ty := rfl

def boundedS : QSpec := fun vs K => ∃ a b : List Bool, vs = [lsV a b] ∧ (0 < b.length ∧ a.length + b.length ≤ 1048576) ∧ K (outV (boundL a b))
theorem bounded_ok : DataOK Tryd.prog gl 35 boundedS := by
 refine data_of (Γ := h2) (N := 12) Tryd.func35 rfl rfl fun vs K h => ?_
 obtain ⟨a, b, rfl, ⟨hb0, hl1⟩, h⟩ := h
 refine ⟨_, h, low_outV, by simp, fun w I => ?_⟩
 refine seq_k fun _ hK1 => ?_
 refine region_k h2_ok fun _ hK2 => ?_
 refine s_step rfl (by decide) rfl fun _ hS => ?_
 repeat refine And.intro qLi0 ?_
 refine hS _ _ _ ?_
 clear hS
 refine s_step rfl (by decide) rfl fun _ hS => ?_
 repeat refine And.intro qLi0 ?_
 refine hS _ _ _ ?_
 clear hS
 refine s_step rfl (by decide) rfl fun _ hS => ?_
 refine hS _ _ _ ?_
 clear hS
 refine s_nil ?_
 refine hK2 _ _ _ ?_
 refine hK1 _ _ _ ?_
 refine seq_k fun _ hK3 => ?_
 refine region_k h2_ok fun _ hK4 => ?_
 refine s_step rfl (by decide) rfl fun _ hS => ?_
 repeat refine And.intro qLi0 ?_
 first | refine hS _ _ _ ?_ | (refine whole_yes qLi0 ?_; refine hS _ _ _ ?_) | (refine whole_sub ?_; refine hS _ _ _ ?_)
 clear hS
 refine s_step rfl (by decide) rfl fun _ hS => ?_
 repeat first | refine And.intro qLi0 ?_ | refine whole_yes qLi0 ?_ | refine whole_sub ?_
 refine ⟨a, b, rfl, ⟨hb0, hl1⟩, ?_⟩
 repeat refine And.intro qLi0 ?_
 first | refine hS _ _ _ ?_ | (intro cap1 hcap1; refine hS _ _ _ ?_)
 clear hS
 refine s_step rfl (by decide) rfl fun _ hS => ?_
 repeat refine And.intro qLi0 ?_
 refine hS _ _ _ ?_
 clear hS
 refine s_step0 rfl rfl fun _ hS => ?_
 repeat refine And.intro qLi0 ?_
 first | refine hS _ _ _ ?_ | (refine splice_full qLi0 ?_; refine hS _ _ _ ?_)
 clear hS
 refine s_nil ?_
 refine hK4 _ _ _ ?_
 refine hK3 _ _ _ ?_
 refine seq_k fun _ hK5 => ?_
 refine seq_k fun _ hK6 => ?_
 have hsl := shortL_le (h := a) hb0
 refine region_k h2_ok fun _ hK7 => ?_
 refine s_step rfl (by decide) rfl fun _ hS => ?_
 repeat refine And.intro qLi0 ?_
 first | refine hS _ _ _ ?_ | (refine whole_yes qLi0 ?_; refine hS _ _ _ ?_) | (refine whole_sub ?_; refine hS _ _ _ ?_)
 clear hS
 refine s_step rfl (by decide) rfl fun _ hS => ?_
 repeat first | refine And.intro qLi0 ?_ | refine whole_yes qLi0 ?_ | refine whole_sub ?_
 refine ⟨(shortL a b).1, (shortL a b).2, rfl, ⟨by omega, by omega⟩, ?_⟩
 repeat refine And.intro qLi0 ?_
 first | refine hS _ _ _ ?_ | (intro cap1 hcap1; refine hS _ _ _ ?_)
 clear hS
 refine s_step rfl (by decide) rfl fun _ hS => ?_
 refine hS _ _ _ ?_
 clear hS
 refine s_nil ?_
 refine hK7 _ _ _ ?_
 refine hK6 _ _ _ ?_
 refine WP_cond (b := _) rfl (fun h_t9 => ?_) (fun h_t9 => ?_)
 ·try try simp only [decide_eq_false_iff_not, Bool.not_eq_eq_eq_not, Bool.not_true] at h_t9
  refine seq_k fun _ hK8 => ?_
  refine region_k h2_ok fun _ hK9 => ?_
  refine s_step rfl (by decide) rfl fun _ hS => ?_
  repeat refine And.intro qLi0 ?_
  refine hS _ _ _ ?_
  clear hS
  refine s_step0 rfl rfl fun _ hS => ?_
  repeat refine And.intro qLi0 ?_
  first | refine hS _ _ _ ?_ | (refine splice_full qLi0 ?_; refine hS _ _ _ ?_)
  clear hS
  refine s_step rfl (by decide) rfl fun _ hS => ?_
  refine hS _ _ _ ?_
  clear hS
  refine s_nil ?_
  refine hK9 _ _ _ ?_
  refine hK8 _ _ _ ?_
  refine WP_ret (Done_data h2_ok (fun _ _ h => h) (low_outV) [] [.cell 2 24, .tmp 3] rfl ?_)
  rw [boundL, if_neg h_t9]
  repeat' (first | exact trivial | refine And.intro ?_ ?_ | rfl | omega | decide | (show (_ : Nat) < _; decide) | exact low_nil' | refine low_cons' ?_ ?_ | exact Nat.le_refl _ | exact Nat.succ_pos _)
 ·try try simp only [decide_eq_true_eq, Bool.not_eq_eq_eq_not, Bool.not_false] at h_t9
  refine WP_skip ?_
  refine hK5 _ _ _ ?_
  refine seq_k fun _ hK10 => ?_
  refine region_k h2_ok fun _ hK11 => ?_
  refine s_step rfl (by decide) rfl fun _ hS => ?_
  repeat refine And.intro qLi0 ?_
  first | refine hS _ _ _ ?_ | (refine whole_yes qLi0 ?_; refine hS _ _ _ ?_) | (refine whole_sub ?_; refine hS _ _ _ ?_)
  clear hS
  refine s_step0 rfl rfl fun _ hS => ?_
  repeat refine And.intro qLi0 ?_
  first | refine hS _ _ _ ?_ | (refine splice_full qLi0 ?_; refine hS _ _ _ ?_)
  clear hS
  refine s_step rfl (by decide) rfl fun _ hS => ?_
  refine hS _ _ _ ?_
  clear hS
  refine s_nil ?_
  refine hK11 _ _ _ ?_
  refine hK10 _ _ _ ?_
  refine WP_ret (Done_data h2_ok (fun _ _ h => h) (low_outV) [] [.cell 2 24, .tmp 3] rfl ?_)
  rw [boundL, if_pos h_t9]
  repeat' (first | exact trivial | refine And.intro ?_ ?_ | rfl | omega | decide | (show (_ : Nat) < _; decide) | exact low_nil' | refine low_cons' ?_ ?_ | exact Nat.le_refl _ | exact Nat.succ_pos _)

noncomputable def h3 : Ctx := { P := Tryd.prog, ty := ty, glob := gl, fs := [(35, .data boundedS), (18, .flat validRS), (37, .flat atRS)] }
theorem h3_ok : h3.OK := ⟨tyOK, ⟨⟨enters_mk Tryd.func35 (by kernel_rfl) rfl, bounded_ok⟩, ⟨enters_mk Tryd.func18 (by kernel_rfl) rfl, validR_ok⟩, ⟨enters_mk Tryd.func37 (by kernel_rfl) rfl, atR_ok⟩, trivial⟩, mixed⟩
@[simp] theorem h3_ty : h3.ty = ty := rfl

def canonRS : QSpec := fun vs K => ∃ a b, vs = [lsV a b] ∧ (a.length ≤ 9223372036854775807 ∧ b.length ≤ 9223372036854775807) ∧ K (outV (canonRL a b))
theorem canonR_ok : DataOK Tryd.prog gl 15 canonRS := by
 refine data_of (Γ := h3) (N := 12) Tryd.func15 rfl rfl fun vs K h => ?_
 obtain ⟨a, b, rfl, ⟨hl1, hl2⟩, h⟩ := h
 refine ⟨_, h, low_outV, by simp, fun w I => ?_⟩
 refine seq_k fun _ hK1 => ?_
 refine region_k h3_ok fun _ hK2 => ?_
 refine s_step rfl (by decide) rfl fun _ hS => ?_
 repeat refine And.intro qLi0 ?_
 refine hS _ _ _ ?_
 clear hS
 refine s_step rfl (by decide) rfl fun _ hS => ?_
 repeat refine And.intro qLi0 ?_
 refine hS _ _ _ ?_
 clear hS
 refine s_step rfl (by decide) rfl fun _ hS => ?_
 refine hS _ _ _ ?_
 clear hS
 refine s_nil ?_
 refine hK2 _ _ _ ?_
 refine hK1 _ _ _ ?_
 refine seq_k fun _ hK3 => ?_
 refine seq_k fun _ hK4 => ?_
 refine region_k h3_ok fun _ hK5 => ?_
 refine s_step rfl (by decide) rfl fun _ hS => ?_
 repeat refine And.intro qLi0 ?_
 first | refine hS _ _ _ ?_ | (refine whole_yes qLi0 ?_; refine hS _ _ _ ?_) | (refine whole_sub ?_; refine hS _ _ _ ?_)
 clear hS
 refine s_step rfl (by decide) rfl fun _ hS => ?_
 repeat first | refine And.intro qLi0 ?_ | refine whole_yes qLi0 ?_ | refine whole_sub ?_
 refine ⟨a, b, rfl, ⟨hl1, hl2⟩, ?_⟩
 repeat refine And.intro qLi0 ?_
 first | refine hS _ _ _ ?_ | (intro cap1 hcap1; refine hS _ _ _ ?_)
 clear hS
 refine s_step rfl (by decide) rfl fun _ hS => ?_
 refine hS _ _ _ ?_
 clear hS
 refine s_nil ?_
 refine hK5 _ _ _ ?_
 refine hK4 _ _ _ ?_
 refine WP_cond (b := _) rfl (fun h_t6 => ?_) (fun h_t6 => ?_)
 ·try try simp only [decide_eq_false_iff_not, Bool.not_eq_eq_eq_not, Bool.not_true] at h_t6
  refine seq_k fun _ hK6 => ?_
  refine region_k h3_ok fun _ hK7 => ?_
  refine s_step rfl (by decide) rfl fun _ hS => ?_
  repeat refine And.intro qLi0 ?_
  refine hS _ _ _ ?_
  clear hS
  refine s_step0 rfl rfl fun _ hS => ?_
  repeat refine And.intro qLi0 ?_
  first | refine hS _ _ _ ?_ | (refine splice_full qLi0 ?_; refine hS _ _ _ ?_)
  clear hS
  refine s_step rfl (by decide) rfl fun _ hS => ?_
  refine hS _ _ _ ?_
  clear hS
  refine s_nil ?_
  refine hK7 _ _ _ ?_
  refine hK6 _ _ _ ?_
  refine WP_ret (Done_data h3_ok (fun _ _ h => h) (low_outV) [] [.cell 2 24, .tmp 3] rfl ?_)
  rw [canonRL, if_neg (by omega)]
  repeat' (first | exact trivial | refine And.intro ?_ ?_ | rfl | omega | decide | (show (_ : Nat) < _; decide) | exact low_nil' | refine low_cons' ?_ ?_ | exact Nat.le_refl _ | exact Nat.succ_pos _)
 ·try try simp only [decide_eq_true_eq, Bool.not_eq_eq_eq_not, Bool.not_false] at h_t6
  refine WP_skip ?_
  refine hK3 _ _ _ ?_
  refine seq_k fun _ hK8 => ?_
  refine region_k h3_ok fun _ hK9 => ?_
  refine s_step rfl (by decide) rfl fun _ hS => ?_
  repeat refine And.intro qLi0 ?_
  first | refine hS _ _ _ ?_ | (refine whole_yes qLi0 ?_; refine hS _ _ _ ?_) | (refine whole_sub ?_; refine hS _ _ _ ?_)
  clear hS
  refine s_step rfl (by decide) rfl fun _ hS => ?_
  repeat first | refine And.intro qLi0 ?_ | refine whole_yes qLi0 ?_ | refine whole_sub ?_
  refine ⟨a, b, rfl, ⟨by omega, by omega⟩, ?_⟩
  repeat refine And.intro qLi0 ?_
  first | refine hS _ _ _ ?_ | (intro cap1 hcap1; refine hS _ _ _ ?_)
  clear hS
  refine s_step rfl (by decide) rfl fun _ hS => ?_
  repeat refine And.intro qLi0 ?_
  refine hS _ _ _ ?_
  clear hS
  refine s_step rfl (by decide) rfl fun _ hS => ?_
  repeat refine And.intro qLi0 ?_
  refine hS _ _ _ ?_
  clear hS
  refine s_step0 rfl rfl fun _ hS => ?_
  repeat refine And.intro qLi0 ?_
  first | refine hS _ _ _ ?_ | (refine splice_full qLi0 ?_; refine hS _ _ _ ?_)
  clear hS
  refine s_step rfl (by decide) rfl fun _ hS => ?_
  refine hS _ _ _ ?_
  clear hS
  refine s_nil ?_
  refine hK9 _ _ _ ?_
  refine hK8 _ _ _ ?_
  refine WP_ret (Done_data h3_ok (fun _ _ h => h) (low_outV) [] [.cell 2 24, .tmp 3] rfl ?_)
  rw [canonRL, if_pos (by omega)]
  repeat' (first | exact trivial | refine And.intro ?_ ?_ | rfl | omega | decide | (show (_ : Nat) < _; decide) | exact low_nil' | refine low_cons' ?_ ?_ | exact Nat.le_refl _ | exact Nat.succ_pos _)

def combAS : QSpec := fun vs K => ∃ a b c d, vs = [lsV a b, lsV c d, .c (.bool true)] ∧ B2 a b c d ∧ K (outV (combL (fun x y => x && y) a b c d))
set_option maxHeartbeats 2000000 in
theorem combA_ok : DataOK Tryd.prog gl 40 combAS := by
 refine data_of (Γ := h3) (N := 78) Tryd.func40 rfl rfl fun vs K h => ?_
 obtain ⟨a, b, c, d, rfl, ⟨hl1, hl2, hl3, hl4⟩, h⟩ := h
 refine ⟨_, h, low_outV, by simp, fun w I => ?_⟩
 have maxI : ∀ x y : Nat, (if (x : Int) < y then (y : Int) else x) = ((max x y : Nat) : Int) := fun x y => by split <;> omega
 refine seq_k fun _ hK1 => ?_
 refine region_k h3_ok fun _ hK2 => ?_
 refine s_step rfl (by decide) rfl fun _ hS => ?_
 repeat refine And.intro qLi0 ?_
 refine hS _ _ _ ?_
 clear hS
 refine s_step rfl (by decide) rfl fun _ hS => ?_
 repeat refine And.intro qLi0 ?_
 refine hS _ _ _ ?_
 clear hS
 refine s_step rfl (by decide) rfl fun _ hS => ?_
 repeat refine And.intro qLi0 ?_
 refine hS _ _ _ ?_
 clear hS
 refine s_step rfl (by decide) rfl fun _ hS => ?_
 refine hS _ _ _ ?_
 clear hS
 refine s_nil ?_
 refine hK2 _ _ _ ?_
 refine hK1 _ _ _ ?_
 refine seq_k fun _ hK3 => ?_
 refine seq_k fun _ hK4 => ?_
 refine region_k h3_ok fun _ hK5 => ?_
 refine s_step rfl (by decide) rfl fun _ hS => ?_
 repeat refine And.intro qLi0 ?_
 first | refine hS _ _ _ ?_ | (refine whole_yes qLi0 ?_; refine hS _ _ _ ?_) | (refine whole_sub ?_; refine hS _ _ _ ?_)
 clear hS
 refine s_step rfl (by decide) rfl fun _ hS => ?_
 repeat first | refine And.intro qLi0 ?_ | refine whole_yes qLi0 ?_ | refine whole_sub ?_
 refine ⟨a, b, rfl, ⟨hl1, hl2⟩, ?_⟩
 repeat refine And.intro qLi0 ?_
 first | refine hS _ _ _ ?_ | (intro cap1 hcap1; refine hS _ _ _ ?_)
 clear hS
 refine s_step rfl (by decide) rfl fun _ hS => ?_
 refine hS _ _ _ ?_
 clear hS
 refine s_step rfl (by decide) rfl fun _ hS => ?_
 refine s_split hS (fun hb3 => ?_) (fun hb3 => ?_)
 ·clear hS
  try simp only [decide_eq_false_iff_not, Bool.not_eq_eq_eq_not, Bool.not_true] at hb3
  refine s_guard (b := true) rfl (by decide) rfl rfl (fun e => absurd e (by decide)) (fun _ => ?_)
  refine s_guard (b := true) rfl (by decide) rfl rfl (fun e => absurd e (by decide)) (fun _ => ?_)
  refine s_guard (b := true) rfl (by decide) rfl rfl (fun e => absurd e (by decide)) (fun _ => ?_)
  refine s_step rfl (by decide) rfl fun _ hS => ?_
  refine hS _ _ _ ?_
  clear hS
  refine s_nil ?_
  refine hK5 _ _ _ ?_
  refine hK4 _ _ _ ?_
  refine WP_cond (b := _) rfl (fun _ => ?_) (fun h_t19 => ?_)
  rotate_left 1
  ·exfalso; simp at h_t19
  refine seq_k fun _ hK6 => ?_
  refine region_k h3_ok fun _ hK7 => ?_
  refine s_step rfl (by decide) rfl fun _ hS => ?_
  repeat refine And.intro qLi0 ?_
  refine hS _ _ _ ?_
  clear hS
  refine s_step0 rfl rfl fun _ hS => ?_
  repeat refine And.intro qLi0 ?_
  first | refine hS _ _ _ ?_ | (refine splice_full qLi0 ?_; refine hS _ _ _ ?_)
  clear hS
  refine s_step rfl (by decide) rfl fun _ hS => ?_
  refine hS _ _ _ ?_
  clear hS
  refine s_nil ?_
  refine hK7 _ _ _ ?_
  refine hK6 _ _ _ ?_
  refine WP_ret (Done_data h3_ok (fun _ _ h => h) (low_outV) [] [.cell 6 24, .tmp 7] rfl ?_)
  have hneg : ¬ ((0 < b.length ∧ a.length + b.length ≤ 512) ∧ 0 < d.length ∧ c.length + d.length ≤ 512) := fun hh => hb3 hh.1
  rw [combL, if_neg hneg]
  repeat' (first | exact trivial | refine And.intro ?_ ?_ | rfl | omega | decide | (show (_ : Nat) < _; decide) | exact low_nil' | refine low_cons' ?_ ?_ | exact Nat.le_refl _ | exact Nat.succ_pos _)
 ·clear hS
  try simp only [decide_eq_true_eq, Bool.not_eq_eq_eq_not, Bool.not_false] at hb3
  refine s_guard (b := false) rfl (by decide) rfl rfl (fun _ _ hS => ?_) (fun e => absurd e (by decide))
  repeat refine And.intro qLi0 ?_
  first | refine hS _ _ _ ?_ | (refine whole_yes qLi0 ?_; refine hS _ _ _ ?_) | (refine whole_sub ?_; refine hS _ _ _ ?_)
  clear hS
  refine s_guard (b := false) rfl (by decide) rfl rfl (fun _ _ hS => ?_) (fun e => absurd e (by decide))
  repeat first | refine And.intro qLi0 ?_ | refine whole_yes qLi0 ?_ | refine whole_sub ?_
  refine ⟨c, d, rfl, ⟨hl3, hl4⟩, ?_⟩
  repeat refine And.intro qLi0 ?_
  first | refine hS _ _ _ ?_ | (intro cap5 hcap5; refine hS _ _ _ ?_)
  clear hS
  refine s_guard (b := false) rfl (by decide) rfl rfl (fun _ _ hS => ?_) (fun e => absurd e (by decide))
  refine hS _ _ _ ?_
  clear hS
  refine s_step rfl (by decide) rfl fun _ hS => ?_
  refine hS _ _ _ ?_
  clear hS
  refine s_nil ?_
  refine hK5 _ _ _ ?_
  refine hK4 _ _ _ ?_
  refine WP_cond (b := _) rfl (fun h_t19 => ?_) (fun h_t19 => ?_)
  ·try try simp only [decide_eq_false_iff_not, Bool.not_eq_eq_eq_not, Bool.not_true, if_false, Bool.false_eq_true] at h_t19
   refine seq_k fun _ hK8 => ?_
   refine region_k h3_ok fun _ hK9 => ?_
   refine s_step rfl (by decide) rfl fun _ hS => ?_
   repeat refine And.intro qLi0 ?_
   refine hS _ _ _ ?_
   clear hS
   refine s_step0 rfl rfl fun _ hS => ?_
   repeat refine And.intro qLi0 ?_
   first | refine hS _ _ _ ?_ | (refine splice_full qLi0 ?_; refine hS _ _ _ ?_)
   clear hS
   refine s_step rfl (by decide) rfl fun _ hS => ?_
   refine hS _ _ _ ?_
   clear hS
   refine s_nil ?_
   refine hK9 _ _ _ ?_
   refine hK8 _ _ _ ?_
   refine WP_ret (Done_data h3_ok (fun _ _ h => h) (low_outV) [] [.cell 6 24, .tmp 7] rfl ?_)
   have hneg : ¬ ((0 < b.length ∧ a.length + b.length ≤ 512) ∧ 0 < d.length ∧ c.length + d.length ≤ 512) := fun hh => h_t19 hh.2
   rw [combL, if_neg hneg]
   repeat' (first | exact trivial | refine And.intro ?_ ?_ | rfl | omega | decide | (show (_ : Nat) < _; decide) | exact low_nil' | refine low_cons' ?_ ?_ | exact Nat.le_refl _ | exact Nat.succ_pos _)
  ·try try simp only [decide_eq_true_eq, Bool.not_eq_eq_eq_not, Bool.not_false, if_false, Bool.false_eq_true] at h_t19
   refine WP_skip ?_
   refine hK3 _ _ _ ?_
   refine seq_k fun _ hK10 => ?_
   have hv : (0 < b.length ∧ a.length + b.length ≤ 512) ∧ 0 < d.length ∧ c.length + d.length ≤ 512 := by
    first | omega | (simp at h_t19; omega)
   have hmu : b.length * d.length ≤ 512 * 512 := Nat.mul_le_mul (by omega) (by omega)
   have hmp : 0 < b.length * d.length := Nat.mul_pos (by omega) (by omega)
   obtain ⟨P, hP⟩ : ∃ P, P = b.length * d.length := ⟨_, rfl⟩
   have hPI : (b.length : Int) * (d.length : Int) = (P : Int) := by rw [hP]; push_cast; rfl
   rw [← hP] at hmu hmp
   refine region_k h3_ok fun _ hK11 => ?_
   refine s_step rfl (by decide) rfl fun _ hS => ?_
   repeat refine And.intro qLi1 ?_
   refine hS _ _ _ ?_
   clear hS
   refine s_step rfl (by decide) rfl fun _ hS => ?_
   repeat refine And.intro qLi1 ?_
   first | refine hS _ _ _ ?_ | (refine whole_yes qLi1 ?_; refine hS _ _ _ ?_) | (refine whole_sub ?_; refine hS _ _ _ ?_)
   clear hS
   refine s_step rfl (by decide) rfl fun _ hS => ?_
   repeat refine And.intro qLi1 ?_
   refine hS _ _ _ ?_
   clear hS
   refine s_step rfl (by decide) rfl fun _ hS => ?_
   repeat refine And.intro qLi1 ?_
   refine hS _ _ _ ?_
   clear hS
   refine s_step rfl (by decide) rfl fun _ hS => ?_
   repeat refine And.intro qLi1 ?_
   first | refine hS _ _ _ ?_ | (refine whole_yes qLi1 ?_; refine hS _ _ _ ?_) | (refine whole_sub ?_; refine hS _ _ _ ?_)
   clear hS
   refine s_step rfl (by decide) rfl fun _ hS => ?_
   repeat refine And.intro qLi1 ?_
   refine hS _ _ _ ?_
   clear hS
   refine s_step rfl (by decide) rfl fun _ hS => ?_
   repeat refine And.intro qLi1 ?_
   refine hS _ _ _ ?_
   clear hS
   refine s_step rfl (by decide) rfl fun _ hS => ?_
   refine hS _ _ _ ?_
   clear hS
   refine s_nil ?_
   refine hK11 _ _ _ ?_
   refine hK10 _ _ _ ?_
   refine seq_k fun _ hK12 => ?_
   refine region_k h3_ok fun _ hK13 => ?_
   refine s_step rfl (by decide) rfl fun _ hS => ?_
   repeat refine And.intro qLi0 ?_
   refine hS _ _ _ ?_
   clear hS
   refine s_step rfl (by decide) rfl fun _ hS => ?_
   repeat refine And.intro qLi0 ?_
   refine hS _ _ _ ?_
   clear hS
   refine s_step0 rfl rfl fun _ hS => ?_
   repeat refine And.intro qLi0 ?_
   first | refine hS _ _ _ ?_ | (refine splice_full qLi0 ?_; refine hS _ _ _ ?_)
   clear hS
   refine s_nil ?_
   refine hK13 _ _ _ ?_
   refine hK12 _ _ _ ?_
   refine seq_k fun _ hK14 => ?_
   refine seq_k fun _ hK15 => ?_
   refine region_k h3_ok fun _ hK16 => ?_
   refine s_step rfl (by decide) rfl fun _ hS => ?_
   refine hS _ _ _ ?_
   clear hS
   refine s_nil ?_
   refine hK16 _ _ _ ?_
   refine hK15 _ _ _ ?_
   refine WP_block ?_
   refine WP_nilat 3 0 4 (.bools []) rfl rfl rfl trivial ?_
   refine WP_nilat 3 1 4 (.bools []) rfl rfl rfl trivial ?_
   refine WP_loop (α := Nat × Nat × Nat) (fun k => [(2, .c (.bool true)), (3, .c (.ptr 0 0)), (4, .c (.ptr 1 0)), (6, .c (.ptr 2 0)), (8, .c (.int .i64 ((max a.length c.length : Nat) : Int))), (9, .c (.ptr 3 0)), (10, .c (.int .i64 k.1))]) (fun k => [(0, .own 24 (.cells [.ds a.length (.bools a), .ds b.length (.bools b)]) 2), (1, .own 24 (.cells [.ds c.length (.bools c), .ds d.length (.bools d)]) 2), (2, .own 24 (.cells [.nils, .nils]) 2), (3, .own 24 (.cells [.slice 4 0 (preL (fun n => (fun x y => x && y) (atL a b n) (atL c d n)) (max a.length c.length) k.1).length k.2.1, .slice 5 0 (postL (fun n => (fun x y => x && y) (atL a b n) (atL c d n)) (max a.length c.length) k.1).length k.2.2]) 2), (4, .own 4 (.bools (preL (fun n => (fun x y => x && y) (atL a b n) (atL c d n)) (max a.length c.length) k.1)) k.2.1), (5, .own 4 (.bools (postL (fun n => (fun x y => x && y) (atL a b n) (atL c d n)) (max a.length c.length) k.1)) k.2.2)]) 6 (fun k => k.1 ≤ max a.length c.length + P) (fun k => max a.length c.length + P - k.1) ?_ ?_
   ·refine Done_some [] id (0, 0, 0) (Nat.zero_le _) ⟨?_, ?_, (by decide : List.Nodup ([0, 1, 2, 3, 4, 5] : List Nat)), ?_, ?_, ⟨Nat.zero_le _, fun i hi => absurd hi (Nat.not_lt_zero i)⟩⟩
    ·exact uLi0
    ·exact uLi0
    ·exact uLi0
    ·exact uLi0
   ·intro k hk
    refine seq_k fun _ hK17 => ?_
    refine seq_k fun _ hK18 => ?_
    refine region_k h3_ok fun _ hK19 => ?_
    refine s_step rfl (by decide) rfl fun _ hS => ?_
    refine hS _ _ _ ?_
    clear hS
    refine s_step rfl (by decide) rfl fun _ hS => ?_
    refine hS _ _ _ ?_
    clear hS
    refine s_step rfl (by decide) rfl fun _ hS => ?_
    repeat refine And.intro qLi2 ?_
    refine hS _ _ _ ?_
    clear hS
    refine s_step rfl (by decide) rfl fun _ hS => ?_
    repeat refine And.intro qLi2 ?_
    first | refine hS _ _ _ ?_ | (refine whole_yes qLi2 ?_; refine hS _ _ _ ?_) | (refine whole_sub ?_; refine hS _ _ _ ?_)
    clear hS
    refine s_step rfl (by decide) rfl fun _ hS => ?_
    repeat refine And.intro qLi2 ?_
    refine hS _ _ _ ?_
    clear hS
    refine s_step rfl (by decide) rfl fun _ hS => ?_
    repeat refine And.intro qLi2 ?_
    refine hS _ _ _ ?_
    clear hS
    refine s_step rfl (by decide) rfl fun _ hS => ?_
    repeat refine And.intro qLi2 ?_
    first | refine hS _ _ _ ?_ | (refine whole_yes qLi2 ?_; refine hS _ _ _ ?_) | (refine whole_sub ?_; refine hS _ _ _ ?_)
    clear hS
    refine s_step rfl (by decide) rfl fun _ hS => ?_
    repeat refine And.intro qLi2 ?_
    refine hS _ _ _ ?_
    clear hS
    refine s_step rfl (by decide) rfl fun _ hS => ?_
    repeat refine And.intro qLi2 ?_
    refine hS _ _ _ ?_
    clear hS
    refine s_step rfl (by decide) rfl fun _ hS => ?_
    repeat refine And.intro qLi2 ?_
    refine hS _ _ _ ?_
    clear hS
    refine s_step rfl (by decide) rfl fun _ hS => ?_
    repeat refine And.intro qLi2 ?_
    refine hS _ _ _ ?_
    clear hS
    refine s_nil ?_
    refine hK19 _ _ _ ?_
    refine hK18 _ _ _ ?_
    refine WP_cond (b := _) rfl (fun h_t39 => ?_) (fun h_t39 => ?_)
    ·try simp only [decide_eq_true_eq] at h_t39
     rw [hPI] at h_t39
     refine WP_skip ?_
     refine hK17 _ _ _ ?_
     refine seq_k fun _ hK20 => ?_
     refine WP_block ?_
     refine seq_k fun _ hK21 => ?_
     refine region_k h3_ok fun _ hK22 => ?_
     refine s_step rfl (by decide) rfl fun _ hS => ?_
     repeat refine And.intro qLi0 ?_
     first | refine hS _ _ _ ?_ | (refine whole_yes qLi0 ?_; refine hS _ _ _ ?_) | (refine whole_sub ?_; refine hS _ _ _ ?_)
     clear hS
     refine s_step rfl (by decide) rfl fun _ hS => ?_
     refine hS _ _ _ ?_
     clear hS
     refine s_step rfl (by decide) rfl fun _ hS => ?_
     repeat first | refine And.intro qLi0 ?_ | refine whole_yes qLi0 ?_ | refine whole_sub ?_
     refine ⟨a, b, k.1, rfl, ⟨by omega, by omega, by omega, by omega⟩, ?_⟩
     repeat refine And.intro qLi0 ?_
     first | refine hS _ _ _ ?_ | (intro cap2 hcap2; refine hS _ _ _ ?_)
     clear hS
     refine s_step rfl (by decide) rfl fun _ hS => ?_
     refine s_split hS (fun hb3 => ?_) (fun hb3 => ?_)
     ·clear hS
      try simp only [decide_eq_true_eq, decide_eq_false_iff_not, Int.not_lt, Int.not_le, Bool.not_eq_true', Bool.not_eq_false', Bool.not_eq_eq_eq_not, Bool.not_true, Bool.not_false, if_true, if_false, reduceIte, Bool.false_eq_true, Int.natCast_inj] at hb3
      refine s_guard (b := true) rfl (by decide) rfl rfl (fun e => absurd e (by decide)) (fun _ => ?_)
      refine s_guard (b := true) rfl (by decide) rfl rfl (fun e => absurd e (by decide)) (fun _ => ?_)
      refine s_guard (b := true) rfl (by decide) rfl rfl (fun e => absurd e (by decide)) (fun _ => ?_)
      refine s_step rfl (by decide) rfl fun _ hS => ?_
      refine hS _ _ _ ?_
      clear hS
      refine s_step rfl (by decide) rfl fun _ hS => ?_
      refine hS _ _ _ ?_
      clear hS
      refine s_nil ?_
      refine hK22 _ _ _ ?_
      refine hK21 _ _ _ ?_
      refine seq_k fun _ hK23 => ?_
      refine seq_k fun _ hK24 => ?_
      refine region_k h3_ok fun _ hK25 => ?_
      refine s_step rfl (by decide) rfl fun _ hS => ?_
      refine hS _ _ _ ?_
      clear hS
      refine s_nil ?_
      refine hK25 _ _ _ ?_
      refine hK24 _ _ _ ?_
      refine WP_cond (b := _) rfl (fun _ => ?_) (fun h_t50 => ?_)
      rotate_left 1
      ·exfalso; cases h_t50
      refine region_k h3_ok fun _ hK26 => ?_
      refine s_step rfl (by decide) rfl fun _ hS => ?_
      repeat refine And.intro qLi0 ?_
      first | refine hS _ _ _ ?_ | (refine whole_yes qLi0 ?_; refine hS _ _ _ ?_) | (refine whole_sub ?_; refine hS _ _ _ ?_)
      clear hS
      refine s_step rfl (by decide) rfl fun _ hS => ?_
      refine hS _ _ _ ?_
      clear hS
      refine s_step rfl (by decide) rfl fun _ hS => ?_
      repeat first | refine And.intro qLi0 ?_ | refine whole_yes qLi0 ?_ | refine whole_sub ?_
      refine ⟨a, b, k.1, rfl, ⟨by omega, by omega, by omega, by omega⟩, ?_⟩
      repeat refine And.intro qLi0 ?_
      first | refine hS _ _ _ ?_ | (intro cap2 hcap2; refine hS _ _ _ ?_)
      clear hS
      refine s_step rfl (by decide) rfl fun _ hS => ?_
      refine s_split hS (fun hb3 => ?_) (fun hb3 => ?_)
      ·clear hS
       try simp only [decide_eq_true_eq, decide_eq_false_iff_not, Int.not_lt, Int.not_le, Bool.not_eq_true', Bool.not_eq_false', Bool.not_eq_eq_eq_not, Bool.not_true, Bool.not_false, if_true, if_false, reduceIte, Bool.false_eq_true, Int.natCast_inj] at hb3
       refine s_guard (b := true) rfl (by decide) rfl rfl (fun _ _ hS => ?_) (fun e => absurd e (by decide))
       repeat refine And.intro qLi0 ?_
       first | refine hS _ _ _ ?_ | (refine whole_yes qLi0 ?_; refine hS _ _ _ ?_) | (refine whole_sub ?_; refine hS _ _ _ ?_)
       clear hS
       refine s_guard (b := true) rfl (by decide) rfl rfl (fun _ _ hS => ?_) (fun e => absurd e (by decide))
       refine hS _ _ _ ?_
       clear hS
       refine s_guard (b := true) rfl (by decide) rfl rfl (fun _ _ hS => ?_) (fun e => absurd e (by decide))
       repeat first | refine And.intro qLi0 ?_ | refine whole_yes qLi0 ?_ | refine whole_sub ?_
       refine ⟨c, d, k.1, rfl, ⟨by omega, by omega, by omega, by omega⟩, ?_⟩
       repeat refine And.intro qLi0 ?_
       first | refine hS _ _ _ ?_ | (intro cap6 hcap6; refine hS _ _ _ ?_)
       clear hS
       refine s_step rfl (by decide) rfl fun _ hS => ?_
       refine hS _ _ _ ?_
       clear hS
       refine s_step rfl (by decide) rfl fun _ hS => ?_
       refine hS _ _ _ ?_
       clear hS
       refine s_nil ?_
       refine hK26 _ _ _ ?_
       refine hK23 _ _ _ ?_
       refine seq_k fun _ hK27 => ?_
       refine region_k h3_ok fun _ hK28 => ?_
       refine s_step rfl (by decide) rfl fun _ hS => ?_
       refine hS _ _ _ ?_
       clear hS
       refine s_step rfl (by decide) rfl fun _ hS => ?_
       refine hS _ _ _ ?_
       clear hS
       refine s_step rfl (by decide) rfl fun _ hS => ?_
       repeat refine And.intro qLi0 ?_
       refine hS _ _ _ ?_
       clear hS
       refine s_nil ?_
       refine hK28 _ _ _ ?_
       refine hK27 _ _ _ ?_
       refine WP_cond (b := _) rfl (fun h_t61 => ?_) (fun h_t61 => ?_)
       ·try simp only [decide_eq_true_eq] at h_t61
        have hka : k.1 < max a.length c.length := by omega
        have hst := preL_step (fun n => (fun x y => x && y) (atL a b n) (atL c d n)) hka
        refine region_k h3_ok fun _ hK29 => ?_
        refine s_step rfl (by decide) rfl fun _ hS => ?_
        repeat refine And.intro qLi3 ?_
        refine hS _ _ _ ?_
        clear hS
        refine s_step rfl (by decide) rfl fun _ hS => ?_
        repeat refine And.intro qLi3 ?_
        first | refine hS _ _ _ ?_ | (refine whole_yes qLi3 ?_; refine hS _ _ _ ?_) | (refine whole_sub ?_; refine hS _ _ _ ?_)
        clear hS
        refine s_step rfl (by decide) rfl fun _ hS => ?_
        refine hS _ _ _ ?_
        clear hS
        refine s_step rfl (by decide) rfl fun _ hS => ?_
        repeat refine And.intro qLi3 ?_
        refine hS _ _ _ ?_
        clear hS
        refine s_step rfl (by decide) rfl fun _ hS => ?_
        repeat first | refine And.intro qLi3 ?_ | refine whole_yes qLi3 ?_ | refine whole_sub ?_
        intro cap4 hcap4; refine hS _ _ _ ?_
        clear hS
        refine s_step rfl (by decide) rfl fun _ hS => ?_
        repeat refine And.intro qLi3 ?_
        refine hS _ _ _ ?_
        clear hS
        refine s_step0 rfl rfl fun _ hS => ?_
        repeat refine And.intro qLi3 ?_
        first | refine hS _ _ _ ?_ | (refine splice_full qLi3 ?_; refine hS _ _ _ ?_)
        clear hS
        refine s_nil ?_
        refine hK29 _ _ _ ?_
        refine done_block ?_
        refine hK20 _ _ _ ?_
        refine region_k h3_ok fun _ hK30 => ?_
        refine s_step rfl (by decide) rfl fun _ hS => ?_
        refine hS _ _ _ ?_
        clear hS
        refine s_step rfl (by decide) rfl fun _ hS => ?_
        repeat refine And.intro qLi0 ?_
        refine hS _ _ _ ?_
        clear hS
        refine s_step rfl (by decide) rfl fun _ hS => ?_
        refine hS _ _ _ ?_
        clear hS
        refine s_nil ?_
        refine hK30 _ _ _ ?_
        refine Done_some [] (fun i => if i = 4 then 7 else i) (k.1 + 1, cap4, k.2.2) ⟨by omega, by omega⟩ ⟨?_, ?_, (by decide : List.Nodup ([0, 1, 2, 3, 7, 5] : List Nat)), ?_, ?_, ⟨Nat.zero_le _, fun i hi => absurd hi (Nat.not_lt_zero i)⟩⟩
        ·exact uLi0
        ·exact uLi0
        ·exact uLi0
        ·exact uLi0
       ·try simp only [decide_eq_false_iff_not, Int.not_lt] at h_t61
        have hka : max a.length c.length ≤ k.1 := by omega
        have hst := postL_step (fun n => (fun x y => x && y) (atL a b n) (atL c d n)) hka
        refine region_k h3_ok fun _ hK31 => ?_
        refine s_step rfl (by decide) rfl fun _ hS => ?_
        repeat refine And.intro qLi3 ?_
        refine hS _ _ _ ?_
        clear hS
        refine s_step rfl (by decide) rfl fun _ hS => ?_
        repeat refine And.intro qLi3 ?_
        first | refine hS _ _ _ ?_ | (refine whole_yes qLi3 ?_; refine hS _ _ _ ?_) | (refine whole_sub ?_; refine hS _ _ _ ?_)
        clear hS
        refine s_step rfl (by decide) rfl fun _ hS => ?_
        refine hS _ _ _ ?_
        clear hS
        refine s_step rfl (by decide) rfl fun _ hS => ?_
        repeat refine And.intro qLi3 ?_
        refine hS _ _ _ ?_
        clear hS
        refine s_step rfl (by decide) rfl fun _ hS => ?_
        repeat first | refine And.intro qLi3 ?_ | refine whole_yes qLi3 ?_ | refine whole_sub ?_
        intro cap4 hcap4; refine hS _ _ _ ?_
        clear hS
        refine s_step rfl (by decide) rfl fun _ hS => ?_
        repeat refine And.intro qLi3 ?_
        refine hS _ _ _ ?_
        clear hS
        refine s_step0 rfl rfl fun _ hS => ?_
        repeat refine And.intro qLi3 ?_
        first | refine hS _ _ _ ?_ | (refine splice_full qLi3 ?_; refine hS _ _ _ ?_)
        clear hS
        refine s_nil ?_
        refine hK31 _ _ _ ?_
        refine done_block ?_
        refine hK20 _ _ _ ?_
        refine region_k h3_ok fun _ hK32 => ?_
        refine s_step rfl (by decide) rfl fun _ hS => ?_
        refine hS _ _ _ ?_
        clear hS
        refine s_step rfl (by decide) rfl fun _ hS => ?_
        repeat refine And.intro qLi0 ?_
        refine hS _ _ _ ?_
        clear hS
        refine s_step rfl (by decide) rfl fun _ hS => ?_
        refine hS _ _ _ ?_
        clear hS
        refine s_nil ?_
        refine hK32 _ _ _ ?_
        refine Done_some [] (fun i => if i = 5 then 7 else i) (k.1 + 1, k.2.1, cap4) ⟨by omega, by omega⟩ ⟨?_, ?_, (by decide : List.Nodup ([0, 1, 2, 3, 4, 7] : List Nat)), ?_, ?_, ⟨Nat.zero_le _, fun i hi => absurd hi (Nat.not_lt_zero i)⟩⟩
        ·exact uLi0
        ·exact uLi0
        ·exact uLi0
        ·exact uLi0
      ·clear hS
       try simp only [decide_eq_true_eq, decide_eq_false_iff_not, Int.not_lt, Int.not_le, Bool.not_eq_true', Bool.not_eq_false', Bool.not_eq_eq_eq_not, Bool.not_true, Bool.not_false, if_true, if_false, reduceIte, Bool.false_eq_true, Int.natCast_inj] at hb3
       refine s_guard (b := false) rfl (by decide) rfl rfl (fun e => absurd e (by decide)) (fun _ => ?_)
       refine s_guard (b := false) rfl (by decide) rfl rfl (fun e => absurd e (by decide)) (fun _ => ?_)
       refine s_guard (b := false) rfl (by decide) rfl rfl (fun e => absurd e (by decide)) (fun _ => ?_)
       refine s_step rfl (by decide) rfl fun _ hS => ?_
       refine hS _ _ _ ?_
       clear hS
       refine s_step rfl (by decide) rfl fun _ hS => ?_
       refine hS _ _ _ ?_
       clear hS
       refine s_nil ?_
       refine hK26 _ _ _ ?_
       refine hK23 _ _ _ ?_
       refine seq_k fun _ hK33 => ?_
       refine region_k h3_ok fun _ hK34 => ?_
       refine s_step rfl (by decide) rfl fun _ hS => ?_
       refine hS _ _ _ ?_
       clear hS
       refine s_step rfl (by decide) rfl fun _ hS => ?_
       refine hS _ _ _ ?_
       clear hS
       refine s_step rfl (by decide) rfl fun _ hS => ?_
       repeat refine And.intro qLi0 ?_
       refine hS _ _ _ ?_
       clear hS
       refine s_nil ?_
       refine hK34 _ _ _ ?_
       refine hK33 _ _ _ ?_
       refine WP_cond (b := _) rfl (fun h_t61 => ?_) (fun h_t61 => ?_)
       ·try simp only [decide_eq_true_eq] at h_t61
        have hka : k.1 < max a.length c.length := by omega
        have hst := preL_step (fun n => (fun x y => x && y) (atL a b n) (atL c d n)) hka
        refine region_k h3_ok fun _ hK35 => ?_
        refine s_step rfl (by decide) rfl fun _ hS => ?_
        repeat refine And.intro qLi3 ?_
        refine hS _ _ _ ?_
        clear hS
        refine s_step rfl (by decide) rfl fun _ hS => ?_
        repeat refine And.intro qLi3 ?_
        first | refine hS _ _ _ ?_ | (refine whole_yes qLi3 ?_; refine hS _ _ _ ?_) | (refine whole_sub ?_; refine hS _ _ _ ?_)
        clear hS
        refine s_step rfl (by decide) rfl fun _ hS => ?_
        refine hS _ _ _ ?_
        clear hS
        refine s_step rfl (by decide) rfl fun _ hS => ?_
        repeat refine And.intro qLi3 ?_
        refine hS _ _ _ ?_
        clear hS
        refine s_step rfl (by decide) rfl fun _ hS => ?_
        repeat first | refine And.intro qLi3 ?_ | refine whole_yes qLi3 ?_ | refine whole_sub ?_
        intro cap4 hcap4; refine hS _ _ _ ?_
        clear hS
        refine s_step rfl (by decide) rfl fun _ hS => ?_
        repeat refine And.intro qLi3 ?_
        refine hS _ _ _ ?_
        clear hS
        refine s_step0 rfl rfl fun _ hS => ?_
        repeat refine And.intro qLi3 ?_
        first | refine hS _ _ _ ?_ | (refine splice_full qLi3 ?_; refine hS _ _ _ ?_)
        clear hS
        refine s_nil ?_
        refine hK35 _ _ _ ?_
        refine done_block ?_
        refine hK20 _ _ _ ?_
        refine region_k h3_ok fun _ hK36 => ?_
        refine s_step rfl (by decide) rfl fun _ hS => ?_
        refine hS _ _ _ ?_
        clear hS
        refine s_step rfl (by decide) rfl fun _ hS => ?_
        repeat refine And.intro qLi0 ?_
        refine hS _ _ _ ?_
        clear hS
        refine s_step rfl (by decide) rfl fun _ hS => ?_
        refine hS _ _ _ ?_
        clear hS
        refine s_nil ?_
        refine hK36 _ _ _ ?_
        refine Done_some [] (fun i => if i = 4 then 7 else i) (k.1 + 1, cap4, k.2.2) ⟨by omega, by omega⟩ ⟨?_, ?_, (by decide : List.Nodup ([0, 1, 2, 3, 7, 5] : List Nat)), ?_, ?_, ⟨Nat.zero_le _, fun i hi => absurd hi (Nat.not_lt_zero i)⟩⟩
        ·exact uLi0
        ·exact uLi0
        ·exact uLi0
        ·exact uLi0
       ·try simp only [decide_eq_false_iff_not, Int.not_lt] at h_t61
        have hka : max a.length c.length ≤ k.1 := by omega
        have hst := postL_step (fun n => (fun x y => x && y) (atL a b n) (atL c d n)) hka
        refine region_k h3_ok fun _ hK37 => ?_
        refine s_step rfl (by decide) rfl fun _ hS => ?_
        repeat refine And.intro qLi3 ?_
        refine hS _ _ _ ?_
        clear hS
        refine s_step rfl (by decide) rfl fun _ hS => ?_
        repeat refine And.intro qLi3 ?_
        first | refine hS _ _ _ ?_ | (refine whole_yes qLi3 ?_; refine hS _ _ _ ?_) | (refine whole_sub ?_; refine hS _ _ _ ?_)
        clear hS
        refine s_step rfl (by decide) rfl fun _ hS => ?_
        refine hS _ _ _ ?_
        clear hS
        refine s_step rfl (by decide) rfl fun _ hS => ?_
        repeat refine And.intro qLi3 ?_
        refine hS _ _ _ ?_
        clear hS
        refine s_step rfl (by decide) rfl fun _ hS => ?_
        repeat first | refine And.intro qLi3 ?_ | refine whole_yes qLi3 ?_ | refine whole_sub ?_
        intro cap4 hcap4; refine hS _ _ _ ?_
        clear hS
        refine s_step rfl (by decide) rfl fun _ hS => ?_
        repeat refine And.intro qLi3 ?_
        refine hS _ _ _ ?_
        clear hS
        refine s_step0 rfl rfl fun _ hS => ?_
        repeat refine And.intro qLi3 ?_
        first | refine hS _ _ _ ?_ | (refine splice_full qLi3 ?_; refine hS _ _ _ ?_)
        clear hS
        refine s_nil ?_
        refine hK37 _ _ _ ?_
        refine done_block ?_
        refine hK20 _ _ _ ?_
        refine region_k h3_ok fun _ hK38 => ?_
        refine s_step rfl (by decide) rfl fun _ hS => ?_
        refine hS _ _ _ ?_
        clear hS
        refine s_step rfl (by decide) rfl fun _ hS => ?_
        repeat refine And.intro qLi0 ?_
        refine hS _ _ _ ?_
        clear hS
        refine s_step rfl (by decide) rfl fun _ hS => ?_
        refine hS _ _ _ ?_
        clear hS
        refine s_nil ?_
        refine hK38 _ _ _ ?_
        refine Done_some [] (fun i => if i = 5 then 7 else i) (k.1 + 1, k.2.1, cap4) ⟨by omega, by omega⟩ ⟨?_, ?_, (by decide : List.Nodup ([0, 1, 2, 3, 4, 7] : List Nat)), ?_, ?_, ⟨Nat.zero_le _, fun i hi => absurd hi (Nat.not_lt_zero i)⟩⟩
        ·exact uLi0
        ·exact uLi0
        ·exact uLi0
        ·exact uLi0
     ·clear hS
      try simp only [decide_eq_true_eq, decide_eq_false_iff_not, Int.not_lt, Int.not_le, Bool.not_eq_true', Bool.not_eq_false', Bool.not_eq_eq_eq_not, Bool.not_true, Bool.not_false, if_true, if_false, reduceIte, Bool.false_eq_true, Int.natCast_inj] at hb3
      refine s_guard (b := false) rfl (by decide) rfl rfl (fun _ _ hS => ?_) (fun e => absurd e (by decide))
      repeat refine And.intro qLi0 ?_
      first | refine hS _ _ _ ?_ | (refine whole_yes qLi0 ?_; refine hS _ _ _ ?_) | (refine whole_sub ?_; refine hS _ _ _ ?_)
      clear hS
      refine s_guard (b := false) rfl (by decide) rfl rfl (fun _ _ hS => ?_) (fun e => absurd e (by decide))
      refine hS _ _ _ ?_
      clear hS
      refine s_guard (b := false) rfl (by decide) rfl rfl (fun _ _ hS => ?_) (fun e => absurd e (by decide))
      repeat first | refine And.intro qLi0 ?_ | refine whole_yes qLi0 ?_ | refine whole_sub ?_
      refine ⟨c, d, k.1, rfl, ⟨by omega, by omega, by omega, by omega⟩, ?_⟩
      repeat refine And.intro qLi0 ?_
      first | refine hS _ _ _ ?_ | (intro cap6 hcap6; refine hS _ _ _ ?_)
      clear hS
      refine s_step rfl (by decide) rfl fun _ hS => ?_
      refine hS _ _ _ ?_
      clear hS
      refine s_step rfl (by decide) rfl fun _ hS => ?_
      refine hS _ _ _ ?_
      clear hS
      refine s_nil ?_
      refine hK22 _ _ _ ?_
      refine hK21 _ _ _ ?_
      refine seq_k fun _ hK39 => ?_
      refine seq_k fun _ hK40 => ?_
      refine region_k h3_ok fun _ hK41 => ?_
      refine s_step rfl (by decide) rfl fun _ hS => ?_
      refine hS _ _ _ ?_
      clear hS
      refine s_nil ?_
      refine hK41 _ _ _ ?_
      refine hK40 _ _ _ ?_
      refine WP_cond (b := _) rfl (fun _ => ?_) (fun h_t50 => ?_)
      rotate_left 1
      ·exfalso; cases h_t50
      refine region_k h3_ok fun _ hK42 => ?_
      refine s_step rfl (by decide) rfl fun _ hS => ?_
      repeat refine And.intro qLi0 ?_
      first | refine hS _ _ _ ?_ | (refine whole_yes qLi0 ?_; refine hS _ _ _ ?_) | (refine whole_sub ?_; refine hS _ _ _ ?_)
      clear hS
      refine s_step rfl (by decide) rfl fun _ hS => ?_
      refine hS _ _ _ ?_
      clear hS
      refine s_step rfl (by decide) rfl fun _ hS => ?_
      repeat first | refine And.intro qLi0 ?_ | refine whole_yes qLi0 ?_ | refine whole_sub ?_
      refine ⟨a, b, k.1, rfl, ⟨by omega, by omega, by omega, by omega⟩, ?_⟩
      repeat refine And.intro qLi0 ?_
      first | refine hS _ _ _ ?_ | (intro cap2 hcap2; refine hS _ _ _ ?_)
      clear hS
      refine s_step rfl (by decide) rfl fun _ hS => ?_
      refine s_split hS (fun hb3 => ?_) (fun hb3 => ?_)
      ·clear hS
       try simp only [decide_eq_true_eq, decide_eq_false_iff_not, Int.not_lt, Int.not_le, Bool.not_eq_true', Bool.not_eq_false', Bool.not_eq_eq_eq_not, Bool.not_true, Bool.not_false, if_true, if_false, reduceIte, Bool.false_eq_true, Int.natCast_inj] at hb3
       refine s_guard (b := true) rfl (by decide) rfl rfl (fun _ _ hS => ?_) (fun e => absurd e (by decide))
       repeat refine And.intro qLi0 ?_
       first | refine hS _ _ _ ?_ | (refine whole_yes qLi0 ?_; refine hS _ _ _ ?_) | (refine whole_sub ?_; refine hS _ _ _ ?_)
       clear hS
       refine s_guard (b := true) rfl (by decide) rfl rfl (fun _ _ hS => ?_) (fun e => absurd e (by decide))
       refine hS _ _ _ ?_
       clear hS
       refine s_guard (b := true) rfl (by decide) rfl rfl (fun _ _ hS => ?_) (fun e => absurd e (by decide))
       repeat first | refine And.intro qLi0 ?_ | refine whole_yes qLi0 ?_ | refine whole_sub ?_
       refine ⟨c, d, k.1, rfl, ⟨by omega, by omega, by omega, by omega⟩, ?_⟩
       repeat refine And.intro qLi0 ?_
       first | refine hS _ _ _ ?_ | (intro cap6 hcap6; refine hS _ _ _ ?_)
       clear hS
       refine s_step rfl (by decide) rfl fun _ hS => ?_
       refine hS _ _ _ ?_
       clear hS
       refine s_step rfl (by decide) rfl fun _ hS => ?_
       refine hS _ _ _ ?_
       clear hS
       refine s_nil ?_
       refine hK42 _ _ _ ?_
       refine hK39 _ _ _ ?_
       refine seq_k fun _ hK43 => ?_
       refine region_k h3_ok fun _ hK44 => ?_
       refine s_step rfl (by decide) rfl fun _ hS => ?_
       refine hS _ _ _ ?_
       clear hS
       refine s_step rfl (by decide) rfl fun _ hS => ?_
       refine hS _ _ _ ?_
       clear hS
       refine s_step rfl (by decide) rfl fun _ hS => ?_
       repeat refine And.intro qLi0 ?_
       refine hS _ _ _ ?_
       clear hS
       refine s_nil ?_
       refine hK44 _ _ _ ?_
       refine hK43 _ _ _ ?_
       refine WP_cond (b := _) rfl (fun h_t61 => ?_) (fun h_t61 => ?_)
       ·try simp only [decide_eq_true_eq] at h_t61
        have hka : k.1 < max a.length c.length := by omega
        have hst := preL_step (fun n => (fun x y => x && y) (atL a b n) (atL c d n)) hka
        refine region_k h3_ok fun _ hK45 => ?_
        refine s_step rfl (by decide) rfl fun _ hS => ?_
        repeat refine And.intro qLi3 ?_
        refine hS _ _ _ ?_
        clear hS
        refine s_step rfl (by decide) rfl fun _ hS => ?_
        repeat refine And.intro qLi3 ?_
        first | refine hS _ _ _ ?_ | (refine whole_yes qLi3 ?_; refine hS _ _ _ ?_) | (refine whole_sub ?_; refine hS _ _ _ ?_)
        clear hS
        refine s_step rfl (by decide) rfl fun _ hS => ?_
        refine hS _ _ _ ?_
        clear hS
        refine s_step rfl (by decide) rfl fun _ hS => ?_
        repeat refine And.intro qLi3 ?_
        refine hS _ _ _ ?_
        clear hS
        refine s_step rfl (by decide) rfl fun _ hS => ?_
        repeat first | refine And.intro qLi3 ?_ | refine whole_yes qLi3 ?_ | refine whole_sub ?_
        intro cap4 hcap4; refine hS _ _ _ ?_
        clear hS
        refine s_step rfl (by decide) rfl fun _ hS => ?_
        repeat refine And.intro qLi3 ?_
        refine hS _ _ _ ?_
        clear hS
        refine s_step0 rfl rfl fun _ hS => ?_
        repeat refine And.intro qLi3 ?_
        first | refine hS _ _ _ ?_ | (refine splice_full qLi3 ?_; refine hS _ _ _ ?_)
        clear hS
        refine s_nil ?_
        refine hK45 _ _ _ ?_
        refine done_block ?_
        refine hK20 _ _ _ ?_
        refine region_k h3_ok fun _ hK46 => ?_
        refine s_step rfl (by decide) rfl fun _ hS => ?_
        refine hS _ _ _ ?_
        clear hS
        refine s_step rfl (by decide) rfl fun _ hS => ?_
        repeat refine And.intro qLi0 ?_
        refine hS _ _ _ ?_
        clear hS
        refine s_step rfl (by decide) rfl fun _ hS => ?_
        refine hS _ _ _ ?_
        clear hS
        refine s_nil ?_
        refine hK46 _ _ _ ?_
        refine Done_some [] (fun i => if i = 4 then 7 else i) (k.1 + 1, cap4, k.2.2) ⟨by omega, by omega⟩ ⟨?_, ?_, (by decide : List.Nodup ([0, 1, 2, 3, 7, 5] : List Nat)), ?_, ?_, ⟨Nat.zero_le _, fun i hi => absurd hi (Nat.not_lt_zero i)⟩⟩
        ·exact uLi0
        ·exact uLi0
        ·exact uLi0
        ·exact uLi0
       ·try simp only [decide_eq_false_iff_not, Int.not_lt] at h_t61
        have hka : max a.length c.length ≤ k.1 := by omega
        have hst := postL_step (fun n => (fun x y => x && y) (atL a b n) (atL c d n)) hka
        refine region_k h3_ok fun _ hK47 => ?_
        refine s_step rfl (by decide) rfl fun _ hS => ?_
        repeat refine And.intro qLi3 ?_
        refine hS _ _ _ ?_
        clear hS
        refine s_step rfl (by decide) rfl fun _ hS => ?_
        repeat refine And.intro qLi3 ?_
        first | refine hS _ _ _ ?_ | (refine whole_yes qLi3 ?_; refine hS _ _ _ ?_) | (refine whole_sub ?_; refine hS _ _ _ ?_)
        clear hS
        refine s_step rfl (by decide) rfl fun _ hS => ?_
        refine hS _ _ _ ?_
        clear hS
        refine s_step rfl (by decide) rfl fun _ hS => ?_
        repeat refine And.intro qLi3 ?_
        refine hS _ _ _ ?_
        clear hS
        refine s_step rfl (by decide) rfl fun _ hS => ?_
        repeat first | refine And.intro qLi3 ?_ | refine whole_yes qLi3 ?_ | refine whole_sub ?_
        intro cap4 hcap4; refine hS _ _ _ ?_
        clear hS
        refine s_step rfl (by decide) rfl fun _ hS => ?_
        repeat refine And.intro qLi3 ?_
        refine hS _ _ _ ?_
        clear hS
        refine s_step0 rfl rfl fun _ hS => ?_
        repeat refine And.intro qLi3 ?_
        first | refine hS _ _ _ ?_ | (refine splice_full qLi3 ?_; refine hS _ _ _ ?_)
        clear hS
        refine s_nil ?_
        refine hK47 _ _ _ ?_
        refine done_block ?_
        refine hK20 _ _ _ ?_
        refine region_k h3_ok fun _ hK48 => ?_
        refine s_step rfl (by decide) rfl fun _ hS => ?_
        refine hS _ _ _ ?_
        clear hS
        refine s_step rfl (by decide) rfl fun _ hS => ?_
        repeat refine And.intro qLi0 ?_
        refine hS _ _ _ ?_
        clear hS
        refine s_step rfl (by decide) rfl fun _ hS => ?_
        refine hS _ _ _ ?_
        clear hS
        refine s_nil ?_
        refine hK48 _ _ _ ?_
        refine Done_some [] (fun i => if i = 5 then 7 else i) (k.1 + 1, k.2.1, cap4) ⟨by omega, by omega⟩ ⟨?_, ?_, (by decide : List.Nodup ([0, 1, 2, 3, 4, 7] : List Nat)), ?_, ?_, ⟨Nat.zero_le _, fun i hi => absurd hi (Nat.not_lt_zero i)⟩⟩
        ·exact uLi0
        ·exact uLi0
        ·exact uLi0
        ·exact uLi0
      ·clear hS
       try simp only [decide_eq_true_eq, decide_eq_false_iff_not, Int.not_lt, Int.not_le, Bool.not_eq_true', Bool.not_eq_false', Bool.not_eq_eq_eq_not, Bool.not_true, Bool.not_false, if_true, if_false, reduceIte, Bool.false_eq_true, Int.natCast_inj] at hb3
       refine s_guard (b := false) rfl (by decide) rfl rfl (fun e => absurd e (by decide)) (fun _ => ?_)
       refine s_guard (b := false) rfl (by decide) rfl rfl (fun e => absurd e (by decide)) (fun _ => ?_)
       refine s_guard (b := false) rfl (by decide) rfl rfl (fun e => absurd e (by decide)) (fun _ => ?_)
       refine s_step rfl (by decide) rfl fun _ hS => ?_
       refine hS _ _ _ ?_
       clear hS
       refine s_step rfl (by decide) rfl fun _ hS => ?_
       refine hS _ _ _ ?_
       clear hS
       refine s_nil ?_
       refine hK42 _ _ _ ?_
       refine hK39 _ _ _ ?_
       refine seq_k fun _ hK49 => ?_
       refine region_k h3_ok fun _ hK50 => ?_
       refine s_step rfl (by decide) rfl fun _ hS => ?_
       refine hS _ _ _ ?_
       clear hS
       refine s_step rfl (by decide) rfl fun _ hS => ?_
       refine hS _ _ _ ?_
       clear hS
       refine s_step rfl (by decide) rfl fun _ hS => ?_
       repeat refine And.intro qLi0 ?_
       refine hS _ _ _ ?_
       clear hS
       refine s_nil ?_
       refine hK50 _ _ _ ?_
       refine hK49 _ _ _ ?_
       refine WP_cond (b := _) rfl (fun h_t61 => ?_) (fun h_t61 => ?_)
       ·try simp only [decide_eq_true_eq] at h_t61
        have hka : k.1 < max a.length c.length := by omega
        have hst := preL_step (fun n => (fun x y => x && y) (atL a b n) (atL c d n)) hka
        refine region_k h3_ok fun _ hK51 => ?_
        refine s_step rfl (by decide) rfl fun _ hS => ?_
        repeat refine And.intro qLi3 ?_
        refine hS _ _ _ ?_
        clear hS
        refine s_step rfl (by decide) rfl fun _ hS => ?_
        repeat refine And.intro qLi3 ?_
        first | refine hS _ _ _ ?_ | (refine whole_yes qLi3 ?_; refine hS _ _ _ ?_) | (refine whole_sub ?_; refine hS _ _ _ ?_)
        clear hS
        refine s_step rfl (by decide) rfl fun _ hS => ?_
        refine hS _ _ _ ?_
        clear hS
        refine s_step rfl (by decide) rfl fun _ hS => ?_
        repeat refine And.intro qLi3 ?_
        refine hS _ _ _ ?_
        clear hS
        refine s_step rfl (by decide) rfl fun _ hS => ?_
        repeat first | refine And.intro qLi3 ?_ | refine whole_yes qLi3 ?_ | refine whole_sub ?_
        intro cap4 hcap4; refine hS _ _ _ ?_
        clear hS
        refine s_step rfl (by decide) rfl fun _ hS => ?_
        repeat refine And.intro qLi3 ?_
        refine hS _ _ _ ?_
        clear hS
        refine s_step0 rfl rfl fun _ hS => ?_
        repeat refine And.intro qLi3 ?_
        first | refine hS _ _ _ ?_ | (refine splice_full qLi3 ?_; refine hS _ _ _ ?_)
        clear hS
        refine s_nil ?_
        refine hK51 _ _ _ ?_
        refine done_block ?_
        refine hK20 _ _ _ ?_
        refine region_k h3_ok fun _ hK52 => ?_
        refine s_step rfl (by decide) rfl fun _ hS => ?_
        refine hS _ _ _ ?_
        clear hS
        refine s_step rfl (by decide) rfl fun _ hS => ?_
        repeat refine And.intro qLi0 ?_
        refine hS _ _ _ ?_
        clear hS
        refine s_step rfl (by decide) rfl fun _ hS => ?_
        refine hS _ _ _ ?_
        clear hS
        refine s_nil ?_
        refine hK52 _ _ _ ?_
        refine Done_some [] (fun i => if i = 4 then 7 else i) (k.1 + 1, cap4, k.2.2) ⟨by omega, by omega⟩ ⟨?_, ?_, (by decide : List.Nodup ([0, 1, 2, 3, 7, 5] : List Nat)), ?_, ?_, ⟨Nat.zero_le _, fun i hi => absurd hi (Nat.not_lt_zero i)⟩⟩
        ·exact uLi0
        ·exact uLi0
        ·exact uLi0
        ·exact uLi0
       ·try simp only [decide_eq_false_iff_not, Int.not_lt] at h_t61
        have hka : max a.length c.length ≤ k.1 := by omega
        have hst := postL_step (fun n => (fun x y => x && y) (atL a b n) (atL c d n)) hka
        refine region_k h3_ok fun _ hK53 => ?_
        refine s_step rfl (by decide) rfl fun _ hS => ?_
        repeat refine And.intro qLi3 ?_
        refine hS _ _ _ ?_
        clear hS
        refine s_step rfl (by decide) rfl fun _ hS => ?_
        repeat refine And.intro qLi3 ?_
        first | refine hS _ _ _ ?_ | (refine whole_yes qLi3 ?_; refine hS _ _ _ ?_) | (refine whole_sub ?_; refine hS _ _ _ ?_)
        clear hS
        refine s_step rfl (by decide) rfl fun _ hS => ?_
        refine hS _ _ _ ?_
        clear hS
        refine s_step rfl (by decide) rfl fun _ hS => ?_
        repeat refine And.intro qLi3 ?_
        refine hS _ _ _ ?_
        clear hS
        refine s_step rfl (by decide) rfl fun _ hS => ?_
        repeat first | refine And.intro qLi3 ?_ | refine whole_yes qLi3 ?_ | refine whole_sub ?_
        intro cap4 hcap4; refine hS _ _ _ ?_
        clear hS
        refine s_step rfl (by decide) rfl fun _ hS => ?_
        repeat refine And.intro qLi3 ?_
        refine hS _ _ _ ?_
        clear hS
        refine s_step0 rfl rfl fun _ hS => ?_
        repeat refine And.intro qLi3 ?_
        first | refine hS _ _ _ ?_ | (refine splice_full qLi3 ?_; refine hS _ _ _ ?_)
        clear hS
        refine s_nil ?_
        refine hK53 _ _ _ ?_
        refine done_block ?_
        refine hK20 _ _ _ ?_
        refine region_k h3_ok fun _ hK54 => ?_
        refine s_step rfl (by decide) rfl fun _ hS => ?_
        refine hS _ _ _ ?_
        clear hS
        refine s_step rfl (by decide) rfl fun _ hS => ?_
        repeat refine And.intro qLi0 ?_
        refine hS _ _ _ ?_
        clear hS
        refine s_step rfl (by decide) rfl fun _ hS => ?_
        refine hS _ _ _ ?_
        clear hS
        refine s_nil ?_
        refine hK54 _ _ _ ?_
        refine Done_some [] (fun i => if i = 5 then 7 else i) (k.1 + 1, k.2.1, cap4) ⟨by omega, by omega⟩ ⟨?_, ?_, (by decide : List.Nodup ([0, 1, 2, 3, 4, 7] : List Nat)), ?_, ?_, ⟨Nat.zero_le _, fun i hi => absurd hi (Nat.not_lt_zero i)⟩⟩
        ·exact uLi0
        ·exact uLi0
        ·exact uLi0
        ·exact uLi0
    ·try simp only [decide_eq_false_iff_not, Int.not_lt] at h_t39
     rw [hPI] at h_t39
     refine WP_exit ?_
     refine done_thenx ?_
     refine done_thenx ?_
     refine Done_hit ?_
     refine hK14 _ _ _ ?_
     refine seq_k fun _ hK55 => ?_
     obtain ⟨k, c1, c2⟩ := k
     obtain rfl : k = max a.length c.length + P := by have := hk; simp at h_t39 this; omega
     refine region_k h3_ok fun _ hK56 => ?_
     refine s_step rfl (by decide) rfl fun _ hS => ?_
     repeat refine And.intro qLi0 ?_
     first | refine hS _ _ _ ?_ | (refine whole_yes qLi0 ?_; refine hS _ _ _ ?_) | (refine whole_sub ?_; refine hS _ _ _ ?_)
     clear hS
     refine s_step rfl (by decide) rfl fun _ hS => ?_
     repeat first | refine And.intro qLi0 ?_ | refine whole_yes qLi0 ?_ | refine whole_sub ?_
     refine ⟨(tabL (fun n => (fun x y => x && y) (atL a b n) (atL c d n)) (max a.length c.length) P).1, (tabL (fun n => (fun x y => x && y) (atL a b n) (atL c d n)) (max a.length c.length) P).2, rfl, ⟨by simp [tabL]; omega, by simp [tabL]; omega⟩, ?_⟩
     repeat refine And.intro qLi0 ?_
     first | refine hS _ _ _ ?_ | (intro cap1 hcap1; refine hS _ _ _ ?_)
     clear hS
     refine s_step rfl (by decide) rfl fun _ hS => ?_
     repeat refine And.intro qLi0 ?_
     refine hS _ _ _ ?_
     clear hS
     refine s_step rfl (by decide) rfl fun _ hS => ?_
     repeat refine And.intro qLi0 ?_
     refine hS _ _ _ ?_
     clear hS
     refine s_step0 rfl rfl fun _ hS => ?_
     repeat refine And.intro qLi0 ?_
     first | refine hS _ _ _ ?_ | (refine splice_full qLi0 ?_; refine hS _ _ _ ?_)
     clear hS
     refine s_step rfl (by decide) rfl fun _ hS => ?_
     refine hS _ _ _ ?_
     clear hS
     refine s_nil ?_
     refine hK56 _ _ _ ?_
     refine hK55 _ _ _ ?_
     refine WP_ret (Done_data h3_ok (fun _ _ h => h) (low_outV) [] [.cell 6 24, .tmp 7] rfl ?_)
     rw [combL, if_pos hv, tabOut, ← hP]
     repeat' (first | exact trivial | refine And.intro ?_ ?_ | rfl | omega | decide | (show (_ : Nat) < _; decide) | exact low_nil' | refine low_cons' ?_ ?_ | exact Nat.le_refl _ | exact Nat.succ_pos _)

def combOS : QSpec := fun vs K => ∃ a b c d, vs = [lsV a b, lsV c d, .c (.bool false)] ∧ B2 a b c d ∧ K (outV (combL (fun x y => x || y) a b c d))
set_option maxHeartbeats 2000000 in
theorem combO_ok : DataOK Tryd.prog gl 40 combOS := by
 refine data_of (Γ := h3) (N := 78) Tryd.func40 rfl rfl fun vs K h => ?_
 obtain ⟨a, b, c, d, rfl, ⟨hl1, hl2, hl3, hl4⟩, h⟩ := h
 refine ⟨_, h, low_outV, by simp, fun w I => ?_⟩
 have maxI : ∀ x y : Nat, (if (x : Int) < y then (y : Int) else x) = ((max x y : Nat) : Int) := fun x y => by split <;> omega
 refine seq_k fun _ hK1 => ?_
 refine region_k h3_ok fun _ hK2 => ?_
 refine s_step rfl (by decide) rfl fun _ hS => ?_
 repeat refine And.intro qLi0 ?_
 refine hS _ _ _ ?_
 clear hS
 refine s_step rfl (by decide) rfl fun _ hS => ?_
 repeat refine And.intro qLi0 ?_
 refine hS _ _ _ ?_
 clear hS
 refine s_step rfl (by decide) rfl fun _ hS => ?_
 repeat refine And.intro qLi0 ?_
 refine hS _ _ _ ?_
 clear hS
 refine s_step rfl (by decide) rfl fun _ hS => ?_
 refine hS _ _ _ ?_
 clear hS
 refine s_nil ?_
 refine hK2 _ _ _ ?_
 refine hK1 _ _ _ ?_
 refine seq_k fun _ hK3 => ?_
 refine seq_k fun _ hK4 => ?_
 refine region_k h3_ok fun _ hK5 => ?_
 refine s_step rfl (by decide) rfl fun _ hS => ?_
 repeat refine And.intro qLi0 ?_
 first | refine hS _ _ _ ?_ | (refine whole_yes qLi0 ?_; refine hS _ _ _ ?_) | (refine whole_sub ?_; refine hS _ _ _ ?_)
 clear hS
 refine s_step rfl (by decide) rfl fun _ hS => ?_
 repeat first | refine And.intro qLi0 ?_ | refine whole_yes qLi0 ?_ | refine whole_sub ?_
 refine ⟨a, b, rfl, ⟨hl1, hl2⟩, ?_⟩
 repeat refine And.intro qLi0 ?_
 first | refine hS _ _ _ ?_ | (intro cap1 hcap1; refine hS _ _ _ ?_)
 clear hS
 refine s_step rfl (by decide) rfl fun _ hS => ?_
 refine hS _ _ _ ?_
 clear hS
 refine s_step rfl (by decide) rfl fun _ hS => ?_
 refine s_split hS (fun hb3 => ?_) (fun hb3 => ?_)
 ·clear hS
  try simp only [decide_eq_false_iff_not, Bool.not_eq_eq_eq_not, Bool.not_true] at hb3
  refine s_guard (b := true) rfl (by decide) rfl rfl (fun e => absurd e (by decide)) (fun _ => ?_)
  refine s_guard (b := true) rfl (by decide) rfl rfl (fun e => absurd e (by decide)) (fun _ => ?_)
  refine s_guard (b := true) rfl (by decide) rfl rfl (fun e => absurd e (by decide)) (fun _ => ?_)
  refine s_step rfl (by decide) rfl fun _ hS => ?_
  refine hS _ _ _ ?_
  clear hS
  refine s_nil ?_
  refine hK5 _ _ _ ?_
  refine hK4 _ _ _ ?_
  refine WP_cond (b := _) rfl (fun _ => ?_) (fun h_t19 => ?_)
  rotate_left 1
  ·exfalso; simp at h_t19
  refine seq_k fun _ hK6 => ?_
  refine region_k h3_ok fun _ hK7 => ?_
  refine s_step rfl (by decide) rfl fun _ hS => ?_
  repeat refine And.intro qLi0 ?_
  refine hS _ _ _ ?_
  clear hS
  refine s_step0 rfl rfl fun _ hS => ?_
  repeat refine And.intro qLi0 ?_
  first | refine hS _ _ _ ?_ | (refine splice_full qLi0 ?_; refine hS _ _ _ ?_)
  clear hS
  refine s_step rfl (by decide) rfl fun _ hS => ?_
  refine hS _ _ _ ?_
  clear hS
  refine s_nil ?_
  refine hK7 _ _ _ ?_
  refine hK6 _ _ _ ?_
  refine WP_ret (Done_data h3_ok (fun _ _ h => h) (low_outV) [] [.cell 6 24, .tmp 7] rfl ?_)
  have hneg : ¬ ((0 < b.length ∧ a.length + b.length ≤ 512) ∧ 0 < d.length ∧ c.length + d.length ≤ 512) := fun hh => hb3 hh.1
  rw [combL, if_neg hneg]
  repeat' (first | exact trivial | refine And.intro ?_ ?_ | rfl | omega | decide | (show (_ : Nat) < _; decide) | exact low_nil' | refine low_cons' ?_ ?_ | exact Nat.le_refl _ | exact Nat.succ_pos _)
 ·clear hS
  try simp only [decide_eq_true_eq, Bool.not_eq_eq_eq_not, Bool.not_false] at hb3
  refine s_guard (b := false) rfl (by decide) rfl rfl (fun _ _ hS => ?_) (fun e => absurd e (by decide))
  repeat refine And.intro qLi0 ?_
  first | refine hS _ _ _ ?_ | (refine whole_yes qLi0 ?_; refine hS _ _ _ ?_) | (refine whole_sub ?_; refine hS _ _ _ ?_)
  clear hS
  refine s_guard (b := false) rfl (by decide) rfl rfl (fun _ _ hS => ?_) (fun e => absurd e (by decide))
  repeat first | refine And.intro qLi0 ?_ | refine whole_yes qLi0 ?_ | refine whole_sub ?_
  refine ⟨c, d, rfl, ⟨hl3, hl4⟩, ?_⟩
  repeat refine And.intro qLi0 ?_
  first | refine hS _ _ _ ?_ | (intro cap5 hcap5; refine hS _ _ _ ?_)
  clear hS
  refine s_guard (b := false) rfl (by decide) rfl rfl (fun _ _ hS => ?_) (fun e => absurd e (by decide))
  refine hS _ _ _ ?_
  clear hS
  refine s_step rfl (by decide) rfl fun _ hS => ?_
  refine hS _ _ _ ?_
  clear hS
  refine s_nil ?_
  refine hK5 _ _ _ ?_
  refine hK4 _ _ _ ?_
  refine WP_cond (b := _) rfl (fun h_t19 => ?_) (fun h_t19 => ?_)
  ·try try simp only [decide_eq_false_iff_not, Bool.not_eq_eq_eq_not, Bool.not_true, if_false, Bool.false_eq_true] at h_t19
   refine seq_k fun _ hK8 => ?_
   refine region_k h3_ok fun _ hK9 => ?_
   refine s_step rfl (by decide) rfl fun _ hS => ?_
   repeat refine And.intro qLi0 ?_
   refine hS _ _ _ ?_
   clear hS
   refine s_step0 rfl rfl fun _ hS => ?_
   repeat refine And.intro qLi0 ?_
   first | refine hS _ _ _ ?_ | (refine splice_full qLi0 ?_; refine hS _ _ _ ?_)
   clear hS
   refine s_step rfl (by decide) rfl fun _ hS => ?_
   refine hS _ _ _ ?_
   clear hS
   refine s_nil ?_
   refine hK9 _ _ _ ?_
   refine hK8 _ _ _ ?_
   refine WP_ret (Done_data h3_ok (fun _ _ h => h) (low_outV) [] [.cell 6 24, .tmp 7] rfl ?_)
   have hneg : ¬ ((0 < b.length ∧ a.length + b.length ≤ 512) ∧ 0 < d.length ∧ c.length + d.length ≤ 512) := fun hh => h_t19 hh.2
   rw [combL, if_neg hneg]
   repeat' (first | exact trivial | refine And.intro ?_ ?_ | rfl | omega | decide | (show (_ : Nat) < _; decide) | exact low_nil' | refine low_cons' ?_ ?_ | exact Nat.le_refl _ | exact Nat.succ_pos _)
  ·try try simp only [decide_eq_true_eq, Bool.not_eq_eq_eq_not, Bool.not_false, if_false, Bool.false_eq_true] at h_t19
   refine WP_skip ?_
   refine hK3 _ _ _ ?_
   refine seq_k fun _ hK10 => ?_
   have hv : (0 < b.length ∧ a.length + b.length ≤ 512) ∧ 0 < d.length ∧ c.length + d.length ≤ 512 := by
    first | omega | (simp at h_t19; omega)
   have hmu : b.length * d.length ≤ 512 * 512 := Nat.mul_le_mul (by omega) (by omega)
   have hmp : 0 < b.length * d.length := Nat.mul_pos (by omega) (by omega)
   obtain ⟨P, hP⟩ : ∃ P, P = b.length * d.length := ⟨_, rfl⟩
   have hPI : (b.length : Int) * (d.length : Int) = (P : Int) := by rw [hP]; push_cast; rfl
   rw [← hP] at hmu hmp
   refine region_k h3_ok fun _ hK11 => ?_
   refine s_step rfl (by decide) rfl fun _ hS => ?_
   repeat refine And.intro qLi1 ?_
   refine hS _ _ _ ?_
   clear hS
   refine s_step rfl (by decide) rfl fun _ hS => ?_
   repeat refine And.intro qLi1 ?_
   first | refine hS _ _ _ ?_ | (refine whole_yes qLi1 ?_; refine hS _ _ _ ?_) | (refine whole_sub ?_; refine hS _ _ _ ?_)
   clear hS
   refine s_step rfl (by decide) rfl fun _ hS => ?_
   repeat refine And.intro qLi1 ?_
   refine hS _ _ _ ?_
   clear hS
   refine s_step rfl (by decide) rfl fun _ hS => ?_
   repeat refine And.intro qLi1 ?_
   refine hS _ _ _ ?_
   clear hS
   refine s_step rfl (by decide) rfl fun _ hS => ?_
   repeat refine And.intro qLi1 ?_
   first | refine hS _ _ _ ?_ | (refine whole_yes qLi1 ?_; refine hS _ _ _ ?_) | (refine whole_sub ?_; refine hS _ _ _ ?_)
   clear hS
   refine s_step rfl (by decide) rfl fun _ hS => ?_
   repeat refine And.intro qLi1 ?_
   refine hS _ _ _ ?_
   clear hS
   refine s_step rfl (by decide) rfl fun _ hS => ?_
   repeat refine And.intro qLi1 ?_
   refine hS _ _ _ ?_
   clear hS
   refine s_step rfl (by decide) rfl fun _ hS => ?_
   refine hS _ _ _ ?_
   clear hS
   refine s_nil ?_
   refine hK11 _ _ _ ?_
   refine hK10 _ _ _ ?_
   refine seq_k fun _ hK12 => ?_
   refine region_k h3_ok fun _ hK13 => ?_
   refine s_step rfl (by decide) rfl fun _ hS => ?_
   repeat refine And.intro qLi0 ?_
   refine hS _ _ _ ?_
   clear hS
   refine s_step rfl (by decide) rfl fun _ hS => ?_
   repeat refine And.intro qLi0 ?_
   refine hS _ _ _ ?_
   clear hS
   refine s_step0 rfl rfl fun _ hS => ?_
   repeat refine And.intro qLi0 ?_
   first | refine hS _ _ _ ?_ | (refine splice_full qLi0 ?_; refine hS _ _ _ ?_)
   clear hS
   refine s_nil ?_
   refine hK13 _ _ _ ?_
   refine hK12 _ _ _ ?_
   refine seq_k fun _ hK14 => ?_
   refine seq_k fun _ hK15 => ?_
   refine region_k h3_ok fun _ hK16 => ?_
   refine s_step rfl (by decide) rfl fun _ hS => ?_
   refine hS _ _ _ ?_
   clear hS
   refine s_nil ?_
   refine hK16 _ _ _ ?_
   refine hK15 _ _ _ ?_
   refine WP_block ?_
   refine WP_nilat 3 0 4 (.bools []) rfl rfl rfl trivial ?_
   refine WP_nilat 3 1 4 (.bools []) rfl rfl rfl trivial ?_
   refine WP_loop (α := Nat × Nat × Nat) (fun k => [(2, .c (.bool false)), (3, .c (.ptr 0 0)), (4, .c (.ptr 1 0)), (6, .c (.ptr 2 0)), (8, .c (.int .i64 ((max a.length c.length : Nat) : Int))), (9, .c (.ptr 3 0)), (10, .c (.int .i64 k.1))]) (fun k => [(0, .own 24 (.cells [.ds a.length (.bools a), .ds b.length (.bools b)]) 2), (1, .own 24 (.cells [.ds c.length (.bools c), .ds d.length (.bools d)]) 2), (2, .own 24 (.cells [.nils, .nils]) 2), (3, .own 24 (.cells [.slice 4 0 (preL (fun n => (fun x y => x || y) (atL a b n) (atL c d n)) (max a.length c.length) k.1).length k.2.1, .slice 5 0 (postL (fun n => (fun x y => x || y) (atL a b n) (atL c d n)) (max a.length c.length) k.1).length k.2.2]) 2), (4, .own 4 (.bools (preL (fun n => (fun x y => x || y) (atL a b n) (atL c d n)) (max a.length c.length) k.1)) k.2.1), (5, .own 4 (.bools (postL (fun n => (fun x y => x || y) (atL a b n) (atL c d n)) (max a.length c.length) k.1)) k.2.2)]) 6 (fun k => k.1 ≤ max a.length c.length + P) (fun k => max a.length c.length + P - k.1) ?_ ?_
   ·refine Done_some [] id (0, 0, 0) (Nat.zero_le _) ⟨?_, ?_, (by decide : List.Nodup ([0, 1, 2, 3, 4, 5] : List Nat)), ?_, ?_, ⟨Nat.zero_le _, fun i hi => absurd hi (Nat.not_lt_zero i)⟩⟩
    ·exact uLi0
    ·exact uLi0
    ·exact uLi0
    ·exact uLi0
   ·intro k hk
    refine seq_k fun _ hK17 => ?_
    refine seq_k fun _ hK18 => ?_
    refine region_k h3_ok fun _ hK19 => ?_
    refine s_step rfl (by decide) rfl fun _ hS => ?_
    refine hS _ _ _ ?_
    clear hS
    refine s_step rfl (by decide) rfl fun _ hS => ?_
    refine hS _ _ _ ?_
    clear hS
    refine s_step rfl (by decide) rfl fun _ hS => ?_
    repeat refine And.intro qLi2 ?_
    refine hS _ _ _ ?_
    clear hS
    refine s_step rfl (by decide) rfl fun _ hS => ?_
    repeat refine And.intro qLi2 ?_
    first | refine hS _ _ _ ?_ | (refine whole_yes qLi2 ?_; refine hS _ _ _ ?_) | (refine whole_sub ?_; refine hS _ _ _ ?_)
    clear hS
    refine s_step rfl (by decide) rfl fun _ hS => ?_
    repeat refine And.intro qLi2 ?_
    refine hS _ _ _ ?_
    clear hS
    refine s_step rfl (by decide) rfl fun _ hS => ?_
    repeat refine And.intro qLi2 ?_
    refine hS _ _ _ ?_
    clear hS
    refine s_step rfl (by decide) rfl fun _ hS => ?_
    repeat refine And.intro qLi2 ?_
    first | refine hS _ _ _ ?_ | (refine whole_yes qLi2 ?_; refine hS _ _ _ ?_) | (refine whole_sub ?_; refine hS _ _ _ ?_)
    clear hS
    refine s_step rfl (by decide) rfl fun _ hS => ?_
    repeat refine And.intro qLi2 ?_
    refine hS _ _ _ ?_
    clear hS
    refine s_step rfl (by decide) rfl fun _ hS => ?_
    repeat refine And.intro qLi2 ?_
    refine hS _ _ _ ?_
    clear hS
    refine s_step rfl (by decide) rfl fun _ hS => ?_
    repeat refine And.intro qLi2 ?_
    refine hS _ _ _ ?_
    clear hS
    refine s_step rfl (by decide) rfl fun _ hS => ?_
    repeat refine And.intro qLi2 ?_
    refine hS _ _ _ ?_
    clear hS
    refine s_nil ?_
    refine hK19 _ _ _ ?_
    refine hK18 _ _ _ ?_
    refine WP_cond (b := _) rfl (fun h_t39 => ?_) (fun h_t39 => ?_)
    ·try simp only [decide_eq_true_eq] at h_t39
     rw [hPI] at h_t39
     refine WP_skip ?_
     refine hK17 _ _ _ ?_
     refine seq_k fun _ hK20 => ?_
     refine WP_block ?_
     refine seq_k fun _ hK21 => ?_
     refine region_k h3_ok fun _ hK22 => ?_
     refine s_step rfl (by decide) rfl fun _ hS => ?_
     repeat refine And.intro qLi0 ?_
     first | refine hS _ _ _ ?_ | (refine whole_yes qLi0 ?_; refine hS _ _ _ ?_) | (refine whole_sub ?_; refine hS _ _ _ ?_)
     clear hS
     refine s_step rfl (by decide) rfl fun _ hS => ?_
     refine hS _ _ _ ?_
     clear hS
     refine s_step rfl (by decide) rfl fun _ hS => ?_
     repeat first | refine And.intro qLi0 ?_ | refine whole_yes qLi0 ?_ | refine whole_sub ?_
     refine ⟨a, b, k.1, rfl, ⟨by omega, by omega, by omega, by omega⟩, ?_⟩
     repeat refine And.intro qLi0 ?_
     first | refine hS _ _ _ ?_ | (intro cap2 hcap2; refine hS _ _ _ ?_)
     clear hS
     refine s_step rfl (by decide) rfl fun _ hS => ?_
     refine s_split hS (fun hb3 => ?_) (fun hb3 => ?_)
     ·clear hS
      try simp only [decide_eq_true_eq, decide_eq_false_iff_not, Int.not_lt, Int.not_le, Bool.not_eq_true', Bool.not_eq_false', Bool.not_eq_eq_eq_not, Bool.not_true, Bool.not_false, if_true, if_false, reduceIte, Bool.false_eq_true, Int.natCast_inj] at hb3
      refine s_guard (b := true) rfl (by decide) rfl rfl (fun e => absurd e (by decide)) (fun _ => ?_)
      refine s_guard (b := true) rfl (by decide) rfl rfl (fun e => absurd e (by decide)) (fun _ => ?_)
      refine s_guard (b := true) rfl (by decide) rfl rfl (fun e => absurd e (by decide)) (fun _ => ?_)
      refine s_step rfl (by decide) rfl fun _ hS => ?_
      refine hS _ _ _ ?_
      clear hS
      refine s_step rfl (by decide) rfl fun _ hS => ?_
      refine hS _ _ _ ?_
      clear hS
      refine s_nil ?_
      refine hK22 _ _ _ ?_
      refine hK21 _ _ _ ?_
      refine seq_k fun _ hK23 => ?_
      refine seq_k fun _ hK24 => ?_
      refine region_k h3_ok fun _ hK25 => ?_
      refine s_step rfl (by decide) rfl fun _ hS => ?_
      refine hS _ _ _ ?_
      clear hS
      refine s_nil ?_
      refine hK25 _ _ _ ?_
      refine hK24 _ _ _ ?_
      refine WP_cond (b := _) rfl (fun h_t50 => ?_) (fun _ => ?_)
      ·exfalso; cases h_t50
      refine WP_skip ?_
      refine hK23 _ _ _ ?_
      refine seq_k fun _ hK26 => ?_
      refine region_k h3_ok fun _ hK27 => ?_
      refine s_step rfl (by decide) rfl fun _ hS => ?_
      refine hS _ _ _ ?_
      clear hS
      refine s_step rfl (by decide) rfl fun _ hS => ?_
      refine hS _ _ _ ?_
      clear hS
      refine s_step rfl (by decide) rfl fun _ hS => ?_
      repeat refine And.intro qLi0 ?_
      refine hS _ _ _ ?_
      clear hS
      refine s_nil ?_
      refine hK27 _ _ _ ?_
      refine hK26 _ _ _ ?_
      refine WP_cond (b := _) rfl (fun h_t61 => ?_) (fun h_t61 => ?_)
      ·try simp only [decide_eq_true_eq] at h_t61
       have hka : k.1 < max a.length c.length := by omega
       have hst := preL_step (fun n => (fun x y => x || y) (atL a b n) (atL c d n)) hka
       refine region_k h3_ok fun _ hK28 => ?_
       refine s_step rfl (by decide) rfl fun _ hS => ?_
       repeat refine And.intro qLi3 ?_
       refine hS _ _ _ ?_
       clear hS
       refine s_step rfl (by decide) rfl fun _ hS => ?_
       repeat refine And.intro qLi3 ?_
       first | refine hS _ _ _ ?_ | (refine whole_yes qLi3 ?_; refine hS _ _ _ ?_) | (refine whole_sub ?_; refine hS _ _ _ ?_)
       clear hS
       refine s_step rfl (by decide) rfl fun _ hS => ?_
       refine hS _ _ _ ?_
       clear hS
       refine s_step rfl (by decide) rfl fun _ hS => ?_
       repeat refine And.intro qLi3 ?_
       refine hS _ _ _ ?_
       clear hS
       refine s_step rfl (by decide) rfl fun _ hS => ?_
       repeat first | refine And.intro qLi3 ?_ | refine whole_yes qLi3 ?_ | refine whole_sub ?_
       intro cap4 hcap4; refine hS _ _ _ ?_
       clear hS
       refine s_step rfl (by decide) rfl fun _ hS => ?_
       repeat refine And.intro qLi3 ?_
       refine hS _ _ _ ?_
       clear hS
       refine s_step0 rfl rfl fun _ hS => ?_
       repeat refine And.intro qLi3 ?_
       first | refine hS _ _ _ ?_ | (refine splice_full qLi3 ?_; refine hS _ _ _ ?_)
       clear hS
       refine s_nil ?_
       refine hK28 _ _ _ ?_
       refine done_block ?_
       refine hK20 _ _ _ ?_
       refine region_k h3_ok fun _ hK29 => ?_
       refine s_step rfl (by decide) rfl fun _ hS => ?_
       refine hS _ _ _ ?_
       clear hS
       refine s_step rfl (by decide) rfl fun _ hS => ?_
       repeat refine And.intro qLi0 ?_
       refine hS _ _ _ ?_
       clear hS
       refine s_step rfl (by decide) rfl fun _ hS => ?_
       refine hS _ _ _ ?_
       clear hS
       refine s_nil ?_
       refine hK29 _ _ _ ?_
       refine Done_some [] (fun i => if i = 4 then 7 else i) (k.1 + 1, cap4, k.2.2) ⟨by omega, by omega⟩ ⟨?_, ?_, (by decide : List.Nodup ([0, 1, 2, 3, 7, 5] : List Nat)), ?_, ?_, ⟨Nat.zero_le _, fun i hi => absurd hi (Nat.not_lt_zero i)⟩⟩
       ·exact uLi0
       ·exact uLi0
       ·exact uLi0
       ·exact uLi0
      ·try simp only [decide_eq_false_iff_not, Int.not_lt] at h_t61
       have hka : max a.length c.length ≤ k.1 := by omega
       have hst := postL_step (fun n => (fun x y => x || y) (atL a b n) (atL c d n)) hka
       refine region_k h3_ok fun _ hK30 => ?_
       refine s_step rfl (by decide) rfl fun _ hS => ?_
       repeat refine And.intro qLi3 ?_
       refine hS _ _ _ ?_
       clear hS
       refine s_step rfl (by decide) rfl fun _ hS => ?_
       repeat refine And.intro qLi3 ?_
       first | refine hS _ _ _ ?_ | (refine whole_yes qLi3 ?_; refine hS _ _ _ ?_) | (refine whole_sub ?_; refine hS _ _ _ ?_)
       clear hS
       refine s_step rfl (by decide) rfl fun _ hS => ?_
       refine hS _ _ _ ?_
       clear hS
       refine s_step rfl (by decide) rfl fun _ hS => ?_
       repeat refine And.intro qLi3 ?_
       refine hS _ _ _ ?_
       clear hS
       refine s_step rfl (by decide) rfl fun _ hS => ?_
       repeat first | refine And.intro qLi3 ?_ | refine whole_yes qLi3 ?_ | refine whole_sub ?_
       intro cap4 hcap4; refine hS _ _ _ ?_
       clear hS
       refine s_step rfl (by decide) rfl fun _ hS => ?_
       repeat refine And.intro qLi3 ?_
       refine hS _ _ _ ?_
       clear hS
       refine s_step0 rfl rfl fun _ hS => ?_
       repeat refine And.intro qLi3 ?_
       first | refine hS _ _ _ ?_ | (refine splice_full qLi3 ?_; refine hS _ _ _ ?_)
       clear hS
       refine s_nil ?_
       refine hK30 _ _ _ ?_
       refine done_block ?_
       refine hK20 _ _ _ ?_
       refine region_k h3_ok fun _ hK31 => ?_
       refine s_step rfl (by decide) rfl fun _ hS => ?_
       refine hS _ _ _ ?_
       clear hS
       refine s_step rfl (by decide) rfl fun _ hS => ?_
       repeat refine And.intro qLi0 ?_
       refine hS _ _ _ ?_
       clear hS
       refine s_step rfl (by decide) rfl fun _ hS => ?_
       refine hS _ _ _ ?_
       clear hS
       refine s_nil ?_
       refine hK31 _ _ _ ?_
       refine Done_some [] (fun i => if i = 5 then 7 else i) (k.1 + 1, k.2.1, cap4) ⟨by omega, by omega⟩ ⟨?_, ?_, (by decide : List.Nodup ([0, 1, 2, 3, 4, 7] : List Nat)), ?_, ?_, ⟨Nat.zero_le _, fun i hi => absurd hi (Nat.not_lt_zero i)⟩⟩
       ·exact uLi0
       ·exact uLi0
       ·exact uLi0
       ·exact uLi0
     ·clear hS
      try simp only [decide_eq_true_eq, decide_eq_false_iff_not, Int.not_lt, Int.not_le, Bool.not_eq_true', Bool.not_eq_false', Bool.not_eq_eq_eq_not, Bool.not_true, Bool.not_false, if_true, if_false, reduceIte, Bool.false_eq_true, Int.natCast_inj] at hb3
      refine s_guard (b := false) rfl (by decide) rfl rfl (fun _ _ hS => ?_) (fun e => absurd e (by decide))
      repeat refine And.intro qLi0 ?_
      first | refine hS _ _ _ ?_ | (refine whole_yes qLi0 ?_; refine hS _ _ _ ?_) | (refine whole_sub ?_; refine hS _ _ _ ?_)
      clear hS
      refine s_guard (b := false) rfl (by decide) rfl rfl (fun _ _ hS => ?_) (fun e => absurd e (by decide))
      refine hS _ _ _ ?_
      clear hS
      refine s_guard (b := false) rfl (by decide) rfl rfl (fun _ _ hS => ?_) (fun e => absurd e (by decide))
      repeat first | refine And.intro qLi0 ?_ | refine whole_yes qLi0 ?_ | refine whole_sub ?_
      refine ⟨c, d, k.1, rfl, ⟨by omega, by omega, by omega, by omega⟩, ?_⟩
      repeat refine And.intro qLi0 ?_
      first | refine hS _ _ _ ?_ | (intro cap6 hcap6; refine hS _ _ _ ?_)
      clear hS
      refine s_step rfl (by decide) rfl fun _ hS => ?_
      refine hS _ _ _ ?_
      clear hS
      refine s_step rfl (by decide) rfl fun _ hS => ?_
      refine hS _ _ _ ?_
      clear hS
      refine s_nil ?_
      refine hK22 _ _ _ ?_
      refine hK21 _ _ _ ?_
      refine seq_k fun _ hK32 => ?_
      refine seq_k fun _ hK33 => ?_
      refine region_k h3_ok fun _ hK34 => ?_
      refine s_step rfl (by decide) rfl fun _ hS => ?_
      refine hS _ _ _ ?_
      clear hS
      refine s_nil ?_
      refine hK34 _ _ _ ?_
      refine hK33 _ _ _ ?_
      refine WP_cond (b := _) rfl (fun h_t50 => ?_) (fun _ => ?_)
      ·exfalso; cases h_t50
      refine WP_skip ?_
      refine hK32 _ _ _ ?_
      refine seq_k fun _ hK35 => ?_
      refine region_k h3_ok fun _ hK36 => ?_
      refine s_step rfl (by decide) rfl fun _ hS => ?_
      refine hS _ _ _ ?_
      clear hS
      refine s_step rfl (by decide) rfl fun _ hS => ?_
      refine hS _ _ _ ?_
      clear hS
      refine s_step rfl (by decide) rfl fun _ hS => ?_
      repeat refine And.intro qLi0 ?_
      refine hS _ _ _ ?_
      clear hS
      refine s_nil ?_
      refine hK36 _ _ _ ?_
      refine hK35 _ _ _ ?_
      refine WP_cond (b := _) rfl (fun h_t61 => ?_) (fun h_t61 => ?_)
      ·try simp only [decide_eq_true_eq] at h_t61
       have hka : k.1 < max a.length c.length := by omega
       have hst := preL_step (fun n => (fun x y => x || y) (atL a b n) (atL c d n)) hka
       refine region_k h3_ok fun _ hK37 => ?_
       refine s_step rfl (by decide) rfl fun _ hS => ?_
       repeat refine And.intro qLi3 ?_
       refine hS _ _ _ ?_
       clear hS
       refine s_step rfl (by decide) rfl fun _ hS => ?_
       repeat refine And.intro qLi3 ?_
       first | refine hS _ _ _ ?_ | (refine whole_yes qLi3 ?_; refine hS _ _ _ ?_) | (refine whole_sub ?_; refine hS _ _ _ ?_)
       clear hS
       refine s_step rfl (by decide) rfl fun _ hS => ?_
       refine hS _ _ _ ?_
       clear hS
       refine s_step rfl (by decide) rfl fun _ hS => ?_
       repeat refine And.intro qLi3 ?_
       refine hS _ _ _ ?_
       clear hS
       refine s_step rfl (by decide) rfl fun _ hS => ?_
       repeat first | refine And.intro qLi3 ?_ | refine whole_yes qLi3 ?_ | refine whole_sub ?_
       intro cap4 hcap4; refine hS _ _ _ ?_
       clear hS
       refine s_step rfl (by decide) rfl fun _ hS => ?_
       repeat refine And.intro qLi3 ?_
       refine hS _ _ _ ?_
       clear hS
       refine s_step0 rfl rfl fun _ hS => ?_
       repeat refine And.intro qLi3 ?_
       first | refine hS _ _ _ ?_ | (refine splice_full qLi3 ?_; refine hS _ _ _ ?_)
       clear hS
       refine s_nil ?_
       refine hK37 _ _ _ ?_
       refine done_block ?_
       refine hK20 _ _ _ ?_
       refine region_k h3_ok fun _ hK38 => ?_
       refine s_step rfl (by decide) rfl fun _ hS => ?_
       refine hS _ _ _ ?_
       clear hS
       refine s_step rfl (by decide) rfl fun _ hS => ?_
       repeat refine And.intro qLi0 ?_
       refine hS _ _ _ ?_
       clear hS
       refine s_step rfl (by decide) rfl fun _ hS => ?_
       refine hS _ _ _ ?_
       clear hS
       refine s_nil ?_
       refine hK38 _ _ _ ?_
       refine Done_some [] (fun i => if i = 4 then 7 else i) (k.1 + 1, cap4, k.2.2) ⟨by omega, by omega⟩ ⟨?_, ?_, (by decide : List.Nodup ([0, 1, 2, 3, 7, 5] : List Nat)), ?_, ?_, ⟨Nat.zero_le _, fun i hi => absurd hi (Nat.not_lt_zero i)⟩⟩
       ·exact uLi0
       ·exact uLi0
       ·exact uLi0
       ·exact uLi0
      ·try simp only [decide_eq_false_iff_not, Int.not_lt] at h_t61
       have hka : max a.length c.length ≤ k.1 := by omega
       have hst := postL_step (fun n => (fun x y => x || y) (atL a b n) (atL c d n)) hka
       refine region_k h3_ok fun _ hK39 => ?_
       refine s_step rfl (by decide) rfl fun _ hS => ?_
       repeat refine And.intro qLi3 ?_
       refine hS _ _ _ ?_
       clear hS
       refine s_step rfl (by decide) rfl fun _ hS => ?_
       repeat refine And.intro qLi3 ?_
       first | refine hS _ _ _ ?_ | (refine whole_yes qLi3 ?_; refine hS _ _ _ ?_) | (refine whole_sub ?_; refine hS _ _ _ ?_)
       clear hS
       refine s_step rfl (by decide) rfl fun _ hS => ?_
       refine hS _ _ _ ?_
       clear hS
       refine s_step rfl (by decide) rfl fun _ hS => ?_
       repeat refine And.intro qLi3 ?_
       refine hS _ _ _ ?_
       clear hS
       refine s_step rfl (by decide) rfl fun _ hS => ?_
       repeat first | refine And.intro qLi3 ?_ | refine whole_yes qLi3 ?_ | refine whole_sub ?_
       intro cap4 hcap4; refine hS _ _ _ ?_
       clear hS
       refine s_step rfl (by decide) rfl fun _ hS => ?_
       repeat refine And.intro qLi3 ?_
       refine hS _ _ _ ?_
       clear hS
       refine s_step0 rfl rfl fun _ hS => ?_
       repeat refine And.intro qLi3 ?_
       first | refine hS _ _ _ ?_ | (refine splice_full qLi3 ?_; refine hS _ _ _ ?_)
       clear hS
       refine s_nil ?_
       refine hK39 _ _ _ ?_
       refine done_block ?_
       refine hK20 _ _ _ ?_
       refine region_k h3_ok fun _ hK40 => ?_
       refine s_step rfl (by decide) rfl fun _ hS => ?_
       refine hS _ _ _ ?_
       clear hS
       refine s_step rfl (by decide) rfl fun _ hS => ?_
       repeat refine And.intro qLi0 ?_
       refine hS _ _ _ ?_
       clear hS
       refine s_step rfl (by decide) rfl fun _ hS => ?_
       refine hS _ _ _ ?_
       clear hS
       refine s_nil ?_
       refine hK40 _ _ _ ?_
       refine Done_some [] (fun i => if i = 5 then 7 else i) (k.1 + 1, k.2.1, cap4) ⟨by omega, by omega⟩ ⟨?_, ?_, (by decide : List.Nodup ([0, 1, 2, 3, 4, 7] : List Nat)), ?_, ?_, ⟨Nat.zero_le _, fun i hi => absurd hi (Nat.not_lt_zero i)⟩⟩
       ·exact uLi0
       ·exact uLi0
       ·exact uLi0
       ·exact uLi0
    ·try simp only [decide_eq_false_iff_not, Int.not_lt] at h_t39
     rw [hPI] at h_t39
     refine WP_exit ?_
     refine done_thenx ?_
     refine done_thenx ?_
     refine Done_hit ?_
     refine hK14 _ _ _ ?_
     refine seq_k fun _ hK41 => ?_
     obtain ⟨k, c1, c2⟩ := k
     obtain rfl : k = max a.length c.length + P := by have := hk; simp at h_t39 this; omega
     refine region_k h3_ok fun _ hK42 => ?_
     refine s_step rfl (by decide) rfl fun _ hS => ?_
     repeat refine And.intro qLi0 ?_
     first | refine hS _ _ _ ?_ | (refine whole_yes qLi0 ?_; refine hS _ _ _ ?_) | (refine whole_sub ?_; refine hS _ _ _ ?_)
     clear hS
     refine s_step rfl (by decide) rfl fun _ hS => ?_
     repeat first | refine And.intro qLi0 ?_ | refine whole_yes qLi0 ?_ | refine whole_sub ?_
     refine ⟨(tabL (fun n => (fun x y => x || y) (atL a b n) (atL c d n)) (max a.length c.length) P).1, (tabL (fun n => (fun x y => x || y) (atL a b n) (atL c d n)) (max a.length c.length) P).2, rfl, ⟨by simp [tabL]; omega, by simp [tabL]; omega⟩, ?_⟩
     repeat refine And.intro qLi0 ?_
     first | refine hS _ _ _ ?_ | (intro cap1 hcap1; refine hS _ _ _ ?_)
     clear hS
     refine s_step rfl (by decide) rfl fun _ hS => ?_
     repeat refine And.intro qLi0 ?_
     refine hS _ _ _ ?_
     clear hS
     refine s_step rfl (by decide) rfl fun _ hS => ?_
     repeat refine And.intro qLi0 ?_
     refine hS _ _ _ ?_
     clear hS
     refine s_step0 rfl rfl fun _ hS => ?_
     repeat refine And.intro qLi0 ?_
     first | refine hS _ _ _ ?_ | (refine splice_full qLi0 ?_; refine hS _ _ _ ?_)
     clear hS
     refine s_step rfl (by decide) rfl fun _ hS => ?_
     refine hS _ _ _ ?_
     clear hS
     refine s_nil ?_
     refine hK42 _ _ _ ?_
     refine hK41 _ _ _ ?_
     refine WP_ret (Done_data h3_ok (fun _ _ h => h) (low_outV) [] [.cell 6 24, .tmp 7] rfl ?_)
     rw [combL, if_pos hv, tabOut, ← hP]
     repeat' (first | exact trivial | refine And.intro ?_ ?_ | rfl | omega | decide | (show (_ : Nat) < _; decide) | exact low_nil' | refine low_cons' ?_ ?_ | exact Nat.le_refl _ | exact Nat.succ_pos _)
end
end Go.Proofs.YtpfncffapgkjaaaDoor
