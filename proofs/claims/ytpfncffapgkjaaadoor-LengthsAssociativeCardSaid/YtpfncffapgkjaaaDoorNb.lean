/- The law: least members. -/
import Derived.Test.YtpfncffapgkjaaaDoorAb14
import Derived.Test.YtpfncffapgkjaaaDoorAb21
import Derived.Test.YtpfncffapgkjaaaDoorCtx
import Derived.Test.YtpfncffapgkjaaaDoorLa
import Derived.Test.YtpfncffapgkjaaaDoorLc
import Derived.Test.YtpfncffapgkjaaaDoorLd
import Derived.Test.YtpfncffapgkjaaaDoorLf
import Derived.Test.YtpfncffapgkjaaaDoorLi
import Derived.Test.YtpfncffapgkjaaaDoorLk
import Derived.Test.YtpfncffapgkjaaaDoorLw
import Derived.Test.YtpfncffapgkjaaaDoorMa
import Derived.Test.YtpfncffapgkjaaaDoorNa
namespace Go.Proofs.YtpfncffapgkjaaaDoor
set_option linter.unusedVariables false
open Go.Ab Go.RowKit

theorem qNb0 {a : Prop} (h : a := by first | omega | exact trivial | rfl | (simp only [len_u8s, len_u32s, len_u64s, len_ints, len_bools, len_cells]; omega) | exact inR_i64.mpr ⟨by omega, by omega⟩ | (simp <;> omega) | (refine And.intro ?_ ?_ <;> exact trivial) | exact ⟨trivial, trivial, trivial⟩ | decide | (refine And.intro rfl ?_; (repeat first | exact trivial | refine And.intro rfl ?_); done) | exact Nat.succ_pos _ | exact Nat.le_refl _ | (refine And.intro trivial ?_; (repeat first | exact trivial | refine And.intro trivial ?_); done)) : a := h
theorem qNb1 {a : Prop} (h : a := by first | omega | exact trivial | rfl | (simp only [len_u8s, len_u32s, len_u64s, len_ints, len_bools, len_cells]; omega) | exact inR_i64.mpr ⟨by omega, by omega⟩ | (simp <;> omega) | exact inR_i64.mpr ⟨by omega, by omega⟩ | (refine And.intro ?_ ?_ <;> exact trivial) | exact ⟨trivial, trivial, trivial⟩ | decide | (refine And.intro rfl ?_; (repeat first | exact trivial | refine And.intro rfl ?_); done) | exact Nat.succ_pos _ | exact Nat.le_refl _ | (refine And.intro trivial ?_; (repeat first | exact trivial | refine And.intro trivial ?_); done)) : a := h
theorem uNb0 {a : Prop} (h : a := by
    repeat' (first | exact trivial | refine And.intro ?_ ?_ | rfl | omega | decide | (show (_ : Nat) < _; decide) | exact low_nil' | refine low_cons' ?_ ?_ | exact Nat.le_refl _ | exact Nat.succ_pos _)
    all_goals first | omega | exact low_lsC | exact max0 m | (simp; done) | (simp <;> omega) | skip) : a := h

theorem firstL_no {t : Nat → Bool} : ∀ k n, (∀ j, n ≤ j → j < n + k → t j = false) → firstL t k n = -1
  | 0, n, _ => rfl
  | k + 1, n, h => by
    rw [firstL, h n (Nat.le_refl _) (by omega)]
    exact firstL_no k (n + 1) fun j h1 h2 => h j (by omega) (by omega)
theorem firstL_at {t : Nat → Bool} {m : Nat} (hm : t m = true) : ∀ k n, n ≤ m → m < n + k → (∀ j, n ≤ j → j < m → t j = false) → firstL t k n = m
  | 0, n, h1, h2, _ => by omega
  | k + 1, n, h1, h2, h => by
    rw [firstL]
    by_cases e : n = m
    · subst e; rw [if_pos hm]
    · rw [h n (Nat.le_refl _) (by omega)]
      exact firstL_at hm k (n + 1) (by omega) (by omega) fun j h3 h4 => h j (by omega) h4
theorem hasL_nat {h c : List Bool} (hv : 0 < c.length ∧ h.length + c.length ≤ 512) (n : Nat) : hasL h c n = atL h c n := by
  rw [hasL, validL, decide_eq_true hv, decide_eq_true (Int.natCast_nonneg n), Bool.true_and, Bool.true_and, Int.toNat_natCast]
theorem least_found {h c : List Bool} {m : Int} {k : Nat} (hv : 0 < c.length ∧ h.length + c.length ≤ 512) (hm : m ≤ 1099511627776) (ht : atL h c (m.toNat + k) = true) (hno : ∀ j, j < k → atL h c (m.toNat + j) = false) : leastL h c m = ((m.toNat + k : Nat) : Int) := by
  rw [leastL, if_pos ⟨hv, hm⟩]
  refine firstL_at ht _ _ (by omega) ?_ (fun j h1 h2 => by
    have := hno (j - m.toNat) (by omega)
    rwa [show m.toNat + (j - m.toNat) = j by omega] at this)
  rcases Nat.lt_or_ge (m.toNat + k) (m.toNat + (max m.toNat h.length + c.length - m.toNat)) with hlt | hge
  · exact hlt
  · have h1 := atL_per (a := h) hv.1 (m.toNat + k - c.length) (by omega)
    rw [show m.toNat + k - c.length + c.length = m.toNat + k by omega, ht] at h1
    have h2 := hno (k - c.length) (by omega)
    rw [show m.toNat + (k - c.length) = m.toNat + k - c.length by omega, ← h1] at h2
    cases h2
theorem least_none {h c : List Bool} {m : Int} {k : Nat} (hb : h.length + c.length ≤ k) (hno : ∀ j, j < k → atL h c (m.toNat + j) = false) : leastL h c m = -1 := by
  rw [leastL]
  split
  · refine firstL_no _ _ fun j h1 h2 => ?_
    have := hno (j - m.toNat) (by omega)
    rwa [show m.toNat + (j - m.toNat) = j by omega] at this
  · rfl
noncomputable def x2 : Ctx := { P := Tryd.prog, ty := ty, glob := gl, fs := [(12, .flat sanityS), (13, .data madeS), (21, .flat leastS), (19, .flat hasS)] }
theorem x2_ok : x2.OK := ⟨tyOK, ⟨⟨enters_mk Tryd.func12 (by kernel_rfl) rfl, sanity_ok⟩, ⟨enters_mk Tryd.func13 (by kernel_rfl) rfl, made_ok⟩, ⟨enters_mk Tryd.func21 (by kernel_rfl) rfl, least_ok⟩, ⟨enters_mk Tryd.func19 (by kernel_rfl) rfl, has_ok⟩, trivial⟩, mixed⟩
@[simp] theorem x2_ty : x2.ty = ty := rfl

def lawLeastS : QSpec := fun vs K => ∃ a b : List Bool, ∃ m : Int, vs = [lsV a b, .c (.int .i64 m)] ∧ (a.length ≤ 9223372036854775807 ∧ b.length ≤ 9223372036854775807 ∧ -9223372036854775808 ≤ m ∧ m ≤ 9223372036854775807) ∧ K (.c (.bool true))
set_option maxHeartbeats 1000000 in
theorem lawLeast_ok : FlatOK Tryd.prog gl 10 lawLeastS := by
 refine flat_of (Γ := x2) (N := 48) Tryd.func10 rfl rfl fun vs K h => ?_
 obtain ⟨a, b, m, rfl, ⟨hl1, hl2, hn1, hn2⟩, h⟩ := h
 refine ⟨_, h, rfl, by simp, fun w I => ?_⟩
 have max0 : ∀ x : Int, (if x < 0 then (0 : Int) else x) = ((x.toNat : Nat) : Int) := fun x => by split <;> omega
 refine seq_k fun _ hK1 => ?_
 refine region_k x2_ok fun _ hK2 => ?_
 refine s_step rfl (by decide) rfl fun _ hS => ?_
 repeat refine And.intro qNb0 ?_
 refine hS _ _ _ ?_
 clear hS
 refine s_step rfl (by decide) rfl fun _ hS => ?_
 refine hS _ _ _ ?_
 clear hS
 refine s_nil ?_
 refine hK2 _ _ _ ?_
 refine hK1 _ _ _ ?_
 refine seq_k fun _ hK3 => ?_
 refine region_k x2_ok fun _ hK4 => ?_
 refine s_step rfl (by decide) rfl fun _ hS => ?_
 repeat first | refine And.intro qNb0 ?_ | refine whole_yes qNb0 ?_ | refine whole_sub ?_
 skip
 repeat refine And.intro qNb0 ?_
 first | refine hS _ _ _ ?_ | (intro cap0 hcap0; refine hS _ _ _ ?_)
 clear hS
 refine s_step rfl (by decide) rfl fun _ hS => ?_
 refine hS _ _ _ ?_
 clear hS
 refine s_nil ?_
 refine hK4 _ _ _ ?_
 refine hK3 _ _ _ ?_
 refine seq_k fun _ hK5 => ?_
 refine region_k x2_ok fun _ hK6 => ?_
 refine s_step rfl (by decide) rfl fun _ hS => ?_
 repeat refine And.intro qNb0 ?_
 first | refine hS _ _ _ ?_ | (refine whole_yes qNb0 ?_; refine hS _ _ _ ?_) | (refine whole_sub ?_; refine hS _ _ _ ?_)
 clear hS
 refine s_step rfl (by decide) rfl fun _ hS => ?_
 repeat first | refine And.intro qNb0 ?_ | refine whole_yes qNb0 ?_ | refine whole_sub ?_
 refine ⟨a, b, 20, 30, rfl, ⟨by omega, by omega, by omega, by omega⟩, ?_⟩
 repeat refine And.intro qNb0 ?_
 first | refine hS _ _ _ ?_ | (intro cap1 hcap1; refine hS _ _ _ ?_)
 clear hS
 refine s_step rfl (by decide) rfl fun _ hS => ?_
 repeat refine And.intro qNb0 ?_
 refine hS _ _ _ ?_
 clear hS
 refine s_step0 rfl rfl fun _ hS => ?_
 repeat refine And.intro qNb0 ?_
 first | refine hS _ _ _ ?_ | (refine splice_full qNb0 ?_; refine hS _ _ _ ?_)
 clear hS
 refine s_nil ?_
 refine hK6 _ _ _ ?_
 refine hK5 _ _ _ ?_
 refine seq_k fun _ hK7 => ?_
 refine seq_k fun _ hK8 => ?_
 have hX := made_len a b 20 30
 generalize madeL a b 20 30 = X at hX
 have hv : 0 < X.2.length ∧ X.1.length + X.2.length ≤ 512 := ⟨by omega, by omega⟩
 refine region_k x2_ok fun _ hK9 => ?_
 refine s_step rfl (by decide) rfl fun _ hS => ?_
 refine hS _ _ _ ?_
 clear hS
 refine s_step rfl (by decide) rfl fun _ hS => ?_
 repeat refine And.intro qNb0 ?_
 refine hS _ _ _ ?_
 clear hS
 refine s_nil ?_
 refine hK9 _ _ _ ?_
 refine hK8 _ _ _ ?_
 refine WP_cond (b := _) rfl (fun h_t14 => ?_) (fun h_t14 => ?_)
 ·try try simp only [decide_eq_true_eq] at h_t14
  refine seq_k fun _ hK10 => ?_
  refine region_k x2_ok fun _ hK11 => ?_
  refine s_step rfl (by decide) rfl fun _ hS => ?_
  refine hS _ _ _ ?_
  clear hS
  refine s_step rfl (by decide) rfl fun _ hS => ?_
  refine s_split hS (fun hb1 => ?_) (fun hb1 => ?_)
  rotate_left 1
  ·exfalso; exact absurd hb1 (by decide)
  clear hS
  refine s_guard (b := true) rfl (by decide) rfl rfl (fun _ _ hS => ?_) (fun e => absurd e (by decide))
  repeat refine And.intro qNb0 ?_
  first | refine hS _ _ _ ?_ | (refine whole_yes qNb0 ?_; refine hS _ _ _ ?_) | (refine whole_sub ?_; refine hS _ _ _ ?_)
  clear hS
  refine s_guard (b := true) rfl (by decide) rfl rfl (fun _ _ hS => ?_) (fun e => absurd e (by decide))
  refine hS _ _ _ ?_
  clear hS
  refine s_guard (b := true) rfl (by decide) rfl rfl (fun _ _ hS => ?_) (fun e => absurd e (by decide))
  repeat first | refine And.intro qNb0 ?_ | refine whole_yes qNb0 ?_ | refine whole_sub ?_
  refine ⟨X.1, X.2, m, rfl, ⟨by omega, by omega, by omega, by omega⟩, ?_⟩
  rw [show leastL X.1 X.2 m = -1 by rw [leastL, if_neg (by omega)]]
  repeat refine And.intro qNb0 ?_
  first | refine hS _ _ _ ?_ | (intro cap4 hcap4; refine hS _ _ _ ?_)
  clear hS
  refine s_guard (b := true) rfl (by decide) rfl rfl (fun _ _ hS => ?_) (fun e => absurd e (by decide))
  repeat refine And.intro qNb0 ?_
  refine hS _ _ _ ?_
  clear hS
  refine s_step rfl (by decide) rfl fun _ hS => ?_
  refine hS _ _ _ ?_
  clear hS
  refine s_step rfl (by decide) rfl fun _ hS => ?_
  refine hS _ _ _ ?_
  clear hS
  refine s_nil ?_
  refine hK11 _ _ _ ?_
  refine hK10 _ _ _ ?_
  refine WP_ret (Done_flat x2_ok (fun _ _ h => h) (by first | rfl | assumption) [.tmp 4] rfl ?_)
  repeat refine And.intro (by first | omega | exact trivial | rfl | (simp <;> omega)) ?_
  try refine ite_yes (by first | omega | exact trivial | rfl | (simp <;> omega)) ?_
  repeat' (first | exact trivial | refine And.intro ?_ ?_ | rfl | omega | decide | (show (_ : Nat) < _; decide) | exact low_nil' | refine low_cons' ?_ ?_ | exact Nat.le_refl _ | exact Nat.succ_pos _)
 ·try try simp only [decide_eq_false_iff_not, Int.not_lt] at h_t14
  refine WP_skip ?_
  refine hK7 _ _ _ ?_
  refine seq_k fun _ hK12 => ?_
  refine region_k x2_ok fun _ hK13 => ?_
  refine s_step rfl (by decide) rfl fun _ hS => ?_
  refine hS _ _ _ ?_
  clear hS
  refine s_step rfl (by decide) rfl fun _ hS => ?_
  repeat refine And.intro qNb0 ?_
  refine hS _ _ _ ?_
  clear hS
  refine s_step rfl (by decide) rfl fun _ hS => ?_
  refine hS _ _ _ ?_
  clear hS
  refine s_nil ?_
  refine hK13 _ _ _ ?_
  refine hK12 _ _ _ ?_
  refine seq_k fun _ hK14 => ?_
  refine region_k x2_ok fun _ hK15 => ?_
  refine s_step rfl (by decide) rfl fun _ hS => ?_
  repeat refine And.intro qNb0 ?_
  first | refine hS _ _ _ ?_ | (refine whole_yes qNb0 ?_; refine hS _ _ _ ?_) | (refine whole_sub ?_; refine hS _ _ _ ?_)
  clear hS
  refine s_step rfl (by decide) rfl fun _ hS => ?_
  refine hS _ _ _ ?_
  clear hS
  refine s_step rfl (by decide) rfl fun _ hS => ?_
  repeat first | refine And.intro qNb0 ?_ | refine whole_yes qNb0 ?_ | refine whole_sub ?_
  refine ⟨X.1, X.2, m, rfl, ⟨by omega, by omega, by omega, by omega⟩, ?_⟩
  repeat refine And.intro qNb0 ?_
  first | refine hS _ _ _ ?_ | (intro cap2 hcap2; refine hS _ _ _ ?_)
  clear hS
  refine s_step rfl (by decide) rfl fun _ hS => ?_
  refine hS _ _ _ ?_
  clear hS
  refine s_nil ?_
  refine hK15 _ _ _ ?_
  refine hK14 _ _ _ ?_
  refine seq_k fun _ hK16 => ?_
  refine seq_k fun _ hK17 => ?_
  refine region_k x2_ok fun _ hK18 => ?_
  refine s_step rfl (by decide) rfl fun _ hS => ?_
  refine hS _ _ _ ?_
  clear hS
  refine s_step rfl (by decide) rfl fun _ hS => ?_
  refine hS _ _ _ ?_
  clear hS
  refine s_nil ?_
  refine hK18 _ _ _ ?_
  refine hK17 _ _ _ ?_
  refine WP_block ?_
  refine WP_loop (α := Nat) (fun k => [(5, .c (.bool true)), (6, .c (.ptr 1 0)), (7, .c (.int .i64 (m.toNat : Nat))), (8, .c (.int .i64 (leastL X.1 X.2 m))), (9, .c (.int .i64 ((m.toNat + k : Nat) : Int)))]) (fun k => [(0, .own 24 (lsC a b) 2), (1, .own 24 (lsC X.1 X.2) 2)]) 2 (fun k => k ≤ 60 ∧ ∀ j, j < k → atL X.1 X.2 (m.toNat + j) = false) (fun k => 60 - k) ?_ ?_
  ·refine Done_some [] id 0 ⟨Nat.zero_le _, fun j h => absurd h (Nat.not_lt_zero j)⟩ ⟨?_, ?_, (by decide : List.Nodup ([0, 1] : List Nat)), ?_, ?_, ⟨Nat.zero_le _, fun i hi => absurd hi (Nat.not_lt_zero i)⟩⟩
   ·exact uNb0
   ·exact uNb0
   ·exact uNb0
   ·exact uNb0
  ·intro k ⟨hk60, hno⟩
   refine seq_k fun _ hK19 => ?_
   refine seq_k fun _ hK20 => ?_
   refine region_k x2_ok fun _ hK21 => ?_
   refine s_step rfl (by decide) rfl fun _ hS => ?_
   refine hS _ _ _ ?_
   clear hS
   refine s_step rfl (by decide) rfl fun _ hS => ?_
   refine hS _ _ _ ?_
   clear hS
   refine s_step rfl (by decide) rfl fun _ hS => ?_
   repeat refine And.intro qNb1 ?_
   refine hS _ _ _ ?_
   clear hS
   refine s_step rfl (by decide) rfl fun _ hS => ?_
   repeat refine And.intro qNb1 ?_
   refine hS _ _ _ ?_
   clear hS
   refine s_nil ?_
   refine hK21 _ _ _ ?_
   refine hK20 _ _ _ ?_
   refine WP_cond (b := _) rfl (fun h_t31 => ?_) (fun h_t31 => ?_)
   ·try try simp only [decide_eq_true_eq] at h_t31
    refine WP_skip ?_
    refine hK19 _ _ _ ?_
    refine seq_k fun _ hK22 => ?_
    refine WP_block ?_
    refine seq_k fun _ hK23 => ?_
    refine region_k x2_ok fun _ hK24 => ?_
    refine s_step rfl (by decide) rfl fun _ hS => ?_
    repeat refine And.intro qNb0 ?_
    first | refine hS _ _ _ ?_ | (refine whole_yes qNb0 ?_; refine hS _ _ _ ?_) | (refine whole_sub ?_; refine hS _ _ _ ?_)
    clear hS
    refine s_step rfl (by decide) rfl fun _ hS => ?_
    refine hS _ _ _ ?_
    clear hS
    refine s_step rfl (by decide) rfl fun _ hS => ?_
    repeat first | refine And.intro qNb0 ?_ | refine whole_yes qNb0 ?_ | refine whole_sub ?_
    refine ⟨X.1, X.2, ((m.toNat + k : Nat) : Int), rfl, ⟨by omega, by omega, by omega⟩, ?_⟩
    rw [hasL_nat hv]
    repeat refine And.intro qNb0 ?_
    first | refine hS _ _ _ ?_ | (intro cap2 hcap2; refine hS _ _ _ ?_)
    clear hS
    refine s_nil ?_
    refine hK24 _ _ _ ?_
    refine hK23 _ _ _ ?_
    refine WP_cond (b := _) rfl (fun h_t36 => ?_) (fun h_t36 => ?_)
    ·skip
     refine seq_k fun _ hK25 => ?_
     refine region_k x2_ok fun _ hK26 => ?_
     refine s_step rfl (by decide) rfl fun _ hS => ?_
     refine hS _ _ _ ?_
     clear hS
     refine s_step rfl (by decide) rfl fun _ hS => ?_
     refine s_split hS (fun hb1 => ?_) (fun hb1 => ?_)
     rotate_left 1
     ·exfalso; exact absurd hb1 (by decide)
     clear hS
     refine s_guard (b := true) rfl (by decide) rfl rfl (fun _ _ hS => ?_) (fun e => absurd e (by decide))
     refine hS _ _ _ ?_
     clear hS
     refine s_guard (b := true) rfl (by decide) rfl rfl (fun _ _ hS => ?_) (fun e => absurd e (by decide))
     refine hS _ _ _ ?_
     clear hS
     refine s_guard (b := true) rfl (by decide) rfl rfl (fun _ _ hS => ?_) (fun e => absurd e (by decide))
     repeat refine And.intro qNb0 ?_
     refine hS _ _ _ ?_
     clear hS
     refine s_step rfl (by decide) rfl fun _ hS => ?_
     refine hS _ _ _ ?_
     clear hS
     refine s_step rfl (by decide) rfl fun _ hS => ?_
     refine hS _ _ _ ?_
     clear hS
     refine s_nil ?_
     refine hK26 _ _ _ ?_
     refine hK25 _ _ _ ?_
     refine WP_ret (Done_flat x2_ok (fun _ _ h => h) (by first | rfl | assumption) [.tmp 4] rfl ?_)
     repeat refine And.intro (by first | omega | exact trivial | rfl | (simp <;> omega)) ?_
     try refine ite_yes (by first | omega | exact trivial | rfl | (simp <;> omega)) ?_
     show SV.c (.bool (decide _)) = SV.c (.bool true)
     congr 2
     exact decide_eq_true (least_found hv (by omega) h_t36 hno)
    ·skip
     refine WP_skip ?_
     refine done_block ?_
     refine hK22 _ _ _ ?_
     refine region_k x2_ok fun _ hK27 => ?_
     refine s_step rfl (by decide) rfl fun _ hS => ?_
     refine hS _ _ _ ?_
     clear hS
     refine s_step rfl (by decide) rfl fun _ hS => ?_
     repeat refine And.intro qNb0 ?_
     refine hS _ _ _ ?_
     clear hS
     refine s_step rfl (by decide) rfl fun _ hS => ?_
     refine hS _ _ _ ?_
     clear hS
     refine s_nil ?_
     refine hK27 _ _ _ ?_
     refine Done_some [] id (k + 1) ⟨⟨by omega, fun j hj => (Nat.lt_or_ge j k).elim (hno j) fun h1 => by rw [show j = k by omega]; simpa using h_t36⟩, by omega⟩ ⟨?_, ?_, (by decide : List.Nodup ([0, 1] : List Nat)), ?_, ?_, ⟨Nat.zero_le _, fun i hi => absurd hi (Nat.not_lt_zero i)⟩⟩
     ·exact uNb0
     ·exact uNb0
     ·exact uNb0
     ·exact uNb0
   ·try try simp only [decide_eq_false_iff_not, Int.not_lt] at h_t31
    refine WP_exit ?_
    refine done_thenx ?_
    refine done_thenx ?_
    refine Done_hit ?_
    refine hK16 _ _ _ ?_
    refine seq_k fun _ hK28 => ?_
    refine region_k x2_ok fun _ hK29 => ?_
    refine s_step rfl (by decide) rfl fun _ hS => ?_
    refine hS _ _ _ ?_
    clear hS
    refine s_step rfl (by decide) rfl fun _ hS => ?_
    refine s_split hS (fun hb1 => ?_) (fun hb1 => ?_)
    rotate_left 1
    ·exfalso; exact absurd hb1 (by decide)
    clear hS
    refine s_guard (b := true) rfl (by decide) rfl rfl (fun _ _ hS => ?_) (fun e => absurd e (by decide))
    refine hS _ _ _ ?_
    clear hS
    refine s_guard (b := true) rfl (by decide) rfl rfl (fun _ _ hS => ?_) (fun e => absurd e (by decide))
    repeat refine And.intro qNb0 ?_
    refine hS _ _ _ ?_
    clear hS
    refine s_step rfl (by decide) rfl fun _ hS => ?_
    refine hS _ _ _ ?_
    clear hS
    refine s_step rfl (by decide) rfl fun _ hS => ?_
    refine hS _ _ _ ?_
    clear hS
    refine s_nil ?_
    refine hK29 _ _ _ ?_
    refine hK28 _ _ _ ?_
    refine WP_ret (Done_flat x2_ok (fun _ _ h => h) (by first | rfl | assumption) [.tmp 4] rfl ?_)
    repeat refine And.intro (by first | omega | exact trivial | rfl | (simp <;> omega)) ?_
    try refine ite_yes (by first | omega | exact trivial | rfl | (simp <;> omega)) ?_
    show SV.c (.bool (decide _)) = SV.c (.bool true)
    congr 2
    exact decide_eq_true (least_none (k := k) (by omega) hno)


end Go.Proofs.YtpfncffapgkjaaaDoor
