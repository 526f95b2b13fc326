/- The law: sums of members. -/
import Derived.Test.YtpfncffapgkjaaaDoorAb14
import Derived.Test.YtpfncffapgkjaaaDoorAb21
import Derived.Test.YtpfncffapgkjaaaDoorCtx
import Derived.Test.YtpfncffapgkjaaaDoorLa
import Derived.Test.YtpfncffapgkjaaaDoorLc
import Derived.Test.YtpfncffapgkjaaaDoorLd
import Derived.Test.YtpfncffapgkjaaaDoorLg
import Derived.Test.YtpfncffapgkjaaaDoorLk
import Derived.Test.YtpfncffapgkjaaaDoorLw
import Derived.Test.YtpfncffapgkjaaaDoorMa
import Derived.Test.YtpfncffapgkjaaaDoorNa
import Derived.Test.YtpfncffapgkjaaaDoorNb
import Derived.Test.YtpfncffapgkjaaaDoorMc
import Derived.Test.YtpfncffapgkjaaaDoorMe
import Derived.Test.YtpfncffapgkjaaaDoorMf
namespace Go.Proofs.YtpfncffapgkjaaaDoor
set_option linter.unusedVariables false
open Go.Ab Go.RowKit

theorem qNf0 {a : Prop} (h : a := by first | omega | exact trivial | rfl | (simp only [len_u8s, len_u32s, len_u64s, len_ints, len_bools, len_cells]; omega) | exact inR_i64.mpr ⟨by omega, by omega⟩ | (simp <;> omega) | (refine And.intro ?_ ?_ <;> exact trivial) | exact ⟨trivial, trivial, trivial⟩ | decide | (refine And.intro rfl ?_; (repeat first | exact trivial | refine And.intro rfl ?_); done) | exact Nat.succ_pos _ | exact Nat.le_refl _ | (refine And.intro trivial ?_; (repeat first | exact trivial | refine And.intro trivial ?_); done)) : a := h
theorem qNf1 {a : Prop} (h : a := by first | omega | exact trivial | rfl | (simp only [len_u8s, len_u32s, len_u64s, len_ints, len_bools, len_cells]; omega) | exact inR_i64.mpr ⟨by omega, by omega⟩ | (simp <;> omega) | exact inR_i64.mpr ⟨by omega, by omega⟩ | (refine And.intro ?_ ?_ <;> exact trivial) | exact ⟨trivial, trivial, trivial⟩ | decide | (refine And.intro rfl ?_; (repeat first | exact trivial | refine And.intro rfl ?_); done) | exact Nat.succ_pos _ | exact Nat.le_refl _ | (refine And.intro trivial ?_; (repeat first | exact trivial | refine And.intro trivial ?_); done)) : a := h
theorem uNf0 {a : Prop} (h : a := by
    repeat' (first | exact trivial | refine And.intro ?_ ?_ | rfl | omega | decide | (show (_ : Nat) < _; decide) | exact low_nil' | refine low_cons' ?_ ?_ | exact Nat.le_refl _ | exact Nat.succ_pos _)
    all_goals first | omega | exact low_lsC | (show (_ : Bool) = _; rw [anyN_succ]; simp [*]; done) | (simp; done) | (simp <;> omega) | skip) : a := h
theorem uNf1 {a : Prop} (h : a := by
    repeat' (first | exact trivial | refine And.intro ?_ ?_ | rfl | omega | decide | (show (_ : Nat) < _; decide) | exact low_nil' | refine low_cons' ?_ ?_ | exact Nat.le_refl _ | exact Nat.succ_pos _)
    all_goals first | omega | exact low_lsC | (show (_ : Bool) = _; rw [anyN_succ]; simp [hb1, hb5]; done) | (simp; done) | (simp <;> omega) | skip) : a := h

noncomputable def x6 : Ctx := { P := Tryd.prog, ty := ty, glob := gl, fs := [(12, .flat sanityS), (13, .data madeS), (27, .data sumPS), (19, .flat hasS), (20, .flat hasRS)] }
theorem x6_ok : x6.OK := ⟨tyOK, ⟨⟨enters_mk Tryd.func12 (by kernel_rfl) rfl, sanity_ok⟩, ⟨enters_mk Tryd.func13 (by kernel_rfl) rfl, made_ok⟩, ⟨enters_mk Tryd.func27 (by kernel_rfl) rfl, sumP_ok⟩, ⟨enters_mk Tryd.func19 (by kernel_rfl) rfl, has_ok⟩, ⟨enters_mk Tryd.func20 (by kernel_rfl) rfl, hasR_ok⟩, trivial⟩, mixed⟩
@[simp] theorem x6_ty : x6.ty = ty := rfl

def lawSumS : QSpec := fun vs K => ∃ a b c d : List Bool, ∃ m : Nat, vs = [lsV a b, lsV c d, .c (.int .u16 m)] ∧ (a.length ≤ 9223372036854775807 ∧ b.length ≤ 9223372036854775807 ∧ c.length ≤ 9223372036854775807 ∧ d.length ≤ 9223372036854775807 ∧ m ≤ 65535) ∧ K (.c (.bool true))
set_option maxHeartbeats 2000000 in
theorem lawSum_ok : FlatOK Tryd.prog gl 7 lawSumS := by
 refine flat_of (Γ := x6) (N := 63) Tryd.func7 rfl rfl fun vs K h => ?_
 obtain ⟨a, b, c, d, m, rfl, ⟨hl1, hl2, hl3, hl4, hm⟩, h⟩ := h
 refine ⟨_, h, rfl, by simp, fun w I => ?_⟩
 refine seq_k fun _ hK1 => ?_
 refine region_k x6_ok fun _ hK2 => ?_
 refine s_step rfl (by decide) rfl fun _ hS => ?_
 repeat refine And.intro qNf0 ?_
 refine hS _ _ _ ?_
 clear hS
 refine s_step rfl (by decide) rfl fun _ hS => ?_
 repeat refine And.intro qNf0 ?_
 refine hS _ _ _ ?_
 clear hS
 refine s_step rfl (by decide) rfl fun _ hS => ?_
 refine hS _ _ _ ?_
 clear hS
 refine s_nil ?_
 refine hK2 _ _ _ ?_
 refine hK1 _ _ _ ?_
 refine seq_k fun _ hK3 => ?_
 refine region_k x6_ok fun _ hK4 => ?_
 refine s_step rfl (by decide) rfl fun _ hS => ?_
 repeat first | refine And.intro qNf0 ?_ | refine whole_yes qNf0 ?_ | refine whole_sub ?_
 skip
 repeat refine And.intro qNf0 ?_
 first | refine hS _ _ _ ?_ | (intro cap0 hcap0; refine hS _ _ _ ?_)
 clear hS
 refine s_step rfl (by decide) rfl fun _ hS => ?_
 refine hS _ _ _ ?_
 clear hS
 refine s_nil ?_
 refine hK4 _ _ _ ?_
 refine hK3 _ _ _ ?_
 refine seq_k fun _ hK5 => ?_
 refine region_k x6_ok fun _ hK6 => ?_
 refine s_step rfl (by decide) rfl fun _ hS => ?_
 repeat refine And.intro qNf0 ?_
 first | refine hS _ _ _ ?_ | (refine whole_yes qNf0 ?_; refine hS _ _ _ ?_) | (refine whole_sub ?_; refine hS _ _ _ ?_)
 clear hS
 refine s_step rfl (by decide) rfl fun _ hS => ?_
 repeat first | refine And.intro qNf0 ?_ | refine whole_yes qNf0 ?_ | refine whole_sub ?_
 refine ⟨a, b, 10, 12, rfl, ⟨by omega, by omega, by omega, by omega⟩, ?_⟩
 have hX := made_len a b 10 12
 generalize madeL a b 10 12 = X at hX ⊢
 repeat refine And.intro qNf0 ?_
 first | refine hS _ _ _ ?_ | (intro cap1 hcap1; refine hS _ _ _ ?_)
 clear hS
 refine s_step rfl (by decide) rfl fun _ hS => ?_
 repeat refine And.intro qNf0 ?_
 refine hS _ _ _ ?_
 clear hS
 refine s_step0 rfl rfl fun _ hS => ?_
 repeat refine And.intro qNf0 ?_
 first | refine hS _ _ _ ?_ | (refine splice_full qNf0 ?_; refine hS _ _ _ ?_)
 clear hS
 refine s_nil ?_
 refine hK6 _ _ _ ?_
 refine hK5 _ _ _ ?_
 refine seq_k fun _ hK7 => ?_
 refine region_k x6_ok fun _ hK8 => ?_
 refine s_step rfl (by decide) rfl fun _ hS => ?_
 repeat refine And.intro qNf0 ?_
 first | refine hS _ _ _ ?_ | (refine whole_yes qNf0 ?_; refine hS _ _ _ ?_) | (refine whole_sub ?_; refine hS _ _ _ ?_)
 clear hS
 refine s_step rfl (by decide) rfl fun _ hS => ?_
 repeat first | refine And.intro qNf0 ?_ | refine whole_yes qNf0 ?_ | refine whole_sub ?_
 refine ⟨c, d, 10, 12, rfl, ⟨by omega, by omega, by omega, by omega⟩, ?_⟩
 have hY := made_len c d 10 12
 generalize madeL c d 10 12 = Y at hY ⊢
 repeat refine And.intro qNf0 ?_
 first | refine hS _ _ _ ?_ | (intro cap1 hcap1; refine hS _ _ _ ?_)
 clear hS
 refine s_step rfl (by decide) rfl fun _ hS => ?_
 repeat refine And.intro qNf0 ?_
 refine hS _ _ _ ?_
 clear hS
 refine s_step0 rfl rfl fun _ hS => ?_
 repeat refine And.intro qNf0 ?_
 first | refine hS _ _ _ ?_ | (refine splice_full qNf0 ?_; refine hS _ _ _ ?_)
 clear hS
 refine s_nil ?_
 refine hK8 _ _ _ ?_
 refine hK7 _ _ _ ?_
 refine seq_k fun _ hK9 => ?_
 have vX : 0 < X.2.length ∧ X.1.length + X.2.length ≤ 512 := ⟨by omega, by omega⟩
 have vY : 0 < Y.2.length ∧ Y.1.length + Y.2.length ≤ 512 := ⟨by omega, by omega⟩
 obtain ⟨P, hP0, hP1, PX, PY⟩ := common2 (show X.1.length ≤ 10 by omega) (show Y.1.length ≤ 10 by omega) vX.1 vY.1 (by omega) (by omega) (atL_per (a := X.1) vX.1) (atL_per (a := Y.1) vY.1)
 refine region_k x6_ok fun _ hK10 => ?_
 refine s_step rfl (by decide) rfl fun _ hS => ?_
 repeat refine And.intro qNf0 ?_
 first | refine hS _ _ _ ?_ | (refine whole_yes qNf0 ?_; refine hS _ _ _ ?_) | (refine whole_sub ?_; refine hS _ _ _ ?_)
 clear hS
 refine s_step rfl (by decide) rfl fun _ hS => ?_
 repeat refine And.intro qNf0 ?_
 first | refine hS _ _ _ ?_ | (refine whole_yes qNf0 ?_; refine hS _ _ _ ?_) | (refine whole_sub ?_; refine hS _ _ _ ?_)
 clear hS
 refine s_step rfl (by decide) rfl fun _ hS => ?_
 repeat first | refine And.intro qNf0 ?_ | refine whole_yes qNf0 ?_ | refine whole_sub ?_
 refine ⟨X.1, X.2, Y.1, Y.2, rfl, ⟨by omega, by omega, by omega, by omega⟩, ?_⟩
 obtain ⟨⟨⟨s1, s2⟩, se⟩, hs⟩ : ∃ x, x = sumL X.1 X.2 Y.1 Y.2 := ⟨_, rfl⟩
 rw [← hs]
 have cs : IsCan ((s1, s2), se) (sumF (atL X.1 X.2) (atL Y.1 Y.2)) := by rw [hs]; exact sum_can vX vY rfl rfl hP0 (sumF_per hP0 PX PY) (by omega)
 obtain rfl : se = 0 := cs.err
 have vs : 0 < s2.length ∧ s1.length + s2.length ≤ 512 := cs.valid
 have ms : atL s1 s2 = sumF (atL X.1 X.2) (atL Y.1 Y.2) := cs.mem
 clear hs
 repeat refine And.intro qNf0 ?_
 first | refine hS _ _ _ ?_ | (intro cap2 hcap2; refine hS _ _ _ ?_)
 clear hS
 refine s_step rfl (by decide) rfl fun _ hS => ?_
 refine hS _ _ _ ?_
 clear hS
 refine s_step rfl (by decide) rfl fun _ hS => ?_
 repeat refine And.intro qNf0 ?_
 refine hS _ _ _ ?_
 clear hS
 refine s_step rfl (by decide) rfl fun _ hS => ?_
 repeat refine And.intro qNf0 ?_
 refine hS _ _ _ ?_
 clear hS
 refine s_step rfl (by decide) rfl fun _ hS => ?_
 repeat refine And.intro qNf0 ?_
 refine hS _ _ _ ?_
 clear hS
 refine s_step0 rfl rfl fun _ hS => ?_
 repeat refine And.intro qNf0 ?_
 first | refine hS _ _ _ ?_ | (refine splice_full qNf0 ?_; refine hS _ _ _ ?_)
 clear hS
 refine s_step rfl (by decide) rfl fun _ hS => ?_
 refine hS _ _ _ ?_
 clear hS
 refine s_nil ?_
 refine hK10 _ _ _ ?_
 refine hK9 _ _ _ ?_
 refine seq_k fun _ hK11 => ?_
 refine seq_k fun _ hK12 => ?_
 refine region_k x6_ok fun _ hK13 => ?_
 refine s_step rfl (by decide) rfl fun _ hS => ?_
 refine hS _ _ _ ?_
 clear hS
 refine s_step rfl (by decide) rfl fun _ hS => ?_
 repeat refine And.intro qNf0 ?_
 refine hS _ _ _ ?_
 clear hS
 refine s_nil ?_
 refine hK13 _ _ _ ?_
 refine hK12 _ _ _ ?_
 refine WP_cond (b := _) rfl (fun h_t27 => ?_) (fun _ => ?_)
 ·exfalso; first | (simp at h_t27; done) | exact absurd h_t27 (by decide)
 refine WP_skip ?_
 refine hK11 _ _ _ ?_
 refine seq_k fun _ hK14 => ?_
 refine seq_k fun _ hK15 => ?_
 refine region_k x6_ok fun _ hK16 => ?_
 refine s_step rfl (by decide) rfl fun _ hS => ?_
 refine hS _ _ _ ?_
 clear hS
 refine s_step rfl (by decide) rfl fun _ hS => ?_
 repeat first | refine And.intro qNf0 ?_ | refine whole_yes qNf0 ?_ | refine whole_sub ?_
 refine hS _ _ _ ?_
 clear hS
 refine s_step rfl (by decide) rfl fun _ hS => ?_
 repeat refine And.intro qNf0 ?_
 refine hS _ _ _ ?_
 clear hS
 refine s_step rfl (by decide) rfl fun _ hS => ?_
 refine hS _ _ _ ?_
 clear hS
 refine s_nil ?_
 refine hK16 _ _ _ ?_
 refine hK15 _ _ _ ?_
 refine WP_block ?_
 refine WP_loop (α := Nat) (fun k => [(2, .c (.int .u16 m)), (7, .c (.bool true)), (8, .c (.ptr 2 0)), (9, .c (.ptr 3 0)), (10, .c (.ptr 4 0)), (12, .c (.int .i64 (((m % 340 + k) : Nat) : Int)))]) (fun k => [(0, .own 24 (lsC a b) 2), (1, .own 24 (lsC c d) 2), (2, .own 24 (lsC X.1 X.2) 2), (3, .own 24 (lsC Y.1 Y.2) 2), (4, .own 24 (lsC s1 s2) 2)]) 5 (fun k => k ≤ 60) (fun k => 60 - k) ?_ ?_
 ·refine Done_some [] id 0 (Nat.zero_le _) ⟨?_, ?_, (by decide : List.Nodup ([0, 1, 2, 3, 4] : List Nat)), ?_, ?_, ⟨Nat.zero_le _, fun i hi => absurd hi (Nat.not_lt_zero i)⟩⟩
  ·exact uNf0
  ·exact uNf0
  ·exact uNf0
  ·exact uNf0
 ·intro k hk
  refine seq_k fun _ hK17 => ?_
  refine seq_k fun _ hK18 => ?_
  refine region_k x6_ok fun _ hK19 => ?_
  refine s_step rfl (by decide) rfl fun _ hS => ?_
  refine hS _ _ _ ?_
  clear hS
  refine s_step rfl (by decide) rfl fun _ hS => ?_
  refine hS _ _ _ ?_
  clear hS
  refine s_step rfl (by decide) rfl fun _ hS => ?_
  repeat first | refine And.intro qNf0 ?_ | refine whole_yes qNf0 ?_ | refine whole_sub ?_
  refine hS _ _ _ ?_
  clear hS
  refine s_step rfl (by decide) rfl fun _ hS => ?_
  repeat refine And.intro qNf0 ?_
  refine hS _ _ _ ?_
  clear hS
  refine s_step rfl (by decide) rfl fun _ hS => ?_
  repeat refine And.intro qNf0 ?_
  refine hS _ _ _ ?_
  clear hS
  refine s_step rfl (by decide) rfl fun _ hS => ?_
  repeat refine And.intro qNf0 ?_
  refine hS _ _ _ ?_
  clear hS
  refine s_nil ?_
  refine hK19 _ _ _ ?_
  refine hK18 _ _ _ ?_
  refine WP_cond (b := _) rfl (fun h_t36 => ?_) (fun h_t36 => ?_)
  ·try try simp only [decide_eq_true_eq] at h_t36
   refine WP_skip ?_
   refine hK17 _ _ _ ?_
   refine seq_k fun _ hK20 => ?_
   refine WP_block ?_
   refine seq_k fun _ hK21 => ?_
   refine region_k x6_ok fun _ hK22 => ?_
   refine s_step rfl (by decide) rfl fun _ hS => ?_
   refine hS _ _ _ ?_
   clear hS
   refine s_nil ?_
   refine hK22 _ _ _ ?_
   refine hK21 _ _ _ ?_
   refine seq_k fun _ hK23 => ?_
   refine seq_k fun _ hK24 => ?_
   refine region_k x6_ok fun _ hK25 => ?_
   refine s_step rfl (by decide) rfl fun _ hS => ?_
   refine hS _ _ _ ?_
   clear hS
   refine s_nil ?_
   refine hK25 _ _ _ ?_
   refine hK24 _ _ _ ?_
   refine WP_block ?_
   refine WP_loop (α := Nat) (fun i => [(2, .c (.int .u16 m)), (7, .c (.bool true)), (8, .c (.ptr 2 0)), (9, .c (.ptr 3 0)), (10, .c (.ptr 4 0)), (12, .c (.int .i64 (((m % 340 + k) : Nat) : Int))), (13, .c (.bool (anyN (fun x => atL X.1 X.2 x && atL Y.1 Y.2 ((m % 340 + k) - x)) i))), (14, .c (.int .i64 i))]) (fun i => [(0, .own 24 (lsC a b) 2), (1, .own 24 (lsC c d) 2), (2, .own 24 (lsC X.1 X.2) 2), (3, .own 24 (lsC Y.1 Y.2) 2), (4, .own 24 (lsC s1 s2) 2)]) 5 (fun i => i ≤ (m % 340 + k) + 1) (fun i => (m % 340 + k) + 1 - i) ?_ ?_
   ·refine Done_some [] id 0 (Nat.zero_le _) ⟨?_, ?_, (by decide : List.Nodup ([0, 1, 2, 3, 4] : List Nat)), ?_, ?_, ⟨Nat.zero_le _, fun i hi => absurd hi (Nat.not_lt_zero i)⟩⟩
    ·exact uNf0
    ·exact uNf0
    ·exact uNf0
    ·exact uNf0
   ·intro i hi
    refine seq_k fun _ hK26 => ?_
    refine seq_k fun _ hK27 => ?_
    refine region_k x6_ok fun _ hK28 => ?_
    refine s_step rfl (by decide) rfl fun _ hS => ?_
    refine hS _ _ _ ?_
    clear hS
    refine s_step rfl (by decide) rfl fun _ hS => ?_
    refine hS _ _ _ ?_
    clear hS
    refine s_step rfl (by decide) rfl fun _ hS => ?_
    repeat refine And.intro qNf0 ?_
    refine hS _ _ _ ?_
    clear hS
    refine s_nil ?_
    refine hK28 _ _ _ ?_
    refine hK27 _ _ _ ?_
    refine WP_cond (b := _) rfl (fun h_t41 => ?_) (fun h_t41 => ?_)
    ·try try simp only [decide_eq_true_eq] at h_t41
     refine WP_skip ?_
     refine hK26 _ _ _ ?_
     refine seq_k fun _ hK29 => ?_
     refine WP_block ?_
     refine region_k x6_ok fun _ hK30 => ?_
     refine s_step rfl (by decide) rfl fun _ hS => ?_
     refine hS _ _ _ ?_
     clear hS
     refine s_step rfl (by decide) rfl fun _ hS => ?_
     refine s_split hS (fun hb1 => ?_) (fun hb1 => ?_)
     ·clear hS
      try simp only [decide_eq_true_eq, decide_eq_false_iff_not, Int.not_lt, Int.not_le, Bool.not_eq_true', Bool.not_eq_false', Bool.not_eq_eq_eq_not, Bool.not_true, Bool.not_false, if_true, if_false, reduceIte, Bool.false_eq_true, Int.natCast_inj] at hb1
      refine s_guard (b := true) rfl (by decide) rfl rfl (fun e => absurd e (by decide)) (fun _ => ?_)
      refine s_guard (b := true) rfl (by decide) rfl rfl (fun e => absurd e (by decide)) (fun _ => ?_)
      refine s_guard (b := true) rfl (by decide) rfl rfl (fun e => absurd e (by decide)) (fun _ => ?_)
      refine s_guard (b := true) rfl (by decide) rfl rfl (fun e => absurd e (by decide)) (fun _ => ?_)
      refine s_guard0 rfl (by decide) rfl rfl ?_
      refine s_guard0 rfl (by decide) rfl rfl ?_
      refine s_guard0 rfl (by decide) rfl rfl ?_
      refine s_guard0 rfl (by decide) rfl rfl ?_
      refine s_guard0 rfl (by decide) rfl rfl ?_
      refine s_guard (b := true) rfl (by decide) rfl rfl (fun e => absurd e (by decide)) (fun _ => ?_)
      refine s_step rfl (by decide) rfl fun _ hS => ?_
      refine hS _ _ _ ?_
      clear hS
      refine s_step rfl (by decide) rfl fun _ hS => ?_
      refine hS _ _ _ ?_
      clear hS
      refine s_nil ?_
      refine hK30 _ _ _ ?_
      refine done_block ?_
      refine hK29 _ _ _ ?_
      refine region_k x6_ok fun _ hK31 => ?_
      refine s_step rfl (by decide) rfl fun _ hS => ?_
      refine hS _ _ _ ?_
      clear hS
      refine s_step rfl (by decide) rfl fun _ hS => ?_
      repeat refine And.intro qNf0 ?_
      refine hS _ _ _ ?_
      clear hS
      refine s_step rfl (by decide) rfl fun _ hS => ?_
      refine hS _ _ _ ?_
      clear hS
      refine s_nil ?_
      refine hK31 _ _ _ ?_
      refine Done_some [] id (i + 1) ⟨by omega, by omega⟩ ⟨?_, ?_, (by decide : List.Nodup ([0, 1, 2, 3, 4] : List Nat)), ?_, ?_, ⟨Nat.zero_le _, fun i hi => absurd hi (Nat.not_lt_zero i)⟩⟩
      ·repeat' (first | exact trivial | refine And.intro ?_ ?_ | rfl | omega | decide | (show (_ : Nat) < _; decide) | exact low_nil' | refine low_cons' ?_ ?_ | exact Nat.le_refl _ | exact Nat.succ_pos _)
       all_goals first | omega | exact low_lsC | (show (_ : Bool) = _; rw [anyN_succ]; simp [hb1]; done) | (simp; done) | (simp <;> omega) | skip
      ·exact uNf0
      ·exact uNf0
      ·exact uNf0
     ·clear hS
      try simp only [decide_eq_true_eq, decide_eq_false_iff_not, Int.not_lt, Int.not_le, Bool.not_eq_true', Bool.not_eq_false', Bool.not_eq_eq_eq_not, Bool.not_true, Bool.not_false, if_true, if_false, reduceIte, Bool.false_eq_true, Int.natCast_inj] at hb1
      refine s_guard (b := false) rfl (by decide) rfl rfl (fun _ _ hS => ?_) (fun e => absurd e (by decide))
      repeat refine And.intro qNf1 ?_
      first | refine hS _ _ _ ?_ | (refine whole_yes qNf1 ?_; refine hS _ _ _ ?_) | (refine whole_sub ?_; refine hS _ _ _ ?_)
      clear hS
      refine s_guard (b := false) rfl (by decide) rfl rfl (fun _ _ hS => ?_) (fun e => absurd e (by decide))
      refine hS _ _ _ ?_
      clear hS
      refine s_guard (b := false) rfl (by decide) rfl rfl (fun _ _ hS => ?_) (fun e => absurd e (by decide))
      repeat first | refine And.intro qNf1 ?_ | refine whole_yes qNf1 ?_ | refine whole_sub ?_
      refine ⟨X.1, X.2, i, rfl, ⟨by omega, by omega, by omega⟩, ?_⟩
      rw [hasL_nat vX]
      repeat refine And.intro qNf1 ?_
      first | refine hS _ _ _ ?_ | (intro cap4 hcap4; refine hS _ _ _ ?_)
      clear hS
      refine s_guard (b := false) rfl (by decide) rfl rfl (fun _ _ hS => ?_) (fun e => absurd e (by decide))
      refine s_split hS (fun hb5 => ?_) (fun hb5 => ?_)
      ·clear hS
       try simp only [decide_eq_true_eq, decide_eq_false_iff_not, Int.not_lt, Int.not_le, Bool.not_eq_true', Bool.not_eq_false', Bool.not_eq_eq_eq_not, Bool.not_true, Bool.not_false, if_true, if_false, reduceIte, Bool.false_eq_true, Int.natCast_inj] at hb5
       refine s_guard (b := true) rfl (by decide) rfl rfl (fun _ _ hS => ?_) (fun e => absurd e (by decide))
       repeat refine And.intro qNf1 ?_
       first | refine hS _ _ _ ?_ | (refine whole_yes qNf1 ?_; refine hS _ _ _ ?_) | (refine whole_sub ?_; refine hS _ _ _ ?_)
       clear hS
       refine s_guard (b := true) rfl (by decide) rfl rfl (fun _ _ hS => ?_) (fun e => absurd e (by decide))
       refine hS _ _ _ ?_
       clear hS
       refine s_guard (b := true) rfl (by decide) rfl rfl (fun _ _ hS => ?_) (fun e => absurd e (by decide))
       refine hS _ _ _ ?_
       clear hS
       refine s_guard (b := true) rfl (by decide) rfl rfl (fun _ _ hS => ?_) (fun e => absurd e (by decide))
       repeat refine And.intro qNf1 ?_
       refine hS _ _ _ ?_
       clear hS
       refine s_guard (b := true) rfl (by decide) rfl rfl (fun _ _ hS => ?_) (fun e => absurd e (by decide))
       repeat first | refine And.intro qNf1 ?_ | refine whole_yes qNf1 ?_ | refine whole_sub ?_
       refine ⟨Y.1, Y.2, (((m % 340 + k) - i : Nat) : Int), (by rw [show ((((m % 340 + k) : Nat) : Int) - (i : Int)) = (((m % 340 + k) - i : Nat) : Int) by omega]), ⟨by omega, by omega, by omega⟩, ?_⟩
       rw [hasL_nat vY]
       repeat refine And.intro qNf1 ?_
       first | refine hS _ _ _ ?_ | (intro cap10 hcap10; refine hS _ _ _ ?_)
       clear hS
       refine s_guard (b := false) rfl (by decide) rfl rfl (fun _ _ hS => ?_) (fun e => absurd e (by decide))
       refine hS _ _ _ ?_
       clear hS
       refine s_step rfl (by decide) rfl fun _ hS => ?_
       refine hS _ _ _ ?_
       clear hS
       refine s_step rfl (by decide) rfl fun _ hS => ?_
       refine hS _ _ _ ?_
       clear hS
       refine s_nil ?_
       refine hK30 _ _ _ ?_
       refine done_block ?_
       refine hK29 _ _ _ ?_
       refine region_k x6_ok fun _ hK32 => ?_
       refine s_step rfl (by decide) rfl fun _ hS => ?_
       refine hS _ _ _ ?_
       clear hS
       refine s_step rfl (by decide) rfl fun _ hS => ?_
       repeat refine And.intro qNf0 ?_
       refine hS _ _ _ ?_
       clear hS
       refine s_step rfl (by decide) rfl fun _ hS => ?_
       refine hS _ _ _ ?_
       clear hS
       refine s_nil ?_
       refine hK32 _ _ _ ?_
       refine Done_some [] id (i + 1) ⟨by omega, by omega⟩ ⟨?_, ?_, (by decide : List.Nodup ([0, 1, 2, 3, 4] : List Nat)), ?_, ?_, ⟨Nat.zero_le _, fun i hi => absurd hi (Nat.not_lt_zero i)⟩⟩
       ·exact uNf1
       ·exact uNf0
       ·exact uNf0
       ·exact uNf0
      ·clear hS
       try simp only [decide_eq_true_eq, decide_eq_false_iff_not, Int.not_lt, Int.not_le, Bool.not_eq_true', Bool.not_eq_false', Bool.not_eq_eq_eq_not, Bool.not_true, Bool.not_false, if_true, if_false, reduceIte, Bool.false_eq_true, Int.natCast_inj] at hb5
       refine s_guard (b := false) rfl (by decide) rfl rfl (fun e => absurd e (by decide)) (fun _ => ?_)
       refine s_guard (b := false) rfl (by decide) rfl rfl (fun e => absurd e (by decide)) (fun _ => ?_)
       refine s_guard (b := false) rfl (by decide) rfl rfl (fun e => absurd e (by decide)) (fun _ => ?_)
       refine s_guard (b := false) rfl (by decide) rfl rfl (fun e => absurd e (by decide)) (fun _ => ?_)
       refine s_guard (b := false) rfl (by decide) rfl rfl (fun e => absurd e (by decide)) (fun _ => ?_)
       refine s_guard (b := false) rfl (by decide) rfl rfl (fun _ _ hS => ?_) (fun e => absurd e (by decide))
       refine hS _ _ _ ?_
       clear hS
       refine s_step rfl (by decide) rfl fun _ hS => ?_
       refine hS _ _ _ ?_
       clear hS
       refine s_step rfl (by decide) rfl fun _ hS => ?_
       refine hS _ _ _ ?_
       clear hS
       refine s_nil ?_
       refine hK30 _ _ _ ?_
       refine done_block ?_
       refine hK29 _ _ _ ?_
       refine region_k x6_ok fun _ hK33 => ?_
       refine s_step rfl (by decide) rfl fun _ hS => ?_
       refine hS _ _ _ ?_
       clear hS
       refine s_step rfl (by decide) rfl fun _ hS => ?_
       repeat refine And.intro qNf0 ?_
       refine hS _ _ _ ?_
       clear hS
       refine s_step rfl (by decide) rfl fun _ hS => ?_
       refine hS _ _ _ ?_
       clear hS
       refine s_nil ?_
       refine hK33 _ _ _ ?_
       refine Done_some [] id (i + 1) ⟨by omega, by omega⟩ ⟨?_, ?_, (by decide : List.Nodup ([0, 1, 2, 3, 4] : List Nat)), ?_, ?_, ⟨Nat.zero_le _, fun i hi => absurd hi (Nat.not_lt_zero i)⟩⟩
       ·exact uNf1
       ·exact uNf0
       ·exact uNf0
       ·exact uNf0
    ·try try simp only [decide_eq_false_iff_not, Int.not_le] at h_t41
     refine WP_exit ?_
     refine done_thenx ?_
     refine done_thenx ?_
     refine Done_hit ?_
     refine hK23 _ _ _ ?_
     refine seq_k fun _ hK34 => ?_
     obtain rfl : i = (m % 340 + k) + 1 := by omega
     refine region_k x6_ok fun _ hK35 => ?_
     refine s_step rfl (by decide) rfl fun _ hS => ?_
     repeat refine And.intro qNf0 ?_
     first | refine hS _ _ _ ?_ | (refine whole_yes qNf0 ?_; refine hS _ _ _ ?_) | (refine whole_sub ?_; refine hS _ _ _ ?_)
     clear hS
     refine s_step rfl (by decide) rfl fun _ hS => ?_
     refine hS _ _ _ ?_
     clear hS
     refine s_step rfl (by decide) rfl fun _ hS => ?_
     repeat first | refine And.intro qNf0 ?_ | refine whole_yes qNf0 ?_ | refine whole_sub ?_
     refine ⟨s1, s2, (((m % 340 + k) : Nat) : Int), rfl, ⟨by omega, by omega, by omega⟩, ?_⟩
     rw [hasL_nat vs, ms, sumF_any]
     repeat refine And.intro qNf0 ?_
     first | refine hS _ _ _ ?_ | (intro cap2 hcap2; refine hS _ _ _ ?_)
     clear hS
     refine s_step rfl (by decide) rfl fun _ hS => ?_
     refine hS _ _ _ ?_
     clear hS
     refine s_step rfl (by decide) rfl fun _ hS => ?_
     repeat refine And.intro qNf0 ?_
     refine hS _ _ _ ?_
     clear hS
     refine s_nil ?_
     refine hK35 _ _ _ ?_
     refine hK34 _ _ _ ?_
     refine WP_cond (b := _) rfl (fun h_t61 => ?_) (fun _ => ?_)
     ·exfalso; first | (simp at h_t61; done) | exact absurd h_t61 (by decide)
     refine WP_skip ?_
     refine done_block ?_
     refine hK20 _ _ _ ?_
     refine region_k x6_ok fun _ hK36 => ?_
     refine s_step rfl (by decide) rfl fun _ hS => ?_
     refine hS _ _ _ ?_
     clear hS
     refine s_step rfl (by decide) rfl fun _ hS => ?_
     repeat refine And.intro qNf0 ?_
     refine hS _ _ _ ?_
     clear hS
     refine s_step rfl (by decide) rfl fun _ hS => ?_
     refine hS _ _ _ ?_
     clear hS
     refine s_nil ?_
     refine hK36 _ _ _ ?_
     refine Done_some [] id (k + 1) ⟨by omega, by omega⟩ ⟨?_, ?_, (by decide : List.Nodup ([0, 1, 2, 3, 4] : List Nat)), ?_, ?_, ⟨Nat.zero_le _, fun i hi => absurd hi (Nat.not_lt_zero i)⟩⟩
     ·exact uNf0
     ·exact uNf0
     ·exact uNf0
     ·exact uNf0
  ·try try simp only [decide_eq_false_iff_not, Int.not_lt] at h_t36
   refine WP_exit ?_
   refine done_thenx ?_
   refine done_thenx ?_
   refine Done_hit ?_
   refine hK14 _ _ _ ?_
   refine seq_k fun _ hK37 => ?_
   refine region_k x6_ok fun _ hK38 => ?_
   refine s_step rfl (by decide) rfl fun _ hS => ?_
   refine hS _ _ _ ?_
   clear hS
   refine s_step rfl (by decide) rfl fun _ hS => ?_
   refine hS _ _ _ ?_
   clear hS
   refine s_nil ?_
   refine hK38 _ _ _ ?_
   refine hK37 _ _ _ ?_
   refine WP_ret (Done_flat x6_ok (fun _ _ h => h) (by first | rfl | assumption) [.tmp 6] rfl ?_)
   repeat refine And.intro (by first | omega | exact trivial | rfl | (simp <;> omega)) ?_
   try refine ite_yes (by first | omega | exact trivial | rfl | (simp <;> omega)) ?_
   rfl


end Go.Proofs.YtpfncffapgkjaaaDoor
