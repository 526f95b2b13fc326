/- The law: canonical forms decide equality. -/
import Derived.Test.YtpfncffapgkjaaaDoorAb14
import Derived.Test.YtpfncffapgkjaaaDoorAb21
import Derived.Test.YtpfncffapgkjaaaDoorCtx
import Derived.Test.YtpfncffapgkjaaaDoorLa
import Derived.Test.YtpfncffapgkjaaaDoorLc
import Derived.Test.YtpfncffapgkjaaaDoorLd
import Derived.Test.YtpfncffapgkjaaaDoorLe
import Derived.Test.YtpfncffapgkjaaaDoorLk
import Derived.Test.YtpfncffapgkjaaaDoorLw
import Derived.Test.YtpfncffapgkjaaaDoorMa
import Derived.Test.YtpfncffapgkjaaaDoorNa
import Derived.Test.YtpfncffapgkjaaaDoorNb
import Derived.Test.YtpfncffapgkjaaaDoorMc
import Derived.Test.YtpfncffapgkjaaaDoorMe
import Derived.Test.YtpfncffapgkjaaaDoorMf
namespace Go.Proofs.YtpfncffapgkjaaaDoor
set_option linter.unusedVariables false
open Go.Ab Go.RowKit

theorem qNg0 {a : Prop} (h : a := by first | omega | exact trivial | rfl | (simp only [len_u8s, len_u32s, len_u64s, len_ints, len_bools, len_cells]; omega) | exact inR_i64.mpr ⟨by omega, by omega⟩ | (simp <;> omega) | (refine And.intro ?_ ?_ <;> exact trivial) | exact ⟨trivial, trivial, trivial⟩ | decide | (refine And.intro rfl ?_; (repeat first | exact trivial | refine And.intro rfl ?_); done) | exact Nat.succ_pos _ | exact Nat.le_refl _ | (refine And.intro trivial ?_; (repeat first | exact trivial | refine And.intro trivial ?_); done)) : a := h
theorem uNg0 {a : Prop} (h : a := by
    repeat' (first | exact trivial | refine And.intro ?_ ?_ | rfl | omega | decide | (show (_ : Nat) < _; decide) | exact low_nil' | refine low_cons' ?_ ?_ | exact Nat.le_refl _ | exact Nat.succ_pos _)
    all_goals first | omega | exact low_lsC | (simp; done) | (simp <;> omega) | skip) : a := h
theorem uNg1 {a : Prop} (h : a := by
    repeat' (first | exact trivial | refine And.intro ?_ ?_ | rfl | omega | decide | (show (_ : Nat) < _; decide) | exact low_nil' | refine low_cons' ?_ ?_ | exact Nat.le_refl _ | exact Nat.succ_pos _)
    all_goals first | omega | exact low_lsC | (show (_ : Bool) = _; rw [allN_succ]; simp [hb1]; done) | (simp; done) | (simp <;> omega) | skip) : a := h

noncomputable def x7 : Ctx := { P := Tryd.prog, ty := ty, glob := gl, fs := [(12, .flat sanityS), (13, .data madeS), (14, .data canonPS), (16, .flat sameS), (19, .flat hasS), (20, .flat hasRS)] }
theorem x7_ok : x7.OK := ⟨tyOK, ⟨⟨enters_mk Tryd.func12 (by kernel_rfl) rfl, sanity_ok⟩, ⟨enters_mk Tryd.func13 (by kernel_rfl) rfl, made_ok⟩, ⟨enters_mk Tryd.func14 (by kernel_rfl) rfl, canonP_ok⟩, ⟨enters_mk Tryd.func16 (by kernel_rfl) rfl, same_ok⟩, ⟨enters_mk Tryd.func19 (by kernel_rfl) rfl, has_ok⟩, ⟨enters_mk Tryd.func20 (by kernel_rfl) rfl, hasR_ok⟩, trivial⟩, mixed⟩
@[simp] theorem x7_ty : x7.ty = ty := rfl

def lawCanonS : QSpec := fun vs K => ∃ a b c d : List Bool, vs = [lsV a b, lsV c d] ∧ (a.length ≤ 9223372036854775807 ∧ b.length ≤ 9223372036854775807 ∧ c.length ≤ 9223372036854775807 ∧ d.length ≤ 9223372036854775807) ∧ K (.c (.bool true))
set_option maxHeartbeats 2000000 in
theorem lawCanon_ok : FlatOK Tryd.prog gl 5 lawCanonS := by
 refine flat_of (Γ := x7) (N := 105) Tryd.func5 rfl rfl fun vs K h => ?_
 obtain ⟨a, b, c, d, rfl, ⟨hl1, hl2, hl3, hl4⟩, h⟩ := h
 refine ⟨_, h, rfl, by simp, fun w I => ?_⟩
 refine seq_k fun _ hK1 => ?_
 refine region_k x7_ok fun _ hK2 => ?_
 refine s_step rfl (by decide) rfl fun _ hS => ?_
 repeat refine And.intro qNg0 ?_
 refine hS _ _ _ ?_
 clear hS
 refine s_step rfl (by decide) rfl fun _ hS => ?_
 repeat refine And.intro qNg0 ?_
 refine hS _ _ _ ?_
 clear hS
 refine s_step rfl (by decide) rfl fun _ hS => ?_
 refine hS _ _ _ ?_
 clear hS
 refine s_nil ?_
 refine hK2 _ _ _ ?_
 refine hK1 _ _ _ ?_
 refine seq_k fun _ hK3 => ?_
 refine region_k x7_ok fun _ hK4 => ?_
 refine s_step rfl (by decide) rfl fun _ hS => ?_
 repeat first | refine And.intro qNg0 ?_ | refine whole_yes qNg0 ?_ | refine whole_sub ?_
 skip
 repeat refine And.intro qNg0 ?_
 first | refine hS _ _ _ ?_ | (intro cap0 hcap0; refine hS _ _ _ ?_)
 clear hS
 refine s_step rfl (by decide) rfl fun _ hS => ?_
 refine hS _ _ _ ?_
 clear hS
 refine s_nil ?_
 refine hK4 _ _ _ ?_
 refine hK3 _ _ _ ?_
 refine seq_k fun _ hK5 => ?_
 refine region_k x7_ok fun _ hK6 => ?_
 refine s_step rfl (by decide) rfl fun _ hS => ?_
 repeat refine And.intro qNg0 ?_
 first | refine hS _ _ _ ?_ | (refine whole_yes qNg0 ?_; refine hS _ _ _ ?_) | (refine whole_sub ?_; refine hS _ _ _ ?_)
 clear hS
 refine s_step rfl (by decide) rfl fun _ hS => ?_
 repeat first | refine And.intro qNg0 ?_ | refine whole_yes qNg0 ?_ | refine whole_sub ?_
 refine ⟨a, b, 10, 12, rfl, ⟨by omega, by omega, by omega, by omega⟩, ?_⟩
 have hX := made_len a b 10 12
 generalize madeL a b 10 12 = X at hX ⊢
 repeat refine And.intro qNg0 ?_
 first | refine hS _ _ _ ?_ | (intro cap1 hcap1; refine hS _ _ _ ?_)
 clear hS
 refine s_step rfl (by decide) rfl fun _ hS => ?_
 repeat refine And.intro qNg0 ?_
 refine hS _ _ _ ?_
 clear hS
 refine s_step0 rfl rfl fun _ hS => ?_
 repeat refine And.intro qNg0 ?_
 first | refine hS _ _ _ ?_ | (refine splice_full qNg0 ?_; refine hS _ _ _ ?_)
 clear hS
 refine s_nil ?_
 refine hK6 _ _ _ ?_
 refine hK5 _ _ _ ?_
 refine seq_k fun _ hK7 => ?_
 refine region_k x7_ok fun _ hK8 => ?_
 refine s_step rfl (by decide) rfl fun _ hS => ?_
 repeat refine And.intro qNg0 ?_
 first | refine hS _ _ _ ?_ | (refine whole_yes qNg0 ?_; refine hS _ _ _ ?_) | (refine whole_sub ?_; refine hS _ _ _ ?_)
 clear hS
 refine s_step rfl (by decide) rfl fun _ hS => ?_
 repeat first | refine And.intro qNg0 ?_ | refine whole_yes qNg0 ?_ | refine whole_sub ?_
 refine ⟨c, d, 10, 12, rfl, ⟨by omega, by omega, by omega, by omega⟩, ?_⟩
 have hY := made_len c d 10 12
 generalize madeL c d 10 12 = Y at hY ⊢
 repeat refine And.intro qNg0 ?_
 first | refine hS _ _ _ ?_ | (intro cap1 hcap1; refine hS _ _ _ ?_)
 clear hS
 refine s_step rfl (by decide) rfl fun _ hS => ?_
 repeat refine And.intro qNg0 ?_
 refine hS _ _ _ ?_
 clear hS
 refine s_step0 rfl rfl fun _ hS => ?_
 repeat refine And.intro qNg0 ?_
 first | refine hS _ _ _ ?_ | (refine splice_full qNg0 ?_; refine hS _ _ _ ?_)
 clear hS
 refine s_nil ?_
 refine hK8 _ _ _ ?_
 refine hK7 _ _ _ ?_
 refine seq_k fun _ hK9 => ?_
 have vX : 0 < X.2.length ∧ X.1.length + X.2.length ≤ 512 := ⟨by omega, by omega⟩
 have vY : 0 < Y.2.length ∧ Y.1.length + Y.2.length ≤ 512 := ⟨by omega, by omega⟩
 refine region_k x7_ok fun _ hK10 => ?_
 refine s_step rfl (by decide) rfl fun _ hS => ?_
 refine hS _ _ _ ?_
 clear hS
 refine s_nil ?_
 refine hK10 _ _ _ ?_
 refine hK9 _ _ _ ?_
 refine seq_k fun _ hK11 => ?_
 refine seq_k fun _ hK12 => ?_
 refine region_k x7_ok fun _ hK13 => ?_
 refine s_step rfl (by decide) rfl fun _ hS => ?_
 refine hS _ _ _ ?_
 clear hS
 refine s_nil ?_
 refine hK13 _ _ _ ?_
 refine hK12 _ _ _ ?_
 refine WP_block ?_
 refine WP_loop (α := Nat) (fun k => [(5, .c (.bool true)), (6, .c (.ptr 2 0)), (7, .c (.ptr 3 0)), (8, .c (.bool (allN (atL X.1 X.2) (atL Y.1 Y.2) k))), (9, .c (.int .i64 k))]) (fun k => [(0, .own 24 (lsC a b) 2), (1, .own 24 (lsC c d) 2), (2, .own 24 (lsC X.1 X.2) 2), (3, .own 24 (lsC Y.1 Y.2) 2)]) 4 (fun k => k ≤ 154) (fun k => 154 - k) ?_ ?_
 ·refine Done_some [] id 0 (Nat.zero_le _) ⟨?_, ?_, (by decide : List.Nodup ([0, 1, 2, 3] : List Nat)), ?_, ?_, ⟨Nat.zero_le _, fun i hi => absurd hi (Nat.not_lt_zero i)⟩⟩
  ·exact uNg0
  ·exact uNg0
  ·exact uNg0
  ·exact uNg0
 ·intro k hk
  refine seq_k fun _ hK14 => ?_
  refine seq_k fun _ hK15 => ?_
  refine region_k x7_ok fun _ hK16 => ?_
  refine s_step rfl (by decide) rfl fun _ hS => ?_
  refine hS _ _ _ ?_
  clear hS
  refine s_step rfl (by decide) rfl fun _ hS => ?_
  repeat refine And.intro qNg0 ?_
  refine hS _ _ _ ?_
  clear hS
  refine s_nil ?_
  refine hK16 _ _ _ ?_
  refine hK15 _ _ _ ?_
  refine WP_cond (b := _) rfl (fun h_t23 => ?_) (fun h_t23 => ?_)
  ·try try simp only [decide_eq_true_eq] at h_t23
   refine WP_skip ?_
   refine hK14 _ _ _ ?_
   refine seq_k fun _ hK17 => ?_
   refine WP_block ?_
   refine quiet_k x7_ok (by kernel_rfl) fun _ hK18 => ?_
   refine q_step rfl (by decide) rfl fun _ hS => ?_
   refine hS _ ?_
   clear hS
   refine q_step rfl (by decide) rfl fun _ hS => ?_
   refine q_split hS (fun hb1 => ?_) (fun hb1 => ?_)
   ·clear hS
    try simp only [decide_eq_true_eq, decide_eq_false_iff_not, Int.not_lt, Int.not_le, Bool.not_eq_true', Bool.not_eq_false', Bool.not_eq_eq_eq_not, Bool.not_true, Bool.not_false, if_true, if_false, reduceIte, Bool.false_eq_true, Int.natCast_inj] at hb1
    refine q_guard (b := true) rfl (by decide) rfl rfl (fun _ _ hS => ?_) (fun e => absurd e (by decide))
    repeat refine And.intro qNg0 ?_
    first | refine hS _ ?_ | (refine whole_yes qNg0 ?_; refine hS _ ?_) | (refine whole_sub ?_; refine hS _ ?_)
    clear hS
    refine q_guard (b := true) rfl (by decide) rfl rfl (fun _ _ hS => ?_) (fun e => absurd e (by decide))
    refine hS _ ?_
    clear hS
    refine q_guard (b := true) rfl (by decide) rfl rfl (fun _ _ hS => ?_) (fun e => absurd e (by decide))
    repeat first | refine And.intro qNg0 ?_ | refine whole_yes qNg0 ?_ | refine whole_sub ?_
    refine ⟨X.1, X.2, k, rfl, ⟨by omega, by omega, by omega⟩, ?_⟩
    rw [hasL_nat vX]
    repeat refine And.intro qNg0 ?_
    first | refine hS _ ?_ | (intro cap4 hcap4; refine hS _ ?_)
    clear hS
    refine q_guard (b := true) rfl (by decide) rfl rfl (fun _ _ hS => ?_) (fun e => absurd e (by decide))
    repeat refine And.intro qNg0 ?_
    first | refine hS _ ?_ | (refine whole_yes qNg0 ?_; refine hS _ ?_) | (refine whole_sub ?_; refine hS _ ?_)
    clear hS
    refine q_guard (b := true) rfl (by decide) rfl rfl (fun _ _ hS => ?_) (fun e => absurd e (by decide))
    refine hS _ ?_
    clear hS
    refine q_guard (b := true) rfl (by decide) rfl rfl (fun _ _ hS => ?_) (fun e => absurd e (by decide))
    repeat first | refine And.intro qNg0 ?_ | refine whole_yes qNg0 ?_ | refine whole_sub ?_
    refine ⟨Y.1, Y.2, k, rfl, ⟨by omega, by omega, by omega⟩, ?_⟩
    rw [hasL_nat vY]
    repeat refine And.intro qNg0 ?_
    first | refine hS _ ?_ | (intro cap7 hcap7; refine hS _ ?_)
    clear hS
    refine q_guard (b := true) rfl (by decide) rfl rfl (fun _ _ hS => ?_) (fun e => absurd e (by decide))
    repeat refine And.intro qNg0 ?_
    refine hS _ ?_
    clear hS
    refine q_step rfl (by decide) rfl fun _ hS => ?_
    refine hS _ ?_
    clear hS
    refine q_step rfl (by decide) rfl fun _ hS => ?_
    refine hS _ ?_
    clear hS
    refine q_nil ?_
    refine hK18 _ ?_
    refine done_block ?_
    refine hK17 _ _ _ ?_
    refine region_k x7_ok fun _ hK19 => ?_
    refine s_step rfl (by decide) rfl fun _ hS => ?_
    refine hS _ _ _ ?_
    clear hS
    refine s_step rfl (by decide) rfl fun _ hS => ?_
    repeat refine And.intro qNg0 ?_
    refine hS _ _ _ ?_
    clear hS
    refine s_step rfl (by decide) rfl fun _ hS => ?_
    refine hS _ _ _ ?_
    clear hS
    refine s_nil ?_
    refine hK19 _ _ _ ?_
    refine Done_some [] id (k + 1) ⟨by omega, by omega⟩ ⟨?_, ?_, (by decide : List.Nodup ([0, 1, 2, 3] : List Nat)), ?_, ?_, ⟨Nat.zero_le _, fun i hi => absurd hi (Nat.not_lt_zero i)⟩⟩
    ·exact uNg1
    ·exact uNg0
    ·exact uNg0
    ·exact uNg0
   ·clear hS
    try simp only [decide_eq_true_eq, decide_eq_false_iff_not, Int.not_lt, Int.not_le, Bool.not_eq_true', Bool.not_eq_false', Bool.not_eq_eq_eq_not, Bool.not_true, Bool.not_false, if_true, if_false, reduceIte, Bool.false_eq_true, Int.natCast_inj] at hb1
    refine q_guard (b := false) rfl (by decide) rfl rfl (fun e => absurd e (by decide)) (fun _ => ?_)
    refine q_guard (b := false) rfl (by decide) rfl rfl (fun e => absurd e (by decide)) (fun _ => ?_)
    refine q_guard (b := false) rfl (by decide) rfl rfl (fun e => absurd e (by decide)) (fun _ => ?_)
    refine q_guard (b := false) rfl (by decide) rfl rfl (fun e => absurd e (by decide)) (fun _ => ?_)
    refine q_guard (b := false) rfl (by decide) rfl rfl (fun e => absurd e (by decide)) (fun _ => ?_)
    refine q_guard (b := false) rfl (by decide) rfl rfl (fun e => absurd e (by decide)) (fun _ => ?_)
    refine q_guard (b := false) rfl (by decide) rfl rfl (fun e => absurd e (by decide)) (fun _ => ?_)
    refine q_step rfl (by decide) rfl fun _ hS => ?_
    refine hS _ ?_
    clear hS
    refine q_step rfl (by decide) rfl fun _ hS => ?_
    refine hS _ ?_
    clear hS
    refine q_nil ?_
    refine hK18 _ ?_
    refine done_block ?_
    refine hK17 _ _ _ ?_
    refine region_k x7_ok fun _ hK20 => ?_
    refine s_step rfl (by decide) rfl fun _ hS => ?_
    refine hS _ _ _ ?_
    clear hS
    refine s_step rfl (by decide) rfl fun _ hS => ?_
    repeat refine And.intro qNg0 ?_
    refine hS _ _ _ ?_
    clear hS
    refine s_step rfl (by decide) rfl fun _ hS => ?_
    refine hS _ _ _ ?_
    clear hS
    refine s_nil ?_
    refine hK20 _ _ _ ?_
    refine Done_some [] id (k + 1) ⟨by omega, by omega⟩ ⟨?_, ?_, (by decide : List.Nodup ([0, 1, 2, 3] : List Nat)), ?_, ?_, ⟨Nat.zero_le _, fun i hi => absurd hi (Nat.not_lt_zero i)⟩⟩
    ·exact uNg1
    ·exact uNg0
    ·exact uNg0
    ·exact uNg0
  ·try try simp only [decide_eq_false_iff_not, Int.not_lt] at h_t23
   refine WP_exit ?_
   refine done_thenx ?_
   refine done_thenx ?_
   refine Done_hit ?_
   refine hK11 _ _ _ ?_
   refine seq_k fun _ hK21 => ?_
   obtain rfl : k = 154 := by omega
   refine region_k x7_ok fun _ hK22 => ?_
   refine s_step rfl (by decide) rfl fun _ hS => ?_
   repeat refine And.intro qNg0 ?_
   first | refine hS _ _ _ ?_ | (refine whole_yes qNg0 ?_; refine hS _ _ _ ?_) | (refine whole_sub ?_; refine hS _ _ _ ?_)
   clear hS
   refine s_step rfl (by decide) rfl fun _ hS => ?_
   repeat first | refine And.intro qNg0 ?_ | refine whole_yes qNg0 ?_ | refine whole_sub ?_
   refine ⟨X.1, X.2, rfl, ⟨by omega, by omega⟩, ?_⟩
   obtain ⟨⟨⟨c1, c2⟩, ce⟩, hc⟩ : ∃ x, x = canonL X.1 X.2 := ⟨_, rfl⟩
   rw [← hc]
   have cc : IsCan ((c1, c2), ce) (atL X.1 X.2) := by rw [hc]; exact canonL_can vX rfl
   obtain rfl : ce = 0 := cc.err
   have vc : 0 < c2.length ∧ c1.length + c2.length ≤ 512 := cc.valid
   have mc : atL c1 c2 = atL X.1 X.2 := cc.mem
   clear hc
   repeat refine And.intro qNg0 ?_
   first | refine hS _ _ _ ?_ | (intro cap1 hcap1; refine hS _ _ _ ?_)
   clear hS
   refine s_step rfl (by decide) rfl fun _ hS => ?_
   refine hS _ _ _ ?_
   clear hS
   refine s_step rfl (by decide) rfl fun _ hS => ?_
   repeat refine And.intro qNg0 ?_
   refine hS _ _ _ ?_
   clear hS
   refine s_step rfl (by decide) rfl fun _ hS => ?_
   repeat refine And.intro qNg0 ?_
   refine hS _ _ _ ?_
   clear hS
   refine s_step rfl (by decide) rfl fun _ hS => ?_
   repeat refine And.intro qNg0 ?_
   refine hS _ _ _ ?_
   clear hS
   refine s_step0 rfl rfl fun _ hS => ?_
   repeat refine And.intro qNg0 ?_
   first | refine hS _ _ _ ?_ | (refine splice_full qNg0 ?_; refine hS _ _ _ ?_)
   clear hS
   refine s_step rfl (by decide) rfl fun _ hS => ?_
   refine hS _ _ _ ?_
   clear hS
   refine s_nil ?_
   refine hK22 _ _ _ ?_
   refine hK21 _ _ _ ?_
   refine seq_k fun _ hK23 => ?_
   refine region_k x7_ok fun _ hK24 => ?_
   refine s_step rfl (by decide) rfl fun _ hS => ?_
   repeat refine And.intro qNg0 ?_
   first | refine hS _ _ _ ?_ | (refine whole_yes qNg0 ?_; refine hS _ _ _ ?_) | (refine whole_sub ?_; refine hS _ _ _ ?_)
   clear hS
   refine s_step rfl (by decide) rfl fun _ hS => ?_
   repeat first | refine And.intro qNg0 ?_ | refine whole_yes qNg0 ?_ | refine whole_sub ?_
   refine ⟨Y.1, Y.2, rfl, ⟨by omega, by omega⟩, ?_⟩
   obtain ⟨⟨⟨d1, d2⟩, de⟩, hd⟩ : ∃ x, x = canonL Y.1 Y.2 := ⟨_, rfl⟩
   rw [← hd]
   have cd : IsCan ((d1, d2), de) (atL Y.1 Y.2) := by rw [hd]; exact canonL_can vY rfl
   obtain rfl : de = 0 := cd.err
   have vd : 0 < d2.length ∧ d1.length + d2.length ≤ 512 := cd.valid
   have md : atL d1 d2 = atL Y.1 Y.2 := cd.mem
   clear hd
   repeat refine And.intro qNg0 ?_
   first | refine hS _ _ _ ?_ | (intro cap1 hcap1; refine hS _ _ _ ?_)
   clear hS
   refine s_step rfl (by decide) rfl fun _ hS => ?_
   refine hS _ _ _ ?_
   clear hS
   refine s_step rfl (by decide) rfl fun _ hS => ?_
   repeat refine And.intro qNg0 ?_
   refine hS _ _ _ ?_
   clear hS
   refine s_step rfl (by decide) rfl fun _ hS => ?_
   repeat refine And.intro qNg0 ?_
   refine hS _ _ _ ?_
   clear hS
   refine s_step rfl (by decide) rfl fun _ hS => ?_
   repeat refine And.intro qNg0 ?_
   refine hS _ _ _ ?_
   clear hS
   refine s_step0 rfl rfl fun _ hS => ?_
   repeat refine And.intro qNg0 ?_
   first | refine hS _ _ _ ?_ | (refine splice_full qNg0 ?_; refine hS _ _ _ ?_)
   clear hS
   refine s_step rfl (by decide) rfl fun _ hS => ?_
   refine hS _ _ _ ?_
   clear hS
   refine s_nil ?_
   refine hK24 _ _ _ ?_
   refine hK23 _ _ _ ?_
   refine seq_k fun _ hK25 => ?_
   refine region_k x7_ok fun _ hK26 => ?_
   refine s_step rfl (by decide) rfl fun _ hS => ?_
   repeat refine And.intro qNg0 ?_
   first | refine hS _ _ _ ?_ | (refine whole_yes qNg0 ?_; refine hS _ _ _ ?_) | (refine whole_sub ?_; refine hS _ _ _ ?_)
   clear hS
   refine s_step rfl (by decide) rfl fun _ hS => ?_
   repeat first | refine And.intro qNg0 ?_ | refine whole_yes qNg0 ?_ | refine whole_sub ?_
   refine ⟨c1, c2, rfl, ⟨by omega, by omega⟩, ?_⟩
   obtain ⟨⟨⟨g1, g2⟩, ge⟩, hg⟩ : ∃ x, x = canonL c1 c2 := ⟨_, rfl⟩
   rw [← hg]
   have cg : IsCan ((g1, g2), ge) (atL X.1 X.2) := by rw [hg]; exact canonL_can vc mc
   obtain rfl : ge = 0 := cg.err
   have vg : 0 < g2.length ∧ g1.length + g2.length ≤ 512 := cg.valid
   have mg : atL g1 g2 = atL X.1 X.2 := cg.mem
   clear hg
   repeat refine And.intro qNg0 ?_
   first | refine hS _ _ _ ?_ | (intro cap1 hcap1; refine hS _ _ _ ?_)
   clear hS
   refine s_step rfl (by decide) rfl fun _ hS => ?_
   refine hS _ _ _ ?_
   clear hS
   refine s_step rfl (by decide) rfl fun _ hS => ?_
   repeat refine And.intro qNg0 ?_
   refine hS _ _ _ ?_
   clear hS
   refine s_step rfl (by decide) rfl fun _ hS => ?_
   repeat refine And.intro qNg0 ?_
   refine hS _ _ _ ?_
   clear hS
   refine s_step rfl (by decide) rfl fun _ hS => ?_
   repeat refine And.intro qNg0 ?_
   refine hS _ _ _ ?_
   clear hS
   refine s_step0 rfl rfl fun _ hS => ?_
   repeat refine And.intro qNg0 ?_
   first | refine hS _ _ _ ?_ | (refine splice_full qNg0 ?_; refine hS _ _ _ ?_)
   clear hS
   refine s_step rfl (by decide) rfl fun _ hS => ?_
   refine hS _ _ _ ?_
   clear hS
   refine s_nil ?_
   refine hK26 _ _ _ ?_
   refine hK25 _ _ _ ?_
   refine seq_k fun _ hK27 => ?_
   refine seq_k fun _ hK28 => ?_
   refine region_k x7_ok fun _ hK29 => ?_
   refine s_step rfl (by decide) rfl fun _ hS => ?_
   refine hS _ _ _ ?_
   clear hS
   refine s_nil ?_
   refine hK29 _ _ _ ?_
   refine hK28 _ _ _ ?_
   refine WP_block ?_
   refine WP_loop (α := Nat) (fun k => [(5, .c (.bool true)), (6, .c (.ptr 2 0)), (7, .c (.ptr 3 0)), (8, .c (.bool (allN (atL X.1 X.2) (atL Y.1 Y.2) 154))), (10, .c (.ptr 4 0)), (11, .c (.int .i64 0)), (12, .c (.ptr 5 0)), (13, .c (.int .i64 0)), (14, .c (.ptr 6 0)), (15, .c (.int .i64 0)), (16, .c (.int .i64 k))]) (fun k => [(0, .own 24 (lsC a b) 2), (1, .own 24 (lsC c d) 2), (2, .own 24 (lsC X.1 X.2) 2), (3, .own 24 (lsC Y.1 Y.2) 2), (4, .own 24 (lsC c1 c2) 2), (5, .own 24 (lsC d1 d2) 2), (6, .own 24 (lsC g1 g2) 2)]) 7 (fun k => k ≤ 60) (fun k => 60 - k) ?_ ?_
   ·refine Done_some [] id 0 (Nat.zero_le _) ⟨?_, ?_, (by decide : List.Nodup ([0, 1, 2, 3, 4, 5, 6] : List Nat)), ?_, ?_, ⟨Nat.zero_le _, fun i hi => absurd hi (Nat.not_lt_zero i)⟩⟩
    ·exact uNg0
    ·exact uNg0
    ·exact uNg0
    ·exact uNg0
   ·intro k hk
    refine seq_k fun _ hK30 => ?_
    refine seq_k fun _ hK31 => ?_
    refine region_k x7_ok fun _ hK32 => ?_
    refine s_step rfl (by decide) rfl fun _ hS => ?_
    refine hS _ _ _ ?_
    clear hS
    refine s_step rfl (by decide) rfl fun _ hS => ?_
    repeat refine And.intro qNg0 ?_
    refine hS _ _ _ ?_
    clear hS
    refine s_nil ?_
    refine hK32 _ _ _ ?_
    refine hK31 _ _ _ ?_
    refine WP_cond (b := _) rfl (fun h_t52 => ?_) (fun h_t52 => ?_)
    ·try try simp only [decide_eq_true_eq] at h_t52
     refine WP_skip ?_
     refine hK30 _ _ _ ?_
     refine seq_k fun _ hK33 => ?_
     refine WP_block ?_
     refine seq_k fun _ hK34 => ?_
     refine quiet_k x7_ok (by kernel_rfl) fun _ hK35 => ?_
     refine q_step rfl (by decide) rfl fun _ hS => ?_
     repeat refine And.intro qNg0 ?_
     first | refine hS _ ?_ | (refine whole_yes qNg0 ?_; refine hS _ ?_) | (refine whole_sub ?_; refine hS _ ?_)
     clear hS
     refine q_step rfl (by decide) rfl fun _ hS => ?_
     refine hS _ ?_
     clear hS
     refine q_step rfl (by decide) rfl fun _ hS => ?_
     repeat first | refine And.intro qNg0 ?_ | refine whole_yes qNg0 ?_ | refine whole_sub ?_
     refine ⟨c1, c2, k, rfl, ⟨by omega, by omega, by omega⟩, ?_⟩
     rw [hasL_nat vc, mc]
     repeat refine And.intro qNg0 ?_
     first | refine hS _ ?_ | (intro cap2 hcap2; refine hS _ ?_)
     clear hS
     refine q_step rfl (by decide) rfl fun _ hS => ?_
     repeat refine And.intro qNg0 ?_
     first | refine hS _ ?_ | (refine whole_yes qNg0 ?_; refine hS _ ?_) | (refine whole_sub ?_; refine hS _ ?_)
     clear hS
     refine q_step rfl (by decide) rfl fun _ hS => ?_
     refine hS _ ?_
     clear hS
     refine q_step rfl (by decide) rfl fun _ hS => ?_
     repeat first | refine And.intro qNg0 ?_ | refine whole_yes qNg0 ?_ | refine whole_sub ?_
     refine ⟨X.1, X.2, k, rfl, ⟨by omega, by omega, by omega⟩, ?_⟩
     rw [hasL_nat vX]
     repeat refine And.intro qNg0 ?_
     first | refine hS _ ?_ | (intro cap5 hcap5; refine hS _ ?_)
     clear hS
     refine q_step rfl (by decide) rfl fun _ hS => ?_
     repeat refine And.intro qNg0 ?_
     refine hS _ ?_
     clear hS
     refine q_nil ?_
     refine hK35 _ ?_
     refine hK34 _ _ _ ?_
     refine WP_cond (b := _) rfl (fun h_t61 => ?_) (fun _ => ?_)
     ·exfalso; first | (simp at h_t61; done) | exact absurd h_t61 (by decide)
     refine WP_skip ?_
     refine done_block ?_
     refine hK33 _ _ _ ?_
     refine region_k x7_ok fun _ hK36 => ?_
     refine s_step rfl (by decide) rfl fun _ hS => ?_
     refine hS _ _ _ ?_
     clear hS
     refine s_step rfl (by decide) rfl fun _ hS => ?_
     repeat refine And.intro qNg0 ?_
     refine hS _ _ _ ?_
     clear hS
     refine s_step rfl (by decide) rfl fun _ hS => ?_
     refine hS _ _ _ ?_
     clear hS
     refine s_nil ?_
     refine hK36 _ _ _ ?_
     refine Done_some [] id (k + 1) ⟨by omega, by omega⟩ ⟨?_, ?_, (by decide : List.Nodup ([0, 1, 2, 3, 4, 5, 6] : List Nat)), ?_, ?_, ⟨Nat.zero_le _, fun i hi => absurd hi (Nat.not_lt_zero i)⟩⟩
     ·exact uNg0
     ·exact uNg0
     ·exact uNg0
     ·exact uNg0
    ·try try simp only [decide_eq_false_iff_not, Int.not_lt] at h_t52
     refine WP_exit ?_
     refine done_thenx ?_
     refine done_thenx ?_
     refine Done_hit ?_
     refine hK27 _ _ _ ?_
     refine seq_k fun _ hK37 => ?_
     have hs : c1.length ≤ X.1.length ∧ c2.length ≤ X.2.length := cc.short vX.1 (atL_per vX.1)
     refine region_k x7_ok fun _ hK38 => ?_
     refine s_step rfl (by decide) rfl fun _ hS => ?_
     refine hS _ _ _ ?_
     clear hS
     refine s_step rfl (by decide) rfl fun _ hS => ?_
     refine s_split hS (fun hb1 => ?_) (fun hb1 => ?_)
     rotate_left 1
     ·exfalso; first | (simp at hb1; done) | exact absurd hb1 (by decide) | (simp at hb1; omega)
     clear hS
     refine s_guard (b := true) rfl (by decide) rfl rfl (fun _ _ hS => ?_) (fun e => absurd e (by decide))
     refine hS _ _ _ ?_
     clear hS
     refine s_guard (b := true) rfl (by decide) rfl rfl (fun _ _ hS => ?_) (fun e => absurd e (by decide))
     repeat refine And.intro qNg0 ?_
     refine hS _ _ _ ?_
     clear hS
     refine s_step rfl (by decide) rfl fun _ hS => ?_
     refine hS _ _ _ ?_
     clear hS
     refine s_step rfl (by decide) rfl fun _ hS => ?_
     refine s_split hS (fun hb5 => ?_) (fun hb5 => ?_)
     rotate_left 1
     ·exfalso; first | (simp at hb5; done) | exact absurd hb5 (by decide) | (simp at hb5; omega)
     clear hS
     refine s_guard (b := true) rfl (by decide) rfl rfl (fun _ _ hS => ?_) (fun e => absurd e (by decide))
     refine hS _ _ _ ?_
     clear hS
     refine s_guard (b := true) rfl (by decide) rfl rfl (fun _ _ hS => ?_) (fun e => absurd e (by decide))
     repeat refine And.intro qNg0 ?_
     refine hS _ _ _ ?_
     clear hS
     refine s_step rfl (by decide) rfl fun _ hS => ?_
     refine hS _ _ _ ?_
     clear hS
     refine s_step rfl (by decide) rfl fun _ hS => ?_
     refine s_split hS (fun hb9 => ?_) (fun hb9 => ?_)
     rotate_left 1
     ·exfalso; first | (simp at hb9; done) | exact absurd hb9 (by decide) | (simp at hb9; omega)
     clear hS
     refine s_guard (b := true) rfl (by decide) rfl rfl (fun _ _ hS => ?_) (fun e => absurd e (by decide))
     refine hS _ _ _ ?_
     clear hS
     refine s_guard (b := true) rfl (by decide) rfl rfl (fun _ _ hS => ?_) (fun e => absurd e (by decide))
     repeat refine And.intro qNg0 ?_
     refine hS _ _ _ ?_
     clear hS
     refine s_step rfl (by decide) rfl fun _ hS => ?_
     refine hS _ _ _ ?_
     clear hS
     refine s_step rfl (by decide) rfl fun _ hS => ?_
     refine s_split hS (fun hb13 => ?_) (fun hb13 => ?_)
     rotate_left 1
     ·exfalso; first | (simp at hb13; done) | exact absurd hb13 (by decide) | (simp at hb13; omega)
     clear hS
     refine s_guard (b := true) rfl (by decide) rfl rfl (fun _ _ hS => ?_) (fun e => absurd e (by decide))
     repeat refine And.intro qNg0 ?_
     first | refine hS _ _ _ ?_ | (refine whole_yes qNg0 ?_; refine hS _ _ _ ?_) | (refine whole_sub ?_; refine hS _ _ _ ?_)
     clear hS
     refine s_guard (b := true) rfl (by decide) rfl rfl (fun _ _ hS => ?_) (fun e => absurd e (by decide))
     repeat refine And.intro qNg0 ?_
     first | refine hS _ _ _ ?_ | (refine whole_yes qNg0 ?_; refine hS _ _ _ ?_) | (refine whole_sub ?_; refine hS _ _ _ ?_)
     clear hS
     refine s_guard (b := true) rfl (by decide) rfl rfl (fun _ _ hS => ?_) (fun e => absurd e (by decide))
     repeat first | refine And.intro qNg0 ?_ | refine whole_yes qNg0 ?_ | refine whole_sub ?_
     refine ⟨c1, c2, d1, d2, rfl, ⟨by omega, by omega, by omega, by omega⟩, ?_⟩
     rw [canon_same cc cd vX.1 vY.1 (atL_per vX.1) (atL_per vY.1) (by have := Nat.mul_le_mul (show X.2.length ≤ 12 by omega) (show Y.2.length ≤ 12 by omega); omega)]
     repeat refine And.intro qNg0 ?_
     first | refine hS _ _ _ ?_ | (intro cap16 hcap16; refine hS _ _ _ ?_)
     clear hS
     refine s_guard (b := true) rfl (by decide) rfl rfl (fun _ _ hS => ?_) (fun e => absurd e (by decide))
     refine hS _ _ _ ?_
     clear hS
     refine s_guard (b := true) rfl (by decide) rfl rfl (fun _ _ hS => ?_) (fun e => absurd e (by decide))
     repeat refine And.intro qNg0 ?_
     refine hS _ _ _ ?_
     clear hS
     refine s_step rfl (by decide) rfl fun _ hS => ?_
     refine hS _ _ _ ?_
     clear hS
     refine s_step rfl (by decide) rfl fun _ hS => ?_
     refine s_split hS (fun hb20 => ?_) (fun hb20 => ?_)
     rotate_left 1
     ·exfalso; first | (simp at hb20; done) | exact absurd hb20 (by decide) | (simp at hb20; omega)
     clear hS
     refine s_guard (b := true) rfl (by decide) rfl rfl (fun _ _ hS => ?_) (fun e => absurd e (by decide))
     repeat refine And.intro qNg0 ?_
     first | refine hS _ _ _ ?_ | (refine whole_yes qNg0 ?_; refine hS _ _ _ ?_) | (refine whole_sub ?_; refine hS _ _ _ ?_)
     clear hS
     refine s_guard (b := true) rfl (by decide) rfl rfl (fun _ _ hS => ?_) (fun e => absurd e (by decide))
     repeat refine And.intro qNg0 ?_
     first | refine hS _ _ _ ?_ | (refine whole_yes qNg0 ?_; refine hS _ _ _ ?_) | (refine whole_sub ?_; refine hS _ _ _ ?_)
     clear hS
     refine s_guard (b := true) rfl (by decide) rfl rfl (fun _ _ hS => ?_) (fun e => absurd e (by decide))
     repeat first | refine And.intro qNg0 ?_ | refine whole_yes qNg0 ?_ | refine whole_sub ?_
     refine ⟨g1, g2, c1, c2, rfl, ⟨by omega, by omega, by omega, by omega⟩, ?_⟩
     rw [show decide (g1 = c1 ∧ g2 = c2) = true from decide_eq_true (both_eq cg cc)]
     repeat refine And.intro qNg0 ?_
     first | refine hS _ _ _ ?_ | (intro cap23 hcap23; refine hS _ _ _ ?_)
     clear hS
     refine s_step rfl (by decide) rfl fun _ hS => ?_
     refine hS _ _ _ ?_
     clear hS
     refine s_step rfl (by decide) rfl fun _ hS => ?_
     refine s_split hS (fun hb25 => ?_) (fun hb25 => ?_)
     rotate_left 1
     ·exfalso; first | (simp at hb25; done) | exact absurd hb25 (by decide) | (simp at hb25; omega)
     clear hS
     refine s_guard (b := true) rfl (by decide) rfl rfl (fun _ _ hS => ?_) (fun e => absurd e (by decide))
     repeat refine And.intro qNg0 ?_
     refine hS _ _ _ ?_
     clear hS
     refine s_guard (b := true) rfl (by decide) rfl rfl (fun _ _ hS => ?_) (fun e => absurd e (by decide))
     repeat refine And.intro qNg0 ?_
     first | refine hS _ _ _ ?_ | (refine whole_yes qNg0 ?_; refine hS _ _ _ ?_) | (refine whole_sub ?_; refine hS _ _ _ ?_)
     clear hS
     refine s_guard (b := true) rfl (by decide) rfl rfl (fun _ _ hS => ?_) (fun e => absurd e (by decide))
     repeat refine And.intro qNg0 ?_
     refine hS _ _ _ ?_
     clear hS
     refine s_guard (b := true) rfl (by decide) rfl rfl (fun _ _ hS => ?_) (fun e => absurd e (by decide))
     repeat refine And.intro qNg0 ?_
     refine hS _ _ _ ?_
     clear hS
     refine s_guard (b := true) rfl (by decide) rfl rfl (fun _ _ hS => ?_) (fun e => absurd e (by decide))
     repeat refine And.intro qNg0 ?_
     first | refine hS _ _ _ ?_ | (refine whole_yes qNg0 ?_; refine hS _ _ _ ?_) | (refine whole_sub ?_; refine hS _ _ _ ?_)
     clear hS
     refine s_guard (b := true) rfl (by decide) rfl rfl (fun _ _ hS => ?_) (fun e => absurd e (by decide))
     repeat refine And.intro qNg0 ?_
     refine hS _ _ _ ?_
     clear hS
     refine s_guard (b := true) rfl (by decide) rfl rfl (fun _ _ hS => ?_) (fun e => absurd e (by decide))
     repeat refine And.intro qNg0 ?_
     refine hS _ _ _ ?_
     clear hS
     refine s_step rfl (by decide) rfl fun _ hS => ?_
     refine hS _ _ _ ?_
     clear hS
     refine s_step rfl (by decide) rfl fun _ hS => ?_
     refine s_split hS (fun hb34 => ?_) (fun hb34 => ?_)
     rotate_left 1
     ·exfalso; first | (simp at hb34; done) | exact absurd hb34 (by decide) | (simp at hb34; omega)
     clear hS
     refine s_guard (b := true) rfl (by decide) rfl rfl (fun _ _ hS => ?_) (fun e => absurd e (by decide))
     repeat refine And.intro qNg0 ?_
     refine hS _ _ _ ?_
     clear hS
     refine s_guard (b := true) rfl (by decide) rfl rfl (fun _ _ hS => ?_) (fun e => absurd e (by decide))
     repeat refine And.intro qNg0 ?_
     first | refine hS _ _ _ ?_ | (refine whole_yes qNg0 ?_; refine hS _ _ _ ?_) | (refine whole_sub ?_; refine hS _ _ _ ?_)
     clear hS
     refine s_guard (b := true) rfl (by decide) rfl rfl (fun _ _ hS => ?_) (fun e => absurd e (by decide))
     repeat refine And.intro qNg0 ?_
     refine hS _ _ _ ?_
     clear hS
     refine s_guard (b := true) rfl (by decide) rfl rfl (fun _ _ hS => ?_) (fun e => absurd e (by decide))
     repeat refine And.intro qNg0 ?_
     refine hS _ _ _ ?_
     clear hS
     refine s_guard (b := true) rfl (by decide) rfl rfl (fun _ _ hS => ?_) (fun e => absurd e (by decide))
     repeat refine And.intro qNg0 ?_
     first | refine hS _ _ _ ?_ | (refine whole_yes qNg0 ?_; refine hS _ _ _ ?_) | (refine whole_sub ?_; refine hS _ _ _ ?_)
     clear hS
     refine s_guard (b := true) rfl (by decide) rfl rfl (fun _ _ hS => ?_) (fun e => absurd e (by decide))
     repeat refine And.intro qNg0 ?_
     refine hS _ _ _ ?_
     clear hS
     refine s_guard (b := true) rfl (by decide) rfl rfl (fun _ _ hS => ?_) (fun e => absurd e (by decide))
     repeat refine And.intro qNg0 ?_
     refine hS _ _ _ ?_
     clear hS
     refine s_step rfl (by decide) rfl fun _ hS => ?_
     refine hS _ _ _ ?_
     clear hS
     refine s_step rfl (by decide) rfl fun _ hS => ?_
     refine hS _ _ _ ?_
     clear hS
     refine s_nil ?_
     refine hK38 _ _ _ ?_
     refine hK37 _ _ _ ?_
     refine WP_ret (Done_flat x7_ok (fun _ _ h => h) (by first | rfl | assumption) [.tmp 4] rfl ?_)
     repeat refine And.intro (by first | omega | exact trivial | rfl | (simp <;> omega)) ?_
     try refine ite_yes (by first | omega | exact trivial | rfl | (simp <;> omega)) ?_
     show SV.c (.bool (decide _)) = SV.c (.bool true)
     congr 2
     exact decide_eq_true (by omega)


end Go.Proofs.YtpfncffapgkjaaaDoor
