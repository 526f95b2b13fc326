/- The law: invalid sets are rejected. -/
import Derived.Test.YtpfncffapgkjaaaDoorAb14
import Derived.Test.YtpfncffapgkjaaaDoorAb21
import Derived.Test.YtpfncffapgkjaaaDoorAb22
import Derived.Test.YtpfncffapgkjaaaDoorCtx
import Derived.Test.YtpfncffapgkjaaaDoorLa
import Derived.Test.YtpfncffapgkjaaaDoorLc
import Derived.Test.YtpfncffapgkjaaaDoorLd
import Derived.Test.YtpfncffapgkjaaaDoorLe
import Derived.Test.YtpfncffapgkjaaaDoorLf
import Derived.Test.YtpfncffapgkjaaaDoorLg
import Derived.Test.YtpfncffapgkjaaaDoorLk
import Derived.Test.YtpfncffapgkjaaaDoorLw
namespace Go.Proofs.YtpfncffapgkjaaaDoor
set_option linter.unusedVariables false
open Go.Ab Go.RowKit

theorem qNa0 {a : Prop} (h : a := by first | omega | exact trivial | rfl | (simp only [len_u8s, len_u32s, len_u64s, len_ints, len_bools, len_cells]; omega) | exact inR_i64.mpr ⟨by omega, by omega⟩ | (simp <;> omega) | (refine And.intro ?_ ?_ <;> exact trivial) | exact ⟨trivial, trivial, trivial⟩ | decide | (refine And.intro rfl ?_; (repeat first | exact trivial | refine And.intro rfl ?_); done) | exact Nat.succ_pos _ | exact Nat.le_refl _ | (refine And.intro trivial ?_; (repeat first | exact trivial | refine And.intro trivial ?_); done)) : a := h
theorem qNa1 {a : Prop} (h : a := by first | omega | exact trivial | rfl | (simp only [len_u8s, len_u32s, len_u64s, len_ints, len_bools, len_cells]; omega) | exact inR_i64.mpr ⟨by omega, by omega⟩ | (simp <;> omega) | (simp <;> omega) | (refine And.intro ?_ ?_ <;> exact trivial) | exact ⟨trivial, trivial, trivial⟩ | decide | (refine And.intro rfl ?_; (repeat first | exact trivial | refine And.intro rfl ?_); done) | exact Nat.succ_pos _ | exact Nat.le_refl _ | (refine And.intro trivial ?_; (repeat first | exact trivial | refine And.intro trivial ?_); done)) : a := h
theorem qNa2 {a : Prop} (h : a := by first | omega | exact trivial | rfl | (simp only [len_u8s, len_u32s, len_u64s, len_ints, len_bools, len_cells]; omega) | exact inR_i64.mpr ⟨by omega, by omega⟩ | (simp <;> omega) | decide | (simp <;> omega) | (refine And.intro ?_ ?_ <;> exact trivial) | exact ⟨trivial, trivial, trivial⟩ | decide | (refine And.intro rfl ?_; (repeat first | exact trivial | refine And.intro rfl ?_); done) | exact Nat.succ_pos _ | exact Nat.le_refl _ | (refine And.intro trivial ?_; (repeat first | exact trivial | refine And.intro trivial ?_); done)) : a := h
theorem qNa3 {a : Prop} (h : a := by first | omega | exact trivial | rfl | (simp only [len_u8s, len_u32s, len_u64s, len_ints, len_bools, len_cells]; omega) | exact inR_i64.mpr ⟨by omega, by omega⟩ | (simp <;> omega) | decide | exact inR_i64.mpr ⟨by decide, by decide⟩ | (refine And.intro ?_ ?_ <;> exact trivial) | exact ⟨trivial, trivial, trivial⟩ | decide | (refine And.intro rfl ?_; (repeat first | exact trivial | refine And.intro rfl ?_); done) | exact Nat.succ_pos _ | exact Nat.le_refl _ | (refine And.intro trivial ?_; (repeat first | exact trivial | refine And.intro trivial ?_); done)) : a := h

theorem uNa0 {a : Prop} (h : a := by
    repeat' (first | exact trivial | refine And.intro ?_ ?_ | rfl | omega | decide | (show (_ : Nat) < _; decide) | exact low_nil' | refine low_cons' ?_ ?_ | exact Nat.le_refl _ | exact Nat.succ_pos _)
    all_goals first | omega | (rw [hmk]; simp [Cont.times, timesL, Cont.len]; done) | (rw [hmk, if_pos ⟨rfl, by simp [Cont.times, timesL, Cont.len]⟩]; simp [Cont.times, timesL]; done) | exact low_lsC | (rw [if_pos ⟨rfl, rfl⟩]; rfl) | (simp; done) | (simp <;> omega) | skip) : a := h
theorem uNa1 {a : Prop} (h : a := by
    repeat' (first | exact trivial | refine And.intro ?_ ?_ | rfl | omega | decide | (show (_ : Nat) < _; decide) | exact low_nil' | refine low_cons' ?_ ?_ | exact Nat.le_refl _ | exact Nat.succ_pos _)
    all_goals first | omega | exact low_lsC | (rw [if_pos ⟨rfl, rfl⟩]; rfl) | (simp; done) | (simp <;> omega) | skip) : a := h

theorem made_len (a b : List Bool) (n m : Nat) : (madeL a b n m).1.length ≤ n ∧ 0 < (madeL a b n m).2.length ∧ (madeL a b n m).2.length ≤ max 1 m := by
  rw [madeL]
  refine ⟨by simp; omega, ?_, ?_⟩
  · dsimp only; split
    · simp
    · omega
  · dsimp only; split
    · simp; omega
    · simp; omega
noncomputable def x1 : Ctx := { P := Tryd.prog, ty := ty, glob := gl, fs := [(12, .flat sanityS), (13, .data madeS), (14, .data canonPS), (27, .data sumPS), (23, .data andPS), (25, .data orPS), (17, .flat validS), (21, .flat leastS), (19, .flat hasS)] }
theorem x1_ok : x1.OK := ⟨tyOK, ⟨⟨enters_mk Tryd.func12 (by kernel_rfl) rfl, sanity_ok⟩, ⟨enters_mk Tryd.func13 (by kernel_rfl) rfl, made_ok⟩, ⟨enters_mk Tryd.func14 (by kernel_rfl) rfl, canonP_ok⟩, ⟨enters_mk Tryd.func27 (by kernel_rfl) rfl, sumP_ok⟩, ⟨enters_mk Tryd.func23 (by kernel_rfl) rfl, andP_ok⟩, ⟨enters_mk Tryd.func25 (by kernel_rfl) rfl, orP_ok⟩, ⟨enters_mk Tryd.func17 (by kernel_rfl) rfl, valid_ok⟩, ⟨enters_mk Tryd.func21 (by kernel_rfl) rfl, least_ok⟩, ⟨enters_mk Tryd.func19 (by kernel_rfl) rfl, has_ok⟩, trivial⟩, mixed⟩
@[simp] theorem x1_ty : x1.ty = ty := rfl

def lawRejectsS : QSpec := fun vs K => ∃ a b : List Bool, ∃ m : Nat, ∃ n : Int, vs = [lsV a b, .c (.int .u16 m), .c (.int .i64 n)] ∧ (a.length ≤ 9223372036854775807 ∧ b.length ≤ 9223372036854775807 ∧ m ≤ 65535 ∧ -9223372036854775808 ≤ n ∧ n ≤ 9223372036854775807) ∧ K (.c (.bool true))
set_option maxHeartbeats 2000000 in
theorem lawRejects_ok : FlatOK Tryd.prog gl 11 lawRejectsS := by
 refine flat_of (Γ := x1) (N := 108) Tryd.func11 rfl rfl fun vs K h => ?_
 obtain ⟨a, b, m, n, rfl, ⟨hl1, hl2, hm, hn1, hn2⟩, h⟩ := h
 refine ⟨_, h, rfl, by simp, fun w I => ?_⟩
 refine seq_k fun _ hK1 => ?_
 refine region_k x1_ok fun _ hK2 => ?_
 refine s_step rfl (by decide) rfl fun _ hS => ?_
 repeat refine And.intro qNa0 ?_
 refine hS _ _ _ ?_
 clear hS
 refine s_step rfl (by decide) rfl fun _ hS => ?_
 refine hS _ _ _ ?_
 clear hS
 refine s_nil ?_
 refine hK2 _ _ _ ?_
 refine hK1 _ _ _ ?_
 refine seq_k fun _ hK3 => ?_
 refine region_k x1_ok fun _ hK4 => ?_
 refine s_step rfl (by decide) rfl fun _ hS => ?_
 repeat first | refine And.intro qNa0 ?_ | refine whole_yes qNa0 ?_ | refine whole_sub ?_
 skip
 repeat refine And.intro qNa0 ?_
 first | refine hS _ _ _ ?_ | (intro cap0 hcap0; refine hS _ _ _ ?_)
 clear hS
 refine s_step rfl (by decide) rfl fun _ hS => ?_
 refine hS _ _ _ ?_
 clear hS
 refine s_nil ?_
 refine hK4 _ _ _ ?_
 refine hK3 _ _ _ ?_
 refine seq_k fun _ hK5 => ?_
 refine region_k x1_ok fun _ hK6 => ?_
 refine s_step rfl (by decide) rfl fun _ hS => ?_
 repeat refine And.intro qNa0 ?_
 refine hS _ _ _ ?_
 clear hS
 refine s_step rfl (by decide) rfl fun _ hS => ?_
 repeat refine And.intro qNa0 ?_
 first | refine hS _ _ _ ?_ | (refine whole_yes qNa0 ?_; refine hS _ _ _ ?_) | (refine whole_sub ?_; refine hS _ _ _ ?_)
 clear hS
 refine s_step rfl (by decide) rfl fun _ hS => ?_
 repeat refine And.intro qNa0 ?_
 refine hS _ _ _ ?_
 clear hS
 refine s_step rfl (by decide) rfl fun _ hS => ?_
 repeat refine And.intro qNa0 ?_
 refine hS _ _ _ ?_
 clear hS
 refine s_step0 rfl rfl fun _ hS => ?_
 repeat refine And.intro qNa0 ?_
 first | refine hS _ _ _ ?_ | (refine splice_full qNa0 ?_; refine hS _ _ _ ?_)
 clear hS
 refine s_nil ?_
 refine hK6 _ _ _ ?_
 refine hK5 _ _ _ ?_
 refine WP_cut (α := List Bool) (fun c => [(1, .c (.int .u16 m)), (2, .c (.int .i64 n)), (3, .c (.ptr 0 0)), (6, .c (.bool false)), (7, .c (.bool true)), (8, .c (.ptr 1 0))]) (fun c => [(0, .own 24 (lsC a b) 2), (1, .own 24 (lsC a c) 2)]) 2 (fun c => c.length ≤ 1048576 ∧ ¬ (0 < c.length ∧ a.length + c.length ≤ 512)) ?_ ?_
 ·skip
  refine seq_k fun _ hK7 => ?_
  refine WP_nilat 1 1 4 (.bools []) rfl rfl rfl trivial ?_
  refine region_k x1_ok fun _ hK8 => ?_
  refine s_step rfl (by decide) rfl fun _ hS => ?_
  refine hS _ _ _ ?_
  clear hS
  refine s_step rfl (by decide) rfl fun _ hS => ?_
  repeat refine And.intro qNa1 ?_
  refine hS _ _ _ ?_
  clear hS
  refine s_step rfl (by decide) rfl fun _ hS => ?_
  repeat refine And.intro qNa1 ?_
  refine hS _ _ _ ?_
  clear hS
  refine s_nil ?_
  refine hK8 _ _ _ ?_
  refine hK7 _ _ _ ?_
  refine WP_cond (b := _) rfl (fun h_t24 => ?_) (fun h_t24 => ?_)
  ·try try simp only [decide_eq_true_eq] at h_t24
   refine region_k x1_ok fun _ hK9 => ?_
   refine s_step rfl (by decide) rfl fun _ hS => ?_
   refine hS _ _ _ ?_
   clear hS
   refine s_step rfl (by decide) rfl fun _ hS => ?_
   repeat refine And.intro qNa2 ?_
   refine hS _ _ _ ?_
   clear hS
   refine s_step rfl (by decide) rfl fun _ hS => ?_
   repeat first | refine And.intro qNa2 ?_ | refine whole_yes qNa2 ?_ | refine whole_sub ?_
   refine hS _ _ _ ?_
   clear hS
   refine s_step rfl (by decide) rfl fun _ hS => ?_
   repeat refine And.intro qNa2 ?_
   refine hS _ _ _ ?_
   clear hS
   refine s_step rfl (by decide) rfl fun _ hS => ?_
   repeat refine And.intro qNa2 ?_
   refine hS _ _ _ ?_
   clear hS
   refine s_step rfl (by decide) rfl fun _ hS => ?_
   repeat refine And.intro qNa2 ?_
   refine hS _ _ _ ?_
   clear hS
   refine s_step0 rfl rfl fun _ hS => ?_
   repeat refine And.intro qNa2 ?_
   first | refine hS _ _ _ ?_ | (refine splice_full qNa2 ?_; refine hS _ _ _ ?_)
   clear hS
   refine s_nil ?_
   refine hK9 _ _ _ ?_
   have hmk : (513 + (m : Int) % 100).toNat = 513 + m % 100 := by omega
   refine Done_some [3] id (List.replicate (513 + m % 100) false) ⟨by simp; omega, by simp; omega⟩ ⟨?_, ?_, (by decide : List.Nodup ([0, 1] : List Nat)), ?_, ?_, ⟨Nat.zero_le _, fun i hi => absurd hi (Nat.not_lt_zero i)⟩⟩
   ·exact uNa0
   ·exact uNa0
   ·exact uNa1
   ·exact uNa1
  ·try try simp only [decide_eq_false_iff_not] at h_t24
   refine WP_skip ?_
   refine Done_some [2] id [] ⟨by simp, by simp⟩ ⟨?_, ?_, (by decide : List.Nodup ([0, 1] : List Nat)), ?_, ?_, ⟨Nat.zero_le _, fun i hi => absurd hi (Nat.not_lt_zero i)⟩⟩
   ·exact uNa1
   ·exact uNa1
   ·exact uNa1
   ·exact uNa1
 ·intro c ⟨hcl, hbad⟩
  refine seq_k fun _ hK10 => ?_
  refine region_k x1_ok fun _ hK11 => ?_
  refine s_step rfl (by decide) rfl fun _ hS => ?_
  repeat refine And.intro qNa0 ?_
  first | refine hS _ _ _ ?_ | (refine whole_yes qNa0 ?_; refine hS _ _ _ ?_) | (refine whole_sub ?_; refine hS _ _ _ ?_)
  clear hS
  refine s_step rfl (by decide) rfl fun _ hS => ?_
  repeat first | refine And.intro qNa0 ?_ | refine whole_yes qNa0 ?_ | refine whole_sub ?_
  refine ⟨a, b, 5, 5, rfl, ⟨by omega, by omega, by omega, by omega⟩, ?_⟩
  repeat refine And.intro qNa0 ?_
  first | refine hS _ _ _ ?_ | (intro cap1 hcap1; refine hS _ _ _ ?_)
  clear hS
  refine s_step rfl (by decide) rfl fun _ hS => ?_
  repeat refine And.intro qNa0 ?_
  refine hS _ _ _ ?_
  clear hS
  refine s_step0 rfl rfl fun _ hS => ?_
  repeat refine And.intro qNa0 ?_
  first | refine hS _ _ _ ?_ | (refine splice_full qNa0 ?_; refine hS _ _ _ ?_)
  clear hS
  refine s_nil ?_
  refine hK11 _ _ _ ?_
  refine hK10 _ _ _ ?_
  refine seq_k fun _ hK12 => ?_
  have hm5 := made_len a b 5 5
  
  refine region_k x1_ok fun _ hK13 => ?_
  refine s_step rfl (by decide) rfl fun _ hS => ?_
  repeat refine And.intro qNa0 ?_
  first | refine hS _ _ _ ?_ | (refine whole_yes qNa0 ?_; refine hS _ _ _ ?_) | (refine whole_sub ?_; refine hS _ _ _ ?_)
  clear hS
  refine s_step rfl (by decide) rfl fun _ hS => ?_
  repeat first | refine And.intro qNa0 ?_ | refine whole_yes qNa0 ?_ | refine whole_sub ?_
  refine ⟨a, c, rfl, ⟨by omega, by omega⟩, ?_⟩
  rw [canonL, if_neg hbad]
  repeat refine And.intro qNa0 ?_
  first | refine hS _ _ _ ?_ | (intro cap1 hcap1; refine hS _ _ _ ?_)
  clear hS
  refine s_step rfl (by decide) rfl fun _ hS => ?_
  refine hS _ _ _ ?_
  clear hS
  refine s_step rfl (by decide) rfl fun _ hS => ?_
  repeat refine And.intro qNa0 ?_
  refine hS _ _ _ ?_
  clear hS
  refine s_step rfl (by decide) rfl fun _ hS => ?_
  repeat refine And.intro qNa0 ?_
  refine hS _ _ _ ?_
  clear hS
  refine s_step rfl (by decide) rfl fun _ hS => ?_
  repeat refine And.intro qNa0 ?_
  refine hS _ _ _ ?_
  clear hS
  refine s_step0 rfl rfl fun _ hS => ?_
  repeat refine And.intro qNa0 ?_
  first | refine hS _ _ _ ?_ | (refine splice_full qNa0 ?_; refine hS _ _ _ ?_)
  clear hS
  refine s_step rfl (by decide) rfl fun _ hS => ?_
  refine hS _ _ _ ?_
  clear hS
  refine s_nil ?_
  refine hK13 _ _ _ ?_
  refine hK12 _ _ _ ?_
  refine seq_k fun _ hK14 => ?_
  refine region_k x1_ok fun _ hK15 => ?_
  refine s_step rfl (by decide) rfl fun _ hS => ?_
  repeat refine And.intro qNa0 ?_
  first | refine hS _ _ _ ?_ | (refine whole_yes qNa0 ?_; refine hS _ _ _ ?_) | (refine whole_sub ?_; refine hS _ _ _ ?_)
  clear hS
  refine s_step rfl (by decide) rfl fun _ hS => ?_
  repeat refine And.intro qNa0 ?_
  first | refine hS _ _ _ ?_ | (refine whole_yes qNa0 ?_; refine hS _ _ _ ?_) | (refine whole_sub ?_; refine hS _ _ _ ?_)
  clear hS
  refine s_step rfl (by decide) rfl fun _ hS => ?_
  repeat first | refine And.intro qNa0 ?_ | refine whole_yes qNa0 ?_ | refine whole_sub ?_
  refine ⟨(madeL a b 5 5).1, (madeL a b 5 5).2, a, c, rfl, ⟨by omega, by omega, by omega, by omega⟩, ?_⟩
  rw [mergeL, if_neg (fun h => hbad h.2)]
  repeat refine And.intro qNa0 ?_
  first | refine hS _ _ _ ?_ | (intro cap2 hcap2; refine hS _ _ _ ?_)
  clear hS
  refine s_step rfl (by decide) rfl fun _ hS => ?_
  refine hS _ _ _ ?_
  clear hS
  refine s_step rfl (by decide) rfl fun _ hS => ?_
  repeat refine And.intro qNa0 ?_
  refine hS _ _ _ ?_
  clear hS
  refine s_step rfl (by decide) rfl fun _ hS => ?_
  repeat refine And.intro qNa0 ?_
  refine hS _ _ _ ?_
  clear hS
  refine s_step rfl (by decide) rfl fun _ hS => ?_
  repeat refine And.intro qNa0 ?_
  refine hS _ _ _ ?_
  clear hS
  refine s_step0 rfl rfl fun _ hS => ?_
  repeat refine And.intro qNa0 ?_
  first | refine hS _ _ _ ?_ | (refine splice_full qNa0 ?_; refine hS _ _ _ ?_)
  clear hS
  refine s_step rfl (by decide) rfl fun _ hS => ?_
  refine hS _ _ _ ?_
  clear hS
  refine s_nil ?_
  refine hK15 _ _ _ ?_
  refine hK14 _ _ _ ?_
  refine seq_k fun _ hK16 => ?_
  refine region_k x1_ok fun _ hK17 => ?_
  refine s_step rfl (by decide) rfl fun _ hS => ?_
  repeat refine And.intro qNa0 ?_
  first | refine hS _ _ _ ?_ | (refine whole_yes qNa0 ?_; refine hS _ _ _ ?_) | (refine whole_sub ?_; refine hS _ _ _ ?_)
  clear hS
  refine s_step rfl (by decide) rfl fun _ hS => ?_
  repeat refine And.intro qNa0 ?_
  first | refine hS _ _ _ ?_ | (refine whole_yes qNa0 ?_; refine hS _ _ _ ?_) | (refine whole_sub ?_; refine hS _ _ _ ?_)
  clear hS
  refine s_step rfl (by decide) rfl fun _ hS => ?_
  repeat first | refine And.intro qNa0 ?_ | refine whole_yes qNa0 ?_ | refine whole_sub ?_
  refine ⟨a, c, (madeL a b 5 5).1, (madeL a b 5 5).2, rfl, ⟨by omega, by omega, by omega, by omega⟩, ?_⟩
  rw [mergeL, if_neg (fun h => hbad h.1)]
  repeat refine And.intro qNa0 ?_
  first | refine hS _ _ _ ?_ | (intro cap2 hcap2; refine hS _ _ _ ?_)
  clear hS
  refine s_step rfl (by decide) rfl fun _ hS => ?_
  refine hS _ _ _ ?_
  clear hS
  refine s_step rfl (by decide) rfl fun _ hS => ?_
  repeat refine And.intro qNa0 ?_
  refine hS _ _ _ ?_
  clear hS
  refine s_step rfl (by decide) rfl fun _ hS => ?_
  repeat refine And.intro qNa0 ?_
  refine hS _ _ _ ?_
  clear hS
  refine s_step rfl (by decide) rfl fun _ hS => ?_
  repeat refine And.intro qNa0 ?_
  refine hS _ _ _ ?_
  clear hS
  refine s_step0 rfl rfl fun _ hS => ?_
  repeat refine And.intro qNa0 ?_
  first | refine hS _ _ _ ?_ | (refine splice_full qNa0 ?_; refine hS _ _ _ ?_)
  clear hS
  refine s_step rfl (by decide) rfl fun _ hS => ?_
  refine hS _ _ _ ?_
  clear hS
  refine s_nil ?_
  refine hK17 _ _ _ ?_
  refine hK16 _ _ _ ?_
  refine seq_k fun _ hK18 => ?_
  refine region_k x1_ok fun _ hK19 => ?_
  refine s_step rfl (by decide) rfl fun _ hS => ?_
  repeat refine And.intro qNa0 ?_
  first | refine hS _ _ _ ?_ | (refine whole_yes qNa0 ?_; refine hS _ _ _ ?_) | (refine whole_sub ?_; refine hS _ _ _ ?_)
  clear hS
  refine s_step rfl (by decide) rfl fun _ hS => ?_
  repeat refine And.intro qNa0 ?_
  first | refine hS _ _ _ ?_ | (refine whole_yes qNa0 ?_; refine hS _ _ _ ?_) | (refine whole_sub ?_; refine hS _ _ _ ?_)
  clear hS
  refine s_step rfl (by decide) rfl fun _ hS => ?_
  repeat first | refine And.intro qNa0 ?_ | refine whole_yes qNa0 ?_ | refine whole_sub ?_
  refine ⟨a, c, a, c, rfl, ⟨by omega, by omega, by omega, by omega⟩, ?_⟩
  rw [sumL, if_neg (fun h => hbad h.1)]
  repeat refine And.intro qNa0 ?_
  first | refine hS _ _ _ ?_ | (intro cap2 hcap2; refine hS _ _ _ ?_)
  clear hS
  refine s_step rfl (by decide) rfl fun _ hS => ?_
  refine hS _ _ _ ?_
  clear hS
  refine s_step rfl (by decide) rfl fun _ hS => ?_
  repeat refine And.intro qNa0 ?_
  refine hS _ _ _ ?_
  clear hS
  refine s_step rfl (by decide) rfl fun _ hS => ?_
  repeat refine And.intro qNa0 ?_
  refine hS _ _ _ ?_
  clear hS
  refine s_step rfl (by decide) rfl fun _ hS => ?_
  repeat refine And.intro qNa0 ?_
  refine hS _ _ _ ?_
  clear hS
  refine s_step0 rfl rfl fun _ hS => ?_
  repeat refine And.intro qNa0 ?_
  first | refine hS _ _ _ ?_ | (refine splice_full qNa0 ?_; refine hS _ _ _ ?_)
  clear hS
  refine s_step rfl (by decide) rfl fun _ hS => ?_
  refine hS _ _ _ ?_
  clear hS
  refine s_nil ?_
  refine hK19 _ _ _ ?_
  refine hK18 _ _ _ ?_
  refine seq_k fun _ hK20 => ?_
  refine region_k x1_ok fun _ hK21 => ?_
  refine s_step rfl (by decide) rfl fun _ hS => ?_
  refine hS _ _ _ ?_
  clear hS
  refine s_step rfl (by decide) rfl fun _ hS => ?_
  refine s_split hS (fun hb1 => ?_) (fun hb1 => ?_)
  rotate_left 1
  ·exfalso; first | (simp at hb1; done) | exact absurd hb1 (by decide)
  clear hS
  refine s_guard (b := true) rfl (by decide) rfl rfl (fun _ _ hS => ?_) (fun e => absurd e (by decide))
  repeat refine And.intro qNa3 ?_
  first | refine hS _ _ _ ?_ | (refine whole_yes qNa3 ?_; refine hS _ _ _ ?_) | (refine whole_sub ?_; refine hS _ _ _ ?_)
  clear hS
  refine s_guard (b := true) rfl (by decide) rfl rfl (fun _ _ hS => ?_) (fun e => absurd e (by decide))
  repeat first | refine And.intro qNa3 ?_ | refine whole_yes qNa3 ?_ | refine whole_sub ?_
  refine ⟨a, c, rfl, ⟨by omega, by omega⟩, ?_⟩
  rw [decide_eq_false hbad]
  repeat refine And.intro qNa3 ?_
  first | refine hS _ _ _ ?_ | (intro cap3 hcap3; refine hS _ _ _ ?_)
  clear hS
  refine s_guard (b := true) rfl (by decide) rfl rfl (fun _ _ hS => ?_) (fun e => absurd e (by decide))
  refine hS _ _ _ ?_
  clear hS
  refine s_step rfl (by decide) rfl fun _ hS => ?_
  refine hS _ _ _ ?_
  clear hS
  refine s_step rfl (by decide) rfl fun _ hS => ?_
  refine s_split hS (fun hb6 => ?_) (fun hb6 => ?_)
  rotate_left 1
  ·exfalso; first | (simp at hb6; done) | exact absurd hb6 (by decide)
  clear hS
  refine s_guard (b := true) rfl (by decide) rfl rfl (fun _ _ hS => ?_) (fun e => absurd e (by decide))
  repeat refine And.intro qNa3 ?_
  first | refine hS _ _ _ ?_ | (refine whole_yes qNa3 ?_; refine hS _ _ _ ?_) | (refine whole_sub ?_; refine hS _ _ _ ?_)
  clear hS
  refine s_guard (b := true) rfl (by decide) rfl rfl (fun _ _ hS => ?_) (fun e => absurd e (by decide))
  refine hS _ _ _ ?_
  clear hS
  refine s_guard (b := true) rfl (by decide) rfl rfl (fun _ _ hS => ?_) (fun e => absurd e (by decide))
  repeat first | refine And.intro qNa3 ?_ | refine whole_yes qNa3 ?_ | refine whole_sub ?_
  refine ⟨a, c, n, rfl, ⟨by omega, by omega, by omega⟩, ?_⟩
  rw [show hasL a c n = false by simp [hasL, validL, hbad]]
  repeat refine And.intro qNa3 ?_
  first | refine hS _ _ _ ?_ | (intro cap9 hcap9; refine hS _ _ _ ?_)
  clear hS
  refine s_guard (b := true) rfl (by decide) rfl rfl (fun _ _ hS => ?_) (fun e => absurd e (by decide))
  refine hS _ _ _ ?_
  clear hS
  refine s_step rfl (by decide) rfl fun _ hS => ?_
  refine hS _ _ _ ?_
  clear hS
  refine s_step rfl (by decide) rfl fun _ hS => ?_
  refine s_split hS (fun hb12 => ?_) (fun hb12 => ?_)
  rotate_left 1
  ·exfalso; first | (simp at hb12; done) | exact absurd hb12 (by decide)
  clear hS
  refine s_guard (b := true) rfl (by decide) rfl rfl (fun _ _ hS => ?_) (fun e => absurd e (by decide))
  repeat refine And.intro qNa3 ?_
  first | refine hS _ _ _ ?_ | (refine whole_yes qNa3 ?_; refine hS _ _ _ ?_) | (refine whole_sub ?_; refine hS _ _ _ ?_)
  clear hS
  refine s_guard (b := true) rfl (by decide) rfl rfl (fun _ _ hS => ?_) (fun e => absurd e (by decide))
  refine hS _ _ _ ?_
  clear hS
  refine s_guard (b := true) rfl (by decide) rfl rfl (fun _ _ hS => ?_) (fun e => absurd e (by decide))
  repeat first | refine And.intro qNa3 ?_ | refine whole_yes qNa3 ?_ | refine whole_sub ?_
  refine ⟨a, c, n, rfl, ⟨by omega, by omega, by omega, by omega⟩, ?_⟩
  rw [show leastL a c n = -1 by rw [leastL, if_neg (fun h => hbad h.1)]]
  repeat refine And.intro qNa3 ?_
  first | refine hS _ _ _ ?_ | (intro cap15 hcap15; refine hS _ _ _ ?_)
  clear hS
  refine s_guard (b := true) rfl (by decide) rfl rfl (fun _ _ hS => ?_) (fun e => absurd e (by decide))
  repeat refine And.intro qNa3 ?_
  refine hS _ _ _ ?_
  clear hS
  refine s_step rfl (by decide) rfl fun _ hS => ?_
  refine hS _ _ _ ?_
  clear hS
  refine s_step rfl (by decide) rfl fun _ hS => ?_
  refine s_split hS (fun hb18 => ?_) (fun hb18 => ?_)
  rotate_left 1
  ·exfalso; first | (simp at hb18; done) | exact absurd hb18 (by decide)
  clear hS
  refine s_guard (b := true) rfl (by decide) rfl rfl (fun _ _ hS => ?_) (fun e => absurd e (by decide))
  refine hS _ _ _ ?_
  clear hS
  refine s_guard (b := true) rfl (by decide) rfl rfl (fun _ _ hS => ?_) (fun e => absurd e (by decide))
  repeat refine And.intro qNa3 ?_
  refine hS _ _ _ ?_
  clear hS
  refine s_step rfl (by decide) rfl fun _ hS => ?_
  refine hS _ _ _ ?_
  clear hS
  refine s_step rfl (by decide) rfl fun _ hS => ?_
  refine s_split hS (fun hb22 => ?_) (fun hb22 => ?_)
  rotate_left 1
  ·exfalso; first | (simp at hb22; done) | exact absurd hb22 (by decide)
  clear hS
  refine s_guard (b := true) rfl (by decide) rfl rfl (fun _ _ hS => ?_) (fun e => absurd e (by decide))
  refine hS _ _ _ ?_
  clear hS
  refine s_guard (b := true) rfl (by decide) rfl rfl (fun _ _ hS => ?_) (fun e => absurd e (by decide))
  repeat refine And.intro qNa3 ?_
  refine hS _ _ _ ?_
  clear hS
  refine s_step rfl (by decide) rfl fun _ hS => ?_
  refine hS _ _ _ ?_
  clear hS
  refine s_step rfl (by decide) rfl fun _ hS => ?_
  refine s_split hS (fun hb26 => ?_) (fun hb26 => ?_)
  rotate_left 1
  ·exfalso; first | (simp at hb26; done) | exact absurd hb26 (by decide)
  clear hS
  refine s_guard (b := true) rfl (by decide) rfl rfl (fun _ _ hS => ?_) (fun e => absurd e (by decide))
  refine hS _ _ _ ?_
  clear hS
  refine s_guard (b := true) rfl (by decide) rfl rfl (fun _ _ hS => ?_) (fun e => absurd e (by decide))
  repeat refine And.intro qNa3 ?_
  refine hS _ _ _ ?_
  clear hS
  refine s_step rfl (by decide) rfl fun _ hS => ?_
  refine hS _ _ _ ?_
  clear hS
  refine s_step rfl (by decide) rfl fun _ hS => ?_
  refine s_split hS (fun hb30 => ?_) (fun hb30 => ?_)
  rotate_left 1
  ·exfalso; first | (simp at hb30; done) | exact absurd hb30 (by decide)
  clear hS
  refine s_guard (b := true) rfl (by decide) rfl rfl (fun _ _ hS => ?_) (fun e => absurd e (by decide))
  refine hS _ _ _ ?_
  clear hS
  refine s_guard (b := true) rfl (by decide) rfl rfl (fun _ _ hS => ?_) (fun e => absurd e (by decide))
  repeat refine And.intro qNa3 ?_
  refine hS _ _ _ ?_
  clear hS
  refine s_step rfl (by decide) rfl fun _ hS => ?_
  refine hS _ _ _ ?_
  clear hS
  refine s_step rfl (by decide) rfl fun _ hS => ?_
  refine s_split hS (fun hb34 => ?_) (fun hb34 => ?_)
  rotate_left 1
  ·exfalso; first | (simp at hb34; done) | exact absurd hb34 (by decide)
  clear hS
  refine s_guard (b := true) rfl (by decide) rfl rfl (fun _ _ hS => ?_) (fun e => absurd e (by decide))
  repeat refine And.intro qNa3 ?_
  refine hS _ _ _ ?_
  clear hS
  refine s_guard (b := true) rfl (by decide) rfl rfl (fun _ _ hS => ?_) (fun e => absurd e (by decide))
  repeat refine And.intro qNa3 ?_
  first | refine hS _ _ _ ?_ | (refine whole_yes qNa3 ?_; refine hS _ _ _ ?_) | (refine whole_sub ?_; refine hS _ _ _ ?_)
  clear hS
  refine s_guard (b := true) rfl (by decide) rfl rfl (fun _ _ hS => ?_) (fun e => absurd e (by decide))
  repeat refine And.intro qNa3 ?_
  refine hS _ _ _ ?_
  clear hS
  refine s_guard (b := true) rfl (by decide) rfl rfl (fun _ _ hS => ?_) (fun e => absurd e (by decide))
  repeat refine And.intro qNa3 ?_
  refine hS _ _ _ ?_
  clear hS
  refine s_guard (b := true) rfl (by decide) rfl rfl (fun _ _ hS => ?_) (fun e => absurd e (by decide))
  repeat refine And.intro qNa3 ?_
  first | refine hS _ _ _ ?_ | (refine whole_yes qNa3 ?_; refine hS _ _ _ ?_) | (refine whole_sub ?_; refine hS _ _ _ ?_)
  clear hS
  refine s_guard (b := true) rfl (by decide) rfl rfl (fun _ _ hS => ?_) (fun e => absurd e (by decide))
  repeat refine And.intro qNa3 ?_
  refine hS _ _ _ ?_
  clear hS
  refine s_guard (b := true) rfl (by decide) rfl rfl (fun _ _ hS => ?_) (fun e => absurd e (by decide))
  repeat refine And.intro qNa3 ?_
  refine hS _ _ _ ?_
  clear hS
  refine s_guard (b := true) rfl (by decide) rfl rfl (fun _ _ hS => ?_) (fun e => absurd e (by decide))
  repeat refine And.intro qNa3 ?_
  refine hS _ _ _ ?_
  clear hS
  refine s_guard (b := true) rfl (by decide) rfl rfl (fun _ _ hS => ?_) (fun e => absurd e (by decide))
  repeat refine And.intro qNa3 ?_
  first | refine hS _ _ _ ?_ | (refine whole_yes qNa3 ?_; refine hS _ _ _ ?_) | (refine whole_sub ?_; refine hS _ _ _ ?_)
  clear hS
  refine s_guard (b := true) rfl (by decide) rfl rfl (fun _ _ hS => ?_) (fun e => absurd e (by decide))
  repeat refine And.intro qNa3 ?_
  refine hS _ _ _ ?_
  clear hS
  refine s_guard (b := true) rfl (by decide) rfl rfl (fun _ _ hS => ?_) (fun e => absurd e (by decide))
  repeat refine And.intro qNa3 ?_
  refine hS _ _ _ ?_
  clear hS
  refine s_guard (b := true) rfl (by decide) rfl rfl (fun _ _ hS => ?_) (fun e => absurd e (by decide))
  repeat refine And.intro qNa3 ?_
  refine hS _ _ _ ?_
  clear hS
  refine s_guard (b := true) rfl (by decide) rfl rfl (fun _ _ hS => ?_) (fun e => absurd e (by decide))
  repeat refine And.intro qNa3 ?_
  first | refine hS _ _ _ ?_ | (refine whole_yes qNa3 ?_; refine hS _ _ _ ?_) | (refine whole_sub ?_; refine hS _ _ _ ?_)
  clear hS
  refine s_guard (b := true) rfl (by decide) rfl rfl (fun _ _ hS => ?_) (fun e => absurd e (by decide))
  repeat refine And.intro qNa3 ?_
  refine hS _ _ _ ?_
  clear hS
  refine s_guard (b := true) rfl (by decide) rfl rfl (fun _ _ hS => ?_) (fun e => absurd e (by decide))
  repeat refine And.intro qNa3 ?_
  refine hS _ _ _ ?_
  clear hS
  refine s_guard (b := true) rfl (by decide) rfl rfl (fun _ _ hS => ?_) (fun e => absurd e (by decide))
  repeat refine And.intro qNa3 ?_
  refine hS _ _ _ ?_
  clear hS
  refine s_step rfl (by decide) rfl fun _ hS => ?_
  refine hS _ _ _ ?_
  clear hS
  refine s_step rfl (by decide) rfl fun _ hS => ?_
  refine hS _ _ _ ?_
  clear hS
  refine s_nil ?_
  refine hK21 _ _ _ ?_
  refine hK20 _ _ _ ?_
  refine WP_ret (Done_flat x1_ok (fun _ _ h => h) (by first | rfl | assumption) [.tmp 6] rfl ?_)
  repeat refine And.intro (by first | omega | exact trivial | rfl | (simp <;> omega)) ?_
  try refine ite_yes (by first | omega | exact trivial | rfl | (simp <;> omega)) ?_
  show _ = _
  rfl


end Go.Proofs.YtpfncffapgkjaaaDoor
