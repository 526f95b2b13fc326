/- The reference: the lengths of the words. -/
import Derived.Test.YtpfncffapgkjaaaDoorAb14
import Derived.Test.YtpfncffapgkjaaaDoorAb21
import Derived.Test.YtpfncffapgkjaaaDoorCtx
import Derived.Test.YtpfncffapgkjaaaDoorLa
import Derived.Test.YtpfncffapgkjaaaDoorLd
import Derived.Test.YtpfncffapgkjaaaDoorLi
import Derived.Test.YtpfncffapgkjaaaDoorLm
import Derived.Test.YtpfncffapgkjaaaDoorLn
import Derived.Test.YtpfncffapgkjaaaDoorLp
import Derived.Test.YtpfncffapgkjaaaDoorLq
import Derived.Test.YtpfncffapgkjaaaDoorLs
import Derived.Test.YtpfncffapgkjaaaDoorLt
namespace Go.Proofs.YtpfncffapgkjaaaDoor
set_option linter.unusedVariables false
open Go.Ab Go.RowKit

theorem qLu0 {a : Prop} (h : a := by first | omega | exact trivial | rfl | (simp only [len_u8s, len_u32s, len_u64s, len_ints, len_bools, len_cells]; omega) | exact inR_i64.mpr ⟨by omega, by omega⟩ | (simp <;> omega) | (refine And.intro ?_ ?_ <;> exact trivial) | exact ⟨trivial, trivial, trivial⟩ | decide | (refine And.intro rfl ?_; (repeat first | exact trivial | refine And.intro rfl ?_); done) | exact Nat.succ_pos _ | exact Nat.le_refl _ | (refine And.intro trivial ?_; (repeat first | exact trivial | refine And.intro trivial ?_); done)) : a := h
theorem qLu1 {a : Prop} (h : a := by first | omega | exact trivial | rfl | (simp only [len_u8s, len_u32s, len_u64s, len_ints, len_bools, len_cells]; omega) | exact inR_i64.mpr ⟨by omega, by omega⟩ | (simp <;> omega) | (simp <;> omega) | (refine And.intro ?_ ?_ <;> exact trivial) | exact ⟨trivial, trivial, trivial⟩ | decide | (refine And.intro rfl ?_; (repeat first | exact trivial | refine And.intro rfl ?_); done) | exact Nat.succ_pos _ | exact Nat.le_refl _ | (refine And.intro trivial ?_; (repeat first | exact trivial | refine And.intro trivial ?_); done)) : a := h
theorem qLu2 {a : Prop} (h : a := by first | omega | exact trivial | rfl | (simp only [len_u8s, len_u32s, len_u64s, len_ints, len_bools, len_cells]; omega) | exact inR_i64.mpr ⟨by omega, by omega⟩ | (simp [setsC_length, setsL_length] <;> omega) | exact isD_sets _ | (simp <;> omega) | (refine And.intro ?_ ?_ <;> exact trivial) | exact ⟨trivial, trivial, trivial⟩ | decide | (refine And.intro rfl ?_; (repeat first | exact trivial | refine And.intro rfl ?_); done) | exact Nat.succ_pos _ | exact Nat.le_refl _ | (refine And.intro trivial ?_; (repeat first | exact trivial | refine And.intro trivial ?_); done)) : a := h
theorem qLu3 {a : Prop} (h : a := by first | omega | exact trivial | rfl | (simp only [len_u8s, len_u32s, len_u64s, len_ints, len_bools, len_cells]; omega) | exact inR_i64.mpr ⟨by omega, by omega⟩ | (simp <;> omega) | exact isD_sets _ | (simp <;> omega) | (refine And.intro ?_ ?_ <;> exact trivial) | exact ⟨trivial, trivial, trivial⟩ | decide | (refine And.intro rfl ?_; (repeat first | exact trivial | refine And.intro rfl ?_); done) | exact Nat.succ_pos _ | exact Nat.le_refl _ | (refine And.intro trivial ?_; (repeat first | exact trivial | refine And.intro trivial ?_); done)) : a := h
theorem qLu4 {a : Prop} (h : a := by first | omega | exact trivial | rfl | (simp only [len_u8s, len_u32s, len_u64s, len_ints, len_bools, len_cells]; omega) | exact inR_i64.mpr ⟨by omega, by omega⟩ | (simp [setsC_length, setsL_length] <;> omega) | (refine ⟨by omega, by omega, ?_⟩; exact And.intro trivial trivial) | (simp <;> omega) | (refine And.intro ?_ ?_ <;> exact trivial) | exact ⟨trivial, trivial, trivial⟩ | decide | (refine And.intro rfl ?_; (repeat first | exact trivial | refine And.intro rfl ?_); done) | exact Nat.succ_pos _ | exact Nat.le_refl _ | (refine And.intro trivial ?_; (repeat first | exact trivial | refine And.intro trivial ?_); done)) : a := h

theorem uLu0 {a : Prop} (h : a := by
    repeat' (first | exact trivial | refine And.intro ?_ ?_ | rfl | omega | decide | (show (_ : Nat) < _; decide) | exact low_nil' | refine low_cons' ?_ ?_ | exact Nat.le_refl _ | exact Nat.succ_pos _)
    all_goals first | omega | exact low_rows _ | exact low_sets _ | exact allTo_sets _ | (show allTo _ _ _; rw [hset]; exact allTo_sets _) | exact low_cons' trivial (low_cons' trivial (low_cons' trivial low_nil')) | (rw [if_pos ⟨rfl, by simp⟩]; rfl) | (show (_ : List Bool) = _; first | rfl | (simp [Dfa.rs]; done)) | (simp; done) | (simp <;> omega) | skip) : a := h

def setsL (d : Dfa) (k : Nat) : List (List Bool) := (List.range k).map d.rs
@[simp] theorem setsL_length (d : Dfa) (k : Nat) : (setsL d k).length = k := by simp [setsL]
theorem setsL_get (d : Dfa) {k i : Nat} (h : i < k) : (setsL d k).getD i [] = d.rs i := by simp [setsL, List.getD_eq_getElem?_getD, h]
theorem setsL_step (d : Dfa) (k : Nat) : setsL d k ++ [d.rs k] = setsL d (k + 1) := by simp [setsL, List.range_succ]
theorem setsL_mem {d : Dfa} {k : Nat} {b : List Bool} (h : b ∈ setsL d k) : b.length = d.next.length := by
  obtain ⟨i, _, rfl⟩ := List.mem_map.1 h
  exact rs_length d i
theorem tabL_congr {g g' : Nat → Bool} {a p : Nat} (h : ∀ n, n < a + p → g n = g' n) : tabL g a p = tabL g' a p := by
  have h1 : preL g a (a + p) = preL g' a (a + p) := List.map_congr_left fun i hi => h i (by have := List.mem_range.1 hi; omega)
  have h2 : postL g a (a + p) = postL g' a (a + p) := List.map_congr_left fun i hi => h (a + i) (by have := List.mem_range.1 hi; omega)
  rw [tabL, tabL, h1, h2]
noncomputable def u1 : Ctx := { P := Tryd.prog, ty := ty, glob := gl, fs := [(48, .flat validR3S), (49, .flat equalRS), (50, .data readS), (35, .data boundedS), (51, .data stepRS)] }
theorem u1_ok : u1.OK := ⟨tyOK, ⟨⟨enters_mk Tryd.func48 (by kernel_rfl) rfl, validR3_ok⟩, ⟨enters_mk Tryd.func49 (by kernel_rfl) rfl, equalR_ok⟩, ⟨enters_mk Tryd.func50 (by kernel_rfl) rfl, read_ok⟩, ⟨enters_mk Tryd.func35 (by kernel_rfl) rfl, bounded_ok⟩, ⟨enters_mk Tryd.func51 (by kernel_rfl) rfl, stepR_ok⟩, trivial⟩, mixed⟩
@[simp] theorem u1_ty : u1.ty = ty := rfl

def ofRS : QSpec := fun vs K => ∃ d : Dfa, vs = [dfaV d] ∧ d.wf ∧ d.next.length ≤ 8 ∧ K (outV (ofRL d))
set_option maxHeartbeats 2000000 in
theorem ofR_ok : DataOK Tryd.prog gl 31 ofRS := by
 refine data_of (Γ := u1) (N := 44) Tryd.func31 rfl rfl fun vs K h => ?_
 obtain ⟨d, rfl, hw, h8, h⟩ := h
 refine ⟨_, h, low_outV, by simp, fun w I => ?_⟩
 refine seq_k fun _ hK1 => ?_
 refine region_k u1_ok fun _ hK2 => ?_
 refine s_step rfl (by decide) rfl fun _ hS => ?_
 repeat refine And.intro qLu0 ?_
 refine hS _ _ _ ?_
 clear hS
 refine s_step rfl (by decide) rfl fun _ hS => ?_
 repeat refine And.intro qLu0 ?_
 refine hS _ _ _ ?_
 clear hS
 refine s_step rfl (by decide) rfl fun _ hS => ?_
 refine hS _ _ _ ?_
 clear hS
 refine s_nil ?_
 refine hK2 _ _ _ ?_
 refine hK1 _ _ _ ?_
 refine seq_k fun _ hK3 => ?_
 refine seq_k fun _ hK4 => ?_
 refine region_k u1_ok fun _ hK5 => ?_
 refine s_step rfl (by decide) rfl fun _ hS => ?_
 repeat refine And.intro qLu0 ?_
 first | refine hS _ _ _ ?_ | (refine whole_yes qLu0 ?_; refine hS _ _ _ ?_) | (refine whole_sub ?_; refine hS _ _ _ ?_)
 clear hS
 refine s_step rfl (by decide) rfl fun _ hS => ?_
 repeat first | refine And.intro qLu0 ?_ | refine whole_yes qLu0 ?_ | refine whole_sub ?_
 refine ⟨d, rfl, hw, ?_⟩
 repeat refine And.intro qLu0 ?_
 first | refine hS _ _ _ ?_ | (intro cap1 hcap1; refine hS _ _ _ ?_)
 clear hS
 refine s_step rfl (by decide) rfl fun _ hS => ?_
 refine hS _ _ _ ?_
 clear hS
 refine s_nil ?_
 refine hK5 _ _ _ ?_
 refine hK4 _ _ _ ?_
 refine WP_cond (b := _) rfl (fun h_t9 => ?_) (fun h_t9 => ?_)
 ·try try simp only [Bool.not_eq_eq_eq_not, Bool.not_true] at h_t9
  refine seq_k fun _ hK6 => ?_
  refine region_k u1_ok fun _ hK7 => ?_
  refine s_step rfl (by decide) rfl fun _ hS => ?_
  repeat refine And.intro qLu0 ?_
  refine hS _ _ _ ?_
  clear hS
  refine s_step0 rfl rfl fun _ hS => ?_
  repeat refine And.intro qLu0 ?_
  first | refine hS _ _ _ ?_ | (refine splice_full qLu0 ?_; refine hS _ _ _ ?_)
  clear hS
  refine s_step rfl (by decide) rfl fun _ hS => ?_
  refine hS _ _ _ ?_
  clear hS
  refine s_nil ?_
  refine hK7 _ _ _ ?_
  refine hK6 _ _ _ ?_
  refine WP_ret (Done_data u1_ok (fun _ _ h => h) (low_outV) [] [.cell 2 24, .tmp 3] rfl ?_)
  rw [ofRL, if_neg (by simpa using h_t9)]
  repeat' (first | exact trivial | refine And.intro ?_ ?_ | rfl | omega | decide | (show (_ : Nat) < _; decide) | exact low_nil' | refine low_cons' ?_ ?_ | exact Nat.le_refl _ | exact Nat.succ_pos _)
 ·try try simp only [Bool.not_eq_eq_eq_not, Bool.not_false] at h_t9
  refine WP_skip ?_
  refine hK3 _ _ _ ?_
  refine seq_k fun _ hK8 => ?_
  have hv : validRD d = true := by simpa using h_t9
  obtain ⟨⟨hb1, hb2, hb3⟩, hrows⟩ := validRD_spec hv
  have hw' := hw
  obtain ⟨hw1, hw2, hw3, hw4, hw5⟩ := hw'
  refine region_k u1_ok fun _ hK9 => ?_
  refine s_step rfl (by decide) rfl fun _ hS => ?_
  repeat refine And.intro qLu0 ?_
  refine hS _ _ _ ?_
  clear hS
  refine s_step rfl (by decide) rfl fun _ hS => ?_
  refine hS _ _ _ ?_
  clear hS
  refine s_nil ?_
  refine hK9 _ _ _ ?_
  refine hK8 _ _ _ ?_
  refine seq_k fun _ hK10 => ?_
  refine region_k u1_ok fun _ hK11 => ?_
  refine s_step rfl (by decide) rfl fun _ hS => ?_
  repeat refine And.intro qLu0 ?_
  refine hS _ _ _ ?_
  clear hS
  refine s_step rfl (by decide) rfl fun _ hS => ?_
  repeat refine And.intro qLu0 ?_
  first | refine hS _ _ _ ?_ | (refine whole_yes qLu0 ?_; refine hS _ _ _ ?_) | (refine whole_sub ?_; refine hS _ _ _ ?_)
  clear hS
  refine s_step rfl (by decide) rfl fun _ hS => ?_
  repeat refine And.intro qLu0 ?_
  refine hS _ _ _ ?_
  clear hS
  refine s_step rfl (by decide) rfl fun _ hS => ?_
  repeat refine And.intro qLu0 ?_
  refine hS _ _ _ ?_
  clear hS
  refine s_step rfl (by decide) rfl fun _ hS => ?_
  refine hS _ _ _ ?_
  clear hS
  refine s_nil ?_
  refine hK11 _ _ _ ?_
  refine hK10 _ _ _ ?_
  refine seq_k fun _ hK12 => ?_
  refine WP_le (is := []) (ρ := id) (E' := [(1, .c (.ptr 0 0)), (2, .c (.ptr 1 0)), (4, .c (.slice 2 0 0 0)), (5, .c (.slice 3 0 d.next.length d.next.length))]) (H' := [(0, .own 40 (dfaC d) 3), (1, .own 24 (.cells [.nils, .nils]) 2), (2, .own 22 (.cells []) 0), (3, .own 4 (.bools (List.replicate d.next.length false)) d.next.length)]) (n' := 4) ⟨?_, ?_, (by decide : List.Nodup ([0, 1, 2, 3] : List Nat)), ?_, ?_, ⟨Nat.zero_le _, fun i hi => absurd hi (Nat.not_lt_zero i)⟩⟩ ?_
  ·exact uLu0
  ·exact uLu0
  ·exact uLu0
  ·exact uLu0
  refine region_k u1_ok fun _ hK13 => ?_
  refine s_step rfl (by decide) rfl fun _ hS => ?_
  refine hS _ _ _ ?_
  clear hS
  refine s_step rfl (by decide) rfl fun _ hS => ?_
  repeat refine And.intro qLu1 ?_
  refine hS _ _ _ ?_
  clear hS
  refine s_step0 rfl rfl fun _ hS => ?_
  repeat refine And.intro qLu1 ?_
  first | refine hS _ _ _ ?_ | (refine splice_full qLu1 ?_; refine hS _ _ _ ?_)
  clear hS
  refine s_nil ?_
  refine hK13 _ _ _ ?_
  refine hK12 _ _ _ ?_
  refine WP_block ?_
  refine WP_loop (α := Nat × Nat) (fun k => [(1, .c (.ptr 0 0)), (2, .c (.ptr 1 0)), (4, .c (.slice 2 0 k.1 k.2)), (5, .c (.ds (d.rs k.1).length (.bools (d.rs k.1))))]) (fun k => [(0, .own 40 (dfaC d) 3), (1, .own 24 (.cells [.nils, .nils]) 2), (2, .own 22 (.cells (setsC (setsL d k.1))) k.2)]) 3 (fun k => k.1 ≤ 256 ∧ (∀ i j, i < j → j < k.1 → d.rs i ≠ d.rs j) ∧ findRep d.rs (257 - k.1) k.1 = findRep d.rs 257 0) (fun k => 256 - k.1) ?_ ?_
  ·refine Done_some [3] id (0, 0) ⟨Nat.zero_le _, fun i j _ h => absurd h (Nat.not_lt_zero j), rfl⟩ ⟨?_, ?_, (by decide : List.Nodup ([0, 1, 2] : List Nat)), ?_, ?_, ⟨Nat.zero_le _, fun i hi => absurd hi (Nat.not_lt_zero i)⟩⟩
   ·exact uLu0
   ·exact uLu0
   ·exact uLu0
   ·exact uLu0
  ·intro k hk
   refine WP_block ?_
   refine seq_k fun _ hK14 => ?_
   refine seq_k fun _ hK15 => ?_
   refine region_k u1_ok fun _ hK16 => ?_
   refine s_step rfl (by decide) rfl fun _ hS => ?_
   refine hS _ _ _ ?_
   clear hS
   refine s_nil ?_
   refine hK16 _ _ _ ?_
   refine hK15 _ _ _ ?_
   refine WP_block ?_
   refine WP_loop (α := Nat) (fun i => [(1, .c (.ptr 0 0)), (2, .c (.ptr 1 0)), (4, .c (.slice 2 0 k.1 k.2)), (5, .c (.ds (d.rs k.1).length (.bools (d.rs k.1)))), (6, .c (.int .i64 i))]) (fun i => [(0, .own 40 (dfaC d) 3), (1, .own 24 (.cells [.nils, .nils]) 2), (2, .own 22 (.cells (setsC (setsL d k.1))) k.2)]) 3 (fun i => i ≤ k.1 ∧ ∀ j, j < i → d.rs j ≠ d.rs k.1) (fun i => k.1 - i) ?_ ?_
   ·refine Done_some [] id 0 ⟨Nat.zero_le _, fun j h => absurd h (Nat.not_lt_zero j)⟩ ⟨?_, ?_, (by decide : List.Nodup ([0, 1, 2] : List Nat)), ?_, ?_, ⟨Nat.zero_le _, fun i hi => absurd hi (Nat.not_lt_zero i)⟩⟩
    ·exact uLu0
    ·exact uLu0
    ·exact uLu0
    ·exact uLu0
   ·intro i hi
    refine seq_k fun _ hK17 => ?_
    refine seq_k fun _ hK18 => ?_
    refine region_k u1_ok fun _ hK19 => ?_
    refine s_step rfl (by decide) rfl fun _ hS => ?_
    refine hS _ _ _ ?_
    clear hS
    refine s_step rfl (by decide) rfl fun _ hS => ?_
    refine hS _ _ _ ?_
    clear hS
    refine s_step rfl (by decide) rfl fun _ hS => ?_
    repeat refine And.intro qLu0 ?_
    refine hS _ _ _ ?_
    clear hS
    refine s_step rfl (by decide) rfl fun _ hS => ?_
    repeat refine And.intro qLu0 ?_
    refine hS _ _ _ ?_
    clear hS
    refine s_nil ?_
    refine hK19 _ _ _ ?_
    refine hK18 _ _ _ ?_
    refine WP_cond (b := _) rfl (fun h_t21 => ?_) (fun h_t21 => ?_)
    ·try try simp only [decide_eq_true_eq] at h_t21
     refine WP_skip ?_
     refine hK17 _ _ _ ?_
     refine seq_k fun _ hK20 => ?_
     refine WP_block ?_
     refine seq_k fun _ hK21 => ?_
     have hik : i < k.1 := by omega
     refine region_k u1_ok fun _ hK22 => ?_
     refine s_step rfl (by decide) rfl fun _ hS => ?_
     refine hS _ _ _ ?_
     clear hS
     refine s_step rfl (by decide) rfl fun _ hS => ?_
     refine hS _ _ _ ?_
     clear hS
     refine s_step rfl (by decide) rfl fun _ hS => ?_
     repeat refine And.intro qLu2 ?_
     refine hS _ _ _ ?_
     clear hS
     refine s_step rfl (by decide) rfl fun _ hS => ?_
     repeat refine And.intro qLu2 ?_
     rw [show 0 + (i : Int).toNat * 1 = i by omega, get_sets (by simp; omega), setsL_get d hik]
     first | refine hS _ _ _ ?_ | (refine whole_yes qLu2 ?_; refine hS _ _ _ ?_) | (refine whole_sub ?_; refine hS _ _ _ ?_)
     clear hS
     refine s_step rfl (by decide) rfl fun _ hS => ?_
     refine hS _ _ _ ?_
     clear hS
     refine s_step rfl (by decide) rfl fun _ hS => ?_
     repeat first | refine And.intro qLu2 ?_ | refine whole_yes qLu2 ?_ | refine whole_sub ?_
     refine ⟨d.rs i, d.rs k.1, rfl, ⟨by simp; omega, by simp; omega, by simp⟩, ?_⟩
     repeat refine And.intro qLu2 ?_
     first | refine hS _ _ _ ?_ | (intro cap5 hcap5; refine hS _ _ _ ?_)
     clear hS
     refine s_nil ?_
     refine hK22 _ _ _ ?_
     refine hK21 _ _ _ ?_
     refine WP_cond (b := _) rfl (fun h_t29 => ?_) (fun h_t29 => ?_)
     ·try try simp only [decide_eq_true_eq] at h_t29
      refine seq_k fun _ hK23 => ?_
      have hrep : findRep d.rs 257 0 = some (i, k.1) := by
       rw [← hk.2.2, show 257 - k.1 = (256 - k.1) + 1 by omega]
       exact findRep_found hik h_t29 hk.2.1
      have hO : ofRL d = tabOut (tabL (fun n => accR d ((setsL d k.1).getD n [])) i ((setsL d k.1).length - i)) := by
       rw [ofRL, if_pos hv, hrep, setsL_length]
       exact congrArg tabOut (tabL_congr fun n hn => by rw [setsL_get d (show n < k.1 by omega)])
      refine region_k u1_ok fun _ hK24 => ?_
      refine s_step rfl (by decide) rfl fun _ hS => ?_
      repeat refine And.intro qLu3 ?_
      first | refine hS _ _ _ ?_ | (refine whole_yes qLu3 ?_; refine hS _ _ _ ?_) | (refine whole_sub ?_; refine hS _ _ _ ?_)
      clear hS
      refine s_step rfl (by decide) rfl fun _ hS => ?_
      refine hS _ _ _ ?_
      clear hS
      refine s_step rfl (by decide) rfl fun _ hS => ?_
      refine hS _ _ _ ?_
      clear hS
      refine s_step rfl (by decide) rfl fun _ hS => ?_
      repeat first | refine And.intro qLu3 ?_ | refine whole_yes qLu3 ?_ | refine whole_sub ?_
      refine ⟨d, setsL d k.1, i, by rw [setsL_length], hw, ⟨by rw [setsL_length]; omega, by rw [setsL_length]; omega, fun b hb => by rw [setsL_mem hb]; omega⟩, ?_⟩
      repeat refine And.intro qLu3 ?_
      first | refine hS _ _ _ ?_ | (intro cap3 hcap3; refine hS _ _ _ ?_)
      clear hS
      refine s_step rfl (by decide) rfl fun _ hS => ?_
      repeat first | refine And.intro qLu3 ?_ | refine whole_yes qLu3 ?_ | refine whole_sub ?_
      refine ⟨(tabL (fun n => accR d ((setsL d k.1).getD n [])) i ((setsL d k.1).length - i)).1, (tabL (fun n => accR d ((setsL d k.1).getD n [])) i ((setsL d k.1).length - i)).2, rfl, ⟨by simp [tabL]; omega, by simp [tabL]; omega⟩, ?_⟩
      repeat refine And.intro qLu3 ?_
      first | refine hS _ _ _ ?_ | (intro cap4 hcap4; refine hS _ _ _ ?_)
      clear hS
      refine s_step rfl (by decide) rfl fun _ hS => ?_
      repeat refine And.intro qLu3 ?_
      refine hS _ _ _ ?_
      clear hS
      refine s_step rfl (by decide) rfl fun _ hS => ?_
      repeat refine And.intro qLu3 ?_
      refine hS _ _ _ ?_
      clear hS
      refine s_step0 rfl rfl fun _ hS => ?_
      repeat refine And.intro qLu3 ?_
      first | refine hS _ _ _ ?_ | (refine splice_full qLu3 ?_; refine hS _ _ _ ?_)
      clear hS
      refine s_step rfl (by decide) rfl fun _ hS => ?_
      refine hS _ _ _ ?_
      clear hS
      refine s_nil ?_
      refine hK24 _ _ _ ?_
      refine hK23 _ _ _ ?_
      refine WP_ret (Done_data u1_ok (fun _ _ h => h) (low_outV) [] [.cell 2 24, .tmp 3] rfl ?_)
      rw [hO, tabOut]
      repeat' (first | exact trivial | refine And.intro ?_ ?_ | rfl | omega | decide | (show (_ : Nat) < _; decide) | exact low_nil' | refine low_cons' ?_ ?_ | exact Nat.le_refl _ | exact Nat.succ_pos _)
     ·try try simp only [decide_eq_false_iff_not] at h_t29
      refine WP_skip ?_
      refine done_block ?_
      refine hK20 _ _ _ ?_
      refine region_k u1_ok fun _ hK25 => ?_
      refine s_step rfl (by decide) rfl fun _ hS => ?_
      refine hS _ _ _ ?_
      clear hS
      refine s_step rfl (by decide) rfl fun _ hS => ?_
      repeat refine And.intro qLu0 ?_
      refine hS _ _ _ ?_
      clear hS
      refine s_step rfl (by decide) rfl fun _ hS => ?_
      refine hS _ _ _ ?_
      clear hS
      refine s_nil ?_
      refine hK25 _ _ _ ?_
      refine Done_some [] id (i + 1) ⟨⟨by omega, fun j hj => (Nat.lt_or_ge j i).elim (hi.2 j) (fun h1 => by rw [show j = i by omega]; exact h_t29)⟩, by omega⟩ ⟨?_, ?_, (by decide : List.Nodup ([0, 1, 2] : List Nat)), ?_, ?_, ⟨Nat.zero_le _, fun i hi => absurd hi (Nat.not_lt_zero i)⟩⟩
      ·exact uLu0
      ·exact uLu0
      ·exact uLu0
      ·exact uLu0
    ·try try simp only [decide_eq_false_iff_not, Int.not_lt] at h_t21
     refine WP_exit ?_
     refine done_thenx ?_
     refine done_thenx ?_
     refine Done_hit ?_
     refine hK14 _ _ _ ?_
     refine seq_k fun _ hK26 => ?_
     have hns : ∀ j, j < k.1 → d.rs j ≠ d.rs k.1 := fun j hj => hi.2 j (by omega)
     have hset : setsC (setsL d k.1) ++ ([] ++ [.ds (d.rs k.1).length (.bools (d.rs k.1))]) = setsC (setsL d (k.1 + 1)) := by rw [List.nil_append, setsC_append, setsL_step]
     refine region_k u1_ok fun _ hK27 => ?_
     refine s_step rfl (by decide) rfl fun _ hS => ?_
     refine hS _ _ _ ?_
     clear hS
     refine s_step rfl (by decide) rfl fun _ hS => ?_
     refine hS _ _ _ ?_
     clear hS
     refine s_step rfl (by decide) rfl fun _ hS => ?_
     repeat refine And.intro qLu4 ?_
     refine hS _ _ _ ?_
     clear hS
     refine s_step rfl (by decide) rfl fun _ hS => ?_
     repeat first | refine And.intro qLu4 ?_ | refine whole_yes qLu4 ?_ | refine whole_sub ?_
     intro cap3 hcap3; refine hS _ _ _ ?_
     clear hS
     refine s_step rfl (by decide) rfl fun _ hS => ?_
     refine hS _ _ _ ?_
     clear hS
     refine s_nil ?_
     refine hK27 _ _ _ ?_
     refine hK26 _ _ _ ?_
     refine region_k u1_ok fun _ hK28 => ?_
     refine s_step rfl (by decide) rfl fun _ hS => ?_
     repeat refine And.intro qLu0 ?_
     first | refine hS _ _ _ ?_ | (refine whole_yes qLu0 ?_; refine hS _ _ _ ?_) | (refine whole_sub ?_; refine hS _ _ _ ?_)
     clear hS
     refine s_step rfl (by decide) rfl fun _ hS => ?_
     refine hS _ _ _ ?_
     clear hS
     refine s_step rfl (by decide) rfl fun _ hS => ?_
     repeat first | refine And.intro qLu0 ?_ | refine whole_yes qLu0 ?_ | refine whole_sub ?_
     refine ⟨d, d.rs k.1, rfl, hw, ⟨by simp, by omega, hrows⟩, ?_⟩
     repeat refine And.intro qLu0 ?_
     first | refine hS _ _ _ ?_ | (intro cap2 hcap2; refine hS _ _ _ ?_)
     clear hS
     refine s_step rfl (by decide) rfl fun _ hS => ?_
     refine hS _ _ _ ?_
     clear hS
     refine s_nil ?_
     refine hK28 _ _ _ ?_
     refine done_block ?_
     have hd2 : ∀ i j, i < j → j < k.1 + 1 → d.rs i ≠ d.rs j := fun i j hij hj => (Nat.lt_or_ge j k.1).elim (hk.2.1 i j hij) (fun h1 => by rw [show j = k.1 by omega]; exact hns i (by omega))
     have hcnt := rs_count h8 hd2
     refine Done_some [] (fun i => if i = 2 then 4 else i) (k.1 + 1, cap3) ⟨⟨hcnt, hd2, by rw [← hk.2.2, show 257 - k.1 = (257 - (k.1 + 1)) + 1 by omega, findRep_step hns]⟩, by omega⟩ ⟨?_, ?_, (by decide : List.Nodup ([0, 1, 4] : List Nat)), ?_, ?_, ⟨Nat.zero_le _, fun i hi => absurd hi (Nat.not_lt_zero i)⟩⟩
     ·exact uLu0
     ·exact uLu0
     ·exact uLu0
     ·exact uLu0


end Go.Proofs.YtpfncffapgkjaaaDoor
