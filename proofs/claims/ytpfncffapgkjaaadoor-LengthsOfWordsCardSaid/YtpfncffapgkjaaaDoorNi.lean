/- The law: the lengths of accepted words. -/
import Derived.Test.YtpfncffapgkjaaaDoorAb14
import Derived.Test.YtpfncffapgkjaaaDoorAb21
import Derived.Test.YtpfncffapgkjaaaDoorCtx
import Derived.Test.YtpfncffapgkjaaaDoorLa
import Derived.Test.YtpfncffapgkjaaaDoorLc
import Derived.Test.YtpfncffapgkjaaaDoorLd
import Derived.Test.YtpfncffapgkjaaaDoorLm
import Derived.Test.YtpfncffapgkjaaaDoorLp
import Derived.Test.YtpfncffapgkjaaaDoorLr
import Derived.Test.YtpfncffapgkjaaaDoorLs
import Derived.Test.YtpfncffapgkjaaaDoorLva
import Derived.Test.YtpfncffapgkjaaaDoorLv
import Derived.Test.YtpfncffapgkjaaaDoorLw
import Derived.Test.YtpfncffapgkjaaaDoorNb
import Derived.Test.YtpfncffapgkjaaaDoorMc
import Derived.Test.YtpfncffapgkjaaaDoorMda
import Derived.Test.YtpfncffapgkjaaaDoorMg
import Derived.Test.YtpfncffapgkjaaaDoorMf
namespace Go.Proofs.YtpfncffapgkjaaaDoor
set_option linter.unusedVariables false
open Go.Ab Go.RowKit

theorem qNi0 {a : Prop} (h : a := by first | omega | exact trivial | rfl | (simp only [len_u8s, len_u32s, len_u64s, len_ints, len_bools, len_cells]; omega) | exact inR_i64.mpr ⟨by omega, by omega⟩ | (simp <;> omega) | (refine And.intro ?_ ?_ <;> exact trivial) | exact ⟨trivial, trivial, trivial⟩ | decide | (refine And.intro rfl ?_; (repeat first | exact trivial | refine And.intro rfl ?_); done) | exact Nat.succ_pos _ | exact Nat.le_refl _ | (refine And.intro trivial ?_; (repeat first | exact trivial | refine And.intro trivial ?_); done)) : a := h
theorem qNi1 {a : Prop} (h : a := by first | omega | exact trivial | rfl | (simp only [len_u8s, len_u32s, len_u64s, len_ints, len_bools, len_cells]; omega) | exact inR_i64.mpr ⟨by omega, by omega⟩ | (simp <;> omega) | (rw [hmn]; omega) | (simp [hmn]; omega) | (refine And.intro ?_ ?_ <;> exact trivial) | exact ⟨trivial, trivial, trivial⟩ | decide | (refine And.intro rfl ?_; (repeat first | exact trivial | refine And.intro rfl ?_); done) | exact Nat.succ_pos _ | exact Nat.le_refl _ | (refine And.intro trivial ?_; (repeat first | exact trivial | refine And.intro trivial ?_); done)) : a := h
theorem qNi2 {a : Prop} (h : a := by first | omega | exact trivial | rfl | (simp only [len_u8s, len_u32s, len_u64s, len_ints, len_bools, len_cells]; omega) | exact inR_i64.mpr ⟨by omega, by omega⟩ | (simp <;> omega) | (simp [timesL, Cont.times, hmn]; omega) | (refine And.intro ?_ ?_ <;> exact trivial) | exact ⟨trivial, trivial, trivial⟩ | decide | (refine And.intro rfl ?_; (repeat first | exact trivial | refine And.intro rfl ?_); done) | exact Nat.succ_pos _ | exact Nat.le_refl _ | (refine And.intro trivial ?_; (repeat first | exact trivial | refine And.intro trivial ?_); done)) : a := h
theorem qNi3 {a : Prop} (h : a := by first | omega | exact trivial | rfl | (simp only [len_u8s, len_u32s, len_u64s, len_ints, len_bools, len_cells]; omega) | exact inR_i64.mpr ⟨by omega, by omega⟩ | (simp <;> omega) | (simp [hmn]; omega) | (refine And.intro ?_ ?_ <;> exact trivial) | exact ⟨trivial, trivial, trivial⟩ | decide | (refine And.intro rfl ?_; (repeat first | exact trivial | refine And.intro rfl ?_); done) | exact Nat.succ_pos _ | exact Nat.le_refl _ | (refine And.intro trivial ?_; (repeat first | exact trivial | refine And.intro trivial ?_); done)) : a := h
theorem qNi4 {a : Prop} (h : a := by first | omega | exact trivial | rfl | (simp only [len_u8s, len_u32s, len_u64s, len_ints, len_bools, len_cells]; omega) | exact inR_i64.mpr ⟨by omega, by omega⟩ | (simp [hlr, hma] <;> omega) | (rw [hlr]; omega) | (rw [hma]; omega) | (simp [hlr]; omega) | (refine And.intro ?_ ?_ <;> exact trivial) | exact ⟨trivial, trivial, trivial⟩ | decide | (refine And.intro rfl ?_; (repeat first | exact trivial | refine And.intro rfl ?_); done) | exact Nat.succ_pos _ | exact Nat.le_refl _ | (refine And.intro trivial ?_; (repeat first | exact trivial | refine And.intro trivial ?_); done)) : a := h
theorem qNi5 {a : Prop} (h : a := by first | omega | exact trivial | rfl | (simp only [len_u8s, len_u32s, len_u64s, len_ints, len_bools, len_cells]; omega) | exact inR_i64.mpr ⟨by omega, by omega⟩ | (simp [hlr] <;> omega) | (simp; omega) | (refine And.intro ?_ ?_ <;> exact trivial) | exact ⟨trivial, trivial, trivial⟩ | decide | (refine And.intro rfl ?_; (repeat first | exact trivial | refine And.intro rfl ?_); done) | exact Nat.succ_pos _ | exact Nat.le_refl _ | (refine And.intro trivial ?_; (repeat first | exact trivial | refine And.intro trivial ?_); done)) : a := h
theorem qNi6 {a : Prop} (h : a := by first | omega | exact trivial | rfl | (simp only [len_u8s, len_u32s, len_u64s, len_ints, len_bools, len_cells]; omega) | exact inR_i64.mpr ⟨by omega, by omega⟩ | (simp <;> omega) | (rw [hsj]; omega) | (rw [hsj]; simp [hlr]; omega) | (refine And.intro ?_ ?_ <;> exact trivial) | exact ⟨trivial, trivial, trivial⟩ | decide | (refine And.intro rfl ?_; (repeat first | exact trivial | refine And.intro rfl ?_); done) | exact Nat.succ_pos _ | exact Nat.le_refl _ | (refine And.intro trivial ?_; (repeat first | exact trivial | refine And.intro trivial ?_); done)) : a := h
theorem uNi0 {a : Prop} (h : a := by
    repeat' (first | exact trivial | refine And.intro ?_ ?_ | rfl | omega | decide | (show (_ : Nat) < _; decide) | exact low_nil' | refine low_cons' ?_ ?_ | exact Nat.le_refl _ | exact Nat.succ_pos _)
    all_goals first | omega | exact low_rows _ | exact allTo_rows _ | exact low_lsC | (show (_ : Bool) = _; first | rfl | (rw [anyN_succ, hb1]; rfl) | (have hq := hb6; simp at hq; rw [anyN_succ, hb1]; simp [hq]; done)) | (show (_ : List Bool) = _; first | exact hst | exact hst2 | (simp [Dfa.rs, timesL, Cont.times, hmn]; done) | (simp [stepK, timesL, Cont.times, hmn, hlr]; done)) | (show (_ : List Bool) = _; first | rfl | assumption | (simp [stepL]; done)) | (simp; done) | (simp <;> omega) | skip) : a := h
theorem uNi1 {a : Prop} (h : a := by
    repeat' (first | exact trivial | refine And.intro ?_ ?_ | rfl | omega | decide | (show (_ : Nat) < _; decide) | exact low_nil' | refine low_cons' ?_ ?_ | exact Nat.le_refl _ | exact Nat.succ_pos _)
    all_goals first | omega | exact low_rows _ | exact allTo_rows _ | exact low_lsC | (show (_ : List Bool) = _; first | rfl | assumption | (simp [stepL]; done)) | (simp; done) | (simp <;> omega) | skip) : a := h

theorem accR_any (d : Dfa) (bs : List Bool) : accR d bs = anyN (fun s => bs.getD s false && d.acc.getD s false) bs.length := rfl
theorem stepK_stay (d : Dfa) (bs : List Bool) {k : Nat} (h : bs.getD k false = false) : stepK d bs k = stepK d bs (k + 1) := by rw [stepK, if_neg (by rw [h]; decide)]
theorem stepK_mark (d : Dfa) (bs : List Bool) {k : Nat} (h : bs.getD k false = true) : markL (d.next.getD k []) d.nc (stepK d bs k) = stepK d bs (k + 1) := by rw [stepK, if_pos h]
theorem mach_row (l : List UInt8) {s : Nat} (hs : s < machN l) : ((machL l).next.getD s []).length = 3 ∧ ∀ j, j < 3 → 0 ≤ ((machL l).next.getD s []).getD j 0 ∧ ((machL l).next.getD s []).getD j 0 < machN l := by
  have hv := (validRD_spec (mach_validR l)).2 s (by show s < (machNx l (machN l) (machN l)).length; rw [machNx_length]; exact hs)
  have hl : (machL l).next.length = machN l := by simp [machL]
  refine ⟨hv.1, fun j hj => ?_⟩
  have := hv.2 j (by rw [hv.1]; exact hj)
  rw [hl] at this
  exact this
theorem mach_wf (l : List UInt8) : (machL l).wf ∧ (machL l).next.length ≤ 8 := by
  have hp := machN_pos l
  refine ⟨⟨rfl, show 3 ≤ 9223372036854775807 by decide, ?_, ?_, fun r hr => ?_⟩, ?_⟩
  · show (machNx l (machN l) (machN l)).length ≤ _
    rw [machNx_length]; omega
  · show (machAc l (machN l)).length ≤ _
    rw [machAc_length]; omega
  · obtain ⟨i, _, rfl⟩ := List.mem_map.1 hr
    rw [machRow_length]; omega
  · show (machNx l (machN l) (machN l)).length ≤ _
    rw [machNx_length]; omega
noncomputable def x9 : Ctx := { P := Tryd.prog, ty := ty, glob := gl, fs := [(12, .flat sanityS), (29, .data machineS), (30, .data ofPS), (19, .flat hasS)] }
theorem x9_ok : x9.OK := ⟨tyOK, ⟨⟨enters_mk Tryd.func12 (by kernel_rfl) rfl, sanity_ok⟩, ⟨enters_mk Tryd.func29 (by kernel_rfl) rfl, machine_ok⟩, ⟨enters_mk Tryd.func30 (by kernel_rfl) rfl, ofP_ok⟩, ⟨enters_mk Tryd.func19 (by kernel_rfl) rfl, has_ok⟩, trivial⟩, mixed⟩
@[simp] theorem x9_ty : x9.ty = ty := rfl

def lawWordsS : QSpec := fun vs K => ∃ l : List UInt8, ∃ m : Nat, vs = [.c (.ds l.length (.u8s l)), .c (.int .u16 m)] ∧ (l.length ≤ 9223372036854775807 ∧ m ≤ 65535) ∧ K (.c (.bool true))
set_option maxHeartbeats 2000000 in
theorem lawWords_ok : FlatOK Tryd.prog gl 9 lawWordsS := by
 refine flat_of (Γ := x9) (N := 99) Tryd.func9 rfl rfl fun vs K h => ?_
 obtain ⟨l, m, rfl, ⟨hl, hm⟩, h⟩ := h
 refine ⟨_, h, rfl, by simp, fun w I => ?_⟩
 refine seq_k fun _ hK1 => ?_
 refine region_k x9_ok fun _ hK2 => ?_
 refine s_step rfl (by decide) rfl fun _ hS => ?_
 refine hS _ _ _ ?_
 clear hS
 refine s_nil ?_
 refine hK2 _ _ _ ?_
 refine hK1 _ _ _ ?_
 refine seq_k fun _ hK3 => ?_
 refine region_k x9_ok fun _ hK4 => ?_
 refine s_step rfl (by decide) rfl fun _ hS => ?_
 repeat first | refine And.intro qNi0 ?_ | refine whole_yes qNi0 ?_ | refine whole_sub ?_
 skip
 repeat refine And.intro qNi0 ?_
 first | refine hS _ _ _ ?_ | (intro cap0 hcap0; refine hS _ _ _ ?_)
 clear hS
 refine s_step rfl (by decide) rfl fun _ hS => ?_
 refine hS _ _ _ ?_
 clear hS
 refine s_nil ?_
 refine hK4 _ _ _ ?_
 refine hK3 _ _ _ ?_
 refine seq_k fun _ hK5 => ?_
 refine region_k x9_ok fun _ hK6 => ?_
 refine s_step rfl (by decide) rfl fun _ hS => ?_
 refine hS _ _ _ ?_
 clear hS
 refine s_step rfl (by decide) rfl fun _ hS => ?_
 repeat first | refine And.intro qNi0 ?_ | refine whole_yes qNi0 ?_ | refine whole_sub ?_
 refine ⟨l, rfl, hl, ?_⟩
 repeat refine And.intro qNi0 ?_
 first | refine hS _ _ _ ?_ | (intro cap1 hcap1; refine hS _ _ _ ?_)
 clear hS
 refine s_step rfl (by decide) rfl fun _ hS => ?_
 repeat refine And.intro qNi0 ?_
 refine hS _ _ _ ?_
 clear hS
 refine s_step0 rfl rfl fun _ hS => ?_
 repeat refine And.intro qNi0 ?_
 first | refine hS _ _ _ ?_ | (refine splice_full qNi0 ?_; refine hS _ _ _ ?_)
 clear hS
 refine s_nil ?_
 refine hK6 _ _ _ ?_
 refine hK5 _ _ _ ?_
 refine seq_k fun _ hK7 => ?_
 refine region_k x9_ok fun _ hK8 => ?_
 refine s_step rfl (by decide) rfl fun _ hS => ?_
 repeat refine And.intro qNi0 ?_
 first | refine hS _ _ _ ?_ | (refine whole_yes qNi0 ?_; refine hS _ _ _ ?_) | (refine whole_sub ?_; refine hS _ _ _ ?_)
 clear hS
 refine s_step rfl (by decide) rfl fun _ hS => ?_
 repeat first | refine And.intro qNi0 ?_ | refine whole_yes qNi0 ?_ | refine whole_sub ?_
 refine ⟨machL l, rfl, (mach_wf l).1, (mach_wf l).2, ?_⟩
 obtain ⟨⟨⟨o1, o2⟩, oe⟩, ho⟩ : ∃ x, x = ofL (machL l) := ⟨_, rfl⟩
 rw [← ho]
 have co : IsCan ((o1, o2), oe) (fun n => accR (machL l) ((machL l).rs n)) := by rw [ho]; exact of_can (mach_valid l) (mach_validR l) (mach_wf l).2
 obtain rfl : oe = 0 := co.err
 have vo : 0 < o2.length ∧ o1.length + o2.length ≤ 512 := co.valid
 have mo : atL o1 o2 = fun n => accR (machL l) ((machL l).rs n) := co.mem
 clear ho
 have hmn : (machL l).next.length = machN l := machNx_length ..
 have hma : (machL l).acc.length = machN l := machAc_length ..
 have hp := machN_pos l
 repeat refine And.intro qNi0 ?_
 first | refine hS _ _ _ ?_ | (intro cap1 hcap1; refine hS _ _ _ ?_)
 clear hS
 refine s_step rfl (by decide) rfl fun _ hS => ?_
 refine hS _ _ _ ?_
 clear hS
 refine s_step rfl (by decide) rfl fun _ hS => ?_
 repeat refine And.intro qNi0 ?_
 refine hS _ _ _ ?_
 clear hS
 refine s_step rfl (by decide) rfl fun _ hS => ?_
 repeat refine And.intro qNi0 ?_
 refine hS _ _ _ ?_
 clear hS
 refine s_step rfl (by decide) rfl fun _ hS => ?_
 repeat refine And.intro qNi0 ?_
 refine hS _ _ _ ?_
 clear hS
 refine s_step0 rfl rfl fun _ hS => ?_
 repeat refine And.intro qNi0 ?_
 first | refine hS _ _ _ ?_ | (refine splice_full qNi0 ?_; refine hS _ _ _ ?_)
 clear hS
 refine s_step rfl (by decide) rfl fun _ hS => ?_
 refine hS _ _ _ ?_
 clear hS
 refine s_nil ?_
 refine hK8 _ _ _ ?_
 refine hK7 _ _ _ ?_
 refine seq_k fun _ hK9 => ?_
 refine region_k x9_ok fun _ hK10 => ?_
 refine s_step rfl (by decide) rfl fun _ hS => ?_
 repeat refine And.intro qNi1 ?_
 refine hS _ _ _ ?_
 clear hS
 refine s_step rfl (by decide) rfl fun _ hS => ?_
 repeat refine And.intro qNi1 ?_
 first | refine hS _ _ _ ?_ | (refine whole_yes qNi1 ?_; refine hS _ _ _ ?_) | (refine whole_sub ?_; refine hS _ _ _ ?_)
 clear hS
 refine s_step rfl (by decide) rfl fun _ hS => ?_
 repeat refine And.intro qNi1 ?_
 refine hS _ _ _ ?_
 clear hS
 refine s_step rfl (by decide) rfl fun _ hS => ?_
 repeat refine And.intro qNi1 ?_
 refine hS _ _ _ ?_
 clear hS
 refine s_step rfl (by decide) rfl fun _ hS => ?_
 refine hS _ _ _ ?_
 clear hS
 refine s_nil ?_
 refine hK10 _ _ _ ?_
 refine hK9 _ _ _ ?_
 refine seq_k fun _ hK11 => ?_
 refine region_k x9_ok fun _ hK12 => ?_
 refine s_step rfl (by decide) rfl fun _ hS => ?_
 refine hS _ _ _ ?_
 clear hS
 refine s_step rfl (by decide) rfl fun _ hS => ?_
 repeat refine And.intro qNi2 ?_
 refine hS _ _ _ ?_
 clear hS
 refine s_step0 rfl rfl fun _ hS => ?_
 repeat refine And.intro qNi2 ?_
 first | refine hS _ _ _ ?_ | (refine splice_full qNi2 ?_; refine hS _ _ _ ?_)
 clear hS
 refine s_nil ?_
 refine hK12 _ _ _ ?_
 refine hK11 _ _ _ ?_
 refine seq_k fun _ hK13 => ?_
 refine seq_k fun _ hK14 => ?_
 refine region_k x9_ok fun _ hK15 => ?_
 refine s_step rfl (by decide) rfl fun _ hS => ?_
 refine hS _ _ _ ?_
 clear hS
 refine s_nil ?_
 refine hK15 _ _ _ ?_
 refine hK14 _ _ _ ?_
 refine WP_block ?_
 refine WP_loop (α := Nat) (fun k => [(1, .c (.int .u16 m)), (5, .c (.bool true)), (6, .c (.ptr 0 0)), (7, .c (.ptr 1 0)), (8, .c (.int .i64 0)), (9, .c (.slice 2 0 (machN l) (machN l))), (10, .c (.int .i64 k))]) (fun k => [(0, .own 40 (dfaC (machL l)) 3), (1, .own 24 (lsC o1 o2) 2), (2, .own 4 (.bools ((machL l).rs k)) (machN l))]) 3 (fun k => k ≤ 300) (fun k => 300 - k) ?_ ?_
 ·refine Done_some [] id 0 (Nat.zero_le _) ⟨?_, ?_, (by decide : List.Nodup ([0, 1, 2] : List Nat)), ?_, ?_, ⟨Nat.zero_le _, fun i hi => absurd hi (Nat.not_lt_zero i)⟩⟩
  ·exact uNi0
  ·exact uNi0
  ·exact uNi1
  ·exact uNi1
 ·intro k hk
  have hlr : ((machL l).rs k).length = machN l := by rw [rs_length]; exact machNx_length ..
  refine seq_k fun _ hK16 => ?_
  refine seq_k fun _ hK17 => ?_
  refine region_k x9_ok fun _ hK18 => ?_
  refine s_step rfl (by decide) rfl fun _ hS => ?_
  refine hS _ _ _ ?_
  clear hS
  refine s_step rfl (by decide) rfl fun _ hS => ?_
  repeat refine And.intro qNi0 ?_
  refine hS _ _ _ ?_
  clear hS
  refine s_nil ?_
  refine hK18 _ _ _ ?_
  refine hK17 _ _ _ ?_
  refine WP_cond (b := _) rfl (fun h_t30 => ?_) (fun h_t30 => ?_)
  ·try try simp only [decide_eq_true_eq] at h_t30
   refine WP_skip ?_
   refine hK16 _ _ _ ?_
   refine seq_k fun _ hK19 => ?_
   refine WP_block ?_
   refine seq_k fun _ hK20 => ?_
   refine region_k x9_ok fun _ hK21 => ?_
   refine s_step rfl (by decide) rfl fun _ hS => ?_
   refine hS _ _ _ ?_
   clear hS
   refine s_nil ?_
   refine hK21 _ _ _ ?_
   refine hK20 _ _ _ ?_
   refine seq_k fun _ hK22 => ?_
   refine region_k x9_ok fun _ hK23 => ?_
   refine s_step rfl (by decide) rfl fun _ hS => ?_
   repeat refine And.intro qNi1 ?_
   refine hS _ _ _ ?_
   clear hS
   refine s_step rfl (by decide) rfl fun _ hS => ?_
   repeat refine And.intro qNi1 ?_
   first | refine hS _ _ _ ?_ | (refine whole_yes qNi1 ?_; refine hS _ _ _ ?_) | (refine whole_sub ?_; refine hS _ _ _ ?_)
   clear hS
   refine s_step rfl (by decide) rfl fun _ hS => ?_
   repeat refine And.intro qNi1 ?_
   refine hS _ _ _ ?_
   clear hS
   refine s_step rfl (by decide) rfl fun _ hS => ?_
   repeat refine And.intro qNi1 ?_
   refine hS _ _ _ ?_
   clear hS
   refine s_step rfl (by decide) rfl fun _ hS => ?_
   refine hS _ _ _ ?_
   clear hS
   refine s_nil ?_
   refine hK23 _ _ _ ?_
   refine hK22 _ _ _ ?_
   refine seq_k fun _ hK24 => ?_
   refine seq_k fun _ hK25 => ?_
   refine region_k x9_ok fun _ hK26 => ?_
   refine s_step rfl (by decide) rfl fun _ hS => ?_
   refine hS _ _ _ ?_
   clear hS
   refine s_nil ?_
   refine hK26 _ _ _ ?_
   refine hK25 _ _ _ ?_
   refine WP_block ?_
   refine WP_loop (α := Nat) (fun s => [(1, .c (.int .u16 m)), (5, .c (.bool true)), (6, .c (.ptr 0 0)), (7, .c (.ptr 1 0)), (8, .c (.int .i64 0)), (9, .c (.slice 2 0 (machN l) (machN l))), (10, .c (.int .i64 k)), (11, .c (.bool ((anyN (fun s => ((machL l).rs k).getD s false && (machL l).acc.getD s false) s)))), (12, .c (.slice 3 0 (machN l) (machN l))), (13, .c (.int .i64 s))]) (fun s => [(0, .own 40 (dfaC (machL l)) 3), (1, .own 24 (lsC o1 o2) 2), (2, .own 4 (.bools ((machL l).rs k)) (machN l)), (3, .own 4 (.bools (stepK (machL l) ((machL l).rs k) s)) (machN l))]) 4 (fun s => s ≤ machN l) (fun s => machN l - s) ?_ ?_
   ·refine Done_some [] id 0 (Nat.zero_le _) ⟨?_, ?_, (by decide : List.Nodup ([0, 1, 2, 3] : List Nat)), ?_, ?_, ⟨Nat.zero_le _, fun i hi => absurd hi (Nat.not_lt_zero i)⟩⟩
    ·exact uNi0
    ·exact uNi0
    ·exact uNi1
    ·exact uNi1
   ·intro s hs
    refine seq_k fun _ hK27 => ?_
    refine seq_k fun _ hK28 => ?_
    refine region_k x9_ok fun _ hK29 => ?_
    refine s_step rfl (by decide) rfl fun _ hS => ?_
    refine hS _ _ _ ?_
    clear hS
    refine s_step rfl (by decide) rfl fun _ hS => ?_
    repeat refine And.intro qNi3 ?_
    refine hS _ _ _ ?_
    clear hS
    refine s_step rfl (by decide) rfl fun _ hS => ?_
    repeat refine And.intro qNi3 ?_
    first | refine hS _ _ _ ?_ | (refine whole_yes qNi3 ?_; refine hS _ _ _ ?_) | (refine whole_sub ?_; refine hS _ _ _ ?_)
    clear hS
    refine s_step rfl (by decide) rfl fun _ hS => ?_
    repeat refine And.intro qNi3 ?_
    refine hS _ _ _ ?_
    clear hS
    refine s_step rfl (by decide) rfl fun _ hS => ?_
    repeat refine And.intro qNi3 ?_
    refine hS _ _ _ ?_
    clear hS
    refine s_nil ?_
    refine hK29 _ _ _ ?_
    refine hK28 _ _ _ ?_
    refine WP_cond (b := _) rfl (fun h_t41 => ?_) (fun h_t41 => ?_)
    ·try try simp only [decide_eq_true_eq] at h_t41
     refine WP_skip ?_
     refine hK27 _ _ _ ?_
     refine seq_k fun _ hK30 => ?_
     refine WP_block ?_
     refine WP_cut (α := Unit) (fun _ => [(1, .c (.int .u16 m)), (5, .c (.bool true)), (6, .c (.ptr 0 0)), (7, .c (.ptr 1 0)), (8, .c (.int .i64 0)), (9, .c (.slice 2 0 (machN l) (machN l))), (10, .c (.int .i64 k)), (11, .c (.bool ((anyN (fun s => ((machL l).rs k).getD s false && (machL l).acc.getD s false) (s + 1))))), (12, .c (.slice 3 0 (machN l) (machN l))), (13, .c (.int .i64 s))]) (fun _ => [(0, .own 40 (dfaC (machL l)) 3), (1, .own 24 (lsC o1 o2) 2), (2, .own 4 (.bools ((machL l).rs k)) (machN l)), (3, .own 4 (.bools (stepK (machL l) ((machL l).rs k) s)) (machN l))]) 4 (fun _ => True) ?_ ?_
     ·skip
      have hsm : s < machN l := by have := h_t41; rw [hmn] at this; omega
      refine region_k x9_ok fun _ hK31 => ?_
      refine s_step rfl (by decide) rfl fun _ hS => ?_
      refine hS _ _ _ ?_
      clear hS
      refine s_step rfl (by decide) rfl fun _ hS => ?_
      refine s_split hS (fun hb1 => ?_) (fun hb1 => ?_)
      ·clear hS
       try simp only [decide_eq_true_eq, decide_eq_false_iff_not, Int.not_lt, Int.not_le, Bool.not_eq_true', Bool.not_eq_false', Bool.not_eq_eq_eq_not, Bool.not_true, Bool.not_false, if_true, if_false, reduceIte, Bool.false_eq_true, Int.natCast_inj] at hb1
       refine s_guard (b := true) rfl (by decide) rfl rfl (fun e => absurd e (by decide)) (fun _ => ?_)
       refine s_guard (b := true) rfl (by decide) rfl rfl (fun e => absurd e (by decide)) (fun _ => ?_)
       refine s_guard (b := true) rfl (by decide) rfl rfl (fun e => absurd e (by decide)) (fun _ => ?_)
       refine s_guard (b := true) rfl (by decide) rfl rfl (fun e => absurd e (by decide)) (fun _ => ?_)
       refine s_guard (b := true) rfl (by decide) rfl rfl (fun e => absurd e (by decide)) (fun _ => ?_)
       refine s_guard0 rfl (by decide) rfl rfl ?_
       refine s_guard0 rfl (by decide) rfl rfl ?_
       refine s_guard0 rfl (by decide) rfl rfl ?_
       refine s_guard0 rfl (by decide) rfl rfl ?_
       refine s_guard0 rfl (by decide) rfl rfl ?_
       refine s_guard (b := true) rfl (by decide) rfl rfl (fun e => absurd e (by decide)) (fun _ => ?_)
       refine s_step rfl (by decide) rfl fun _ hS => ?_
       refine hS _ _ _ ?_
       clear hS
       refine s_step rfl (by decide) rfl fun _ hS => ?_
       refine hS _ _ _ ?_
       clear hS
       refine s_nil ?_
       refine hK31 _ _ _ ?_
       refine Done_some [] id () trivial ⟨?_, ?_, (by decide : List.Nodup ([0, 1, 2, 3] : List Nat)), ?_, ?_, ⟨Nat.zero_le _, fun i hi => absurd hi (Nat.not_lt_zero i)⟩⟩
       ·exact uNi0
       ·exact uNi0
       ·exact uNi1
       ·exact uNi1
      ·clear hS
       try simp only [decide_eq_true_eq, decide_eq_false_iff_not, Int.not_lt, Int.not_le, Bool.not_eq_true', Bool.not_eq_false', Bool.not_eq_eq_eq_not, Bool.not_true, Bool.not_false, if_true, if_false, reduceIte, Bool.false_eq_true, Int.natCast_inj] at hb1
       refine s_guard (b := false) rfl (by decide) rfl rfl (fun _ _ hS => ?_) (fun e => absurd e (by decide))
       refine hS _ _ _ ?_
       clear hS
       refine s_guard (b := false) rfl (by decide) rfl rfl (fun _ _ hS => ?_) (fun e => absurd e (by decide))
       refine hS _ _ _ ?_
       clear hS
       refine s_guard (b := false) rfl (by decide) rfl rfl (fun _ _ hS => ?_) (fun e => absurd e (by decide))
       repeat refine And.intro qNi4 ?_
       refine hS _ _ _ ?_
       clear hS
       refine s_guard (b := false) rfl (by decide) rfl rfl (fun _ _ hS => ?_) (fun e => absurd e (by decide))
       repeat refine And.intro qNi4 ?_
       first | refine hS _ _ _ ?_ | (refine whole_yes qNi4 ?_; refine hS _ _ _ ?_) | (refine whole_sub ?_; refine hS _ _ _ ?_)
       clear hS
       refine s_guard (b := false) rfl (by decide) rfl rfl (fun _ _ hS => ?_) (fun e => absurd e (by decide))
       refine s_split hS (fun hb6 => ?_) (fun hb6 => ?_)
       ·clear hS
        try simp only [decide_eq_true_eq, decide_eq_false_iff_not, Int.not_lt, Int.not_le, Bool.not_eq_true', Bool.not_eq_false', Bool.not_eq_eq_eq_not, Bool.not_true, Bool.not_false, if_true, if_false, reduceIte, Bool.false_eq_true, Int.natCast_inj] at hb6
        refine s_guard (b := true) rfl (by decide) rfl rfl (fun _ _ hS => ?_) (fun e => absurd e (by decide))
        repeat refine And.intro qNi4 ?_
        refine hS _ _ _ ?_
        clear hS
        refine s_guard (b := true) rfl (by decide) rfl rfl (fun _ _ hS => ?_) (fun e => absurd e (by decide))
        repeat refine And.intro qNi4 ?_
        first | refine hS _ _ _ ?_ | (refine whole_yes qNi4 ?_; refine hS _ _ _ ?_) | (refine whole_sub ?_; refine hS _ _ _ ?_)
        clear hS
        refine s_guard (b := true) rfl (by decide) rfl rfl (fun _ _ hS => ?_) (fun e => absurd e (by decide))
        refine hS _ _ _ ?_
        clear hS
        refine s_guard (b := true) rfl (by decide) rfl rfl (fun _ _ hS => ?_) (fun e => absurd e (by decide))
        repeat refine And.intro qNi4 ?_
        refine hS _ _ _ ?_
        clear hS
        refine s_guard (b := true) rfl (by decide) rfl rfl (fun _ _ hS => ?_) (fun e => absurd e (by decide))
        repeat refine And.intro qNi4 ?_
        first | refine hS _ _ _ ?_ | (refine whole_yes qNi4 ?_; refine hS _ _ _ ?_) | (refine whole_sub ?_; refine hS _ _ _ ?_)
        clear hS
        refine s_guard (b := false) rfl (by decide) rfl rfl (fun _ _ hS => ?_) (fun e => absurd e (by decide))
        refine hS _ _ _ ?_
        clear hS
        refine s_step rfl (by decide) rfl fun _ hS => ?_
        refine hS _ _ _ ?_
        clear hS
        refine s_step rfl (by decide) rfl fun _ hS => ?_
        refine hS _ _ _ ?_
        clear hS
        refine s_nil ?_
        refine hK31 _ _ _ ?_
        refine Done_some [] id () trivial ⟨?_, ?_, (by decide : List.Nodup ([0, 1, 2, 3] : List Nat)), ?_, ?_, ⟨Nat.zero_le _, fun i hi => absurd hi (Nat.not_lt_zero i)⟩⟩
        ·exact uNi0
        ·exact uNi0
        ·exact uNi1
        ·exact uNi1
       ·clear hS
        try simp only [decide_eq_true_eq, decide_eq_false_iff_not, Int.not_lt, Int.not_le, Bool.not_eq_true', Bool.not_eq_false', Bool.not_eq_eq_eq_not, Bool.not_true, Bool.not_false, if_true, if_false, reduceIte, Bool.false_eq_true, Int.natCast_inj] at hb6
        refine s_guard (b := false) rfl (by decide) rfl rfl (fun e => absurd e (by decide)) (fun _ => ?_)
        refine s_guard (b := false) rfl (by decide) rfl rfl (fun e => absurd e (by decide)) (fun _ => ?_)
        refine s_guard (b := false) rfl (by decide) rfl rfl (fun e => absurd e (by decide)) (fun _ => ?_)
        refine s_guard (b := false) rfl (by decide) rfl rfl (fun e => absurd e (by decide)) (fun _ => ?_)
        refine s_guard (b := false) rfl (by decide) rfl rfl (fun e => absurd e (by decide)) (fun _ => ?_)
        refine s_guard (b := false) rfl (by decide) rfl rfl (fun _ _ hS => ?_) (fun e => absurd e (by decide))
        refine hS _ _ _ ?_
        clear hS
        refine s_step rfl (by decide) rfl fun _ hS => ?_
        refine hS _ _ _ ?_
        clear hS
        refine s_step rfl (by decide) rfl fun _ hS => ?_
        refine hS _ _ _ ?_
        clear hS
        refine s_nil ?_
        refine hK31 _ _ _ ?_
        refine Done_some [] id () trivial ⟨?_, ?_, (by decide : List.Nodup ([0, 1, 2, 3] : List Nat)), ?_, ?_, ⟨Nat.zero_le _, fun i hi => absurd hi (Nat.not_lt_zero i)⟩⟩
        ·exact uNi0
        ·exact uNi0
        ·exact uNi1
        ·exact uNi1
     ·intro _ _
      have hsm : s < machN l := by have := h_t41; rw [hmn] at this; omega
      refine seq_k fun _ hK32 => ?_
      refine region_k x9_ok fun _ hK33 => ?_
      refine s_step rfl (by decide) rfl fun _ hS => ?_
      refine hS _ _ _ ?_
      clear hS
      refine s_nil ?_
      refine hK33 _ _ _ ?_
      refine hK32 _ _ _ ?_
      refine WP_block ?_
      refine WP_loop (α := Nat) (fun j => [(1, .c (.int .u16 m)), (5, .c (.bool true)), (6, .c (.ptr 0 0)), (7, .c (.ptr 1 0)), (8, .c (.int .i64 0)), (9, .c (.slice 2 0 (machN l) (machN l))), (10, .c (.int .i64 k)), (11, .c (.bool ((anyN (fun s => ((machL l).rs k).getD s false && (machL l).acc.getD s false) (s + 1))))), (12, .c (.slice 3 0 (machN l) (machN l))), (13, .c (.int .i64 s)), (14, .c (.int .i64 j))]) (fun j => [(0, .own 40 (dfaC (machL l)) 3), (1, .own 24 (lsC o1 o2) 2), (2, .own 4 (.bools ((machL l).rs k)) (machN l)), (3, .own 4 (.bools (markL ((machL l).next.getD s []) j (stepK (machL l) ((machL l).rs k) s))) (machN l))]) 4 (fun j => j ≤ 3 ∧ (((machL l).rs k).getD s false = false → j = 0)) (fun j => 3 - j) ?_ ?_
      ·refine Done_some [] id 0 ⟨Nat.zero_le _, fun _ => rfl⟩ ⟨?_, ?_, (by decide : List.Nodup ([0, 1, 2, 3] : List Nat)), ?_, ?_, ⟨Nat.zero_le _, fun i hi => absurd hi (Nat.not_lt_zero i)⟩⟩
       ·exact uNi0
       ·exact uNi0
       ·exact uNi1
       ·exact uNi1
      ·intro j hj
       refine seq_k fun _ hK34 => ?_
       refine seq_k fun _ hK35 => ?_
       refine region_k x9_ok fun _ hK36 => ?_
       refine s_step rfl (by decide) rfl fun _ hS => ?_
       refine hS _ _ _ ?_
       clear hS
       refine s_step rfl (by decide) rfl fun _ hS => ?_
       repeat refine And.intro qNi5 ?_
       refine hS _ _ _ ?_
       clear hS
       refine s_step rfl (by decide) rfl fun _ hS => ?_
       refine s_split hS (fun hb2 => ?_) (fun hb2 => ?_)
       ·clear hS
        try simp only [decide_eq_true_eq] at hb2
        refine s_guard (b := true) rfl (by decide) rfl rfl (fun _ _ hS => ?_) (fun e => absurd e (by decide))
        refine hS _ _ _ ?_
        clear hS
        refine s_guard (b := true) rfl (by decide) rfl rfl (fun _ _ hS => ?_) (fun e => absurd e (by decide))
        refine hS _ _ _ ?_
        clear hS
        refine s_guard (b := true) rfl (by decide) rfl rfl (fun _ _ hS => ?_) (fun e => absurd e (by decide))
        repeat refine And.intro qNi5 ?_
        refine hS _ _ _ ?_
        clear hS
        refine s_guard (b := true) rfl (by decide) rfl rfl (fun _ _ hS => ?_) (fun e => absurd e (by decide))
        repeat refine And.intro qNi5 ?_
        first | refine hS _ _ _ ?_ | (refine whole_yes qNi5 ?_; refine hS _ _ _ ?_) | (refine whole_sub ?_; refine hS _ _ _ ?_)
        clear hS
        refine s_step rfl (by decide) rfl fun _ hS => ?_
        refine hS _ _ _ ?_
        clear hS
        refine s_nil ?_
        refine hK36 _ _ _ ?_
        refine hK35 _ _ _ ?_
        refine WP_cond (b := _) rfl (fun h_t65 => ?_) (fun h_t65 => ?_)
        ·have hbit : ((machL l).rs k).getD s false = true := by simpa using h_t65
         refine WP_skip ?_
         refine hK34 _ _ _ ?_
         refine seq_k fun _ hK37 => ?_
         refine WP_block ?_
         have hsn : s < (machL l).next.length := by omega
         obtain ⟨hrl, hrt⟩ := mach_row l hsm
         have hj3 : j < 3 := by omega
         obtain ⟨ht0, ht1⟩ := hrt j hj3
         have hlen : (markL ((machL l).next.getD s []) j (stepK (machL l) ((machL l).rs k) s)).length = machN l := by simp [hlr]
         have hsj : ((machL l).next.getD s []).getD ((j : Int).toNat * 1) 0 = ((machL l).next.getD s []).getD j 0 := by rw [show (j : Int).toNat * 1 = j by omega]
         refine region_k x9_ok fun _ hK38 => ?_
         refine s_step rfl (by decide) rfl fun _ hS => ?_
         refine hS _ _ _ ?_
         clear hS
         refine s_step rfl (by decide) rfl fun _ hS => ?_
         repeat refine And.intro qNi6 ?_
         refine hS _ _ _ ?_
         clear hS
         refine s_step rfl (by decide) rfl fun _ hS => ?_
         repeat refine And.intro qNi6 ?_
         first | refine hS _ _ _ ?_ | (refine whole_yes qNi6 ?_; refine hS _ _ _ ?_) | (refine whole_sub ?_; refine hS _ _ _ ?_)
         clear hS
         refine s_step rfl (by decide) rfl fun _ hS => ?_
         refine hS _ _ _ ?_
         clear hS
         refine s_step rfl (by decide) rfl fun _ hS => ?_
         repeat refine And.intro qNi6 ?_
         refine hS _ _ _ ?_
         clear hS
         refine s_step rfl (by decide) rfl fun _ hS => ?_
         repeat refine And.intro qNi6 ?_
         rw [show (s : Int).toNat * 1 = s by omega, get_rows hsn]
         first | refine hS _ _ _ ?_ | (refine whole_yes qNi6 ?_; refine hS _ _ _ ?_) | (refine whole_sub ?_; refine hS _ _ _ ?_)
         clear hS
         refine s_step rfl (by decide) rfl fun _ hS => ?_
         refine hS _ _ _ ?_
         clear hS
         refine s_step rfl (by decide) rfl fun _ hS => ?_
         repeat refine And.intro qNi6 ?_
         refine hS _ _ _ ?_
         clear hS
         refine s_step rfl (by decide) rfl fun _ hS => ?_
         repeat refine And.intro qNi6 ?_
         first | refine hS _ _ _ ?_ | (refine whole_yes qNi6 ?_; refine hS _ _ _ ?_) | (refine whole_sub ?_; refine hS _ _ _ ?_)
         clear hS
         refine s_step rfl (by decide) rfl fun _ hS => ?_
         repeat refine And.intro qNi6 ?_
         refine hS _ _ _ ?_
         clear hS
         refine s_step0 rfl rfl fun _ hS => ?_
         repeat refine And.intro qNi6 ?_
         first | refine hS _ _ _ ?_ | (refine splice_full qNi6 ?_; refine hS _ _ _ ?_)
         clear hS
         refine s_nil ?_
         refine hK38 _ _ _ ?_
         have hst : (markL ((machL l).next.getD s []) j (stepK (machL l) ((machL l).rs k) s)).set (0 + (((machL l).next.getD s []).getD ((j : Int).toNat * 1) 0).toNat * 1) true = (markL ((machL l).next.getD s []) (j + 1) (stepK (machL l) ((machL l).rs k) s)) := by rw [hsj, Nat.zero_add, Nat.mul_one]; rfl
         refine done_block ?_
         refine hK37 _ _ _ ?_
         refine region_k x9_ok fun _ hK39 => ?_
         refine s_step rfl (by decide) rfl fun _ hS => ?_
         refine hS _ _ _ ?_
         clear hS
         refine s_step rfl (by decide) rfl fun _ hS => ?_
         repeat refine And.intro qNi0 ?_
         refine hS _ _ _ ?_
         clear hS
         refine s_step rfl (by decide) rfl fun _ hS => ?_
         refine hS _ _ _ ?_
         clear hS
         refine s_nil ?_
         refine hK39 _ _ _ ?_
         refine Done_some [] id (j + 1) ⟨⟨by omega, fun h0 => by rw [hbit] at h0; cases h0⟩, by omega⟩ ⟨?_, ?_, (by decide : List.Nodup ([0, 1, 2, 3] : List Nat)), ?_, ?_, ⟨Nat.zero_le _, fun i hi => absurd hi (Nat.not_lt_zero i)⟩⟩
         ·exact uNi0
         ·exact uNi0
         ·exact uNi1
         ·exact uNi1
        ·have hbit : ((machL l).rs k).getD s false = false := by simpa using h_t65
         have hst : (markL ((machL l).next.getD s []) j (stepK (machL l) ((machL l).rs k) s)) = stepK (machL l) ((machL l).rs k) (s + 1) := by rw [hj.2 hbit]; exact stepK_stay _ _ hbit
         refine WP_exit ?_
         refine done_thenx ?_
         refine done_thenx ?_
         refine Done_hit ?_
         refine done_block ?_
         refine hK30 _ _ _ ?_
         refine region_k x9_ok fun _ hK40 => ?_
         refine s_step rfl (by decide) rfl fun _ hS => ?_
         refine hS _ _ _ ?_
         clear hS
         refine s_step rfl (by decide) rfl fun _ hS => ?_
         repeat refine And.intro qNi0 ?_
         refine hS _ _ _ ?_
         clear hS
         refine s_step rfl (by decide) rfl fun _ hS => ?_
         refine hS _ _ _ ?_
         clear hS
         refine s_nil ?_
         refine hK40 _ _ _ ?_
         refine Done_some [] id (s + 1) ⟨by omega, by omega⟩ ⟨?_, ?_, (by decide : List.Nodup ([0, 1, 2, 3] : List Nat)), ?_, ?_, ⟨Nat.zero_le _, fun i hi => absurd hi (Nat.not_lt_zero i)⟩⟩
         ·exact uNi0
         ·exact uNi0
         ·exact uNi1
         ·exact uNi1
       ·clear hS
        try simp only [decide_eq_false_iff_not, Int.not_lt] at hb2
        refine s_guard (b := false) rfl (by decide) rfl rfl (fun e => absurd e (by decide)) (fun _ => ?_)
        refine s_guard (b := false) rfl (by decide) rfl rfl (fun e => absurd e (by decide)) (fun _ => ?_)
        refine s_guard (b := false) rfl (by decide) rfl rfl (fun e => absurd e (by decide)) (fun _ => ?_)
        refine s_guard (b := false) rfl (by decide) rfl rfl (fun e => absurd e (by decide)) (fun _ => ?_)
        refine s_step rfl (by decide) rfl fun _ hS => ?_
        refine hS _ _ _ ?_
        clear hS
        refine s_nil ?_
        refine hK36 _ _ _ ?_
        refine hK35 _ _ _ ?_
        have hst : (markL ((machL l).next.getD s []) j (stepK (machL l) ((machL l).rs k) s)) = stepK (machL l) ((machL l).rs k) (s + 1) := by
         rw [show j = 3 by omega]
         cases hbk : ((machL l).rs k).getD s false with
         | true => exact stepK_mark _ _ hbk
         | false => have := hj.2 hbk; omega
        refine WP_cond (b := _) rfl (fun h_t65 => ?_) (fun _ => ?_)
        ·exfalso; cases h_t65
        refine WP_exit ?_
        refine done_thenx ?_
        refine done_thenx ?_
        refine Done_hit ?_
        refine done_block ?_
        refine hK30 _ _ _ ?_
        refine region_k x9_ok fun _ hK41 => ?_
        refine s_step rfl (by decide) rfl fun _ hS => ?_
        refine hS _ _ _ ?_
        clear hS
        refine s_step rfl (by decide) rfl fun _ hS => ?_
        repeat refine And.intro qNi0 ?_
        refine hS _ _ _ ?_
        clear hS
        refine s_step rfl (by decide) rfl fun _ hS => ?_
        refine hS _ _ _ ?_
        clear hS
        refine s_nil ?_
        refine hK41 _ _ _ ?_
        refine Done_some [] id (s + 1) ⟨by omega, by omega⟩ ⟨?_, ?_, (by decide : List.Nodup ([0, 1, 2, 3] : List Nat)), ?_, ?_, ⟨Nat.zero_le _, fun i hi => absurd hi (Nat.not_lt_zero i)⟩⟩
        ·exact uNi0
        ·exact uNi0
        ·exact uNi1
        ·exact uNi1
    ·try try simp only [decide_eq_false_iff_not, Int.not_lt] at h_t41
     refine WP_exit ?_
     refine done_thenx ?_
     refine done_thenx ?_
     refine Done_hit ?_
     refine hK24 _ _ _ ?_
     refine seq_k fun _ hK42 => ?_
     refine seq_k fun _ hK43 => ?_
     obtain rfl : s = machN l := by have := h_t41; rw [hmn] at this; omega
     have hst2 : stepK (machL l) ((machL l).rs k) (machN l) = (machL l).rs (k + 1) := by rw [Dfa.rs, stepL, hlr]
     refine region_k x9_ok fun _ hK44 => ?_
     refine s_step rfl (by decide) rfl fun _ hS => ?_
     refine hS _ _ _ ?_
     clear hS
     refine s_step rfl (by decide) rfl fun _ hS => ?_
     repeat refine And.intro qNi0 ?_
     refine hS _ _ _ ?_
     clear hS
     refine s_step rfl (by decide) rfl fun _ hS => ?_
     refine s_split hS (fun hb2 => ?_) (fun hb2 => ?_)
     ·clear hS
      try simp only [decide_eq_true_eq] at hb2
      refine s_guard (b := true) rfl (by decide) rfl rfl (fun e => absurd e (by decide)) (fun _ => ?_)
      refine s_guard (b := true) rfl (by decide) rfl rfl (fun e => absurd e (by decide)) (fun _ => ?_)
      refine s_guard (b := true) rfl (by decide) rfl rfl (fun e => absurd e (by decide)) (fun _ => ?_)
      refine s_guard (b := true) rfl (by decide) rfl rfl (fun e => absurd e (by decide)) (fun _ => ?_)
      refine s_step rfl (by decide) rfl fun _ hS => ?_
      refine hS _ _ _ ?_
      clear hS
      refine s_step rfl (by decide) rfl fun _ hS => ?_
      refine s_split hS (fun hb8 => ?_) (fun hb8 => ?_)
      rotate_left 1
      ·exfalso; simp at hb8
      clear hS
      refine s_guard (b := true) rfl (by decide) rfl rfl (fun _ _ hS => ?_) (fun e => absurd e (by decide))
      repeat refine And.intro qNi0 ?_
      first | refine hS _ _ _ ?_ | (refine whole_yes qNi0 ?_; refine hS _ _ _ ?_) | (refine whole_sub ?_; refine hS _ _ _ ?_)
      clear hS
      refine s_guard (b := true) rfl (by decide) rfl rfl (fun _ _ hS => ?_) (fun e => absurd e (by decide))
      refine hS _ _ _ ?_
      clear hS
      refine s_guard (b := true) rfl (by decide) rfl rfl (fun _ _ hS => ?_) (fun e => absurd e (by decide))
      repeat first | refine And.intro qNi0 ?_ | refine whole_yes qNi0 ?_ | refine whole_sub ?_
      refine ⟨o1, o2, k, rfl, ⟨by omega, by omega, by omega⟩, ?_⟩
      simp only [hasL_nat vo, mo, accR_any, hlr]
      repeat refine And.intro qNi0 ?_
      first | refine hS _ _ _ ?_ | (intro cap11 hcap11; refine hS _ _ _ ?_)
      clear hS
      refine s_guard (b := true) rfl (by decide) rfl rfl (fun _ _ hS => ?_) (fun e => absurd e (by decide))
      refine hS _ _ _ ?_
      clear hS
      refine s_guard (b := true) rfl (by decide) rfl rfl (fun _ _ hS => ?_) (fun e => absurd e (by decide))
      repeat refine And.intro qNi0 ?_
      refine hS _ _ _ ?_
      clear hS
      refine s_step rfl (by decide) rfl fun _ hS => ?_
      refine hS _ _ _ ?_
      clear hS
      refine s_nil ?_
      refine hK44 _ _ _ ?_
      refine hK43 _ _ _ ?_
      refine WP_cond (b := _) rfl (fun h_t92 => ?_) (fun _ => ?_)
      ·exfalso; first | (simp at h_t92; done) | exact absurd h_t92 (by decide)
      refine WP_skip ?_
      refine hK42 _ _ _ ?_
      refine region_k x9_ok fun _ hK45 => ?_
      refine s_step rfl (by decide) rfl fun _ hS => ?_
      refine hS _ _ _ ?_
      clear hS
      refine s_step rfl (by decide) rfl fun _ hS => ?_
      refine hS _ _ _ ?_
      clear hS
      refine s_nil ?_
      refine hK45 _ _ _ ?_
      refine done_block ?_
      refine hK19 _ _ _ ?_
      refine region_k x9_ok fun _ hK46 => ?_
      refine s_step rfl (by decide) rfl fun _ hS => ?_
      refine hS _ _ _ ?_
      clear hS
      refine s_step rfl (by decide) rfl fun _ hS => ?_
      repeat refine And.intro qNi0 ?_
      refine hS _ _ _ ?_
      clear hS
      refine s_step rfl (by decide) rfl fun _ hS => ?_
      refine hS _ _ _ ?_
      clear hS
      refine s_nil ?_
      refine hK46 _ _ _ ?_
      refine Done_some [] (fun i => if i = 2 then 3 else i) (k + 1) ⟨by omega, by omega⟩ ⟨?_, ?_, (by decide : List.Nodup ([0, 1, 3] : List Nat)), ?_, ?_, ⟨Nat.zero_le _, fun i hi => absurd hi (Nat.not_lt_zero i)⟩⟩
      ·exact uNi0
      ·exact uNi0
      ·exact uNi1
      ·exact uNi1
     ·clear hS
      try simp only [decide_eq_false_iff_not, Int.not_lt] at hb2
      refine s_guard (b := false) rfl (by decide) rfl rfl (fun _ _ hS => ?_) (fun e => absurd e (by decide))
      refine hS _ _ _ ?_
      clear hS
      refine s_guard (b := false) rfl (by decide) rfl rfl (fun _ _ hS => ?_) (fun e => absurd e (by decide))
      refine hS _ _ _ ?_
      clear hS
      refine s_guard (b := false) rfl (by decide) rfl rfl (fun _ _ hS => ?_) (fun e => absurd e (by decide))
      repeat first | refine And.intro qNi0 ?_ | refine whole_yes qNi0 ?_ | refine whole_sub ?_
      refine hS _ _ _ ?_
      clear hS
      refine s_guard (b := false) rfl (by decide) rfl rfl (fun _ _ hS => ?_) (fun e => absurd e (by decide))
      repeat refine And.intro qNi0 ?_
      refine hS _ _ _ ?_
      clear hS
      refine s_step rfl (by decide) rfl fun _ hS => ?_
      refine hS _ _ _ ?_
      clear hS
      refine s_step rfl (by decide) rfl fun _ hS => ?_
      refine s_split hS (fun hb8 => ?_) (fun hb8 => ?_)
      ·clear hS
       try simp only [decide_eq_true_eq, if_false, Bool.false_eq_true, Int.natCast_inj] at hb8
       refine s_guard (b := true) rfl (by decide) rfl rfl (fun _ _ hS => ?_) (fun e => absurd e (by decide))
       repeat refine And.intro qNi0 ?_
       first | refine hS _ _ _ ?_ | (refine whole_yes qNi0 ?_; refine hS _ _ _ ?_) | (refine whole_sub ?_; refine hS _ _ _ ?_)
       clear hS
       refine s_guard (b := true) rfl (by decide) rfl rfl (fun _ _ hS => ?_) (fun e => absurd e (by decide))
       refine hS _ _ _ ?_
       clear hS
       refine s_guard (b := true) rfl (by decide) rfl rfl (fun _ _ hS => ?_) (fun e => absurd e (by decide))
       repeat first | refine And.intro qNi0 ?_ | refine whole_yes qNi0 ?_ | refine whole_sub ?_
       refine ⟨o1, o2, k, rfl, ⟨by omega, by omega, by omega⟩, ?_⟩
       simp only [hasL_nat vo, mo, accR_any, hlr]
       repeat refine And.intro qNi0 ?_
       first | refine hS _ _ _ ?_ | (intro cap11 hcap11; refine hS _ _ _ ?_)
       clear hS
       refine s_guard (b := true) rfl (by decide) rfl rfl (fun _ _ hS => ?_) (fun e => absurd e (by decide))
       refine hS _ _ _ ?_
       clear hS
       refine s_guard (b := true) rfl (by decide) rfl rfl (fun _ _ hS => ?_) (fun e => absurd e (by decide))
       repeat refine And.intro qNi0 ?_
       refine hS _ _ _ ?_
       clear hS
       refine s_step rfl (by decide) rfl fun _ hS => ?_
       refine hS _ _ _ ?_
       clear hS
       refine s_nil ?_
       refine hK44 _ _ _ ?_
       refine hK43 _ _ _ ?_
       refine WP_cond (b := _) rfl (fun h_t92 => ?_) (fun _ => ?_)
       ·exfalso; first | (simp at h_t92; done) | exact absurd h_t92 (by decide)
       refine WP_skip ?_
       refine hK42 _ _ _ ?_
       refine region_k x9_ok fun _ hK47 => ?_
       refine s_step rfl (by decide) rfl fun _ hS => ?_
       refine hS _ _ _ ?_
       clear hS
       refine s_step rfl (by decide) rfl fun _ hS => ?_
       refine hS _ _ _ ?_
       clear hS
       refine s_nil ?_
       refine hK47 _ _ _ ?_
       refine done_block ?_
       refine hK19 _ _ _ ?_
       refine region_k x9_ok fun _ hK48 => ?_
       refine s_step rfl (by decide) rfl fun _ hS => ?_
       refine hS _ _ _ ?_
       clear hS
       refine s_step rfl (by decide) rfl fun _ hS => ?_
       repeat refine And.intro qNi0 ?_
       refine hS _ _ _ ?_
       clear hS
       refine s_step rfl (by decide) rfl fun _ hS => ?_
       refine hS _ _ _ ?_
       clear hS
       refine s_nil ?_
       refine hK48 _ _ _ ?_
       refine Done_some [] (fun i => if i = 2 then 3 else i) (k + 1) ⟨by omega, by omega⟩ ⟨?_, ?_, (by decide : List.Nodup ([0, 1, 3] : List Nat)), ?_, ?_, ⟨Nat.zero_le _, fun i hi => absurd hi (Nat.not_lt_zero i)⟩⟩
       ·exact uNi0
       ·exact uNi0
       ·exact uNi1
       ·exact uNi1
      ·clear hS
       try simp only [decide_eq_false_iff_not, if_false, Bool.false_eq_true, Int.natCast_inj] at hb8
       refine s_guard (b := false) rfl (by decide) rfl rfl (fun e => absurd e (by decide)) (fun _ => ?_)
       refine s_guard (b := false) rfl (by decide) rfl rfl (fun e => absurd e (by decide)) (fun _ => ?_)
       refine s_guard (b := false) rfl (by decide) rfl rfl (fun e => absurd e (by decide)) (fun _ => ?_)
       refine s_guard (b := false) rfl (by decide) rfl rfl (fun e => absurd e (by decide)) (fun _ => ?_)
       refine s_guard (b := false) rfl (by decide) rfl rfl (fun e => absurd e (by decide)) (fun _ => ?_)
       refine s_step rfl (by decide) rfl fun _ hS => ?_
       refine hS _ _ _ ?_
       clear hS
       refine s_nil ?_
       refine hK44 _ _ _ ?_
       refine hK43 _ _ _ ?_
       refine WP_cond (b := _) rfl (fun h_t92 => ?_) (fun _ => ?_)
       ·exfalso; first | (simp at h_t92; done) | exact absurd h_t92 (by decide)
       refine WP_skip ?_
       refine hK42 _ _ _ ?_
       refine region_k x9_ok fun _ hK49 => ?_
       refine s_step rfl (by decide) rfl fun _ hS => ?_
       refine hS _ _ _ ?_
       clear hS
       refine s_step rfl (by decide) rfl fun _ hS => ?_
       refine hS _ _ _ ?_
       clear hS
       refine s_nil ?_
       refine hK49 _ _ _ ?_
       refine done_block ?_
       refine hK19 _ _ _ ?_
       refine region_k x9_ok fun _ hK50 => ?_
       refine s_step rfl (by decide) rfl fun _ hS => ?_
       refine hS _ _ _ ?_
       clear hS
       refine s_step rfl (by decide) rfl fun _ hS => ?_
       repeat refine And.intro qNi0 ?_
       refine hS _ _ _ ?_
       clear hS
       refine s_step rfl (by decide) rfl fun _ hS => ?_
       refine hS _ _ _ ?_
       clear hS
       refine s_nil ?_
       refine hK50 _ _ _ ?_
       refine Done_some [] (fun i => if i = 2 then 3 else i) (k + 1) ⟨by omega, by omega⟩ ⟨?_, ?_, (by decide : List.Nodup ([0, 1, 3] : List Nat)), ?_, ?_, ⟨Nat.zero_le _, fun i hi => absurd hi (Nat.not_lt_zero i)⟩⟩
       ·exact uNi0
       ·exact uNi0
       ·exact uNi1
       ·exact uNi1
  ·try try simp only [decide_eq_false_iff_not, Int.not_lt] at h_t30
   refine WP_exit ?_
   refine done_thenx ?_
   refine done_thenx ?_
   refine Done_hit ?_
   refine hK13 _ _ _ ?_
   refine seq_k fun _ hK51 => ?_
   refine region_k x9_ok fun _ hK52 => ?_
   refine s_step rfl (by decide) rfl fun _ hS => ?_
   refine hS _ _ _ ?_
   clear hS
   refine s_step rfl (by decide) rfl fun _ hS => ?_
   refine s_split hS (fun hb1 => ?_) (fun hb1 => ?_)
   rotate_left 1
   ·exfalso; exact absurd hb1 (by decide)
   clear hS
   refine s_guard (b := true) rfl (by decide) rfl rfl (fun _ _ hS => ?_) (fun e => absurd e (by decide))
   refine hS _ _ _ ?_
   clear hS
   refine s_guard (b := true) rfl (by decide) rfl rfl (fun _ _ hS => ?_) (fun e => absurd e (by decide))
   repeat refine And.intro qNi0 ?_
   refine hS _ _ _ ?_
   clear hS
   refine s_step rfl (by decide) rfl fun _ hS => ?_
   refine hS _ _ _ ?_
   clear hS
   refine s_step rfl (by decide) rfl fun _ hS => ?_
   refine hS _ _ _ ?_
   clear hS
   refine s_nil ?_
   refine hK52 _ _ _ ?_
   refine hK51 _ _ _ ?_
   refine WP_ret (Done_flat x9_ok (fun _ _ h => h) (by first | rfl | assumption) [.tmp 4] rfl ?_)
   repeat refine And.intro (by first | omega | exact trivial | rfl | (simp <;> omega)) ?_
   try refine ite_yes (by first | omega | exact trivial | rfl | (simp <;> omega)) ?_
   rfl


end Go.Proofs.YtpfncffapgkjaaaDoor
