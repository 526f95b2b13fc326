/- The lengths of the words of an automaton. -/
import Derived.Test.YtpfncffapgkjaaaDoorAb14
import Derived.Test.YtpfncffapgkjaaaDoorAb21
import Derived.Test.YtpfncffapgkjaaaDoorAb22
import Derived.Test.YtpfncffapgkjaaaDoorCtx
import Derived.Test.YtpfncffapgkjaaaDoorLa
import Derived.Test.YtpfncffapgkjaaaDoorLc
import Derived.Test.YtpfncffapgkjaaaDoorLd
import Derived.Test.YtpfncffapgkjaaaDoorLi
import Derived.Test.YtpfncffapgkjaaaDoorLm
import Derived.Test.YtpfncffapgkjaaaDoorLo
import Derived.Test.YtpfncffapgkjaaaDoorLp
import Derived.Test.YtpfncffapgkjaaaDoorLq
namespace Go.Proofs.YtpfncffapgkjaaaDoor
set_option linter.unusedVariables false
open Go.Ab Go.RowKit

theorem qLr0 {a : Prop} (h : a := by first | omega | exact trivial | rfl | (simp only [len_u8s, len_u32s, len_u64s, len_ints, len_bools, len_cells]; omega) | exact inR_i64.mpr ⟨by omega, by omega⟩ | (simp <;> omega) | (refine And.intro ?_ ?_ <;> exact trivial) | exact ⟨trivial, trivial, trivial⟩ | decide | (refine And.intro rfl ?_; (repeat first | exact trivial | refine And.intro rfl ?_); done) | exact Nat.succ_pos _ | exact Nat.le_refl _ | (refine And.intro trivial ?_; (repeat first | exact trivial | refine And.intro trivial ?_); done)) : a := h
theorem qLr1 {a : Prop} (h : a := by first | omega | exact trivial | rfl | (simp only [len_u8s, len_u32s, len_u64s, len_ints, len_bools, len_cells]; omega) | exact inR_i64.mpr ⟨by omega, by omega⟩ | (simp <;> omega) | (simp <;> omega) | (refine And.intro ?_ ?_ <;> exact trivial) | exact ⟨trivial, trivial, trivial⟩ | decide | (refine And.intro rfl ?_; (repeat first | exact trivial | refine And.intro rfl ?_); done) | exact Nat.succ_pos _ | exact Nat.le_refl _ | (refine And.intro trivial ?_; (repeat first | exact trivial | refine And.intro trivial ?_); done)) : a := h
theorem qLr2 {a : Prop} (h : a := by first | omega | exact trivial | rfl | (simp only [len_u8s, len_u32s, len_u64s, len_ints, len_bools, len_cells]; omega) | exact inR_i64.mpr ⟨by omega, by omega⟩ | (simp [hlen] <;> omega) | (rw [hsj]; omega) | (refine And.intro ?_ ?_ <;> exact trivial) | exact ⟨trivial, trivial, trivial⟩ | decide | (refine And.intro rfl ?_; (repeat first | exact trivial | refine And.intro rfl ?_); done) | exact Nat.succ_pos _ | exact Nat.le_refl _ | (refine And.intro trivial ?_; (repeat first | exact trivial | refine And.intro trivial ?_); done)) : a := h
theorem qLr3 {a : Prop} (h : a := by first | omega | exact trivial | rfl | (simp only [len_u8s, len_u32s, len_u64s, len_ints, len_bools, len_cells]; omega) | exact inR_i64.mpr ⟨by omega, by omega⟩ | (simp [hfl] <;> omega) | (refine And.intro ?_ ?_ <;> exact trivial) | exact ⟨trivial, trivial, trivial⟩ | decide | (refine And.intro rfl ?_; (repeat first | exact trivial | refine And.intro rfl ?_); done) | exact Nat.succ_pos _ | exact Nat.le_refl _ | (refine And.intro trivial ?_; (repeat first | exact trivial | refine And.intro trivial ?_); done)) : a := h

theorem uLr0 {a : Prop} (h : a := by
    repeat' (first | exact trivial | refine And.intro ?_ ?_ | rfl | omega | decide | (show (_ : Nat) < _; decide) | exact low_nil' | refine low_cons' ?_ ?_ | exact Nat.le_refl _ | exact Nat.succ_pos _)
    all_goals first | omega | exact low_rows _ | exact seen_flat _ _ | exact seen_low _ _ _ | (rw [hms]; exact seen_flat _ _) | (rw [hms]; exact seen_low _ _ _) | exact low_cons' trivial (low_cons' trivial (low_cons' trivial low_nil')) | (show (_ : List UInt64) = _; first | rfl | exact hst | exact (folL_set _ hkn).symm | exact hrow2 | (simp [folL]; done)) | (show (_ : UInt64) = _; first | rfl | exact hacc | exact hfin | exact hnx) | (show (_ : List Bool) = _; first | rfl | exact hfs) | (show (_ : List (SV × SV)) = _; first | rfl | exact hms) | (simp; done) | (simp <;> omega) | skip) : a := h

noncomputable def r1 : Ctx := { P := Tryd.prog, ty := ty, glob := gl, fs := [(45, .flat validAS), (46, .flat tzS), (32, .data (canonS 47 of1S))] }
theorem r1_ok : r1.OK := ⟨tyOK, ⟨⟨enters_mk Tryd.func45 (by kernel_rfl) rfl, validA_ok⟩, ⟨enters_mk Tryd.func46 (by kernel_rfl) rfl, tz_ok⟩, ⟨enters_mk Tryd.func32 (by kernel_rfl) rfl, canon_ok (enters_mk Tryd.func47 (by kernel_rfl) rfl) ⟨by decide, by decide⟩ of1_ok⟩, trivial⟩, mixed⟩
@[simp] theorem r1_ty : r1.ty = ty := rfl

def ofPS : QSpec := fun vs K => ∃ d : Dfa, vs = [dfaV d] ∧ d.wf ∧ d.next.length ≤ 8 ∧ K (outV (ofL d))
set_option maxHeartbeats 2000000 in
theorem ofP_ok : DataOK Tryd.prog gl 30 ofPS := by
 refine data_of (Γ := r1) (N := 103) Tryd.func30 rfl rfl fun vs K h => ?_
 obtain ⟨d, rfl, hw, h8, h⟩ := h
 refine ⟨_, h, low_outV, by simp, fun w I => ?_⟩
 refine seq_k fun _ hK1 => ?_
 refine region_k r1_ok fun _ hK2 => ?_
 refine s_step rfl (by decide) rfl fun _ hS => ?_
 repeat refine And.intro qLr0 ?_
 refine hS _ _ _ ?_
 clear hS
 refine s_step rfl (by decide) rfl fun _ hS => ?_
 repeat refine And.intro qLr0 ?_
 refine hS _ _ _ ?_
 clear hS
 refine s_step rfl (by decide) rfl fun _ hS => ?_
 refine hS _ _ _ ?_
 clear hS
 refine s_nil ?_
 refine hK2 _ _ _ ?_
 refine hK1 _ _ _ ?_
 refine WP_scope ?_
 refine seq_k fun _ hK3 => ?_
 refine seq_k fun _ hK4 => ?_
 refine region_k r1_ok fun _ hK5 => ?_
 refine s_step rfl (by decide) rfl fun _ hS => ?_
 repeat refine And.intro qLr0 ?_
 first | refine hS _ _ _ ?_ | (refine whole_yes qLr0 ?_; refine hS _ _ _ ?_) | (refine whole_sub ?_; refine hS _ _ _ ?_)
 clear hS
 refine s_step rfl (by decide) rfl fun _ hS => ?_
 repeat first | refine And.intro qLr0 ?_ | refine whole_yes qLr0 ?_ | refine whole_sub ?_
 refine ⟨d, rfl, hw, ?_⟩
 repeat refine And.intro qLr0 ?_
 first | refine hS _ _ _ ?_ | (intro cap1 hcap1; refine hS _ _ _ ?_)
 clear hS
 refine s_step rfl (by decide) rfl fun _ hS => ?_
 refine hS _ _ _ ?_
 clear hS
 refine s_nil ?_
 refine hK5 _ _ _ ?_
 refine hK4 _ _ _ ?_
 refine WP_cond (b := _) rfl (fun h_t20 => ?_) (fun h_t20 => ?_)
 ·try try simp only [Bool.not_eq_eq_eq_not, Bool.not_true] at h_t20
  refine seq_k fun _ hK6 => ?_
  refine region_k r1_ok fun _ hK7 => ?_
  refine s_step rfl (by decide) rfl fun _ hS => ?_
  repeat refine And.intro qLr0 ?_
  refine hS _ _ _ ?_
  clear hS
  refine s_step0 rfl rfl fun _ hS => ?_
  repeat refine And.intro qLr0 ?_
  first | refine hS _ _ _ ?_ | (refine splice_full qLr0 ?_; refine hS _ _ _ ?_)
  clear hS
  refine s_step rfl (by decide) rfl fun _ hS => ?_
  refine hS _ _ _ ?_
  clear hS
  refine s_nil ?_
  refine hK7 _ _ _ ?_
  refine hK6 _ _ _ ?_
  refine WP_ret (Done_data r1_ok (fun _ _ h => h) (low_outV) [] [.cell 2 24, .tmp 3] rfl ?_)
  rw [ofL, if_neg (by simpa using h_t20)]
  repeat' (first | exact trivial | refine And.intro ?_ ?_ | rfl | omega | decide | (show (_ : Nat) < _; decide) | exact low_nil' | refine low_cons' ?_ ?_ | exact Nat.le_refl _ | exact Nat.succ_pos _)
 ·try try simp only [Bool.not_eq_eq_eq_not, Bool.not_false] at h_t20
  refine WP_skip ?_
  refine hK3 _ _ _ ?_
  refine seq_k fun _ hK8 => ?_
  have hv : validD d = true := by simpa using h_t20
  obtain ⟨⟨hb1, hb2, hb3, hb4, hb5⟩, hrows⟩ := validD_spec hv
  refine region_k r1_ok fun _ hK9 => ?_
  refine s_step rfl (by decide) rfl fun _ hS => ?_
  refine hS _ _ _ ?_
  clear hS
  refine s_nil ?_
  refine hK9 _ _ _ ?_
  refine hK8 _ _ _ ?_
  refine seq_k fun _ hK10 => ?_
  refine region_k r1_ok fun _ hK11 => ?_
  refine s_step rfl (by decide) rfl fun _ hS => ?_
  repeat refine And.intro qLr0 ?_
  refine hS _ _ _ ?_
  clear hS
  refine s_step rfl (by decide) rfl fun _ hS => ?_
  repeat refine And.intro qLr0 ?_
  first | refine hS _ _ _ ?_ | (refine whole_yes qLr0 ?_; refine hS _ _ _ ?_) | (refine whole_sub ?_; refine hS _ _ _ ?_)
  clear hS
  refine s_step rfl (by decide) rfl fun _ hS => ?_
  repeat refine And.intro qLr0 ?_
  refine hS _ _ _ ?_
  clear hS
  refine s_step rfl (by decide) rfl fun _ hS => ?_
  repeat refine And.intro qLr0 ?_
  refine hS _ _ _ ?_
  clear hS
  refine s_step rfl (by decide) rfl fun _ hS => ?_
  refine hS _ _ _ ?_
  clear hS
  refine s_nil ?_
  refine hK11 _ _ _ ?_
  refine hK10 _ _ _ ?_
  refine seq_k fun _ hK12 => ?_
  refine seq_k fun _ hK13 => ?_
  refine region_k r1_ok fun _ hK14 => ?_
  refine s_step rfl (by decide) rfl fun _ hS => ?_
  repeat refine And.intro qLr0 ?_
  refine hS _ _ _ ?_
  clear hS
  refine s_step rfl (by decide) rfl fun _ hS => ?_
  repeat refine And.intro qLr0 ?_
  first | refine hS _ _ _ ?_ | (refine whole_yes qLr0 ?_; refine hS _ _ _ ?_) | (refine whole_sub ?_; refine hS _ _ _ ?_)
  clear hS
  refine s_step rfl (by decide) rfl fun _ hS => ?_
  repeat refine And.intro qLr0 ?_
  refine hS _ _ _ ?_
  clear hS
  refine s_step rfl (by decide) rfl fun _ hS => ?_
  refine hS _ _ _ ?_
  clear hS
  refine s_nil ?_
  refine hK14 _ _ _ ?_
  refine hK13 _ _ _ ?_
  refine WP_block ?_
  refine WP_loop (α := Nat) (fun k => [(1, .c (.ptr 0 0)), (2, .c (.ptr 1 0)), (3, .c (.int .i64 0)), (5, .c (.slice 2 0 d.next.length d.next.length)), (4, .c (.u64 (accU d.acc k))), (27, .c (.ds d.next.length (.cells (rowsC d.next)))), (28, .c (.int .i64 d.next.length)), (29, .c (.int .i64 k))]) (fun k => [(0, .own 40 (dfaC d) 3), (1, .own 24 (.cells [.nils, .nils]) 2), (2, .own 50 (.u64s (folL d.next k)) d.next.length)]) 3 (fun k => k ≤ d.next.length) (fun k => d.next.length - k) ?_ ?_
  ·refine Done_some [] id 0 (Nat.zero_le _) ⟨?_, ?_, (by decide : List.Nodup ([0, 1, 2] : List Nat)), ?_, ?_, ⟨Nat.zero_le _, fun i hi => absurd hi (Nat.not_lt_zero i)⟩⟩
   ·exact uLr0
   ·exact uLr0
   ·exact uLr0
   ·exact uLr0
  ·intro k hk
   refine seq_k fun _ hK15 => ?_
   refine region_k r1_ok fun _ hK16 => ?_
   refine s_step rfl (by decide) rfl fun _ hS => ?_
   repeat refine And.intro qLr0 ?_
   refine hS _ _ _ ?_
   clear hS
   refine s_nil ?_
   refine hK16 _ _ _ ?_
   refine hK15 _ _ _ ?_
   refine seq_k fun _ hK17 => ?_
   refine WP_cond (b := _) rfl (fun h_t30 => ?_) (fun h_t30 => ?_)
   ·try try simp only [decide_eq_true_eq] at h_t30
    refine WP_skip ?_
    refine hK17 _ _ _ ?_
    refine seq_k fun _ hK18 => ?_
    refine WP_block ?_
    refine seq_k fun _ hK19 => ?_
    have hkn : k < d.next.length := by omega
    obtain ⟨hrl, hrt⟩ := hrows k hkn
    refine region_k r1_ok fun _ hK20 => ?_
    refine s_step rfl (by decide) rfl fun _ hS => ?_
    refine hS _ _ _ ?_
    clear hS
    refine s_step rfl (by decide) rfl fun _ hS => ?_
    repeat refine And.intro qLr0 ?_
    refine hS _ _ _ ?_
    clear hS
    refine s_step rfl (by decide) rfl fun _ hS => ?_
    repeat refine And.intro qLr0 ?_
    rw [show (k : Int).toNat * 1 = k by omega, get_rows hkn]
    first | refine hS _ _ _ ?_ | (refine whole_yes qLr0 ?_; refine hS _ _ _ ?_) | (refine whole_sub ?_; refine hS _ _ _ ?_)
    clear hS
    refine s_step rfl (by decide) rfl fun _ hS => ?_
    refine hS _ _ _ ?_
    clear hS
    refine s_step rfl (by decide) rfl fun _ hS => ?_
    refine hS _ _ _ ?_
    clear hS
    refine s_nil ?_
    refine hK20 _ _ _ ?_
    refine hK19 _ _ _ ?_
    refine WP_cut (α := Unit) (fun _ => [(1, .c (.ptr 0 0)), (2, .c (.ptr 1 0)), (3, .c (.int .i64 0)), (5, .c (.slice 2 0 d.next.length d.next.length)), (4, .c (.u64 (accU d.acc (k + 1)))), (6, .c (.int .i64 k)), (7, .c (.ds (d.next.getD k []).length (.ints .i64 (d.next.getD k [])))), (27, .c (.ds d.next.length (.cells (rowsC d.next)))), (28, .c (.int .i64 d.next.length)), (29, .c (.int .i64 k))]) (fun _ => [(0, .own 40 (dfaC d) 3), (1, .own 24 (.cells [.nils, .nils]) 2), (2, .own 50 (.u64s (folL d.next k)) d.next.length)]) 3 (fun _ => True) ?_ ?_
    ·skip
     refine seq_k fun _ hK21 => ?_
     refine region_k r1_ok fun _ hK22 => ?_
     refine s_step rfl (by decide) rfl fun _ hS => ?_
     repeat refine And.intro qLr1 ?_
     refine hS _ _ _ ?_
     clear hS
     refine s_step rfl (by decide) rfl fun _ hS => ?_
     repeat refine And.intro qLr1 ?_
     first | refine hS _ _ _ ?_ | (refine whole_yes qLr1 ?_; refine hS _ _ _ ?_) | (refine whole_sub ?_; refine hS _ _ _ ?_)
     clear hS
     refine s_step rfl (by decide) rfl fun _ hS => ?_
     refine hS _ _ _ ?_
     clear hS
     refine s_step rfl (by decide) rfl fun _ hS => ?_
     repeat refine And.intro qLr1 ?_
     refine hS _ _ _ ?_
     clear hS
     refine s_step rfl (by decide) rfl fun _ hS => ?_
     repeat refine And.intro qLr1 ?_
     first | refine hS _ _ _ ?_ | (refine whole_yes qLr1 ?_; refine hS _ _ _ ?_) | (refine whole_sub ?_; refine hS _ _ _ ?_)
     clear hS
     refine s_nil ?_
     refine hK22 _ _ _ ?_
     refine hK21 _ _ _ ?_
     refine WP_cond (b := _) rfl (fun h_t38 => ?_) (fun h_t38 => ?_)
     ·have hacc : accU d.acc k ||| (if true = true then shl64 1 (k : Int).toNat else shr64 1 (k : Int).toNat) = accU d.acc (k + 1) := by
       rw [if_pos (rfl : true = true), Int.toNat_natCast, accU, if_pos (by simpa using h_t38)]
      refine region_k r1_ok fun _ hK23 => ?_
      refine s_step rfl (by decide) rfl fun _ hS => ?_
      refine hS _ _ _ ?_
      clear hS
      refine s_step rfl (by decide) rfl fun _ hS => ?_
      refine hS _ _ _ ?_
      clear hS
      refine s_step rfl (by decide) rfl fun _ hS => ?_
      repeat refine And.intro qLr0 ?_
      refine hS _ _ _ ?_
      clear hS
      refine s_step rfl (by decide) rfl fun _ hS => ?_
      repeat refine And.intro qLr0 ?_
      refine hS _ _ _ ?_
      clear hS
      refine s_step rfl (by decide) rfl fun _ hS => ?_
      refine hS _ _ _ ?_
      clear hS
      refine s_nil ?_
      refine hK23 _ _ _ ?_
      refine Done_some [] id () trivial ⟨?_, ?_, (by decide : List.Nodup ([0, 1, 2] : List Nat)), ?_, ?_, ⟨Nat.zero_le _, fun i hi => absurd hi (Nat.not_lt_zero i)⟩⟩
      ·exact uLr0
      ·exact uLr0
      ·exact uLr0
      ·exact uLr0
     ·have hacc : accU d.acc k = accU d.acc (k + 1) := by
       rw [accU, if_neg (by simpa using h_t38)]
      refine WP_skip ?_
      refine Done_some [] id () trivial ⟨?_, ?_, (by decide : List.Nodup ([0, 1, 2] : List Nat)), ?_, ?_, ⟨Nat.zero_le _, fun i hi => absurd hi (Nat.not_lt_zero i)⟩⟩
      ·exact uLr0
      ·exact uLr0
      ·exact uLr0
      ·exact uLr0
    ·intro _ _
     refine seq_k fun _ hK24 => ?_
     refine region_k r1_ok fun _ hK25 => ?_
     refine s_step rfl (by decide) rfl fun _ hS => ?_
     refine hS _ _ _ ?_
     clear hS
     refine s_step rfl (by decide) rfl fun _ hS => ?_
     repeat refine And.intro qLr0 ?_
     refine hS _ _ _ ?_
     clear hS
     refine s_step rfl (by decide) rfl fun _ hS => ?_
     refine hS _ _ _ ?_
     clear hS
     refine s_nil ?_
     refine hK25 _ _ _ ?_
     refine hK24 _ _ _ ?_
     refine WP_block ?_
     refine WP_loop (α := Nat) (fun j => [(1, .c (.ptr 0 0)), (2, .c (.ptr 1 0)), (3, .c (.int .i64 0)), (5, .c (.slice 2 0 d.next.length d.next.length)), (4, .c (.u64 (accU d.acc (k + 1)))), (6, .c (.int .i64 k)), (27, .c (.ds d.next.length (.cells (rowsC d.next)))), (28, .c (.int .i64 d.next.length)), (29, .c (.int .i64 k)), (43, .c (.ds (d.next.getD k []).length (.ints .i64 (d.next.getD k [])))), (44, .c (.int .i64 (d.next.getD k []).length)), (45, .c (.int .i64 j))]) (fun j => [(0, .own 40 (dfaC d) 3), (1, .own 24 (.cells [.nils, .nils]) 2), (2, .own 50 (.u64s ((folL d.next k).set k (rowU (d.next.getD k []) j))) d.next.length)]) 3 (fun j => j ≤ (d.next.getD k []).length) (fun j => (d.next.getD k []).length - j) ?_ ?_
     ·refine Done_some [] id 0 (Nat.zero_le _) ⟨?_, ?_, (by decide : List.Nodup ([0, 1, 2] : List Nat)), ?_, ?_, ⟨Nat.zero_le _, fun i hi => absurd hi (Nat.not_lt_zero i)⟩⟩
      ·exact uLr0
      ·exact uLr0
      ·exact uLr0
      ·exact uLr0
     ·intro j hj
      refine seq_k fun _ hK26 => ?_
      refine region_k r1_ok fun _ hK27 => ?_
      refine s_step rfl (by decide) rfl fun _ hS => ?_
      repeat refine And.intro qLr0 ?_
      refine hS _ _ _ ?_
      clear hS
      refine s_nil ?_
      refine hK27 _ _ _ ?_
      refine hK26 _ _ _ ?_
      refine seq_k fun _ hK28 => ?_
      refine WP_cond (b := _) rfl (fun h_t46 => ?_) (fun h_t46 => ?_)
      ·try try simp only [decide_eq_true_eq] at h_t46
       refine WP_skip ?_
       refine hK28 _ _ _ ?_
       refine seq_k fun _ hK29 => ?_
       refine WP_block ?_
       refine seq_k fun _ hK30 => ?_
       have hjr : j < (d.next.getD k []).length := by omega
       obtain ⟨ht0, ht1⟩ := hrt j hjr
       refine region_k r1_ok fun _ hK31 => ?_
       refine s_step rfl (by decide) rfl fun _ hS => ?_
       repeat refine And.intro qLr0 ?_
       refine hS _ _ _ ?_
       clear hS
       refine s_step rfl (by decide) rfl fun _ hS => ?_
       repeat refine And.intro qLr0 ?_
       first | refine hS _ _ _ ?_ | (refine whole_yes qLr0 ?_; refine hS _ _ _ ?_) | (refine whole_sub ?_; refine hS _ _ _ ?_)
       clear hS
       refine s_step rfl (by decide) rfl fun _ hS => ?_
       refine hS _ _ _ ?_
       clear hS
       refine s_nil ?_
       refine hK31 _ _ _ ?_
       have hsj : ((d.next.getD k []).getD ((j : Int).toNat * 1) 0) = (d.next.getD k []).getD j 0 := by rw [show (j : Int).toNat * 1 = j by omega]
       refine hK30 _ _ _ ?_
       have hi1 : 0 + (k : Int).toNat * 1 = k := by omega
       have hlen : ((folL d.next k).set k (rowU (d.next.getD k []) j)).length = d.next.length := by simp
       refine sched_k r1_ok [(0, true), (1, true), (2, true), (3, true), (4, true), (5, true), (6, true), (7, true), (8, false)] rfl (by kernel_rfl) (by kernel_rfl) fun _ hK32 => ?_
       refine d_read rfl rfl (by decide) rfl fun _ hS => ?_
       refine hS _ ?_
       clear hS
       refine d_read rfl rfl (by decide) rfl fun _ hS => ?_
       refine hS _ ?_
       clear hS
       refine d_read rfl rfl (by decide) rfl fun _ hS => ?_
       repeat refine And.intro qLr2 ?_
       refine hS _ ?_
       clear hS
       refine d_read rfl rfl (by decide) rfl fun _ hS => ?_
       repeat refine And.intro qLr2 ?_
       first | refine hS _ ?_ | (refine whole_yes qLr2 ?_; refine hS _ ?_) | (refine whole_sub ?_; refine hS _ ?_)
       clear hS
       refine d_read rfl rfl (by decide) rfl fun _ hS => ?_
       refine hS _ ?_
       clear hS
       refine d_read rfl rfl (by decide) rfl fun _ hS => ?_
       repeat refine And.intro qLr2 ?_
       refine hS _ ?_
       clear hS
       refine d_read rfl rfl (by decide) rfl fun _ hS => ?_
       repeat refine And.intro qLr2 ?_
       refine hS _ ?_
       clear hS
       refine d_read rfl rfl (by decide) rfl fun _ hS => ?_
       repeat refine And.intro qLr2 ?_
       refine hS _ ?_
       clear hS
       refine d_grow0 rfl rfl rfl fun _ hS => ?_
       repeat refine And.intro qLr2 ?_
       first | refine hS _ _ _ ?_ | (refine splice_full qLr2 ?_; refine hS _ _ _ ?_)
       clear hS
       refine d_nil ?_
       refine hK32 _ _ _ ?_
       have hrow2 : (((folL d.next k).set k (rowU (d.next.getD k []) j)).set (0 + (k : Int).toNat * 1) (((folL d.next k).set k (rowU (d.next.getD k []) j)).getD (0 + (k : Int).toNat * 1) 0 ||| (if true = true then shl64 1 ((d.next.getD k []).getD ((j : Int).toNat * 1) 0).toNat else shr64 1 ((d.next.getD k []).getD ((j : Int).toNat * 1) 0).toNat))) = ((folL d.next k).set k (rowU (d.next.getD k []) (j + 1))) := by
        rw [hi1, if_pos rfl, hsj, getD_set (by simp; omega), if_pos rfl, List.set_set]
        rfl
       refine done_block ?_
       refine hK29 _ _ _ ?_
       refine region_k r1_ok fun _ hK33 => ?_
       refine s_step rfl (by decide) rfl fun _ hS => ?_
       repeat refine And.intro qLr0 ?_
       refine hS _ _ _ ?_
       clear hS
       refine s_step rfl (by decide) rfl fun _ hS => ?_
       refine hS _ _ _ ?_
       clear hS
       refine s_nil ?_
       refine hK33 _ _ _ ?_
       refine Done_some [] id (j + 1) ⟨by omega, by omega⟩ ⟨?_, ?_, (by decide : List.Nodup ([0, 1, 2] : List Nat)), ?_, ?_, ⟨Nat.zero_le _, fun i hi => absurd hi (Nat.not_lt_zero i)⟩⟩
       ·exact uLr0
       ·exact uLr0
       ·exact uLr0
       ·exact uLr0
      ·try try simp only [decide_eq_false_iff_not, Int.not_lt] at h_t46
       refine WP_exit ?_
       refine done_thenx ?_
       refine done_thenx ?_
       refine Done_hit ?_
       refine done_block ?_
       refine hK18 _ _ _ ?_
       have hst : ((folL d.next k).set k (rowU (d.next.getD k []) j)) = folL d.next (k + 1) := by rw [show j = (d.next.getD k []).length by omega]; rfl
       refine region_k r1_ok fun _ hK34 => ?_
       refine s_step rfl (by decide) rfl fun _ hS => ?_
       repeat refine And.intro qLr0 ?_
       refine hS _ _ _ ?_
       clear hS
       refine s_step rfl (by decide) rfl fun _ hS => ?_
       refine hS _ _ _ ?_
       clear hS
       refine s_nil ?_
       refine hK34 _ _ _ ?_
       refine Done_some [] id (k + 1) ⟨by omega, by omega⟩ ⟨?_, ?_, (by decide : List.Nodup ([0, 1, 2] : List Nat)), ?_, ?_, ⟨Nat.zero_le _, fun i hi => absurd hi (Nat.not_lt_zero i)⟩⟩
       ·exact uLr0
       ·exact uLr0
       ·exact uLr0
       ·exact uLr0
   ·try try simp only [decide_eq_false_iff_not, Int.not_lt] at h_t30
    refine WP_exit ?_
    refine done_thenx ?_
    refine done_thenx ?_
    refine Done_hit ?_
    refine hK12 _ _ _ ?_
    refine seq_k fun _ hK35 => ?_
    obtain rfl : k = d.next.length := by omega
    refine region_k r1_ok fun _ hK36 => ?_
    refine s_step rfl (by decide) rfl fun _ hS => ?_
    repeat refine And.intro qLr0 ?_
    refine hS _ _ _ ?_
    clear hS
    refine s_nil ?_
    refine hK36 _ _ _ ?_
    refine hK35 _ _ _ ?_
    refine seq_k fun _ hK37 => ?_
    refine region_k r1_ok fun _ hK38 => ?_
    refine s_step rfl (by decide) rfl fun _ hS => ?_
    repeat refine And.intro qLr0 ?_
    refine hS _ _ _ ?_
    clear hS
    refine s_step rfl (by decide) rfl fun _ hS => ?_
    refine hS _ _ _ ?_
    clear hS
    refine s_nil ?_
    refine hK38 _ _ _ ?_
    refine hK37 _ _ _ ?_
    refine seq_k fun _ hK39 => ?_
    refine region_k r1_ok fun _ hK40 => ?_
    refine s_step rfl (by decide) rfl fun _ hS => ?_
    refine hS _ _ _ ?_
    clear hS
    refine s_nil ?_
    refine hK40 _ _ _ ?_
    refine hK39 _ _ _ ?_
    refine seq_k fun _ hK41 => ?_
    refine region_k r1_ok fun _ hK42 => ?_
    refine s_step rfl (by decide) rfl fun _ hS => ?_
    refine hS _ _ _ ?_
    clear hS
    refine s_nil ?_
    refine hK42 _ _ _ ?_
    refine hK41 _ _ _ ?_
    refine seq_k fun _ hK43 => ?_
    refine WP_label ?_
    refine hK43 _ _ _ ?_
    refine seq_k fun _ hK44 => ?_
    refine WP_block ?_
    refine WP_nilat 3 0 4 (.bools []) rfl rfl rfl trivial ?_
    refine WP_loop (α := Nat × Nat) (fun k => [(1, .c (.ptr 0 0)), (2, .c (.ptr 1 0)), (3, .c (.int .i64 0)), (5, .c (.slice 2 0 d.next.length d.next.length)), (4, .c (.u64 (accU d.acc d.next.length))), (10, .c (.ptr 3 0)), (11, .c (.map 4)), (13, .c (.int .i64 0)), (12, .c (.u64 (d.seq k.1)))]) (fun k => [(0, .own 40 (dfaC d) 3), (1, .own 24 (.cells [.nils, .nils]) 2), (2, .own 50 (.u64s d.fol) d.next.length), (3, .own 22 (.cells [.slice 5 0 k.1 k.2]) 1), (4, .mp 63 (seenM d k.1)), (5, .own 4 (.bools (foundL d k.1)) k.2)]) 6 (fun k => k.1 ≤ 256 ∧ (∀ i j, i < j → j < k.1 → d.seq i ≠ d.seq j) ∧ findRep d.seq (257 - k.1) k.1 = findRep d.seq 257 0) (fun k => 256 - k.1) ?_ ?_
    ·refine Done_some [] id (0, 0) ⟨Nat.zero_le _, fun i j _ h => absurd h (Nat.not_lt_zero j), rfl⟩ ⟨?_, ?_, (by decide : List.Nodup ([0, 1, 2, 3, 4, 5] : List Nat)), ?_, ?_, ⟨Nat.zero_le _, fun i hi => absurd hi (Nat.not_lt_zero i)⟩⟩
     ·exact uLr0
     ·exact uLr0
     ·exact uLr0
     ·exact uLr0
    ·intro k hk
     refine WP_block ?_
     refine seq_k fun _ hK45 => ?_
     refine seq_k fun _ hK46 => ?_
     refine region_k r1_ok fun _ hK47 => ?_
     refine s_step rfl (by decide) rfl fun _ hS => ?_
     refine hS _ _ _ ?_
     clear hS
     refine s_step rfl (by decide) rfl fun _ hS => ?_
     refine hS _ _ _ ?_
     clear hS
     refine s_step rfl (by decide) rfl fun _ hS => ?_
     refine And.intro rfl (And.intro (seen_keys d k.1) (And.intro (fun j v hj => ?_) (fun hno => ?_)))
     ·skip
      obtain ⟨hjk, hje, rfl⟩ := seen_get hj
      refine hS _ _ _ ?_
      clear hS
      refine s_step rfl (by decide) rfl fun _ hS => ?_
      refine hS _ _ _ ?_
      clear hS
      refine s_step rfl (by decide) rfl fun _ hS => ?_
      repeat refine And.intro qLr0 ?_
      refine hS _ _ _ ?_
      clear hS
      refine s_step rfl (by decide) rfl fun _ hS => ?_
      repeat refine And.intro qLr0 ?_
      refine hS _ _ _ ?_
      clear hS
      refine s_step rfl (by decide) rfl fun _ hS => ?_
      refine hS _ _ _ ?_
      clear hS
      refine s_step rfl (by decide) rfl fun _ hS => ?_
      refine hS _ _ _ ?_
      clear hS
      refine s_nil ?_
      refine hK47 _ _ _ ?_
      refine hK46 _ _ _ ?_
      refine seq_k fun _ hK48 => ?_
      refine region_k r1_ok fun _ hK49 => ?_
      refine s_step rfl (by decide) rfl fun _ hS => ?_
      refine hS _ _ _ ?_
      clear hS
      refine s_nil ?_
      refine hK49 _ _ _ ?_
      refine hK48 _ _ _ ?_
      refine WP_cond (b := _) rfl (fun _ => ?_) (fun h_t66 => ?_)
      rotate_left 1
      ·exfalso; cases h_t66
      refine seq_k fun _ hK50 => ?_
      refine region_k r1_ok fun _ hK51 => ?_
      refine s_step rfl (by decide) rfl fun _ hS => ?_
      refine hS _ _ _ ?_
      clear hS
      refine s_step rfl (by decide) rfl fun _ hS => ?_
      refine hS _ _ _ ?_
      clear hS
      refine s_nil ?_
      refine hK51 _ _ _ ?_
      refine hK50 _ _ _ ?_
      refine WP_exit ?_
      refine done_thenx ?_
      refine Done_miss (by decide) ?_
      refine done_thenx ?_
      refine Done_hit ?_
      refine hK44 _ _ _ ?_
      refine seq_k fun _ hK52 => ?_
      have hrep : findRep d.seq 257 0 = some (j, k.1) := by
       rw [← hk.2.2, show 257 - k.1 = (256 - k.1) + 1 by omega]
       exact findRep_found hjk hje hk.2.1
      have hO : ofL d = canonO d.accB j (k.1 - j) := by rw [ofL, if_pos hv, hrep]
      refine WP_le (is := [5]) (ρ := id) (E' := [(2, .c (.ptr 1 0)), (13, .c (.int .i64 j)), (10, .c (.ptr 3 0))]) (H' := [(1, .own 24 (.cells [.nils, .nils]) 2), (3, .own 22 (.cells [(.ds (foundL d k.1).length (.bools (foundL d k.1)))]) 1)]) (n' := 6) ⟨?_, ?_, (by decide : List.Nodup ([1, 3] : List Nat)), ?_, ?_, ⟨Nat.zero_le _, fun i hi => absurd hi (Nat.not_lt_zero i)⟩⟩ ?_
      ·exact uLr0
      ·repeat' (first | exact trivial | refine And.intro ?_ ?_ | rfl | omega | decide | (show (_ : Nat) < _; decide) | exact low_nil' | refine low_cons' ?_ ?_ | exact Nat.le_refl _ | exact Nat.succ_pos _)
       all_goals first | omega | exact (foundL_length d k.1).symm | (rw [if_pos ⟨rfl, by simp⟩]; rfl) | exact low_rows _ | exact seen_flat _ _ | exact seen_low _ _ _ | (rw [hms]; exact seen_flat _ _) | (rw [hms]; exact seen_low _ _ _) | exact low_cons' trivial (low_cons' trivial (low_cons' trivial low_nil')) | (show (_ : List UInt64) = _; first | rfl | exact hst | exact (folL_set _ hkn).symm | exact hrow2 | (simp [folL]; done)) | (show (_ : UInt64) = _; first | rfl | exact hacc | exact hfin | exact hnx) | (show (_ : List Bool) = _; first | rfl | exact hfs) | (show (_ : List (SV × SV)) = _; first | rfl | exact hms) | (simp; done) | (simp <;> omega) | skip
      ·exact uLr0
      ·exact uLr0
      refine WP_le (is := [3]) (ρ := id) (E' := [(2, .c (.ptr 1 0)), (13, .c (.int .i64 j)), (10, .c (.dp (.cells [(.ds (foundL d k.1).length (.bools (foundL d k.1)))]) 0))]) (H' := [(1, .own 24 (.cells [.nils, .nils]) 2)]) (n' := 6) ⟨?_, ?_, (by decide : List.Nodup ([1] : List Nat)), ?_, ?_, ⟨Nat.zero_le _, fun i hi => absurd hi (Nat.not_lt_zero i)⟩⟩ ?_
      ·exact uLr0
      ·exact uLr0
      ·exact uLr0
      ·exact uLr0
      refine region_k r1_ok fun _ hK53 => ?_
      refine s_step rfl (by decide) rfl fun _ hS => ?_
      refine hS _ _ _ ?_
      clear hS
      refine s_step rfl (by decide) rfl fun _ hS => ?_
      repeat refine And.intro qLr0 ?_
      first | refine hS _ _ _ ?_ | (refine whole_yes qLr0 ?_; refine hS _ _ _ ?_) | (refine whole_sub ?_; refine hS _ _ _ ?_)
      clear hS
      refine s_step rfl (by decide) rfl fun _ hS => ?_
      repeat refine And.intro qLr0 ?_
      refine hS _ _ _ ?_
      clear hS
      refine s_step rfl (by decide) rfl fun _ hS => ?_
      refine hS _ _ _ ?_
      clear hS
      refine s_step rfl (by decide) rfl fun _ hS => ?_
      repeat refine And.intro qLr0 ?_
      refine hS _ _ _ ?_
      clear hS
      refine s_step rfl (by decide) rfl fun _ hS => ?_
      repeat refine And.intro qLr0 ?_
      refine hS _ _ _ ?_
      clear hS
      refine s_step rfl (by decide) rfl fun _ hS => ?_
      repeat first | refine And.intro qLr0 ?_ | refine whole_yes qLr0 ?_ | refine whole_sub ?_
      refine ⟨_, d.accB, j, k.1 - j, by rw [foundL_length, show ((k.1 - j : Nat) : Int) = (k.1 : Int) - j by omega], ⟨by omega, by omega⟩, ⟨dataC_cons dataC_dp dataC_nil, fun n hn => ⟨foundL d k.1, n, rfl, ⟨by rw [foundL_length]; omega, by rw [foundL_length]; omega⟩, by rw [foundL_get d (by omega)]⟩⟩, ?_⟩
      repeat refine And.intro qLr0 ?_
      first | refine hS _ _ _ ?_ | (intro cap6 hcap6; refine hS _ _ _ ?_)
      clear hS
      refine s_step rfl (by decide) rfl fun _ hS => ?_
      repeat refine And.intro qLr0 ?_
      refine hS _ _ _ ?_
      clear hS
      refine s_step rfl (by decide) rfl fun _ hS => ?_
      repeat refine And.intro qLr0 ?_
      refine hS _ _ _ ?_
      clear hS
      refine s_step0 rfl rfl fun _ hS => ?_
      repeat refine And.intro qLr0 ?_
      first | refine hS _ _ _ ?_ | (refine splice_full qLr0 ?_; refine hS _ _ _ ?_)
      clear hS
      refine s_step rfl (by decide) rfl fun _ hS => ?_
      refine hS _ _ _ ?_
      clear hS
      refine s_nil ?_
      refine hK53 _ _ _ ?_
      refine hK52 _ _ _ ?_
      refine WP_ret (Done_data r1_ok (fun _ _ h => h) (low_outV) [] [.cell 2 24, .tmp 3] rfl ?_)
      rw [hO]
      repeat' (first | exact trivial | refine And.intro ?_ ?_ | rfl | omega | decide | (show (_ : Nat) < _; decide) | exact low_nil' | refine low_cons' ?_ ?_ | exact Nat.le_refl _ | exact Nat.succ_pos _)
     ·skip
      skip
      refine hS _ _ _ ?_
      clear hS
      refine s_step rfl (by decide) rfl fun _ hS => ?_
      refine hS _ _ _ ?_
      clear hS
      refine s_step rfl (by decide) rfl fun _ hS => ?_
      repeat refine And.intro qLr0 ?_
      refine hS _ _ _ ?_
      clear hS
      refine s_step rfl (by decide) rfl fun _ hS => ?_
      repeat refine And.intro qLr0 ?_
      refine hS _ _ _ ?_
      clear hS
      refine s_step rfl (by decide) rfl fun _ hS => ?_
      refine hS _ _ _ ?_
      clear hS
      refine s_step rfl (by decide) rfl fun _ hS => ?_
      refine hS _ _ _ ?_
      clear hS
      refine s_nil ?_
      refine hK47 _ _ _ ?_
      refine hK46 _ _ _ ?_
      refine seq_k fun _ hK54 => ?_
      refine region_k r1_ok fun _ hK55 => ?_
      refine s_step rfl (by decide) rfl fun _ hS => ?_
      refine hS _ _ _ ?_
      clear hS
      refine s_nil ?_
      refine hK55 _ _ _ ?_
      refine hK54 _ _ _ ?_
      refine WP_cond (b := _) rfl (fun h_t66 => ?_) (fun _ => ?_)
      ·exfalso; cases h_t66
      refine WP_skip ?_
      refine hK45 _ _ _ ?_
      refine seq_k fun _ hK56 => ?_
      have hns := seen_no hno
      refine region_k r1_ok fun _ hK57 => ?_
      refine s_step rfl (by decide) rfl fun _ hS => ?_
      refine hS _ _ _ ?_
      clear hS
      refine s_step rfl (by decide) rfl fun _ hS => ?_
      refine hS _ _ _ ?_
      clear hS
      refine s_step rfl (by decide) rfl fun _ hS => ?_
      repeat refine And.intro qLr0 ?_
      first | refine hS _ _ _ ?_ | (refine whole_yes qLr0 ?_; refine hS _ _ _ ?_) | (refine whole_sub ?_; refine hS _ _ _ ?_)
      clear hS
      refine s_step rfl (by decide) rfl fun _ hS => ?_
      repeat refine And.intro qLr0 ?_
      refine hS _ _ _ ?_
      clear hS
      refine s_step0 rfl rfl fun _ hS => ?_
      refine And.intro rfl (And.intro (seen_keys d k.1) (And.intro (fun j u hj => absurd rfl (hno _ (List.mem_of_getElem? hj))) (fun _ => ?_)))
      refine hS _ _ _ ?_
      clear hS
      refine s_nil ?_
      refine hK57 _ _ _ ?_
      refine hK56 _ _ _ ?_
      refine seq_k fun _ hK58 => ?_
      refine region_k r1_ok fun _ hK59 => ?_
      refine s_step rfl (by decide) rfl fun _ hS => ?_
      repeat refine And.intro qLr1 ?_
      first | refine hS _ _ _ ?_ | (refine whole_yes qLr1 ?_; refine hS _ _ _ ?_) | (refine whole_sub ?_; refine hS _ _ _ ?_)
      clear hS
      refine s_step rfl (by decide) rfl fun _ hS => ?_
      refine hS _ _ _ ?_
      clear hS
      refine s_step rfl (by decide) rfl fun _ hS => ?_
      refine hS _ _ _ ?_
      clear hS
      refine s_step rfl (by decide) rfl fun _ hS => ?_
      repeat refine And.intro qLr1 ?_
      refine hS _ _ _ ?_
      clear hS
      refine s_step rfl (by decide) rfl fun _ hS => ?_
      repeat refine And.intro qLr1 ?_
      refine hS _ _ _ ?_
      clear hS
      refine s_step rfl (by decide) rfl fun _ hS => ?_
      repeat refine And.intro qLr1 ?_
      refine hS _ _ _ ?_
      clear hS
      refine s_step rfl (by decide) rfl fun _ hS => ?_
      repeat first | refine And.intro qLr1 ?_ | refine whole_yes qLr1 ?_ | refine whole_sub ?_
      intro cap6 hcap6; refine hS _ _ _ ?_
      clear hS
      refine s_step0 rfl rfl fun _ hS => ?_
      repeat refine And.intro qLr1 ?_
      first | refine hS _ _ _ ?_ | (refine splice_full qLr1 ?_; refine hS _ _ _ ?_)
      clear hS
      refine s_nil ?_
      refine hK59 _ _ _ ?_
      have hms := seenM_step d k.1
      have hfs := foundL_step d k.1
      refine hK58 _ _ _ ?_
      refine seq_k fun _ hK60 => ?_
      refine region_k r1_ok fun _ hK61 => ?_
      refine s_step rfl (by decide) rfl fun _ hS => ?_
      refine hS _ _ _ ?_
      clear hS
      refine s_nil ?_
      refine hK61 _ _ _ ?_
      refine hK60 _ _ _ ?_
      refine seq_k fun _ hK62 => ?_
      refine seq_k fun _ hK63 => ?_
      refine region_k r1_ok fun _ hK64 => ?_
      refine s_step rfl (by decide) rfl fun _ hS => ?_
      refine hS _ _ _ ?_
      clear hS
      refine s_step rfl (by decide) rfl fun _ hS => ?_
      refine hS _ _ _ ?_
      clear hS
      refine s_nil ?_
      refine hK64 _ _ _ ?_
      refine hK63 _ _ _ ?_
      refine WP_block ?_
      refine WP_loop (α := UInt64 × UInt64 × Nat) (fun x => [(1, .c (.ptr 0 0)), (2, .c (.ptr 1 0)), (3, .c (.int .i64 0)), (5, .c (.slice 2 0 d.next.length d.next.length)), (4, .c (.u64 (accU d.acc d.next.length))), (10, .c (.ptr 3 0)), (11, .c (.map 4)), (13, .c (.int .i64 0)), (12, .c (.u64 (d.seq k.1))), (16, .c (.u64 x.1)), (17, .c (.u64 x.2.1))]) (fun x => [(0, .own 40 (dfaC d) 3), (1, .own 24 (.cells [.nils, .nils]) 2), (2, .own 50 (.u64s d.fol) d.next.length), (3, .own 22 (.cells [.slice 5 0 (k.1 + 1) x.2.2]) 1), (4, .mp 63 (seenM d (k.1 + 1))), (5, .own 4 (.bools (foundL d (k.1 + 1))) x.2.2)]) 6 (fun x => (x.1 ||| orBits d.fol x.2.1 = d.seq (k.1 + 1)) ∧ ∀ s, bit x.2.1 s = true → s < d.next.length) (fun x => x.2.1.toNat) ?_ ?_
      ·refine Done_some [] (fun i => if i = 5 then 7 else i) (0, d.seq k.1, cap6) ⟨by rw [UInt64.zero_or]; rfl, seq_low hv k.1⟩ ⟨?_, ?_, (by decide : List.Nodup ([0, 1, 2, 3, 4, 7] : List Nat)), ?_, ?_, ⟨Nat.zero_le _, fun i hi => absurd hi (Nat.not_lt_zero i)⟩⟩
       ·exact uLr0
       ·exact uLr0
       ·exact uLr0
       ·exact uLr0
      ·intro x hx
       refine seq_k fun _ hK65 => ?_
       refine seq_k fun _ hK66 => ?_
       refine region_k r1_ok fun _ hK67 => ?_
       refine s_step rfl (by decide) rfl fun _ hS => ?_
       refine hS _ _ _ ?_
       clear hS
       refine s_step rfl (by decide) rfl fun _ hS => ?_
       repeat refine And.intro qLr0 ?_
       refine hS _ _ _ ?_
       clear hS
       refine s_nil ?_
       refine hK67 _ _ _ ?_
       refine hK66 _ _ _ ?_
       refine WP_cond (b := _) rfl (fun h_t81 => ?_) (fun h_t81 => ?_)
       ·skip
        refine WP_skip ?_
        refine hK65 _ _ _ ?_
        refine seq_k fun _ hK68 => ?_
        refine WP_block ?_
        have hne : x.2.1 ≠ 0 := by simpa using h_t81
        obtain ⟨b, hb64, hbb, hbl⟩ := low_bit hne
        have htz := tzN_eq hb64 hbb hbl
        have hbn := hx.2 b hbb
        have hfl : d.fol.length = d.next.length := by simp [Dfa.fol]
        refine region_k r1_ok fun _ hK69 => ?_
        refine s_step rfl (by decide) rfl fun _ hS => ?_
        refine hS _ _ _ ?_
        clear hS
        refine s_step rfl (by decide) rfl fun _ hS => ?_
        refine hS _ _ _ ?_
        clear hS
        refine s_step rfl (by decide) rfl fun _ hS => ?_
        refine hS _ _ _ ?_
        clear hS
        refine s_step rfl (by decide) rfl fun _ hS => ?_
        repeat first | refine And.intro qLr3 ?_ | refine whole_yes qLr3 ?_ | refine whole_sub ?_
        refine ⟨x.2.1, rfl, ?_⟩
        rw [htz]
        repeat refine And.intro qLr3 ?_
        first | refine hS _ _ _ ?_ | (intro cap3 hcap3; refine hS _ _ _ ?_)
        clear hS
        refine s_step rfl (by decide) rfl fun _ hS => ?_
        repeat refine And.intro qLr3 ?_
        refine hS _ _ _ ?_
        clear hS
        refine s_step rfl (by decide) rfl fun _ hS => ?_
        repeat refine And.intro qLr3 ?_
        first | refine hS _ _ _ ?_ | (refine whole_yes qLr3 ?_; refine hS _ _ _ ?_) | (refine whole_sub ?_; refine hS _ _ _ ?_)
        clear hS
        refine s_step rfl (by decide) rfl fun _ hS => ?_
        repeat refine And.intro qLr3 ?_
        refine hS _ _ _ ?_
        clear hS
        refine s_step rfl (by decide) rfl fun _ hS => ?_
        refine hS _ _ _ ?_
        clear hS
        refine s_nil ?_
        refine hK69 _ _ _ ?_
        refine done_block ?_
        refine hK68 _ _ _ ?_
        have hnx : x.1 ||| d.fol.getD (0 + (b : Int).toNat * 1) 0 = x.1 ||| d.fol.getD b 0 := by rw [show 0 + (b : Int).toNat * 1 = b by omega]
        refine region_k r1_ok fun _ hK70 => ?_
        refine s_step rfl (by decide) rfl fun _ hS => ?_
        refine hS _ _ _ ?_
        clear hS
        refine s_step rfl (by decide) rfl fun _ hS => ?_
        refine hS _ _ _ ?_
        clear hS
        refine s_step rfl (by decide) rfl fun _ hS => ?_
        repeat refine And.intro qLr0 ?_
        refine hS _ _ _ ?_
        clear hS
        refine s_step rfl (by decide) rfl fun _ hS => ?_
        repeat refine And.intro qLr0 ?_
        refine hS _ _ _ ?_
        clear hS
        refine s_step rfl (by decide) rfl fun _ hS => ?_
        refine hS _ _ _ ?_
        clear hS
        refine s_nil ?_
        refine hK70 _ _ _ ?_
        refine Done_some [] id (x.1 ||| d.fol.getD b 0, x.2.1 &&& (x.2.1 - 1), x.2.2) ⟨⟨by rw [orBits_low d.fol hb64 hbb hbl, hx.1], fun s hs => hx.2 s (by rw [bit_and, Bool.and_eq_true] at hs; exact hs.1)⟩, and_pred_lt hne⟩ ⟨?_, ?_, (by decide : List.Nodup ([0, 1, 2, 3, 4, 5] : List Nat)), ?_, ?_, ⟨Nat.zero_le _, fun i hi => absurd hi (Nat.not_lt_zero i)⟩⟩
        ·exact uLr0
        ·exact uLr0
        ·exact uLr0
        ·exact uLr0
       ·skip
        refine WP_exit ?_
        refine done_thenx ?_
        refine done_thenx ?_
        refine Done_hit ?_
        refine hK62 _ _ _ ?_
        have hx0 : x.2.1 = 0 := by simpa using h_t81
        have hfin : x.1 = d.seq (k.1 + 1) := by
         have := hx.1
         rw [hx0, orBits_zero] at this
         simpa using this
        refine region_k r1_ok fun _ hK71 => ?_
        refine s_step rfl (by decide) rfl fun _ hS => ?_
        refine hS _ _ _ ?_
        clear hS
        refine s_step rfl (by decide) rfl fun _ hS => ?_
        refine hS _ _ _ ?_
        clear hS
        refine s_nil ?_
        refine hK71 _ _ _ ?_
        refine done_block ?_
        have hd2 : ∀ i j, i < j → j < k.1 + 1 → d.seq i ≠ d.seq j := fun i j hij hj => (Nat.lt_or_ge j k.1).elim (hk.2.1 i j hij) (fun h1 => by rw [show j = k.1 by omega]; exact hns i (by omega))
        have hcnt := seq_count hv h8 hd2
        refine Done_some [] id (k.1 + 1, x.2.2) ⟨⟨hcnt, hd2, by rw [← hk.2.2, show 257 - k.1 = (257 - (k.1 + 1)) + 1 by omega, findRep_step hns]⟩, by omega⟩ ⟨?_, ?_, (by decide : List.Nodup ([0, 1, 2, 3, 4, 5] : List Nat)), ?_, ?_, ⟨Nat.zero_le _, fun i hi => absurd hi (Nat.not_lt_zero i)⟩⟩
        ·exact uLr0
        ·exact uLr0
        ·exact uLr0
        ·exact uLr0


end Go.Proofs.YtpfncffapgkjaaaDoor
