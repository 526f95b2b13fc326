/- The law: the lengths of an automaton's words agree with the reference. -/
import Derived.Test.YtpfncffapgkjaaaDoorAb14
import Derived.Test.YtpfncffapgkjaaaDoorAb21
import Derived.Test.YtpfncffapgkjaaaDoorAb24
import Derived.Test.YtpfncffapgkjaaaDoorCtx
import Derived.Test.YtpfncffapgkjaaaDoorLa
import Derived.Test.YtpfncffapgkjaaaDoorLc
import Derived.Test.YtpfncffapgkjaaaDoorLd
import Derived.Test.YtpfncffapgkjaaaDoorLm
import Derived.Test.YtpfncffapgkjaaaDoorLn
import Derived.Test.YtpfncffapgkjaaaDoorLp
import Derived.Test.YtpfncffapgkjaaaDoorLr
import Derived.Test.YtpfncffapgkjaaaDoorLva
import Derived.Test.YtpfncffapgkjaaaDoorLu
import Derived.Test.YtpfncffapgkjaaaDoorLw
import Derived.Test.YtpfncffapgkjaaaDoorLx
import Derived.Test.YtpfncffapgkjaaaDoorMda
import Derived.Test.YtpfncffapgkjaaaDoorMd
namespace Go.Proofs.YtpfncffapgkjaaaDoor
set_option linter.unusedVariables false
open Go.Ab Go.RowKit

theorem qNh0 {a : Prop} (h : a := by first | omega | exact trivial | rfl | (simp only [len_u8s, len_u32s, len_u64s, len_ints, len_bools, len_cells]; omega) | exact inR_i64.mpr ⟨by omega, by omega⟩ | (simp <;> omega) | (refine And.intro ?_ ?_ <;> exact trivial) | exact ⟨trivial, trivial, trivial⟩ | decide | (refine And.intro rfl ?_; (repeat first | exact trivial | refine And.intro rfl ?_); done) | exact Nat.succ_pos _ | exact Nat.le_refl _ | (refine And.intro trivial ?_; (repeat first | exact trivial | refine And.intro trivial ?_); done)) : a := h
theorem qNh1 {a : Prop} (h : a := by first | omega | exact trivial | rfl | (simp only [len_u8s, len_u32s, len_u64s, len_ints, len_bools, len_cells]; omega) | exact inR_i64.mpr ⟨by omega, by omega⟩ | (simp <;> omega) | decide | (simp; done) | (refine ⟨by omega, by omega, trivial⟩) | (refine And.intro ?_ ?_ <;> exact trivial) | exact ⟨trivial, trivial, trivial⟩ | decide | (refine And.intro rfl ?_; (repeat first | exact trivial | refine And.intro rfl ?_); done) | exact Nat.succ_pos _ | exact Nat.le_refl _ | (refine And.intro trivial ?_; (repeat first | exact trivial | refine And.intro trivial ?_); done)) : a := h
theorem uNh0 {a : Prop} (h : a := by
    repeat' (first | exact trivial | refine And.intro ?_ ?_ | rfl | omega | decide | (show (_ : Nat) < _; decide) | exact low_nil' | refine low_cons' ?_ ?_ | exact Nat.le_refl _ | exact Nat.succ_pos _)
    all_goals first | omega | exact low_rows _ | exact allTo_rows _ | exact low_lsC | (show (_ : List Bool) = _; first | rfl | (simp; done)) | (simp [machB]; done) | (rw [if_pos ⟨rfl, by simp⟩]; rfl) | (simp; done) | (simp <;> omega) | skip) : a := h

theorem cutO_lenH (L : List Bool) (h p : Nat) : (cutO L h p).1.1.length ≤ 512 ∧ (cutO L h p).1.2.length ≤ 512 := by
  rw [cutO]
  split
  · exact ⟨by simp; omega, by simp; omega⟩
  · exact ⟨Nat.zero_le _, Nat.zero_le _⟩
theorem canonO_lenH (g : Nat → Bool) (h p : Nat) : (canonO g h p).1.1.length ≤ 512 ∧ (canonO g h p).1.2.length ≤ 512 := cutO_lenH _ _ _
theorem errO_lenH (e : Nat) : (errO e).1.1.length ≤ 512 ∧ (errO e).1.2.length ≤ 512 := ⟨Nat.zero_le _, Nat.zero_le _⟩
theorem ofL_len (d : Dfa) : (ofL d).1.1.length ≤ 512 ∧ (ofL d).1.2.length ≤ 512 := by
  rw [ofL]
  split
  · split
    · exact canonO_lenH ..
    · exact errO_lenH _
  · exact errO_lenH _
/-- A made automaton with another list of accepting states. -/
def machB (l : List UInt8) (acc : List Bool) : Dfa := { cls := mcls, nc := 3, next := machNx l (machN l) (machN l), acc := acc }
theorem machB_wf (l : List UInt8) {acc : List Bool} (h : acc.length ≤ 9) : (machB l acc).wf ∧ (machB l acc).next.length ≤ 8 := by
  have hp := machN_pos l
  refine ⟨⟨rfl, show 3 ≤ 9223372036854775807 by decide, ?_, show acc.length ≤ _ by omega, fun r hr => ?_⟩, ?_⟩
  · show (machNx l (machN l) (machN l)).length ≤ _
    rw [machNx_length]; omega
  · obtain ⟨i, _, rfl⟩ := List.mem_map.1 hr
    rw [machRow_length]; omega
  · show (machNx l (machN l) (machN l)).length ≤ _
    rw [machNx_length]; omega
theorem machB_valid (l : List UInt8) {acc : List Bool} (h : acc = machAc l (machN l) ∨ acc = machAc l (machN l) ++ [true]) : validD (machB l acc) = validRD (machB l acc) := by
  rcases h with rfl | rfl
  · exact (mach_valid l).trans (mach_validR l).symm
  · exact spoilt_valid l true
noncomputable def x8 : Ctx := { P := Tryd.prog, ty := ty, glob := gl, fs := [(12, .flat sanityS), (29, .gen (newS ty machineN)), (30, .data ofPS), (31, .data ofRS), (16, .flat sameS)] }
theorem x8_ok : x8.OK := ⟨tyOK, ⟨⟨enters_mk Tryd.func12 (by kernel_rfl) rfl, sanity_ok⟩, ⟨enters_mk Tryd.func29 (by kernel_rfl) rfl, gen_new machineN_ok⟩, ⟨enters_mk Tryd.func30 (by kernel_rfl) rfl, ofP_ok⟩, ⟨enters_mk Tryd.func31 (by kernel_rfl) rfl, ofR_ok⟩, ⟨enters_mk Tryd.func16 (by kernel_rfl) rfl, same_ok⟩, trivial⟩, mixed⟩
@[simp] theorem x8_ty : x8.ty = ty := rfl

def lawOfRefS : QSpec := fun vs K => ∃ l : List UInt8, ∃ sp : Bool, vs = [.c (.ds l.length (.u8s l)), .c (.bool sp)] ∧ l.length ≤ 9223372036854775807 ∧ K (.c (.bool true))
set_option maxHeartbeats 2000000 in
theorem lawOfRef_ok : FlatOK Tryd.prog gl 4 lawOfRefS := by
 refine flat_of (Γ := x8) (N := 41) Tryd.func4 rfl rfl fun vs K h => ?_
 obtain ⟨l, sp, rfl, hl, h⟩ := h
 refine ⟨_, h, rfl, by simp, fun w I => ?_⟩
 refine seq_k fun _ hK1 => ?_
 refine region_k x8_ok fun _ hK2 => ?_
 refine s_step rfl (by decide) rfl fun _ hS => ?_
 refine hS _ _ _ ?_
 clear hS
 refine s_nil ?_
 refine hK2 _ _ _ ?_
 refine hK1 _ _ _ ?_
 refine seq_k fun _ hK3 => ?_
 refine region_k x8_ok fun _ hK4 => ?_
 refine s_step rfl (by decide) rfl fun _ hS => ?_
 repeat first | refine And.intro qNh0 ?_ | refine whole_yes qNh0 ?_ | refine whole_sub ?_
 skip
 repeat refine And.intro qNh0 ?_
 first | refine hS _ _ _ ?_ | (intro cap0 hcap0; refine hS _ _ _ ?_)
 clear hS
 refine s_step rfl (by decide) rfl fun _ hS => ?_
 refine hS _ _ _ ?_
 clear hS
 refine s_nil ?_
 refine hK4 _ _ _ ?_
 refine hK3 _ _ _ ?_
 refine seq_k fun _ hK5 => ?_
 refine region_k x8_ok fun _ hK6 => ?_
 refine s_step rfl (by decide) rfl fun _ hS => ?_
 refine hS _ _ _ ?_
 clear hS
 refine s_step rfl (by decide) rfl fun _ hS => ?_
 repeat first | refine And.intro qNh0 ?_ | refine whole_yes qNh0 ?_ | refine whole_sub ?_
 refine ⟨l, rfl, hl, fun cA => ?_⟩
 repeat refine And.intro qNh0 ?_
 first | refine hS _ _ _ ?_ | (intro cap1 hcap1; refine hS _ _ _ ?_)
 clear hS
 refine s_step rfl (by decide) rfl fun _ hS => ?_
 repeat refine And.intro qNh0 ?_
 refine hS _ _ _ ?_
 clear hS
 refine s_step0 rfl rfl fun _ hS => ?_
 repeat refine And.intro qNh0 ?_
 first | refine hS _ _ _ ?_ | (refine splice_full qNh0 ?_; refine hS _ _ _ ?_)
 clear hS
 refine s_nil ?_
 refine hK6 _ _ _ ?_
 refine hK5 _ _ _ ?_
 refine WP_cut (α := List Bool) (fun acc => [(5, .c (.bool true)), (6, .c (.ptr 0 0))]) (fun acc => [(0, .own 40 (dfaC (machB l acc)) 3)]) 1 (fun acc => acc = machAc l (machN l) ∨ acc = machAc l (machN l) ++ [true]) ?_ ?_
 ·skip
  refine seq_k fun _ hK7 => ?_
  refine WP_le (is := []) (ρ := (fun i => if i = 0 then 2 else 1)) (E' := [(1, .c (.bool sp)), (5, .c (.bool true)), (6, .c (.ptr 0 0))]) (H' := [(0, .own 40 (.cells [.ds 3 (.u64s mcls), .ds (machN l) (.cells (rowsC (machNx l (machN l) (machN l)))), .slice 1 0 (machN l) cA]) 3), (1, .own 4 (.bools (machAc l (machN l))) cA)]) (n' := 2) ⟨?_, ?_, (by decide : List.Nodup ([2, 1] : List Nat)), ?_, ?_, ⟨Nat.zero_le _, fun i hi => absurd hi (Nat.not_lt_zero i)⟩⟩ ?_
  ·exact uNh0
  ·exact uNh0
  ·exact uNh0
  ·exact uNh0
  refine region_k x8_ok fun _ hK8 => ?_
  refine s_step rfl (by decide) rfl fun _ hS => ?_
  refine hS _ _ _ ?_
  clear hS
  refine s_nil ?_
  refine hK8 _ _ _ ?_
  refine hK7 _ _ _ ?_
  refine WP_cond (b := _) rfl (fun h_t14 => ?_) (fun h_t14 => ?_)
  ·try try simp only [decide_eq_true_eq, decide_eq_false_iff_not, Int.not_lt, Int.not_le, Bool.not_eq_true', Bool.not_eq_false', Bool.not_eq_eq_eq_not, Bool.not_true, Bool.not_false, if_true, if_false, reduceIte, Bool.false_eq_true, Int.natCast_inj] at h_t14
   have hp := machN_pos l
   refine region_k x8_ok fun _ hK9 => ?_
   refine s_step rfl (by decide) rfl fun _ hS => ?_
   repeat refine And.intro qNh1 ?_
   refine hS _ _ _ ?_
   clear hS
   refine s_step rfl (by decide) rfl fun _ hS => ?_
   repeat refine And.intro qNh1 ?_
   first | refine hS _ _ _ ?_ | (refine whole_yes qNh1 ?_; refine hS _ _ _ ?_) | (refine whole_sub ?_; refine hS _ _ _ ?_)
   clear hS
   refine s_step rfl (by decide) rfl fun _ hS => ?_
   repeat refine And.intro qNh1 ?_
   refine hS _ _ _ ?_
   clear hS
   refine s_step rfl (by decide) rfl fun _ hS => ?_
   repeat first | refine And.intro qNh1 ?_ | refine whole_yes qNh1 ?_ | refine whole_sub ?_
   intro cap3 hcap3; refine hS _ _ _ ?_
   clear hS
   refine s_step rfl (by decide) rfl fun _ hS => ?_
   repeat refine And.intro qNh1 ?_
   refine hS _ _ _ ?_
   clear hS
   refine s_step0 rfl rfl fun _ hS => ?_
   repeat refine And.intro qNh1 ?_
   first | refine hS _ _ _ ?_ | (refine splice_full qNh1 ?_; refine hS _ _ _ ?_)
   clear hS
   refine s_nil ?_
   refine hK9 _ _ _ ?_
   refine Done_some [3] id (machAc l (machN l) ++ [true]) (.inr rfl) ⟨?_, ?_, (by decide : List.Nodup ([0] : List Nat)), ?_, ?_, ⟨Nat.zero_le _, fun i hi => absurd hi (Nat.not_lt_zero i)⟩⟩
   ·exact uNh0
   ·exact uNh0
   ·exact uNh0
   ·exact uNh0
  ·try try simp only [decide_eq_true_eq, decide_eq_false_iff_not, Int.not_lt, Int.not_le, Bool.not_eq_true', Bool.not_eq_false', Bool.not_eq_eq_eq_not, Bool.not_true, Bool.not_false, if_true, if_false, reduceIte, Bool.false_eq_true, Int.natCast_inj] at h_t14
   refine WP_skip ?_
   refine Done_some [1] id (machAc l (machN l)) (.inl rfl) ⟨?_, ?_, (by decide : List.Nodup ([0] : List Nat)), ?_, ?_, ⟨Nat.zero_le _, fun i hi => absurd hi (Nat.not_lt_zero i)⟩⟩
   ·exact uNh0
   ·exact uNh0
   ·exact uNh0
   ·exact uNh0
 ·intro acc hac
  have hal : acc.length ≤ 9 := by
   have hp := machN_pos l
   rcases hac with rfl | rfl
   ·rw [machAc_length]; omega
   ·rw [List.length_append, machAc_length]; show machN l + 1 ≤ 9; omega
  refine seq_k fun _ hK10 => ?_
  refine region_k x8_ok fun _ hK11 => ?_
  refine s_step rfl (by decide) rfl fun _ hS => ?_
  repeat refine And.intro qNh0 ?_
  first | refine hS _ _ _ ?_ | (refine whole_yes qNh0 ?_; refine hS _ _ _ ?_) | (refine whole_sub ?_; refine hS _ _ _ ?_)
  clear hS
  refine s_step rfl (by decide) rfl fun _ hS => ?_
  repeat first | refine And.intro qNh0 ?_ | refine whole_yes qNh0 ?_ | refine whole_sub ?_
  refine ⟨machB l acc, rfl, (machB_wf l hal).1, (machB_wf l hal).2, ?_⟩
  obtain ⟨⟨⟨o1, o2⟩, oe⟩, ho⟩ : ∃ x, x = ofL (machB l acc) := ⟨_, rfl⟩
  rw [← ho]
  have lo : o1.length ≤ 512 ∧ o2.length ≤ 512 := by have := ofL_len (machB l acc); rw [← ho] at this; exact this
  repeat refine And.intro qNh0 ?_
  first | refine hS _ _ _ ?_ | (intro cap1 hcap1; refine hS _ _ _ ?_)
  clear hS
  refine s_step rfl (by decide) rfl fun _ hS => ?_
  refine hS _ _ _ ?_
  clear hS
  refine s_step rfl (by decide) rfl fun _ hS => ?_
  repeat refine And.intro qNh0 ?_
  refine hS _ _ _ ?_
  clear hS
  refine s_step rfl (by decide) rfl fun _ hS => ?_
  repeat refine And.intro qNh0 ?_
  refine hS _ _ _ ?_
  clear hS
  refine s_step rfl (by decide) rfl fun _ hS => ?_
  repeat refine And.intro qNh0 ?_
  refine hS _ _ _ ?_
  clear hS
  refine s_step0 rfl rfl fun _ hS => ?_
  repeat refine And.intro qNh0 ?_
  first | refine hS _ _ _ ?_ | (refine splice_full qNh0 ?_; refine hS _ _ _ ?_)
  clear hS
  refine s_step rfl (by decide) rfl fun _ hS => ?_
  refine hS _ _ _ ?_
  clear hS
  refine s_nil ?_
  refine hK11 _ _ _ ?_
  refine hK10 _ _ _ ?_
  refine seq_k fun _ hK12 => ?_
  refine region_k x8_ok fun _ hK13 => ?_
  refine s_step rfl (by decide) rfl fun _ hS => ?_
  repeat refine And.intro qNh0 ?_
  first | refine hS _ _ _ ?_ | (refine whole_yes qNh0 ?_; refine hS _ _ _ ?_) | (refine whole_sub ?_; refine hS _ _ _ ?_)
  clear hS
  refine s_step rfl (by decide) rfl fun _ hS => ?_
  repeat first | refine And.intro qNh0 ?_ | refine whole_yes qNh0 ?_ | refine whole_sub ?_
  refine ⟨machB l acc, rfl, (machB_wf l hal).1, (machB_wf l hal).2, ?_⟩
  rw [← ofL_eq (machB_valid l hac), ← ho]
  repeat refine And.intro qNh0 ?_
  first | refine hS _ _ _ ?_ | (intro cap1 hcap1; refine hS _ _ _ ?_)
  clear hS
  refine s_step rfl (by decide) rfl fun _ hS => ?_
  refine hS _ _ _ ?_
  clear hS
  refine s_step rfl (by decide) rfl fun _ hS => ?_
  repeat refine And.intro qNh0 ?_
  refine hS _ _ _ ?_
  clear hS
  refine s_step rfl (by decide) rfl fun _ hS => ?_
  repeat refine And.intro qNh0 ?_
  refine hS _ _ _ ?_
  clear hS
  refine s_step rfl (by decide) rfl fun _ hS => ?_
  repeat refine And.intro qNh0 ?_
  refine hS _ _ _ ?_
  clear hS
  refine s_step0 rfl rfl fun _ hS => ?_
  repeat refine And.intro qNh0 ?_
  first | refine hS _ _ _ ?_ | (refine splice_full qNh0 ?_; refine hS _ _ _ ?_)
  clear hS
  refine s_step rfl (by decide) rfl fun _ hS => ?_
  refine hS _ _ _ ?_
  clear hS
  refine s_nil ?_
  refine hK13 _ _ _ ?_
  refine hK12 _ _ _ ?_
  refine seq_k fun _ hK14 => ?_
  refine region_k x8_ok fun _ hK15 => ?_
  refine s_step rfl (by decide) rfl fun _ hS => ?_
  refine hS _ _ _ ?_
  clear hS
  refine s_step rfl (by decide) rfl fun _ hS => ?_
  refine s_split hS (fun hb1 => ?_) (fun hb1 => ?_)
  rotate_left 1
  ·exfalso; first | (simp at hb1; done) | exact absurd hb1 (by decide)
  clear hS
  refine s_guard (b := true) rfl (by decide) rfl rfl (fun _ _ hS => ?_) (fun e => absurd e (by decide))
  repeat refine And.intro qNh0 ?_
  first | refine hS _ _ _ ?_ | (refine whole_yes qNh0 ?_; refine hS _ _ _ ?_) | (refine whole_sub ?_; refine hS _ _ _ ?_)
  clear hS
  refine s_guard (b := true) rfl (by decide) rfl rfl (fun _ _ hS => ?_) (fun e => absurd e (by decide))
  repeat refine And.intro qNh0 ?_
  first | refine hS _ _ _ ?_ | (refine whole_yes qNh0 ?_; refine hS _ _ _ ?_) | (refine whole_sub ?_; refine hS _ _ _ ?_)
  clear hS
  refine s_guard (b := true) rfl (by decide) rfl rfl (fun _ _ hS => ?_) (fun e => absurd e (by decide))
  repeat first | refine And.intro qNh0 ?_ | refine whole_yes qNh0 ?_ | refine whole_sub ?_
  refine ⟨o1, o2, o1, o2, rfl, ⟨by omega, by omega, by omega, by omega⟩, ?_⟩
  rw [show decide (o1 = o1 ∧ o2 = o2) = true from decide_eq_true ⟨rfl, rfl⟩]
  repeat refine And.intro qNh0 ?_
  first | refine hS _ _ _ ?_ | (intro cap4 hcap4; refine hS _ _ _ ?_)
  clear hS
  refine s_step rfl (by decide) rfl fun _ hS => ?_
  refine hS _ _ _ ?_
  clear hS
  refine s_step rfl (by decide) rfl fun _ hS => ?_
  refine s_split hS (fun hb6 => ?_) (fun hb6 => ?_)
  rotate_left 1
  ·exfalso; first | (simp at hb6; done) | exact absurd hb6 (by decide)
  clear hS
  refine s_guard (b := true) rfl (by decide) rfl rfl (fun _ _ hS => ?_) (fun e => absurd e (by decide))
  refine hS _ _ _ ?_
  clear hS
  refine s_guard (b := true) rfl (by decide) rfl rfl (fun _ _ hS => ?_) (fun e => absurd e (by decide))
  refine hS _ _ _ ?_
  clear hS
  refine s_guard (b := true) rfl (by decide) rfl rfl (fun _ _ hS => ?_) (fun e => absurd e (by decide))
  repeat refine And.intro qNh0 ?_
  refine hS _ _ _ ?_
  clear hS
  refine s_step rfl (by decide) rfl fun _ hS => ?_
  refine hS _ _ _ ?_
  clear hS
  refine s_step rfl (by decide) rfl fun _ hS => ?_
  refine hS _ _ _ ?_
  clear hS
  refine s_nil ?_
  refine hK15 _ _ _ ?_
  refine hK14 _ _ _ ?_
  refine WP_ret (Done_flat x8_ok (fun _ _ h => h) (by first | rfl | assumption) [.tmp 4] rfl ?_)
  repeat refine And.intro (by first | omega | exact trivial | rfl | (simp <;> omega)) ?_
  try refine ite_yes (by first | omega | exact trivial | rfl | (simp <;> omega)) ?_
  show SV.c (.bool (decide _)) = SV.c (.bool true)
  congr 2
  exact decide_eq_true rfl


end Go.Proofs.YtpfncffapgkjaaaDoor
