/- The reference: the validity of an automaton. -/
import Derived.Test.YtpfncffapgkjaaaDoorAb14
import Derived.Test.YtpfncffapgkjaaaDoorAb21
import Derived.Test.YtpfncffapgkjaaaDoorCtx
import Derived.Test.YtpfncffapgkjaaaDoorLa
import Derived.Test.YtpfncffapgkjaaaDoorLi
import Derived.Test.YtpfncffapgkjaaaDoorLm
namespace Go.Proofs.YtpfncffapgkjaaaDoor
set_option linter.unusedVariables false
open Go.Ab Go.RowKit

theorem qLn0 {a : Prop} (h : a := by first | omega | exact trivial | rfl | (simp only [len_u8s, len_u32s, len_u64s, len_ints, len_bools, len_cells]; omega) | exact inR_i64.mpr ⟨by omega, by omega⟩ | (simp [hc] <;> omega) | (refine ⟨by omega, by omega, ?_⟩; decide) | (simp [hc]; omega) | (refine And.intro ?_ ?_ <;> exact trivial) | exact ⟨trivial, trivial, trivial⟩ | decide | (refine And.intro rfl ?_; (repeat first | exact trivial | refine And.intro rfl ?_); done) | exact Nat.succ_pos _ | exact Nat.le_refl _ | (refine And.intro trivial ?_; (repeat first | exact trivial | refine And.intro trivial ?_); done)) : a := h
theorem qLn1 {a : Prop} (h : a := by first | omega | exact trivial | rfl | (simp only [len_u8s, len_u32s, len_u64s, len_ints, len_bools, len_cells]; omega) | exact inR_i64.mpr ⟨by omega, by omega⟩ | (simp [hw] <;> omega) | (refine And.intro ?_ ?_ <;> exact trivial) | exact ⟨trivial, trivial, trivial⟩ | decide | (refine And.intro rfl ?_; (repeat first | exact trivial | refine And.intro rfl ?_); done) | exact Nat.succ_pos _ | exact Nat.le_refl _ | (refine And.intro trivial ?_; (repeat first | exact trivial | refine And.intro trivial ?_); done)) : a := h
theorem qLn2 {a : Prop} (h : a := by first | omega | exact trivial | rfl | (simp only [len_u8s, len_u32s, len_u64s, len_ints, len_bools, len_cells]; omega) | exact inR_i64.mpr ⟨by omega, by omega⟩ | (simp [hw, hcl] <;> omega) | (show (clsAt cls k).length = 4; exact hcl) | exact hcl | (refine And.intro ?_ ?_ <;> exact trivial) | exact ⟨trivial, trivial, trivial⟩ | decide | (refine And.intro rfl ?_; (repeat first | exact trivial | refine And.intro rfl ?_); done) | exact Nat.succ_pos _ | exact Nat.le_refl _ | (refine And.intro trivial ?_; (repeat first | exact trivial | refine And.intro trivial ?_); done)) : a := h
theorem qLn3 {a : Prop} (h : a := by first | omega | exact trivial | rfl | (simp only [len_u8s, len_u32s, len_u64s, len_ints, len_bools, len_cells]; omega) | exact inR_i64.mpr ⟨by omega, by omega⟩ | (simp [hw, hcl] <;> omega) | (refine And.intro ?_ ?_ <;> exact trivial) | exact ⟨trivial, trivial, trivial⟩ | decide | (refine And.intro rfl ?_; (repeat first | exact trivial | refine And.intro rfl ?_); done) | exact Nat.succ_pos _ | exact Nat.le_refl _ | (refine And.intro trivial ?_; (repeat first | exact trivial | refine And.intro trivial ?_); done)) : a := h
theorem qLn4 {a : Prop} (h : a := by first | omega | exact trivial | rfl | (simp only [len_u8s, len_u32s, len_u64s, len_ints, len_bools, len_cells]; omega) | exact inR_i64.mpr ⟨by omega, by omega⟩ | (simp [hw1] <;> omega) | (refine And.intro ?_ ?_ <;> exact trivial) | exact ⟨trivial, trivial, trivial⟩ | decide | (refine And.intro rfl ?_; (repeat first | exact trivial | refine And.intro rfl ?_); done) | exact Nat.succ_pos _ | exact Nat.le_refl _ | (refine And.intro trivial ?_; (repeat first | exact trivial | refine And.intro trivial ?_); done)) : a := h
theorem qLn5 {a : Prop} (h : a := by first | omega | exact trivial | rfl | (simp only [len_u8s, len_u32s, len_u64s, len_ints, len_bools, len_cells]; omega) | exact inR_i64.mpr ⟨by omega, by omega⟩ | (simp <;> omega) | (refine And.intro ?_ ?_ <;> exact trivial) | exact ⟨trivial, trivial, trivial⟩ | decide | (refine And.intro rfl ?_; (repeat first | exact trivial | refine And.intro rfl ?_); done) | exact Nat.succ_pos _ | exact Nat.le_refl _ | (refine And.intro trivial ?_; (repeat first | exact trivial | refine And.intro trivial ?_); done)) : a := h

theorem uLn0 {a : Prop} (h : a := by
    repeat' (first | exact trivial | refine And.intro ?_ ?_ | rfl | omega | decide | (show (_ : Nat) < _; decide) | exact low_nil' | refine low_cons' ?_ ?_ | exact Nat.le_refl _ | exact Nat.succ_pos _)) : a := h
theorem uLn1 {a : Prop} (h : a := by
    repeat' (first | exact trivial | refine And.intro ?_ ?_ | rfl | omega | decide | (show (_ : Nat) < _; decide) | exact low_nil' | refine low_cons' ?_ ?_ | exact Nat.le_refl _ | exact Nat.succ_pos _)
    all_goals first | omega | (rw [cntK, if_pos h_t42]; simp; done) | (rw [cntK, if_neg h_t42]) | skip) : a := h
theorem uLn2 {a : Prop} (h : a := by
    repeat' (first | exact trivial | refine And.intro ?_ ?_ | rfl | omega | decide | (show (_ : Nat) < _; decide) | exact low_nil' | refine low_cons' ?_ ?_ | exact Nat.le_refl _ | exact Nat.succ_pos _)
    all_goals first | omega | exact low_rows _ | exact low_cons' trivial (low_cons' trivial (low_cons' trivial low_nil')) | (simp; done) | (simp <;> omega) | skip) : a := h

def hasBit (c : List UInt64) (b : Nat) : Bool := decide (shr64 (c.getD (b / 64) 0) (b % 64) % 2 = 1)
def hasRefS : QSpec := fun vs K => ∃ c : List UInt64, ∃ b : Nat, vs = [.agg (.u64s c), .c (.int .i64 b)] ∧ (c.length = 4 ∧ b < 256) ∧ K (.c (.bool (hasBit c b)))
theorem hasRef_ok : FlatOK Tryd.prog gl 66 hasRefS := by
 refine flat_of (Γ := g0) (N := 14) Tryd.func66 rfl rfl fun vs K h => ?_
 obtain ⟨c, b, rfl, ⟨hc, hb⟩, h⟩ := h
 refine ⟨_, h, rfl, by simp, fun w I => ?_⟩
 refine seq_k fun _ hK1 => ?_
 refine region_k g0_ok fun _ hK2 => ?_
 refine s_step rfl (by decide) rfl fun _ hS => ?_
 repeat refine And.intro (by first | omega | exact trivial | rfl | (simp only [len_u8s, len_u32s, len_u64s, len_ints, len_bools, len_cells]; omega) | exact inR_i64.mpr ⟨by omega, by omega⟩ | (simp [hc] <;> omega) | (refine And.intro ?_ ?_ <;> exact trivial) | exact ⟨trivial, trivial, trivial⟩ | decide | (refine And.intro rfl ?_; (repeat first | exact trivial | refine And.intro rfl ?_); done) | exact Nat.succ_pos _ | exact Nat.le_refl _ | (refine And.intro trivial ?_; (repeat first | exact trivial | refine And.intro trivial ?_); done)) ?_
 refine hS _ _ _ ?_
 clear hS
 refine s_step rfl (by decide) rfl fun _ hS => ?_
 refine hS _ _ _ ?_
 clear hS
 refine s_nil ?_
 refine hK2 _ _ _ ?_
 refine hK1 _ _ _ ?_
 refine seq_k fun _ hK3 => ?_
 refine region_k g0_ok fun _ hK4 => ?_
 refine s_step rfl (by decide) rfl fun _ hS => ?_
 refine hS _ _ _ ?_
 clear hS
 refine s_step rfl (by decide) rfl fun _ hS => ?_
 repeat refine And.intro qLn0 ?_
 refine hS _ _ _ ?_
 clear hS
 refine s_step rfl (by decide) rfl fun _ hS => ?_
 repeat refine And.intro qLn0 ?_
 refine hS _ _ _ ?_
 clear hS
 refine s_step rfl (by decide) rfl fun _ hS => ?_
 repeat refine And.intro qLn0 ?_
 first | refine hS _ _ _ ?_ | (refine whole_yes qLn0 ?_; refine hS _ _ _ ?_) | (refine whole_sub ?_; refine hS _ _ _ ?_)
 clear hS
 refine s_step rfl (by decide) rfl fun _ hS => ?_
 refine hS _ _ _ ?_
 clear hS
 refine s_step rfl (by decide) rfl fun _ hS => ?_
 repeat refine And.intro qLn0 ?_
 refine hS _ _ _ ?_
 clear hS
 refine s_step rfl (by decide) rfl fun _ hS => ?_
 repeat refine And.intro qLn0 ?_
 refine hS _ _ _ ?_
 clear hS
 refine s_step rfl (by decide) rfl fun _ hS => ?_
 repeat refine And.intro qLn0 ?_
 refine hS _ _ _ ?_
 clear hS
 refine s_step rfl (by decide) rfl fun _ hS => ?_
 repeat refine And.intro qLn0 ?_
 refine hS _ _ _ ?_
 clear hS
 refine s_step rfl (by decide) rfl fun _ hS => ?_
 refine hS _ _ _ ?_
 clear hS
 refine s_nil ?_
 refine hK4 _ _ _ ?_
 refine hK3 _ _ _ ?_
 refine WP_ret (Done_flat g0_ok (fun _ _ h => h) (by first | rfl | assumption) [.tmp 4] rfl ?_)
 repeat refine And.intro (by first | omega | exact trivial | rfl | (simp <;> omega)) ?_
 try refine ite_yes (by first | omega | exact trivial | rfl | (simp <;> omega)) ?_
 show SV.c (.bool _) = _
 rw [hasBit, show 0 + ((b : Int) / 64).toNat * 1 = b / 64 by omega, show ((b : Int) % 64).toNat = b % 64 by omega]
 rfl

def cntK (cls : List UInt64) (b : Nat) : Nat → Nat
  | 0 => 0
  | k + 1 => if hasBit (clsAt cls k) b then cntK cls b k + 1 else cntK cls b k
theorem cntK_le (cls : List UInt64) (b : Nat) : ∀ k, cntK cls b k ≤ k
  | 0 => Nat.le_refl _
  | k + 1 => by
    have := cntK_le cls b k
    rw [cntK]; split <;> omega
def nzB (cls : List UInt64) (k : Nat) : Bool := !decide (clsAt cls k = Z4)
def oneB (cls : List UInt64) (nc b : Nat) : Bool := decide (cntK cls b nc = 1)
def partR (cls : List UInt64) (nc : Nat) : Bool := decide (1 ≤ nc ∧ nc ≤ 256) && (List.range nc).all (nzB cls) && (List.range 256).all (oneB cls nc)
noncomputable def n1 : Ctx := { P := Tryd.prog, ty := ty, glob := gl, fs := [(66, .flat hasRefS)] }
theorem n1_ok : n1.OK := ⟨tyOK, ⟨⟨enters_mk Tryd.func66 (by kernel_rfl) rfl, hasRef_ok⟩, trivial⟩, mixed⟩
@[simp] theorem n1_ty : n1.ty = ty := rfl

def partS : QSpec := fun vs K => ∃ cls : List UInt64, ∃ nc : Nat, vs = [.c (.ds nc (.u64s cls))] ∧ (cls.length = nc * 4 ∧ nc ≤ 9223372036854775807) ∧ K (.c (.bool (partR cls nc)))
theorem part_ok : FlatOK Tryd.prog gl 65 partS := by
 refine flat_of (Γ := n1) (N := 47) Tryd.func65 rfl rfl fun vs K h => ?_
 obtain ⟨cls, nc, rfl, ⟨hw, hn⟩, h⟩ := h
 refine ⟨_, h, rfl, by simp, fun w I => ?_⟩
 refine seq_k fun _ hK1 => ?_
 refine region_k n1_ok fun _ hK2 => ?_
 refine s_step rfl (by decide) rfl fun _ hS => ?_
 refine hS _ _ _ ?_
 clear hS
 refine s_nil ?_
 refine hK2 _ _ _ ?_
 refine hK1 _ _ _ ?_
 refine seq_k fun _ hK3 => ?_
 refine seq_k fun _ hK4 => ?_
 refine region_k n1_ok fun _ hK5 => ?_
 refine s_step rfl (by decide) rfl fun _ hS => ?_
 refine hS _ _ _ ?_
 clear hS
 refine s_step rfl (by decide) rfl fun _ hS => ?_
 repeat refine And.intro qLn1 ?_
 refine hS _ _ _ ?_
 clear hS
 refine s_step rfl (by decide) rfl fun _ hS => ?_
 repeat refine And.intro qLn1 ?_
 refine hS _ _ _ ?_
 clear hS
 refine s_step rfl (by decide) rfl fun _ hS => ?_
 refine s_split hS (fun hb3 => ?_) (fun hb3 => ?_)
 ·clear hS
  try simp only [decide_eq_true_eq] at hb3
  refine s_guard (b := true) rfl (by decide) rfl rfl (fun e => absurd e (by decide)) (fun _ => ?_)
  refine s_guard (b := true) rfl (by decide) rfl rfl (fun e => absurd e (by decide)) (fun _ => ?_)
  refine s_guard (b := true) rfl (by decide) rfl rfl (fun e => absurd e (by decide)) (fun _ => ?_)
  refine s_step rfl (by decide) rfl fun _ hS => ?_
  refine hS _ _ _ ?_
  clear hS
  refine s_nil ?_
  refine hK5 _ _ _ ?_
  refine hK4 _ _ _ ?_
  refine WP_cond (b := _) rfl (fun _ => ?_) (fun h_t14 => ?_)
  rotate_left 1
  ·exfalso; simp at h_t14
  refine seq_k fun _ hK6 => ?_
  refine region_k n1_ok fun _ hK7 => ?_
  refine s_step rfl (by decide) rfl fun _ hS => ?_
  refine hS _ _ _ ?_
  clear hS
  refine s_nil ?_
  refine hK7 _ _ _ ?_
  refine hK6 _ _ _ ?_
  refine WP_ret (Done_flat n1_ok (fun _ _ h => h) (by first | rfl | assumption) [.tmp 2] rfl ?_)
  repeat refine And.intro (by first | omega | exact trivial | rfl | (simp <;> omega)) ?_
  try refine ite_yes (by first | omega | exact trivial | rfl | (simp <;> omega)) ?_
  show SV.c (.bool false) = _
  rw [partR, decide_eq_false (fun hh => by omega), Bool.false_and, Bool.false_and]
 ·clear hS
  try simp only [decide_eq_false_iff_not, Int.not_lt] at hb3
  refine s_guard (b := false) rfl (by decide) rfl rfl (fun _ _ hS => ?_) (fun e => absurd e (by decide))
  refine hS _ _ _ ?_
  clear hS
  refine s_guard (b := false) rfl (by decide) rfl rfl (fun _ _ hS => ?_) (fun e => absurd e (by decide))
  repeat refine And.intro qLn1 ?_
  refine hS _ _ _ ?_
  clear hS
  refine s_guard (b := false) rfl (by decide) rfl rfl (fun _ _ hS => ?_) (fun e => absurd e (by decide))
  repeat refine And.intro qLn1 ?_
  refine hS _ _ _ ?_
  clear hS
  refine s_step rfl (by decide) rfl fun _ hS => ?_
  refine hS _ _ _ ?_
  clear hS
  refine s_nil ?_
  refine hK5 _ _ _ ?_
  refine hK4 _ _ _ ?_
  refine WP_cond (b := _) rfl (fun h_t14 => ?_) (fun h_t14 => ?_)
  ·try try simp only [decide_eq_true_eq, if_false, Bool.false_eq_true] at h_t14
   refine seq_k fun _ hK8 => ?_
   refine region_k n1_ok fun _ hK9 => ?_
   refine s_step rfl (by decide) rfl fun _ hS => ?_
   refine hS _ _ _ ?_
   clear hS
   refine s_nil ?_
   refine hK9 _ _ _ ?_
   refine hK8 _ _ _ ?_
   refine WP_ret (Done_flat n1_ok (fun _ _ h => h) (by first | rfl | assumption) [.tmp 2] rfl ?_)
   repeat refine And.intro (by first | omega | exact trivial | rfl | (simp <;> omega)) ?_
   try refine ite_yes (by first | omega | exact trivial | rfl | (simp <;> omega)) ?_
   show SV.c (.bool false) = _
   rw [partR, decide_eq_false (fun hh => by omega), Bool.false_and, Bool.false_and]
  ·try try simp only [decide_eq_false_iff_not, Int.not_lt, if_false, Bool.false_eq_true] at h_t14
   refine WP_skip ?_
   refine hK3 _ _ _ ?_
   refine seq_k fun _ hK10 => ?_
   refine seq_k fun _ hK11 => ?_
   have hbase : 1 ≤ nc ∧ nc ≤ 256 := by omega
   refine region_k n1_ok fun _ hK12 => ?_
   refine s_step rfl (by decide) rfl fun _ hS => ?_
   refine hS _ _ _ ?_
   clear hS
   refine s_nil ?_
   refine hK12 _ _ _ ?_
   refine hK11 _ _ _ ?_
   refine WP_block ?_
   refine WP_loop (α := Nat) (fun k => [(0, .c (.ds nc (.u64s cls))), (3, .c (.int .i64 k))]) (fun k => []) 0 (fun k => k ≤ nc ∧ (List.range k).all (nzB cls) = true) (fun k => nc - k) ?_ ?_
   ·refine Done_some [] id 0 ⟨Nat.zero_le _, rfl⟩ ⟨?_, ?_, (by decide : List.Nodup ([] : List Nat)), ?_, ?_, ⟨Nat.zero_le _, fun i hi => absurd hi (Nat.not_lt_zero i)⟩⟩
    ·exact uLn0
    ·exact uLn0
    ·exact uLn0
    ·exact uLn0
   ·intro k hk
    refine seq_k fun _ hK13 => ?_
    refine seq_k fun _ hK14 => ?_
    refine region_k n1_ok fun _ hK15 => ?_
    refine s_step rfl (by decide) rfl fun _ hS => ?_
    refine hS _ _ _ ?_
    clear hS
    refine s_step rfl (by decide) rfl fun _ hS => ?_
    refine hS _ _ _ ?_
    clear hS
    refine s_step rfl (by decide) rfl fun _ hS => ?_
    repeat refine And.intro qLn1 ?_
    refine hS _ _ _ ?_
    clear hS
    refine s_step rfl (by decide) rfl fun _ hS => ?_
    repeat refine And.intro qLn1 ?_
    refine hS _ _ _ ?_
    clear hS
    refine s_nil ?_
    refine hK15 _ _ _ ?_
    refine hK14 _ _ _ ?_
    refine WP_cond (b := _) rfl (fun h_t18 => ?_) (fun h_t18 => ?_)
    ·try try simp only [decide_eq_true_eq] at h_t18
     refine WP_skip ?_
     refine hK13 _ _ _ ?_
     refine seq_k fun _ hK16 => ?_
     refine WP_block ?_
     refine seq_k fun _ hK17 => ?_
     have hkn : k < nc := by omega
     have hcl := clsAt_length hw hkn
     have hsub : (Cont.u64s cls).sub ((k : Int).toNat * 4) (4 * 1) = .u64s (clsAt cls k) := rfl
     refine region_k n1_ok fun _ hK18 => ?_
     refine s_step rfl (by decide) rfl fun _ hS => ?_
     refine hS _ _ _ ?_
     clear hS
     refine s_step rfl (by decide) rfl fun _ hS => ?_
     refine hS _ _ _ ?_
     clear hS
     refine s_step rfl (by decide) rfl fun _ hS => ?_
     repeat refine And.intro qLn2 ?_
     refine hS _ _ _ ?_
     clear hS
     refine s_step rfl (by decide) rfl fun _ hS => ?_
     refine And.intro (by decide) ?_
     refine And.intro (by simp only [len_u64s]; omega) ?_
     refine whole_sub ?_
     rw [hsub]
     refine hS _ _ _ ?_
     clear hS
     refine s_step rfl (by decide) rfl fun _ hS => ?_
     repeat refine And.intro qLn2 ?_
     refine hS _ _ _ ?_
     clear hS
     refine s_step rfl (by decide) rfl fun _ hS => ?_
     repeat refine And.intro qLn2 ?_
     refine hS _ _ _ ?_
     clear hS
     refine s_nil ?_
     refine hK18 _ _ _ ?_
     refine hK17 _ _ _ ?_
     refine WP_cond (b := _) rfl (fun h_t26 => ?_) (fun h_t26 => ?_)
     ·try try simp only [decide_eq_true_eq] at h_t26
      refine seq_k fun _ hK19 => ?_
      refine region_k n1_ok fun _ hK20 => ?_
      refine s_step rfl (by decide) rfl fun _ hS => ?_
      refine hS _ _ _ ?_
      clear hS
      refine s_nil ?_
      refine hK20 _ _ _ ?_
      refine hK19 _ _ _ ?_
      refine WP_ret (Done_flat n1_ok (fun _ _ h => h) (by first | rfl | assumption) [.tmp 2] rfl ?_)
      repeat refine And.intro (by first | omega | exact trivial | rfl | (simp <;> omega)) ?_
      try refine ite_yes (by first | omega | exact trivial | rfl | (simp <;> omega)) ?_
      show SV.c (.bool false) = _
      rw [partR, all_range_no hkn (by rw [nzB, decide_eq_true (show clsAt cls k = Z4 from h_t26)]; rfl), Bool.and_false, Bool.false_and]
     ·try try simp only [decide_eq_false_iff_not] at h_t26
      refine WP_skip ?_
      refine done_block ?_
      refine hK16 _ _ _ ?_
      refine region_k n1_ok fun _ hK21 => ?_
      refine s_step rfl (by decide) rfl fun _ hS => ?_
      refine hS _ _ _ ?_
      clear hS
      refine s_step rfl (by decide) rfl fun _ hS => ?_
      repeat refine And.intro qLn1 ?_
      refine hS _ _ _ ?_
      clear hS
      refine s_step rfl (by decide) rfl fun _ hS => ?_
      refine hS _ _ _ ?_
      clear hS
      refine s_nil ?_
      refine hK21 _ _ _ ?_
      refine Done_some [] id (k + 1) ⟨⟨by omega, all_range_succ hk.2 (by rw [nzB, decide_eq_false (show ¬ clsAt cls k = Z4 from h_t26)]; rfl)⟩, by omega⟩ ⟨?_, ?_, (by decide : List.Nodup ([] : List Nat)), ?_, ?_, ⟨Nat.zero_le _, fun i hi => absurd hi (Nat.not_lt_zero i)⟩⟩
      ·exact uLn0
      ·exact uLn0
      ·exact uLn0
      ·exact uLn0
    ·try try simp only [decide_eq_false_iff_not, Int.not_lt] at h_t18
     refine WP_exit ?_
     refine done_thenx ?_
     refine done_thenx ?_
     refine Done_hit ?_
     refine hK10 _ _ _ ?_
     refine seq_k fun _ hK22 => ?_
     refine seq_k fun _ hK23 => ?_
     obtain rfl : k = nc := by omega
     have hnz := hk.2
     refine region_k n1_ok fun _ hK24 => ?_
     refine s_step rfl (by decide) rfl fun _ hS => ?_
     refine hS _ _ _ ?_
     clear hS
     refine s_nil ?_
     refine hK24 _ _ _ ?_
     refine hK23 _ _ _ ?_
     refine WP_block ?_
     refine WP_loop (α := Nat) (fun b => [(0, .c (.ds k (.u64s cls))), (4, .c (.int .i64 b))]) (fun b => []) 0 (fun b => b ≤ 256 ∧ (List.range b).all (oneB cls k) = true) (fun b => 256 - b) ?_ ?_
     ·refine Done_some [] id 0 ⟨Nat.zero_le _, rfl⟩ ⟨?_, ?_, (by decide : List.Nodup ([] : List Nat)), ?_, ?_, ⟨Nat.zero_le _, fun i hi => absurd hi (Nat.not_lt_zero i)⟩⟩
      ·exact uLn0
      ·exact uLn0
      ·exact uLn0
      ·exact uLn0
     ·intro b hb
      refine seq_k fun _ hK25 => ?_
      refine seq_k fun _ hK26 => ?_
      refine region_k n1_ok fun _ hK27 => ?_
      refine s_step rfl (by decide) rfl fun _ hS => ?_
      refine hS _ _ _ ?_
      clear hS
      refine s_step rfl (by decide) rfl fun _ hS => ?_
      repeat refine And.intro qLn1 ?_
      refine hS _ _ _ ?_
      clear hS
      refine s_nil ?_
      refine hK27 _ _ _ ?_
      refine hK26 _ _ _ ?_
      refine WP_cond (b := _) rfl (fun h_t28 => ?_) (fun h_t28 => ?_)
      ·try try simp only [decide_eq_true_eq] at h_t28
       refine WP_skip ?_
       refine hK25 _ _ _ ?_
       refine seq_k fun _ hK28 => ?_
       refine WP_block ?_
       refine seq_k fun _ hK29 => ?_
       have hb256 : b < 256 := by omega
       refine region_k n1_ok fun _ hK30 => ?_
       refine s_step rfl (by decide) rfl fun _ hS => ?_
       refine hS _ _ _ ?_
       clear hS
       refine s_nil ?_
       refine hK30 _ _ _ ?_
       refine hK29 _ _ _ ?_
       refine seq_k fun _ hK31 => ?_
       refine seq_k fun _ hK32 => ?_
       refine region_k n1_ok fun _ hK33 => ?_
       refine s_step rfl (by decide) rfl fun _ hS => ?_
       refine hS _ _ _ ?_
       clear hS
       refine s_nil ?_
       refine hK33 _ _ _ ?_
       refine hK32 _ _ _ ?_
       refine WP_block ?_
       refine WP_loop (α := Nat) (fun j => [(0, .c (.ds k (.u64s cls))), (4, .c (.int .i64 b)), (5, .c (.int .i64 (cntK cls b j))), (6, .c (.int .i64 j))]) (fun j => []) 0 (fun j => j ≤ k) (fun j => k - j) ?_ ?_
       ·refine Done_some [] id 0 (Nat.zero_le _) ⟨?_, ?_, (by decide : List.Nodup ([] : List Nat)), ?_, ?_, ⟨Nat.zero_le _, fun i hi => absurd hi (Nat.not_lt_zero i)⟩⟩
        ·exact uLn0
        ·exact uLn0
        ·exact uLn0
        ·exact uLn0
       ·intro j hj
        refine seq_k fun _ hK34 => ?_
        refine seq_k fun _ hK35 => ?_
        refine region_k n1_ok fun _ hK36 => ?_
        refine s_step rfl (by decide) rfl fun _ hS => ?_
        refine hS _ _ _ ?_
        clear hS
        refine s_step rfl (by decide) rfl fun _ hS => ?_
        refine hS _ _ _ ?_
        clear hS
        refine s_step rfl (by decide) rfl fun _ hS => ?_
        repeat refine And.intro qLn1 ?_
        refine hS _ _ _ ?_
        clear hS
        refine s_step rfl (by decide) rfl fun _ hS => ?_
        repeat refine And.intro qLn1 ?_
        refine hS _ _ _ ?_
        clear hS
        refine s_nil ?_
        refine hK36 _ _ _ ?_
        refine hK35 _ _ _ ?_
        refine WP_cond (b := _) rfl (fun h_t34 => ?_) (fun h_t34 => ?_)
        ·try try simp only [decide_eq_true_eq] at h_t34
         refine WP_skip ?_
         refine hK34 _ _ _ ?_
         refine seq_k fun _ hK37 => ?_
         refine WP_block ?_
         refine seq_k fun _ hK38 => ?_
         have hjn : j < k := by omega
         have hcl := clsAt_length hw hjn
         have hsub : (Cont.u64s cls).sub ((j : Int).toNat * 4) (4 * 1) = .u64s (clsAt cls j) := rfl
         refine region_k n1_ok fun _ hK39 => ?_
         refine s_step rfl (by decide) rfl fun _ hS => ?_
         refine hS _ _ _ ?_
         clear hS
         refine s_step rfl (by decide) rfl fun _ hS => ?_
         refine hS _ _ _ ?_
         clear hS
         refine s_step rfl (by decide) rfl fun _ hS => ?_
         repeat refine And.intro qLn3 ?_
         refine hS _ _ _ ?_
         clear hS
         refine s_step rfl (by decide) rfl fun _ hS => ?_
         refine And.intro (by decide) ?_
         refine And.intro (by simp only [len_u64s]; omega) ?_
         refine whole_sub ?_
         rw [hsub]
         refine hS _ _ _ ?_
         clear hS
         refine s_step rfl (by decide) rfl fun _ hS => ?_
         refine hS _ _ _ ?_
         clear hS
         refine s_step rfl (by decide) rfl fun _ hS => ?_
         repeat first | refine And.intro qLn3 ?_ | refine whole_yes qLn3 ?_ | refine whole_sub ?_
         refine ⟨clsAt cls j, b, rfl, ⟨hcl, hb256⟩, ?_⟩
         repeat refine And.intro qLn3 ?_
         first | refine hS _ _ _ ?_ | (intro cap5 hcap5; refine hS _ _ _ ?_)
         clear hS
         refine s_nil ?_
         refine hK39 _ _ _ ?_
         refine hK38 _ _ _ ?_
         refine WP_cond (b := _) rfl (fun h_t42 => ?_) (fun h_t42 => ?_)
         ·skip
          have hcle := cntK_le cls b j
          refine region_k n1_ok fun _ hK40 => ?_
          refine s_step rfl (by decide) rfl fun _ hS => ?_
          refine hS _ _ _ ?_
          clear hS
          refine s_step rfl (by decide) rfl fun _ hS => ?_
          repeat refine And.intro qLn1 ?_
          refine hS _ _ _ ?_
          clear hS
          refine s_step rfl (by decide) rfl fun _ hS => ?_
          refine hS _ _ _ ?_
          clear hS
          refine s_nil ?_
          refine hK40 _ _ _ ?_
          refine done_block ?_
          refine hK37 _ _ _ ?_
          refine region_k n1_ok fun _ hK41 => ?_
          refine s_step rfl (by decide) rfl fun _ hS => ?_
          refine hS _ _ _ ?_
          clear hS
          refine s_step rfl (by decide) rfl fun _ hS => ?_
          repeat refine And.intro qLn1 ?_
          refine hS _ _ _ ?_
          clear hS
          refine s_step rfl (by decide) rfl fun _ hS => ?_
          refine hS _ _ _ ?_
          clear hS
          refine s_nil ?_
          refine hK41 _ _ _ ?_
          refine Done_some [] id (j + 1) ⟨by omega, by omega⟩ ⟨?_, ?_, (by decide : List.Nodup ([] : List Nat)), ?_, ?_, ⟨Nat.zero_le _, fun i hi => absurd hi (Nat.not_lt_zero i)⟩⟩
          ·exact uLn1
          ·exact uLn0
          ·exact uLn0
          ·exact uLn0
         ·replace h_t42 : ¬ hasBit (clsAt cls j) b = true := by rw [h_t42]; decide
          refine WP_skip ?_
          refine done_block ?_
          refine hK37 _ _ _ ?_
          refine region_k n1_ok fun _ hK42 => ?_
          refine s_step rfl (by decide) rfl fun _ hS => ?_
          refine hS _ _ _ ?_
          clear hS
          refine s_step rfl (by decide) rfl fun _ hS => ?_
          repeat refine And.intro qLn1 ?_
          refine hS _ _ _ ?_
          clear hS
          refine s_step rfl (by decide) rfl fun _ hS => ?_
          refine hS _ _ _ ?_
          clear hS
          refine s_nil ?_
          refine hK42 _ _ _ ?_
          refine Done_some [] id (j + 1) ⟨by omega, by omega⟩ ⟨?_, ?_, (by decide : List.Nodup ([] : List Nat)), ?_, ?_, ⟨Nat.zero_le _, fun i hi => absurd hi (Nat.not_lt_zero i)⟩⟩
          ·exact uLn1
          ·exact uLn0
          ·exact uLn0
          ·exact uLn0
        ·try try simp only [decide_eq_false_iff_not, Int.not_lt] at h_t34
         refine WP_exit ?_
         refine done_thenx ?_
         refine done_thenx ?_
         refine Done_hit ?_
         refine hK31 _ _ _ ?_
         refine seq_k fun _ hK43 => ?_
         obtain rfl : j = k := by omega
         refine region_k n1_ok fun _ hK44 => ?_
         refine s_step rfl (by decide) rfl fun _ hS => ?_
         refine hS _ _ _ ?_
         clear hS
         refine s_step rfl (by decide) rfl fun _ hS => ?_
         repeat refine And.intro qLn1 ?_
         refine hS _ _ _ ?_
         clear hS
         refine s_nil ?_
         refine hK44 _ _ _ ?_
         refine hK43 _ _ _ ?_
         refine WP_cond (b := _) rfl (fun h_t46 => ?_) (fun h_t46 => ?_)
         ·try try simp only [decide_eq_false_iff_not, Bool.not_eq_eq_eq_not, Bool.not_true] at h_t46
          refine seq_k fun _ hK45 => ?_
          refine region_k n1_ok fun _ hK46 => ?_
          refine s_step rfl (by decide) rfl fun _ hS => ?_
          refine hS _ _ _ ?_
          clear hS
          refine s_nil ?_
          refine hK46 _ _ _ ?_
          refine hK45 _ _ _ ?_
          refine WP_ret (Done_flat n1_ok (fun _ _ h => h) (by first | rfl | assumption) [.tmp 2] rfl ?_)
          repeat refine And.intro (by first | omega | exact trivial | rfl | (simp <;> omega)) ?_
          try refine ite_yes (by first | omega | exact trivial | rfl | (simp <;> omega)) ?_
          show SV.c (.bool false) = _
          rw [partR, all_range_no hb256 (by rw [oneB, decide_eq_false (by omega)]), Bool.and_false]
         ·try try simp only [decide_eq_true_eq, Bool.not_eq_eq_eq_not, Bool.not_false] at h_t46
          refine WP_skip ?_
          refine done_block ?_
          refine hK28 _ _ _ ?_
          refine region_k n1_ok fun _ hK47 => ?_
          refine s_step rfl (by decide) rfl fun _ hS => ?_
          refine hS _ _ _ ?_
          clear hS
          refine s_step rfl (by decide) rfl fun _ hS => ?_
          repeat refine And.intro qLn1 ?_
          refine hS _ _ _ ?_
          clear hS
          refine s_step rfl (by decide) rfl fun _ hS => ?_
          refine hS _ _ _ ?_
          clear hS
          refine s_nil ?_
          refine hK47 _ _ _ ?_
          refine Done_some [] id (b + 1) ⟨⟨by omega, all_range_succ hb.2 (by rw [oneB, decide_eq_true (by omega)])⟩, by omega⟩ ⟨?_, ?_, (by decide : List.Nodup ([] : List Nat)), ?_, ?_, ⟨Nat.zero_le _, fun i hi => absurd hi (Nat.not_lt_zero i)⟩⟩
          ·exact uLn0
          ·exact uLn0
          ·exact uLn0
          ·exact uLn0
      ·try try simp only [decide_eq_false_iff_not, Int.not_lt] at h_t28
       refine WP_exit ?_
       refine done_thenx ?_
       refine done_thenx ?_
       refine Done_hit ?_
       refine hK22 _ _ _ ?_
       refine seq_k fun _ hK48 => ?_
       refine region_k n1_ok fun _ hK49 => ?_
       refine s_step rfl (by decide) rfl fun _ hS => ?_
       refine hS _ _ _ ?_
       clear hS
       refine s_nil ?_
       refine hK49 _ _ _ ?_
       refine hK48 _ _ _ ?_
       refine WP_ret (Done_flat n1_ok (fun _ _ h => h) (by first | rfl | assumption) [.tmp 2] rfl ?_)
       repeat refine And.intro (by first | omega | exact trivial | rfl | (simp <;> omega)) ?_
       try refine ite_yes (by first | omega | exact trivial | rfl | (simp <;> omega)) ?_
       show SV.c (.bool true) = _
       obtain rfl : b = 256 := by omega
       rw [partR, decide_eq_true hbase, hnz, hb.2]
       rfl

def soundD (d : Dfa) : Bool := decide (1 ≤ d.next.length ∧ d.acc.length = d.next.length) && partR d.cls d.nc && d.next.all (rowOK d.nc d.next.length)
def validRD (d : Dfa) : Bool := decide (d.next.length ≤ 64) && soundD d
noncomputable def n2 : Ctx := { P := Tryd.prog, ty := ty, glob := gl, fs := [(65, .flat partS)] }
theorem n2_ok : n2.OK := ⟨tyOK, ⟨⟨enters_mk Tryd.func65 (by kernel_rfl) rfl, part_ok⟩, trivial⟩, mixed⟩
@[simp] theorem n2_ty : n2.ty = ty := rfl

def soundRS : QSpec := fun vs K => ∃ d : Dfa, vs = [dfaV d] ∧ d.wf ∧ K (.c (.bool (soundD d)))
set_option maxHeartbeats 1000000 in
theorem soundR_ok : FlatOK Tryd.prog gl 59 soundRS := by
 refine flat_of (Γ := n2) (N := 70) Tryd.func59 rfl rfl fun vs K h => ?_
 obtain ⟨d, rfl, ⟨hw1, hw2, hw3, hw4, hw5⟩, h⟩ := h
 refine ⟨_, h, rfl, by simp, fun w I => ?_⟩
 refine seq_k fun _ hK1 => ?_
 refine region_k n2_ok fun _ hK2 => ?_
 refine s_step rfl (by decide) rfl fun _ hS => ?_
 repeat refine And.intro qLn4 ?_
 refine hS _ _ _ ?_
 clear hS
 refine s_step rfl (by decide) rfl fun _ hS => ?_
 refine hS _ _ _ ?_
 clear hS
 refine s_nil ?_
 refine hK2 _ _ _ ?_
 refine hK1 _ _ _ ?_
 refine seq_k fun _ hK3 => ?_
 refine region_k n2_ok fun _ hK4 => ?_
 refine s_step rfl (by decide) rfl fun _ hS => ?_
 repeat refine And.intro qLn4 ?_
 refine hS _ _ _ ?_
 clear hS
 refine s_step rfl (by decide) rfl fun _ hS => ?_
 repeat refine And.intro qLn4 ?_
 first | refine hS _ _ _ ?_ | (refine whole_yes qLn4 ?_; refine hS _ _ _ ?_) | (refine whole_sub ?_; refine hS _ _ _ ?_)
 clear hS
 refine s_step rfl (by decide) rfl fun _ hS => ?_
 repeat refine And.intro qLn4 ?_
 refine hS _ _ _ ?_
 clear hS
 refine s_step rfl (by decide) rfl fun _ hS => ?_
 refine hS _ _ _ ?_
 clear hS
 refine s_nil ?_
 refine hK4 _ _ _ ?_
 refine hK3 _ _ _ ?_
 refine seq_k fun _ hK5 => ?_
 refine seq_k fun _ hK6 => ?_
 refine region_k n2_ok fun _ hK7 => ?_
 refine s_step rfl (by decide) rfl fun _ hS => ?_
 refine hS _ _ _ ?_
 clear hS
 refine s_step rfl (by decide) rfl fun _ hS => ?_
 repeat refine And.intro qLn4 ?_
 refine hS _ _ _ ?_
 clear hS
 refine s_step rfl (by decide) rfl fun _ hS => ?_
 refine s_split hS (fun hb2 => ?_) (fun hb2 => ?_)
 ·clear hS
  try simp only [decide_eq_true_eq] at hb2
  refine s_guard (b := true) rfl (by decide) rfl rfl (fun e => absurd e (by decide)) (fun _ => ?_)
  refine s_guard (b := true) rfl (by decide) rfl rfl (fun e => absurd e (by decide)) (fun _ => ?_)
  refine s_guard (b := true) rfl (by decide) rfl rfl (fun e => absurd e (by decide)) (fun _ => ?_)
  refine s_guard (b := true) rfl (by decide) rfl rfl (fun e => absurd e (by decide)) (fun _ => ?_)
  refine s_guard (b := true) rfl (by decide) rfl rfl (fun e => absurd e (by decide)) (fun _ => ?_)
  refine s_step rfl (by decide) rfl fun _ hS => ?_
  refine hS _ _ _ ?_
  clear hS
  refine s_step rfl (by decide) rfl fun _ hS => ?_
  refine s_split hS (fun hb9 => ?_) (fun hb9 => ?_)
  rotate_left 1
  ·exfalso; simp at hb9
  clear hS
  refine s_guard (b := true) rfl (by decide) rfl rfl (fun e => absurd e (by decide)) (fun _ => ?_)
  refine s_guard (b := true) rfl (by decide) rfl rfl (fun e => absurd e (by decide)) (fun _ => ?_)
  refine s_guard (b := true) rfl (by decide) rfl rfl (fun e => absurd e (by decide)) (fun _ => ?_)
  refine s_guard (b := true) rfl (by decide) rfl rfl (fun e => absurd e (by decide)) (fun _ => ?_)
  refine s_step rfl (by decide) rfl fun _ hS => ?_
  refine hS _ _ _ ?_
  clear hS
  refine s_nil ?_
  refine hK7 _ _ _ ?_
  refine hK6 _ _ _ ?_
  refine WP_cond (b := _) rfl (fun _ => ?_) (fun h_t23 => ?_)
  rotate_left 1
  ·exfalso; simp at h_t23
  refine seq_k fun _ hK8 => ?_
  refine region_k n2_ok fun _ hK9 => ?_
  refine s_step rfl (by decide) rfl fun _ hS => ?_
  refine hS _ _ _ ?_
  clear hS
  refine s_nil ?_
  refine hK9 _ _ _ ?_
  refine hK8 _ _ _ ?_
  refine WP_ret (Done_flat n2_ok (fun _ _ h => h) (by first | rfl | assumption) [.tmp 2] rfl ?_)
  repeat refine And.intro (by first | omega | exact trivial | rfl | (simp <;> omega)) ?_
  try refine ite_yes (by first | omega | exact trivial | rfl | (simp <;> omega)) ?_
  show SV.c (.bool false) = _
  rw [soundD, decide_eq_false (fun hh => by omega), Bool.false_and, Bool.false_and]
 ·clear hS
  try simp only [decide_eq_false_iff_not, Int.not_lt] at hb2
  refine s_guard (b := false) rfl (by decide) rfl rfl (fun _ _ hS => ?_) (fun e => absurd e (by decide))
  repeat refine And.intro qLn4 ?_
  refine hS _ _ _ ?_
  clear hS
  refine s_guard (b := false) rfl (by decide) rfl rfl (fun _ _ hS => ?_) (fun e => absurd e (by decide))
  repeat refine And.intro qLn4 ?_
  first | refine hS _ _ _ ?_ | (refine whole_yes qLn4 ?_; refine hS _ _ _ ?_) | (refine whole_sub ?_; refine hS _ _ _ ?_)
  clear hS
  refine s_guard (b := false) rfl (by decide) rfl rfl (fun _ _ hS => ?_) (fun e => absurd e (by decide))
  repeat refine And.intro qLn4 ?_
  refine hS _ _ _ ?_
  clear hS
  refine s_guard (b := false) rfl (by decide) rfl rfl (fun _ _ hS => ?_) (fun e => absurd e (by decide))
  refine hS _ _ _ ?_
  clear hS
  refine s_guard (b := false) rfl (by decide) rfl rfl (fun _ _ hS => ?_) (fun e => absurd e (by decide))
  repeat refine And.intro qLn4 ?_
  refine hS _ _ _ ?_
  clear hS
  refine s_step rfl (by decide) rfl fun _ hS => ?_
  refine hS _ _ _ ?_
  clear hS
  refine s_step rfl (by decide) rfl fun _ hS => ?_
  refine s_split hS (fun hb9 => ?_) (fun hb9 => ?_)
  ·clear hS
   try simp only [decide_eq_false_iff_not, Bool.not_eq_eq_eq_not, Bool.not_true, if_false, Bool.false_eq_true, Int.natCast_inj] at hb9
   refine s_guard (b := true) rfl (by decide) rfl rfl (fun e => absurd e (by decide)) (fun _ => ?_)
   refine s_guard (b := true) rfl (by decide) rfl rfl (fun e => absurd e (by decide)) (fun _ => ?_)
   refine s_guard (b := true) rfl (by decide) rfl rfl (fun e => absurd e (by decide)) (fun _ => ?_)
   refine s_guard (b := true) rfl (by decide) rfl rfl (fun e => absurd e (by decide)) (fun _ => ?_)
   refine s_step rfl (by decide) rfl fun _ hS => ?_
   refine hS _ _ _ ?_
   clear hS
   refine s_nil ?_
   refine hK7 _ _ _ ?_
   refine hK6 _ _ _ ?_
   refine WP_cond (b := _) rfl (fun _ => ?_) (fun h_t23 => ?_)
   rotate_left 1
   ·exfalso; simp at h_t23
   refine seq_k fun _ hK10 => ?_
   refine region_k n2_ok fun _ hK11 => ?_
   refine s_step rfl (by decide) rfl fun _ hS => ?_
   refine hS _ _ _ ?_
   clear hS
   refine s_nil ?_
   refine hK11 _ _ _ ?_
   refine hK10 _ _ _ ?_
   refine WP_ret (Done_flat n2_ok (fun _ _ h => h) (by first | rfl | assumption) [.tmp 2] rfl ?_)
   repeat refine And.intro (by first | omega | exact trivial | rfl | (simp <;> omega)) ?_
   try refine ite_yes (by first | omega | exact trivial | rfl | (simp <;> omega)) ?_
   show SV.c (.bool false) = _
   rw [soundD, decide_eq_false (fun hh => by omega), Bool.false_and, Bool.false_and]
  ·clear hS
   try simp only [decide_eq_true_eq, Bool.not_eq_eq_eq_not, Bool.not_false, if_false, Bool.false_eq_true, Int.natCast_inj] at hb9
   refine s_guard (b := false) rfl (by decide) rfl rfl (fun _ _ hS => ?_) (fun e => absurd e (by decide))
   repeat refine And.intro qLn4 ?_
   refine hS _ _ _ ?_
   clear hS
   refine s_guard (b := false) rfl (by decide) rfl rfl (fun _ _ hS => ?_) (fun e => absurd e (by decide))
   repeat refine And.intro qLn4 ?_
   first | refine hS _ _ _ ?_ | (refine whole_yes qLn4 ?_; refine hS _ _ _ ?_) | (refine whole_sub ?_; refine hS _ _ _ ?_)
   clear hS
   refine s_guard (b := false) rfl (by decide) rfl rfl (fun _ _ hS => ?_) (fun e => absurd e (by decide))
   repeat first | refine And.intro qLn4 ?_ | refine whole_yes qLn4 ?_ | refine whole_sub ?_
   refine ⟨d.cls, d.nc, rfl, ⟨hw1, hw2⟩, ?_⟩
   repeat refine And.intro qLn4 ?_
   first | refine hS _ _ _ ?_ | (intro cap12 hcap12; refine hS _ _ _ ?_)
   clear hS
   refine s_guard (b := false) rfl (by decide) rfl rfl (fun _ _ hS => ?_) (fun e => absurd e (by decide))
   refine hS _ _ _ ?_
   clear hS
   refine s_step rfl (by decide) rfl fun _ hS => ?_
   refine hS _ _ _ ?_
   clear hS
   refine s_nil ?_
   refine hK7 _ _ _ ?_
   refine hK6 _ _ _ ?_
   refine WP_cond (b := _) rfl (fun h_t23 => ?_) (fun h_t23 => ?_)
   ·try try simp only [Bool.not_eq_eq_eq_not, Bool.not_true, if_false, Bool.false_eq_true] at h_t23
    refine seq_k fun _ hK12 => ?_
    refine region_k n2_ok fun _ hK13 => ?_
    refine s_step rfl (by decide) rfl fun _ hS => ?_
    refine hS _ _ _ ?_
    clear hS
    refine s_nil ?_
    refine hK13 _ _ _ ?_
    refine hK12 _ _ _ ?_
    refine WP_ret (Done_flat n2_ok (fun _ _ h => h) (by first | rfl | assumption) [.tmp 2] rfl ?_)
    repeat refine And.intro (by first | omega | exact trivial | rfl | (simp <;> omega)) ?_
    try refine ite_yes (by first | omega | exact trivial | rfl | (simp <;> omega)) ?_
    show SV.c (.bool false) = _
    rw [soundD, show partR d.cls d.nc = false by simpa using h_t23, Bool.and_false, Bool.false_and]
   ·try try simp only [Bool.not_eq_eq_eq_not, Bool.not_false, if_false, Bool.false_eq_true] at h_t23
    refine WP_skip ?_
    refine hK5 _ _ _ ?_
    refine seq_k fun _ hK14 => ?_
    refine seq_k fun _ hK15 => ?_
    have hbase : 1 ≤ d.next.length ∧ d.acc.length = d.next.length := by omega
    have hpart : partR d.cls d.nc = true := by simpa using h_t23
    refine region_k n2_ok fun _ hK16 => ?_
    refine s_step rfl (by decide) rfl fun _ hS => ?_
    refine hS _ _ _ ?_
    clear hS
    refine s_nil ?_
    refine hK16 _ _ _ ?_
    refine hK15 _ _ _ ?_
    refine WP_block ?_
    refine WP_loop (α := Nat) (fun k => [(1, .c (.ptr 0 0)), (3, .c (.int .i64 d.next.length)), (4, .c (.int .i64 k))]) (fun k => [(0, .own 40 (dfaC d) 3)]) 1 (fun k => k ≤ d.next.length ∧ (d.next.take k).all (rowOK d.nc d.next.length) = true) (fun k => d.next.length - k) ?_ ?_
    ·refine Done_some [] id 0 ⟨Nat.zero_le _, rfl⟩ ⟨?_, ?_, (by decide : List.Nodup ([0] : List Nat)), ?_, ?_, ⟨Nat.zero_le _, fun i hi => absurd hi (Nat.not_lt_zero i)⟩⟩
     ·exact uLn2
     ·exact uLn2
     ·exact uLn2
     ·exact uLn2
    ·intro k hk
     refine seq_k fun _ hK17 => ?_
     refine seq_k fun _ hK18 => ?_
     refine region_k n2_ok fun _ hK19 => ?_
     refine s_step rfl (by decide) rfl fun _ hS => ?_
     refine hS _ _ _ ?_
     clear hS
     refine s_step rfl (by decide) rfl fun _ hS => ?_
     refine hS _ _ _ ?_
     clear hS
     refine s_step rfl (by decide) rfl fun _ hS => ?_
     repeat refine And.intro qLn4 ?_
     refine hS _ _ _ ?_
     clear hS
     refine s_nil ?_
     refine hK19 _ _ _ ?_
     refine hK18 _ _ _ ?_
     refine WP_cond (b := _) rfl (fun h_t26 => ?_) (fun h_t26 => ?_)
     ·try try simp only [decide_eq_true_eq] at h_t26
      refine WP_skip ?_
      refine hK17 _ _ _ ?_
      refine seq_k fun _ hK20 => ?_
      refine WP_block ?_
      refine seq_k fun _ hK21 => ?_
      refine seq_k fun _ hK22 => ?_
      have hkn : k < d.next.length := by omega
      have hrl := hw5 _ (getD_mem (d := []) hkn)
      refine sched_k n2_ok [(0, true), (1, true), (2, true), (3, true), (4, true), (5, true), (6, true), (7, true), (8, true), (9, true)] rfl (by kernel_rfl) (by kernel_rfl) fun _ hK23 => ?_
      refine d_read rfl rfl (by decide) rfl fun _ hS => ?_
      repeat refine And.intro qLn4 ?_
      refine hS _ ?_
      clear hS
      refine d_read rfl rfl (by decide) rfl fun _ hS => ?_
      repeat refine And.intro qLn4 ?_
      first | refine hS _ ?_ | (refine whole_yes qLn4 ?_; refine hS _ ?_) | (refine whole_sub ?_; refine hS _ ?_)
      clear hS
      refine d_read rfl rfl (by decide) rfl fun _ hS => ?_
      refine hS _ ?_
      clear hS
      refine d_read rfl rfl (by decide) rfl fun _ hS => ?_
      repeat refine And.intro qLn4 ?_
      refine hS _ ?_
      clear hS
      refine d_read rfl rfl (by decide) rfl fun _ hS => ?_
      repeat refine And.intro qLn4 ?_
      rw [show (k : Int).toNat * 1 = k by omega, get_rows hkn]
      first | refine hS _ ?_ | (refine whole_yes qLn4 ?_; refine hS _ ?_) | (refine whole_sub ?_; refine hS _ ?_)
      clear hS
      refine d_read rfl rfl (by decide) rfl fun _ hS => ?_
      repeat refine And.intro qLn4 ?_
      refine hS _ ?_
      clear hS
      refine d_read rfl rfl (by decide) rfl fun _ hS => ?_
      repeat refine And.intro qLn4 ?_
      refine hS _ ?_
      clear hS
      refine d_read rfl rfl (by decide) rfl fun _ hS => ?_
      repeat refine And.intro qLn4 ?_
      first | refine hS _ ?_ | (refine whole_yes qLn4 ?_; refine hS _ ?_) | (refine whole_sub ?_; refine hS _ ?_)
      clear hS
      refine d_read rfl rfl (by decide) rfl fun _ hS => ?_
      repeat refine And.intro qLn4 ?_
      refine hS _ ?_
      clear hS
      refine d_read rfl rfl (by decide) rfl fun _ hS => ?_
      repeat refine And.intro qLn4 ?_
      refine hS _ ?_
      clear hS
      refine d_nil ?_
      refine hK23 _ _ _ ?_
      refine hK22 _ _ _ ?_
      refine WP_cond (b := _) rfl (fun h_t38 => ?_) (fun h_t38 => ?_)
      ·try simp only [decide_eq_false_iff_not, Bool.not_eq_eq_eq_not, Bool.not_true, Int.natCast_inj] at h_t38
       try simp only [Int.toNat_natCast, Nat.mul_one] at h_t38
       refine seq_k fun _ hK24 => ?_
       refine region_k n2_ok fun _ hK25 => ?_
       refine s_step rfl (by decide) rfl fun _ hS => ?_
       refine hS _ _ _ ?_
       clear hS
       refine s_nil ?_
       refine hK25 _ _ _ ?_
       refine hK24 _ _ _ ?_
       refine WP_ret (Done_flat n2_ok (fun _ _ h => h) (by first | rfl | assumption) [.tmp 2] rfl ?_)
       repeat refine And.intro (by first | omega | exact trivial | rfl | (simp <;> omega)) ?_
       try refine ite_yes (by first | omega | exact trivial | rfl | (simp <;> omega)) ?_
       show SV.c (.bool false) = _
       rw [soundD, all_no (d := []) hkn (by rw [rowOK, decide_eq_false (by omega), Bool.false_and]), Bool.and_false]
      ·try simp only [decide_eq_true_eq, Bool.not_eq_eq_eq_not, Bool.not_false, Int.natCast_inj] at h_t38
       try simp only [Int.toNat_natCast, Nat.mul_one] at h_t38
       refine WP_skip ?_
       refine hK21 _ _ _ ?_
       refine seq_k fun _ hK26 => ?_
       refine region_k n2_ok fun _ hK27 => ?_
       refine s_step rfl (by decide) rfl fun _ hS => ?_
       refine hS _ _ _ ?_
       clear hS
       refine s_nil ?_
       refine hK27 _ _ _ ?_
       refine hK26 _ _ _ ?_
       refine WP_block ?_
       refine WP_loop (α := Nat) (fun j => [(1, .c (.ptr 0 0)), (3, .c (.int .i64 d.next.length)), (4, .c (.int .i64 k)), (5, .c (.int .i64 j))]) (fun j => [(0, .own 40 (dfaC d) 3)]) 1 (fun j => j ≤ (d.next.getD k []).length ∧ ((d.next.getD k []).take j).all (tgtOK d.next.length) = true) (fun j => (d.next.getD k []).length - j) ?_ ?_
       ·refine Done_some [] id 0 ⟨Nat.zero_le _, rfl⟩ ⟨?_, ?_, (by decide : List.Nodup ([0] : List Nat)), ?_, ?_, ⟨Nat.zero_le _, fun i hi => absurd hi (Nat.not_lt_zero i)⟩⟩
        ·exact uLn2
        ·exact uLn2
        ·exact uLn2
        ·exact uLn2
       ·intro j hj
        refine seq_k fun _ hK28 => ?_
        refine seq_k fun _ hK29 => ?_
        refine region_k n2_ok fun _ hK30 => ?_
        refine s_step rfl (by decide) rfl fun _ hS => ?_
        refine hS _ _ _ ?_
        clear hS
        refine s_step rfl (by decide) rfl fun _ hS => ?_
        repeat refine And.intro qLn4 ?_
        refine hS _ _ _ ?_
        clear hS
        refine s_step rfl (by decide) rfl fun _ hS => ?_
        repeat refine And.intro qLn4 ?_
        first | refine hS _ _ _ ?_ | (refine whole_yes qLn4 ?_; refine hS _ _ _ ?_) | (refine whole_sub ?_; refine hS _ _ _ ?_)
        clear hS
        refine s_step rfl (by decide) rfl fun _ hS => ?_
        refine hS _ _ _ ?_
        clear hS
        refine s_step rfl (by decide) rfl fun _ hS => ?_
        repeat refine And.intro qLn4 ?_
        refine hS _ _ _ ?_
        clear hS
        refine s_step rfl (by decide) rfl fun _ hS => ?_
        repeat refine And.intro qLn4 ?_
        rw [show (k : Int).toNat * 1 = k by omega, get_rows hkn]
        first | refine hS _ _ _ ?_ | (refine whole_yes qLn4 ?_; refine hS _ _ _ ?_) | (refine whole_sub ?_; refine hS _ _ _ ?_)
        clear hS
        refine s_step rfl (by decide) rfl fun _ hS => ?_
        repeat refine And.intro qLn4 ?_
        refine hS _ _ _ ?_
        clear hS
        refine s_step rfl (by decide) rfl fun _ hS => ?_
        repeat refine And.intro qLn4 ?_
        refine hS _ _ _ ?_
        clear hS
        refine s_nil ?_
        refine hK30 _ _ _ ?_
        refine hK29 _ _ _ ?_
        refine WP_cond (b := _) rfl (fun h_t46 => ?_) (fun h_t46 => ?_)
        ·try simp only [decide_eq_true_eq] at h_t46
         try simp only [Int.toNat_natCast, Nat.mul_one] at h_t46
         refine WP_skip ?_
         refine hK28 _ _ _ ?_
         refine seq_k fun _ hK31 => ?_
         refine WP_block ?_
         refine seq_k fun _ hK32 => ?_
         have hjn : j < (d.next.getD k []).length := by omega
         refine region_k n2_ok fun _ hK33 => ?_
         refine s_step rfl (by decide) rfl fun _ hS => ?_
         repeat refine And.intro qLn4 ?_
         refine hS _ _ _ ?_
         clear hS
         refine s_step rfl (by decide) rfl fun _ hS => ?_
         repeat refine And.intro qLn4 ?_
         first | refine hS _ _ _ ?_ | (refine whole_yes qLn4 ?_; refine hS _ _ _ ?_) | (refine whole_sub ?_; refine hS _ _ _ ?_)
         clear hS
         refine s_step rfl (by decide) rfl fun _ hS => ?_
         refine hS _ _ _ ?_
         clear hS
         refine s_step rfl (by decide) rfl fun _ hS => ?_
         repeat refine And.intro qLn4 ?_
         refine hS _ _ _ ?_
         clear hS
         refine s_step rfl (by decide) rfl fun _ hS => ?_
         repeat refine And.intro qLn4 ?_
         rw [show (k : Int).toNat * 1 = k by omega, get_rows hkn]
         first | refine hS _ _ _ ?_ | (refine whole_yes qLn4 ?_; refine hS _ _ _ ?_) | (refine whole_sub ?_; refine hS _ _ _ ?_)
         clear hS
         refine s_step rfl (by decide) rfl fun _ hS => ?_
         refine hS _ _ _ ?_
         clear hS
         refine s_step rfl (by decide) rfl fun _ hS => ?_
         repeat refine And.intro qLn4 ?_
         refine hS _ _ _ ?_
         clear hS
         refine s_step rfl (by decide) rfl fun _ hS => ?_
         repeat refine And.intro qLn4 ?_
         first | refine hS _ _ _ ?_ | (refine whole_yes qLn4 ?_; refine hS _ _ _ ?_) | (refine whole_sub ?_; refine hS _ _ _ ?_)
         clear hS
         refine s_step rfl (by decide) rfl fun _ hS => ?_
         repeat refine And.intro qLn4 ?_
         refine hS _ _ _ ?_
         clear hS
         refine s_step rfl (by decide) rfl fun _ hS => ?_
         refine s_split hS (fun hb9 => ?_) (fun hb9 => ?_)
         ·clear hS
          try simp only [decide_eq_true_eq] at hb9
          refine s_guard (b := true) rfl (by decide) rfl rfl (fun e => absurd e (by decide)) (fun _ => ?_)
          refine s_guard (b := true) rfl (by decide) rfl rfl (fun e => absurd e (by decide)) (fun _ => ?_)
          refine s_guard (b := true) rfl (by decide) rfl rfl (fun e => absurd e (by decide)) (fun _ => ?_)
          refine s_guard (b := true) rfl (by decide) rfl rfl (fun e => absurd e (by decide)) (fun _ => ?_)
          refine s_guard (b := true) rfl (by decide) rfl rfl (fun e => absurd e (by decide)) (fun _ => ?_)
          refine s_guard (b := true) rfl (by decide) rfl rfl (fun e => absurd e (by decide)) (fun _ => ?_)
          refine s_guard (b := true) rfl (by decide) rfl rfl (fun e => absurd e (by decide)) (fun _ => ?_)
          refine s_guard (b := true) rfl (by decide) rfl rfl (fun e => absurd e (by decide)) (fun _ => ?_)
          refine s_guard (b := true) rfl (by decide) rfl rfl (fun e => absurd e (by decide)) (fun _ => ?_)
          refine s_guard (b := true) rfl (by decide) rfl rfl (fun e => absurd e (by decide)) (fun _ => ?_)
          refine s_step rfl (by decide) rfl fun _ hS => ?_
          refine hS _ _ _ ?_
          clear hS
          refine s_nil ?_
          refine hK33 _ _ _ ?_
          refine hK32 _ _ _ ?_
          refine WP_cond (b := _) rfl (fun _ => ?_) (fun h_t69 => ?_)
          rotate_left 1
          ·exfalso; simp at h_t69
          refine seq_k fun _ hK34 => ?_
          have htb : tgtOK d.next.length ((d.next.getD k []).getD j 0) = false := by
           simp only [tgtOK, Bool.and_eq_false_iff, decide_eq_false_iff_not]
           first | (simp only [Int.toNat_natCast, Nat.mul_one] at hb9 h_t69; omega) | (simp only [Int.toNat_natCast, Nat.mul_one] at hb9; omega)
          refine region_k n2_ok fun _ hK35 => ?_
          refine s_step rfl (by decide) rfl fun _ hS => ?_
          refine hS _ _ _ ?_
          clear hS
          refine s_nil ?_
          refine hK35 _ _ _ ?_
          refine hK34 _ _ _ ?_
          refine WP_ret (Done_flat n2_ok (fun _ _ h => h) (by first | rfl | assumption) [.tmp 2] rfl ?_)
          repeat refine And.intro (by first | omega | exact trivial | rfl | (simp <;> omega)) ?_
          try refine ite_yes (by first | omega | exact trivial | rfl | (simp <;> omega)) ?_
          show SV.c (.bool false) = _
          rw [soundD, all_no (d := []) hkn (by rw [rowOK, all_no (d := 0) hjn htb, Bool.and_false]), Bool.and_false]
         ·clear hS
          try simp only [decide_eq_false_iff_not, Int.not_lt] at hb9
          refine s_guard (b := false) rfl (by decide) rfl rfl (fun _ _ hS => ?_) (fun e => absurd e (by decide))
          repeat refine And.intro qLn4 ?_
          refine hS _ _ _ ?_
          clear hS
          refine s_guard (b := false) rfl (by decide) rfl rfl (fun _ _ hS => ?_) (fun e => absurd e (by decide))
          repeat refine And.intro qLn4 ?_
          first | refine hS _ _ _ ?_ | (refine whole_yes qLn4 ?_; refine hS _ _ _ ?_) | (refine whole_sub ?_; refine hS _ _ _ ?_)
          clear hS
          refine s_guard (b := false) rfl (by decide) rfl rfl (fun _ _ hS => ?_) (fun e => absurd e (by decide))
          refine hS _ _ _ ?_
          clear hS
          refine s_guard (b := false) rfl (by decide) rfl rfl (fun _ _ hS => ?_) (fun e => absurd e (by decide))
          repeat refine And.intro qLn4 ?_
          refine hS _ _ _ ?_
          clear hS
          refine s_guard (b := false) rfl (by decide) rfl rfl (fun _ _ hS => ?_) (fun e => absurd e (by decide))
          repeat refine And.intro qLn4 ?_
          rw [show (k : Int).toNat * 1 = k by omega, get_rows hkn]
          first | refine hS _ _ _ ?_ | (refine whole_yes qLn4 ?_; refine hS _ _ _ ?_) | (refine whole_sub ?_; refine hS _ _ _ ?_)
          clear hS
          refine s_guard (b := false) rfl (by decide) rfl rfl (fun _ _ hS => ?_) (fun e => absurd e (by decide))
          refine hS _ _ _ ?_
          clear hS
          refine s_guard (b := false) rfl (by decide) rfl rfl (fun _ _ hS => ?_) (fun e => absurd e (by decide))
          repeat refine And.intro qLn4 ?_
          refine hS _ _ _ ?_
          clear hS
          refine s_guard (b := false) rfl (by decide) rfl rfl (fun _ _ hS => ?_) (fun e => absurd e (by decide))
          repeat refine And.intro qLn4 ?_
          first | refine hS _ _ _ ?_ | (refine whole_yes qLn4 ?_; refine hS _ _ _ ?_) | (refine whole_sub ?_; refine hS _ _ _ ?_)
          clear hS
          refine s_guard (b := false) rfl (by decide) rfl rfl (fun _ _ hS => ?_) (fun e => absurd e (by decide))
          refine hS _ _ _ ?_
          clear hS
          refine s_guard (b := false) rfl (by decide) rfl rfl (fun _ _ hS => ?_) (fun e => absurd e (by decide))
          repeat refine And.intro qLn4 ?_
          refine hS _ _ _ ?_
          clear hS
          refine s_step rfl (by decide) rfl fun _ hS => ?_
          refine hS _ _ _ ?_
          clear hS
          refine s_nil ?_
          refine hK33 _ _ _ ?_
          refine hK32 _ _ _ ?_
          refine WP_cond (b := _) rfl (fun h_t69 => ?_) (fun h_t69 => ?_)
          ·try try simp only [decide_eq_true_eq, if_false, Bool.false_eq_true] at h_t69
           refine seq_k fun _ hK36 => ?_
           have htb : tgtOK d.next.length ((d.next.getD k []).getD j 0) = false := by
            simp only [tgtOK, Bool.and_eq_false_iff, decide_eq_false_iff_not]
            first | (simp only [Int.toNat_natCast, Nat.mul_one] at hb9 h_t69; omega) | (simp only [Int.toNat_natCast, Nat.mul_one] at hb9; omega)
           refine region_k n2_ok fun _ hK37 => ?_
           refine s_step rfl (by decide) rfl fun _ hS => ?_
           refine hS _ _ _ ?_
           clear hS
           refine s_nil ?_
           refine hK37 _ _ _ ?_
           refine hK36 _ _ _ ?_
           refine WP_ret (Done_flat n2_ok (fun _ _ h => h) (by first | rfl | assumption) [.tmp 2] rfl ?_)
           repeat refine And.intro (by first | omega | exact trivial | rfl | (simp <;> omega)) ?_
           try refine ite_yes (by first | omega | exact trivial | rfl | (simp <;> omega)) ?_
           show SV.c (.bool false) = _
           rw [soundD, all_no (d := []) hkn (by rw [rowOK, all_no (d := 0) hjn htb, Bool.and_false]), Bool.and_false]
          ·try try simp only [decide_eq_false_iff_not, Int.not_le, if_false, Bool.false_eq_true] at h_t69
           refine WP_skip ?_
           refine done_block ?_
           refine hK31 _ _ _ ?_
           have htg : tgtOK d.next.length ((d.next.getD k []).getD j 0) = true := by simp only [tgtOK, Bool.and_eq_true, decide_eq_true_eq]; simp only [Int.toNat_natCast, Nat.mul_one] at hb9 h_t69; exact ⟨by omega, by omega⟩
           refine region_k n2_ok fun _ hK38 => ?_
           refine s_step rfl (by decide) rfl fun _ hS => ?_
           refine hS _ _ _ ?_
           clear hS
           refine s_step rfl (by decide) rfl fun _ hS => ?_
           repeat refine And.intro qLn4 ?_
           refine hS _ _ _ ?_
           clear hS
           refine s_step rfl (by decide) rfl fun _ hS => ?_
           refine hS _ _ _ ?_
           clear hS
           refine s_nil ?_
           refine hK38 _ _ _ ?_
           refine Done_some [] id (j + 1) ⟨⟨by omega, all_take_succ (d := 0) hjn hj.2 htg⟩, by omega⟩ ⟨?_, ?_, (by decide : List.Nodup ([0] : List Nat)), ?_, ?_, ⟨Nat.zero_le _, fun i hi => absurd hi (Nat.not_lt_zero i)⟩⟩
           ·exact uLn2
           ·exact uLn2
           ·exact uLn2
           ·exact uLn2
        ·try simp only [decide_eq_false_iff_not, Int.not_lt] at h_t46
         try simp only [Int.toNat_natCast, Nat.mul_one] at h_t46
         refine WP_exit ?_
         refine done_thenx ?_
         refine done_thenx ?_
         refine Done_hit ?_
         refine done_block ?_
         refine hK20 _ _ _ ?_
         have hrow : rowOK d.nc d.next.length (d.next.getD k []) = true := by
          have h1 := hj.2
          rw [List.take_of_length_le (by omega)] at h1
          rw [rowOK, h1, decide_eq_true (by omega)]; rfl
         refine region_k n2_ok fun _ hK39 => ?_
         refine s_step rfl (by decide) rfl fun _ hS => ?_
         refine hS _ _ _ ?_
         clear hS
         refine s_step rfl (by decide) rfl fun _ hS => ?_
         repeat refine And.intro qLn4 ?_
         refine hS _ _ _ ?_
         clear hS
         refine s_step rfl (by decide) rfl fun _ hS => ?_
         refine hS _ _ _ ?_
         clear hS
         refine s_nil ?_
         refine hK39 _ _ _ ?_
         refine Done_some [] id (k + 1) ⟨⟨by omega, all_take_succ (d := []) hkn hk.2 hrow⟩, by omega⟩ ⟨?_, ?_, (by decide : List.Nodup ([0] : List Nat)), ?_, ?_, ⟨Nat.zero_le _, fun i hi => absurd hi (Nat.not_lt_zero i)⟩⟩
         ·exact uLn2
         ·exact uLn2
         ·exact uLn2
         ·exact uLn2
     ·try try simp only [decide_eq_false_iff_not, Int.not_lt] at h_t26
      refine WP_exit ?_
      refine done_thenx ?_
      refine done_thenx ?_
      refine Done_hit ?_
      refine hK14 _ _ _ ?_
      refine seq_k fun _ hK40 => ?_
      refine region_k n2_ok fun _ hK41 => ?_
      refine s_step rfl (by decide) rfl fun _ hS => ?_
      refine hS _ _ _ ?_
      clear hS
      refine s_nil ?_
      refine hK41 _ _ _ ?_
      refine hK40 _ _ _ ?_
      refine WP_ret (Done_flat n2_ok (fun _ _ h => h) (by first | rfl | assumption) [.tmp 2] rfl ?_)
      repeat refine And.intro (by first | omega | exact trivial | rfl | (simp <;> omega)) ?_
      try refine ite_yes (by first | omega | exact trivial | rfl | (simp <;> omega)) ?_
      show SV.c (.bool true) = _
      obtain rfl : k = d.next.length := by omega
      have h1 := hk.2
      rw [List.take_length] at h1
      rw [soundD, decide_eq_true hbase, hpart, h1]
      rfl

noncomputable def n3 : Ctx := { P := Tryd.prog, ty := ty, glob := gl, fs := [(59, .flat soundRS)] }
theorem n3_ok : n3.OK := ⟨tyOK, ⟨⟨enters_mk Tryd.func59 (by kernel_rfl) rfl, soundR_ok⟩, trivial⟩, mixed⟩
@[simp] theorem n3_ty : n3.ty = ty := rfl

def validR3S : QSpec := fun vs K => ∃ d : Dfa, vs = [dfaV d] ∧ d.wf ∧ K (.c (.bool (validRD d)))
theorem validR3_ok : FlatOK Tryd.prog gl 48 validR3S := by
 refine flat_of (Γ := n3) (N := 11) Tryd.func48 rfl rfl fun vs K h => ?_
 obtain ⟨d, rfl, hw, h⟩ := h
 refine ⟨_, h, rfl, by simp, fun w I => ?_⟩
 have hw' := hw
 obtain ⟨hw1, hw2, hw3, hw4, hw5⟩ := hw'
 refine seq_k fun _ hK1 => ?_
 refine region_k n3_ok fun _ hK2 => ?_
 refine s_step rfl (by decide) rfl fun _ hS => ?_
 repeat refine And.intro qLn5 ?_
 refine hS _ _ _ ?_
 clear hS
 refine s_step rfl (by decide) rfl fun _ hS => ?_
 refine hS _ _ _ ?_
 clear hS
 refine s_nil ?_
 refine hK2 _ _ _ ?_
 refine hK1 _ _ _ ?_
 refine seq_k fun _ hK3 => ?_
 refine region_k n3_ok fun _ hK4 => ?_
 refine s_step rfl (by decide) rfl fun _ hS => ?_
 repeat refine And.intro qLn5 ?_
 refine hS _ _ _ ?_
 clear hS
 refine s_step rfl (by decide) rfl fun _ hS => ?_
 repeat refine And.intro qLn5 ?_
 first | refine hS _ _ _ ?_ | (refine whole_yes qLn5 ?_; refine hS _ _ _ ?_) | (refine whole_sub ?_; refine hS _ _ _ ?_)
 clear hS
 refine s_step rfl (by decide) rfl fun _ hS => ?_
 repeat refine And.intro qLn5 ?_
 refine hS _ _ _ ?_
 clear hS
 refine s_step rfl (by decide) rfl fun _ hS => ?_
 repeat refine And.intro qLn5 ?_
 refine hS _ _ _ ?_
 clear hS
 refine s_step rfl (by decide) rfl fun _ hS => ?_
 refine s_split hS (fun hb4 => ?_) (fun hb4 => ?_)
 ·clear hS
  try simp only [decide_eq_true_eq] at hb4
  refine s_guard (b := true) rfl (by decide) rfl rfl (fun _ _ hS => ?_) (fun e => absurd e (by decide))
  repeat refine And.intro qLn5 ?_
  first | refine hS _ _ _ ?_ | (refine whole_yes qLn5 ?_; refine hS _ _ _ ?_) | (refine whole_sub ?_; refine hS _ _ _ ?_)
  clear hS
  refine s_guard (b := true) rfl (by decide) rfl rfl (fun _ _ hS => ?_) (fun e => absurd e (by decide))
  repeat first | refine And.intro qLn5 ?_ | refine whole_yes qLn5 ?_ | refine whole_sub ?_
  refine ⟨d, rfl, hw, ?_⟩
  repeat refine And.intro qLn5 ?_
  first | refine hS _ _ _ ?_ | (intro cap6 hcap6; refine hS _ _ _ ?_)
  clear hS
  refine s_step rfl (by decide) rfl fun _ hS => ?_
  refine hS _ _ _ ?_
  clear hS
  refine s_step rfl (by decide) rfl fun _ hS => ?_
  refine hS _ _ _ ?_
  clear hS
  refine s_nil ?_
  refine hK4 _ _ _ ?_
  refine hK3 _ _ _ ?_
  refine WP_ret (Done_flat n3_ok (fun _ _ h => h) (by first | rfl | assumption) [.tmp 2] rfl ?_)
  repeat refine And.intro (by first | omega | exact trivial | rfl | (simp <;> omega)) ?_
  try refine ite_yes (by first | omega | exact trivial | rfl | (simp <;> omega)) ?_
  show SV.c (.bool _) = _
  rw [validRD, decide_eq_true (by omega)]
  rfl
 ·clear hS
  try simp only [decide_eq_false_iff_not, Int.not_le] at hb4
  refine s_guard (b := false) rfl (by decide) rfl rfl (fun e => absurd e (by decide)) (fun _ => ?_)
  refine s_guard (b := false) rfl (by decide) rfl rfl (fun e => absurd e (by decide)) (fun _ => ?_)
  refine s_step rfl (by decide) rfl fun _ hS => ?_
  refine hS _ _ _ ?_
  clear hS
  refine s_step rfl (by decide) rfl fun _ hS => ?_
  refine hS _ _ _ ?_
  clear hS
  refine s_nil ?_
  refine hK4 _ _ _ ?_
  refine hK3 _ _ _ ?_
  refine WP_ret (Done_flat n3_ok (fun _ _ h => h) (by first | rfl | assumption) [.tmp 2] rfl ?_)
  repeat refine And.intro (by first | omega | exact trivial | rfl | (simp <;> omega)) ?_
  try refine ite_yes (by first | omega | exact trivial | rfl | (simp <;> omega)) ?_
  show SV.c (.bool false) = _
  rw [validRD, decide_eq_false (by omega), Bool.false_and]


end Go.Proofs.YtpfncffapgkjaaaDoor
