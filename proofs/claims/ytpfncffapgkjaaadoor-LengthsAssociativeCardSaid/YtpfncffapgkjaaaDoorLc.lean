/- Small functions of the sets of lengths. -/
/- The closures; the least common multiple; a copy of a slice. -/
import Derived.Test.YtpfncffapgkjaaaDoorAb14
import Derived.Test.YtpfncffapgkjaaaDoorAb21
import Derived.Test.YtpfncffapgkjaaaDoorCtx
import Derived.Test.YtpfncffapgkjaaaDoorLa
namespace Go.Proofs.YtpfncffapgkjaaaDoor
set_option linter.unusedVariables false
open Go.Ab Go.RowKit
section
theorem qLb0 {a : Prop} (h : a := by first | omega | exact trivial | rfl | (simp only [len_u8s, len_u32s, len_u64s, len_ints, len_bools, len_cells]; omega) | exact inR_i64.mpr ⟨by omega, by omega⟩ | (simp <;> omega) | (refine And.intro ?_ ?_ <;> exact trivial) | exact ⟨trivial, trivial, trivial⟩ | decide | (refine And.intro rfl ?_; (repeat first | exact trivial | refine And.intro rfl ?_); done) | exact Nat.succ_pos _ | exact Nat.le_refl _ | (refine And.intro trivial ?_; (repeat first | exact trivial | refine And.intro trivial ?_); done)) : a := h


noncomputable def g1 : Ctx := { P := Tryd.prog, ty := ty, glob := gl, fs := [(49, .flat equalRS), (34, .flat memberS), (37, .flat atRS)] }
theorem g1_ok : g1.OK := ⟨tyOK, ⟨⟨enters_mk Tryd.func49 (by kernel_rfl) rfl, equalR_ok⟩, ⟨enters_mk Tryd.func34 (by kernel_rfl) rfl, member_ok⟩, ⟨enters_mk Tryd.func37 (by kernel_rfl) rfl, atR_ok⟩, trivial⟩, mixed⟩
@[simp] theorem g1_ty : g1.ty = ty := rfl

def boolsS : QSpec := fun vs K => ∃ a b : List Bool, vs = [.c (.ds a.length (.bools a)), .c (.ds b.length (.bools b))] ∧ (a.length ≤ 9223372036854775807 ∧ b.length ≤ 9223372036854775807) ∧ K (.c (.bool (decide (a = b))))
theorem bools_ok : FlatOK Tryd.prog gl 36 boolsS := by
 refine flat_of (Γ := g1) (N := 15) Tryd.func36 rfl rfl fun vs K h => ?_
 obtain ⟨a, b, rfl, ⟨hl1, hl2⟩, h⟩ := h
 refine ⟨_, h, rfl, by simp, fun w I => ?_⟩
 refine seq_k fun _ hK1 => ?_
 refine region_k g1_ok fun _ hK2 => ?_
 refine s_step rfl (by decide) rfl fun _ hS => ?_
 refine hS _ _ _ ?_
 clear hS
 refine s_nil ?_
 refine hK2 _ _ _ ?_
 refine hK1 _ _ _ ?_
 refine seq_k fun _ hK3 => ?_
 refine region_k g1_ok fun _ hK4 => ?_
 refine s_step rfl (by decide) rfl fun _ hS => ?_
 refine hS _ _ _ ?_
 clear hS
 refine s_step rfl (by decide) rfl fun _ hS => ?_
 repeat refine And.intro qLb0 ?_
 refine hS _ _ _ ?_
 clear hS
 refine s_step rfl (by decide) rfl fun _ hS => ?_
 refine hS _ _ _ ?_
 clear hS
 refine s_step rfl (by decide) rfl fun _ hS => ?_
 repeat refine And.intro qLb0 ?_
 refine hS _ _ _ ?_
 clear hS
 refine s_step rfl (by decide) rfl fun _ hS => ?_
 repeat refine And.intro qLb0 ?_
 refine hS _ _ _ ?_
 clear hS
 refine s_step rfl (by decide) rfl fun _ hS => ?_
 refine s_split hS (fun hb5 => ?_) (fun hb5 => ?_)
 ·clear hS
  try simp only [decide_eq_true_eq, Int.natCast_inj] at hb5
  refine s_guard (b := true) rfl (by decide) rfl rfl (fun _ _ hS => ?_) (fun e => absurd e (by decide))
  refine hS _ _ _ ?_
  clear hS
  refine s_guard (b := true) rfl (by decide) rfl rfl (fun _ _ hS => ?_) (fun e => absurd e (by decide))
  refine hS _ _ _ ?_
  clear hS
  refine s_guard (b := true) rfl (by decide) rfl rfl (fun _ _ hS => ?_) (fun e => absurd e (by decide))
  repeat first | refine And.intro qLb0 ?_ | refine whole_yes qLb0 ?_ | refine whole_sub ?_
  refine ⟨a, b, rfl, ⟨hl1, hl2, by omega⟩, ?_⟩
  repeat refine And.intro qLb0 ?_
  first | refine hS _ _ _ ?_ | (intro cap8 hcap8; refine hS _ _ _ ?_)
  clear hS
  refine s_step rfl (by decide) rfl fun _ hS => ?_
  refine hS _ _ _ ?_
  clear hS
  refine s_step rfl (by decide) rfl fun _ hS => ?_
  refine hS _ _ _ ?_
  clear hS
  refine s_nil ?_
  refine hK4 _ _ _ ?_
  refine hK3 _ _ _ ?_
  refine WP_ret (Done_flat g1_ok (fun _ _ h => h) (by first | rfl | assumption) [.tmp 4] rfl ?_)
  repeat refine And.intro (by first | omega | exact trivial | rfl | (simp <;> omega)) ?_
  try refine ite_yes (by first | omega | exact trivial | rfl | (simp <;> omega)) ?_
  rfl
 ·clear hS
  try simp only [decide_eq_false_iff_not, Int.natCast_inj] at hb5
  refine s_guard (b := false) rfl (by decide) rfl rfl (fun e => absurd e (by decide)) (fun _ => ?_)
  refine s_guard (b := false) rfl (by decide) rfl rfl (fun e => absurd e (by decide)) (fun _ => ?_)
  refine s_guard (b := false) rfl (by decide) rfl rfl (fun e => absurd e (by decide)) (fun _ => ?_)
  refine s_step rfl (by decide) rfl fun _ hS => ?_
  refine hS _ _ _ ?_
  clear hS
  refine s_step rfl (by decide) rfl fun _ hS => ?_
  refine hS _ _ _ ?_
  clear hS
  refine s_nil ?_
  refine hK4 _ _ _ ?_
  refine hK3 _ _ _ ?_
  refine WP_ret (Done_flat g1_ok (fun _ _ h => h) (by first | rfl | assumption) [.tmp 4] rfl ?_)
  repeat refine And.intro (by first | omega | exact trivial | rfl | (simp <;> omega)) ?_
  try refine ite_yes (by first | omega | exact trivial | rfl | (simp <;> omega)) ?_
  show SV.c (.bool false) = _
  rw [decide_eq_false (fun e => hb5 (by rw [e]))]

noncomputable def g2 : Ctx := { P := Tryd.prog, ty := ty, glob := gl, fs := [(36, .flat boolsS), (34, .flat memberS), (37, .flat atRS)] }
theorem g2_ok : g2.OK := ⟨tyOK, ⟨⟨enters_mk Tryd.func36 (by kernel_rfl) rfl, bools_ok⟩, ⟨enters_mk Tryd.func34 (by kernel_rfl) rfl, member_ok⟩, ⟨enters_mk Tryd.func37 (by kernel_rfl) rfl, atR_ok⟩, trivial⟩, mixed⟩
@[simp] theorem g2_ty : g2.ty = ty := rfl

def sameS : QSpec := fun vs K => ∃ a b c d : List Bool, vs = [lsV a b, lsV c d] ∧ (a.length ≤ 9223372036854775807 ∧ b.length ≤ 9223372036854775807 ∧ c.length ≤ 9223372036854775807 ∧ d.length ≤ 9223372036854775807) ∧ K (.c (.bool (decide (a = c ∧ b = d))))
theorem same_ok : FlatOK Tryd.prog gl 16 sameS := by
 refine flat_of (Γ := g2) (N := 17) Tryd.func16 rfl rfl fun vs K h => ?_
 obtain ⟨a, b, c, d, rfl, ⟨hl1, hl2, hl3, hl4⟩, h⟩ := h
 refine ⟨_, h, rfl, by simp, fun w I => ?_⟩
 refine seq_k fun _ hK1 => ?_
 refine region_k g2_ok fun _ hK2 => ?_
 refine s_step rfl (by decide) rfl fun _ hS => ?_
 repeat refine And.intro qLb0 ?_
 refine hS _ _ _ ?_
 clear hS
 refine s_step rfl (by decide) rfl fun _ hS => ?_
 repeat refine And.intro qLb0 ?_
 refine hS _ _ _ ?_
 clear hS
 refine s_step rfl (by decide) rfl fun _ hS => ?_
 refine hS _ _ _ ?_
 clear hS
 refine s_nil ?_
 refine hK2 _ _ _ ?_
 refine hK1 _ _ _ ?_
 refine seq_k fun _ hK3 => ?_
 refine region_k g2_ok fun _ hK4 => ?_
 refine s_step rfl (by decide) rfl fun _ hS => ?_
 repeat refine And.intro qLb0 ?_
 refine hS _ _ _ ?_
 clear hS
 refine s_step rfl (by decide) rfl fun _ hS => ?_
 repeat refine And.intro qLb0 ?_
 first | refine hS _ _ _ ?_ | (refine whole_yes qLb0 ?_; refine hS _ _ _ ?_) | (refine whole_sub ?_; refine hS _ _ _ ?_)
 clear hS
 refine s_step rfl (by decide) rfl fun _ hS => ?_
 repeat refine And.intro qLb0 ?_
 refine hS _ _ _ ?_
 clear hS
 refine s_step rfl (by decide) rfl fun _ hS => ?_
 repeat refine And.intro qLb0 ?_
 first | refine hS _ _ _ ?_ | (refine whole_yes qLb0 ?_; refine hS _ _ _ ?_) | (refine whole_sub ?_; refine hS _ _ _ ?_)
 clear hS
 refine s_step rfl (by decide) rfl fun _ hS => ?_
 repeat first | refine And.intro qLb0 ?_ | refine whole_yes qLb0 ?_ | refine whole_sub ?_
 refine ⟨a, c, rfl, ⟨hl1, hl3⟩, ?_⟩
 repeat refine And.intro qLb0 ?_
 first | refine hS _ _ _ ?_ | (intro cap4 hcap4; refine hS _ _ _ ?_)
 clear hS
 refine s_step rfl (by decide) rfl fun _ hS => ?_
 refine s_split hS (fun hb5 => ?_) (fun hb5 => ?_)
 ·clear hS
  try simp only [decide_eq_true_eq] at hb5
  refine s_guard (b := true) rfl (by decide) rfl rfl (fun _ _ hS => ?_) (fun e => absurd e (by decide))
  repeat refine And.intro qLb0 ?_
  refine hS _ _ _ ?_
  clear hS
  refine s_guard (b := true) rfl (by decide) rfl rfl (fun _ _ hS => ?_) (fun e => absurd e (by decide))
  repeat refine And.intro qLb0 ?_
  first | refine hS _ _ _ ?_ | (refine whole_yes qLb0 ?_; refine hS _ _ _ ?_) | (refine whole_sub ?_; refine hS _ _ _ ?_)
  clear hS
  refine s_guard (b := true) rfl (by decide) rfl rfl (fun _ _ hS => ?_) (fun e => absurd e (by decide))
  repeat refine And.intro qLb0 ?_
  refine hS _ _ _ ?_
  clear hS
  refine s_guard (b := true) rfl (by decide) rfl rfl (fun _ _ hS => ?_) (fun e => absurd e (by decide))
  repeat refine And.intro qLb0 ?_
  first | refine hS _ _ _ ?_ | (refine whole_yes qLb0 ?_; refine hS _ _ _ ?_) | (refine whole_sub ?_; refine hS _ _ _ ?_)
  clear hS
  refine s_guard (b := true) rfl (by decide) rfl rfl (fun _ _ hS => ?_) (fun e => absurd e (by decide))
  repeat first | refine And.intro qLb0 ?_ | refine whole_yes qLb0 ?_ | refine whole_sub ?_
  refine ⟨b, d, rfl, ⟨hl2, hl4⟩, ?_⟩
  repeat refine And.intro qLb0 ?_
  first | refine hS _ _ _ ?_ | (intro cap10 hcap10; refine hS _ _ _ ?_)
  clear hS
  refine s_step rfl (by decide) rfl fun _ hS => ?_
  refine hS _ _ _ ?_
  clear hS
  refine s_step rfl (by decide) rfl fun _ hS => ?_
  refine hS _ _ _ ?_
  clear hS
  refine s_nil ?_
  refine hK4 _ _ _ ?_
  refine hK3 _ _ _ ?_
  refine WP_ret (Done_flat g2_ok (fun _ _ h => h) (by first | rfl | assumption) [.tmp 4] rfl ?_)
  repeat refine And.intro (by first | omega | exact trivial | rfl | (simp <;> omega)) ?_
  try refine ite_yes (by first | omega | exact trivial | rfl | (simp <;> omega)) ?_
  show SV.c (.bool _) = _
  simp [hb5]
 ·clear hS
  try simp only [decide_eq_false_iff_not] at hb5
  refine s_guard (b := false) rfl (by decide) rfl rfl (fun e => absurd e (by decide)) (fun _ => ?_)
  refine s_guard (b := false) rfl (by decide) rfl rfl (fun e => absurd e (by decide)) (fun _ => ?_)
  refine s_guard (b := false) rfl (by decide) rfl rfl (fun e => absurd e (by decide)) (fun _ => ?_)
  refine s_guard (b := false) rfl (by decide) rfl rfl (fun e => absurd e (by decide)) (fun _ => ?_)
  refine s_guard (b := false) rfl (by decide) rfl rfl (fun e => absurd e (by decide)) (fun _ => ?_)
  refine s_step rfl (by decide) rfl fun _ hS => ?_
  refine hS _ _ _ ?_
  clear hS
  refine s_step rfl (by decide) rfl fun _ hS => ?_
  refine hS _ _ _ ?_
  clear hS
  refine s_nil ?_
  refine hK4 _ _ _ ?_
  refine hK3 _ _ _ ?_
  refine WP_ret (Done_flat g2_ok (fun _ _ h => h) (by first | rfl | assumption) [.tmp 4] rfl ?_)
  repeat refine And.intro (by first | omega | exact trivial | rfl | (simp <;> omega)) ?_
  try refine ite_yes (by first | omega | exact trivial | rfl | (simp <;> omega)) ?_
  show SV.c (.bool _) = _
  simp [hb5]

def validS : QSpec := fun vs K => ∃ h c : List Bool, vs = [lsV h c] ∧ (h.length ≤ 9223372036854775807 ∧ c.length ≤ 9223372036854775807) ∧ K (.c (.bool (decide (0 < c.length ∧ h.length + c.length ≤ 512))))
theorem valid_ok : FlatOK Tryd.prog gl 17 validS := by
 refine flat_of (Γ := g2) (N := 23) Tryd.func17 rfl rfl fun vs K h => ?_
 obtain ⟨a, b, rfl, ⟨hl1, hl2⟩, h⟩ := h
 refine ⟨_, h, rfl, by simp, fun w I => ?_⟩
 refine seq_k fun _ hK1 => ?_
 refine region_k g2_ok fun _ hK2 => ?_
 refine s_step rfl (by decide) rfl fun _ hS => ?_
 repeat refine And.intro qLb0 ?_
 refine hS _ _ _ ?_
 clear hS
 refine s_step rfl (by decide) rfl fun _ hS => ?_
 refine hS _ _ _ ?_
 clear hS
 refine s_nil ?_
 refine hK2 _ _ _ ?_
 refine hK1 _ _ _ ?_
 refine seq_k fun _ hK3 => ?_
 refine region_k g2_ok fun _ hK4 => ?_
 refine s_step rfl (by decide) rfl fun _ hS => ?_
 repeat refine And.intro qLb0 ?_
 refine hS _ _ _ ?_
 clear hS
 refine s_step rfl (by decide) rfl fun _ hS => ?_
 repeat refine And.intro qLb0 ?_
 first | refine hS _ _ _ ?_ | (refine whole_yes qLb0 ?_; refine hS _ _ _ ?_) | (refine whole_sub ?_; refine hS _ _ _ ?_)
 clear hS
 refine s_step rfl (by decide) rfl fun _ hS => ?_
 repeat refine And.intro qLb0 ?_
 refine hS _ _ _ ?_
 clear hS
 refine s_step rfl (by decide) rfl fun _ hS => ?_
 repeat refine And.intro qLb0 ?_
 refine hS _ _ _ ?_
 clear hS
 refine s_step rfl (by decide) rfl fun _ hS => ?_
 refine s_split hS (fun hb4 => ?_) (fun hb4 => ?_)
 ·clear hS
  try simp only [decide_eq_true_eq] at hb4
  refine s_guard (b := true) rfl (by decide) rfl rfl (fun _ _ hS => ?_) (fun e => absurd e (by decide))
  repeat refine And.intro qLb0 ?_
  refine hS _ _ _ ?_
  clear hS
  refine s_guard (b := true) rfl (by decide) rfl rfl (fun _ _ hS => ?_) (fun e => absurd e (by decide))
  repeat refine And.intro qLb0 ?_
  first | refine hS _ _ _ ?_ | (refine whole_yes qLb0 ?_; refine hS _ _ _ ?_) | (refine whole_sub ?_; refine hS _ _ _ ?_)
  clear hS
  refine s_guard (b := true) rfl (by decide) rfl rfl (fun _ _ hS => ?_) (fun e => absurd e (by decide))
  repeat refine And.intro qLb0 ?_
  refine hS _ _ _ ?_
  clear hS
  refine s_guard (b := true) rfl (by decide) rfl rfl (fun _ _ hS => ?_) (fun e => absurd e (by decide))
  repeat refine And.intro qLb0 ?_
  refine hS _ _ _ ?_
  clear hS
  refine s_step rfl (by decide) rfl fun _ hS => ?_
  refine hS _ _ _ ?_
  clear hS
  refine s_step rfl (by decide) rfl fun _ hS => ?_
  refine s_split hS (fun hb10 => ?_) (fun hb10 => ?_)
  ·clear hS
   try simp only [decide_eq_true_eq, if_true] at hb10
   refine s_guard (b := true) rfl (by decide) rfl rfl (fun _ _ hS => ?_) (fun e => absurd e (by decide))
   repeat refine And.intro qLb0 ?_
   refine hS _ _ _ ?_
   clear hS
   refine s_guard (b := true) rfl (by decide) rfl rfl (fun _ _ hS => ?_) (fun e => absurd e (by decide))
   repeat refine And.intro qLb0 ?_
   first | refine hS _ _ _ ?_ | (refine whole_yes qLb0 ?_; refine hS _ _ _ ?_) | (refine whole_sub ?_; refine hS _ _ _ ?_)
   clear hS
   refine s_guard (b := true) rfl (by decide) rfl rfl (fun _ _ hS => ?_) (fun e => absurd e (by decide))
   repeat refine And.intro qLb0 ?_
   refine hS _ _ _ ?_
   clear hS
   refine s_guard (b := true) rfl (by decide) rfl rfl (fun _ _ hS => ?_) (fun e => absurd e (by decide))
   repeat refine And.intro qLb0 ?_
   refine hS _ _ _ ?_
   clear hS
   refine s_guard (b := true) rfl (by decide) rfl rfl (fun _ _ hS => ?_) (fun e => absurd e (by decide))
   repeat refine And.intro qLb0 ?_
   first | refine hS _ _ _ ?_ | (refine whole_yes qLb0 ?_; refine hS _ _ _ ?_) | (refine whole_sub ?_; refine hS _ _ _ ?_)
   clear hS
   refine s_guard (b := true) rfl (by decide) rfl rfl (fun _ _ hS => ?_) (fun e => absurd e (by decide))
   repeat refine And.intro qLb0 ?_
   refine hS _ _ _ ?_
   clear hS
   refine s_guard (b := true) rfl (by decide) rfl rfl (fun _ _ hS => ?_) (fun e => absurd e (by decide))
   repeat refine And.intro qLb0 ?_
   refine hS _ _ _ ?_
   clear hS
   refine s_guard (b := true) rfl (by decide) rfl rfl (fun _ _ hS => ?_) (fun e => absurd e (by decide))
   repeat refine And.intro qLb0 ?_
   refine hS _ _ _ ?_
   clear hS
   refine s_step rfl (by decide) rfl fun _ hS => ?_
   refine hS _ _ _ ?_
   clear hS
   refine s_step rfl (by decide) rfl fun _ hS => ?_
   refine hS _ _ _ ?_
   clear hS
   refine s_nil ?_
   refine hK4 _ _ _ ?_
   refine hK3 _ _ _ ?_
   refine WP_ret (Done_flat g2_ok (fun _ _ h => h) (by first | rfl | assumption) [.tmp 2] rfl ?_)
   repeat refine And.intro (by first | omega | exact trivial | rfl | (simp <;> omega)) ?_
   try refine ite_yes (by first | omega | exact trivial | rfl | (simp <;> omega)) ?_
   show SV.c (.bool _) = SV.c (.bool _)
   congr 2
   try simp only [if_true]
   first | (rw [decide_eq_decide]; omega) | (symm; rw [decide_eq_false_iff_not]; omega) | (symm; rw [decide_eq_true_eq]; omega)
  ·clear hS
   try simp only [decide_eq_false_iff_not, Int.not_le, if_true] at hb10
   refine s_guard (b := false) rfl (by decide) rfl rfl (fun e => absurd e (by decide)) (fun _ => ?_)
   refine s_guard (b := false) rfl (by decide) rfl rfl (fun e => absurd e (by decide)) (fun _ => ?_)
   refine s_guard (b := false) rfl (by decide) rfl rfl (fun e => absurd e (by decide)) (fun _ => ?_)
   refine s_guard (b := false) rfl (by decide) rfl rfl (fun e => absurd e (by decide)) (fun _ => ?_)
   refine s_guard (b := false) rfl (by decide) rfl rfl (fun e => absurd e (by decide)) (fun _ => ?_)
   refine s_guard (b := false) rfl (by decide) rfl rfl (fun e => absurd e (by decide)) (fun _ => ?_)
   refine s_guard (b := false) rfl (by decide) rfl rfl (fun e => absurd e (by decide)) (fun _ => ?_)
   refine s_guard (b := false) rfl (by decide) rfl rfl (fun e => absurd e (by decide)) (fun _ => ?_)
   refine s_step rfl (by decide) rfl fun _ hS => ?_
   refine hS _ _ _ ?_
   clear hS
   refine s_step rfl (by decide) rfl fun _ hS => ?_
   refine hS _ _ _ ?_
   clear hS
   refine s_nil ?_
   refine hK4 _ _ _ ?_
   refine hK3 _ _ _ ?_
   refine WP_ret (Done_flat g2_ok (fun _ _ h => h) (by first | rfl | assumption) [.tmp 2] rfl ?_)
   repeat refine And.intro (by first | omega | exact trivial | rfl | (simp <;> omega)) ?_
   try refine ite_yes (by first | omega | exact trivial | rfl | (simp <;> omega)) ?_
   show SV.c (.bool _) = SV.c (.bool _)
   congr 2
   try simp only [if_true, if_false, Bool.false_eq_true]
   first | (rw [decide_eq_decide]; omega) | (symm; rw [decide_eq_false_iff_not]; omega) | (symm; rw [decide_eq_true_eq]; omega)
 ·clear hS
  try simp only [decide_eq_false_iff_not, Int.not_lt] at hb4
  refine s_guard (b := false) rfl (by decide) rfl rfl (fun e => absurd e (by decide)) (fun _ => ?_)
  refine s_guard (b := false) rfl (by decide) rfl rfl (fun e => absurd e (by decide)) (fun _ => ?_)
  refine s_guard (b := false) rfl (by decide) rfl rfl (fun e => absurd e (by decide)) (fun _ => ?_)
  refine s_guard (b := false) rfl (by decide) rfl rfl (fun e => absurd e (by decide)) (fun _ => ?_)
  refine s_step rfl (by decide) rfl fun _ hS => ?_
  refine hS _ _ _ ?_
  clear hS
  refine s_step rfl (by decide) rfl fun _ hS => ?_
  refine s_split hS (fun hb10 => ?_) (fun hb10 => ?_)
  ·exfalso; simp at hb10
  clear hS
  refine s_guard (b := false) rfl (by decide) rfl rfl (fun e => absurd e (by decide)) (fun _ => ?_)
  refine s_guard (b := false) rfl (by decide) rfl rfl (fun e => absurd e (by decide)) (fun _ => ?_)
  refine s_guard (b := false) rfl (by decide) rfl rfl (fun e => absurd e (by decide)) (fun _ => ?_)
  refine s_guard (b := false) rfl (by decide) rfl rfl (fun e => absurd e (by decide)) (fun _ => ?_)
  refine s_guard (b := false) rfl (by decide) rfl rfl (fun e => absurd e (by decide)) (fun _ => ?_)
  refine s_guard (b := false) rfl (by decide) rfl rfl (fun e => absurd e (by decide)) (fun _ => ?_)
  refine s_guard (b := false) rfl (by decide) rfl rfl (fun e => absurd e (by decide)) (fun _ => ?_)
  refine s_guard (b := false) rfl (by decide) rfl rfl (fun e => absurd e (by decide)) (fun _ => ?_)
  refine s_step rfl (by decide) rfl fun _ hS => ?_
  refine hS _ _ _ ?_
  clear hS
  refine s_step rfl (by decide) rfl fun _ hS => ?_
  refine hS _ _ _ ?_
  clear hS
  refine s_nil ?_
  refine hK4 _ _ _ ?_
  refine hK3 _ _ _ ?_
  refine WP_ret (Done_flat g2_ok (fun _ _ h => h) (by first | rfl | assumption) [.tmp 2] rfl ?_)
  repeat refine And.intro (by first | omega | exact trivial | rfl | (simp <;> omega)) ?_
  try refine ite_yes (by first | omega | exact trivial | rfl | (simp <;> omega)) ?_
  show SV.c (.bool _) = SV.c (.bool _)
  congr 2
  try simp only [if_true, if_false, Bool.false_eq_true]
  first | (rw [decide_eq_decide]; omega) | (symm; rw [decide_eq_false_iff_not]; omega) | (symm; rw [decide_eq_true_eq]; omega)

def validRS : QSpec := fun vs K => ∃ h c : List Bool, vs = [lsV h c] ∧ (h.length ≤ 9223372036854775807 ∧ c.length ≤ 9223372036854775807) ∧ K (.c (.bool (decide (0 < c.length ∧ h.length + c.length ≤ 512))))
theorem validR_ok : FlatOK Tryd.prog gl 18 validRS := by
 refine flat_of (Γ := g2) (N := 29) Tryd.func18 rfl rfl fun vs K h => ?_
 obtain ⟨a, b, rfl, ⟨hl1, hl2⟩, h⟩ := h
 refine ⟨_, h, rfl, by simp, fun w I => ?_⟩
 refine seq_k fun _ hK1 => ?_
 refine region_k g2_ok fun _ hK2 => ?_
 refine s_step rfl (by decide) rfl fun _ hS => ?_
 repeat refine And.intro qLb0 ?_
 refine hS _ _ _ ?_
 clear hS
 refine s_step rfl (by decide) rfl fun _ hS => ?_
 refine hS _ _ _ ?_
 clear hS
 refine s_nil ?_
 refine hK2 _ _ _ ?_
 refine hK1 _ _ _ ?_
 refine seq_k fun _ hK3 => ?_
 refine region_k g2_ok fun _ hK4 => ?_
 refine s_step rfl (by decide) rfl fun _ hS => ?_
 repeat refine And.intro qLb0 ?_
 refine hS _ _ _ ?_
 clear hS
 refine s_step rfl (by decide) rfl fun _ hS => ?_
 repeat refine And.intro qLb0 ?_
 first | refine hS _ _ _ ?_ | (refine whole_yes qLb0 ?_; refine hS _ _ _ ?_) | (refine whole_sub ?_; refine hS _ _ _ ?_)
 clear hS
 refine s_step rfl (by decide) rfl fun _ hS => ?_
 repeat refine And.intro qLb0 ?_
 refine hS _ _ _ ?_
 clear hS
 refine s_step rfl (by decide) rfl fun _ hS => ?_
 repeat refine And.intro qLb0 ?_
 refine hS _ _ _ ?_
 clear hS
 refine s_step rfl (by decide) rfl fun _ hS => ?_
 refine s_split hS (fun hb4 => ?_) (fun hb4 => ?_)
 ·clear hS
  try simp only [decide_eq_true_eq] at hb4
  refine s_guard (b := true) rfl (by decide) rfl rfl (fun _ _ hS => ?_) (fun e => absurd e (by decide))
  repeat refine And.intro qLb0 ?_
  refine hS _ _ _ ?_
  clear hS
  refine s_guard (b := true) rfl (by decide) rfl rfl (fun _ _ hS => ?_) (fun e => absurd e (by decide))
  repeat refine And.intro qLb0 ?_
  first | refine hS _ _ _ ?_ | (refine whole_yes qLb0 ?_; refine hS _ _ _ ?_) | (refine whole_sub ?_; refine hS _ _ _ ?_)
  clear hS
  refine s_guard (b := true) rfl (by decide) rfl rfl (fun _ _ hS => ?_) (fun e => absurd e (by decide))
  repeat refine And.intro qLb0 ?_
  refine hS _ _ _ ?_
  clear hS
  refine s_guard (b := true) rfl (by decide) rfl rfl (fun _ _ hS => ?_) (fun e => absurd e (by decide))
  repeat refine And.intro qLb0 ?_
  refine hS _ _ _ ?_
  clear hS
  refine s_step rfl (by decide) rfl fun _ hS => ?_
  refine hS _ _ _ ?_
  clear hS
  refine s_step rfl (by decide) rfl fun _ hS => ?_
  refine s_split hS (fun hb10 => ?_) (fun hb10 => ?_)
  ·clear hS
   try simp only [decide_eq_true_eq, if_true] at hb10
   refine s_guard (b := true) rfl (by decide) rfl rfl (fun _ _ hS => ?_) (fun e => absurd e (by decide))
   repeat refine And.intro qLb0 ?_
   refine hS _ _ _ ?_
   clear hS
   refine s_guard (b := true) rfl (by decide) rfl rfl (fun _ _ hS => ?_) (fun e => absurd e (by decide))
   repeat refine And.intro qLb0 ?_
   first | refine hS _ _ _ ?_ | (refine whole_yes qLb0 ?_; refine hS _ _ _ ?_) | (refine whole_sub ?_; refine hS _ _ _ ?_)
   clear hS
   refine s_guard (b := true) rfl (by decide) rfl rfl (fun _ _ hS => ?_) (fun e => absurd e (by decide))
   repeat refine And.intro qLb0 ?_
   refine hS _ _ _ ?_
   clear hS
   refine s_guard (b := true) rfl (by decide) rfl rfl (fun _ _ hS => ?_) (fun e => absurd e (by decide))
   repeat refine And.intro qLb0 ?_
   refine hS _ _ _ ?_
   clear hS
   refine s_step rfl (by decide) rfl fun _ hS => ?_
   refine hS _ _ _ ?_
   clear hS
   refine s_step rfl (by decide) rfl fun _ hS => ?_
   refine s_split hS (fun hb16 => ?_) (fun hb16 => ?_)
   ·clear hS
    try simp only [decide_eq_true_eq, if_true] at hb16
    refine s_guard (b := true) rfl (by decide) rfl rfl (fun _ _ hS => ?_) (fun e => absurd e (by decide))
    repeat refine And.intro qLb0 ?_
    refine hS _ _ _ ?_
    clear hS
    refine s_guard (b := true) rfl (by decide) rfl rfl (fun _ _ hS => ?_) (fun e => absurd e (by decide))
    repeat refine And.intro qLb0 ?_
    first | refine hS _ _ _ ?_ | (refine whole_yes qLb0 ?_; refine hS _ _ _ ?_) | (refine whole_sub ?_; refine hS _ _ _ ?_)
    clear hS
    refine s_guard (b := true) rfl (by decide) rfl rfl (fun _ _ hS => ?_) (fun e => absurd e (by decide))
    repeat refine And.intro qLb0 ?_
    refine hS _ _ _ ?_
    clear hS
    refine s_guard (b := true) rfl (by decide) rfl rfl (fun _ _ hS => ?_) (fun e => absurd e (by decide))
    repeat refine And.intro qLb0 ?_
    refine hS _ _ _ ?_
    clear hS
    refine s_guard (b := true) rfl (by decide) rfl rfl (fun _ _ hS => ?_) (fun e => absurd e (by decide))
    repeat refine And.intro qLb0 ?_
    first | refine hS _ _ _ ?_ | (refine whole_yes qLb0 ?_; refine hS _ _ _ ?_) | (refine whole_sub ?_; refine hS _ _ _ ?_)
    clear hS
    refine s_guard (b := true) rfl (by decide) rfl rfl (fun _ _ hS => ?_) (fun e => absurd e (by decide))
    repeat refine And.intro qLb0 ?_
    refine hS _ _ _ ?_
    clear hS
    refine s_guard (b := true) rfl (by decide) rfl rfl (fun _ _ hS => ?_) (fun e => absurd e (by decide))
    repeat refine And.intro qLb0 ?_
    refine hS _ _ _ ?_
    clear hS
    refine s_guard (b := true) rfl (by decide) rfl rfl (fun _ _ hS => ?_) (fun e => absurd e (by decide))
    repeat refine And.intro qLb0 ?_
    refine hS _ _ _ ?_
    clear hS
    refine s_step rfl (by decide) rfl fun _ hS => ?_
    refine hS _ _ _ ?_
    clear hS
    refine s_step rfl (by decide) rfl fun _ hS => ?_
    refine hS _ _ _ ?_
    clear hS
    refine s_nil ?_
    refine hK4 _ _ _ ?_
    refine hK3 _ _ _ ?_
    refine WP_ret (Done_flat g2_ok (fun _ _ h => h) (by first | rfl | assumption) [.tmp 2] rfl ?_)
    repeat refine And.intro (by first | omega | exact trivial | rfl | (simp <;> omega)) ?_
    try refine ite_yes (by first | omega | exact trivial | rfl | (simp <;> omega)) ?_
    show SV.c (.bool _) = SV.c (.bool _)
    congr 2
    try simp only [if_true]
    first | (rw [decide_eq_decide]; omega) | (symm; rw [decide_eq_false_iff_not]; omega) | (symm; rw [decide_eq_true_eq]; omega)
   ·clear hS
    try simp only [decide_eq_false_iff_not, Int.not_le, if_true] at hb16
    refine s_guard (b := false) rfl (by decide) rfl rfl (fun e => absurd e (by decide)) (fun _ => ?_)
    refine s_guard (b := false) rfl (by decide) rfl rfl (fun e => absurd e (by decide)) (fun _ => ?_)
    refine s_guard (b := false) rfl (by decide) rfl rfl (fun e => absurd e (by decide)) (fun _ => ?_)
    refine s_guard (b := false) rfl (by decide) rfl rfl (fun e => absurd e (by decide)) (fun _ => ?_)
    refine s_guard (b := false) rfl (by decide) rfl rfl (fun e => absurd e (by decide)) (fun _ => ?_)
    refine s_guard (b := false) rfl (by decide) rfl rfl (fun e => absurd e (by decide)) (fun _ => ?_)
    refine s_guard (b := false) rfl (by decide) rfl rfl (fun e => absurd e (by decide)) (fun _ => ?_)
    refine s_guard (b := false) rfl (by decide) rfl rfl (fun e => absurd e (by decide)) (fun _ => ?_)
    refine s_step rfl (by decide) rfl fun _ hS => ?_
    refine hS _ _ _ ?_
    clear hS
    refine s_step rfl (by decide) rfl fun _ hS => ?_
    refine hS _ _ _ ?_
    clear hS
    refine s_nil ?_
    refine hK4 _ _ _ ?_
    refine hK3 _ _ _ ?_
    refine WP_ret (Done_flat g2_ok (fun _ _ h => h) (by first | rfl | assumption) [.tmp 2] rfl ?_)
    repeat refine And.intro (by first | omega | exact trivial | rfl | (simp <;> omega)) ?_
    try refine ite_yes (by first | omega | exact trivial | rfl | (simp <;> omega)) ?_
    show SV.c (.bool _) = SV.c (.bool _)
    congr 2
    try simp only [if_true, if_false, Bool.false_eq_true]
    first | (rw [decide_eq_decide]; omega) | (symm; rw [decide_eq_false_iff_not]; omega) | (symm; rw [decide_eq_true_eq]; omega)
  ·clear hS
   try simp only [decide_eq_false_iff_not, Int.not_le, if_true] at hb10
   refine s_guard (b := false) rfl (by decide) rfl rfl (fun e => absurd e (by decide)) (fun _ => ?_)
   refine s_guard (b := false) rfl (by decide) rfl rfl (fun e => absurd e (by decide)) (fun _ => ?_)
   refine s_guard (b := false) rfl (by decide) rfl rfl (fun e => absurd e (by decide)) (fun _ => ?_)
   refine s_guard (b := false) rfl (by decide) rfl rfl (fun e => absurd e (by decide)) (fun _ => ?_)
   refine s_step rfl (by decide) rfl fun _ hS => ?_
   refine hS _ _ _ ?_
   clear hS
   refine s_step rfl (by decide) rfl fun _ hS => ?_
   refine s_split hS (fun hb16 => ?_) (fun hb16 => ?_)
   ·exfalso; simp at hb16
   clear hS
   refine s_guard (b := false) rfl (by decide) rfl rfl (fun e => absurd e (by decide)) (fun _ => ?_)
   refine s_guard (b := false) rfl (by decide) rfl rfl (fun e => absurd e (by decide)) (fun _ => ?_)
   refine s_guard (b := false) rfl (by decide) rfl rfl (fun e => absurd e (by decide)) (fun _ => ?_)
   refine s_guard (b := false) rfl (by decide) rfl rfl (fun e => absurd e (by decide)) (fun _ => ?_)
   refine s_guard (b := false) rfl (by decide) rfl rfl (fun e => absurd e (by decide)) (fun _ => ?_)
   refine s_guard (b := false) rfl (by decide) rfl rfl (fun e => absurd e (by decide)) (fun _ => ?_)
   refine s_guard (b := false) rfl (by decide) rfl rfl (fun e => absurd e (by decide)) (fun _ => ?_)
   refine s_guard (b := false) rfl (by decide) rfl rfl (fun e => absurd e (by decide)) (fun _ => ?_)
   refine s_step rfl (by decide) rfl fun _ hS => ?_
   refine hS _ _ _ ?_
   clear hS
   refine s_step rfl (by decide) rfl fun _ hS => ?_
   refine hS _ _ _ ?_
   clear hS
   refine s_nil ?_
   refine hK4 _ _ _ ?_
   refine hK3 _ _ _ ?_
   refine WP_ret (Done_flat g2_ok (fun _ _ h => h) (by first | rfl | assumption) [.tmp 2] rfl ?_)
   repeat refine And.intro (by first | omega | exact trivial | rfl | (simp <;> omega)) ?_
   try refine ite_yes (by first | omega | exact trivial | rfl | (simp <;> omega)) ?_
   show SV.c (.bool _) = SV.c (.bool _)
   congr 2
   try simp only [if_true, if_false, Bool.false_eq_true]
   first | (rw [decide_eq_decide]; omega) | (symm; rw [decide_eq_false_iff_not]; omega) | (symm; rw [decide_eq_true_eq]; omega)
 ·clear hS
  try simp only [decide_eq_false_iff_not, Int.not_lt] at hb4
  refine s_guard (b := false) rfl (by decide) rfl rfl (fun e => absurd e (by decide)) (fun _ => ?_)
  refine s_guard (b := false) rfl (by decide) rfl rfl (fun e => absurd e (by decide)) (fun _ => ?_)
  refine s_guard (b := false) rfl (by decide) rfl rfl (fun e => absurd e (by decide)) (fun _ => ?_)
  refine s_guard (b := false) rfl (by decide) rfl rfl (fun e => absurd e (by decide)) (fun _ => ?_)
  refine s_step rfl (by decide) rfl fun _ hS => ?_
  refine hS _ _ _ ?_
  clear hS
  refine s_step rfl (by decide) rfl fun _ hS => ?_
  refine s_split hS (fun hb10 => ?_) (fun hb10 => ?_)
  ·exfalso; simp at hb10
  clear hS
  refine s_guard (b := false) rfl (by decide) rfl rfl (fun e => absurd e (by decide)) (fun _ => ?_)
  refine s_guard (b := false) rfl (by decide) rfl rfl (fun e => absurd e (by decide)) (fun _ => ?_)
  refine s_guard (b := false) rfl (by decide) rfl rfl (fun e => absurd e (by decide)) (fun _ => ?_)
  refine s_guard (b := false) rfl (by decide) rfl rfl (fun e => absurd e (by decide)) (fun _ => ?_)
  refine s_step rfl (by decide) rfl fun _ hS => ?_
  refine hS _ _ _ ?_
  clear hS
  refine s_step rfl (by decide) rfl fun _ hS => ?_
  refine s_split hS (fun hb16 => ?_) (fun hb16 => ?_)
  ·exfalso; simp at hb16
  clear hS
  refine s_guard (b := false) rfl (by decide) rfl rfl (fun e => absurd e (by decide)) (fun _ => ?_)
  refine s_guard (b := false) rfl (by decide) rfl rfl (fun e => absurd e (by decide)) (fun _ => ?_)
  refine s_guard (b := false) rfl (by decide) rfl rfl (fun e => absurd e (by decide)) (fun _ => ?_)
  refine s_guard (b := false) rfl (by decide) rfl rfl (fun e => absurd e (by decide)) (fun _ => ?_)
  refine s_guard (b := false) rfl (by decide) rfl rfl (fun e => absurd e (by decide)) (fun _ => ?_)
  refine s_guard (b := false) rfl (by decide) rfl rfl (fun e => absurd e (by decide)) (fun _ => ?_)
  refine s_guard (b := false) rfl (by decide) rfl rfl (fun e => absurd e (by decide)) (fun _ => ?_)
  refine s_guard (b := false) rfl (by decide) rfl rfl (fun e => absurd e (by decide)) (fun _ => ?_)
  refine s_step rfl (by decide) rfl fun _ hS => ?_
  refine hS _ _ _ ?_
  clear hS
  refine s_step rfl (by decide) rfl fun _ hS => ?_
  refine hS _ _ _ ?_
  clear hS
  refine s_nil ?_
  refine hK4 _ _ _ ?_
  refine hK3 _ _ _ ?_
  refine WP_ret (Done_flat g2_ok (fun _ _ h => h) (by first | rfl | assumption) [.tmp 2] rfl ?_)
  repeat refine And.intro (by first | omega | exact trivial | rfl | (simp <;> omega)) ?_
  try refine ite_yes (by first | omega | exact trivial | rfl | (simp <;> omega)) ?_
  show SV.c (.bool _) = SV.c (.bool _)
  congr 2
  try simp only [if_true, if_false, Bool.false_eq_true]
  first | (rw [decide_eq_decide]; omega) | (symm; rw [decide_eq_false_iff_not]; omega) | (symm; rw [decide_eq_true_eq]; omega)

noncomputable def g3 : Ctx := { P := Tryd.prog, ty := ty, glob := gl, fs := [(17, .flat validS), (18, .flat validRS), (34, .flat memberS), (37, .flat atRS)] }
theorem g3_ok : g3.OK := ⟨tyOK, ⟨⟨enters_mk Tryd.func17 (by kernel_rfl) rfl, valid_ok⟩, ⟨enters_mk Tryd.func18 (by kernel_rfl) rfl, validR_ok⟩, ⟨enters_mk Tryd.func34 (by kernel_rfl) rfl, member_ok⟩, ⟨enters_mk Tryd.func37 (by kernel_rfl) rfl, atR_ok⟩, trivial⟩, mixed⟩
@[simp] theorem g3_ty : g3.ty = ty := rfl

def validL (h c : List Bool) : Bool := decide (0 < c.length ∧ h.length + c.length ≤ 512)
def hasL (h c : List Bool) (n : Int) : Bool := validL h c && decide (0 ≤ n) && atL h c n.toNat
def hasS : QSpec := fun vs K => ∃ h c, ∃ n : Int, vs = [lsV h c, .c (.int .i64 n)] ∧ (h.length ≤ 9223372036854775807 ∧ c.length ≤ 9223372036854775807 ∧ n ≤ 9223372036854775807) ∧ K (.c (.bool (hasL h c n)))
theorem has_ok : FlatOK Tryd.prog gl 19 hasS := by
 refine flat_of (Γ := g3) (N := 16) Tryd.func19 rfl rfl fun vs K h => ?_
 obtain ⟨a, b, m, rfl, ⟨hl1, hl2, hl3⟩, h⟩ := h
 refine ⟨_, h, rfl, by simp, fun w I => ?_⟩
 refine seq_k fun _ hK1 => ?_
 refine region_k g3_ok fun _ hK2 => ?_
 refine s_step rfl (by decide) rfl fun _ hS => ?_
 repeat refine And.intro qLb0 ?_
 refine hS _ _ _ ?_
 clear hS
 refine s_step rfl (by decide) rfl fun _ hS => ?_
 refine hS _ _ _ ?_
 clear hS
 refine s_nil ?_
 refine hK2 _ _ _ ?_
 refine hK1 _ _ _ ?_
 refine seq_k fun _ hK3 => ?_
 refine region_k g3_ok fun _ hK4 => ?_
 refine s_step rfl (by decide) rfl fun _ hS => ?_
 repeat refine And.intro qLb0 ?_
 first | refine hS _ _ _ ?_ | (refine whole_yes qLb0 ?_; refine hS _ _ _ ?_) | (refine whole_sub ?_; refine hS _ _ _ ?_)
 clear hS
 refine s_step rfl (by decide) rfl fun _ hS => ?_
 repeat first | refine And.intro qLb0 ?_ | refine whole_yes qLb0 ?_ | refine whole_sub ?_
 refine ⟨a, b, rfl, ⟨hl1, hl2⟩, ?_⟩
 repeat refine And.intro qLb0 ?_
 first | refine hS _ _ _ ?_ | (intro cap1 hcap1; refine hS _ _ _ ?_)
 clear hS
 refine s_step rfl (by decide) rfl fun _ hS => ?_
 refine s_split hS (fun hb2 => ?_) (fun hb2 => ?_)
 ·clear hS
  try simp only [decide_eq_true_eq] at hb2
  refine s_guard (b := true) rfl (by decide) rfl rfl (fun _ _ hS => ?_) (fun e => absurd e (by decide))
  refine hS _ _ _ ?_
  clear hS
  refine s_guard (b := true) rfl (by decide) rfl rfl (fun _ _ hS => ?_) (fun e => absurd e (by decide))
  repeat refine And.intro qLb0 ?_
  refine hS _ _ _ ?_
  clear hS
  refine s_step rfl (by decide) rfl fun _ hS => ?_
  refine hS _ _ _ ?_
  clear hS
  refine s_step rfl (by decide) rfl fun _ hS => ?_
  refine s_split hS (fun hb6 => ?_) (fun hb6 => ?_)
  ·clear hS
   try simp only [decide_eq_true_eq, if_true] at hb6
   refine s_guard (b := true) rfl (by decide) rfl rfl (fun _ _ hS => ?_) (fun e => absurd e (by decide))
   repeat refine And.intro qLb0 ?_
   first | refine hS _ _ _ ?_ | (refine whole_yes qLb0 ?_; refine hS _ _ _ ?_) | (refine whole_sub ?_; refine hS _ _ _ ?_)
   clear hS
   refine s_guard (b := true) rfl (by decide) rfl rfl (fun _ _ hS => ?_) (fun e => absurd e (by decide))
   refine hS _ _ _ ?_
   clear hS
   refine s_guard (b := true) rfl (by decide) rfl rfl (fun _ _ hS => ?_) (fun e => absurd e (by decide))
   repeat first | refine And.intro qLb0 ?_ | refine whole_yes qLb0 ?_ | refine whole_sub ?_
   refine ⟨a, b, m.toNat, by rw [Int.toNat_of_nonneg hb6], ⟨by omega, hl1, hl2, by omega⟩, ?_⟩
   repeat refine And.intro qLb0 ?_
   first | refine hS _ _ _ ?_ | (intro cap9 hcap9; refine hS _ _ _ ?_)
   clear hS
   refine s_step rfl (by decide) rfl fun _ hS => ?_
   refine hS _ _ _ ?_
   clear hS
   refine s_step rfl (by decide) rfl fun _ hS => ?_
   refine hS _ _ _ ?_
   clear hS
   refine s_nil ?_
   refine hK4 _ _ _ ?_
   refine hK3 _ _ _ ?_
   refine WP_ret (Done_flat g3_ok (fun _ _ h => h) (by first | rfl | assumption) [.tmp 4] rfl ?_)
   repeat refine And.intro (by first | omega | exact trivial | rfl | (simp <;> omega)) ?_
   try refine ite_yes (by first | omega | exact trivial | rfl | (simp <;> omega)) ?_
   show SV.c (.bool _) = _
   simp only [if_true, hasL, validL, decide_eq_true hb2, decide_eq_true hb6, Bool.true_and]
  ·clear hS
   try simp only [decide_eq_false_iff_not, Int.not_le, if_true] at hb6
   refine s_guard (b := false) rfl (by decide) rfl rfl (fun e => absurd e (by decide)) (fun _ => ?_)
   refine s_guard (b := false) rfl (by decide) rfl rfl (fun e => absurd e (by decide)) (fun _ => ?_)
   refine s_guard (b := false) rfl (by decide) rfl rfl (fun e => absurd e (by decide)) (fun _ => ?_)
   refine s_step rfl (by decide) rfl fun _ hS => ?_
   refine hS _ _ _ ?_
   clear hS
   refine s_step rfl (by decide) rfl fun _ hS => ?_
   refine hS _ _ _ ?_
   clear hS
   refine s_nil ?_
   refine hK4 _ _ _ ?_
   refine hK3 _ _ _ ?_
   refine WP_ret (Done_flat g3_ok (fun _ _ h => h) (by first | rfl | assumption) [.tmp 4] rfl ?_)
   repeat refine And.intro (by first | omega | exact trivial | rfl | (simp <;> omega)) ?_
   try refine ite_yes (by first | omega | exact trivial | rfl | (simp <;> omega)) ?_
   show SV.c (.bool false) = _
   rw [hasL, decide_eq_false (show ¬ (0 : Int) ≤ m by omega), Bool.and_false, Bool.false_and]
 ·clear hS
  try simp only [decide_eq_false_iff_not] at hb2
  refine s_guard (b := false) rfl (by decide) rfl rfl (fun e => absurd e (by decide)) (fun _ => ?_)
  refine s_guard (b := false) rfl (by decide) rfl rfl (fun e => absurd e (by decide)) (fun _ => ?_)
  refine s_step rfl (by decide) rfl fun _ hS => ?_
  refine hS _ _ _ ?_
  clear hS
  refine s_step rfl (by decide) rfl fun _ hS => ?_
  refine s_split hS (fun hb6 => ?_) (fun hb6 => ?_)
  ·exfalso; simp at hb6
  clear hS
  refine s_guard (b := false) rfl (by decide) rfl rfl (fun e => absurd e (by decide)) (fun _ => ?_)
  refine s_guard (b := false) rfl (by decide) rfl rfl (fun e => absurd e (by decide)) (fun _ => ?_)
  refine s_guard (b := false) rfl (by decide) rfl rfl (fun e => absurd e (by decide)) (fun _ => ?_)
  refine s_step rfl (by decide) rfl fun _ hS => ?_
  refine hS _ _ _ ?_
  clear hS
  refine s_step rfl (by decide) rfl fun _ hS => ?_
  refine hS _ _ _ ?_
  clear hS
  refine s_nil ?_
  refine hK4 _ _ _ ?_
  refine hK3 _ _ _ ?_
  refine WP_ret (Done_flat g3_ok (fun _ _ h => h) (by first | rfl | assumption) [.tmp 4] rfl ?_)
  repeat refine And.intro (by first | omega | exact trivial | rfl | (simp <;> omega)) ?_
  try refine ite_yes (by first | omega | exact trivial | rfl | (simp <;> omega)) ?_
  show SV.c (.bool false) = _
  rw [hasL, validL, decide_eq_false hb2, Bool.false_and, Bool.false_and]

def hasRS : QSpec := fun vs K => ∃ h c, ∃ n : Int, vs = [lsV h c, .c (.int .i64 n)] ∧ (h.length ≤ 9223372036854775807 ∧ c.length ≤ 9223372036854775807 ∧ n ≤ 9223372036854775807) ∧ K (.c (.bool (hasL h c n)))
theorem hasR_ok : FlatOK Tryd.prog gl 20 hasRS := by
 refine flat_of (Γ := g3) (N := 16) Tryd.func20 rfl rfl fun vs K h => ?_
 obtain ⟨a, b, m, rfl, ⟨hl1, hl2, hl3⟩, h⟩ := h
 refine ⟨_, h, rfl, by simp, fun w I => ?_⟩
 refine seq_k fun _ hK1 => ?_
 refine region_k g3_ok fun _ hK2 => ?_
 refine s_step rfl (by decide) rfl fun _ hS => ?_
 repeat refine And.intro qLb0 ?_
 refine hS _ _ _ ?_
 clear hS
 refine s_step rfl (by decide) rfl fun _ hS => ?_
 refine hS _ _ _ ?_
 clear hS
 refine s_nil ?_
 refine hK2 _ _ _ ?_
 refine hK1 _ _ _ ?_
 refine seq_k fun _ hK3 => ?_
 refine region_k g3_ok fun _ hK4 => ?_
 refine s_step rfl (by decide) rfl fun _ hS => ?_
 repeat refine And.intro qLb0 ?_
 first | refine hS _ _ _ ?_ | (refine whole_yes qLb0 ?_; refine hS _ _ _ ?_) | (refine whole_sub ?_; refine hS _ _ _ ?_)
 clear hS
 refine s_step rfl (by decide) rfl fun _ hS => ?_
 repeat first | refine And.intro qLb0 ?_ | refine whole_yes qLb0 ?_ | refine whole_sub ?_
 refine ⟨a, b, rfl, ⟨hl1, hl2⟩, ?_⟩
 repeat refine And.intro qLb0 ?_
 first | refine hS _ _ _ ?_ | (intro cap1 hcap1; refine hS _ _ _ ?_)
 clear hS
 refine s_step rfl (by decide) rfl fun _ hS => ?_
 refine s_split hS (fun hb2 => ?_) (fun hb2 => ?_)
 ·clear hS
  try simp only [decide_eq_true_eq] at hb2
  refine s_guard (b := true) rfl (by decide) rfl rfl (fun _ _ hS => ?_) (fun e => absurd e (by decide))
  refine hS _ _ _ ?_
  clear hS
  refine s_guard (b := true) rfl (by decide) rfl rfl (fun _ _ hS => ?_) (fun e => absurd e (by decide))
  repeat refine And.intro qLb0 ?_
  refine hS _ _ _ ?_
  clear hS
  refine s_step rfl (by decide) rfl fun _ hS => ?_
  refine hS _ _ _ ?_
  clear hS
  refine s_step rfl (by decide) rfl fun _ hS => ?_
  refine s_split hS (fun hb6 => ?_) (fun hb6 => ?_)
  ·clear hS
   try simp only [decide_eq_true_eq, if_true] at hb6
   refine s_guard (b := true) rfl (by decide) rfl rfl (fun _ _ hS => ?_) (fun e => absurd e (by decide))
   repeat refine And.intro qLb0 ?_
   first | refine hS _ _ _ ?_ | (refine whole_yes qLb0 ?_; refine hS _ _ _ ?_) | (refine whole_sub ?_; refine hS _ _ _ ?_)
   clear hS
   refine s_guard (b := true) rfl (by decide) rfl rfl (fun _ _ hS => ?_) (fun e => absurd e (by decide))
   refine hS _ _ _ ?_
   clear hS
   refine s_guard (b := true) rfl (by decide) rfl rfl (fun _ _ hS => ?_) (fun e => absurd e (by decide))
   repeat first | refine And.intro qLb0 ?_ | refine whole_yes qLb0 ?_ | refine whole_sub ?_
   refine ⟨a, b, m.toNat, by rw [Int.toNat_of_nonneg hb6], ⟨by omega, hl1, hl2, by omega⟩, ?_⟩
   repeat refine And.intro qLb0 ?_
   first | refine hS _ _ _ ?_ | (intro cap9 hcap9; refine hS _ _ _ ?_)
   clear hS
   refine s_step rfl (by decide) rfl fun _ hS => ?_
   refine hS _ _ _ ?_
   clear hS
   refine s_step rfl (by decide) rfl fun _ hS => ?_
   refine hS _ _ _ ?_
   clear hS
   refine s_nil ?_
   refine hK4 _ _ _ ?_
   refine hK3 _ _ _ ?_
   refine WP_ret (Done_flat g3_ok (fun _ _ h => h) (by first | rfl | assumption) [.tmp 4] rfl ?_)
   repeat refine And.intro (by first | omega | exact trivial | rfl | (simp <;> omega)) ?_
   try refine ite_yes (by first | omega | exact trivial | rfl | (simp <;> omega)) ?_
   show SV.c (.bool _) = _
   simp only [if_true, hasL, validL, decide_eq_true hb2, decide_eq_true hb6, Bool.true_and]
  ·clear hS
   try simp only [decide_eq_false_iff_not, Int.not_le, if_true] at hb6
   refine s_guard (b := false) rfl (by decide) rfl rfl (fun e => absurd e (by decide)) (fun _ => ?_)
   refine s_guard (b := false) rfl (by decide) rfl rfl (fun e => absurd e (by decide)) (fun _ => ?_)
   refine s_guard (b := false) rfl (by decide) rfl rfl (fun e => absurd e (by decide)) (fun _ => ?_)
   refine s_step rfl (by decide) rfl fun _ hS => ?_
   refine hS _ _ _ ?_
   clear hS
   refine s_step rfl (by decide) rfl fun _ hS => ?_
   refine hS _ _ _ ?_
   clear hS
   refine s_nil ?_
   refine hK4 _ _ _ ?_
   refine hK3 _ _ _ ?_
   refine WP_ret (Done_flat g3_ok (fun _ _ h => h) (by first | rfl | assumption) [.tmp 4] rfl ?_)
   repeat refine And.intro (by first | omega | exact trivial | rfl | (simp <;> omega)) ?_
   try refine ite_yes (by first | omega | exact trivial | rfl | (simp <;> omega)) ?_
   show SV.c (.bool false) = _
   rw [hasL, decide_eq_false (show ¬ (0 : Int) ≤ m by omega), Bool.and_false, Bool.false_and]
 ·clear hS
  try simp only [decide_eq_false_iff_not] at hb2
  refine s_guard (b := false) rfl (by decide) rfl rfl (fun e => absurd e (by decide)) (fun _ => ?_)
  refine s_guard (b := false) rfl (by decide) rfl rfl (fun e => absurd e (by decide)) (fun _ => ?_)
  refine s_step rfl (by decide) rfl fun _ hS => ?_
  refine hS _ _ _ ?_
  clear hS
  refine s_step rfl (by decide) rfl fun _ hS => ?_
  refine s_split hS (fun hb6 => ?_) (fun hb6 => ?_)
  ·exfalso; simp at hb6
  clear hS
  refine s_guard (b := false) rfl (by decide) rfl rfl (fun e => absurd e (by decide)) (fun _ => ?_)
  refine s_guard (b := false) rfl (by decide) rfl rfl (fun e => absurd e (by decide)) (fun _ => ?_)
  refine s_guard (b := false) rfl (by decide) rfl rfl (fun e => absurd e (by decide)) (fun _ => ?_)
  refine s_step rfl (by decide) rfl fun _ hS => ?_
  refine hS _ _ _ ?_
  clear hS
  refine s_step rfl (by decide) rfl fun _ hS => ?_
  refine hS _ _ _ ?_
  clear hS
  refine s_nil ?_
  refine hK4 _ _ _ ?_
  refine hK3 _ _ _ ?_
  refine WP_ret (Done_flat g3_ok (fun _ _ h => h) (by first | rfl | assumption) [.tmp 4] rfl ?_)
  repeat refine And.intro (by first | omega | exact trivial | rfl | (simp <;> omega)) ?_
  try refine ite_yes (by first | omega | exact trivial | rfl | (simp <;> omega)) ?_
  show SV.c (.bool false) = _
  rw [hasL, validL, decide_eq_false hb2, Bool.false_and, Bool.false_and]
end
section
theorem qLc0 {a : Prop} (h : a := by first | omega | exact trivial | rfl | (simp only [len_u8s, len_u32s, len_u64s, len_ints, len_bools, len_cells]; omega) | exact inR_i64.mpr ⟨by omega, by omega⟩ | (simp <;> omega) | (refine And.intro ?_ ?_ <;> exact trivial) | exact ⟨trivial, trivial, trivial⟩ | decide | (refine And.intro rfl ?_; (repeat first | exact trivial | refine And.intro rfl ?_); done) | exact Nat.succ_pos _ | exact Nat.le_refl _ | (refine And.intro trivial ?_; (repeat first | exact trivial | refine And.intro trivial ?_); done)) : a := h
theorem qLc1 {a : Prop} (h : a := by first | omega | exact trivial | rfl | (simp only [len_u8s, len_u32s, len_u64s, len_ints, len_bools, len_cells]; omega) | exact inR_i64.mpr ⟨by omega, by omega⟩ | (simp <;> omega) | (simp only [hv]; omega) | (refine ⟨by omega, by omega, ?_⟩; simp <;> omega) | (refine inR_i64.mpr ?_; rw [hv]; omega) | (refine And.intro ?_ ?_ <;> exact trivial) | exact ⟨trivial, trivial, trivial⟩ | decide | (refine And.intro rfl ?_; (repeat first | exact trivial | refine And.intro rfl ?_); done) | exact Nat.succ_pos _ | exact Nat.le_refl _ | (refine And.intro trivial ?_; (repeat first | exact trivial | refine And.intro trivial ?_); done)) : a := h

theorem uLc0 {a : Prop} (h : a := by
    repeat' (first | exact trivial | refine And.intro ?_ ?_ | rfl | omega | decide | (show (_ : Nat) < _; decide) | exact low_nil' | refine low_cons' ?_ ?_ | exact Nat.le_refl _ | exact Nat.succ_pos _)) : a := h

noncomputable def g4 : Ctx := { P := Tryd.prog, ty := ty, glob := gl, fs := [(34, .flat memberS)] }
theorem g4_ok : g4.OK := ⟨tyOK, ⟨⟨enters_mk Tryd.func34 (by kernel_rfl) rfl, member_ok⟩, trivial⟩, mixed⟩
@[simp] theorem g4_ty : g4.ty = ty := rfl

def canon1S : QSpec := fun vs K => ∃ h c, ∃ n : Nat, vs = [.c (.int .i64 n), .c (.dp (lsC h c) 0)] ∧ (0 < c.length ∧ h.length ≤ 9223372036854775807 ∧ c.length ≤ 9223372036854775807 ∧ n ≤ 9223372036854775807) ∧ K (.c (.bool (atL h c n)))
theorem canon1_ok : FlatOK Tryd.prog gl 33 canon1S := by
 refine flat_of (Γ := g4) (N := 7) Tryd.func33 rfl rfl fun vs K h => ?_
 obtain ⟨a, b, m, rfl, ⟨hl0, hl1, hl2, hl3⟩, h⟩ := h
 refine ⟨_, h, rfl, by simp, fun w I => ?_⟩
 refine seq_k fun _ hK1 => ?_
 refine region_k g4_ok fun _ hK2 => ?_
 refine s_step rfl (by decide) rfl fun _ hS => ?_
 refine hS _ _ _ ?_
 clear hS
 refine s_nil ?_
 refine hK2 _ _ _ ?_
 refine hK1 _ _ _ ?_
 refine seq_k fun _ hK3 => ?_
 refine region_k g4_ok fun _ hK4 => ?_
 refine s_step rfl (by decide) rfl fun _ hS => ?_
 repeat refine And.intro qLc0 ?_
 first | refine hS _ _ _ ?_ | (refine whole_yes qLc0 ?_; refine hS _ _ _ ?_) | (refine whole_sub ?_; refine hS _ _ _ ?_)
 clear hS
 refine s_step rfl (by decide) rfl fun _ hS => ?_
 refine hS _ _ _ ?_
 clear hS
 refine s_step rfl (by decide) rfl fun _ hS => ?_
 repeat first | refine And.intro qLc0 ?_ | refine whole_yes qLc0 ?_ | refine whole_sub ?_
 refine ⟨a, b, m, rfl, ⟨hl0, hl1, hl2, hl3⟩, ?_⟩
 repeat refine And.intro qLc0 ?_
 first | refine hS _ _ _ ?_ | (intro cap2 hcap2; refine hS _ _ _ ?_)
 clear hS
 refine s_step rfl (by decide) rfl fun _ hS => ?_
 refine hS _ _ _ ?_
 clear hS
 refine s_nil ?_
 refine hK4 _ _ _ ?_
 refine hK3 _ _ _ ?_
 refine WP_ret (Done_flat g4_ok (fun _ _ h => h) (by first | rfl | assumption) [.tmp 3] rfl ?_)
 repeat refine And.intro (by first | omega | exact trivial | rfl | (simp <;> omega)) ?_
 try refine ite_yes (by first | omega | exact trivial | rfl | (simp <;> omega)) ?_
 show _ = _
 rfl

def and1S : QSpec := fun vs K => ∃ a b : Bool, vs = [.c (.bool a), .c (.bool b)] ∧ K (.c (.bool (a && b)))
theorem and1_ok : FlatOK Tryd.prog gl 39 and1S := by
 refine flat_of (Γ := g0) (N := 9) Tryd.func39 rfl rfl fun vs K h => ?_
 obtain ⟨a, b, rfl, h⟩ := h
 refine ⟨_, h, rfl, by simp, fun w I => ?_⟩
 refine seq_k fun _ hK1 => ?_
 refine region_k g0_ok fun _ hK2 => ?_
 refine s_step rfl (by decide) rfl fun _ hS => ?_
 refine hS _ _ _ ?_
 clear hS
 refine s_nil ?_
 refine hK2 _ _ _ ?_
 refine hK1 _ _ _ ?_
 refine seq_k fun _ hK3 => ?_
 refine region_k g0_ok fun _ hK4 => ?_
 refine s_step rfl (by decide) rfl fun _ hS => ?_
 refine hS _ _ _ ?_
 clear hS
 refine s_step rfl (by decide) rfl fun _ hS => ?_
 refine s_split hS (fun hb1 => ?_) (fun hb1 => ?_)
 ·clear hS
  try simp only [decide_eq_true_eq, decide_eq_false_iff_not, Int.not_lt, Int.not_le, Bool.not_eq_true', Bool.not_eq_false', Bool.not_eq_eq_eq_not, Bool.not_true, Bool.not_false, if_true, if_false, reduceIte, Bool.false_eq_true, Int.natCast_inj] at hb1
  refine s_guard (b := true) rfl (by decide) rfl rfl (fun _ _ hS => ?_) (fun e => absurd e (by decide))
  refine hS _ _ _ ?_
  clear hS
  refine s_step rfl (by decide) rfl fun _ hS => ?_
  refine hS _ _ _ ?_
  clear hS
  refine s_step rfl (by decide) rfl fun _ hS => ?_
  refine hS _ _ _ ?_
  clear hS
  refine s_nil ?_
  refine hK4 _ _ _ ?_
  refine hK3 _ _ _ ?_
  refine WP_ret (Done_flat g0_ok (fun _ _ h => h) (by first | rfl | assumption) [.tmp 4] rfl ?_)
  repeat refine And.intro (by first | omega | exact trivial | rfl | (simp <;> omega)) ?_
  try refine ite_yes (by first | omega | exact trivial | rfl | (simp <;> omega)) ?_
  subst hb1
  rfl
 ·clear hS
  try simp only [decide_eq_true_eq, decide_eq_false_iff_not, Int.not_lt, Int.not_le, Bool.not_eq_true', Bool.not_eq_false', Bool.not_eq_eq_eq_not, Bool.not_true, Bool.not_false, if_true, if_false, reduceIte, Bool.false_eq_true, Int.natCast_inj] at hb1
  refine s_guard (b := false) rfl (by decide) rfl rfl (fun e => absurd e (by decide)) (fun _ => ?_)
  refine s_step rfl (by decide) rfl fun _ hS => ?_
  refine hS _ _ _ ?_
  clear hS
  refine s_step rfl (by decide) rfl fun _ hS => ?_
  refine hS _ _ _ ?_
  clear hS
  refine s_nil ?_
  refine hK4 _ _ _ ?_
  refine hK3 _ _ _ ?_
  refine WP_ret (Done_flat g0_ok (fun _ _ h => h) (by first | rfl | assumption) [.tmp 4] rfl ?_)
  repeat refine And.intro (by first | omega | exact trivial | rfl | (simp <;> omega)) ?_
  try refine ite_yes (by first | omega | exact trivial | rfl | (simp <;> omega)) ?_
  subst hb1
  rfl

def or1S : QSpec := fun vs K => ∃ a b : Bool, vs = [.c (.bool a), .c (.bool b)] ∧ K (.c (.bool (a || b)))
theorem or1_ok : FlatOK Tryd.prog gl 41 or1S := by
 refine flat_of (Γ := g0) (N := 9) Tryd.func41 rfl rfl fun vs K h => ?_
 obtain ⟨a, b, rfl, h⟩ := h
 refine ⟨_, h, rfl, by simp, fun w I => ?_⟩
 refine seq_k fun _ hK1 => ?_
 refine region_k g0_ok fun _ hK2 => ?_
 refine s_step rfl (by decide) rfl fun _ hS => ?_
 refine hS _ _ _ ?_
 clear hS
 refine s_nil ?_
 refine hK2 _ _ _ ?_
 refine hK1 _ _ _ ?_
 refine seq_k fun _ hK3 => ?_
 refine region_k g0_ok fun _ hK4 => ?_
 refine s_step rfl (by decide) rfl fun _ hS => ?_
 refine hS _ _ _ ?_
 clear hS
 refine s_step rfl (by decide) rfl fun _ hS => ?_
 refine s_split hS (fun hb1 => ?_) (fun hb1 => ?_)
 ·clear hS
  try simp only [decide_eq_true_eq, decide_eq_false_iff_not, Int.not_lt, Int.not_le, Bool.not_eq_true', Bool.not_eq_false', Bool.not_eq_eq_eq_not, Bool.not_true, Bool.not_false, if_true, if_false, reduceIte, Bool.false_eq_true, Int.natCast_inj] at hb1
  refine s_guard (b := true) rfl (by decide) rfl rfl (fun e => absurd e (by decide)) (fun _ => ?_)
  refine s_step rfl (by decide) rfl fun _ hS => ?_
  refine hS _ _ _ ?_
  clear hS
  refine s_step rfl (by decide) rfl fun _ hS => ?_
  refine hS _ _ _ ?_
  clear hS
  refine s_nil ?_
  refine hK4 _ _ _ ?_
  refine hK3 _ _ _ ?_
  refine WP_ret (Done_flat g0_ok (fun _ _ h => h) (by first | rfl | assumption) [.tmp 4] rfl ?_)
  repeat refine And.intro (by first | omega | exact trivial | rfl | (simp <;> omega)) ?_
  try refine ite_yes (by first | omega | exact trivial | rfl | (simp <;> omega)) ?_
  subst hb1
  rfl
 ·clear hS
  try simp only [decide_eq_true_eq, decide_eq_false_iff_not, Int.not_lt, Int.not_le, Bool.not_eq_true', Bool.not_eq_false', Bool.not_eq_eq_eq_not, Bool.not_true, Bool.not_false, if_true, if_false, reduceIte, Bool.false_eq_true, Int.natCast_inj] at hb1
  refine s_guard (b := false) rfl (by decide) rfl rfl (fun _ _ hS => ?_) (fun e => absurd e (by decide))
  refine hS _ _ _ ?_
  clear hS
  refine s_step rfl (by decide) rfl fun _ hS => ?_
  refine hS _ _ _ ?_
  clear hS
  refine s_step rfl (by decide) rfl fun _ hS => ?_
  refine hS _ _ _ ?_
  clear hS
  refine s_nil ?_
  refine hK4 _ _ _ ?_
  refine hK3 _ _ _ ?_
  refine WP_ret (Done_flat g0_ok (fun _ _ h => h) (by first | rfl | assumption) [.tmp 4] rfl ?_)
  repeat refine And.intro (by first | omega | exact trivial | rfl | (simp <;> omega)) ?_
  try refine ite_yes (by first | omega | exact trivial | rfl | (simp <;> omega)) ?_
  subst hb1
  rfl

noncomputable def g5 : Ctx := { P := Tryd.prog, ty := ty, glob := gl, fs := [(34, .flat memberS), (39, .flat and1S), (41, .flat or1S)] }
theorem g5_ok : g5.OK := ⟨tyOK, ⟨⟨enters_mk Tryd.func34 (by kernel_rfl) rfl, member_ok⟩, ⟨enters_mk Tryd.func39 (by kernel_rfl) rfl, and1_ok⟩, ⟨enters_mk Tryd.func41 (by kernel_rfl) rfl, or1_ok⟩, trivial⟩, mixed⟩
@[simp] theorem g5_ty : g5.ty = ty := rfl

def mergeAndS : QSpec := fun vs K => ∃ a b c d, ∃ n : Nat, vs = [.c (.int .i64 n), .c (.dp (.cells [.clo 39 []]) 0), .c (.dp (lsC a b) 0), .c (.dp (lsC c d) 0)] ∧ (0 < b.length ∧ a.length ≤ 9223372036854775807 ∧ b.length ≤ 9223372036854775807 ∧ 0 < d.length ∧ c.length ≤ 9223372036854775807 ∧ d.length ≤ 9223372036854775807 ∧ n ≤ 9223372036854775807) ∧ K (.c (.bool (atL a b n && atL c d n)))
theorem mergeAnd_ok : FlatOK Tryd.prog gl 55 mergeAndS := by
 refine flat_of (Γ := g5) (N := 14) Tryd.func55 rfl rfl fun vs K h => ?_
 obtain ⟨a, b, c, d, m, rfl, ⟨hl0, hl1, hl2, hl3, hl4, hl5, hl6⟩, h⟩ := h
 refine ⟨_, h, rfl, by simp, fun w I => ?_⟩
 refine seq_k fun _ hK1 => ?_
 refine region_k g5_ok fun _ hK2 => ?_
 refine s_step rfl (by decide) rfl fun _ hS => ?_
 refine hS _ _ _ ?_
 clear hS
 refine s_nil ?_
 refine hK2 _ _ _ ?_
 refine hK1 _ _ _ ?_
 refine seq_k fun _ hK3 => ?_
 refine sched_k g5_ok [(0, true), (1, true), (2, true), (4, true), (5, true), (3, false), (6, false), (7, false), (8, true)] rfl (by kernel_rfl) (by kernel_rfl) fun _ hK4 => ?_
 refine d_read rfl rfl (by decide) rfl fun _ hS => ?_
 repeat refine And.intro qLc0 ?_
 first | refine hS _ ?_ | (refine whole_yes qLc0 ?_; refine hS _ ?_) | (refine whole_sub ?_; refine hS _ ?_)
 clear hS
 refine d_read rfl rfl (by decide) rfl fun _ hS => ?_
 repeat refine And.intro qLc0 ?_
 first | refine hS _ ?_ | (refine whole_yes qLc0 ?_; refine hS _ ?_) | (refine whole_sub ?_; refine hS _ ?_)
 clear hS
 refine d_read rfl rfl (by decide) rfl fun _ hS => ?_
 refine hS _ ?_
 clear hS
 refine d_read rfl rfl (by decide) rfl fun _ hS => ?_
 repeat refine And.intro qLc0 ?_
 first | refine hS _ ?_ | (refine whole_yes qLc0 ?_; refine hS _ ?_) | (refine whole_sub ?_; refine hS _ ?_)
 clear hS
 refine d_read rfl rfl (by decide) rfl fun _ hS => ?_
 refine hS _ ?_
 clear hS
 refine d_grow rfl rfl (by decide) rfl fun _ hS => ?_
 repeat first | refine And.intro qLc0 ?_ | refine whole_yes qLc0 ?_ | refine whole_sub ?_
 refine ⟨a, b, m, rfl, ⟨hl0, hl1, hl2, hl6⟩, ?_⟩
 repeat refine And.intro qLc0 ?_
 first | refine hS _ _ _ ?_ | (intro cap3 hcap3; refine hS _ _ _ ?_)
 clear hS
 refine d_grow rfl rfl (by decide) rfl fun _ hS => ?_
 repeat first | refine And.intro qLc0 ?_ | refine whole_yes qLc0 ?_ | refine whole_sub ?_
 refine ⟨c, d, m, rfl, ⟨hl3, hl4, hl5, hl6⟩, ?_⟩
 repeat refine And.intro qLc0 ?_
 first | refine hS _ _ _ ?_ | (intro cap6 hcap6; refine hS _ _ _ ?_)
 clear hS
 refine d_grow rfl rfl (by decide) rfl fun _ hS => ?_
 repeat first | refine And.intro qLc0 ?_ | refine whole_yes qLc0 ?_ | refine whole_sub ?_
 refine ⟨atL a b m, atL c d m, rfl, ?_⟩
 repeat refine And.intro qLc0 ?_
 first | refine hS _ _ _ ?_ | (intro cap7 hcap7; refine hS _ _ _ ?_)
 clear hS
 refine d_read rfl rfl (by decide) rfl fun _ hS => ?_
 refine hS _ ?_
 clear hS
 refine d_nil ?_
 refine hK4 _ _ _ ?_
 refine hK3 _ _ _ ?_
 refine WP_ret (Done_flat g5_ok (fun _ _ h => h) (by first | rfl | assumption) [.tmp 5] rfl ?_)
 repeat refine And.intro (by first | omega | exact trivial | rfl | (simp <;> omega)) ?_
 try refine ite_yes (by first | omega | exact trivial | rfl | (simp <;> omega)) ?_
 show _ = _
 rfl

def mergeOrS : QSpec := fun vs K => ∃ a b c d, ∃ n : Nat, vs = [.c (.int .i64 n), .c (.dp (.cells [.clo 41 []]) 0), .c (.dp (lsC a b) 0), .c (.dp (lsC c d) 0)] ∧ (0 < b.length ∧ a.length ≤ 9223372036854775807 ∧ b.length ≤ 9223372036854775807 ∧ 0 < d.length ∧ c.length ≤ 9223372036854775807 ∧ d.length ≤ 9223372036854775807 ∧ n ≤ 9223372036854775807) ∧ K (.c (.bool (atL a b n || atL c d n)))
theorem mergeOr_ok : FlatOK Tryd.prog gl 55 mergeOrS := by
 refine flat_of (Γ := g5) (N := 14) Tryd.func55 rfl rfl fun vs K h => ?_
 obtain ⟨a, b, c, d, m, rfl, ⟨hl0, hl1, hl2, hl3, hl4, hl5, hl6⟩, h⟩ := h
 refine ⟨_, h, rfl, by simp, fun w I => ?_⟩
 refine seq_k fun _ hK1 => ?_
 refine region_k g5_ok fun _ hK2 => ?_
 refine s_step rfl (by decide) rfl fun _ hS => ?_
 refine hS _ _ _ ?_
 clear hS
 refine s_nil ?_
 refine hK2 _ _ _ ?_
 refine hK1 _ _ _ ?_
 refine seq_k fun _ hK3 => ?_
 refine sched_k g5_ok [(0, true), (1, true), (2, true), (4, true), (5, true), (3, false), (6, false), (7, false), (8, true)] rfl (by kernel_rfl) (by kernel_rfl) fun _ hK4 => ?_
 refine d_read rfl rfl (by decide) rfl fun _ hS => ?_
 repeat refine And.intro qLc0 ?_
 first | refine hS _ ?_ | (refine whole_yes qLc0 ?_; refine hS _ ?_) | (refine whole_sub ?_; refine hS _ ?_)
 clear hS
 refine d_read rfl rfl (by decide) rfl fun _ hS => ?_
 repeat refine And.intro qLc0 ?_
 first | refine hS _ ?_ | (refine whole_yes qLc0 ?_; refine hS _ ?_) | (refine whole_sub ?_; refine hS _ ?_)
 clear hS
 refine d_read rfl rfl (by decide) rfl fun _ hS => ?_
 refine hS _ ?_
 clear hS
 refine d_read rfl rfl (by decide) rfl fun _ hS => ?_
 repeat refine And.intro qLc0 ?_
 first | refine hS _ ?_ | (refine whole_yes qLc0 ?_; refine hS _ ?_) | (refine whole_sub ?_; refine hS _ ?_)
 clear hS
 refine d_read rfl rfl (by decide) rfl fun _ hS => ?_
 refine hS _ ?_
 clear hS
 refine d_grow rfl rfl (by decide) rfl fun _ hS => ?_
 repeat first | refine And.intro qLc0 ?_ | refine whole_yes qLc0 ?_ | refine whole_sub ?_
 refine ⟨a, b, m, rfl, ⟨hl0, hl1, hl2, hl6⟩, ?_⟩
 repeat refine And.intro qLc0 ?_
 first | refine hS _ _ _ ?_ | (intro cap3 hcap3; refine hS _ _ _ ?_)
 clear hS
 refine d_grow rfl rfl (by decide) rfl fun _ hS => ?_
 repeat first | refine And.intro qLc0 ?_ | refine whole_yes qLc0 ?_ | refine whole_sub ?_
 refine ⟨c, d, m, rfl, ⟨hl3, hl4, hl5, hl6⟩, ?_⟩
 repeat refine And.intro qLc0 ?_
 first | refine hS _ _ _ ?_ | (intro cap6 hcap6; refine hS _ _ _ ?_)
 clear hS
 refine d_grow rfl rfl (by decide) rfl fun _ hS => ?_
 repeat first | refine And.intro qLc0 ?_ | refine whole_yes qLc0 ?_ | refine whole_sub ?_
 refine ⟨atL a b m, atL c d m, rfl, ?_⟩
 repeat refine And.intro qLc0 ?_
 first | refine hS _ _ _ ?_ | (intro cap7 hcap7; refine hS _ _ _ ?_)
 clear hS
 refine d_read rfl rfl (by decide) rfl fun _ hS => ?_
 refine hS _ ?_
 clear hS
 refine d_nil ?_
 refine hK4 _ _ _ ?_
 refine hK3 _ _ _ ?_
 refine WP_ret (Done_flat g5_ok (fun _ _ h => h) (by first | rfl | assumption) [.tmp 5] rfl ?_)
 repeat refine And.intro (by first | omega | exact trivial | rfl | (simp <;> omega)) ?_
 try refine ite_yes (by first | omega | exact trivial | rfl | (simp <;> omega)) ?_
 show _ = _
 rfl

def sum2S : QSpec := fun vs K => ∃ a b : List Bool, ∃ n : Nat, vs = [.c (.int .i64 n), .c (.dp (.cells [.ds a.length (.bools a)]) 0), .c (.dp (.cells [.ds b.length (.bools b)]) 0)] ∧ (n < a.length ∧ n < b.length ∧ a.length ≤ 9223372036854775807) ∧ K (.c (.bool (a.getD n false || b.getD n false)))
theorem sum2_ok : FlatOK Tryd.prog gl 44 sum2S := by
 refine flat_of (Γ := g0) (N := 15) Tryd.func44 rfl rfl fun vs K h => ?_
 obtain ⟨a, b, m, rfl, ⟨hl0, hl1, hl2⟩, h⟩ := h
 refine ⟨_, h, rfl, by simp, fun w I => ?_⟩
 refine seq_k fun _ hK1 => ?_
 refine region_k g0_ok fun _ hK2 => ?_
 refine s_step rfl (by decide) rfl fun _ hS => ?_
 refine hS _ _ _ ?_
 clear hS
 refine s_nil ?_
 refine hK2 _ _ _ ?_
 refine hK1 _ _ _ ?_
 refine seq_k fun _ hK3 => ?_
 refine region_k g0_ok fun _ hK4 => ?_
 refine s_step rfl (by decide) rfl fun _ hS => ?_
 repeat refine And.intro qLc0 ?_
 first | refine hS _ _ _ ?_ | (refine whole_yes qLc0 ?_; refine hS _ _ _ ?_) | (refine whole_sub ?_; refine hS _ _ _ ?_)
 clear hS
 refine s_step rfl (by decide) rfl fun _ hS => ?_
 refine hS _ _ _ ?_
 clear hS
 refine s_step rfl (by decide) rfl fun _ hS => ?_
 repeat refine And.intro qLc0 ?_
 refine hS _ _ _ ?_
 clear hS
 refine s_step rfl (by decide) rfl fun _ hS => ?_
 repeat refine And.intro qLc0 ?_
 first | refine hS _ _ _ ?_ | (refine whole_yes qLc0 ?_; refine hS _ _ _ ?_) | (refine whole_sub ?_; refine hS _ _ _ ?_)
 clear hS
 refine s_step rfl (by decide) rfl fun _ hS => ?_
 refine s_split hS (fun hb4 => ?_) (fun hb4 => ?_)
 ·clear hS
  try simp only [decide_eq_true_eq, decide_eq_false_iff_not, Int.not_lt, Int.not_le, Bool.not_eq_true', Bool.not_eq_false', Bool.not_eq_eq_eq_not, Bool.not_true, Bool.not_false, if_true, if_false, reduceIte, Bool.false_eq_true, Int.natCast_inj] at hb4
  refine s_guard (b := true) rfl (by decide) rfl rfl (fun e => absurd e (by decide)) (fun _ => ?_)
  refine s_guard (b := true) rfl (by decide) rfl rfl (fun e => absurd e (by decide)) (fun _ => ?_)
  refine s_guard (b := true) rfl (by decide) rfl rfl (fun e => absurd e (by decide)) (fun _ => ?_)
  refine s_guard (b := true) rfl (by decide) rfl rfl (fun e => absurd e (by decide)) (fun _ => ?_)
  refine s_step rfl (by decide) rfl fun _ hS => ?_
  refine hS _ _ _ ?_
  clear hS
  refine s_step rfl (by decide) rfl fun _ hS => ?_
  refine hS _ _ _ ?_
  clear hS
  refine s_nil ?_
  refine hK4 _ _ _ ?_
  refine hK3 _ _ _ ?_
  refine WP_ret (Done_flat g0_ok (fun _ _ h => h) (by first | rfl | assumption) [.tmp 4] rfl ?_)
  repeat refine And.intro (by first | omega | exact trivial | rfl | (simp <;> omega)) ?_
  try refine ite_yes (by first | omega | exact trivial | rfl | (simp <;> omega)) ?_
  show SV.c (.bool _) = SV.c (.bool _)
  congr 2
  simp only [Int.toNat_natCast, Nat.mul_one] at hb4 ⊢
  simp only [hb4, Bool.true_or]
  try rfl
 ·clear hS
  try simp only [decide_eq_true_eq, decide_eq_false_iff_not, Int.not_lt, Int.not_le, Bool.not_eq_true', Bool.not_eq_false', Bool.not_eq_eq_eq_not, Bool.not_true, Bool.not_false, if_true, if_false, reduceIte, Bool.false_eq_true, Int.natCast_inj] at hb4
  refine s_guard (b := false) rfl (by decide) rfl rfl (fun _ _ hS => ?_) (fun e => absurd e (by decide))
  repeat refine And.intro qLc0 ?_
  first | refine hS _ _ _ ?_ | (refine whole_yes qLc0 ?_; refine hS _ _ _ ?_) | (refine whole_sub ?_; refine hS _ _ _ ?_)
  clear hS
  refine s_guard (b := false) rfl (by decide) rfl rfl (fun _ _ hS => ?_) (fun e => absurd e (by decide))
  refine hS _ _ _ ?_
  clear hS
  refine s_guard (b := false) rfl (by decide) rfl rfl (fun _ _ hS => ?_) (fun e => absurd e (by decide))
  repeat refine And.intro qLc0 ?_
  refine hS _ _ _ ?_
  clear hS
  refine s_guard (b := false) rfl (by decide) rfl rfl (fun _ _ hS => ?_) (fun e => absurd e (by decide))
  repeat refine And.intro qLc0 ?_
  first | refine hS _ _ _ ?_ | (refine whole_yes qLc0 ?_; refine hS _ _ _ ?_) | (refine whole_sub ?_; refine hS _ _ _ ?_)
  clear hS
  refine s_step rfl (by decide) rfl fun _ hS => ?_
  refine hS _ _ _ ?_
  clear hS
  refine s_step rfl (by decide) rfl fun _ hS => ?_
  refine hS _ _ _ ?_
  clear hS
  refine s_nil ?_
  refine hK4 _ _ _ ?_
  refine hK3 _ _ _ ?_
  refine WP_ret (Done_flat g0_ok (fun _ _ h => h) (by first | rfl | assumption) [.tmp 4] rfl ?_)
  repeat refine And.intro (by first | omega | exact trivial | rfl | (simp <;> omega)) ?_
  try refine ite_yes (by first | omega | exact trivial | rfl | (simp <;> omega)) ?_
  show SV.c (.bool _) = SV.c (.bool _)
  congr 2
  simp only [Int.toNat_natCast, Nat.mul_one] at hb4 ⊢
  simp only [hb4, Bool.false_or, if_false, Bool.false_eq_true]
  try rfl

def of1S : QSpec := fun vs K => ∃ a : List Bool, ∃ n : Nat, vs = [.c (.int .i64 n), .c (.dp (.cells [.ds a.length (.bools a)]) 0)] ∧ (n < a.length ∧ a.length ≤ 9223372036854775807) ∧ K (.c (.bool (a.getD n false)))
theorem of1_ok : FlatOK Tryd.prog gl 47 of1S := by
 refine flat_of (Γ := g0) (N := 8) Tryd.func47 rfl rfl fun vs K h => ?_
 obtain ⟨a, m, rfl, ⟨hl0, hl1⟩, h⟩ := h
 refine ⟨_, h, rfl, by simp, fun w I => ?_⟩
 refine seq_k fun _ hK1 => ?_
 refine region_k g0_ok fun _ hK2 => ?_
 refine s_step rfl (by decide) rfl fun _ hS => ?_
 refine hS _ _ _ ?_
 clear hS
 refine s_nil ?_
 refine hK2 _ _ _ ?_
 refine hK1 _ _ _ ?_
 refine seq_k fun _ hK3 => ?_
 refine region_k g0_ok fun _ hK4 => ?_
 refine s_step rfl (by decide) rfl fun _ hS => ?_
 repeat refine And.intro qLc0 ?_
 first | refine hS _ _ _ ?_ | (refine whole_yes qLc0 ?_; refine hS _ _ _ ?_) | (refine whole_sub ?_; refine hS _ _ _ ?_)
 clear hS
 refine s_step rfl (by decide) rfl fun _ hS => ?_
 refine hS _ _ _ ?_
 clear hS
 refine s_step rfl (by decide) rfl fun _ hS => ?_
 repeat refine And.intro qLc0 ?_
 refine hS _ _ _ ?_
 clear hS
 refine s_step rfl (by decide) rfl fun _ hS => ?_
 repeat refine And.intro qLc0 ?_
 first | refine hS _ _ _ ?_ | (refine whole_yes qLc0 ?_; refine hS _ _ _ ?_) | (refine whole_sub ?_; refine hS _ _ _ ?_)
 clear hS
 refine s_step rfl (by decide) rfl fun _ hS => ?_
 refine hS _ _ _ ?_
 clear hS
 refine s_nil ?_
 refine hK4 _ _ _ ?_
 refine hK3 _ _ _ ?_
 refine WP_ret (Done_flat g0_ok (fun _ _ h => h) (by first | rfl | assumption) [.tmp 3] rfl ?_)
 repeat refine And.intro (by first | omega | exact trivial | rfl | (simp <;> omega)) ?_
 try refine ite_yes (by first | omega | exact trivial | rfl | (simp <;> omega)) ?_
 show SV.c (.bool _) = SV.c (.bool _)
 congr 2
 simp only [Int.toNat_natCast, Nat.mul_one]

def lcmL (a b : Nat) : Nat := a / Nat.gcd a b * b
theorem lcmL_le (a b : Nat) : lcmL a b ≤ a * b := Nat.mul_le_mul_right _ (Nat.div_le_self _ _)
theorem lcmL_pos {a b : Nat} (ha : 0 < a) (hb : 0 < b) : 0 < lcmL a b := Nat.mul_pos (Nat.div_pos (Nat.le_of_dvd ha (Nat.gcd_dvd_left _ _)) (Nat.gcd_pos_of_pos_left _ ha)) hb
def commonS : QSpec := fun vs K => ∃ a b : Nat, vs = [.c (.int .i64 a), .c (.int .i64 b)] ∧ (0 < a ∧ 0 < b ∧ a ≤ 1048576 ∧ b ≤ 1048576) ∧ K (.c (.int .i64 (lcmL a b)))
theorem common_ok : FlatOK Tryd.prog gl 42 commonS := by
 refine flat_of (Γ := g0) (N := 20) Tryd.func42 rfl rfl fun vs K h => ?_
 obtain ⟨a, b, rfl, ⟨ha0, hb0, ha1, hb1⟩, h⟩ := h
 refine ⟨_, h, rfl, by simp, fun w I => ?_⟩
 refine seq_k fun _ hK1 => ?_
 refine region_k g0_ok fun _ hK2 => ?_
 refine s_step rfl (by decide) rfl fun _ hS => ?_
 refine hS _ _ _ ?_
 clear hS
 refine s_nil ?_
 refine hK2 _ _ _ ?_
 refine hK1 _ _ _ ?_
 refine seq_k fun _ hK3 => ?_
 refine region_k g0_ok fun _ hK4 => ?_
 refine s_step rfl (by decide) rfl fun _ hS => ?_
 refine hS _ _ _ ?_
 clear hS
 refine s_step rfl (by decide) rfl fun _ hS => ?_
 refine hS _ _ _ ?_
 clear hS
 refine s_step rfl (by decide) rfl fun _ hS => ?_
 refine hS _ _ _ ?_
 clear hS
 refine s_step rfl (by decide) rfl fun _ hS => ?_
 refine hS _ _ _ ?_
 clear hS
 refine s_nil ?_
 refine hK4 _ _ _ ?_
 refine hK3 _ _ _ ?_
 refine seq_k fun _ hK5 => ?_
 refine WP_block ?_
 refine WP_loop (α := Nat × Nat) (fun k => [(0, .c (.int .i64 a)), (1, .c (.int .i64 b)), (5, .c (.int .i64 k.1)), (6, .c (.int .i64 k.2))]) (fun k => []) 0 (fun k => Nat.gcd k.1 k.2 = Nat.gcd a b ∧ k.1 ≤ 1048576 ∧ k.2 ≤ 1048576) (fun k => k.2) ?_ ?_
 ·refine Done_some [] id (a, b) ⟨rfl, ha1, hb1⟩ ⟨?_, ?_, (by decide : List.Nodup ([] : List Nat)), ?_, ?_, ⟨Nat.zero_le _, fun i hi => absurd hi (Nat.not_lt_zero i)⟩⟩
  ·exact uLc0
  ·exact uLc0
  ·exact uLc0
  ·exact uLc0
 ·intro k hk
  refine seq_k fun _ hK6 => ?_
  refine seq_k fun _ hK7 => ?_
  refine region_k g0_ok fun _ hK8 => ?_
  refine s_step rfl (by decide) rfl fun _ hS => ?_
  refine hS _ _ _ ?_
  clear hS
  refine s_step rfl (by decide) rfl fun _ hS => ?_
  repeat refine And.intro qLc0 ?_
  refine hS _ _ _ ?_
  clear hS
  refine s_nil ?_
  refine hK8 _ _ _ ?_
  refine hK7 _ _ _ ?_
  refine WP_cond (b := _) rfl (fun h_t10 => ?_) (fun h_t10 => ?_)
  ·try try simp only [decide_eq_false_iff_not, Bool.not_eq_eq_eq_not, Bool.not_true] at h_t10
   refine WP_skip ?_
   refine hK6 _ _ _ ?_
   refine WP_block ?_
   have hy : k.2 ≠ 0 := by simpa using h_t10
   refine quiet_k g0_ok (by kernel_rfl) fun _ hK9 => ?_
   refine q_step rfl (by decide) rfl fun _ hS => ?_
   refine hS _ ?_
   clear hS
   refine q_step rfl (by decide) rfl fun _ hS => ?_
   refine hS _ ?_
   clear hS
   refine q_step rfl (by decide) rfl fun _ hS => ?_
   refine hS _ ?_
   clear hS
   refine q_step rfl (by decide) rfl fun _ hS => ?_
   repeat refine And.intro (by first | omega | exact trivial | rfl | (simp only [len_u8s, len_u32s, len_u64s, len_ints, len_bools, len_cells]; omega) | exact inR_i64.mpr ⟨by omega, by omega⟩ | (simp <;> omega) | (simp <;> omega) | (refine And.intro ?_ ?_ <;> exact trivial) | exact ⟨trivial, trivial, trivial⟩ | decide | (refine And.intro rfl ?_; (repeat first | exact trivial | refine And.intro rfl ?_); done) | exact Nat.succ_pos _ | exact Nat.le_refl _ | (refine And.intro trivial ?_; (repeat first | exact trivial | refine And.intro trivial ?_); done)) ?_
   refine hS _ ?_
   clear hS
   refine q_step rfl (by decide) rfl fun _ hS => ?_
   refine hS _ ?_
   clear hS
   refine q_step rfl (by decide) rfl fun _ hS => ?_
   refine hS _ ?_
   clear hS
   refine q_nil ?_
   refine hK9 _ ?_
   refine done_block ?_
   refine Done_some [] id (k.2, k.1 % k.2) ⟨⟨by rw [← hk.1, Nat.gcd_comm k.1 k.2, Nat.gcd_rec k.2 k.1, Nat.gcd_comm]; , hk.2.2, Nat.le_trans (Nat.le_of_lt (Nat.mod_lt _ (by omega))) hk.2.2⟩, Nat.mod_lt _ (by omega)⟩ ⟨?_, ?_, (by decide : List.Nodup ([] : List Nat)), ?_, ?_, ⟨Nat.zero_le _, fun i hi => absurd hi (Nat.not_lt_zero i)⟩⟩
   ·exact uLc0
   ·exact uLc0
   ·exact uLc0
   ·exact uLc0
  ·try try simp only [decide_eq_true_eq, Bool.not_eq_eq_eq_not, Bool.not_false] at h_t10
   refine WP_exit ?_
   refine done_thenx ?_
   refine done_thenx ?_
   refine Done_hit ?_
   refine hK5 _ _ _ ?_
   refine seq_k fun _ hK10 => ?_
   obtain ⟨x, y⟩ := k
   obtain rfl : y = 0 := by simpa using h_t10
   have hx : x = Nat.gcd a b := by have := hk.1; simpa using this
   subst hx
   have hg := Nat.gcd_pos_of_pos_left b ha0
   have hle := lcmL_le a b
   have hm : a * b ≤ 1048576 * 1048576 := Nat.mul_le_mul ha1 hb1
   have hv : ((a : Int) / ((Nat.gcd a b : Nat) : Int)) * (b : Int) = ((lcmL a b : Nat) : Int) := by rw [lcmL]; push_cast; rfl
   refine region_k g0_ok fun _ hK11 => ?_
   refine s_step rfl (by decide) rfl fun _ hS => ?_
   refine hS _ _ _ ?_
   clear hS
   refine s_step rfl (by decide) rfl fun _ hS => ?_
   refine hS _ _ _ ?_
   clear hS
   refine s_step rfl (by decide) rfl fun _ hS => ?_
   repeat refine And.intro qLc1 ?_
   refine hS _ _ _ ?_
   clear hS
   refine s_step rfl (by decide) rfl fun _ hS => ?_
   refine hS _ _ _ ?_
   clear hS
   refine s_step rfl (by decide) rfl fun _ hS => ?_
   repeat refine And.intro qLc1 ?_
   refine hS _ _ _ ?_
   clear hS
   refine s_step rfl (by decide) rfl fun _ hS => ?_
   refine hS _ _ _ ?_
   clear hS
   refine s_nil ?_
   refine hK11 _ _ _ ?_
   refine hK10 _ _ _ ?_
   refine WP_ret (Done_flat g0_ok (fun _ _ h => h) (by first | rfl | assumption) [.tmp 4] rfl ?_)
   repeat refine And.intro (by first | omega | exact trivial | rfl | (simp <;> omega)) ?_
   try refine ite_yes (by first | omega | exact trivial | rfl | (simp <;> omega)) ?_
   show SV.c (.int .i64 _) = SV.c (.int .i64 _)
   exact congrArg (fun z => SV.c (.int .i64 z)) hv

def cloneS : QSpec := fun vs K => ∃ a : List Bool, vs = [.c (.ds a.length (.bools a))] ∧ a.length ≤ 1048576 ∧ K (.c (.ds a.length (.bools a)))
theorem clone_ok : DataOK Tryd.prog gl 53 cloneS := by
 refine data_of (Γ := g0) (N := 8) Tryd.func53 rfl rfl fun vs K h => ?_
 obtain ⟨a, rfl, hl, h⟩ := h
 refine ⟨_, h, trivial, by simp, fun w I => ?_⟩
 refine seq_k fun _ hK1 => ?_
 refine region_k g0_ok fun _ hK2 => ?_
 refine s_step rfl (by decide) rfl fun _ hS => ?_
 refine hS _ _ _ ?_
 clear hS
 refine s_nil ?_
 refine hK2 _ _ _ ?_
 refine hK1 _ _ _ ?_
 refine seq_k fun _ hK3 => ?_
 refine seq_k fun _ hK4 => ?_
 refine region_k g0_ok fun _ hK5 => ?_
 refine s_step rfl (by decide) rfl fun _ hS => ?_
 refine hS _ _ _ ?_
 clear hS
 refine s_step rfl (by decide) rfl fun _ hS => ?_
 refine And.intro trivial ?_
 intro bb hbb
 refine hS _ _ _ ?_
 clear hS
 refine s_nil ?_
 refine hK5 _ _ _ ?_
 refine hK4 _ _ _ ?_
 refine WP_cond (b := _) rfl (fun h_t4 => ?_) (fun h_t4 => ?_)
 ·have h0 := hbb h_t4
  refine seq_k fun _ hK6 => ?_
  refine region_k g0_ok fun _ hK7 => ?_
  refine s_step rfl (by decide) rfl fun _ hS => ?_
  refine hS _ _ _ ?_
  clear hS
  refine s_nil ?_
  refine hK7 _ _ _ ?_
  refine hK6 _ _ _ ?_
  refine WP_ret (Done_data g0_ok (fun _ _ h => h) (by trivial) [] [.tmp 2] rfl ?_)
  repeat' (first | exact trivial | refine And.intro ?_ ?_ | rfl | omega | decide | (show (_ : Nat) < _; decide) | exact low_nil' | refine low_cons' ?_ ?_ | exact Nat.le_refl _ | exact Nat.succ_pos _)
  all_goals first | exact h0 | exact h0.symm | omega | skip
 ·skip
  refine WP_skip ?_
  refine hK3 _ _ _ ?_
  refine seq_k fun _ hK8 => ?_
  refine region_k g0_ok fun _ hK9 => ?_
  refine s_step rfl (by decide) rfl fun _ hS => ?_
  repeat refine And.intro qLc0 ?_
  refine hS _ _ _ ?_
  clear hS
  refine s_step rfl (by decide) rfl fun _ hS => ?_
  refine hS _ _ _ ?_
  clear hS
  refine s_step rfl (by decide) rfl fun _ hS => ?_
  repeat first | refine And.intro qLc0 ?_ | refine whole_yes qLc0 ?_ | refine whole_sub ?_
  intro cap2 hcap2; refine hS _ _ _ ?_
  clear hS
  refine s_step rfl (by decide) rfl fun _ hS => ?_
  refine hS _ _ _ ?_
  clear hS
  refine s_nil ?_
  refine hK9 _ _ _ ?_
  refine hK8 _ _ _ ?_
  refine WP_ret (Done_data g0_ok (fun _ _ h => h) (by trivial) [1] [.tmp 2] rfl ?_)
  repeat' (first | exact trivial | refine And.intro ?_ ?_ | rfl | omega | decide | (show (_ : Nat) < _; decide) | exact low_nil' | refine low_cons' ?_ ?_ | exact Nat.le_refl _ | exact Nat.succ_pos _)
  all_goals first | omega | (simp; done) | (simp <;> omega) | skip
end
end Go.Proofs.YtpfncffapgkjaaaDoor
