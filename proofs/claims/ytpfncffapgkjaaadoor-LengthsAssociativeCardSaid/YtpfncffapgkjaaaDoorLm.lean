/- The validity of an automaton. -/
import Derived.Test.YtpfncffapgkjaaaDoorAb14
import Derived.Test.YtpfncffapgkjaaaDoorAb21
import Derived.Test.YtpfncffapgkjaaaDoorCtx
import Derived.Test.YtpfncffapgkjaaaDoorLa
import Derived.Test.YtpfncffapgkjaaaDoorLi
import Derived.Test.YtpfncffapgkjaaaDoorLl
namespace Go.Proofs.YtpfncffapgkjaaaDoor
set_option linter.unusedVariables false
open Go.Ab Go.RowKit

theorem qLm0 {a : Prop} (h : a := by first | omega | exact trivial | rfl | (simp only [len_u8s, len_u32s, len_u64s, len_ints, len_bools, len_cells]; omega) | exact inR_i64.mpr ⟨by omega, by omega⟩ | (simp [hw1] <;> omega) | (refine And.intro ?_ ?_ <;> exact trivial) | exact ⟨trivial, trivial, trivial⟩ | decide | (refine And.intro rfl ?_; (repeat first | exact trivial | refine And.intro rfl ?_); done) | exact Nat.succ_pos _ | exact Nat.le_refl _ | (refine And.intro trivial ?_; (repeat first | exact trivial | refine And.intro trivial ?_); done)) : a := h
theorem qLm1 {a : Prop} (h : a := by first | omega | exact trivial | rfl | (simp only [len_u8s, len_u32s, len_u64s, len_ints, len_bools, len_cells]; omega) | exact inR_i64.mpr ⟨by omega, by omega⟩ | (simp [hw1, hcl, hw1] <;> omega) | (simp <;> omega) | (refine And.intro ?_ ?_ <;> exact trivial) | exact ⟨trivial, trivial, trivial⟩ | decide | (refine And.intro rfl ?_; (repeat first | exact trivial | refine And.intro rfl ?_); done) | exact Nat.succ_pos _ | exact Nat.le_refl _ | (refine And.intro trivial ?_; (repeat first | exact trivial | refine And.intro trivial ?_); done)) : a := h
theorem qLm2 {a : Prop} (h : a := by first | omega | exact trivial | rfl | (simp only [len_u8s, len_u32s, len_u64s, len_ints, len_bools, len_cells]; omega) | exact inR_i64.mpr ⟨by omega, by omega⟩ | (simp [hw1, hcl] <;> omega) | (show (clsAt d.cls k).length = 4; exact hcl) | exact hcl | (refine And.intro ?_ ?_ <;> exact trivial) | exact ⟨trivial, trivial, trivial⟩ | decide | (refine And.intro rfl ?_; (repeat first | exact trivial | refine And.intro rfl ?_); done) | exact Nat.succ_pos _ | exact Nat.le_refl _ | (refine And.intro trivial ?_; (repeat first | exact trivial | refine And.intro trivial ?_); done)) : a := h
theorem qLm3 {a : Prop} (h : a := by first | omega | exact trivial | rfl | (simp only [len_u8s, len_u32s, len_u64s, len_ints, len_bools, len_cells]; omega) | exact inR_i64.mpr ⟨by omega, by omega⟩ | (simp [hw1] <;> omega) | (simp <;> omega) | (refine And.intro ?_ ?_ <;> exact trivial) | exact ⟨trivial, trivial, trivial⟩ | decide | (refine And.intro rfl ?_; (repeat first | exact trivial | refine And.intro rfl ?_); done) | exact Nat.succ_pos _ | exact Nat.le_refl _ | (refine And.intro trivial ?_; (repeat first | exact trivial | refine And.intro trivial ?_); done)) : a := h

theorem uLm0 {a : Prop} (h : a := by
    repeat' (first | exact trivial | refine And.intro ?_ ?_ | rfl | omega | decide | (show (_ : Nat) < _; decide) | exact low_nil' | refine low_cons' ?_ ?_ | exact Nat.le_refl _ | exact Nat.succ_pos _)
    all_goals first | omega | exact low_rows _ | exact low_cons' trivial (low_cons' trivial (low_cons' trivial low_nil')) | (show (_ : List UInt64) = _; rfl) | (simp [hcl]; done) | (simp <;> omega) | skip) : a := h

/-- An automaton, as data. -/
structure Dfa where
  cls : List UInt64
  nc : Nat
  next : List (List Int)
  acc : List Bool
def rowsC (l : List (List Int)) : List Cell := l.map fun r => .ds r.length (.ints .i64 r)
abbrev dfaC (d : Dfa) : Cont := .cells [.ds d.nc (.u64s d.cls), .ds d.next.length (.cells (rowsC d.next)), .ds d.acc.length (.bools d.acc)]
abbrev dfaV (d : Dfa) : SV := .agg (dfaC d)
def Dfa.wf (d : Dfa) : Prop := d.cls.length = d.nc * 4 ∧ d.nc ≤ 9223372036854775807 ∧ d.next.length ≤ 9223372036854775807 ∧ d.acc.length ≤ 9223372036854775807 ∧ ∀ r ∈ d.next, r.length ≤ 9223372036854775807
@[simp] theorem rowsC_length (l : List (List Int)) : (rowsC l).length = l.length := by simp [rowsC]
theorem get_rows {l : List (List Int)} {i : Nat} (h : i < l.length) : (Cont.cells (rowsC l)).get i = .ds (l.getD i []).length (.ints .i64 (l.getD i [])) := by
  simp [Cont.get, rowsC, List.getD_eq_getElem?_getD, h]
theorem low_rows {n : Nat} (l : List (List Int)) : (Cont.cells (rowsC l)).low n := fun x hx => by
  obtain ⟨r, _, rfl⟩ := List.mem_map.1 hx
  exact trivial
theorem allD_rows (l : List (List Int)) : allD (rowsC l) := by
  induction l with
  | nil => trivial
  | cons r l ih => exact ⟨trivial, ih⟩
abbrev Z4 : List UInt64 := List.replicate 4 0
def clsAt (l : List UInt64) (i : Nat) : List UInt64 := (l.drop (i * 4)).take 4
theorem clsAt_length {l : List UInt64} {n i : Nat} (h : l.length = n * 4) (hi : i < n) : (clsAt l i).length = 4 := by simp [clsAt]; omega
def orC (a b : List UInt64) : List UInt64 := zipC (fun x y => x ||| y) a b
def andC (a b : List UInt64) : List UInt64 := zipC (fun x y => x &&& y) a b
def notK (a : List UInt64) : List UInt64 := zipC (fun x _ => ~~~x) a a
def seenL (l : List UInt64) : Nat → List UInt64
  | 0 => Z4
  | k + 1 => orC (seenL l k) (clsAt l k)
@[simp] theorem seenL_length (l : List UInt64) : ∀ k, (seenL l k).length = 4
  | 0 => rfl
  | k + 1 => zipC_length ..
def clsGood (l : List UInt64) (k : Nat) : Bool := !decide (clsAt l k = Z4) && decide (andC (seenL l k) (clsAt l k) = Z4)
def clsP (l : List UInt64) (nc : Nat) : Bool := (List.range nc).all (clsGood l) && decide (notK (seenL l nc) = Z4)
def tgtOK (n : Nat) (t : Int) : Bool := decide (0 ≤ t) && decide (t < n)
def rowOK (nc n : Nat) (r : List Int) : Bool := decide (r.length = nc) && r.all (tgtOK n)
def validD (d : Dfa) : Bool := decide (1 ≤ d.next.length ∧ d.next.length ≤ 64 ∧ d.acc.length = d.next.length ∧ 1 ≤ d.nc ∧ d.nc ≤ 256) && clsP d.cls d.nc && d.next.all (rowOK d.nc d.next.length)
theorem all_take_succ {α : Type} {p : α → Bool} {l : List α} {k : Nat} {d : α} (h : k < l.length) (h1 : (l.take k).all p = true) (h2 : p (l.getD k d) = true) : (l.take (k + 1)).all p = true := by
  rw [List.take_add_one, List.all_append, h1, List.getElem?_eq_getElem h]
  rw [List.getD_eq_getElem?_getD, List.getElem?_eq_getElem h] at h2
  simpa using h2
theorem all_no {α : Type} {p : α → Bool} {l : List α} {k : Nat} {d : α} (h : k < l.length) (h2 : p (l.getD k d) = false) : l.all p = false := by
  rw [List.getD_eq_getElem?_getD, List.getElem?_eq_getElem h] at h2
  rw [List.all_eq_false]
  exact ⟨l[k], List.getElem_mem h, by simpa using h2⟩
theorem all_range_succ {p : Nat → Bool} {k : Nat} (h1 : (List.range k).all p = true) (h2 : p k = true) : (List.range (k + 1)).all p = true := by
  rw [List.range_succ, List.all_append, h1]; simpa using h2
theorem all_range_no {p : Nat → Bool} {k n : Nat} (h : k < n) (h2 : p k = false) : (List.range n).all p = false := by
  rw [List.all_eq_false]
  exact ⟨k, List.mem_range.2 h, by simpa using h2⟩
noncomputable def m1 : Ctx := { P := Tryd.prog, ty := ty, glob := gl, fs := [(56, .flat interS), (57, .flat unionS), (58, .flat notCS)] }
theorem m1_ok : m1.OK := ⟨tyOK, ⟨⟨enters_mk Tryd.func56 (by kernel_rfl) rfl, inter_ok⟩, ⟨enters_mk Tryd.func57 (by kernel_rfl) rfl, union_ok⟩, ⟨enters_mk Tryd.func58 (by kernel_rfl) rfl, notC_ok⟩, trivial⟩, mixed⟩
@[simp] theorem m1_ty : m1.ty = ty := rfl

def validAS : QSpec := fun vs K => ∃ d : Dfa, vs = [dfaV d] ∧ d.wf ∧ K (.c (.bool (validD d)))
set_option maxHeartbeats 1000000 in
theorem validA_ok : FlatOK Tryd.prog gl 45 validAS := by
 refine flat_of (Γ := m1) (N := 92) Tryd.func45 rfl rfl fun vs K h => ?_
 obtain ⟨d, rfl, ⟨hw1, hw2, hw3, hw4, hw5⟩, h⟩ := h
 refine ⟨_, h, rfl, by simp, fun w I => ?_⟩
 refine seq_k fun _ hK1 => ?_
 refine region_k m1_ok fun _ hK2 => ?_
 refine s_step rfl (by decide) rfl fun _ hS => ?_
 repeat refine And.intro qLm0 ?_
 refine hS _ _ _ ?_
 clear hS
 refine s_step rfl (by decide) rfl fun _ hS => ?_
 refine hS _ _ _ ?_
 clear hS
 refine s_nil ?_
 refine hK2 _ _ _ ?_
 refine hK1 _ _ _ ?_
 refine seq_k fun _ hK3 => ?_
 refine region_k m1_ok fun _ hK4 => ?_
 refine s_step rfl (by decide) rfl fun _ hS => ?_
 repeat refine And.intro qLm0 ?_
 refine hS _ _ _ ?_
 clear hS
 refine s_step rfl (by decide) rfl fun _ hS => ?_
 repeat refine And.intro qLm0 ?_
 first | refine hS _ _ _ ?_ | (refine whole_yes qLm0 ?_; refine hS _ _ _ ?_) | (refine whole_sub ?_; refine hS _ _ _ ?_)
 clear hS
 refine s_step rfl (by decide) rfl fun _ hS => ?_
 repeat refine And.intro qLm0 ?_
 refine hS _ _ _ ?_
 clear hS
 refine s_step rfl (by decide) rfl fun _ hS => ?_
 refine hS _ _ _ ?_
 clear hS
 refine s_nil ?_
 refine hK4 _ _ _ ?_
 refine hK3 _ _ _ ?_
 refine seq_k fun _ hK5 => ?_
 refine seq_k fun _ hK6 => ?_
 refine region_k m1_ok fun _ hK7 => ?_
 refine s_step rfl (by decide) rfl fun _ hS => ?_
 refine hS _ _ _ ?_
 clear hS
 refine s_step rfl (by decide) rfl fun _ hS => ?_
 repeat refine And.intro qLm0 ?_
 refine hS _ _ _ ?_
 clear hS
 refine s_step rfl (by decide) rfl fun _ hS => ?_
 refine s_split hS (fun hb2 => ?_) (fun hb2 => ?_)
 ·clear hS
  try simp only [decide_eq_true_eq] at hb2
  refine s_guard (b := true) rfl (by decide) rfl rfl (fun e => absurd e (by decide)) (fun _ => ?_)
  refine s_guard (b := true) rfl (by decide) rfl rfl (fun e => absurd e (by decide)) (fun _ => ?_)
  refine s_step rfl (by decide) rfl fun _ hS => ?_
  refine hS _ _ _ ?_
  clear hS
  refine s_step rfl (by decide) rfl fun _ hS => ?_
  refine s_split hS (fun hb6 => ?_) (fun hb6 => ?_)
  rotate_left 1
  ·exfalso; simp at hb6
  clear hS
  refine s_guard (b := true) rfl (by decide) rfl rfl (fun e => absurd e (by decide)) (fun _ => ?_)
  refine s_guard (b := true) rfl (by decide) rfl rfl (fun e => absurd e (by decide)) (fun _ => ?_)
  refine s_guard (b := true) rfl (by decide) rfl rfl (fun e => absurd e (by decide)) (fun _ => ?_)
  refine s_guard (b := true) rfl (by decide) rfl rfl (fun e => absurd e (by decide)) (fun _ => ?_)
  refine s_guard (b := true) rfl (by decide) rfl rfl (fun e => absurd e (by decide)) (fun _ => ?_)
  refine s_step rfl (by decide) rfl fun _ hS => ?_
  refine hS _ _ _ ?_
  clear hS
  refine s_step rfl (by decide) rfl fun _ hS => ?_
  refine s_split hS (fun hb13 => ?_) (fun hb13 => ?_)
  rotate_left 1
  ·exfalso; simp at hb13
  clear hS
  refine s_guard (b := true) rfl (by decide) rfl rfl (fun e => absurd e (by decide)) (fun _ => ?_)
  refine s_guard (b := true) rfl (by decide) rfl rfl (fun e => absurd e (by decide)) (fun _ => ?_)
  refine s_guard (b := true) rfl (by decide) rfl rfl (fun e => absurd e (by decide)) (fun _ => ?_)
  refine s_guard (b := true) rfl (by decide) rfl rfl (fun e => absurd e (by decide)) (fun _ => ?_)
  refine s_step rfl (by decide) rfl fun _ hS => ?_
  refine hS _ _ _ ?_
  clear hS
  refine s_step rfl (by decide) rfl fun _ hS => ?_
  refine s_split hS (fun hb19 => ?_) (fun hb19 => ?_)
  rotate_left 1
  ·exfalso; simp at hb19
  clear hS
  refine s_guard (b := true) rfl (by decide) rfl rfl (fun e => absurd e (by decide)) (fun _ => ?_)
  refine s_guard (b := true) rfl (by decide) rfl rfl (fun e => absurd e (by decide)) (fun _ => ?_)
  refine s_guard (b := true) rfl (by decide) rfl rfl (fun e => absurd e (by decide)) (fun _ => ?_)
  refine s_guard (b := true) rfl (by decide) rfl rfl (fun e => absurd e (by decide)) (fun _ => ?_)
  refine s_step rfl (by decide) rfl fun _ hS => ?_
  refine hS _ _ _ ?_
  clear hS
  refine s_nil ?_
  refine hK7 _ _ _ ?_
  refine hK6 _ _ _ ?_
  refine WP_cond (b := _) rfl (fun _ => ?_) (fun h_t38 => ?_)
  rotate_left 1
  ·exfalso; simp at h_t38
  refine seq_k fun _ hK8 => ?_
  refine region_k m1_ok fun _ hK9 => ?_
  refine s_step rfl (by decide) rfl fun _ hS => ?_
  refine hS _ _ _ ?_
  clear hS
  refine s_nil ?_
  refine hK9 _ _ _ ?_
  refine hK8 _ _ _ ?_
  refine WP_ret (Done_flat m1_ok (fun _ _ h => h) (by first | rfl | assumption) [.tmp 2] rfl ?_)
  repeat refine And.intro (by first | omega | exact trivial | rfl | (simp <;> omega)) ?_
  try refine ite_yes (by first | omega | exact trivial | rfl | (simp <;> omega)) ?_
  show SV.c (.bool false) = _
  rw [validD, decide_eq_false (fun hh => by omega), Bool.false_and, Bool.false_and]
 ·clear hS
  try simp only [decide_eq_false_iff_not, Int.not_lt] at hb2
  refine s_guard (b := false) rfl (by decide) rfl rfl (fun _ _ hS => ?_) (fun e => absurd e (by decide))
  refine hS _ _ _ ?_
  clear hS
  refine s_guard (b := false) rfl (by decide) rfl rfl (fun _ _ hS => ?_) (fun e => absurd e (by decide))
  repeat refine And.intro qLm0 ?_
  refine hS _ _ _ ?_
  clear hS
  refine s_step rfl (by decide) rfl fun _ hS => ?_
  refine hS _ _ _ ?_
  clear hS
  refine s_step rfl (by decide) rfl fun _ hS => ?_
  refine s_split hS (fun hb6 => ?_) (fun hb6 => ?_)
  ·clear hS
   try simp only [decide_eq_true_eq, if_false, Bool.false_eq_true] at hb6
   refine s_guard (b := true) rfl (by decide) rfl rfl (fun e => absurd e (by decide)) (fun _ => ?_)
   refine s_guard (b := true) rfl (by decide) rfl rfl (fun e => absurd e (by decide)) (fun _ => ?_)
   refine s_guard (b := true) rfl (by decide) rfl rfl (fun e => absurd e (by decide)) (fun _ => ?_)
   refine s_guard (b := true) rfl (by decide) rfl rfl (fun e => absurd e (by decide)) (fun _ => ?_)
   refine s_guard (b := true) rfl (by decide) rfl rfl (fun e => absurd e (by decide)) (fun _ => ?_)
   refine s_step rfl (by decide) rfl fun _ hS => ?_
   refine hS _ _ _ ?_
   clear hS
   refine s_step rfl (by decide) rfl fun _ hS => ?_
   refine s_split hS (fun hb13 => ?_) (fun hb13 => ?_)
   rotate_left 1
   ·exfalso; simp at hb13
   clear hS
   refine s_guard (b := true) rfl (by decide) rfl rfl (fun e => absurd e (by decide)) (fun _ => ?_)
   refine s_guard (b := true) rfl (by decide) rfl rfl (fun e => absurd e (by decide)) (fun _ => ?_)
   refine s_guard (b := true) rfl (by decide) rfl rfl (fun e => absurd e (by decide)) (fun _ => ?_)
   refine s_guard (b := true) rfl (by decide) rfl rfl (fun e => absurd e (by decide)) (fun _ => ?_)
   refine s_step rfl (by decide) rfl fun _ hS => ?_
   refine hS _ _ _ ?_
   clear hS
   refine s_step rfl (by decide) rfl fun _ hS => ?_
   refine s_split hS (fun hb19 => ?_) (fun hb19 => ?_)
   rotate_left 1
   ·exfalso; simp at hb19
   clear hS
   refine s_guard (b := true) rfl (by decide) rfl rfl (fun e => absurd e (by decide)) (fun _ => ?_)
   refine s_guard (b := true) rfl (by decide) rfl rfl (fun e => absurd e (by decide)) (fun _ => ?_)
   refine s_guard (b := true) rfl (by decide) rfl rfl (fun e => absurd e (by decide)) (fun _ => ?_)
   refine s_guard (b := true) rfl (by decide) rfl rfl (fun e => absurd e (by decide)) (fun _ => ?_)
   refine s_step rfl (by decide) rfl fun _ hS => ?_
   refine hS _ _ _ ?_
   clear hS
   refine s_nil ?_
   refine hK7 _ _ _ ?_
   refine hK6 _ _ _ ?_
   refine WP_cond (b := _) rfl (fun _ => ?_) (fun h_t38 => ?_)
   rotate_left 1
   ·exfalso; simp at h_t38
   refine seq_k fun _ hK10 => ?_
   refine region_k m1_ok fun _ hK11 => ?_
   refine s_step rfl (by decide) rfl fun _ hS => ?_
   refine hS _ _ _ ?_
   clear hS
   refine s_nil ?_
   refine hK11 _ _ _ ?_
   refine hK10 _ _ _ ?_
   refine WP_ret (Done_flat m1_ok (fun _ _ h => h) (by first | rfl | assumption) [.tmp 2] rfl ?_)
   repeat refine And.intro (by first | omega | exact trivial | rfl | (simp <;> omega)) ?_
   try refine ite_yes (by first | omega | exact trivial | rfl | (simp <;> omega)) ?_
   show SV.c (.bool false) = _
   rw [validD, decide_eq_false (fun hh => by omega), Bool.false_and, Bool.false_and]
  ·clear hS
   try simp only [decide_eq_false_iff_not, Int.not_lt, if_false, Bool.false_eq_true] at hb6
   refine s_guard (b := false) rfl (by decide) rfl rfl (fun _ _ hS => ?_) (fun e => absurd e (by decide))
   repeat refine And.intro qLm0 ?_
   refine hS _ _ _ ?_
   clear hS
   refine s_guard (b := false) rfl (by decide) rfl rfl (fun _ _ hS => ?_) (fun e => absurd e (by decide))
   repeat refine And.intro qLm0 ?_
   first | refine hS _ _ _ ?_ | (refine whole_yes qLm0 ?_; refine hS _ _ _ ?_) | (refine whole_sub ?_; refine hS _ _ _ ?_)
   clear hS
   refine s_guard (b := false) rfl (by decide) rfl rfl (fun _ _ hS => ?_) (fun e => absurd e (by decide))
   repeat refine And.intro qLm0 ?_
   refine hS _ _ _ ?_
   clear hS
   refine s_guard (b := false) rfl (by decide) rfl rfl (fun _ _ hS => ?_) (fun e => absurd e (by decide))
   refine hS _ _ _ ?_
   clear hS
   refine s_guard (b := false) rfl (by decide) rfl rfl (fun _ _ hS => ?_) (fun e => absurd e (by decide))
   repeat refine And.intro qLm0 ?_
   refine hS _ _ _ ?_
   clear hS
   refine s_step rfl (by decide) rfl fun _ hS => ?_
   refine hS _ _ _ ?_
   clear hS
   refine s_step rfl (by decide) rfl fun _ hS => ?_
   refine s_split hS (fun hb13 => ?_) (fun hb13 => ?_)
   ·clear hS
    try simp only [decide_eq_false_iff_not, Bool.not_eq_eq_eq_not, Bool.not_true, if_false, Bool.false_eq_true, Int.natCast_inj] at hb13
    refine s_guard (b := true) rfl (by decide) rfl rfl (fun e => absurd e (by decide)) (fun _ => ?_)
    refine s_guard (b := true) rfl (by decide) rfl rfl (fun e => absurd e (by decide)) (fun _ => ?_)
    refine s_guard (b := true) rfl (by decide) rfl rfl (fun e => absurd e (by decide)) (fun _ => ?_)
    refine s_guard (b := true) rfl (by decide) rfl rfl (fun e => absurd e (by decide)) (fun _ => ?_)
    refine s_step rfl (by decide) rfl fun _ hS => ?_
    refine hS _ _ _ ?_
    clear hS
    refine s_step rfl (by decide) rfl fun _ hS => ?_
    refine s_split hS (fun hb19 => ?_) (fun hb19 => ?_)
    rotate_left 1
    ·exfalso; simp at hb19
    clear hS
    refine s_guard (b := true) rfl (by decide) rfl rfl (fun e => absurd e (by decide)) (fun _ => ?_)
    refine s_guard (b := true) rfl (by decide) rfl rfl (fun e => absurd e (by decide)) (fun _ => ?_)
    refine s_guard (b := true) rfl (by decide) rfl rfl (fun e => absurd e (by decide)) (fun _ => ?_)
    refine s_guard (b := true) rfl (by decide) rfl rfl (fun e => absurd e (by decide)) (fun _ => ?_)
    refine s_step rfl (by decide) rfl fun _ hS => ?_
    refine hS _ _ _ ?_
    clear hS
    refine s_nil ?_
    refine hK7 _ _ _ ?_
    refine hK6 _ _ _ ?_
    refine WP_cond (b := _) rfl (fun _ => ?_) (fun h_t38 => ?_)
    rotate_left 1
    ·exfalso; simp at h_t38
    refine seq_k fun _ hK12 => ?_
    refine region_k m1_ok fun _ hK13 => ?_
    refine s_step rfl (by decide) rfl fun _ hS => ?_
    refine hS _ _ _ ?_
    clear hS
    refine s_nil ?_
    refine hK13 _ _ _ ?_
    refine hK12 _ _ _ ?_
    refine WP_ret (Done_flat m1_ok (fun _ _ h => h) (by first | rfl | assumption) [.tmp 2] rfl ?_)
    repeat refine And.intro (by first | omega | exact trivial | rfl | (simp <;> omega)) ?_
    try refine ite_yes (by first | omega | exact trivial | rfl | (simp <;> omega)) ?_
    show SV.c (.bool false) = _
    rw [validD, decide_eq_false (fun hh => by omega), Bool.false_and, Bool.false_and]
   ·clear hS
    try simp only [decide_eq_true_eq, Bool.not_eq_eq_eq_not, Bool.not_false, if_false, Bool.false_eq_true, Int.natCast_inj] at hb13
    refine s_guard (b := false) rfl (by decide) rfl rfl (fun _ _ hS => ?_) (fun e => absurd e (by decide))
    repeat refine And.intro qLm0 ?_
    refine hS _ _ _ ?_
    clear hS
    refine s_guard (b := false) rfl (by decide) rfl rfl (fun _ _ hS => ?_) (fun e => absurd e (by decide))
    repeat refine And.intro qLm0 ?_
    first | refine hS _ _ _ ?_ | (refine whole_yes qLm0 ?_; refine hS _ _ _ ?_) | (refine whole_sub ?_; refine hS _ _ _ ?_)
    clear hS
    refine s_guard (b := false) rfl (by decide) rfl rfl (fun _ _ hS => ?_) (fun e => absurd e (by decide))
    repeat refine And.intro qLm0 ?_
    refine hS _ _ _ ?_
    clear hS
    refine s_guard (b := false) rfl (by decide) rfl rfl (fun _ _ hS => ?_) (fun e => absurd e (by decide))
    repeat refine And.intro qLm0 ?_
    refine hS _ _ _ ?_
    clear hS
    refine s_step rfl (by decide) rfl fun _ hS => ?_
    refine hS _ _ _ ?_
    clear hS
    refine s_step rfl (by decide) rfl fun _ hS => ?_
    refine s_split hS (fun hb19 => ?_) (fun hb19 => ?_)
    ·clear hS
     try simp only [decide_eq_true_eq, if_false, Bool.false_eq_true] at hb19
     refine s_guard (b := true) rfl (by decide) rfl rfl (fun e => absurd e (by decide)) (fun _ => ?_)
     refine s_guard (b := true) rfl (by decide) rfl rfl (fun e => absurd e (by decide)) (fun _ => ?_)
     refine s_guard (b := true) rfl (by decide) rfl rfl (fun e => absurd e (by decide)) (fun _ => ?_)
     refine s_guard (b := true) rfl (by decide) rfl rfl (fun e => absurd e (by decide)) (fun _ => ?_)
     refine s_step rfl (by decide) rfl fun _ hS => ?_
     refine hS _ _ _ ?_
     clear hS
     refine s_nil ?_
     refine hK7 _ _ _ ?_
     refine hK6 _ _ _ ?_
     refine WP_cond (b := _) rfl (fun _ => ?_) (fun h_t38 => ?_)
     rotate_left 1
     ·exfalso; simp at h_t38
     refine seq_k fun _ hK14 => ?_
     refine region_k m1_ok fun _ hK15 => ?_
     refine s_step rfl (by decide) rfl fun _ hS => ?_
     refine hS _ _ _ ?_
     clear hS
     refine s_nil ?_
     refine hK15 _ _ _ ?_
     refine hK14 _ _ _ ?_
     refine WP_ret (Done_flat m1_ok (fun _ _ h => h) (by first | rfl | assumption) [.tmp 2] rfl ?_)
     repeat refine And.intro (by first | omega | exact trivial | rfl | (simp <;> omega)) ?_
     try refine ite_yes (by first | omega | exact trivial | rfl | (simp <;> omega)) ?_
     show SV.c (.bool false) = _
     rw [validD, decide_eq_false (fun hh => by omega), Bool.false_and, Bool.false_and]
    ·clear hS
     try simp only [decide_eq_false_iff_not, Int.not_lt, if_false, Bool.false_eq_true] at hb19
     refine s_guard (b := false) rfl (by decide) rfl rfl (fun _ _ hS => ?_) (fun e => absurd e (by decide))
     repeat refine And.intro qLm0 ?_
     refine hS _ _ _ ?_
     clear hS
     refine s_guard (b := false) rfl (by decide) rfl rfl (fun _ _ hS => ?_) (fun e => absurd e (by decide))
     repeat refine And.intro qLm0 ?_
     first | refine hS _ _ _ ?_ | (refine whole_yes qLm0 ?_; refine hS _ _ _ ?_) | (refine whole_sub ?_; refine hS _ _ _ ?_)
     clear hS
     refine s_guard (b := false) rfl (by decide) rfl rfl (fun _ _ hS => ?_) (fun e => absurd e (by decide))
     repeat refine And.intro qLm0 ?_
     refine hS _ _ _ ?_
     clear hS
     refine s_guard (b := false) rfl (by decide) rfl rfl (fun _ _ hS => ?_) (fun e => absurd e (by decide))
     repeat refine And.intro qLm0 ?_
     refine hS _ _ _ ?_
     clear hS
     refine s_step rfl (by decide) rfl fun _ hS => ?_
     refine hS _ _ _ ?_
     clear hS
     refine s_nil ?_
     refine hK7 _ _ _ ?_
     refine hK6 _ _ _ ?_
     refine WP_cond (b := _) rfl (fun h_t38 => ?_) (fun h_t38 => ?_)
     ·try try simp only [decide_eq_true_eq, if_false, Bool.false_eq_true] at h_t38
      refine seq_k fun _ hK16 => ?_
      refine region_k m1_ok fun _ hK17 => ?_
      refine s_step rfl (by decide) rfl fun _ hS => ?_
      refine hS _ _ _ ?_
      clear hS
      refine s_nil ?_
      refine hK17 _ _ _ ?_
      refine hK16 _ _ _ ?_
      refine WP_ret (Done_flat m1_ok (fun _ _ h => h) (by first | rfl | assumption) [.tmp 2] rfl ?_)
      repeat refine And.intro (by first | omega | exact trivial | rfl | (simp <;> omega)) ?_
      try refine ite_yes (by first | omega | exact trivial | rfl | (simp <;> omega)) ?_
      show SV.c (.bool false) = _
      rw [validD, decide_eq_false (fun hh => by omega), Bool.false_and, Bool.false_and]
     ·try try simp only [decide_eq_false_iff_not, Int.not_lt, if_false, Bool.false_eq_true] at h_t38
      refine WP_skip ?_
      refine hK5 _ _ _ ?_
      refine seq_k fun _ hK18 => ?_
      refine region_k m1_ok fun _ hK19 => ?_
      refine s_step rfl (by decide) rfl fun _ hS => ?_
      repeat refine And.intro qLm0 ?_
      refine hS _ _ _ ?_
      clear hS
      refine s_nil ?_
      refine hK19 _ _ _ ?_
      refine hK18 _ _ _ ?_
      refine seq_k fun _ hK20 => ?_
      refine seq_k fun _ hK21 => ?_
      have hbase : 1 ≤ d.next.length ∧ d.next.length ≤ 64 ∧ d.acc.length = d.next.length ∧ 1 ≤ d.nc ∧ d.nc ≤ 256 := by omega
      refine region_k m1_ok fun _ hK22 => ?_
      refine s_step rfl (by decide) rfl fun _ hS => ?_
      repeat refine And.intro qLm0 ?_
      refine hS _ _ _ ?_
      clear hS
      refine s_step rfl (by decide) rfl fun _ hS => ?_
      repeat refine And.intro qLm0 ?_
      first | refine hS _ _ _ ?_ | (refine whole_yes qLm0 ?_; refine hS _ _ _ ?_) | (refine whole_sub ?_; refine hS _ _ _ ?_)
      clear hS
      refine s_step rfl (by decide) rfl fun _ hS => ?_
      repeat refine And.intro qLm0 ?_
      refine hS _ _ _ ?_
      clear hS
      refine s_step rfl (by decide) rfl fun _ hS => ?_
      refine hS _ _ _ ?_
      clear hS
      refine s_nil ?_
      refine hK22 _ _ _ ?_
      refine hK21 _ _ _ ?_
      refine WP_block ?_
      refine WP_loop (α := Nat) (fun k => [(1, .c (.ptr 0 0)), (3, .c (.int .i64 d.next.length)), (4, .c (.ptr 1 0)), (40, .c (.ds d.nc (.u64s d.cls))), (41, .c (.int .i64 d.nc)), (42, .c (.int .i64 k))]) (fun k => [(0, .own 40 (dfaC d) 3), (1, .own 52 (.u64s (seenL d.cls k)) 4)]) 2 (fun k => k ≤ d.nc ∧ (List.range k).all (clsGood d.cls) = true) (fun k => d.nc - k) ?_ ?_
      ·refine Done_some [] id 0 ⟨Nat.zero_le _, rfl⟩ ⟨?_, ?_, (by decide : List.Nodup ([0, 1] : List Nat)), ?_, ?_, ⟨Nat.zero_le _, fun i hi => absurd hi (Nat.not_lt_zero i)⟩⟩
       ·exact uLm0
       ·exact uLm0
       ·exact uLm0
       ·exact uLm0
      ·intro k hk
       refine seq_k fun _ hK23 => ?_
       refine region_k m1_ok fun _ hK24 => ?_
       refine s_step rfl (by decide) rfl fun _ hS => ?_
       repeat refine And.intro qLm0 ?_
       refine hS _ _ _ ?_
       clear hS
       refine s_nil ?_
       refine hK24 _ _ _ ?_
       refine hK23 _ _ _ ?_
       refine seq_k fun _ hK25 => ?_
       refine WP_cond (b := _) rfl (fun h_t43 => ?_) (fun h_t43 => ?_)
       ·try try simp only [decide_eq_true_eq] at h_t43
        refine WP_skip ?_
        refine hK25 _ _ _ ?_
        refine seq_k fun _ hK26 => ?_
        refine WP_block ?_
        refine seq_k fun _ hK27 => ?_
        have hkn : k < d.nc := by omega
        have hcl := clsAt_length hw1 hkn
        have hsub : (Cont.u64s d.cls).sub ((k : Int).toNat * 4) (4 * 1) = .u64s (clsAt d.cls k) := rfl
        refine region_k m1_ok fun _ hK28 => ?_
        refine s_step rfl (by decide) rfl fun _ hS => ?_
        repeat refine And.intro qLm1 ?_
        refine hS _ _ _ ?_
        clear hS
        refine s_step rfl (by decide) rfl fun _ hS => ?_
        refine And.intro (by decide) ?_
        refine And.intro (by simp only [len_u64s]; omega) ?_
        refine whole_sub ?_
        rw [hsub]
        refine hS _ _ _ ?_
        clear hS
        refine s_step rfl (by decide) rfl fun _ hS => ?_
        repeat refine And.intro qLm1 ?_
        refine hS _ _ _ ?_
        clear hS
        refine s_step0 rfl rfl fun _ hS => ?_
        repeat refine And.intro qLm1 ?_
        first | refine hS _ _ _ ?_ | (refine splice_full qLm1 ?_; refine hS _ _ _ ?_)
        clear hS
        refine s_nil ?_
        refine hK28 _ _ _ ?_
        refine hK27 _ _ _ ?_
        refine seq_k fun _ hK29 => ?_
        refine seq_k fun _ hK30 => ?_
        refine region_k m1_ok fun _ hK31 => ?_
        refine s_step rfl (by decide) rfl fun _ hS => ?_
        repeat refine And.intro qLm2 ?_
        first | refine hS _ _ _ ?_ | (refine whole_yes qLm2 ?_; refine hS _ _ _ ?_) | (refine whole_sub ?_; refine hS _ _ _ ?_)
        clear hS
        refine s_step rfl (by decide) rfl fun _ hS => ?_
        repeat refine And.intro qLm2 ?_
        refine hS _ _ _ ?_
        clear hS
        refine s_step rfl (by decide) rfl fun _ hS => ?_
        repeat refine And.intro qLm2 ?_
        refine hS _ _ _ ?_
        clear hS
        refine s_step rfl (by decide) rfl fun _ hS => ?_
        refine s_split hS (fun hb3 => ?_) (fun hb3 => ?_)
        ·clear hS
         try simp only [decide_eq_true_eq] at hb3
         refine s_guard (b := true) rfl (by decide) rfl rfl (fun e => absurd e (by decide)) (fun _ => ?_)
         refine s_guard (b := true) rfl (by decide) rfl rfl (fun e => absurd e (by decide)) (fun _ => ?_)
         refine s_guard (b := true) rfl (by decide) rfl rfl (fun e => absurd e (by decide)) (fun _ => ?_)
         refine s_guard (b := true) rfl (by decide) rfl rfl (fun e => absurd e (by decide)) (fun _ => ?_)
         refine s_guard (b := true) rfl (by decide) rfl rfl (fun e => absurd e (by decide)) (fun _ => ?_)
         refine s_step rfl (by decide) rfl fun _ hS => ?_
         refine hS _ _ _ ?_
         clear hS
         refine s_nil ?_
         refine hK31 _ _ _ ?_
         refine hK30 _ _ _ ?_
         refine WP_cond (b := _) rfl (fun _ => ?_) (fun h_t55 => ?_)
         rotate_left 1
         ·exfalso; simp at h_t55
         refine seq_k fun _ hK32 => ?_
         have hng : clsGood d.cls k = false := by
          first | (rw [clsGood, decide_eq_true (show clsAt d.cls k = Z4 from hb3)]; rfl) | (rw [clsGood, decide_eq_false (show ¬ andC (seenL d.cls k) (clsAt d.cls k) = Z4 from h_t55), Bool.and_false])
         refine region_k m1_ok fun _ hK33 => ?_
         refine s_step rfl (by decide) rfl fun _ hS => ?_
         refine hS _ _ _ ?_
         clear hS
         refine s_nil ?_
         refine hK33 _ _ _ ?_
         refine hK32 _ _ _ ?_
         refine WP_ret (Done_flat m1_ok (fun _ _ h => h) (by first | rfl | assumption) [.tmp 2] rfl ?_)
         repeat refine And.intro (by first | omega | exact trivial | rfl | (simp <;> omega)) ?_
         try refine ite_yes (by first | omega | exact trivial | rfl | (simp <;> omega)) ?_
         show SV.c (.bool false) = _
         rw [validD, clsP, all_range_no hkn hng, Bool.false_and, Bool.and_false, Bool.false_and]
        ·clear hS
         try simp only [decide_eq_false_iff_not] at hb3
         refine s_guard (b := false) rfl (by decide) rfl rfl (fun _ _ hS => ?_) (fun e => absurd e (by decide))
         repeat refine And.intro qLm2 ?_
         first | refine hS _ _ _ ?_ | (refine whole_yes qLm2 ?_; refine hS _ _ _ ?_) | (refine whole_sub ?_; refine hS _ _ _ ?_)
         clear hS
         refine s_guard (b := false) rfl (by decide) rfl rfl (fun _ _ hS => ?_) (fun e => absurd e (by decide))
         repeat refine And.intro qLm2 ?_
         first | refine hS _ _ _ ?_ | (refine whole_yes qLm2 ?_; refine hS _ _ _ ?_) | (refine whole_sub ?_; refine hS _ _ _ ?_)
         clear hS
         refine s_guard (b := false) rfl (by decide) rfl rfl (fun _ _ hS => ?_) (fun e => absurd e (by decide))
         repeat first | refine And.intro qLm2 ?_ | refine whole_yes qLm2 ?_ | refine whole_sub ?_
         refine ⟨seenL d.cls k, clsAt d.cls k, rfl, ⟨seenL_length _ _, hcl⟩, ?_⟩
         repeat refine And.intro qLm2 ?_
         first | refine hS _ _ _ ?_ | (intro cap6 hcap6; refine hS _ _ _ ?_)
         clear hS
         refine s_guard (b := false) rfl (by decide) rfl rfl (fun _ _ hS => ?_) (fun e => absurd e (by decide))
         repeat refine And.intro qLm2 ?_
         refine hS _ _ _ ?_
         clear hS
         refine s_guard (b := false) rfl (by decide) rfl rfl (fun _ _ hS => ?_) (fun e => absurd e (by decide))
         repeat refine And.intro qLm2 ?_
         refine hS _ _ _ ?_
         clear hS
         refine s_step rfl (by decide) rfl fun _ hS => ?_
         refine hS _ _ _ ?_
         clear hS
         refine s_nil ?_
         refine hK31 _ _ _ ?_
         refine hK30 _ _ _ ?_
         refine WP_cond (b := _) rfl (fun h_t55 => ?_) (fun h_t55 => ?_)
         ·try try simp only [decide_eq_false_iff_not, Bool.not_eq_eq_eq_not, Bool.not_true, if_false, Bool.false_eq_true] at h_t55
          refine seq_k fun _ hK34 => ?_
          have hng : clsGood d.cls k = false := by
           first | (rw [clsGood, decide_eq_true (show clsAt d.cls k = Z4 from hb3)]; rfl) | (rw [clsGood, decide_eq_false (show ¬ andC (seenL d.cls k) (clsAt d.cls k) = Z4 from h_t55), Bool.and_false])
          refine region_k m1_ok fun _ hK35 => ?_
          refine s_step rfl (by decide) rfl fun _ hS => ?_
          refine hS _ _ _ ?_
          clear hS
          refine s_nil ?_
          refine hK35 _ _ _ ?_
          refine hK34 _ _ _ ?_
          refine WP_ret (Done_flat m1_ok (fun _ _ h => h) (by first | rfl | assumption) [.tmp 2] rfl ?_)
          repeat refine And.intro (by first | omega | exact trivial | rfl | (simp <;> omega)) ?_
          try refine ite_yes (by first | omega | exact trivial | rfl | (simp <;> omega)) ?_
          show SV.c (.bool false) = _
          rw [validD, clsP, all_range_no hkn hng, Bool.false_and, Bool.and_false, Bool.false_and]
         ·try try simp only [decide_eq_true_eq, Bool.not_eq_eq_eq_not, Bool.not_false, if_false, Bool.false_eq_true] at h_t55
          refine WP_skip ?_
          refine hK29 _ _ _ ?_
          have hgood : clsGood d.cls k = true := by simp only [clsGood]; simp [hb3]; exact h_t55
          refine region_k m1_ok fun _ hK36 => ?_
          refine s_step rfl (by decide) rfl fun _ hS => ?_
          repeat refine And.intro qLm3 ?_
          first | refine hS _ _ _ ?_ | (refine whole_yes qLm3 ?_; refine hS _ _ _ ?_) | (refine whole_sub ?_; refine hS _ _ _ ?_)
          clear hS
          refine s_step rfl (by decide) rfl fun _ hS => ?_
          repeat refine And.intro qLm3 ?_
          first | refine hS _ _ _ ?_ | (refine whole_yes qLm3 ?_; refine hS _ _ _ ?_) | (refine whole_sub ?_; refine hS _ _ _ ?_)
          clear hS
          refine s_step rfl (by decide) rfl fun _ hS => ?_
          repeat first | refine And.intro qLm3 ?_ | refine whole_yes qLm3 ?_ | refine whole_sub ?_
          refine ⟨seenL d.cls k, clsAt d.cls k, rfl, ⟨seenL_length _ _, hcl⟩, ?_⟩
          repeat refine And.intro qLm3 ?_
          first | refine hS _ _ _ ?_ | (intro cap2 hcap2; refine hS _ _ _ ?_)
          clear hS
          refine s_step0 rfl rfl fun _ hS => ?_
          repeat refine And.intro qLm3 ?_
          first | refine hS _ _ _ ?_ | (refine splice_full qLm3 ?_; refine hS _ _ _ ?_)
          clear hS
          refine s_nil ?_
          refine hK36 _ _ _ ?_
          refine done_block ?_
          refine hK26 _ _ _ ?_
          refine region_k m1_ok fun _ hK37 => ?_
          refine s_step rfl (by decide) rfl fun _ hS => ?_
          repeat refine And.intro qLm0 ?_
          refine hS _ _ _ ?_
          clear hS
          refine s_step rfl (by decide) rfl fun _ hS => ?_
          refine hS _ _ _ ?_
          clear hS
          refine s_nil ?_
          refine hK37 _ _ _ ?_
          refine Done_some [] id (k + 1) ⟨⟨by omega, all_range_succ hk.2 hgood⟩, by omega⟩ ⟨?_, ?_, (by decide : List.Nodup ([0, 1] : List Nat)), ?_, ?_, ⟨Nat.zero_le _, fun i hi => absurd hi (Nat.not_lt_zero i)⟩⟩
          ·exact uLm0
          ·exact uLm0
          ·exact uLm0
          ·exact uLm0
       ·try try simp only [decide_eq_false_iff_not, Int.not_lt] at h_t43
        refine WP_exit ?_
        refine done_thenx ?_
        refine done_thenx ?_
        refine Done_hit ?_
        refine hK20 _ _ _ ?_
        refine seq_k fun _ hK38 => ?_
        refine seq_k fun _ hK39 => ?_
        obtain rfl : k = d.nc := by omega
        have hclsall := hk.2
        refine region_k m1_ok fun _ hK40 => ?_
        refine s_step rfl (by decide) rfl fun _ hS => ?_
        repeat refine And.intro qLm0 ?_
        first | refine hS _ _ _ ?_ | (refine whole_yes qLm0 ?_; refine hS _ _ _ ?_) | (refine whole_sub ?_; refine hS _ _ _ ?_)
        clear hS
        refine s_step rfl (by decide) rfl fun _ hS => ?_
        repeat first | refine And.intro qLm0 ?_ | refine whole_yes qLm0 ?_ | refine whole_sub ?_
        refine ⟨seenL d.cls d.nc, rfl, seenL_length _ _, ?_⟩
        repeat refine And.intro qLm0 ?_
        first | refine hS _ _ _ ?_ | (intro cap1 hcap1; refine hS _ _ _ ?_)
        clear hS
        refine s_step rfl (by decide) rfl fun _ hS => ?_
        repeat refine And.intro qLm0 ?_
        refine hS _ _ _ ?_
        clear hS
        refine s_step rfl (by decide) rfl fun _ hS => ?_
        repeat refine And.intro qLm0 ?_
        refine hS _ _ _ ?_
        clear hS
        refine s_nil ?_
        refine hK40 _ _ _ ?_
        refine hK39 _ _ _ ?_
        refine WP_cond (b := _) rfl (fun h_t63 => ?_) (fun h_t63 => ?_)
        ·try try simp only [decide_eq_false_iff_not, Bool.not_eq_eq_eq_not, Bool.not_true] at h_t63
         refine seq_k fun _ hK41 => ?_
         refine region_k m1_ok fun _ hK42 => ?_
         refine s_step rfl (by decide) rfl fun _ hS => ?_
         refine hS _ _ _ ?_
         clear hS
         refine s_nil ?_
         refine hK42 _ _ _ ?_
         refine hK41 _ _ _ ?_
         refine WP_ret (Done_flat m1_ok (fun _ _ h => h) (by first | rfl | assumption) [.tmp 2] rfl ?_)
         repeat refine And.intro (by first | omega | exact trivial | rfl | (simp <;> omega)) ?_
         try refine ite_yes (by first | omega | exact trivial | rfl | (simp <;> omega)) ?_
         show SV.c (.bool false) = _
         have h63 : ¬ notK (seenL d.cls d.nc) = Z4 := h_t63
         rw [validD, clsP, decide_eq_false h63, Bool.and_false, Bool.and_false, Bool.false_and]
        ·try try simp only [decide_eq_true_eq, Bool.not_eq_eq_eq_not, Bool.not_false] at h_t63
         refine WP_skip ?_
         refine hK38 _ _ _ ?_
         refine seq_k fun _ hK43 => ?_
         refine seq_k fun _ hK44 => ?_
         refine region_k m1_ok fun _ hK45 => ?_
         refine s_step rfl (by decide) rfl fun _ hS => ?_
         repeat refine And.intro qLm0 ?_
         refine hS _ _ _ ?_
         clear hS
         refine s_step rfl (by decide) rfl fun _ hS => ?_
         repeat refine And.intro qLm0 ?_
         first | refine hS _ _ _ ?_ | (refine whole_yes qLm0 ?_; refine hS _ _ _ ?_) | (refine whole_sub ?_; refine hS _ _ _ ?_)
         clear hS
         refine s_step rfl (by decide) rfl fun _ hS => ?_
         repeat refine And.intro qLm0 ?_
         refine hS _ _ _ ?_
         clear hS
         refine s_step rfl (by decide) rfl fun _ hS => ?_
         refine hS _ _ _ ?_
         clear hS
         refine s_nil ?_
         refine hK45 _ _ _ ?_
         refine hK44 _ _ _ ?_
         refine WP_block ?_
         refine WP_loop (α := Nat) (fun k => [(1, .c (.ptr 0 0)), (3, .c (.int .i64 d.next.length)), (4, .c (.ptr 1 0)), (65, .c (.ds d.next.length (.cells (rowsC d.next)))), (66, .c (.int .i64 d.next.length)), (67, .c (.int .i64 k))]) (fun k => [(0, .own 40 (dfaC d) 3), (1, .own 52 (.u64s (seenL d.cls d.nc)) 4)]) 2 (fun k => k ≤ d.next.length ∧ (d.next.take k).all (rowOK d.nc d.next.length) = true) (fun k => d.next.length - k) ?_ ?_
         ·refine Done_some [] id 0 ⟨Nat.zero_le _, rfl⟩ ⟨?_, ?_, (by decide : List.Nodup ([0, 1] : List Nat)), ?_, ?_, ⟨Nat.zero_le _, fun i hi => absurd hi (Nat.not_lt_zero i)⟩⟩
          ·exact uLm0
          ·exact uLm0
          ·exact uLm0
          ·exact uLm0
         ·intro k hk
          refine seq_k fun _ hK46 => ?_
          refine region_k m1_ok fun _ hK47 => ?_
          refine s_step rfl (by decide) rfl fun _ hS => ?_
          repeat refine And.intro qLm0 ?_
          refine hS _ _ _ ?_
          clear hS
          refine s_nil ?_
          refine hK47 _ _ _ ?_
          refine hK46 _ _ _ ?_
          refine seq_k fun _ hK48 => ?_
          refine WP_cond (b := _) rfl (fun h_t68 => ?_) (fun h_t68 => ?_)
          ·try try simp only [decide_eq_true_eq] at h_t68
           refine WP_skip ?_
           refine hK48 _ _ _ ?_
           refine seq_k fun _ hK49 => ?_
           refine WP_block ?_
           refine seq_k fun _ hK50 => ?_
           have hkn : k < d.next.length := by omega
           have hrl := hw5 _ (getD_mem (d := []) hkn)
           refine region_k m1_ok fun _ hK51 => ?_
           refine s_step rfl (by decide) rfl fun _ hS => ?_
           repeat refine And.intro qLm3 ?_
           refine hS _ _ _ ?_
           clear hS
           refine s_step rfl (by decide) rfl fun _ hS => ?_
           repeat refine And.intro qLm3 ?_
           rw [get_rows]
           rotate_left 1
           ·first | omega | (simp <;> omega)
           first | refine hS _ _ _ ?_ | (refine whole_yes qLm3 ?_; refine hS _ _ _ ?_) | (refine whole_sub ?_; refine hS _ _ _ ?_)
           clear hS
           refine s_step rfl (by decide) rfl fun _ hS => ?_
           refine hS _ _ _ ?_
           clear hS
           refine s_nil ?_
           refine hK51 _ _ _ ?_
           refine hK50 _ _ _ ?_
           refine seq_k fun _ hK52 => ?_
           refine seq_k fun _ hK53 => ?_
           refine region_k m1_ok fun _ hK54 => ?_
           refine s_step rfl (by decide) rfl fun _ hS => ?_
           refine hS _ _ _ ?_
           clear hS
           refine s_step rfl (by decide) rfl fun _ hS => ?_
           repeat refine And.intro qLm0 ?_
           refine hS _ _ _ ?_
           clear hS
           refine s_step rfl (by decide) rfl fun _ hS => ?_
           repeat refine And.intro qLm0 ?_
           refine hS _ _ _ ?_
           clear hS
           refine s_step rfl (by decide) rfl fun _ hS => ?_
           repeat refine And.intro qLm0 ?_
           first | refine hS _ _ _ ?_ | (refine whole_yes qLm0 ?_; refine hS _ _ _ ?_) | (refine whole_sub ?_; refine hS _ _ _ ?_)
           clear hS
           refine s_step rfl (by decide) rfl fun _ hS => ?_
           repeat refine And.intro qLm0 ?_
           refine hS _ _ _ ?_
           clear hS
           refine s_step rfl (by decide) rfl fun _ hS => ?_
           repeat refine And.intro qLm0 ?_
           refine hS _ _ _ ?_
           clear hS
           refine s_nil ?_
           refine hK54 _ _ _ ?_
           refine hK53 _ _ _ ?_
           refine WP_cond (b := _) rfl (fun h_t76 => ?_) (fun h_t76 => ?_)
           ·try simp only [decide_eq_false_iff_not, Bool.not_eq_eq_eq_not, Bool.not_true, Int.natCast_inj] at h_t76
            simp only [Int.toNat_natCast, Nat.mul_one] at h_t76
            refine seq_k fun _ hK55 => ?_
            refine region_k m1_ok fun _ hK56 => ?_
            refine s_step rfl (by decide) rfl fun _ hS => ?_
            refine hS _ _ _ ?_
            clear hS
            refine s_nil ?_
            refine hK56 _ _ _ ?_
            refine hK55 _ _ _ ?_
            refine WP_ret (Done_flat m1_ok (fun _ _ h => h) (by first | rfl | assumption) [.tmp 2] rfl ?_)
            repeat refine And.intro (by first | omega | exact trivial | rfl | (simp <;> omega)) ?_
            try refine ite_yes (by first | omega | exact trivial | rfl | (simp <;> omega)) ?_
            show SV.c (.bool false) = _
            rw [validD, all_no (d := []) hkn (by rw [rowOK, decide_eq_false (fun e => h_t76 (by simpa using e)), Bool.false_and]), Bool.and_false]
           ·try simp only [decide_eq_true_eq, Bool.not_eq_eq_eq_not, Bool.not_false, Int.natCast_inj] at h_t76
            simp only [Int.toNat_natCast, Nat.mul_one] at h_t76
            refine WP_skip ?_
            refine hK52 _ _ _ ?_
            refine seq_k fun _ hK57 => ?_
            refine region_k m1_ok fun _ hK58 => ?_
            refine s_step rfl (by decide) rfl fun _ hS => ?_
            refine hS _ _ _ ?_
            clear hS
            refine s_step rfl (by decide) rfl fun _ hS => ?_
            repeat refine And.intro qLm0 ?_
            refine hS _ _ _ ?_
            clear hS
            refine s_step rfl (by decide) rfl fun _ hS => ?_
            refine hS _ _ _ ?_
            clear hS
            refine s_nil ?_
            refine hK58 _ _ _ ?_
            refine hK57 _ _ _ ?_
            refine WP_block ?_
            refine WP_loop (α := Nat) (fun j => [(1, .c (.ptr 0 0)), (3, .c (.int .i64 d.next.length)), (4, .c (.ptr 1 0)), (65, .c (.ds d.next.length (.cells (rowsC d.next)))), (66, .c (.int .i64 d.next.length)), (67, .c (.int .i64 k)), (8, .c (.ds (d.next.getD k []).length (.ints .i64 (d.next.getD k [])))), (77, .c (.ds (d.next.getD k []).length (.ints .i64 (d.next.getD k [])))), (78, .c (.int .i64 (d.next.getD k []).length)), (79, .c (.int .i64 j))]) (fun j => [(0, .own 40 (dfaC d) 3), (1, .own 52 (.u64s (seenL d.cls d.nc)) 4)]) 2 (fun j => j ≤ (d.next.getD k []).length ∧ ((d.next.getD k []).take j).all (tgtOK d.next.length) = true) (fun j => (d.next.getD k []).length - j) ?_ ?_
            ·refine Done_some [] id 0 ⟨Nat.zero_le _, rfl⟩ ⟨?_, ?_, (by decide : List.Nodup ([0, 1] : List Nat)), ?_, ?_, ⟨Nat.zero_le _, fun i hi => absurd hi (Nat.not_lt_zero i)⟩⟩
             ·exact uLm0
             ·exact uLm0
             ·exact uLm0
             ·exact uLm0
            ·intro j hj
             refine seq_k fun _ hK59 => ?_
             refine region_k m1_ok fun _ hK60 => ?_
             refine s_step rfl (by decide) rfl fun _ hS => ?_
             repeat refine And.intro qLm0 ?_
             refine hS _ _ _ ?_
             clear hS
             refine s_nil ?_
             refine hK60 _ _ _ ?_
             refine hK59 _ _ _ ?_
             refine seq_k fun _ hK61 => ?_
             refine WP_cond (b := _) rfl (fun h_t80 => ?_) (fun h_t80 => ?_)
             ·try try simp only [decide_eq_true_eq] at h_t80
              refine WP_skip ?_
              refine hK61 _ _ _ ?_
              refine seq_k fun _ hK62 => ?_
              refine WP_block ?_
              refine seq_k fun _ hK63 => ?_
              have hjn : j < (d.next.getD k []).length := by omega
              refine region_k m1_ok fun _ hK64 => ?_
              refine s_step rfl (by decide) rfl fun _ hS => ?_
              repeat refine And.intro qLm0 ?_
              refine hS _ _ _ ?_
              clear hS
              refine s_step rfl (by decide) rfl fun _ hS => ?_
              repeat refine And.intro qLm0 ?_
              first | refine hS _ _ _ ?_ | (refine whole_yes qLm0 ?_; refine hS _ _ _ ?_) | (refine whole_sub ?_; refine hS _ _ _ ?_)
              clear hS
              refine s_step rfl (by decide) rfl fun _ hS => ?_
              refine hS _ _ _ ?_
              clear hS
              refine s_nil ?_
              refine hK64 _ _ _ ?_
              refine hK63 _ _ _ ?_
              refine seq_k fun _ hK65 => ?_
              refine region_k m1_ok fun _ hK66 => ?_
              refine s_step rfl (by decide) rfl fun _ hS => ?_
              refine hS _ _ _ ?_
              clear hS
              refine s_step rfl (by decide) rfl fun _ hS => ?_
              repeat refine And.intro qLm0 ?_
              refine hS _ _ _ ?_
              clear hS
              refine s_step rfl (by decide) rfl fun _ hS => ?_
              refine s_split hS (fun hb2 => ?_) (fun hb2 => ?_)
              ·clear hS
               try simp only [decide_eq_true_eq] at hb2
               refine s_guard (b := true) rfl (by decide) rfl rfl (fun e => absurd e (by decide)) (fun _ => ?_)
               refine s_guard (b := true) rfl (by decide) rfl rfl (fun e => absurd e (by decide)) (fun _ => ?_)
               refine s_guard (b := true) rfl (by decide) rfl rfl (fun e => absurd e (by decide)) (fun _ => ?_)
               refine s_step rfl (by decide) rfl fun _ hS => ?_
               refine hS _ _ _ ?_
               clear hS
               refine s_nil ?_
               refine hK66 _ _ _ ?_
               refine hK65 _ _ _ ?_
               refine WP_cond (b := _) rfl (fun _ => ?_) (fun h_t89 => ?_)
               rotate_left 1
               ·exfalso; simp at h_t89
               refine seq_k fun _ hK67 => ?_
               have htb : tgtOK d.next.length ((d.next.getD k []).getD j 0) = false := by
                simp only [tgtOK, Bool.and_eq_false_iff, decide_eq_false_iff_not]
                first | (simp only [Int.toNat_natCast, Nat.mul_one] at hb2 h_t89; omega) | (simp only [Int.toNat_natCast, Nat.mul_one] at hb2; omega)
               refine region_k m1_ok fun _ hK68 => ?_
               refine s_step rfl (by decide) rfl fun _ hS => ?_
               refine hS _ _ _ ?_
               clear hS
               refine s_nil ?_
               refine hK68 _ _ _ ?_
               refine hK67 _ _ _ ?_
               refine WP_ret (Done_flat m1_ok (fun _ _ h => h) (by first | rfl | assumption) [.tmp 2] rfl ?_)
               repeat refine And.intro (by first | omega | exact trivial | rfl | (simp <;> omega)) ?_
               try refine ite_yes (by first | omega | exact trivial | rfl | (simp <;> omega)) ?_
               show SV.c (.bool false) = _
               rw [validD, all_no (d := []) hkn (by rw [rowOK, all_no (d := 0) hjn htb, Bool.and_false]), Bool.and_false]
              ·clear hS
               try simp only [decide_eq_false_iff_not, Int.not_lt] at hb2
               refine s_guard (b := false) rfl (by decide) rfl rfl (fun _ _ hS => ?_) (fun e => absurd e (by decide))
               refine hS _ _ _ ?_
               clear hS
               refine s_guard (b := false) rfl (by decide) rfl rfl (fun _ _ hS => ?_) (fun e => absurd e (by decide))
               refine hS _ _ _ ?_
               clear hS
               refine s_guard (b := false) rfl (by decide) rfl rfl (fun _ _ hS => ?_) (fun e => absurd e (by decide))
               repeat refine And.intro qLm0 ?_
               refine hS _ _ _ ?_
               clear hS
               refine s_step rfl (by decide) rfl fun _ hS => ?_
               refine hS _ _ _ ?_
               clear hS
               refine s_nil ?_
               refine hK66 _ _ _ ?_
               refine hK65 _ _ _ ?_
               refine WP_cond (b := _) rfl (fun h_t89 => ?_) (fun h_t89 => ?_)
               ·try try simp only [decide_eq_true_eq, if_false, Bool.false_eq_true] at h_t89
                refine seq_k fun _ hK69 => ?_
                have htb : tgtOK d.next.length ((d.next.getD k []).getD j 0) = false := by
                 simp only [tgtOK, Bool.and_eq_false_iff, decide_eq_false_iff_not]
                 first | (simp only [Int.toNat_natCast, Nat.mul_one] at hb2 h_t89; omega) | (simp only [Int.toNat_natCast, Nat.mul_one] at hb2; omega)
                refine region_k m1_ok fun _ hK70 => ?_
                refine s_step rfl (by decide) rfl fun _ hS => ?_
                refine hS _ _ _ ?_
                clear hS
                refine s_nil ?_
                refine hK70 _ _ _ ?_
                refine hK69 _ _ _ ?_
                refine WP_ret (Done_flat m1_ok (fun _ _ h => h) (by first | rfl | assumption) [.tmp 2] rfl ?_)
                repeat refine And.intro (by first | omega | exact trivial | rfl | (simp <;> omega)) ?_
                try refine ite_yes (by first | omega | exact trivial | rfl | (simp <;> omega)) ?_
                show SV.c (.bool false) = _
                rw [validD, all_no (d := []) hkn (by rw [rowOK, all_no (d := 0) hjn htb, Bool.and_false]), Bool.and_false]
               ·try try simp only [decide_eq_false_iff_not, Int.not_le, if_false, Bool.false_eq_true] at h_t89
                refine WP_skip ?_
                refine done_block ?_
                refine hK62 _ _ _ ?_
                have htg : tgtOK d.next.length ((d.next.getD k []).getD j 0) = true := by simp only [tgtOK, Bool.and_eq_true, decide_eq_true_eq]; simp only [Int.toNat_natCast, Nat.mul_one] at hb2 h_t89; exact ⟨by omega, by omega⟩
                refine region_k m1_ok fun _ hK71 => ?_
                refine s_step rfl (by decide) rfl fun _ hS => ?_
                repeat refine And.intro qLm0 ?_
                refine hS _ _ _ ?_
                clear hS
                refine s_step rfl (by decide) rfl fun _ hS => ?_
                refine hS _ _ _ ?_
                clear hS
                refine s_nil ?_
                refine hK71 _ _ _ ?_
                refine Done_some [] id (j + 1) ⟨⟨by omega, all_take_succ (d := 0) hjn hj.2 htg⟩, by omega⟩ ⟨?_, ?_, (by decide : List.Nodup ([0, 1] : List Nat)), ?_, ?_, ⟨Nat.zero_le _, fun i hi => absurd hi (Nat.not_lt_zero i)⟩⟩
                ·exact uLm0
                ·exact uLm0
                ·exact uLm0
                ·exact uLm0
             ·try try simp only [decide_eq_false_iff_not, Int.not_lt] at h_t80
              refine WP_exit ?_
              refine done_thenx ?_
              refine done_thenx ?_
              refine Done_hit ?_
              refine done_block ?_
              refine hK49 _ _ _ ?_
              have hrow : rowOK d.nc d.next.length (d.next.getD k []) = true := by
               have h1 := hj.2
               rw [List.take_of_length_le (by omega)] at h1
               rw [rowOK, h1, decide_eq_true (by omega)]; rfl
              refine region_k m1_ok fun _ hK72 => ?_
              refine s_step rfl (by decide) rfl fun _ hS => ?_
              repeat refine And.intro qLm0 ?_
              refine hS _ _ _ ?_
              clear hS
              refine s_step rfl (by decide) rfl fun _ hS => ?_
              refine hS _ _ _ ?_
              clear hS
              refine s_nil ?_
              refine hK72 _ _ _ ?_
              refine Done_some [] id (k + 1) ⟨⟨by omega, all_take_succ (d := []) hkn hk.2 hrow⟩, by omega⟩ ⟨?_, ?_, (by decide : List.Nodup ([0, 1] : List Nat)), ?_, ?_, ⟨Nat.zero_le _, fun i hi => absurd hi (Nat.not_lt_zero i)⟩⟩
              ·exact uLm0
              ·exact uLm0
              ·exact uLm0
              ·exact uLm0
          ·try try simp only [decide_eq_false_iff_not, Int.not_lt] at h_t68
           refine WP_exit ?_
           refine done_thenx ?_
           refine done_thenx ?_
           refine Done_hit ?_
           refine hK43 _ _ _ ?_
           refine seq_k fun _ hK73 => ?_
           refine region_k m1_ok fun _ hK74 => ?_
           refine s_step rfl (by decide) rfl fun _ hS => ?_
           refine hS _ _ _ ?_
           clear hS
           refine s_nil ?_
           refine hK74 _ _ _ ?_
           refine hK73 _ _ _ ?_
           refine WP_ret (Done_flat m1_ok (fun _ _ h => h) (by first | rfl | assumption) [.tmp 2] rfl ?_)
           repeat refine And.intro (by first | omega | exact trivial | rfl | (simp <;> omega)) ?_
           try refine ite_yes (by first | omega | exact trivial | rfl | (simp <;> omega)) ?_
           show SV.c (.bool true) = _
           have h63 : notK (seenL d.cls d.nc) = Z4 := h_t63
           rw [validD, decide_eq_true hbase, clsP, hclsall, decide_eq_true h63]
           obtain rfl : k = d.next.length := by omega
           have := hk.2
           rw [List.take_length] at this
           rw [this]
           rfl


end Go.Proofs.YtpfncffapgkjaaaDoor
