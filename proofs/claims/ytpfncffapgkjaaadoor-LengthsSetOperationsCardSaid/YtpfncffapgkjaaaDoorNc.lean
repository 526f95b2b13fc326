/- The law: intersections and unions. -/
import Derived.Test.YtpfncffapgkjaaaDoorProg
import Derived.Test.YtpfncffapgkjaaaDoorAb13
import Derived.Test.YtpfncffapgkjaaaDoorAb14
import Derived.Test.YtpfncffapgkjaaaDoorAb21
import Derived.Test.YtpfncffapgkjaaaDoorAb22
import Derived.Test.YtpfncffapgkjaaaDoorCtx
import Derived.Test.YtpfncffapgkjaaaDoorLa
import Derived.Test.YtpfncffapgkjaaaDoorLb
import Derived.Test.YtpfncffapgkjaaaDoorLd
import Derived.Test.YtpfncffapgkjaaaDoorLe
import Derived.Test.YtpfncffapgkjaaaDoorLh
import Derived.Test.YtpfncffapgkjaaaDoorLi
import Derived.Test.YtpfncffapgkjaaaDoorLk
import Derived.Test.YtpfncffapgkjaaaDoorLw
import Derived.Test.YtpfncffapgkjaaaDoorMa
import Derived.Test.YtpfncffapgkjaaaDoorNa
import Derived.Test.YtpfncffapgkjaaaDoorNb
import Derived.Test.YtpfncffapgkjaaaDoorMc
namespace Go.Proofs.YtpfncffapgkjaaaDoor
set_option linter.unusedVariables false
open Go.Ab Go.RowKit

theorem qNc0 {a : Prop} (h : a := by first | omega | exact trivial | rfl | (simp only [len_u8s, len_u32s, len_u64s, len_ints, len_bools, len_cells]; omega) | exact inR_i64.mpr ⟨by omega, by omega⟩ | (simp <;> omega) | (refine And.intro ?_ ?_ <;> exact trivial) | exact ⟨trivial, trivial, trivial⟩ | decide | (refine And.intro rfl ?_; (repeat first | exact trivial | refine And.intro rfl ?_); done) | exact Nat.succ_pos _ | exact Nat.le_refl _ | (refine And.intro trivial ?_; (repeat first | exact trivial | refine And.intro trivial ?_); done)) : a := h
theorem uNc0 {a : Prop} (h : a := by
    repeat' (first | exact trivial | refine And.intro ?_ ?_ | rfl | omega | decide | (show (_ : Nat) < _; decide) | exact low_nil' | refine low_cons' ?_ ?_ | exact Nat.le_refl _ | exact Nat.succ_pos _)
    all_goals first | omega | exact low_lsC | (simp; done) | (simp <;> omega) | skip) : a := h

theorem pand_comm : ∀ x y : Bool, (x && y) = (y && x) := by decide
theorem por_comm : ∀ x y : Bool, (x || y) = (y || x) := by decide
theorem mul_le2 {a b x y : Nat} (h1 : a ≤ x) (h2 : b ≤ y) : a * b ≤ x * y := Nat.mul_le_mul h1 h2
theorem and_val (p a b : Bool) : (p && (a && b)) = ((p && a) && (p && b)) := by cases p <;> simp
theorem or_val (p a b : Bool) : (p && (a || b)) = ((p && a) || (p && b)) := by cases p <;> simp
noncomputable def x3 : Ctx := { P := Tryd.prog, ty := ty, glob := gl, fs := [(12, .flat sanityS), (13, .data madeS), (23, .data andPS), (25, .data orPS), (16, .flat sameS), (19, .flat hasS), (20, .flat hasRS)] }
theorem x3_ok : x3.OK := ⟨tyOK, ⟨⟨enters_mk Tryd.func12 (by kernel_rfl) rfl, sanity_ok⟩, ⟨enters_mk Tryd.func13 (by kernel_rfl) rfl, made_ok⟩, ⟨enters_mk Tryd.func23 (by kernel_rfl) rfl, andP_ok⟩, ⟨enters_mk Tryd.func25 (by kernel_rfl) rfl, orP_ok⟩, ⟨enters_mk Tryd.func16 (by kernel_rfl) rfl, same_ok⟩, ⟨enters_mk Tryd.func19 (by kernel_rfl) rfl, has_ok⟩, ⟨enters_mk Tryd.func20 (by kernel_rfl) rfl, hasR_ok⟩, trivial⟩, mixed⟩
@[simp] theorem x3_ty : x3.ty = ty := rfl

def lawSetsS : QSpec := fun vs K => ∃ a b c d : List Bool, ∃ n : Int, vs = [lsV a b, lsV c d, .c (.int .i64 n)] ∧ (a.length ≤ 9223372036854775807 ∧ b.length ≤ 9223372036854775807 ∧ c.length ≤ 9223372036854775807 ∧ d.length ≤ 9223372036854775807 ∧ -9223372036854775808 ≤ n ∧ n ≤ 9223372036854775807) ∧ K (.c (.bool true))
set_option maxHeartbeats 2000000 in
theorem lawSets_ok : FlatOK Tryd.prog gl 6 lawSetsS := by
 refine flat_of (Γ := x3) (N := 133) Tryd.func6 rfl rfl fun vs K h => ?_
 obtain ⟨a, b, c, d, n, rfl, ⟨hl1, hl2, hl3, hl4, hn1, hn2⟩, h⟩ := h
 refine ⟨_, h, rfl, by simp, fun w I => ?_⟩
 refine seq_k fun _ hK1 => ?_
 refine region_k x3_ok fun _ hK2 => ?_
 refine s_step rfl (by decide) rfl fun _ hS => ?_
 repeat refine And.intro qNc0 ?_
 refine hS _ _ _ ?_
 clear hS
 refine s_step rfl (by decide) rfl fun _ hS => ?_
 repeat refine And.intro qNc0 ?_
 refine hS _ _ _ ?_
 clear hS
 refine s_step rfl (by decide) rfl fun _ hS => ?_
 refine hS _ _ _ ?_
 clear hS
 refine s_nil ?_
 refine hK2 _ _ _ ?_
 refine hK1 _ _ _ ?_
 refine seq_k fun _ hK3 => ?_
 refine region_k x3_ok fun _ hK4 => ?_
 refine s_step rfl (by decide) rfl fun _ hS => ?_
 repeat first | refine And.intro qNc0 ?_ | refine whole_yes qNc0 ?_ | refine whole_sub ?_
 skip
 repeat refine And.intro qNc0 ?_
 first | refine hS _ _ _ ?_ | (intro cap0 hcap0; refine hS _ _ _ ?_)
 clear hS
 refine s_step rfl (by decide) rfl fun _ hS => ?_
 refine hS _ _ _ ?_
 clear hS
 refine s_nil ?_
 refine hK4 _ _ _ ?_
 refine hK3 _ _ _ ?_
 refine seq_k fun _ hK5 => ?_
 refine region_k x3_ok fun _ hK6 => ?_
 refine s_step rfl (by decide) rfl fun _ hS => ?_
 repeat refine And.intro qNc0 ?_
 first | refine hS _ _ _ ?_ | (refine whole_yes qNc0 ?_; refine hS _ _ _ ?_) | (refine whole_sub ?_; refine hS _ _ _ ?_)
 clear hS
 refine s_step rfl (by decide) rfl fun _ hS => ?_
 repeat first | refine And.intro qNc0 ?_ | refine whole_yes qNc0 ?_ | refine whole_sub ?_
 refine ⟨a, b, 12, 20, rfl, ⟨by omega, by omega, by omega, by omega⟩, ?_⟩
 have hX := made_len a b 12 20
 generalize madeL a b 12 20 = X at hX ⊢
 repeat refine And.intro qNc0 ?_
 first | refine hS _ _ _ ?_ | (intro cap1 hcap1; refine hS _ _ _ ?_)
 clear hS
 refine s_step rfl (by decide) rfl fun _ hS => ?_
 repeat refine And.intro qNc0 ?_
 refine hS _ _ _ ?_
 clear hS
 refine s_step0 rfl rfl fun _ hS => ?_
 repeat refine And.intro qNc0 ?_
 first | refine hS _ _ _ ?_ | (refine splice_full qNc0 ?_; refine hS _ _ _ ?_)
 clear hS
 refine s_nil ?_
 refine hK6 _ _ _ ?_
 refine hK5 _ _ _ ?_
 refine seq_k fun _ hK7 => ?_
 refine region_k x3_ok fun _ hK8 => ?_
 refine s_step rfl (by decide) rfl fun _ hS => ?_
 repeat refine And.intro qNc0 ?_
 first | refine hS _ _ _ ?_ | (refine whole_yes qNc0 ?_; refine hS _ _ _ ?_) | (refine whole_sub ?_; refine hS _ _ _ ?_)
 clear hS
 refine s_step rfl (by decide) rfl fun _ hS => ?_
 repeat first | refine And.intro qNc0 ?_ | refine whole_yes qNc0 ?_ | refine whole_sub ?_
 refine ⟨c, d, 12, 20, rfl, ⟨by omega, by omega, by omega, by omega⟩, ?_⟩
 have hY := made_len c d 12 20
 generalize madeL c d 12 20 = Y at hY ⊢
 repeat refine And.intro qNc0 ?_
 first | refine hS _ _ _ ?_ | (intro cap1 hcap1; refine hS _ _ _ ?_)
 clear hS
 refine s_step rfl (by decide) rfl fun _ hS => ?_
 repeat refine And.intro qNc0 ?_
 refine hS _ _ _ ?_
 clear hS
 refine s_step0 rfl rfl fun _ hS => ?_
 repeat refine And.intro qNc0 ?_
 first | refine hS _ _ _ ?_ | (refine splice_full qNc0 ?_; refine hS _ _ _ ?_)
 clear hS
 refine s_nil ?_
 refine hK8 _ _ _ ?_
 refine hK7 _ _ _ ?_
 refine seq_k fun _ hK9 => ?_
 have vX : 0 < X.2.length ∧ X.1.length + X.2.length ≤ 512 := ⟨by omega, by omega⟩
 have vY : 0 < Y.2.length ∧ Y.1.length + Y.2.length ≤ 512 := ⟨by omega, by omega⟩
 have hP : max X.1.length Y.1.length + X.2.length * Y.2.length ≤ 512 := by
  have := mul_le2 (show X.2.length ≤ 20 by omega) (show Y.2.length ≤ 20 by omega)
  omega
 refine region_k x3_ok fun _ hK10 => ?_
 refine s_step rfl (by decide) rfl fun _ hS => ?_
 repeat refine And.intro qNc0 ?_
 first | refine hS _ _ _ ?_ | (refine whole_yes qNc0 ?_; refine hS _ _ _ ?_) | (refine whole_sub ?_; refine hS _ _ _ ?_)
 clear hS
 refine s_step rfl (by decide) rfl fun _ hS => ?_
 repeat refine And.intro qNc0 ?_
 first | refine hS _ _ _ ?_ | (refine whole_yes qNc0 ?_; refine hS _ _ _ ?_) | (refine whole_sub ?_; refine hS _ _ _ ?_)
 clear hS
 refine s_step rfl (by decide) rfl fun _ hS => ?_
 repeat first | refine And.intro qNc0 ?_ | refine whole_yes qNc0 ?_ | refine whole_sub ?_
 refine ⟨X.1, X.2, Y.1, Y.2, rfl, ⟨by omega, by omega, by omega, by omega⟩, ?_⟩
 obtain ⟨⟨⟨p1, p2⟩, pe⟩, hp⟩ : ∃ x, x = mergeL (fun x y => x && y) X.1 X.2 Y.1 Y.2 := ⟨_, rfl⟩
 rw [← hp]
 have cp : IsCan ((p1, p2), pe) (fun n => atL X.1 X.2 n && atL Y.1 Y.2 n) := by rw [hp]; exact merge_can (op := (fun x y => x && y)) vX vY rfl rfl (Nat.mul_pos vX.1 vY.1) (op_per vX.1 vY.1 (mul_mod2 _ _).1 (mul_mod2 _ _).2) hP
 obtain rfl : pe = 0 := cp.err
 have vp : 0 < p2.length ∧ p1.length + p2.length ≤ 512 := cp.valid
 have mp : atL p1 p2 = fun n => atL X.1 X.2 n && atL Y.1 Y.2 n := cp.mem
 repeat refine And.intro qNc0 ?_
 first | refine hS _ _ _ ?_ | (intro cap2 hcap2; refine hS _ _ _ ?_)
 clear hS
 refine s_step rfl (by decide) rfl fun _ hS => ?_
 refine hS _ _ _ ?_
 clear hS
 refine s_step rfl (by decide) rfl fun _ hS => ?_
 repeat refine And.intro qNc0 ?_
 refine hS _ _ _ ?_
 clear hS
 refine s_step rfl (by decide) rfl fun _ hS => ?_
 repeat refine And.intro qNc0 ?_
 refine hS _ _ _ ?_
 clear hS
 refine s_step rfl (by decide) rfl fun _ hS => ?_
 repeat refine And.intro qNc0 ?_
 refine hS _ _ _ ?_
 clear hS
 refine s_step0 rfl rfl fun _ hS => ?_
 repeat refine And.intro qNc0 ?_
 first | refine hS _ _ _ ?_ | (refine splice_full qNc0 ?_; refine hS _ _ _ ?_)
 clear hS
 refine s_step rfl (by decide) rfl fun _ hS => ?_
 refine hS _ _ _ ?_
 clear hS
 refine s_nil ?_
 refine hK10 _ _ _ ?_
 refine hK9 _ _ _ ?_
 refine seq_k fun _ hK11 => ?_
 refine region_k x3_ok fun _ hK12 => ?_
 refine s_step rfl (by decide) rfl fun _ hS => ?_
 repeat refine And.intro qNc0 ?_
 first | refine hS _ _ _ ?_ | (refine whole_yes qNc0 ?_; refine hS _ _ _ ?_) | (refine whole_sub ?_; refine hS _ _ _ ?_)
 clear hS
 refine s_step rfl (by decide) rfl fun _ hS => ?_
 repeat refine And.intro qNc0 ?_
 first | refine hS _ _ _ ?_ | (refine whole_yes qNc0 ?_; refine hS _ _ _ ?_) | (refine whole_sub ?_; refine hS _ _ _ ?_)
 clear hS
 refine s_step rfl (by decide) rfl fun _ hS => ?_
 repeat first | refine And.intro qNc0 ?_ | refine whole_yes qNc0 ?_ | refine whole_sub ?_
 refine ⟨X.1, X.2, Y.1, Y.2, rfl, ⟨by omega, by omega, by omega, by omega⟩, ?_⟩
 obtain ⟨⟨⟨q1, q2⟩, qe⟩, hq⟩ : ∃ x, x = mergeL (fun x y => x || y) X.1 X.2 Y.1 Y.2 := ⟨_, rfl⟩
 rw [← hq]
 have cq : IsCan ((q1, q2), qe) (fun n => atL X.1 X.2 n || atL Y.1 Y.2 n) := by rw [hq]; exact merge_can (op := (fun x y => x || y)) vX vY rfl rfl (Nat.mul_pos vX.1 vY.1) (op_per vX.1 vY.1 (mul_mod2 _ _).1 (mul_mod2 _ _).2) hP
 obtain rfl : qe = 0 := cq.err
 have vq : 0 < q2.length ∧ q1.length + q2.length ≤ 512 := cq.valid
 have mq : atL q1 q2 = fun n => atL X.1 X.2 n || atL Y.1 Y.2 n := cq.mem
 repeat refine And.intro qNc0 ?_
 first | refine hS _ _ _ ?_ | (intro cap2 hcap2; refine hS _ _ _ ?_)
 clear hS
 refine s_step rfl (by decide) rfl fun _ hS => ?_
 refine hS _ _ _ ?_
 clear hS
 refine s_step rfl (by decide) rfl fun _ hS => ?_
 repeat refine And.intro qNc0 ?_
 refine hS _ _ _ ?_
 clear hS
 refine s_step rfl (by decide) rfl fun _ hS => ?_
 repeat refine And.intro qNc0 ?_
 refine hS _ _ _ ?_
 clear hS
 refine s_step rfl (by decide) rfl fun _ hS => ?_
 repeat refine And.intro qNc0 ?_
 refine hS _ _ _ ?_
 clear hS
 refine s_step0 rfl rfl fun _ hS => ?_
 repeat refine And.intro qNc0 ?_
 first | refine hS _ _ _ ?_ | (refine splice_full qNc0 ?_; refine hS _ _ _ ?_)
 clear hS
 refine s_step rfl (by decide) rfl fun _ hS => ?_
 refine hS _ _ _ ?_
 clear hS
 refine s_nil ?_
 refine hK12 _ _ _ ?_
 refine hK11 _ _ _ ?_
 refine seq_k fun _ hK13 => ?_
 refine region_k x3_ok fun _ hK14 => ?_
 refine s_step rfl (by decide) rfl fun _ hS => ?_
 repeat refine And.intro qNc0 ?_
 first | refine hS _ _ _ ?_ | (refine whole_yes qNc0 ?_; refine hS _ _ _ ?_) | (refine whole_sub ?_; refine hS _ _ _ ?_)
 clear hS
 refine s_step rfl (by decide) rfl fun _ hS => ?_
 repeat refine And.intro qNc0 ?_
 first | refine hS _ _ _ ?_ | (refine whole_yes qNc0 ?_; refine hS _ _ _ ?_) | (refine whole_sub ?_; refine hS _ _ _ ?_)
 clear hS
 refine s_step rfl (by decide) rfl fun _ hS => ?_
 repeat first | refine And.intro qNc0 ?_ | refine whole_yes qNc0 ?_ | refine whole_sub ?_
 refine ⟨Y.1, Y.2, X.1, X.2, rfl, ⟨by omega, by omega, by omega, by omega⟩, ?_⟩
 rw [merge_comm (op := (fun x y => x && y)) pand_comm, ← hp]
 repeat refine And.intro qNc0 ?_
 first | refine hS _ _ _ ?_ | (intro cap2 hcap2; refine hS _ _ _ ?_)
 clear hS
 refine s_step rfl (by decide) rfl fun _ hS => ?_
 refine hS _ _ _ ?_
 clear hS
 refine s_step rfl (by decide) rfl fun _ hS => ?_
 repeat refine And.intro qNc0 ?_
 refine hS _ _ _ ?_
 clear hS
 refine s_step rfl (by decide) rfl fun _ hS => ?_
 repeat refine And.intro qNc0 ?_
 refine hS _ _ _ ?_
 clear hS
 refine s_step rfl (by decide) rfl fun _ hS => ?_
 repeat refine And.intro qNc0 ?_
 refine hS _ _ _ ?_
 clear hS
 refine s_step0 rfl rfl fun _ hS => ?_
 repeat refine And.intro qNc0 ?_
 first | refine hS _ _ _ ?_ | (refine splice_full qNc0 ?_; refine hS _ _ _ ?_)
 clear hS
 refine s_step rfl (by decide) rfl fun _ hS => ?_
 refine hS _ _ _ ?_
 clear hS
 refine s_nil ?_
 refine hK14 _ _ _ ?_
 refine hK13 _ _ _ ?_
 refine seq_k fun _ hK15 => ?_
 refine region_k x3_ok fun _ hK16 => ?_
 refine s_step rfl (by decide) rfl fun _ hS => ?_
 repeat refine And.intro qNc0 ?_
 first | refine hS _ _ _ ?_ | (refine whole_yes qNc0 ?_; refine hS _ _ _ ?_) | (refine whole_sub ?_; refine hS _ _ _ ?_)
 clear hS
 refine s_step rfl (by decide) rfl fun _ hS => ?_
 repeat refine And.intro qNc0 ?_
 first | refine hS _ _ _ ?_ | (refine whole_yes qNc0 ?_; refine hS _ _ _ ?_) | (refine whole_sub ?_; refine hS _ _ _ ?_)
 clear hS
 refine s_step rfl (by decide) rfl fun _ hS => ?_
 repeat first | refine And.intro qNc0 ?_ | refine whole_yes qNc0 ?_ | refine whole_sub ?_
 refine ⟨Y.1, Y.2, X.1, X.2, rfl, ⟨by omega, by omega, by omega, by omega⟩, ?_⟩
 rw [merge_comm (op := (fun x y => x || y)) por_comm, ← hq]
 repeat refine And.intro qNc0 ?_
 first | refine hS _ _ _ ?_ | (intro cap2 hcap2; refine hS _ _ _ ?_)
 clear hS
 refine s_step rfl (by decide) rfl fun _ hS => ?_
 refine hS _ _ _ ?_
 clear hS
 refine s_step rfl (by decide) rfl fun _ hS => ?_
 repeat refine And.intro qNc0 ?_
 refine hS _ _ _ ?_
 clear hS
 refine s_step rfl (by decide) rfl fun _ hS => ?_
 repeat refine And.intro qNc0 ?_
 refine hS _ _ _ ?_
 clear hS
 refine s_step rfl (by decide) rfl fun _ hS => ?_
 repeat refine And.intro qNc0 ?_
 refine hS _ _ _ ?_
 clear hS
 refine s_step0 rfl rfl fun _ hS => ?_
 repeat refine And.intro qNc0 ?_
 first | refine hS _ _ _ ?_ | (refine splice_full qNc0 ?_; refine hS _ _ _ ?_)
 clear hS
 refine s_step rfl (by decide) rfl fun _ hS => ?_
 refine hS _ _ _ ?_
 clear hS
 refine s_nil ?_
 refine hK16 _ _ _ ?_
 refine hK15 _ _ _ ?_
 refine seq_k fun _ hK17 => ?_
 refine seq_k fun _ hK18 => ?_
 refine region_k x3_ok fun _ hK19 => ?_
 refine s_step rfl (by decide) rfl fun _ hS => ?_
 refine hS _ _ _ ?_
 clear hS
 refine s_step rfl (by decide) rfl fun _ hS => ?_
 repeat refine And.intro qNc0 ?_
 refine hS _ _ _ ?_
 clear hS
 refine s_step rfl (by decide) rfl fun _ hS => ?_
 refine s_split hS (fun hb2 => ?_) (fun hb2 => ?_)
 ·exfalso; first | (simp at hb2; done) | exact absurd hb2 (by decide) | (clear hp hq cp cq mp mq hP; simp_all; done)
 clear hS
 refine s_guard (b := false) rfl (by decide) rfl rfl (fun _ _ hS => ?_) (fun e => absurd e (by decide))
 refine hS _ _ _ ?_
 clear hS
 refine s_guard (b := false) rfl (by decide) rfl rfl (fun _ _ hS => ?_) (fun e => absurd e (by decide))
 repeat refine And.intro qNc0 ?_
 refine hS _ _ _ ?_
 clear hS
 refine s_step rfl (by decide) rfl fun _ hS => ?_
 refine hS _ _ _ ?_
 clear hS
 refine s_step rfl (by decide) rfl fun _ hS => ?_
 refine s_split hS (fun hb6 => ?_) (fun hb6 => ?_)
 ·exfalso; first | (simp at hb6; done) | exact absurd hb6 (by decide) | (clear hp hq cp cq mp mq hP; simp_all; done)
 clear hS
 refine s_guard (b := false) rfl (by decide) rfl rfl (fun _ _ hS => ?_) (fun e => absurd e (by decide))
 refine hS _ _ _ ?_
 clear hS
 refine s_guard (b := false) rfl (by decide) rfl rfl (fun _ _ hS => ?_) (fun e => absurd e (by decide))
 repeat refine And.intro qNc0 ?_
 refine hS _ _ _ ?_
 clear hS
 refine s_step rfl (by decide) rfl fun _ hS => ?_
 refine hS _ _ _ ?_
 clear hS
 refine s_step rfl (by decide) rfl fun _ hS => ?_
 refine s_split hS (fun hb10 => ?_) (fun hb10 => ?_)
 ·exfalso; first | (simp at hb10; done) | exact absurd hb10 (by decide) | (clear hp hq cp cq mp mq hP; simp_all; done)
 clear hS
 refine s_guard (b := false) rfl (by decide) rfl rfl (fun _ _ hS => ?_) (fun e => absurd e (by decide))
 refine hS _ _ _ ?_
 clear hS
 refine s_guard (b := false) rfl (by decide) rfl rfl (fun _ _ hS => ?_) (fun e => absurd e (by decide))
 repeat refine And.intro qNc0 ?_
 refine hS _ _ _ ?_
 clear hS
 refine s_step rfl (by decide) rfl fun _ hS => ?_
 refine hS _ _ _ ?_
 clear hS
 refine s_step rfl (by decide) rfl fun _ hS => ?_
 refine s_split hS (fun hb14 => ?_) (fun hb14 => ?_)
 ·exfalso; first | (simp at hb14; done) | exact absurd hb14 (by decide) | (clear hp hq cp cq mp mq hP; simp_all; done)
 clear hS
 refine s_guard (b := false) rfl (by decide) rfl rfl (fun _ _ hS => ?_) (fun e => absurd e (by decide))
 repeat refine And.intro qNc0 ?_
 first | refine hS _ _ _ ?_ | (refine whole_yes qNc0 ?_; refine hS _ _ _ ?_) | (refine whole_sub ?_; refine hS _ _ _ ?_)
 clear hS
 refine s_guard (b := false) rfl (by decide) rfl rfl (fun _ _ hS => ?_) (fun e => absurd e (by decide))
 repeat refine And.intro qNc0 ?_
 first | refine hS _ _ _ ?_ | (refine whole_yes qNc0 ?_; refine hS _ _ _ ?_) | (refine whole_sub ?_; refine hS _ _ _ ?_)
 clear hS
 refine s_guard (b := false) rfl (by decide) rfl rfl (fun _ _ hS => ?_) (fun e => absurd e (by decide))
 repeat first | refine And.intro qNc0 ?_ | refine whole_yes qNc0 ?_ | refine whole_sub ?_
 refine ⟨p1, p2, p1, p2, rfl, ⟨by omega, by omega, by omega, by omega⟩, ?_⟩
 rw [show decide (p1 = p1 ∧ p2 = p2) = true from decide_eq_true ⟨rfl, rfl⟩]
 repeat refine And.intro qNc0 ?_
 first | refine hS _ _ _ ?_ | (intro cap17 hcap17; refine hS _ _ _ ?_)
 clear hS
 refine s_guard (b := false) rfl (by decide) rfl rfl (fun _ _ hS => ?_) (fun e => absurd e (by decide))
 refine hS _ _ _ ?_
 clear hS
 refine s_step rfl (by decide) rfl fun _ hS => ?_
 refine hS _ _ _ ?_
 clear hS
 refine s_step rfl (by decide) rfl fun _ hS => ?_
 refine s_split hS (fun hb20 => ?_) (fun hb20 => ?_)
 ·exfalso; first | (simp at hb20; done) | exact absurd hb20 (by decide) | (clear hp hq cp cq mp mq hP; simp_all; done)
 clear hS
 refine s_guard (b := false) rfl (by decide) rfl rfl (fun _ _ hS => ?_) (fun e => absurd e (by decide))
 repeat refine And.intro qNc0 ?_
 first | refine hS _ _ _ ?_ | (refine whole_yes qNc0 ?_; refine hS _ _ _ ?_) | (refine whole_sub ?_; refine hS _ _ _ ?_)
 clear hS
 refine s_guard (b := false) rfl (by decide) rfl rfl (fun _ _ hS => ?_) (fun e => absurd e (by decide))
 repeat refine And.intro qNc0 ?_
 first | refine hS _ _ _ ?_ | (refine whole_yes qNc0 ?_; refine hS _ _ _ ?_) | (refine whole_sub ?_; refine hS _ _ _ ?_)
 clear hS
 refine s_guard (b := false) rfl (by decide) rfl rfl (fun _ _ hS => ?_) (fun e => absurd e (by decide))
 repeat first | refine And.intro qNc0 ?_ | refine whole_yes qNc0 ?_ | refine whole_sub ?_
 refine ⟨q1, q2, q1, q2, rfl, ⟨by omega, by omega, by omega, by omega⟩, ?_⟩
 rw [show decide (q1 = q1 ∧ q2 = q2) = true from decide_eq_true ⟨rfl, rfl⟩]
 repeat refine And.intro qNc0 ?_
 first | refine hS _ _ _ ?_ | (intro cap23 hcap23; refine hS _ _ _ ?_)
 clear hS
 refine s_guard (b := false) rfl (by decide) rfl rfl (fun _ _ hS => ?_) (fun e => absurd e (by decide))
 refine hS _ _ _ ?_
 clear hS
 refine s_step rfl (by decide) rfl fun _ hS => ?_
 refine hS _ _ _ ?_
 clear hS
 refine s_nil ?_
 refine hK19 _ _ _ ?_
 refine hK18 _ _ _ ?_
 refine WP_cond (b := _) rfl (fun h_t73 => ?_) (fun _ => ?_)
 ·exfalso; first | (simp at h_t73; done) | exact absurd h_t73 (by decide) | (clear hp hq cp cq mp mq hP; simp_all; done)
 refine WP_skip ?_
 refine hK17 _ _ _ ?_
 refine seq_k fun _ hK20 => ?_
 refine seq_k fun _ hK21 => ?_
 refine region_k x3_ok fun _ hK22 => ?_
 refine s_step rfl (by decide) rfl fun _ hS => ?_
 refine hS _ _ _ ?_
 clear hS
 refine s_nil ?_
 refine hK22 _ _ _ ?_
 refine hK21 _ _ _ ?_
 refine WP_block ?_
 refine WP_loop (α := Nat) (fun k => [(2, .c (.int .i64 n)), (7, .c (.bool true)), (8, .c (.ptr 2 0)), (9, .c (.ptr 3 0)), (10, .c (.ptr 4 0)), (12, .c (.ptr 5 0)), (18, .c (.int .i64 k))]) (fun k => [(0, .own 24 (lsC a b) 2), (1, .own 24 (lsC c d) 2), (2, .own 24 (lsC X.1 X.2) 2), (3, .own 24 (lsC Y.1 Y.2) 2), (4, .own 24 (lsC p1 p2) 2), (5, .own 24 (lsC q1 q2) 2), (6, .own 24 (lsC p1 p2) 2), (7, .own 24 (lsC q1 q2) 2)]) 8 (fun k => k ≤ 450) (fun k => 450 - k) ?_ ?_
 ·refine Done_some [] id 0 (Nat.zero_le _) ⟨?_, ?_, (by decide : List.Nodup ([0, 1, 2, 3, 4, 5, 6, 7] : List Nat)), ?_, ?_, ⟨Nat.zero_le _, fun i hi => absurd hi (Nat.not_lt_zero i)⟩⟩
  ·exact uNc0
  ·exact uNc0
  ·exact uNc0
  ·exact uNc0
 ·intro k hk
  refine seq_k fun _ hK23 => ?_
  refine seq_k fun _ hK24 => ?_
  refine region_k x3_ok fun _ hK25 => ?_
  refine s_step rfl (by decide) rfl fun _ hS => ?_
  refine hS _ _ _ ?_
  clear hS
  refine s_step rfl (by decide) rfl fun _ hS => ?_
  repeat refine And.intro qNc0 ?_
  refine hS _ _ _ ?_
  clear hS
  refine s_nil ?_
  refine hK25 _ _ _ ?_
  refine hK24 _ _ _ ?_
  refine WP_cond (b := _) rfl (fun h_t75 => ?_) (fun h_t75 => ?_)
  ·try try simp only [decide_eq_true_eq] at h_t75
   refine WP_skip ?_
   refine hK23 _ _ _ ?_
   refine seq_k fun _ hK26 => ?_
   refine WP_block ?_
   refine seq_k fun _ hK27 => ?_
   refine quiet_k x3_ok (by kernel_rfl) fun _ hK28 => ?_
   refine q_step rfl (by decide) rfl fun _ hS => ?_
   repeat refine And.intro qNc0 ?_
   first | refine hS _ ?_ | (refine whole_yes qNc0 ?_; refine hS _ ?_) | (refine whole_sub ?_; refine hS _ ?_)
   clear hS
   refine q_step rfl (by decide) rfl fun _ hS => ?_
   refine hS _ ?_
   clear hS
   refine q_step rfl (by decide) rfl fun _ hS => ?_
   repeat first | refine And.intro qNc0 ?_ | refine whole_yes qNc0 ?_ | refine whole_sub ?_
   refine ⟨p1, p2, k, rfl, ⟨by omega, by omega, by omega⟩, ?_⟩
   rw [hasL_nat vp, mp]
   repeat refine And.intro qNc0 ?_
   first | refine hS _ ?_ | (intro cap2 hcap2; refine hS _ ?_)
   clear hS
   refine q_step rfl (by decide) rfl fun _ hS => ?_
   repeat refine And.intro qNc0 ?_
   first | refine hS _ ?_ | (refine whole_yes qNc0 ?_; refine hS _ ?_) | (refine whole_sub ?_; refine hS _ ?_)
   clear hS
   refine q_step rfl (by decide) rfl fun _ hS => ?_
   refine hS _ ?_
   clear hS
   refine q_step rfl (by decide) rfl fun _ hS => ?_
   repeat first | refine And.intro qNc0 ?_ | refine whole_yes qNc0 ?_ | refine whole_sub ?_
   refine ⟨X.1, X.2, k, rfl, ⟨by omega, by omega, by omega⟩, ?_⟩
   rw [hasL_nat vX]
   repeat refine And.intro qNc0 ?_
   first | refine hS _ ?_ | (intro cap5 hcap5; refine hS _ ?_)
   clear hS
   refine q_step rfl (by decide) rfl fun _ hS => ?_
   refine q_split hS (fun hb6 => ?_) (fun hb6 => ?_)
   ·clear hS
    try simp only [decide_eq_true_eq, decide_eq_false_iff_not, Int.not_lt, Int.not_le, Bool.not_eq_true', Bool.not_eq_false', Bool.not_eq_eq_eq_not, Bool.not_true, Bool.not_false, if_true, if_false, reduceIte, Bool.false_eq_true, Int.natCast_inj] at hb6
    refine q_guard (b := true) rfl (by decide) rfl rfl (fun _ _ hS => ?_) (fun e => absurd e (by decide))
    repeat refine And.intro qNc0 ?_
    first | refine hS _ ?_ | (refine whole_yes qNc0 ?_; refine hS _ ?_) | (refine whole_sub ?_; refine hS _ ?_)
    clear hS
    refine q_guard (b := true) rfl (by decide) rfl rfl (fun _ _ hS => ?_) (fun e => absurd e (by decide))
    refine hS _ ?_
    clear hS
    refine q_guard (b := true) rfl (by decide) rfl rfl (fun _ _ hS => ?_) (fun e => absurd e (by decide))
    repeat first | refine And.intro qNc0 ?_ | refine whole_yes qNc0 ?_ | refine whole_sub ?_
    refine ⟨Y.1, Y.2, k, rfl, ⟨by omega, by omega, by omega⟩, ?_⟩
    rw [hasL_nat vY]
    repeat refine And.intro qNc0 ?_
    first | refine hS _ ?_ | (intro cap9 hcap9; refine hS _ ?_)
    clear hS
    refine q_step rfl (by decide) rfl fun _ hS => ?_
    refine hS _ ?_
    clear hS
    refine q_step rfl (by decide) rfl fun _ hS => ?_
    repeat refine And.intro qNc0 ?_
    refine hS _ ?_
    clear hS
    refine q_step rfl (by decide) rfl fun _ hS => ?_
    refine q_split hS (fun hb12 => ?_) (fun hb12 => ?_)
    ·exfalso; (simp [hb6] at hb12; done)
    clear hS
    refine q_guard (b := false) rfl (by decide) rfl rfl (fun _ _ hS => ?_) (fun e => absurd e (by decide))
    repeat refine And.intro qNc0 ?_
    first | refine hS _ ?_ | (refine whole_yes qNc0 ?_; refine hS _ ?_) | (refine whole_sub ?_; refine hS _ ?_)
    clear hS
    refine q_guard (b := false) rfl (by decide) rfl rfl (fun _ _ hS => ?_) (fun e => absurd e (by decide))
    refine hS _ ?_
    clear hS
    refine q_guard (b := false) rfl (by decide) rfl rfl (fun _ _ hS => ?_) (fun e => absurd e (by decide))
    repeat first | refine And.intro qNc0 ?_ | refine whole_yes qNc0 ?_ | refine whole_sub ?_
    refine ⟨q1, q2, k, rfl, ⟨by omega, by omega, by omega⟩, ?_⟩
    rw [hasL_nat vq, mq]
    repeat refine And.intro qNc0 ?_
    first | refine hS _ ?_ | (intro cap15 hcap15; refine hS _ ?_)
    clear hS
    refine q_guard (b := false) rfl (by decide) rfl rfl (fun _ _ hS => ?_) (fun e => absurd e (by decide))
    repeat refine And.intro qNc0 ?_
    first | refine hS _ ?_ | (refine whole_yes qNc0 ?_; refine hS _ ?_) | (refine whole_sub ?_; refine hS _ ?_)
    clear hS
    refine q_guard (b := false) rfl (by decide) rfl rfl (fun _ _ hS => ?_) (fun e => absurd e (by decide))
    refine hS _ ?_
    clear hS
    refine q_guard (b := false) rfl (by decide) rfl rfl (fun _ _ hS => ?_) (fun e => absurd e (by decide))
    repeat first | refine And.intro qNc0 ?_ | refine whole_yes qNc0 ?_ | refine whole_sub ?_
    refine ⟨X.1, X.2, k, rfl, ⟨by omega, by omega, by omega⟩, ?_⟩
    rw [hasL_nat vX]
    repeat refine And.intro qNc0 ?_
    first | refine hS _ ?_ | (intro cap18 hcap18; refine hS _ ?_)
    clear hS
    refine q_guard (b := false) rfl (by decide) rfl rfl (fun _ _ hS => ?_) (fun e => absurd e (by decide))
    refine q_split hS (fun hb19 => ?_) (fun hb19 => ?_)
    ·clear hS
     try simp only [decide_eq_true_eq, decide_eq_false_iff_not, Int.not_lt, Int.not_le, Bool.not_eq_true', Bool.not_eq_false', Bool.not_eq_eq_eq_not, Bool.not_true, Bool.not_false, if_true, if_false, reduceIte, Bool.false_eq_true, Int.natCast_inj] at hb19
     refine q_guard (b := true) rfl (by decide) rfl rfl (fun e => absurd e (by decide)) (fun _ => ?_)
     refine q_guard (b := true) rfl (by decide) rfl rfl (fun e => absurd e (by decide)) (fun _ => ?_)
     refine q_guard (b := true) rfl (by decide) rfl rfl (fun e => absurd e (by decide)) (fun _ => ?_)
     refine q_guard (b := false) rfl (by decide) rfl rfl (fun _ _ hS => ?_) (fun e => absurd e (by decide))
     refine hS _ ?_
     clear hS
     refine q_guard (b := false) rfl (by decide) rfl rfl (fun _ _ hS => ?_) (fun e => absurd e (by decide))
     repeat refine And.intro qNc0 ?_
     refine hS _ ?_
     clear hS
     refine q_step rfl (by decide) rfl fun _ hS => ?_
     refine hS _ ?_
     clear hS
     refine q_nil ?_
     refine hK28 _ ?_
     refine hK27 _ _ _ ?_
     refine WP_cond (b := _) rfl (fun h_t103 => ?_) (fun _ => ?_)
     ·exfalso; first | (simp [hb6] at h_t103; done) | (rw [hb6] at hb19; cases hb19)
     refine WP_skip ?_
     refine done_block ?_
     refine hK26 _ _ _ ?_
     refine region_k x3_ok fun _ hK29 => ?_
     refine s_step rfl (by decide) rfl fun _ hS => ?_
     refine hS _ _ _ ?_
     clear hS
     refine s_step rfl (by decide) rfl fun _ hS => ?_
     repeat refine And.intro qNc0 ?_
     refine hS _ _ _ ?_
     clear hS
     refine s_step rfl (by decide) rfl fun _ hS => ?_
     refine hS _ _ _ ?_
     clear hS
     refine s_nil ?_
     refine hK29 _ _ _ ?_
     refine Done_some [] id (k + 1) ⟨by omega, by omega⟩ ⟨?_, ?_, (by decide : List.Nodup ([0, 1, 2, 3, 4, 5, 6, 7] : List Nat)), ?_, ?_, ⟨Nat.zero_le _, fun i hi => absurd hi (Nat.not_lt_zero i)⟩⟩
     ·exact uNc0
     ·exact uNc0
     ·exact uNc0
     ·exact uNc0
    ·clear hS
     try simp only [decide_eq_true_eq, decide_eq_false_iff_not, Int.not_lt, Int.not_le, Bool.not_eq_true', Bool.not_eq_false', Bool.not_eq_eq_eq_not, Bool.not_true, Bool.not_false, if_true, if_false, reduceIte, Bool.false_eq_true, Int.natCast_inj] at hb19
     refine q_guard (b := false) rfl (by decide) rfl rfl (fun _ _ hS => ?_) (fun e => absurd e (by decide))
     repeat refine And.intro qNc0 ?_
     first | refine hS _ ?_ | (refine whole_yes qNc0 ?_; refine hS _ ?_) | (refine whole_sub ?_; refine hS _ ?_)
     clear hS
     refine q_guard (b := false) rfl (by decide) rfl rfl (fun _ _ hS => ?_) (fun e => absurd e (by decide))
     refine hS _ ?_
     clear hS
     refine q_guard (b := false) rfl (by decide) rfl rfl (fun _ _ hS => ?_) (fun e => absurd e (by decide))
     repeat first | refine And.intro qNc0 ?_ | refine whole_yes qNc0 ?_ | refine whole_sub ?_
     refine ⟨Y.1, Y.2, k, rfl, ⟨by omega, by omega, by omega⟩, ?_⟩
     rw [hasL_nat vY]
     repeat refine And.intro qNc0 ?_
     first | refine hS _ ?_ | (intro cap22 hcap22; refine hS _ ?_)
     clear hS
     refine q_guard (b := false) rfl (by decide) rfl rfl (fun _ _ hS => ?_) (fun e => absurd e (by decide))
     refine hS _ ?_
     clear hS
     refine q_guard (b := false) rfl (by decide) rfl rfl (fun _ _ hS => ?_) (fun e => absurd e (by decide))
     repeat refine And.intro qNc0 ?_
     refine hS _ ?_
     clear hS
     refine q_step rfl (by decide) rfl fun _ hS => ?_
     refine hS _ ?_
     clear hS
     refine q_nil ?_
     refine hK28 _ ?_
     refine hK27 _ _ _ ?_
     refine WP_cond (b := _) rfl (fun h_t103 => ?_) (fun _ => ?_)
     ·exfalso; first | (simp [hb6] at h_t103; done) | (rw [hb6] at hb19; cases hb19)
     refine WP_skip ?_
     refine done_block ?_
     refine hK26 _ _ _ ?_
     refine region_k x3_ok fun _ hK30 => ?_
     refine s_step rfl (by decide) rfl fun _ hS => ?_
     refine hS _ _ _ ?_
     clear hS
     refine s_step rfl (by decide) rfl fun _ hS => ?_
     repeat refine And.intro qNc0 ?_
     refine hS _ _ _ ?_
     clear hS
     refine s_step rfl (by decide) rfl fun _ hS => ?_
     refine hS _ _ _ ?_
     clear hS
     refine s_nil ?_
     refine hK30 _ _ _ ?_
     refine Done_some [] id (k + 1) ⟨by omega, by omega⟩ ⟨?_, ?_, (by decide : List.Nodup ([0, 1, 2, 3, 4, 5, 6, 7] : List Nat)), ?_, ?_, ⟨Nat.zero_le _, fun i hi => absurd hi (Nat.not_lt_zero i)⟩⟩
     ·exact uNc0
     ·exact uNc0
     ·exact uNc0
     ·exact uNc0
   ·clear hS
    try simp only [decide_eq_true_eq, decide_eq_false_iff_not, Int.not_lt, Int.not_le, Bool.not_eq_true', Bool.not_eq_false', Bool.not_eq_eq_eq_not, Bool.not_true, Bool.not_false, if_true, if_false, reduceIte, Bool.false_eq_true, Int.natCast_inj] at hb6
    refine q_guard (b := false) rfl (by decide) rfl rfl (fun e => absurd e (by decide)) (fun _ => ?_)
    refine q_guard (b := false) rfl (by decide) rfl rfl (fun e => absurd e (by decide)) (fun _ => ?_)
    refine q_guard (b := false) rfl (by decide) rfl rfl (fun e => absurd e (by decide)) (fun _ => ?_)
    refine q_step rfl (by decide) rfl fun _ hS => ?_
    refine hS _ ?_
    clear hS
    refine q_step rfl (by decide) rfl fun _ hS => ?_
    repeat refine And.intro qNc0 ?_
    refine hS _ ?_
    clear hS
    refine q_step rfl (by decide) rfl fun _ hS => ?_
    refine q_split hS (fun hb12 => ?_) (fun hb12 => ?_)
    ·exfalso; (simp [hb6] at hb12; done)
    clear hS
    refine q_guard (b := false) rfl (by decide) rfl rfl (fun _ _ hS => ?_) (fun e => absurd e (by decide))
    repeat refine And.intro qNc0 ?_
    first | refine hS _ ?_ | (refine whole_yes qNc0 ?_; refine hS _ ?_) | (refine whole_sub ?_; refine hS _ ?_)
    clear hS
    refine q_guard (b := false) rfl (by decide) rfl rfl (fun _ _ hS => ?_) (fun e => absurd e (by decide))
    refine hS _ ?_
    clear hS
    refine q_guard (b := false) rfl (by decide) rfl rfl (fun _ _ hS => ?_) (fun e => absurd e (by decide))
    repeat first | refine And.intro qNc0 ?_ | refine whole_yes qNc0 ?_ | refine whole_sub ?_
    refine ⟨q1, q2, k, rfl, ⟨by omega, by omega, by omega⟩, ?_⟩
    rw [hasL_nat vq, mq]
    repeat refine And.intro qNc0 ?_
    first | refine hS _ ?_ | (intro cap15 hcap15; refine hS _ ?_)
    clear hS
    refine q_guard (b := false) rfl (by decide) rfl rfl (fun _ _ hS => ?_) (fun e => absurd e (by decide))
    repeat refine And.intro qNc0 ?_
    first | refine hS _ ?_ | (refine whole_yes qNc0 ?_; refine hS _ ?_) | (refine whole_sub ?_; refine hS _ ?_)
    clear hS
    refine q_guard (b := false) rfl (by decide) rfl rfl (fun _ _ hS => ?_) (fun e => absurd e (by decide))
    refine hS _ ?_
    clear hS
    refine q_guard (b := false) rfl (by decide) rfl rfl (fun _ _ hS => ?_) (fun e => absurd e (by decide))
    repeat first | refine And.intro qNc0 ?_ | refine whole_yes qNc0 ?_ | refine whole_sub ?_
    refine ⟨X.1, X.2, k, rfl, ⟨by omega, by omega, by omega⟩, ?_⟩
    rw [hasL_nat vX]
    repeat refine And.intro qNc0 ?_
    first | refine hS _ ?_ | (intro cap18 hcap18; refine hS _ ?_)
    clear hS
    refine q_guard (b := false) rfl (by decide) rfl rfl (fun _ _ hS => ?_) (fun e => absurd e (by decide))
    refine q_split hS (fun hb19 => ?_) (fun hb19 => ?_)
    ·clear hS
     try simp only [decide_eq_true_eq, decide_eq_false_iff_not, Int.not_lt, Int.not_le, Bool.not_eq_true', Bool.not_eq_false', Bool.not_eq_eq_eq_not, Bool.not_true, Bool.not_false, if_true, if_false, reduceIte, Bool.false_eq_true, Int.natCast_inj] at hb19
     refine q_guard (b := true) rfl (by decide) rfl rfl (fun e => absurd e (by decide)) (fun _ => ?_)
     refine q_guard (b := true) rfl (by decide) rfl rfl (fun e => absurd e (by decide)) (fun _ => ?_)
     refine q_guard (b := true) rfl (by decide) rfl rfl (fun e => absurd e (by decide)) (fun _ => ?_)
     refine q_guard (b := false) rfl (by decide) rfl rfl (fun _ _ hS => ?_) (fun e => absurd e (by decide))
     refine hS _ ?_
     clear hS
     refine q_guard (b := false) rfl (by decide) rfl rfl (fun _ _ hS => ?_) (fun e => absurd e (by decide))
     repeat refine And.intro qNc0 ?_
     refine hS _ ?_
     clear hS
     refine q_step rfl (by decide) rfl fun _ hS => ?_
     refine hS _ ?_
     clear hS
     refine q_nil ?_
     refine hK28 _ ?_
     refine hK27 _ _ _ ?_
     refine WP_cond (b := _) rfl (fun h_t103 => ?_) (fun _ => ?_)
     ·exfalso; first | (simp [hb6] at h_t103; done) | (rw [hb6] at hb19; cases hb19)
     refine WP_skip ?_
     refine done_block ?_
     refine hK26 _ _ _ ?_
     refine region_k x3_ok fun _ hK31 => ?_
     refine s_step rfl (by decide) rfl fun _ hS => ?_
     refine hS _ _ _ ?_
     clear hS
     refine s_step rfl (by decide) rfl fun _ hS => ?_
     repeat refine And.intro qNc0 ?_
     refine hS _ _ _ ?_
     clear hS
     refine s_step rfl (by decide) rfl fun _ hS => ?_
     refine hS _ _ _ ?_
     clear hS
     refine s_nil ?_
     refine hK31 _ _ _ ?_
     refine Done_some [] id (k + 1) ⟨by omega, by omega⟩ ⟨?_, ?_, (by decide : List.Nodup ([0, 1, 2, 3, 4, 5, 6, 7] : List Nat)), ?_, ?_, ⟨Nat.zero_le _, fun i hi => absurd hi (Nat.not_lt_zero i)⟩⟩
     ·exact uNc0
     ·exact uNc0
     ·exact uNc0
     ·exact uNc0
    ·clear hS
     try simp only [decide_eq_true_eq, decide_eq_false_iff_not, Int.not_lt, Int.not_le, Bool.not_eq_true', Bool.not_eq_false', Bool.not_eq_eq_eq_not, Bool.not_true, Bool.not_false, if_true, if_false, reduceIte, Bool.false_eq_true, Int.natCast_inj] at hb19
     refine q_guard (b := false) rfl (by decide) rfl rfl (fun _ _ hS => ?_) (fun e => absurd e (by decide))
     repeat refine And.intro qNc0 ?_
     first | refine hS _ ?_ | (refine whole_yes qNc0 ?_; refine hS _ ?_) | (refine whole_sub ?_; refine hS _ ?_)
     clear hS
     refine q_guard (b := false) rfl (by decide) rfl rfl (fun _ _ hS => ?_) (fun e => absurd e (by decide))
     refine hS _ ?_
     clear hS
     refine q_guard (b := false) rfl (by decide) rfl rfl (fun _ _ hS => ?_) (fun e => absurd e (by decide))
     repeat first | refine And.intro qNc0 ?_ | refine whole_yes qNc0 ?_ | refine whole_sub ?_
     refine ⟨Y.1, Y.2, k, rfl, ⟨by omega, by omega, by omega⟩, ?_⟩
     rw [hasL_nat vY]
     repeat refine And.intro qNc0 ?_
     first | refine hS _ ?_ | (intro cap22 hcap22; refine hS _ ?_)
     clear hS
     refine q_guard (b := false) rfl (by decide) rfl rfl (fun _ _ hS => ?_) (fun e => absurd e (by decide))
     refine hS _ ?_
     clear hS
     refine q_guard (b := false) rfl (by decide) rfl rfl (fun _ _ hS => ?_) (fun e => absurd e (by decide))
     repeat refine And.intro qNc0 ?_
     refine hS _ ?_
     clear hS
     refine q_step rfl (by decide) rfl fun _ hS => ?_
     refine hS _ ?_
     clear hS
     refine q_nil ?_
     refine hK28 _ ?_
     refine hK27 _ _ _ ?_
     refine WP_cond (b := _) rfl (fun h_t103 => ?_) (fun _ => ?_)
     ·exfalso; first | (simp [hb6] at h_t103; done) | (rw [hb6] at hb19; cases hb19)
     refine WP_skip ?_
     refine done_block ?_
     refine hK26 _ _ _ ?_
     refine region_k x3_ok fun _ hK32 => ?_
     refine s_step rfl (by decide) rfl fun _ hS => ?_
     refine hS _ _ _ ?_
     clear hS
     refine s_step rfl (by decide) rfl fun _ hS => ?_
     repeat refine And.intro qNc0 ?_
     refine hS _ _ _ ?_
     clear hS
     refine s_step rfl (by decide) rfl fun _ hS => ?_
     refine hS _ _ _ ?_
     clear hS
     refine s_nil ?_
     refine hK32 _ _ _ ?_
     refine Done_some [] id (k + 1) ⟨by omega, by omega⟩ ⟨?_, ?_, (by decide : List.Nodup ([0, 1, 2, 3, 4, 5, 6, 7] : List Nat)), ?_, ?_, ⟨Nat.zero_le _, fun i hi => absurd hi (Nat.not_lt_zero i)⟩⟩
     ·exact uNc0
     ·exact uNc0
     ·exact uNc0
     ·exact uNc0
  ·try try simp only [decide_eq_false_iff_not, Int.not_lt] at h_t75
   refine WP_exit ?_
   refine done_thenx ?_
   refine done_thenx ?_
   refine Done_hit ?_
   refine hK20 _ _ _ ?_
   refine seq_k fun _ hK33 => ?_
   refine quiet_k x3_ok (by kernel_rfl) fun _ hK34 => ?_
   refine q_step rfl (by decide) rfl fun _ hS => ?_
   refine hS _ ?_
   clear hS
   refine q_step rfl (by decide) rfl fun _ hS => ?_
   refine q_split hS (fun hb1 => ?_) (fun hb1 => ?_)
   rotate_left 1
   ·exfalso; exact absurd hb1 (by decide)
   clear hS
   refine q_guard (b := true) rfl (by decide) rfl rfl (fun _ _ hS => ?_) (fun e => absurd e (by decide))
   repeat refine And.intro qNc0 ?_
   first | refine hS _ ?_ | (refine whole_yes qNc0 ?_; refine hS _ ?_) | (refine whole_sub ?_; refine hS _ ?_)
   clear hS
   refine q_guard (b := true) rfl (by decide) rfl rfl (fun _ _ hS => ?_) (fun e => absurd e (by decide))
   refine hS _ ?_
   clear hS
   refine q_guard (b := true) rfl (by decide) rfl rfl (fun _ _ hS => ?_) (fun e => absurd e (by decide))
   repeat first | refine And.intro qNc0 ?_ | refine whole_yes qNc0 ?_ | refine whole_sub ?_
   refine ⟨p1, p2, n, rfl, ⟨by omega, by omega, by omega⟩, ?_⟩
   rw [show hasL p1 p2 n = (hasL X.1 X.2 n && hasL Y.1 Y.2 n) by rw [hasL_val vp, mp, hasL_val vX, hasL_val vY]; exact and_val ..]
   repeat refine And.intro qNc0 ?_
   first | refine hS _ ?_ | (intro cap4 hcap4; refine hS _ ?_)
   clear hS
   refine q_guard (b := true) rfl (by decide) rfl rfl (fun _ _ hS => ?_) (fun e => absurd e (by decide))
   repeat refine And.intro qNc0 ?_
   first | refine hS _ ?_ | (refine whole_yes qNc0 ?_; refine hS _ ?_) | (refine whole_sub ?_; refine hS _ ?_)
   clear hS
   refine q_guard (b := true) rfl (by decide) rfl rfl (fun _ _ hS => ?_) (fun e => absurd e (by decide))
   refine hS _ ?_
   clear hS
   refine q_guard (b := true) rfl (by decide) rfl rfl (fun _ _ hS => ?_) (fun e => absurd e (by decide))
   repeat first | refine And.intro qNc0 ?_ | refine whole_yes qNc0 ?_ | refine whole_sub ?_
   refine ⟨X.1, X.2, n, rfl, ⟨by omega, by omega, by omega⟩, ?_⟩
   repeat refine And.intro qNc0 ?_
   first | refine hS _ ?_ | (intro cap7 hcap7; refine hS _ ?_)
   clear hS
   refine q_guard (b := true) rfl (by decide) rfl rfl (fun _ _ hS => ?_) (fun e => absurd e (by decide))
   refine q_split hS (fun hb8 => ?_) (fun hb8 => ?_)
   ·clear hS
    try simp only [decide_eq_true_eq, decide_eq_false_iff_not, Int.not_lt, Int.not_le, Bool.not_eq_true', Bool.not_eq_false', Bool.not_eq_eq_eq_not, Bool.not_true, Bool.not_false, if_true, if_false, reduceIte, Bool.false_eq_true, Int.natCast_inj] at hb8
    refine q_guard (b := true) rfl (by decide) rfl rfl (fun _ _ hS => ?_) (fun e => absurd e (by decide))
    repeat refine And.intro qNc0 ?_
    first | refine hS _ ?_ | (refine whole_yes qNc0 ?_; refine hS _ ?_) | (refine whole_sub ?_; refine hS _ ?_)
    clear hS
    refine q_guard (b := true) rfl (by decide) rfl rfl (fun _ _ hS => ?_) (fun e => absurd e (by decide))
    refine hS _ ?_
    clear hS
    refine q_guard (b := true) rfl (by decide) rfl rfl (fun _ _ hS => ?_) (fun e => absurd e (by decide))
    repeat first | refine And.intro qNc0 ?_ | refine whole_yes qNc0 ?_ | refine whole_sub ?_
    refine ⟨Y.1, Y.2, n, rfl, ⟨by omega, by omega, by omega⟩, ?_⟩
    repeat refine And.intro qNc0 ?_
    first | refine hS _ ?_ | (intro cap11 hcap11; refine hS _ ?_)
    clear hS
    refine q_guard (b := true) rfl (by decide) rfl rfl (fun _ _ hS => ?_) (fun e => absurd e (by decide))
    refine hS _ ?_
    clear hS
    refine q_guard (b := true) rfl (by decide) rfl rfl (fun _ _ hS => ?_) (fun e => absurd e (by decide))
    repeat refine And.intro qNc0 ?_
    refine hS _ ?_
    clear hS
    refine q_step rfl (by decide) rfl fun _ hS => ?_
    refine hS _ ?_
    clear hS
    refine q_step rfl (by decide) rfl fun _ hS => ?_
    refine q_split hS (fun hb15 => ?_) (fun hb15 => ?_)
    rotate_left 1
    ·exfalso; (simp [hb8] at hb15; done)
    clear hS
    refine q_guard (b := true) rfl (by decide) rfl rfl (fun _ _ hS => ?_) (fun e => absurd e (by decide))
    repeat refine And.intro qNc0 ?_
    first | refine hS _ ?_ | (refine whole_yes qNc0 ?_; refine hS _ ?_) | (refine whole_sub ?_; refine hS _ ?_)
    clear hS
    refine q_guard (b := true) rfl (by decide) rfl rfl (fun _ _ hS => ?_) (fun e => absurd e (by decide))
    refine hS _ ?_
    clear hS
    refine q_guard (b := true) rfl (by decide) rfl rfl (fun _ _ hS => ?_) (fun e => absurd e (by decide))
    repeat first | refine And.intro qNc0 ?_ | refine whole_yes qNc0 ?_ | refine whole_sub ?_
    refine ⟨q1, q2, n, rfl, ⟨by omega, by omega, by omega⟩, ?_⟩
    rw [show hasL q1 q2 n = (hasL X.1 X.2 n || hasL Y.1 Y.2 n) by rw [hasL_val vq, mq, hasL_val vX, hasL_val vY]; exact or_val ..]
    repeat refine And.intro qNc0 ?_
    first | refine hS _ ?_ | (intro cap18 hcap18; refine hS _ ?_)
    clear hS
    refine q_guard (b := true) rfl (by decide) rfl rfl (fun _ _ hS => ?_) (fun e => absurd e (by decide))
    repeat refine And.intro qNc0 ?_
    first | refine hS _ ?_ | (refine whole_yes qNc0 ?_; refine hS _ ?_) | (refine whole_sub ?_; refine hS _ ?_)
    clear hS
    refine q_guard (b := true) rfl (by decide) rfl rfl (fun _ _ hS => ?_) (fun e => absurd e (by decide))
    refine hS _ ?_
    clear hS
    refine q_guard (b := true) rfl (by decide) rfl rfl (fun _ _ hS => ?_) (fun e => absurd e (by decide))
    repeat first | refine And.intro qNc0 ?_ | refine whole_yes qNc0 ?_ | refine whole_sub ?_
    refine ⟨X.1, X.2, n, rfl, ⟨by omega, by omega, by omega⟩, ?_⟩
    repeat refine And.intro qNc0 ?_
    first | refine hS _ ?_ | (intro cap21 hcap21; refine hS _ ?_)
    clear hS
    refine q_guard (b := true) rfl (by decide) rfl rfl (fun _ _ hS => ?_) (fun e => absurd e (by decide))
    refine q_split hS (fun hb22 => ?_) (fun hb22 => ?_)
    ·clear hS
     try simp only [decide_eq_true_eq, decide_eq_false_iff_not, Int.not_lt, Int.not_le, Bool.not_eq_true', Bool.not_eq_false', Bool.not_eq_eq_eq_not, Bool.not_true, Bool.not_false, if_true, if_false, reduceIte, Bool.false_eq_true, Int.natCast_inj] at hb22
     refine q_guard (b := true) rfl (by decide) rfl rfl (fun e => absurd e (by decide)) (fun _ => ?_)
     refine q_guard (b := true) rfl (by decide) rfl rfl (fun e => absurd e (by decide)) (fun _ => ?_)
     refine q_guard (b := true) rfl (by decide) rfl rfl (fun e => absurd e (by decide)) (fun _ => ?_)
     refine q_guard (b := true) rfl (by decide) rfl rfl (fun _ _ hS => ?_) (fun e => absurd e (by decide))
     refine hS _ ?_
     clear hS
     refine q_guard (b := true) rfl (by decide) rfl rfl (fun _ _ hS => ?_) (fun e => absurd e (by decide))
     repeat refine And.intro qNc0 ?_
     refine hS _ ?_
     clear hS
     refine q_step rfl (by decide) rfl fun _ hS => ?_
     refine hS _ ?_
     clear hS
     refine q_step rfl (by decide) rfl fun _ hS => ?_
     refine hS _ ?_
     clear hS
     refine q_nil ?_
     refine hK34 _ ?_
     refine hK33 _ _ _ ?_
     refine WP_ret (Done_flat x3_ok (fun _ _ h => h) (by first | rfl | assumption) [.tmp 6] rfl ?_)
     repeat refine And.intro (by first | omega | exact trivial | rfl | (simp <;> omega)) ?_
     try refine ite_yes (by first | omega | exact trivial | rfl | (simp <;> omega)) ?_
     show SV.c (.bool (decide _)) = SV.c (.bool true)
     congr 2
     first | (simp [hb8]; done) | (rw [hb8] at hb22; cases hb22)
    ·clear hS
     try simp only [decide_eq_true_eq, decide_eq_false_iff_not, Int.not_lt, Int.not_le, Bool.not_eq_true', Bool.not_eq_false', Bool.not_eq_eq_eq_not, Bool.not_true, Bool.not_false, if_true, if_false, reduceIte, Bool.false_eq_true, Int.natCast_inj] at hb22
     refine q_guard (b := false) rfl (by decide) rfl rfl (fun _ _ hS => ?_) (fun e => absurd e (by decide))
     repeat refine And.intro qNc0 ?_
     first | refine hS _ ?_ | (refine whole_yes qNc0 ?_; refine hS _ ?_) | (refine whole_sub ?_; refine hS _ ?_)
     clear hS
     refine q_guard (b := false) rfl (by decide) rfl rfl (fun _ _ hS => ?_) (fun e => absurd e (by decide))
     refine hS _ ?_
     clear hS
     refine q_guard (b := false) rfl (by decide) rfl rfl (fun _ _ hS => ?_) (fun e => absurd e (by decide))
     repeat first | refine And.intro qNc0 ?_ | refine whole_yes qNc0 ?_ | refine whole_sub ?_
     refine ⟨Y.1, Y.2, n, rfl, ⟨by omega, by omega, by omega⟩, ?_⟩
     repeat refine And.intro qNc0 ?_
     first | refine hS _ ?_ | (intro cap25 hcap25; refine hS _ ?_)
     clear hS
     refine q_guard (b := true) rfl (by decide) rfl rfl (fun _ _ hS => ?_) (fun e => absurd e (by decide))
     refine hS _ ?_
     clear hS
     refine q_guard (b := true) rfl (by decide) rfl rfl (fun _ _ hS => ?_) (fun e => absurd e (by decide))
     repeat refine And.intro qNc0 ?_
     refine hS _ ?_
     clear hS
     refine q_step rfl (by decide) rfl fun _ hS => ?_
     refine hS _ ?_
     clear hS
     refine q_step rfl (by decide) rfl fun _ hS => ?_
     refine hS _ ?_
     clear hS
     refine q_nil ?_
     refine hK34 _ ?_
     refine hK33 _ _ _ ?_
     refine WP_ret (Done_flat x3_ok (fun _ _ h => h) (by first | rfl | assumption) [.tmp 6] rfl ?_)
     repeat refine And.intro (by first | omega | exact trivial | rfl | (simp <;> omega)) ?_
     try refine ite_yes (by first | omega | exact trivial | rfl | (simp <;> omega)) ?_
     show SV.c (.bool (decide _)) = SV.c (.bool true)
     congr 2
     first | (simp [hb8]; done) | (rw [hb8] at hb22; cases hb22)
   ·clear hS
    try simp only [decide_eq_true_eq, decide_eq_false_iff_not, Int.not_lt, Int.not_le, Bool.not_eq_true', Bool.not_eq_false', Bool.not_eq_eq_eq_not, Bool.not_true, Bool.not_false, if_true, if_false, reduceIte, Bool.false_eq_true, Int.natCast_inj] at hb8
    refine q_guard (b := false) rfl (by decide) rfl rfl (fun e => absurd e (by decide)) (fun _ => ?_)
    refine q_guard (b := false) rfl (by decide) rfl rfl (fun e => absurd e (by decide)) (fun _ => ?_)
    refine q_guard (b := false) rfl (by decide) rfl rfl (fun e => absurd e (by decide)) (fun _ => ?_)
    refine q_guard (b := true) rfl (by decide) rfl rfl (fun _ _ hS => ?_) (fun e => absurd e (by decide))
    refine hS _ ?_
    clear hS
    refine q_guard (b := true) rfl (by decide) rfl rfl (fun _ _ hS => ?_) (fun e => absurd e (by decide))
    repeat refine And.intro qNc0 ?_
    refine hS _ ?_
    clear hS
    refine q_step rfl (by decide) rfl fun _ hS => ?_
    refine hS _ ?_
    clear hS
    refine q_step rfl (by decide) rfl fun _ hS => ?_
    refine q_split hS (fun hb15 => ?_) (fun hb15 => ?_)
    rotate_left 1
    ·exfalso; (simp [hb8] at hb15; done)
    clear hS
    refine q_guard (b := true) rfl (by decide) rfl rfl (fun _ _ hS => ?_) (fun e => absurd e (by decide))
    repeat refine And.intro qNc0 ?_
    first | refine hS _ ?_ | (refine whole_yes qNc0 ?_; refine hS _ ?_) | (refine whole_sub ?_; refine hS _ ?_)
    clear hS
    refine q_guard (b := true) rfl (by decide) rfl rfl (fun _ _ hS => ?_) (fun e => absurd e (by decide))
    refine hS _ ?_
    clear hS
    refine q_guard (b := true) rfl (by decide) rfl rfl (fun _ _ hS => ?_) (fun e => absurd e (by decide))
    repeat first | refine And.intro qNc0 ?_ | refine whole_yes qNc0 ?_ | refine whole_sub ?_
    refine ⟨q1, q2, n, rfl, ⟨by omega, by omega, by omega⟩, ?_⟩
    rw [show hasL q1 q2 n = (hasL X.1 X.2 n || hasL Y.1 Y.2 n) by rw [hasL_val vq, mq, hasL_val vX, hasL_val vY]; exact or_val ..]
    repeat refine And.intro qNc0 ?_
    first | refine hS _ ?_ | (intro cap18 hcap18; refine hS _ ?_)
    clear hS
    refine q_guard (b := true) rfl (by decide) rfl rfl (fun _ _ hS => ?_) (fun e => absurd e (by decide))
    repeat refine And.intro qNc0 ?_
    first | refine hS _ ?_ | (refine whole_yes qNc0 ?_; refine hS _ ?_) | (refine whole_sub ?_; refine hS _ ?_)
    clear hS
    refine q_guard (b := true) rfl (by decide) rfl rfl (fun _ _ hS => ?_) (fun e => absurd e (by decide))
    refine hS _ ?_
    clear hS
    refine q_guard (b := true) rfl (by decide) rfl rfl (fun _ _ hS => ?_) (fun e => absurd e (by decide))
    repeat first | refine And.intro qNc0 ?_ | refine whole_yes qNc0 ?_ | refine whole_sub ?_
    refine ⟨X.1, X.2, n, rfl, ⟨by omega, by omega, by omega⟩, ?_⟩
    repeat refine And.intro qNc0 ?_
    first | refine hS _ ?_ | (intro cap21 hcap21; refine hS _ ?_)
    clear hS
    refine q_guard (b := true) rfl (by decide) rfl rfl (fun _ _ hS => ?_) (fun e => absurd e (by decide))
    refine q_split hS (fun hb22 => ?_) (fun hb22 => ?_)
    ·clear hS
     try simp only [decide_eq_true_eq, decide_eq_false_iff_not, Int.not_lt, Int.not_le, Bool.not_eq_true', Bool.not_eq_false', Bool.not_eq_eq_eq_not, Bool.not_true, Bool.not_false, if_true, if_false, reduceIte, Bool.false_eq_true, Int.natCast_inj] at hb22
     refine q_guard (b := true) rfl (by decide) rfl rfl (fun e => absurd e (by decide)) (fun _ => ?_)
     refine q_guard (b := true) rfl (by decide) rfl rfl (fun e => absurd e (by decide)) (fun _ => ?_)
     refine q_guard (b := true) rfl (by decide) rfl rfl (fun e => absurd e (by decide)) (fun _ => ?_)
     refine q_guard (b := true) rfl (by decide) rfl rfl (fun _ _ hS => ?_) (fun e => absurd e (by decide))
     refine hS _ ?_
     clear hS
     refine q_guard (b := true) rfl (by decide) rfl rfl (fun _ _ hS => ?_) (fun e => absurd e (by decide))
     repeat refine And.intro qNc0 ?_
     refine hS _ ?_
     clear hS
     refine q_step rfl (by decide) rfl fun _ hS => ?_
     refine hS _ ?_
     clear hS
     refine q_step rfl (by decide) rfl fun _ hS => ?_
     refine hS _ ?_
     clear hS
     refine q_nil ?_
     refine hK34 _ ?_
     refine hK33 _ _ _ ?_
     refine WP_ret (Done_flat x3_ok (fun _ _ h => h) (by first | rfl | assumption) [.tmp 6] rfl ?_)
     repeat refine And.intro (by first | omega | exact trivial | rfl | (simp <;> omega)) ?_
     try refine ite_yes (by first | omega | exact trivial | rfl | (simp <;> omega)) ?_
     show SV.c (.bool (decide _)) = SV.c (.bool true)
     congr 2
     first | (simp [hb8]; done) | (rw [hb8] at hb22; cases hb22)
    ·clear hS
     try simp only [decide_eq_true_eq, decide_eq_false_iff_not, Int.not_lt, Int.not_le, Bool.not_eq_true', Bool.not_eq_false', Bool.not_eq_eq_eq_not, Bool.not_true, Bool.not_false, if_true, if_false, reduceIte, Bool.false_eq_true, Int.natCast_inj] at hb22
     refine q_guard (b := false) rfl (by decide) rfl rfl (fun _ _ hS => ?_) (fun e => absurd e (by decide))
     repeat refine And.intro qNc0 ?_
     first | refine hS _ ?_ | (refine whole_yes qNc0 ?_; refine hS _ ?_) | (refine whole_sub ?_; refine hS _ ?_)
     clear hS
     refine q_guard (b := false) rfl (by decide) rfl rfl (fun _ _ hS => ?_) (fun e => absurd e (by decide))
     refine hS _ ?_
     clear hS
     refine q_guard (b := false) rfl (by decide) rfl rfl (fun _ _ hS => ?_) (fun e => absurd e (by decide))
     repeat first | refine And.intro qNc0 ?_ | refine whole_yes qNc0 ?_ | refine whole_sub ?_
     refine ⟨Y.1, Y.2, n, rfl, ⟨by omega, by omega, by omega⟩, ?_⟩
     repeat refine And.intro qNc0 ?_
     first | refine hS _ ?_ | (intro cap25 hcap25; refine hS _ ?_)
     clear hS
     refine q_guard (b := true) rfl (by decide) rfl rfl (fun _ _ hS => ?_) (fun e => absurd e (by decide))
     refine hS _ ?_
     clear hS
     refine q_guard (b := true) rfl (by decide) rfl rfl (fun _ _ hS => ?_) (fun e => absurd e (by decide))
     repeat refine And.intro qNc0 ?_
     refine hS _ ?_
     clear hS
     refine q_step rfl (by decide) rfl fun _ hS => ?_
     refine hS _ ?_
     clear hS
     refine q_step rfl (by decide) rfl fun _ hS => ?_
     refine hS _ ?_
     clear hS
     refine q_nil ?_
     refine hK34 _ ?_
     refine hK33 _ _ _ ?_
     refine WP_ret (Done_flat x3_ok (fun _ _ h => h) (by first | rfl | assumption) [.tmp 6] rfl ?_)
     repeat refine And.intro (by first | omega | exact trivial | rfl | (simp <;> omega)) ?_
     try refine ite_yes (by first | omega | exact trivial | rfl | (simp <;> omega)) ?_
     show SV.c (.bool (decide _)) = SV.c (.bool true)
     congr 2
     first | (simp [hb8]; done) | (rw [hb8] at hb22; cases hb22)


end Go.Proofs.YtpfncffapgkjaaaDoor
