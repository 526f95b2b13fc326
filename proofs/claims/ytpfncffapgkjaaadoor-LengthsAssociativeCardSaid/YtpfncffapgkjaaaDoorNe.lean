/- The law: associativity, distribution. -/
import Derived.Test.YtpfncffapgkjaaaDoorAb14
import Derived.Test.YtpfncffapgkjaaaDoorAb21
import Derived.Test.YtpfncffapgkjaaaDoorCtx
import Derived.Test.YtpfncffapgkjaaaDoorLa
import Derived.Test.YtpfncffapgkjaaaDoorLc
import Derived.Test.YtpfncffapgkjaaaDoorLd
import Derived.Test.YtpfncffapgkjaaaDoorLe
import Derived.Test.YtpfncffapgkjaaaDoorLg
import Derived.Test.YtpfncffapgkjaaaDoorLi
import Derived.Test.YtpfncffapgkjaaaDoorLk
import Derived.Test.YtpfncffapgkjaaaDoorLm
import Derived.Test.YtpfncffapgkjaaaDoorLn
import Derived.Test.YtpfncffapgkjaaaDoorLr
import Derived.Test.YtpfncffapgkjaaaDoorLu
import Derived.Test.YtpfncffapgkjaaaDoorLw
import Derived.Test.YtpfncffapgkjaaaDoorMa
import Derived.Test.YtpfncffapgkjaaaDoorNa
import Derived.Test.YtpfncffapgkjaaaDoorNb
import Derived.Test.YtpfncffapgkjaaaDoorMc
import Derived.Test.YtpfncffapgkjaaaDoorMe
import Derived.Test.YtpfncffapgkjaaaDoorMf
namespace Go.Proofs.YtpfncffapgkjaaaDoor
set_option linter.unusedVariables false
open Go.Ab Go.RowKit

theorem qNe0 {a : Prop} (h : a := by first | omega | exact trivial | rfl | (simp only [len_u8s, len_u32s, len_u64s, len_ints, len_bools, len_cells]; omega) | exact inR_i64.mpr ⟨by omega, by omega⟩ | (simp <;> omega) | (refine And.intro ?_ ?_ <;> exact trivial) | exact ⟨trivial, trivial, trivial⟩ | decide | (refine And.intro rfl ?_; (repeat first | exact trivial | refine And.intro rfl ?_); done) | exact Nat.succ_pos _ | exact Nat.le_refl _ | (refine And.intro trivial ?_; (repeat first | exact trivial | refine And.intro trivial ?_); done)) : a := h

noncomputable def x5 : Ctx := { P := Tryd.prog, ty := ty, glob := gl, fs := [(12, .flat sanityS), (13, .data madeS), (23, .data andPS), (25, .data orPS), (27, .data sumPS), (16, .flat sameS)] }
theorem x5_ok : x5.OK := ⟨tyOK, ⟨⟨enters_mk Tryd.func12 (by kernel_rfl) rfl, sanity_ok⟩, ⟨enters_mk Tryd.func13 (by kernel_rfl) rfl, made_ok⟩, ⟨enters_mk Tryd.func23 (by kernel_rfl) rfl, andP_ok⟩, ⟨enters_mk Tryd.func25 (by kernel_rfl) rfl, orP_ok⟩, ⟨enters_mk Tryd.func27 (by kernel_rfl) rfl, sumP_ok⟩, ⟨enters_mk Tryd.func16 (by kernel_rfl) rfl, same_ok⟩, trivial⟩, mixed⟩
@[simp] theorem x5_ty : x5.ty = ty := rfl

def lawAssocS : QSpec := fun vs K => ∃ a b c d e g : List Bool, vs = [lsV a b, lsV c d, lsV e g] ∧ (a.length ≤ 9223372036854775807 ∧ b.length ≤ 9223372036854775807 ∧ c.length ≤ 9223372036854775807 ∧ d.length ≤ 9223372036854775807 ∧ e.length ≤ 9223372036854775807 ∧ g.length ≤ 9223372036854775807) ∧ K (.c (.bool true))
set_option maxHeartbeats 2000000 in
theorem lawAssoc_ok : FlatOK Tryd.prog gl 8 lawAssocS := by
 refine flat_of (Γ := x5) (N := 170) Tryd.func8 rfl rfl fun vs K h => ?_
 obtain ⟨a, b, c, d, e, g, rfl, ⟨hl1, hl2, hl3, hl4, hl5, hl6⟩, h⟩ := h
 refine ⟨_, h, rfl, by simp, fun w I => ?_⟩
 refine seq_k fun _ hK1 => ?_
 refine region_k x5_ok fun _ hK2 => ?_
 refine s_step rfl (by decide) rfl fun _ hS => ?_
 repeat refine And.intro qNe0 ?_
 refine hS _ _ _ ?_
 clear hS
 refine s_step rfl (by decide) rfl fun _ hS => ?_
 repeat refine And.intro qNe0 ?_
 refine hS _ _ _ ?_
 clear hS
 refine s_step rfl (by decide) rfl fun _ hS => ?_
 repeat refine And.intro qNe0 ?_
 refine hS _ _ _ ?_
 clear hS
 refine s_step rfl (by decide) rfl fun _ hS => ?_
 refine hS _ _ _ ?_
 clear hS
 refine s_nil ?_
 refine hK2 _ _ _ ?_
 refine hK1 _ _ _ ?_
 refine seq_k fun _ hK3 => ?_
 refine region_k x5_ok fun _ hK4 => ?_
 refine s_step rfl (by decide) rfl fun _ hS => ?_
 repeat first | refine And.intro qNe0 ?_ | refine whole_yes qNe0 ?_ | refine whole_sub ?_
 skip
 repeat refine And.intro qNe0 ?_
 first | refine hS _ _ _ ?_ | (intro cap0 hcap0; refine hS _ _ _ ?_)
 clear hS
 refine s_step rfl (by decide) rfl fun _ hS => ?_
 refine hS _ _ _ ?_
 clear hS
 refine s_nil ?_
 refine hK4 _ _ _ ?_
 refine hK3 _ _ _ ?_
 refine seq_k fun _ hK5 => ?_
 refine region_k x5_ok fun _ hK6 => ?_
 refine s_step rfl (by decide) rfl fun _ hS => ?_
 repeat refine And.intro qNe0 ?_
 first | refine hS _ _ _ ?_ | (refine whole_yes qNe0 ?_; refine hS _ _ _ ?_) | (refine whole_sub ?_; refine hS _ _ _ ?_)
 clear hS
 refine s_step rfl (by decide) rfl fun _ hS => ?_
 repeat first | refine And.intro qNe0 ?_ | refine whole_yes qNe0 ?_ | refine whole_sub ?_
 refine ⟨a, b, 6, 5, rfl, ⟨by omega, by omega, by omega, by omega⟩, ?_⟩
 have hX := made_len a b 6 5
 generalize madeL a b 6 5 = X at hX ⊢
 repeat refine And.intro qNe0 ?_
 first | refine hS _ _ _ ?_ | (intro cap1 hcap1; refine hS _ _ _ ?_)
 clear hS
 refine s_step rfl (by decide) rfl fun _ hS => ?_
 repeat refine And.intro qNe0 ?_
 refine hS _ _ _ ?_
 clear hS
 refine s_step0 rfl rfl fun _ hS => ?_
 repeat refine And.intro qNe0 ?_
 first | refine hS _ _ _ ?_ | (refine splice_full qNe0 ?_; refine hS _ _ _ ?_)
 clear hS
 refine s_nil ?_
 refine hK6 _ _ _ ?_
 refine hK5 _ _ _ ?_
 refine seq_k fun _ hK7 => ?_
 refine region_k x5_ok fun _ hK8 => ?_
 refine s_step rfl (by decide) rfl fun _ hS => ?_
 repeat refine And.intro qNe0 ?_
 first | refine hS _ _ _ ?_ | (refine whole_yes qNe0 ?_; refine hS _ _ _ ?_) | (refine whole_sub ?_; refine hS _ _ _ ?_)
 clear hS
 refine s_step rfl (by decide) rfl fun _ hS => ?_
 repeat first | refine And.intro qNe0 ?_ | refine whole_yes qNe0 ?_ | refine whole_sub ?_
 refine ⟨c, d, 6, 5, rfl, ⟨by omega, by omega, by omega, by omega⟩, ?_⟩
 have hY := made_len c d 6 5
 generalize madeL c d 6 5 = Y at hY ⊢
 repeat refine And.intro qNe0 ?_
 first | refine hS _ _ _ ?_ | (intro cap1 hcap1; refine hS _ _ _ ?_)
 clear hS
 refine s_step rfl (by decide) rfl fun _ hS => ?_
 repeat refine And.intro qNe0 ?_
 refine hS _ _ _ ?_
 clear hS
 refine s_step0 rfl rfl fun _ hS => ?_
 repeat refine And.intro qNe0 ?_
 first | refine hS _ _ _ ?_ | (refine splice_full qNe0 ?_; refine hS _ _ _ ?_)
 clear hS
 refine s_nil ?_
 refine hK8 _ _ _ ?_
 refine hK7 _ _ _ ?_
 refine seq_k fun _ hK9 => ?_
 refine region_k x5_ok fun _ hK10 => ?_
 refine s_step rfl (by decide) rfl fun _ hS => ?_
 repeat refine And.intro qNe0 ?_
 first | refine hS _ _ _ ?_ | (refine whole_yes qNe0 ?_; refine hS _ _ _ ?_) | (refine whole_sub ?_; refine hS _ _ _ ?_)
 clear hS
 refine s_step rfl (by decide) rfl fun _ hS => ?_
 repeat first | refine And.intro qNe0 ?_ | refine whole_yes qNe0 ?_ | refine whole_sub ?_
 refine ⟨e, g, 6, 5, rfl, ⟨by omega, by omega, by omega, by omega⟩, ?_⟩
 have hZ := made_len e g 6 5
 generalize madeL e g 6 5 = Z at hZ ⊢
 repeat refine And.intro qNe0 ?_
 first | refine hS _ _ _ ?_ | (intro cap1 hcap1; refine hS _ _ _ ?_)
 clear hS
 refine s_step rfl (by decide) rfl fun _ hS => ?_
 repeat refine And.intro qNe0 ?_
 refine hS _ _ _ ?_
 clear hS
 refine s_step0 rfl rfl fun _ hS => ?_
 repeat refine And.intro qNe0 ?_
 first | refine hS _ _ _ ?_ | (refine splice_full qNe0 ?_; refine hS _ _ _ ?_)
 clear hS
 refine s_nil ?_
 refine hK10 _ _ _ ?_
 refine hK9 _ _ _ ?_
 refine seq_k fun _ hK11 => ?_
 have vX : 0 < X.2.length ∧ X.1.length + X.2.length ≤ 512 := ⟨by omega, by omega⟩
 have vY : 0 < Y.2.length ∧ Y.1.length + Y.2.length ≤ 512 := ⟨by omega, by omega⟩
 have vZ : 0 < Z.2.length ∧ Z.1.length + Z.2.length ≤ 512 := ⟨by omega, by omega⟩
 obtain ⟨P, hP0, hP1, PX, PY, PZ⟩ := common3 (show X.1.length ≤ 6 by omega) (show Y.1.length ≤ 6 by omega) (show Z.1.length ≤ 6 by omega) vX.1 vY.1 vZ.1 (by omega) (by omega) (by omega) (atL_per (a := X.1) vX.1) (atL_per (a := Y.1) vY.1) (atL_per (a := Z.1) vZ.1)
 refine region_k x5_ok fun _ hK12 => ?_
 refine s_step rfl (by decide) rfl fun _ hS => ?_
 repeat refine And.intro qNe0 ?_
 first | refine hS _ _ _ ?_ | (refine whole_yes qNe0 ?_; refine hS _ _ _ ?_) | (refine whole_sub ?_; refine hS _ _ _ ?_)
 clear hS
 refine s_step rfl (by decide) rfl fun _ hS => ?_
 repeat refine And.intro qNe0 ?_
 first | refine hS _ _ _ ?_ | (refine whole_yes qNe0 ?_; refine hS _ _ _ ?_) | (refine whole_sub ?_; refine hS _ _ _ ?_)
 clear hS
 refine s_step rfl (by decide) rfl fun _ hS => ?_
 repeat first | refine And.intro qNe0 ?_ | refine whole_yes qNe0 ?_ | refine whole_sub ?_
 refine ⟨X.1, X.2, Y.1, Y.2, rfl, ⟨by omega, by omega, by omega, by omega⟩, ?_⟩
 obtain ⟨⟨⟨i1, i2⟩, ie⟩, hi⟩ : ∃ x, x = mergeL (fun x y => x && y) X.1 X.2 Y.1 Y.2 := ⟨_, rfl⟩
 rw [← hi]
 have ci : IsCan ((i1, i2), ie) (fun n => (atL X.1 X.2) n && (atL Y.1 Y.2) n) := by rw [hi]; exact merge_can (op := (fun x y => x && y)) vX vY rfl rfl hP0 (per_and PX PY) (by omega)
 obtain rfl : ie = 0 := ci.err
 have vi : 0 < i2.length ∧ i1.length + i2.length ≤ 512 := ci.valid
 have mi : atL i1 i2 = fun n => (atL X.1 X.2) n && (atL Y.1 Y.2) n := ci.mem
 clear hi
 repeat refine And.intro qNe0 ?_
 first | refine hS _ _ _ ?_ | (intro cap2 hcap2; refine hS _ _ _ ?_)
 clear hS
 refine s_step rfl (by decide) rfl fun _ hS => ?_
 refine hS _ _ _ ?_
 clear hS
 refine s_step rfl (by decide) rfl fun _ hS => ?_
 repeat refine And.intro qNe0 ?_
 refine hS _ _ _ ?_
 clear hS
 refine s_step rfl (by decide) rfl fun _ hS => ?_
 repeat refine And.intro qNe0 ?_
 refine hS _ _ _ ?_
 clear hS
 refine s_step rfl (by decide) rfl fun _ hS => ?_
 repeat refine And.intro qNe0 ?_
 refine hS _ _ _ ?_
 clear hS
 refine s_step0 rfl rfl fun _ hS => ?_
 repeat refine And.intro qNe0 ?_
 first | refine hS _ _ _ ?_ | (refine splice_full qNe0 ?_; refine hS _ _ _ ?_)
 clear hS
 refine s_step rfl (by decide) rfl fun _ hS => ?_
 refine hS _ _ _ ?_
 clear hS
 refine s_nil ?_
 refine hK12 _ _ _ ?_
 refine hK11 _ _ _ ?_
 refine seq_k fun _ hK13 => ?_
 refine region_k x5_ok fun _ hK14 => ?_
 refine s_step rfl (by decide) rfl fun _ hS => ?_
 repeat refine And.intro qNe0 ?_
 first | refine hS _ _ _ ?_ | (refine whole_yes qNe0 ?_; refine hS _ _ _ ?_) | (refine whole_sub ?_; refine hS _ _ _ ?_)
 clear hS
 refine s_step rfl (by decide) rfl fun _ hS => ?_
 repeat refine And.intro qNe0 ?_
 first | refine hS _ _ _ ?_ | (refine whole_yes qNe0 ?_; refine hS _ _ _ ?_) | (refine whole_sub ?_; refine hS _ _ _ ?_)
 clear hS
 refine s_step rfl (by decide) rfl fun _ hS => ?_
 repeat first | refine And.intro qNe0 ?_ | refine whole_yes qNe0 ?_ | refine whole_sub ?_
 refine ⟨Y.1, Y.2, Z.1, Z.2, rfl, ⟨by omega, by omega, by omega, by omega⟩, ?_⟩
 obtain ⟨⟨⟨j1, j2⟩, je⟩, hj⟩ : ∃ x, x = mergeL (fun x y => x && y) Y.1 Y.2 Z.1 Z.2 := ⟨_, rfl⟩
 rw [← hj]
 have cj : IsCan ((j1, j2), je) (fun n => (atL Y.1 Y.2) n && (atL Z.1 Z.2) n) := by rw [hj]; exact merge_can (op := (fun x y => x && y)) vY vZ rfl rfl hP0 (per_and PY PZ) (by omega)
 obtain rfl : je = 0 := cj.err
 have vj : 0 < j2.length ∧ j1.length + j2.length ≤ 512 := cj.valid
 have mj : atL j1 j2 = fun n => (atL Y.1 Y.2) n && (atL Z.1 Z.2) n := cj.mem
 clear hj
 repeat refine And.intro qNe0 ?_
 first | refine hS _ _ _ ?_ | (intro cap2 hcap2; refine hS _ _ _ ?_)
 clear hS
 refine s_step rfl (by decide) rfl fun _ hS => ?_
 refine hS _ _ _ ?_
 clear hS
 refine s_step rfl (by decide) rfl fun _ hS => ?_
 repeat refine And.intro qNe0 ?_
 refine hS _ _ _ ?_
 clear hS
 refine s_step rfl (by decide) rfl fun _ hS => ?_
 repeat refine And.intro qNe0 ?_
 refine hS _ _ _ ?_
 clear hS
 refine s_step rfl (by decide) rfl fun _ hS => ?_
 repeat refine And.intro qNe0 ?_
 refine hS _ _ _ ?_
 clear hS
 refine s_step0 rfl rfl fun _ hS => ?_
 repeat refine And.intro qNe0 ?_
 first | refine hS _ _ _ ?_ | (refine splice_full qNe0 ?_; refine hS _ _ _ ?_)
 clear hS
 refine s_step rfl (by decide) rfl fun _ hS => ?_
 refine hS _ _ _ ?_
 clear hS
 refine s_nil ?_
 refine hK14 _ _ _ ?_
 refine hK13 _ _ _ ?_
 refine seq_k fun _ hK15 => ?_
 refine region_k x5_ok fun _ hK16 => ?_
 refine s_step rfl (by decide) rfl fun _ hS => ?_
 repeat refine And.intro qNe0 ?_
 first | refine hS _ _ _ ?_ | (refine whole_yes qNe0 ?_; refine hS _ _ _ ?_) | (refine whole_sub ?_; refine hS _ _ _ ?_)
 clear hS
 refine s_step rfl (by decide) rfl fun _ hS => ?_
 repeat refine And.intro qNe0 ?_
 first | refine hS _ _ _ ?_ | (refine whole_yes qNe0 ?_; refine hS _ _ _ ?_) | (refine whole_sub ?_; refine hS _ _ _ ?_)
 clear hS
 refine s_step rfl (by decide) rfl fun _ hS => ?_
 repeat first | refine And.intro qNe0 ?_ | refine whole_yes qNe0 ?_ | refine whole_sub ?_
 refine ⟨i1, i2, Z.1, Z.2, rfl, ⟨by omega, by omega, by omega, by omega⟩, ?_⟩
 obtain ⟨⟨⟨p1, p2⟩, pe⟩, hp⟩ : ∃ x, x = mergeL (fun x y => x && y) i1 i2 Z.1 Z.2 := ⟨_, rfl⟩
 rw [← hp]
 have cp : IsCan ((p1, p2), pe) (fun n => (fun n => (atL X.1 X.2) n && (atL Y.1 Y.2) n) n && (atL Z.1 Z.2) n) := by rw [hp]; exact merge_can (op := (fun x y => x && y)) vi vZ mi rfl hP0 (per_and (per_and PX PY) PZ) (by omega)
 obtain rfl : pe = 0 := cp.err
 have vp : 0 < p2.length ∧ p1.length + p2.length ≤ 512 := cp.valid
 have mp : atL p1 p2 = fun n => (fun n => (atL X.1 X.2) n && (atL Y.1 Y.2) n) n && (atL Z.1 Z.2) n := cp.mem
 clear hp
 repeat refine And.intro qNe0 ?_
 first | refine hS _ _ _ ?_ | (intro cap2 hcap2; refine hS _ _ _ ?_)
 clear hS
 refine s_step rfl (by decide) rfl fun _ hS => ?_
 refine hS _ _ _ ?_
 clear hS
 refine s_step rfl (by decide) rfl fun _ hS => ?_
 repeat refine And.intro qNe0 ?_
 refine hS _ _ _ ?_
 clear hS
 refine s_step rfl (by decide) rfl fun _ hS => ?_
 repeat refine And.intro qNe0 ?_
 refine hS _ _ _ ?_
 clear hS
 refine s_step rfl (by decide) rfl fun _ hS => ?_
 repeat refine And.intro qNe0 ?_
 refine hS _ _ _ ?_
 clear hS
 refine s_step0 rfl rfl fun _ hS => ?_
 repeat refine And.intro qNe0 ?_
 first | refine hS _ _ _ ?_ | (refine splice_full qNe0 ?_; refine hS _ _ _ ?_)
 clear hS
 refine s_step rfl (by decide) rfl fun _ hS => ?_
 refine hS _ _ _ ?_
 clear hS
 refine s_nil ?_
 refine hK16 _ _ _ ?_
 refine hK15 _ _ _ ?_
 refine seq_k fun _ hK17 => ?_
 refine region_k x5_ok fun _ hK18 => ?_
 refine s_step rfl (by decide) rfl fun _ hS => ?_
 repeat refine And.intro qNe0 ?_
 first | refine hS _ _ _ ?_ | (refine whole_yes qNe0 ?_; refine hS _ _ _ ?_) | (refine whole_sub ?_; refine hS _ _ _ ?_)
 clear hS
 refine s_step rfl (by decide) rfl fun _ hS => ?_
 repeat refine And.intro qNe0 ?_
 first | refine hS _ _ _ ?_ | (refine whole_yes qNe0 ?_; refine hS _ _ _ ?_) | (refine whole_sub ?_; refine hS _ _ _ ?_)
 clear hS
 refine s_step rfl (by decide) rfl fun _ hS => ?_
 repeat first | refine And.intro qNe0 ?_ | refine whole_yes qNe0 ?_ | refine whole_sub ?_
 refine ⟨X.1, X.2, j1, j2, rfl, ⟨by omega, by omega, by omega, by omega⟩, ?_⟩
 obtain ⟨⟨⟨q1, q2⟩, qe⟩, hq⟩ : ∃ x, x = mergeL (fun x y => x && y) X.1 X.2 j1 j2 := ⟨_, rfl⟩
 rw [← hq]
 have cq : IsCan ((q1, q2), qe) (fun n => (fun n => (atL X.1 X.2) n && (atL Y.1 Y.2) n) n && (atL Z.1 Z.2) n) := by rw [hq]; exact IsCan.cast (merge_can (op := (fun x y => x && y)) vX vj rfl mj hP0 (per_and PX (per_and PY PZ)) (by omega)) (and3 ..)
 obtain rfl : qe = 0 := cq.err
 have vq : 0 < q2.length ∧ q1.length + q2.length ≤ 512 := cq.valid
 have mq : atL q1 q2 = fun n => (fun n => (atL X.1 X.2) n && (atL Y.1 Y.2) n) n && (atL Z.1 Z.2) n := cq.mem
 clear hq
 repeat refine And.intro qNe0 ?_
 first | refine hS _ _ _ ?_ | (intro cap2 hcap2; refine hS _ _ _ ?_)
 clear hS
 refine s_step rfl (by decide) rfl fun _ hS => ?_
 refine hS _ _ _ ?_
 clear hS
 refine s_step rfl (by decide) rfl fun _ hS => ?_
 repeat refine And.intro qNe0 ?_
 refine hS _ _ _ ?_
 clear hS
 refine s_step rfl (by decide) rfl fun _ hS => ?_
 repeat refine And.intro qNe0 ?_
 refine hS _ _ _ ?_
 clear hS
 refine s_step rfl (by decide) rfl fun _ hS => ?_
 repeat refine And.intro qNe0 ?_
 refine hS _ _ _ ?_
 clear hS
 refine s_step0 rfl rfl fun _ hS => ?_
 repeat refine And.intro qNe0 ?_
 first | refine hS _ _ _ ?_ | (refine splice_full qNe0 ?_; refine hS _ _ _ ?_)
 clear hS
 refine s_step rfl (by decide) rfl fun _ hS => ?_
 refine hS _ _ _ ?_
 clear hS
 refine s_nil ?_
 refine hK18 _ _ _ ?_
 refine hK17 _ _ _ ?_
 refine seq_k fun _ hK19 => ?_
 refine seq_k fun _ hK20 => ?_
 refine region_k x5_ok fun _ hK21 => ?_
 refine s_step rfl (by decide) rfl fun _ hS => ?_
 refine hS _ _ _ ?_
 clear hS
 refine s_step rfl (by decide) rfl fun _ hS => ?_
 repeat refine And.intro qNe0 ?_
 refine hS _ _ _ ?_
 clear hS
 refine s_step rfl (by decide) rfl fun _ hS => ?_
 refine s_split hS (fun hb2 => ?_) (fun hb2 => ?_)
 ·exfalso; first | (simp at hb2; done) | exact absurd hb2 (by decide)
 clear hS
 refine s_guard (b := false) rfl (by decide) rfl rfl (fun _ _ hS => ?_) (fun e => absurd e (by decide))
 refine hS _ _ _ ?_
 clear hS
 refine s_guard (b := false) rfl (by decide) rfl rfl (fun _ _ hS => ?_) (fun e => absurd e (by decide))
 repeat refine And.intro qNe0 ?_
 refine hS _ _ _ ?_
 clear hS
 refine s_step rfl (by decide) rfl fun _ hS => ?_
 refine hS _ _ _ ?_
 clear hS
 refine s_step rfl (by decide) rfl fun _ hS => ?_
 refine s_split hS (fun hb6 => ?_) (fun hb6 => ?_)
 ·exfalso; first | (simp at hb6; done) | exact absurd hb6 (by decide)
 clear hS
 refine s_guard (b := false) rfl (by decide) rfl rfl (fun _ _ hS => ?_) (fun e => absurd e (by decide))
 repeat refine And.intro qNe0 ?_
 first | refine hS _ _ _ ?_ | (refine whole_yes qNe0 ?_; refine hS _ _ _ ?_) | (refine whole_sub ?_; refine hS _ _ _ ?_)
 clear hS
 refine s_guard (b := false) rfl (by decide) rfl rfl (fun _ _ hS => ?_) (fun e => absurd e (by decide))
 repeat refine And.intro qNe0 ?_
 first | refine hS _ _ _ ?_ | (refine whole_yes qNe0 ?_; refine hS _ _ _ ?_) | (refine whole_sub ?_; refine hS _ _ _ ?_)
 clear hS
 refine s_guard (b := false) rfl (by decide) rfl rfl (fun _ _ hS => ?_) (fun e => absurd e (by decide))
 repeat first | refine And.intro qNe0 ?_ | refine whole_yes qNe0 ?_ | refine whole_sub ?_
 refine ⟨p1, p2, q1, q2, rfl, ⟨by omega, by omega, by omega, by omega⟩, ?_⟩
 rw [show decide (p1 = q1 ∧ p2 = q2) = true from decide_eq_true (both_eq cp cq)]
 repeat refine And.intro qNe0 ?_
 first | refine hS _ _ _ ?_ | (intro cap9 hcap9; refine hS _ _ _ ?_)
 clear hS
 refine s_guard (b := false) rfl (by decide) rfl rfl (fun _ _ hS => ?_) (fun e => absurd e (by decide))
 refine hS _ _ _ ?_
 clear hS
 refine s_step rfl (by decide) rfl fun _ hS => ?_
 refine hS _ _ _ ?_
 clear hS
 refine s_nil ?_
 refine hK21 _ _ _ ?_
 refine hK20 _ _ _ ?_
 refine WP_cond (b := _) rfl (fun h_t65 => ?_) (fun _ => ?_)
 ·exfalso; first | (simp at h_t65; done) | exact absurd h_t65 (by decide)
 refine WP_skip ?_
 refine hK19 _ _ _ ?_
 refine seq_k fun _ hK22 => ?_
 refine region_k x5_ok fun _ hK23 => ?_
 refine s_step rfl (by decide) rfl fun _ hS => ?_
 repeat refine And.intro qNe0 ?_
 first | refine hS _ _ _ ?_ | (refine whole_yes qNe0 ?_; refine hS _ _ _ ?_) | (refine whole_sub ?_; refine hS _ _ _ ?_)
 clear hS
 refine s_step rfl (by decide) rfl fun _ hS => ?_
 repeat refine And.intro qNe0 ?_
 first | refine hS _ _ _ ?_ | (refine whole_yes qNe0 ?_; refine hS _ _ _ ?_) | (refine whole_sub ?_; refine hS _ _ _ ?_)
 clear hS
 refine s_step rfl (by decide) rfl fun _ hS => ?_
 repeat first | refine And.intro qNe0 ?_ | refine whole_yes qNe0 ?_ | refine whole_sub ?_
 refine ⟨X.1, X.2, Y.1, Y.2, rfl, ⟨by omega, by omega, by omega, by omega⟩, ?_⟩
 obtain ⟨⟨⟨k1, k2⟩, ke⟩, hk⟩ : ∃ x, x = mergeL (fun x y => x || y) X.1 X.2 Y.1 Y.2 := ⟨_, rfl⟩
 rw [← hk]
 have ck : IsCan ((k1, k2), ke) (fun n => (atL X.1 X.2) n || (atL Y.1 Y.2) n) := by rw [hk]; exact merge_can (op := (fun x y => x || y)) vX vY rfl rfl hP0 (per_or PX PY) (by omega)
 obtain rfl : ke = 0 := ck.err
 have vk : 0 < k2.length ∧ k1.length + k2.length ≤ 512 := ck.valid
 have mk : atL k1 k2 = fun n => (atL X.1 X.2) n || (atL Y.1 Y.2) n := ck.mem
 clear hk
 repeat refine And.intro qNe0 ?_
 first | refine hS _ _ _ ?_ | (intro cap2 hcap2; refine hS _ _ _ ?_)
 clear hS
 refine s_step rfl (by decide) rfl fun _ hS => ?_
 refine hS _ _ _ ?_
 clear hS
 refine s_step rfl (by decide) rfl fun _ hS => ?_
 repeat refine And.intro qNe0 ?_
 refine hS _ _ _ ?_
 clear hS
 refine s_step rfl (by decide) rfl fun _ hS => ?_
 repeat refine And.intro qNe0 ?_
 refine hS _ _ _ ?_
 clear hS
 refine s_step0 rfl rfl fun _ hS => ?_
 repeat refine And.intro qNe0 ?_
 first | refine hS _ _ _ ?_ | (refine splice_full qNe0 ?_; refine hS _ _ _ ?_)
 clear hS
 refine s_nil ?_
 refine hK23 _ _ _ ?_
 refine hK22 _ _ _ ?_
 refine seq_k fun _ hK24 => ?_
 refine region_k x5_ok fun _ hK25 => ?_
 refine s_step rfl (by decide) rfl fun _ hS => ?_
 repeat refine And.intro qNe0 ?_
 first | refine hS _ _ _ ?_ | (refine whole_yes qNe0 ?_; refine hS _ _ _ ?_) | (refine whole_sub ?_; refine hS _ _ _ ?_)
 clear hS
 refine s_step rfl (by decide) rfl fun _ hS => ?_
 repeat refine And.intro qNe0 ?_
 first | refine hS _ _ _ ?_ | (refine whole_yes qNe0 ?_; refine hS _ _ _ ?_) | (refine whole_sub ?_; refine hS _ _ _ ?_)
 clear hS
 refine s_step rfl (by decide) rfl fun _ hS => ?_
 repeat first | refine And.intro qNe0 ?_ | refine whole_yes qNe0 ?_ | refine whole_sub ?_
 refine ⟨Y.1, Y.2, Z.1, Z.2, rfl, ⟨by omega, by omega, by omega, by omega⟩, ?_⟩
 obtain ⟨⟨⟨l1, l2⟩, le⟩, hl⟩ : ∃ x, x = mergeL (fun x y => x || y) Y.1 Y.2 Z.1 Z.2 := ⟨_, rfl⟩
 rw [← hl]
 have cl : IsCan ((l1, l2), le) (fun n => (atL Y.1 Y.2) n || (atL Z.1 Z.2) n) := by rw [hl]; exact merge_can (op := (fun x y => x || y)) vY vZ rfl rfl hP0 (per_or PY PZ) (by omega)
 obtain rfl : le = 0 := cl.err
 have vl : 0 < l2.length ∧ l1.length + l2.length ≤ 512 := cl.valid
 have ml : atL l1 l2 = fun n => (atL Y.1 Y.2) n || (atL Z.1 Z.2) n := cl.mem
 clear hl
 repeat refine And.intro qNe0 ?_
 first | refine hS _ _ _ ?_ | (intro cap2 hcap2; refine hS _ _ _ ?_)
 clear hS
 refine s_step rfl (by decide) rfl fun _ hS => ?_
 refine hS _ _ _ ?_
 clear hS
 refine s_step rfl (by decide) rfl fun _ hS => ?_
 repeat refine And.intro qNe0 ?_
 refine hS _ _ _ ?_
 clear hS
 refine s_step rfl (by decide) rfl fun _ hS => ?_
 repeat refine And.intro qNe0 ?_
 refine hS _ _ _ ?_
 clear hS
 refine s_step0 rfl rfl fun _ hS => ?_
 repeat refine And.intro qNe0 ?_
 first | refine hS _ _ _ ?_ | (refine splice_full qNe0 ?_; refine hS _ _ _ ?_)
 clear hS
 refine s_nil ?_
 refine hK25 _ _ _ ?_
 refine hK24 _ _ _ ?_
 refine seq_k fun _ hK26 => ?_
 refine region_k x5_ok fun _ hK27 => ?_
 refine s_step rfl (by decide) rfl fun _ hS => ?_
 repeat refine And.intro qNe0 ?_
 first | refine hS _ _ _ ?_ | (refine whole_yes qNe0 ?_; refine hS _ _ _ ?_) | (refine whole_sub ?_; refine hS _ _ _ ?_)
 clear hS
 refine s_step rfl (by decide) rfl fun _ hS => ?_
 repeat refine And.intro qNe0 ?_
 first | refine hS _ _ _ ?_ | (refine whole_yes qNe0 ?_; refine hS _ _ _ ?_) | (refine whole_sub ?_; refine hS _ _ _ ?_)
 clear hS
 refine s_step rfl (by decide) rfl fun _ hS => ?_
 repeat first | refine And.intro qNe0 ?_ | refine whole_yes qNe0 ?_ | refine whole_sub ?_
 refine ⟨k1, k2, Z.1, Z.2, rfl, ⟨by omega, by omega, by omega, by omega⟩, ?_⟩
 obtain ⟨⟨⟨r1, r2⟩, re⟩, hr⟩ : ∃ x, x = mergeL (fun x y => x || y) k1 k2 Z.1 Z.2 := ⟨_, rfl⟩
 rw [← hr]
 have cr : IsCan ((r1, r2), re) (fun n => (fun n => (atL X.1 X.2) n || (atL Y.1 Y.2) n) n || (atL Z.1 Z.2) n) := by rw [hr]; exact merge_can (op := (fun x y => x || y)) vk vZ mk rfl hP0 (per_or (per_or PX PY) PZ) (by omega)
 obtain rfl : re = 0 := cr.err
 have vr : 0 < r2.length ∧ r1.length + r2.length ≤ 512 := cr.valid
 have mr : atL r1 r2 = fun n => (fun n => (atL X.1 X.2) n || (atL Y.1 Y.2) n) n || (atL Z.1 Z.2) n := cr.mem
 clear hr
 repeat refine And.intro qNe0 ?_
 first | refine hS _ _ _ ?_ | (intro cap2 hcap2; refine hS _ _ _ ?_)
 clear hS
 refine s_step rfl (by decide) rfl fun _ hS => ?_
 refine hS _ _ _ ?_
 clear hS
 refine s_step rfl (by decide) rfl fun _ hS => ?_
 repeat refine And.intro qNe0 ?_
 refine hS _ _ _ ?_
 clear hS
 refine s_step rfl (by decide) rfl fun _ hS => ?_
 repeat refine And.intro qNe0 ?_
 refine hS _ _ _ ?_
 clear hS
 refine s_step0 rfl rfl fun _ hS => ?_
 repeat refine And.intro qNe0 ?_
 first | refine hS _ _ _ ?_ | (refine splice_full qNe0 ?_; refine hS _ _ _ ?_)
 clear hS
 refine s_step rfl (by decide) rfl fun _ hS => ?_
 refine hS _ _ _ ?_
 clear hS
 refine s_nil ?_
 refine hK27 _ _ _ ?_
 refine hK26 _ _ _ ?_
 refine seq_k fun _ hK28 => ?_
 refine region_k x5_ok fun _ hK29 => ?_
 refine s_step rfl (by decide) rfl fun _ hS => ?_
 repeat refine And.intro qNe0 ?_
 first | refine hS _ _ _ ?_ | (refine whole_yes qNe0 ?_; refine hS _ _ _ ?_) | (refine whole_sub ?_; refine hS _ _ _ ?_)
 clear hS
 refine s_step rfl (by decide) rfl fun _ hS => ?_
 repeat refine And.intro qNe0 ?_
 first | refine hS _ _ _ ?_ | (refine whole_yes qNe0 ?_; refine hS _ _ _ ?_) | (refine whole_sub ?_; refine hS _ _ _ ?_)
 clear hS
 refine s_step rfl (by decide) rfl fun _ hS => ?_
 repeat first | refine And.intro qNe0 ?_ | refine whole_yes qNe0 ?_ | refine whole_sub ?_
 refine ⟨X.1, X.2, l1, l2, rfl, ⟨by omega, by omega, by omega, by omega⟩, ?_⟩
 obtain ⟨⟨⟨s1, s2⟩, se⟩, hs⟩ : ∃ x, x = mergeL (fun x y => x || y) X.1 X.2 l1 l2 := ⟨_, rfl⟩
 rw [← hs]
 have cs : IsCan ((s1, s2), se) (fun n => (fun n => (atL X.1 X.2) n || (atL Y.1 Y.2) n) n || (atL Z.1 Z.2) n) := by rw [hs]; exact IsCan.cast (merge_can (op := (fun x y => x || y)) vX vl rfl ml hP0 (per_or PX (per_or PY PZ)) (by omega)) (or3 ..)
 obtain rfl : se = 0 := cs.err
 have vs : 0 < s2.length ∧ s1.length + s2.length ≤ 512 := cs.valid
 have ms : atL s1 s2 = fun n => (fun n => (atL X.1 X.2) n || (atL Y.1 Y.2) n) n || (atL Z.1 Z.2) n := cs.mem
 clear hs
 repeat refine And.intro qNe0 ?_
 first | refine hS _ _ _ ?_ | (intro cap2 hcap2; refine hS _ _ _ ?_)
 clear hS
 refine s_step rfl (by decide) rfl fun _ hS => ?_
 refine hS _ _ _ ?_
 clear hS
 refine s_step rfl (by decide) rfl fun _ hS => ?_
 repeat refine And.intro qNe0 ?_
 refine hS _ _ _ ?_
 clear hS
 refine s_step rfl (by decide) rfl fun _ hS => ?_
 repeat refine And.intro qNe0 ?_
 refine hS _ _ _ ?_
 clear hS
 refine s_step0 rfl rfl fun _ hS => ?_
 repeat refine And.intro qNe0 ?_
 first | refine hS _ _ _ ?_ | (refine splice_full qNe0 ?_; refine hS _ _ _ ?_)
 clear hS
 refine s_step rfl (by decide) rfl fun _ hS => ?_
 refine hS _ _ _ ?_
 clear hS
 refine s_nil ?_
 refine hK29 _ _ _ ?_
 refine hK28 _ _ _ ?_
 refine seq_k fun _ hK30 => ?_
 refine seq_k fun _ hK31 => ?_
 refine region_k x5_ok fun _ hK32 => ?_
 refine s_step rfl (by decide) rfl fun _ hS => ?_
 refine hS _ _ _ ?_
 clear hS
 refine s_step rfl (by decide) rfl fun _ hS => ?_
 repeat refine And.intro qNe0 ?_
 refine hS _ _ _ ?_
 clear hS
 refine s_step rfl (by decide) rfl fun _ hS => ?_
 refine s_split hS (fun hb2 => ?_) (fun hb2 => ?_)
 ·exfalso; first | (simp at hb2; done) | exact absurd hb2 (by decide)
 clear hS
 refine s_guard (b := false) rfl (by decide) rfl rfl (fun _ _ hS => ?_) (fun e => absurd e (by decide))
 refine hS _ _ _ ?_
 clear hS
 refine s_guard (b := false) rfl (by decide) rfl rfl (fun _ _ hS => ?_) (fun e => absurd e (by decide))
 repeat refine And.intro qNe0 ?_
 refine hS _ _ _ ?_
 clear hS
 refine s_step rfl (by decide) rfl fun _ hS => ?_
 refine hS _ _ _ ?_
 clear hS
 refine s_step rfl (by decide) rfl fun _ hS => ?_
 refine s_split hS (fun hb6 => ?_) (fun hb6 => ?_)
 ·exfalso; first | (simp at hb6; done) | exact absurd hb6 (by decide)
 clear hS
 refine s_guard (b := false) rfl (by decide) rfl rfl (fun _ _ hS => ?_) (fun e => absurd e (by decide))
 repeat refine And.intro qNe0 ?_
 first | refine hS _ _ _ ?_ | (refine whole_yes qNe0 ?_; refine hS _ _ _ ?_) | (refine whole_sub ?_; refine hS _ _ _ ?_)
 clear hS
 refine s_guard (b := false) rfl (by decide) rfl rfl (fun _ _ hS => ?_) (fun e => absurd e (by decide))
 repeat refine And.intro qNe0 ?_
 first | refine hS _ _ _ ?_ | (refine whole_yes qNe0 ?_; refine hS _ _ _ ?_) | (refine whole_sub ?_; refine hS _ _ _ ?_)
 clear hS
 refine s_guard (b := false) rfl (by decide) rfl rfl (fun _ _ hS => ?_) (fun e => absurd e (by decide))
 repeat first | refine And.intro qNe0 ?_ | refine whole_yes qNe0 ?_ | refine whole_sub ?_
 refine ⟨r1, r2, s1, s2, rfl, ⟨by omega, by omega, by omega, by omega⟩, ?_⟩
 rw [show decide (r1 = s1 ∧ r2 = s2) = true from decide_eq_true (both_eq cr cs)]
 repeat refine And.intro qNe0 ?_
 first | refine hS _ _ _ ?_ | (intro cap9 hcap9; refine hS _ _ _ ?_)
 clear hS
 refine s_guard (b := false) rfl (by decide) rfl rfl (fun _ _ hS => ?_) (fun e => absurd e (by decide))
 refine hS _ _ _ ?_
 clear hS
 refine s_step rfl (by decide) rfl fun _ hS => ?_
 refine hS _ _ _ ?_
 clear hS
 refine s_nil ?_
 refine hK32 _ _ _ ?_
 refine hK31 _ _ _ ?_
 refine WP_cond (b := _) rfl (fun h_t101 => ?_) (fun _ => ?_)
 ·exfalso; first | (simp at h_t101; done) | exact absurd h_t101 (by decide)
 refine WP_skip ?_
 refine hK30 _ _ _ ?_
 refine seq_k fun _ hK33 => ?_
 refine region_k x5_ok fun _ hK34 => ?_
 refine s_step rfl (by decide) rfl fun _ hS => ?_
 repeat refine And.intro qNe0 ?_
 first | refine hS _ _ _ ?_ | (refine whole_yes qNe0 ?_; refine hS _ _ _ ?_) | (refine whole_sub ?_; refine hS _ _ _ ?_)
 clear hS
 refine s_step rfl (by decide) rfl fun _ hS => ?_
 repeat refine And.intro qNe0 ?_
 first | refine hS _ _ _ ?_ | (refine whole_yes qNe0 ?_; refine hS _ _ _ ?_) | (refine whole_sub ?_; refine hS _ _ _ ?_)
 clear hS
 refine s_step rfl (by decide) rfl fun _ hS => ?_
 repeat first | refine And.intro qNe0 ?_ | refine whole_yes qNe0 ?_ | refine whole_sub ?_
 refine ⟨X.1, X.2, Y.1, Y.2, rfl, ⟨by omega, by omega, by omega, by omega⟩, ?_⟩
 obtain ⟨⟨⟨m1, m2⟩, me⟩, hm⟩ : ∃ x, x = sumL X.1 X.2 Y.1 Y.2 := ⟨_, rfl⟩
 rw [← hm]
 have cm : IsCan ((m1, m2), me) (sumF (atL X.1 X.2) (atL Y.1 Y.2)) := by rw [hm]; exact sum_can vX vY rfl rfl hP0 (sumF_per hP0 PX PY) (by omega)
 obtain rfl : me = 0 := cm.err
 have vm : 0 < m2.length ∧ m1.length + m2.length ≤ 512 := cm.valid
 have mm : atL m1 m2 = sumF (atL X.1 X.2) (atL Y.1 Y.2) := cm.mem
 clear hm
 repeat refine And.intro qNe0 ?_
 first | refine hS _ _ _ ?_ | (intro cap2 hcap2; refine hS _ _ _ ?_)
 clear hS
 refine s_step rfl (by decide) rfl fun _ hS => ?_
 refine hS _ _ _ ?_
 clear hS
 refine s_step rfl (by decide) rfl fun _ hS => ?_
 repeat refine And.intro qNe0 ?_
 refine hS _ _ _ ?_
 clear hS
 refine s_step rfl (by decide) rfl fun _ hS => ?_
 repeat refine And.intro qNe0 ?_
 refine hS _ _ _ ?_
 clear hS
 refine s_step rfl (by decide) rfl fun _ hS => ?_
 repeat refine And.intro qNe0 ?_
 refine hS _ _ _ ?_
 clear hS
 refine s_step0 rfl rfl fun _ hS => ?_
 repeat refine And.intro qNe0 ?_
 first | refine hS _ _ _ ?_ | (refine splice_full qNe0 ?_; refine hS _ _ _ ?_)
 clear hS
 refine s_step rfl (by decide) rfl fun _ hS => ?_
 refine hS _ _ _ ?_
 clear hS
 refine s_nil ?_
 refine hK34 _ _ _ ?_
 refine hK33 _ _ _ ?_
 refine seq_k fun _ hK35 => ?_
 refine region_k x5_ok fun _ hK36 => ?_
 refine s_step rfl (by decide) rfl fun _ hS => ?_
 repeat refine And.intro qNe0 ?_
 first | refine hS _ _ _ ?_ | (refine whole_yes qNe0 ?_; refine hS _ _ _ ?_) | (refine whole_sub ?_; refine hS _ _ _ ?_)
 clear hS
 refine s_step rfl (by decide) rfl fun _ hS => ?_
 repeat refine And.intro qNe0 ?_
 first | refine hS _ _ _ ?_ | (refine whole_yes qNe0 ?_; refine hS _ _ _ ?_) | (refine whole_sub ?_; refine hS _ _ _ ?_)
 clear hS
 refine s_step rfl (by decide) rfl fun _ hS => ?_
 repeat first | refine And.intro qNe0 ?_ | refine whole_yes qNe0 ?_ | refine whole_sub ?_
 refine ⟨X.1, X.2, Z.1, Z.2, rfl, ⟨by omega, by omega, by omega, by omega⟩, ?_⟩
 obtain ⟨⟨⟨n1, n2⟩, ne⟩, hn⟩ : ∃ x, x = sumL X.1 X.2 Z.1 Z.2 := ⟨_, rfl⟩
 rw [← hn]
 have cn : IsCan ((n1, n2), ne) (sumF (atL X.1 X.2) (atL Z.1 Z.2)) := by rw [hn]; exact sum_can vX vZ rfl rfl hP0 (sumF_per hP0 PX PZ) (by omega)
 obtain rfl : ne = 0 := cn.err
 have vn : 0 < n2.length ∧ n1.length + n2.length ≤ 512 := cn.valid
 have mn : atL n1 n2 = sumF (atL X.1 X.2) (atL Z.1 Z.2) := cn.mem
 clear hn
 repeat refine And.intro qNe0 ?_
 first | refine hS _ _ _ ?_ | (intro cap2 hcap2; refine hS _ _ _ ?_)
 clear hS
 refine s_step rfl (by decide) rfl fun _ hS => ?_
 refine hS _ _ _ ?_
 clear hS
 refine s_step rfl (by decide) rfl fun _ hS => ?_
 repeat refine And.intro qNe0 ?_
 refine hS _ _ _ ?_
 clear hS
 refine s_step rfl (by decide) rfl fun _ hS => ?_
 repeat refine And.intro qNe0 ?_
 refine hS _ _ _ ?_
 clear hS
 refine s_step rfl (by decide) rfl fun _ hS => ?_
 repeat refine And.intro qNe0 ?_
 refine hS _ _ _ ?_
 clear hS
 refine s_step0 rfl rfl fun _ hS => ?_
 repeat refine And.intro qNe0 ?_
 first | refine hS _ _ _ ?_ | (refine splice_full qNe0 ?_; refine hS _ _ _ ?_)
 clear hS
 refine s_step rfl (by decide) rfl fun _ hS => ?_
 refine hS _ _ _ ?_
 clear hS
 refine s_nil ?_
 refine hK36 _ _ _ ?_
 refine hK35 _ _ _ ?_
 refine seq_k fun _ hK37 => ?_
 refine region_k x5_ok fun _ hK38 => ?_
 refine s_step rfl (by decide) rfl fun _ hS => ?_
 repeat refine And.intro qNe0 ?_
 first | refine hS _ _ _ ?_ | (refine whole_yes qNe0 ?_; refine hS _ _ _ ?_) | (refine whole_sub ?_; refine hS _ _ _ ?_)
 clear hS
 refine s_step rfl (by decide) rfl fun _ hS => ?_
 repeat refine And.intro qNe0 ?_
 first | refine hS _ _ _ ?_ | (refine whole_yes qNe0 ?_; refine hS _ _ _ ?_) | (refine whole_sub ?_; refine hS _ _ _ ?_)
 clear hS
 refine s_step rfl (by decide) rfl fun _ hS => ?_
 repeat first | refine And.intro qNe0 ?_ | refine whole_yes qNe0 ?_ | refine whole_sub ?_
 refine ⟨X.1, X.2, l1, l2, rfl, ⟨by omega, by omega, by omega, by omega⟩, ?_⟩
 obtain ⟨⟨⟨t1, t2⟩, te⟩, ht⟩ : ∃ x, x = sumL X.1 X.2 l1 l2 := ⟨_, rfl⟩
 rw [← ht]
 have ct : IsCan ((t1, t2), te) (fun n => (sumF (atL X.1 X.2) (atL Y.1 Y.2)) n || (sumF (atL X.1 X.2) (atL Z.1 Z.2)) n) := by rw [ht]; exact IsCan.cast (sum_can vX vl rfl ml hP0 (sumF_per hP0 PX (per_or PY PZ)) (by omega)) (sumF_or ..)
 obtain rfl : te = 0 := ct.err
 have vt : 0 < t2.length ∧ t1.length + t2.length ≤ 512 := ct.valid
 have mt : atL t1 t2 = fun n => (sumF (atL X.1 X.2) (atL Y.1 Y.2)) n || (sumF (atL X.1 X.2) (atL Z.1 Z.2)) n := ct.mem
 clear ht
 repeat refine And.intro qNe0 ?_
 first | refine hS _ _ _ ?_ | (intro cap2 hcap2; refine hS _ _ _ ?_)
 clear hS
 refine s_step rfl (by decide) rfl fun _ hS => ?_
 refine hS _ _ _ ?_
 clear hS
 refine s_step rfl (by decide) rfl fun _ hS => ?_
 repeat refine And.intro qNe0 ?_
 refine hS _ _ _ ?_
 clear hS
 refine s_step rfl (by decide) rfl fun _ hS => ?_
 repeat refine And.intro qNe0 ?_
 refine hS _ _ _ ?_
 clear hS
 refine s_step0 rfl rfl fun _ hS => ?_
 repeat refine And.intro qNe0 ?_
 first | refine hS _ _ _ ?_ | (refine splice_full qNe0 ?_; refine hS _ _ _ ?_)
 clear hS
 refine s_step rfl (by decide) rfl fun _ hS => ?_
 refine hS _ _ _ ?_
 clear hS
 refine s_nil ?_
 refine hK38 _ _ _ ?_
 refine hK37 _ _ _ ?_
 refine seq_k fun _ hK39 => ?_
 refine region_k x5_ok fun _ hK40 => ?_
 refine s_step rfl (by decide) rfl fun _ hS => ?_
 repeat refine And.intro qNe0 ?_
 first | refine hS _ _ _ ?_ | (refine whole_yes qNe0 ?_; refine hS _ _ _ ?_) | (refine whole_sub ?_; refine hS _ _ _ ?_)
 clear hS
 refine s_step rfl (by decide) rfl fun _ hS => ?_
 repeat refine And.intro qNe0 ?_
 first | refine hS _ _ _ ?_ | (refine whole_yes qNe0 ?_; refine hS _ _ _ ?_) | (refine whole_sub ?_; refine hS _ _ _ ?_)
 clear hS
 refine s_step rfl (by decide) rfl fun _ hS => ?_
 repeat first | refine And.intro qNe0 ?_ | refine whole_yes qNe0 ?_ | refine whole_sub ?_
 refine ⟨m1, m2, n1, n2, rfl, ⟨by omega, by omega, by omega, by omega⟩, ?_⟩
 obtain ⟨⟨⟨u1, u2⟩, ue⟩, hu⟩ : ∃ x, x = mergeL (fun x y => x || y) m1 m2 n1 n2 := ⟨_, rfl⟩
 rw [← hu]
 have cu : IsCan ((u1, u2), ue) (fun n => (sumF (atL X.1 X.2) (atL Y.1 Y.2)) n || (sumF (atL X.1 X.2) (atL Z.1 Z.2)) n) := by rw [hu]; exact merge_can (op := (fun x y => x || y)) vm vn mm mn hP0 (per_or (sumF_per hP0 PX PY) (sumF_per hP0 PX PZ)) (by omega)
 obtain rfl : ue = 0 := cu.err
 have vu : 0 < u2.length ∧ u1.length + u2.length ≤ 512 := cu.valid
 have mu : atL u1 u2 = fun n => (sumF (atL X.1 X.2) (atL Y.1 Y.2)) n || (sumF (atL X.1 X.2) (atL Z.1 Z.2)) n := cu.mem
 clear hu
 repeat refine And.intro qNe0 ?_
 first | refine hS _ _ _ ?_ | (intro cap2 hcap2; refine hS _ _ _ ?_)
 clear hS
 refine s_step rfl (by decide) rfl fun _ hS => ?_
 refine hS _ _ _ ?_
 clear hS
 refine s_step rfl (by decide) rfl fun _ hS => ?_
 repeat refine And.intro qNe0 ?_
 refine hS _ _ _ ?_
 clear hS
 refine s_step rfl (by decide) rfl fun _ hS => ?_
 repeat refine And.intro qNe0 ?_
 refine hS _ _ _ ?_
 clear hS
 refine s_step0 rfl rfl fun _ hS => ?_
 repeat refine And.intro qNe0 ?_
 first | refine hS _ _ _ ?_ | (refine splice_full qNe0 ?_; refine hS _ _ _ ?_)
 clear hS
 refine s_step rfl (by decide) rfl fun _ hS => ?_
 refine hS _ _ _ ?_
 clear hS
 refine s_nil ?_
 refine hK40 _ _ _ ?_
 refine hK39 _ _ _ ?_
 refine seq_k fun _ hK41 => ?_
 refine seq_k fun _ hK42 => ?_
 refine region_k x5_ok fun _ hK43 => ?_
 refine s_step rfl (by decide) rfl fun _ hS => ?_
 refine hS _ _ _ ?_
 clear hS
 refine s_step rfl (by decide) rfl fun _ hS => ?_
 repeat refine And.intro qNe0 ?_
 refine hS _ _ _ ?_
 clear hS
 refine s_step rfl (by decide) rfl fun _ hS => ?_
 refine s_split hS (fun hb2 => ?_) (fun hb2 => ?_)
 ·exfalso; first | (simp at hb2; done) | exact absurd hb2 (by decide)
 clear hS
 refine s_guard (b := false) rfl (by decide) rfl rfl (fun _ _ hS => ?_) (fun e => absurd e (by decide))
 refine hS _ _ _ ?_
 clear hS
 refine s_guard (b := false) rfl (by decide) rfl rfl (fun _ _ hS => ?_) (fun e => absurd e (by decide))
 repeat refine And.intro qNe0 ?_
 refine hS _ _ _ ?_
 clear hS
 refine s_step rfl (by decide) rfl fun _ hS => ?_
 refine hS _ _ _ ?_
 clear hS
 refine s_step rfl (by decide) rfl fun _ hS => ?_
 refine s_split hS (fun hb6 => ?_) (fun hb6 => ?_)
 ·exfalso; first | (simp at hb6; done) | exact absurd hb6 (by decide)
 clear hS
 refine s_guard (b := false) rfl (by decide) rfl rfl (fun _ _ hS => ?_) (fun e => absurd e (by decide))
 repeat refine And.intro qNe0 ?_
 first | refine hS _ _ _ ?_ | (refine whole_yes qNe0 ?_; refine hS _ _ _ ?_) | (refine whole_sub ?_; refine hS _ _ _ ?_)
 clear hS
 refine s_guard (b := false) rfl (by decide) rfl rfl (fun _ _ hS => ?_) (fun e => absurd e (by decide))
 repeat refine And.intro qNe0 ?_
 first | refine hS _ _ _ ?_ | (refine whole_yes qNe0 ?_; refine hS _ _ _ ?_) | (refine whole_sub ?_; refine hS _ _ _ ?_)
 clear hS
 refine s_guard (b := false) rfl (by decide) rfl rfl (fun _ _ hS => ?_) (fun e => absurd e (by decide))
 repeat first | refine And.intro qNe0 ?_ | refine whole_yes qNe0 ?_ | refine whole_sub ?_
 refine ⟨t1, t2, u1, u2, rfl, ⟨by omega, by omega, by omega, by omega⟩, ?_⟩
 rw [show decide (t1 = u1 ∧ t2 = u2) = true from decide_eq_true (both_eq ct cu)]
 repeat refine And.intro qNe0 ?_
 first | refine hS _ _ _ ?_ | (intro cap9 hcap9; refine hS _ _ _ ?_)
 clear hS
 refine s_guard (b := false) rfl (by decide) rfl rfl (fun _ _ hS => ?_) (fun e => absurd e (by decide))
 refine hS _ _ _ ?_
 clear hS
 refine s_step rfl (by decide) rfl fun _ hS => ?_
 refine hS _ _ _ ?_
 clear hS
 refine s_nil ?_
 refine hK43 _ _ _ ?_
 refine hK42 _ _ _ ?_
 refine WP_cond (b := _) rfl (fun h_t137 => ?_) (fun _ => ?_)
 ·exfalso; first | (simp at h_t137; done) | exact absurd h_t137 (by decide)
 refine WP_skip ?_
 refine hK41 _ _ _ ?_
 refine seq_k fun _ hK44 => ?_
 refine region_k x5_ok fun _ hK45 => ?_
 refine s_step rfl (by decide) rfl fun _ hS => ?_
 repeat refine And.intro qNe0 ?_
 first | refine hS _ _ _ ?_ | (refine whole_yes qNe0 ?_; refine hS _ _ _ ?_) | (refine whole_sub ?_; refine hS _ _ _ ?_)
 clear hS
 refine s_step rfl (by decide) rfl fun _ hS => ?_
 repeat refine And.intro qNe0 ?_
 first | refine hS _ _ _ ?_ | (refine whole_yes qNe0 ?_; refine hS _ _ _ ?_) | (refine whole_sub ?_; refine hS _ _ _ ?_)
 clear hS
 refine s_step rfl (by decide) rfl fun _ hS => ?_
 repeat first | refine And.intro qNe0 ?_ | refine whole_yes qNe0 ?_ | refine whole_sub ?_
 refine ⟨Y.1, Y.2, Z.1, Z.2, rfl, ⟨by omega, by omega, by omega, by omega⟩, ?_⟩
 obtain ⟨⟨⟨w1, w2⟩, we⟩, hw⟩ : ∃ x, x = sumL Y.1 Y.2 Z.1 Z.2 := ⟨_, rfl⟩
 rw [← hw]
 have cw : IsCan ((w1, w2), we) (sumF (atL Y.1 Y.2) (atL Z.1 Z.2)) := by rw [hw]; exact sum_can vY vZ rfl rfl hP0 (sumF_per hP0 PY PZ) (by omega)
 obtain rfl : we = 0 := cw.err
 have vw : 0 < w2.length ∧ w1.length + w2.length ≤ 512 := cw.valid
 have mw : atL w1 w2 = sumF (atL Y.1 Y.2) (atL Z.1 Z.2) := cw.mem
 clear hw
 repeat refine And.intro qNe0 ?_
 first | refine hS _ _ _ ?_ | (intro cap2 hcap2; refine hS _ _ _ ?_)
 clear hS
 refine s_step rfl (by decide) rfl fun _ hS => ?_
 refine hS _ _ _ ?_
 clear hS
 refine s_step rfl (by decide) rfl fun _ hS => ?_
 repeat refine And.intro qNe0 ?_
 refine hS _ _ _ ?_
 clear hS
 refine s_step rfl (by decide) rfl fun _ hS => ?_
 repeat refine And.intro qNe0 ?_
 refine hS _ _ _ ?_
 clear hS
 refine s_step0 rfl rfl fun _ hS => ?_
 repeat refine And.intro qNe0 ?_
 first | refine hS _ _ _ ?_ | (refine splice_full qNe0 ?_; refine hS _ _ _ ?_)
 clear hS
 refine s_nil ?_
 refine hK45 _ _ _ ?_
 refine hK44 _ _ _ ?_
 refine seq_k fun _ hK46 => ?_
 refine region_k x5_ok fun _ hK47 => ?_
 refine s_step rfl (by decide) rfl fun _ hS => ?_
 repeat refine And.intro qNe0 ?_
 first | refine hS _ _ _ ?_ | (refine whole_yes qNe0 ?_; refine hS _ _ _ ?_) | (refine whole_sub ?_; refine hS _ _ _ ?_)
 clear hS
 refine s_step rfl (by decide) rfl fun _ hS => ?_
 repeat refine And.intro qNe0 ?_
 first | refine hS _ _ _ ?_ | (refine whole_yes qNe0 ?_; refine hS _ _ _ ?_) | (refine whole_sub ?_; refine hS _ _ _ ?_)
 clear hS
 refine s_step rfl (by decide) rfl fun _ hS => ?_
 repeat first | refine And.intro qNe0 ?_ | refine whole_yes qNe0 ?_ | refine whole_sub ?_
 refine ⟨m1, m2, Z.1, Z.2, rfl, ⟨by omega, by omega, by omega, by omega⟩, ?_⟩
 obtain ⟨⟨⟨x1, x2⟩, xe⟩, hx⟩ : ∃ x, x = sumL m1 m2 Z.1 Z.2 := ⟨_, rfl⟩
 rw [← hx]
 have cx : IsCan ((x1, x2), xe) (sumF (sumF (atL X.1 X.2) (atL Y.1 Y.2)) (atL Z.1 Z.2)) := by rw [hx]; exact sum_can vm vZ mm rfl hP0 (sumF_per hP0 (sumF_per hP0 PX PY) PZ) (by omega)
 obtain rfl : xe = 0 := cx.err
 have vx : 0 < x2.length ∧ x1.length + x2.length ≤ 512 := cx.valid
 have mx : atL x1 x2 = sumF (sumF (atL X.1 X.2) (atL Y.1 Y.2)) (atL Z.1 Z.2) := cx.mem
 clear hx
 repeat refine And.intro qNe0 ?_
 first | refine hS _ _ _ ?_ | (intro cap2 hcap2; refine hS _ _ _ ?_)
 clear hS
 refine s_step rfl (by decide) rfl fun _ hS => ?_
 refine hS _ _ _ ?_
 clear hS
 refine s_step rfl (by decide) rfl fun _ hS => ?_
 repeat refine And.intro qNe0 ?_
 refine hS _ _ _ ?_
 clear hS
 refine s_step rfl (by decide) rfl fun _ hS => ?_
 repeat refine And.intro qNe0 ?_
 refine hS _ _ _ ?_
 clear hS
 refine s_step0 rfl rfl fun _ hS => ?_
 repeat refine And.intro qNe0 ?_
 first | refine hS _ _ _ ?_ | (refine splice_full qNe0 ?_; refine hS _ _ _ ?_)
 clear hS
 refine s_step rfl (by decide) rfl fun _ hS => ?_
 refine hS _ _ _ ?_
 clear hS
 refine s_nil ?_
 refine hK47 _ _ _ ?_
 refine hK46 _ _ _ ?_
 refine seq_k fun _ hK48 => ?_
 refine region_k x5_ok fun _ hK49 => ?_
 refine s_step rfl (by decide) rfl fun _ hS => ?_
 repeat refine And.intro qNe0 ?_
 first | refine hS _ _ _ ?_ | (refine whole_yes qNe0 ?_; refine hS _ _ _ ?_) | (refine whole_sub ?_; refine hS _ _ _ ?_)
 clear hS
 refine s_step rfl (by decide) rfl fun _ hS => ?_
 repeat refine And.intro qNe0 ?_
 first | refine hS _ _ _ ?_ | (refine whole_yes qNe0 ?_; refine hS _ _ _ ?_) | (refine whole_sub ?_; refine hS _ _ _ ?_)
 clear hS
 refine s_step rfl (by decide) rfl fun _ hS => ?_
 repeat first | refine And.intro qNe0 ?_ | refine whole_yes qNe0 ?_ | refine whole_sub ?_
 refine ⟨X.1, X.2, w1, w2, rfl, ⟨by omega, by omega, by omega, by omega⟩, ?_⟩
 obtain ⟨⟨⟨y1, y2⟩, ye⟩, hy⟩ : ∃ x, x = sumL X.1 X.2 w1 w2 := ⟨_, rfl⟩
 rw [← hy]
 have cy : IsCan ((y1, y2), ye) (sumF (sumF (atL X.1 X.2) (atL Y.1 Y.2)) (atL Z.1 Z.2)) := by rw [hy]; exact IsCan.cast (sum_can vX vw rfl mw hP0 (sumF_per hP0 PX (sumF_per hP0 PY PZ)) (by omega)) ((sumF_assoc ..).symm)
 obtain rfl : ye = 0 := cy.err
 have vy : 0 < y2.length ∧ y1.length + y2.length ≤ 512 := cy.valid
 have my : atL y1 y2 = sumF (sumF (atL X.1 X.2) (atL Y.1 Y.2)) (atL Z.1 Z.2) := cy.mem
 clear hy
 repeat refine And.intro qNe0 ?_
 first | refine hS _ _ _ ?_ | (intro cap2 hcap2; refine hS _ _ _ ?_)
 clear hS
 refine s_step rfl (by decide) rfl fun _ hS => ?_
 refine hS _ _ _ ?_
 clear hS
 refine s_step rfl (by decide) rfl fun _ hS => ?_
 repeat refine And.intro qNe0 ?_
 refine hS _ _ _ ?_
 clear hS
 refine s_step rfl (by decide) rfl fun _ hS => ?_
 repeat refine And.intro qNe0 ?_
 refine hS _ _ _ ?_
 clear hS
 refine s_step0 rfl rfl fun _ hS => ?_
 repeat refine And.intro qNe0 ?_
 first | refine hS _ _ _ ?_ | (refine splice_full qNe0 ?_; refine hS _ _ _ ?_)
 clear hS
 refine s_step rfl (by decide) rfl fun _ hS => ?_
 refine hS _ _ _ ?_
 clear hS
 refine s_nil ?_
 refine hK49 _ _ _ ?_
 refine hK48 _ _ _ ?_
 refine seq_k fun _ hK50 => ?_
 refine region_k x5_ok fun _ hK51 => ?_
 refine s_step rfl (by decide) rfl fun _ hS => ?_
 refine hS _ _ _ ?_
 clear hS
 refine s_step rfl (by decide) rfl fun _ hS => ?_
 refine s_split hS (fun hb1 => ?_) (fun hb1 => ?_)
 rotate_left 1
 ·exfalso; first | (simp at hb1; done) | exact absurd hb1 (by decide)
 clear hS
 refine s_guard (b := true) rfl (by decide) rfl rfl (fun _ _ hS => ?_) (fun e => absurd e (by decide))
 refine hS _ _ _ ?_
 clear hS
 refine s_guard (b := true) rfl (by decide) rfl rfl (fun _ _ hS => ?_) (fun e => absurd e (by decide))
 repeat refine And.intro qNe0 ?_
 refine hS _ _ _ ?_
 clear hS
 refine s_step rfl (by decide) rfl fun _ hS => ?_
 refine hS _ _ _ ?_
 clear hS
 refine s_step rfl (by decide) rfl fun _ hS => ?_
 refine s_split hS (fun hb5 => ?_) (fun hb5 => ?_)
 rotate_left 1
 ·exfalso; first | (simp at hb5; done) | exact absurd hb5 (by decide)
 clear hS
 refine s_guard (b := true) rfl (by decide) rfl rfl (fun _ _ hS => ?_) (fun e => absurd e (by decide))
 refine hS _ _ _ ?_
 clear hS
 refine s_guard (b := true) rfl (by decide) rfl rfl (fun _ _ hS => ?_) (fun e => absurd e (by decide))
 repeat refine And.intro qNe0 ?_
 refine hS _ _ _ ?_
 clear hS
 refine s_step rfl (by decide) rfl fun _ hS => ?_
 refine hS _ _ _ ?_
 clear hS
 refine s_step rfl (by decide) rfl fun _ hS => ?_
 refine s_split hS (fun hb9 => ?_) (fun hb9 => ?_)
 rotate_left 1
 ·exfalso; first | (simp at hb9; done) | exact absurd hb9 (by decide)
 clear hS
 refine s_guard (b := true) rfl (by decide) rfl rfl (fun _ _ hS => ?_) (fun e => absurd e (by decide))
 repeat refine And.intro qNe0 ?_
 first | refine hS _ _ _ ?_ | (refine whole_yes qNe0 ?_; refine hS _ _ _ ?_) | (refine whole_sub ?_; refine hS _ _ _ ?_)
 clear hS
 refine s_guard (b := true) rfl (by decide) rfl rfl (fun _ _ hS => ?_) (fun e => absurd e (by decide))
 repeat refine And.intro qNe0 ?_
 first | refine hS _ _ _ ?_ | (refine whole_yes qNe0 ?_; refine hS _ _ _ ?_) | (refine whole_sub ?_; refine hS _ _ _ ?_)
 clear hS
 refine s_guard (b := true) rfl (by decide) rfl rfl (fun _ _ hS => ?_) (fun e => absurd e (by decide))
 repeat first | refine And.intro qNe0 ?_ | refine whole_yes qNe0 ?_ | refine whole_sub ?_
 refine ⟨x1, x2, y1, y2, rfl, ⟨by omega, by omega, by omega, by omega⟩, ?_⟩
 rw [show decide (x1 = y1 ∧ x2 = y2) = true from decide_eq_true (both_eq cx cy)]
 repeat refine And.intro qNe0 ?_
 first | refine hS _ _ _ ?_ | (intro cap12 hcap12; refine hS _ _ _ ?_)
 clear hS
 refine s_step rfl (by decide) rfl fun _ hS => ?_
 refine hS _ _ _ ?_
 clear hS
 refine s_step rfl (by decide) rfl fun _ hS => ?_
 refine hS _ _ _ ?_
 clear hS
 refine s_nil ?_
 refine hK51 _ _ _ ?_
 refine hK50 _ _ _ ?_
 refine WP_ret (Done_flat x5_ok (fun _ _ h => h) (by first | rfl | assumption) [.tmp 6] rfl ?_)
 repeat refine And.intro (by first | omega | exact trivial | rfl | (simp <;> omega)) ?_
 try refine ite_yes (by first | omega | exact trivial | rfl | (simp <;> omega)) ?_
 rfl


end Go.Proofs.YtpfncffapgkjaaaDoor
