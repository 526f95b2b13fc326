/- The law: the reference agrees. -/
import Derived.Test.YtpfncffapgkjaaaDoorCtx
import Derived.Test.YtpfncffapgkjaaaDoorAb14
import Derived.Test.YtpfncffapgkjaaaDoorAb21
import Derived.Test.YtpfncffapgkjaaaDoorAb22
import Derived.Test.YtpfncffapgkjaaaDoorLa
import Derived.Test.YtpfncffapgkjaaaDoorLb
import Derived.Test.YtpfncffapgkjaaaDoorLd
import Derived.Test.YtpfncffapgkjaaaDoorLe
import Derived.Test.YtpfncffapgkjaaaDoorLf
import Derived.Test.YtpfncffapgkjaaaDoorLg
import Derived.Test.YtpfncffapgkjaaaDoorLi
import Derived.Test.YtpfncffapgkjaaaDoorLj
import Derived.Test.YtpfncffapgkjaaaDoorLk
import Derived.Test.YtpfncffapgkjaaaDoorLw
import Derived.Test.YtpfncffapgkjaaaDoorMa
import Derived.Test.YtpfncffapgkjaaaDoorMb
import Derived.Test.YtpfncffapgkjaaaDoorNa
namespace Go.Proofs.YtpfncffapgkjaaaDoor
set_option linter.unusedVariables false
open Go.Ab Go.RowKit

theorem qNd0 {a : Prop} (h : a := by first | omega | exact trivial | rfl | (simp only [len_u8s, len_u32s, len_u64s, len_ints, len_bools, len_cells]; omega) | exact inR_i64.mpr ⟨by omega, by omega⟩ | (simp <;> omega) | (refine And.intro ?_ ?_ <;> exact trivial) | exact ⟨trivial, trivial, trivial⟩ | decide | (refine And.intro rfl ?_; (repeat first | exact trivial | refine And.intro rfl ?_); done) | exact Nat.succ_pos _ | exact Nat.le_refl _ | (refine And.intro trivial ?_; (repeat first | exact trivial | refine And.intro trivial ?_); done)) : a := h

theorem cutO_len (L : List Bool) (h p : Nat) : (cutO L h p).1.1.length ≤ 512 ∧ (cutO L h p).1.2.length ≤ 512 := by
  rw [cutO]
  split
  · exact ⟨by simp; omega, by simp; omega⟩
  · exact ⟨Nat.zero_le _, Nat.zero_le _⟩
theorem canonO_len (g : Nat → Bool) (h p : Nat) : (canonO g h p).1.1.length ≤ 512 ∧ (canonO g h p).1.2.length ≤ 512 := cutO_len _ _ _
theorem errO_len (e : Nat) : (errO e).1.1.length ≤ 512 ∧ (errO e).1.2.length ≤ 512 := ⟨Nat.zero_le _, Nat.zero_le _⟩
theorem canonL_len (a b : List Bool) : (canonL a b).1.1.length ≤ 512 ∧ (canonL a b).1.2.length ≤ 512 := by
  rw [canonL]
  split
  · exact canonO_len ..
  · exact errO_len _
theorem mergeL_len (op : Bool → Bool → Bool) (a b c d : List Bool) : (mergeL op a b c d).1.1.length ≤ 512 ∧ (mergeL op a b c d).1.2.length ≤ 512 := by
  rw [mergeL]
  split
  · exact canonO_len ..
  · exact errO_len _
theorem sumL_len (a b c d : List Bool) : (sumL a b c d).1.1.length ≤ 512 ∧ (sumL a b c d).1.2.length ≤ 512 := by
  rw [sumL]
  split
  · exact canonO_len ..
  · exact errO_len _
noncomputable def x4 : Ctx := { P := Tryd.prog, ty := ty, glob := gl, fs := [(12, .flat sanityS), (13, .data madeS), (14, .data canonPS), (15, .data canonRS), (27, .data sumPS), (23, .data andPS), (25, .data orPS), (28, .data sumRS), (24, .data andRS), (26, .data orRS), (16, .flat sameS), (17, .flat validS), (18, .flat validRS), (21, .flat leastS), (22, .flat leastRS), (19, .flat hasS), (20, .flat hasRS)] }
theorem x4_ok : x4.OK := ⟨tyOK, ⟨⟨enters_mk Tryd.func12 (by kernel_rfl) rfl, sanity_ok⟩, ⟨enters_mk Tryd.func13 (by kernel_rfl) rfl, made_ok⟩, ⟨enters_mk Tryd.func14 (by kernel_rfl) rfl, canonP_ok⟩, ⟨enters_mk Tryd.func15 (by kernel_rfl) rfl, canonR_ok⟩, ⟨enters_mk Tryd.func27 (by kernel_rfl) rfl, sumP_ok⟩, ⟨enters_mk Tryd.func23 (by kernel_rfl) rfl, andP_ok⟩, ⟨enters_mk Tryd.func25 (by kernel_rfl) rfl, orP_ok⟩, ⟨enters_mk Tryd.func28 (by kernel_rfl) rfl, sumR_ok⟩, ⟨enters_mk Tryd.func24 (by kernel_rfl) rfl, andR_ok⟩, ⟨enters_mk Tryd.func26 (by kernel_rfl) rfl, orR_ok⟩, ⟨enters_mk Tryd.func16 (by kernel_rfl) rfl, same_ok⟩, ⟨enters_mk Tryd.func17 (by kernel_rfl) rfl, valid_ok⟩, ⟨enters_mk Tryd.func18 (by kernel_rfl) rfl, validR_ok⟩, ⟨enters_mk Tryd.func21 (by kernel_rfl) rfl, least_ok⟩, ⟨enters_mk Tryd.func22 (by kernel_rfl) rfl, leastR_ok⟩, ⟨enters_mk Tryd.func19 (by kernel_rfl) rfl, has_ok⟩, ⟨enters_mk Tryd.func20 (by kernel_rfl) rfl, hasR_ok⟩, trivial⟩, mixed⟩
@[simp] theorem x4_ty : x4.ty = ty := rfl

def lawMatchesS : QSpec := fun vs K => ∃ a b c d : List Bool, ∃ n : Int, vs = [lsV a b, lsV c d, .c (.int .i64 n)] ∧ (a.length ≤ 9223372036854775807 ∧ b.length ≤ 9223372036854775807 ∧ c.length ≤ 9223372036854775807 ∧ d.length ≤ 9223372036854775807 ∧ -9223372036854775808 ≤ n ∧ n ≤ 9223372036854775807) ∧ K (.c (.bool true))
set_option maxHeartbeats 2000000 in
theorem lawMatches_ok : FlatOK Tryd.prog gl 3 lawMatchesS := by
 refine flat_of (Γ := x4) (N := 129) Tryd.func3 rfl rfl fun vs K h => ?_
 obtain ⟨a, b, c, d, n, rfl, ⟨hl1, hl2, hl3, hl4, hn1, hn2⟩, h⟩ := h
 refine ⟨_, h, rfl, by simp, fun w I => ?_⟩
 refine seq_k fun _ hK1 => ?_
 refine region_k x4_ok fun _ hK2 => ?_
 refine s_step rfl (by decide) rfl fun _ hS => ?_
 repeat refine And.intro qNd0 ?_
 refine hS _ _ _ ?_
 clear hS
 refine s_step rfl (by decide) rfl fun _ hS => ?_
 repeat refine And.intro qNd0 ?_
 refine hS _ _ _ ?_
 clear hS
 refine s_step rfl (by decide) rfl fun _ hS => ?_
 refine hS _ _ _ ?_
 clear hS
 refine s_nil ?_
 refine hK2 _ _ _ ?_
 refine hK1 _ _ _ ?_
 refine seq_k fun _ hK3 => ?_
 refine region_k x4_ok fun _ hK4 => ?_
 refine s_step rfl (by decide) rfl fun _ hS => ?_
 repeat first | refine And.intro qNd0 ?_ | refine whole_yes qNd0 ?_ | refine whole_sub ?_
 skip
 repeat refine And.intro qNd0 ?_
 first | refine hS _ _ _ ?_ | (intro cap0 hcap0; refine hS _ _ _ ?_)
 clear hS
 refine s_step rfl (by decide) rfl fun _ hS => ?_
 refine hS _ _ _ ?_
 clear hS
 refine s_nil ?_
 refine hK4 _ _ _ ?_
 refine hK3 _ _ _ ?_
 refine seq_k fun _ hK5 => ?_
 refine region_k x4_ok fun _ hK6 => ?_
 refine s_step rfl (by decide) rfl fun _ hS => ?_
 repeat refine And.intro qNd0 ?_
 first | refine hS _ _ _ ?_ | (refine whole_yes qNd0 ?_; refine hS _ _ _ ?_) | (refine whole_sub ?_; refine hS _ _ _ ?_)
 clear hS
 refine s_step rfl (by decide) rfl fun _ hS => ?_
 repeat first | refine And.intro qNd0 ?_ | refine whole_yes qNd0 ?_ | refine whole_sub ?_
 refine ⟨a, b, 10, 24, rfl, ⟨by omega, by omega, by omega, by omega⟩, ?_⟩
 have hX := made_len a b 10 24
 generalize madeL a b 10 24 = X at hX ⊢
 repeat refine And.intro qNd0 ?_
 first | refine hS _ _ _ ?_ | (intro cap1 hcap1; refine hS _ _ _ ?_)
 clear hS
 refine s_step rfl (by decide) rfl fun _ hS => ?_
 repeat refine And.intro qNd0 ?_
 refine hS _ _ _ ?_
 clear hS
 refine s_step0 rfl rfl fun _ hS => ?_
 repeat refine And.intro qNd0 ?_
 first | refine hS _ _ _ ?_ | (refine splice_full qNd0 ?_; refine hS _ _ _ ?_)
 clear hS
 refine s_nil ?_
 refine hK6 _ _ _ ?_
 refine hK5 _ _ _ ?_
 refine seq_k fun _ hK7 => ?_
 refine region_k x4_ok fun _ hK8 => ?_
 refine s_step rfl (by decide) rfl fun _ hS => ?_
 repeat refine And.intro qNd0 ?_
 first | refine hS _ _ _ ?_ | (refine whole_yes qNd0 ?_; refine hS _ _ _ ?_) | (refine whole_sub ?_; refine hS _ _ _ ?_)
 clear hS
 refine s_step rfl (by decide) rfl fun _ hS => ?_
 repeat first | refine And.intro qNd0 ?_ | refine whole_yes qNd0 ?_ | refine whole_sub ?_
 refine ⟨c, d, 10, 24, rfl, ⟨by omega, by omega, by omega, by omega⟩, ?_⟩
 have hY := made_len c d 10 24
 generalize madeL c d 10 24 = Y at hY ⊢
 repeat refine And.intro qNd0 ?_
 first | refine hS _ _ _ ?_ | (intro cap1 hcap1; refine hS _ _ _ ?_)
 clear hS
 refine s_step rfl (by decide) rfl fun _ hS => ?_
 repeat refine And.intro qNd0 ?_
 refine hS _ _ _ ?_
 clear hS
 refine s_step0 rfl rfl fun _ hS => ?_
 repeat refine And.intro qNd0 ?_
 first | refine hS _ _ _ ?_ | (refine splice_full qNd0 ?_; refine hS _ _ _ ?_)
 clear hS
 refine s_nil ?_
 refine hK8 _ _ _ ?_
 refine hK7 _ _ _ ?_
 refine seq_k fun _ hK9 => ?_
 refine region_k x4_ok fun _ hK10 => ?_
 refine s_step rfl (by decide) rfl fun _ hS => ?_
 repeat refine And.intro qNd0 ?_
 first | refine hS _ _ _ ?_ | (refine whole_yes qNd0 ?_; refine hS _ _ _ ?_) | (refine whole_sub ?_; refine hS _ _ _ ?_)
 clear hS
 refine s_step rfl (by decide) rfl fun _ hS => ?_
 repeat first | refine And.intro qNd0 ?_ | refine whole_yes qNd0 ?_ | refine whole_sub ?_
 refine ⟨a, b, rfl, ⟨hl1, hl2⟩, ?_⟩
 obtain ⟨o, ho⟩ : ∃ x, x = canonL a b := ⟨_, rfl⟩
 rw [← ho]
 have lo := canonL_len a b
 rw [← ho] at lo
 repeat refine And.intro qNd0 ?_
 first | refine hS _ _ _ ?_ | (intro cap1 hcap1; refine hS _ _ _ ?_)
 clear hS
 refine s_step rfl (by decide) rfl fun _ hS => ?_
 refine hS _ _ _ ?_
 clear hS
 refine s_step rfl (by decide) rfl fun _ hS => ?_
 repeat refine And.intro qNd0 ?_
 refine hS _ _ _ ?_
 clear hS
 refine s_step rfl (by decide) rfl fun _ hS => ?_
 repeat refine And.intro qNd0 ?_
 refine hS _ _ _ ?_
 clear hS
 refine s_step rfl (by decide) rfl fun _ hS => ?_
 repeat refine And.intro qNd0 ?_
 refine hS _ _ _ ?_
 clear hS
 refine s_step0 rfl rfl fun _ hS => ?_
 repeat refine And.intro qNd0 ?_
 first | refine hS _ _ _ ?_ | (refine splice_full qNd0 ?_; refine hS _ _ _ ?_)
 clear hS
 refine s_step rfl (by decide) rfl fun _ hS => ?_
 refine hS _ _ _ ?_
 clear hS
 refine s_nil ?_
 refine hK10 _ _ _ ?_
 refine hK9 _ _ _ ?_
 refine seq_k fun _ hK11 => ?_
 refine region_k x4_ok fun _ hK12 => ?_
 refine s_step rfl (by decide) rfl fun _ hS => ?_
 repeat refine And.intro qNd0 ?_
 first | refine hS _ _ _ ?_ | (refine whole_yes qNd0 ?_; refine hS _ _ _ ?_) | (refine whole_sub ?_; refine hS _ _ _ ?_)
 clear hS
 refine s_step rfl (by decide) rfl fun _ hS => ?_
 repeat first | refine And.intro qNd0 ?_ | refine whole_yes qNd0 ?_ | refine whole_sub ?_
 refine ⟨a, b, rfl, ⟨hl1, hl2⟩, ?_⟩
 rw [← canonL_eq, ← ho]
 repeat refine And.intro qNd0 ?_
 first | refine hS _ _ _ ?_ | (intro cap1 hcap1; refine hS _ _ _ ?_)
 clear hS
 refine s_step rfl (by decide) rfl fun _ hS => ?_
 refine hS _ _ _ ?_
 clear hS
 refine s_step rfl (by decide) rfl fun _ hS => ?_
 repeat refine And.intro qNd0 ?_
 refine hS _ _ _ ?_
 clear hS
 refine s_step rfl (by decide) rfl fun _ hS => ?_
 repeat refine And.intro qNd0 ?_
 refine hS _ _ _ ?_
 clear hS
 refine s_step rfl (by decide) rfl fun _ hS => ?_
 repeat refine And.intro qNd0 ?_
 refine hS _ _ _ ?_
 clear hS
 refine s_step0 rfl rfl fun _ hS => ?_
 repeat refine And.intro qNd0 ?_
 first | refine hS _ _ _ ?_ | (refine splice_full qNd0 ?_; refine hS _ _ _ ?_)
 clear hS
 refine s_step rfl (by decide) rfl fun _ hS => ?_
 refine hS _ _ _ ?_
 clear hS
 refine s_nil ?_
 refine hK12 _ _ _ ?_
 refine hK11 _ _ _ ?_
 refine seq_k fun _ hK13 => ?_
 refine seq_k fun _ hK14 => ?_
 refine quiet_k x4_ok (by kernel_rfl) fun _ hK15 => ?_
 refine q_step rfl (by decide) rfl fun _ hS => ?_
 refine hS _ ?_
 clear hS
 refine q_step rfl (by decide) rfl fun _ hS => ?_
 refine hS _ ?_
 clear hS
 refine q_step rfl (by decide) rfl fun _ hS => ?_
 refine q_split hS (fun hb2 => ?_) (fun hb2 => ?_)
 ·exfalso; first | (simp at hb2; done) | exact absurd hb2 (by decide)
 clear hS
 refine q_guard (b := false) rfl (by decide) rfl rfl (fun _ _ hS => ?_) (fun e => absurd e (by decide))
 repeat refine And.intro qNd0 ?_
 first | refine hS _ ?_ | (refine whole_yes qNd0 ?_; refine hS _ ?_) | (refine whole_sub ?_; refine hS _ ?_)
 clear hS
 refine q_guard (b := false) rfl (by decide) rfl rfl (fun _ _ hS => ?_) (fun e => absurd e (by decide))
 repeat refine And.intro qNd0 ?_
 first | refine hS _ ?_ | (refine whole_yes qNd0 ?_; refine hS _ ?_) | (refine whole_sub ?_; refine hS _ ?_)
 clear hS
 refine q_guard (b := false) rfl (by decide) rfl rfl (fun _ _ hS => ?_) (fun e => absurd e (by decide))
 repeat first | refine And.intro qNd0 ?_ | refine whole_yes qNd0 ?_ | refine whole_sub ?_
 refine ⟨o.1.1, o.1.2, o.1.1, o.1.2, rfl, ⟨by omega, by omega, by omega, by omega⟩, ?_⟩
 rw [show decide (o.1.1 = o.1.1 ∧ o.1.2 = o.1.2) = true from decide_eq_true ⟨rfl, rfl⟩]
 repeat refine And.intro qNd0 ?_
 first | refine hS _ ?_ | (intro cap5 hcap5; refine hS _ ?_)
 clear hS
 refine q_guard (b := false) rfl (by decide) rfl rfl (fun _ _ hS => ?_) (fun e => absurd e (by decide))
 refine hS _ ?_
 clear hS
 refine q_step rfl (by decide) rfl fun _ hS => ?_
 refine hS _ ?_
 clear hS
 refine q_step rfl (by decide) rfl fun _ hS => ?_
 refine q_split hS (fun hb8 => ?_) (fun hb8 => ?_)
 ·exfalso; first | (simp at hb8; done) | exact absurd hb8 (by decide)
 clear hS
 refine q_guard (b := false) rfl (by decide) rfl rfl (fun _ _ hS => ?_) (fun e => absurd e (by decide))
 refine hS _ ?_
 clear hS
 refine q_guard (b := false) rfl (by decide) rfl rfl (fun _ _ hS => ?_) (fun e => absurd e (by decide))
 refine hS _ ?_
 clear hS
 refine q_guard (b := false) rfl (by decide) rfl rfl (fun _ _ hS => ?_) (fun e => absurd e (by decide))
 repeat refine And.intro qNd0 ?_
 refine hS _ ?_
 clear hS
 refine q_step rfl (by decide) rfl fun _ hS => ?_
 refine hS _ ?_
 clear hS
 refine q_step rfl (by decide) rfl fun _ hS => ?_
 refine q_split hS (fun hb13 => ?_) (fun hb13 => ?_)
 ·exfalso; first | (simp at hb13; done) | exact absurd hb13 (by decide)
 clear hS
 refine q_guard (b := false) rfl (by decide) rfl rfl (fun _ _ hS => ?_) (fun e => absurd e (by decide))
 repeat refine And.intro qNd0 ?_
 first | refine hS _ ?_ | (refine whole_yes qNd0 ?_; refine hS _ ?_) | (refine whole_sub ?_; refine hS _ ?_)
 clear hS
 refine q_guard (b := false) rfl (by decide) rfl rfl (fun _ _ hS => ?_) (fun e => absurd e (by decide))
 repeat first | refine And.intro qNd0 ?_ | refine whole_yes qNd0 ?_ | refine whole_sub ?_
 refine ⟨a, b, rfl, ⟨hl1, hl2⟩, ?_⟩
 repeat refine And.intro qNd0 ?_
 first | refine hS _ ?_ | (intro cap15 hcap15; refine hS _ ?_)
 clear hS
 refine q_guard (b := false) rfl (by decide) rfl rfl (fun _ _ hS => ?_) (fun e => absurd e (by decide))
 repeat refine And.intro qNd0 ?_
 first | refine hS _ ?_ | (refine whole_yes qNd0 ?_; refine hS _ ?_) | (refine whole_sub ?_; refine hS _ ?_)
 clear hS
 refine q_guard (b := false) rfl (by decide) rfl rfl (fun _ _ hS => ?_) (fun e => absurd e (by decide))
 repeat first | refine And.intro qNd0 ?_ | refine whole_yes qNd0 ?_ | refine whole_sub ?_
 refine ⟨a, b, rfl, ⟨hl1, hl2⟩, ?_⟩
 repeat refine And.intro qNd0 ?_
 first | refine hS _ ?_ | (intro cap17 hcap17; refine hS _ ?_)
 clear hS
 refine q_guard (b := false) rfl (by decide) rfl rfl (fun _ _ hS => ?_) (fun e => absurd e (by decide))
 repeat refine And.intro qNd0 ?_
 refine hS _ ?_
 clear hS
 refine q_step rfl (by decide) rfl fun _ hS => ?_
 refine hS _ ?_
 clear hS
 refine q_step rfl (by decide) rfl fun _ hS => ?_
 refine q_split hS (fun hb20 => ?_) (fun hb20 => ?_)
 ·exfalso; first | (simp at hb20; done) | exact absurd hb20 (by decide)
 clear hS
 refine q_guard (b := false) rfl (by decide) rfl rfl (fun _ _ hS => ?_) (fun e => absurd e (by decide))
 repeat refine And.intro qNd0 ?_
 first | refine hS _ ?_ | (refine whole_yes qNd0 ?_; refine hS _ ?_) | (refine whole_sub ?_; refine hS _ ?_)
 clear hS
 refine q_guard (b := false) rfl (by decide) rfl rfl (fun _ _ hS => ?_) (fun e => absurd e (by decide))
 refine hS _ ?_
 clear hS
 refine q_guard (b := false) rfl (by decide) rfl rfl (fun _ _ hS => ?_) (fun e => absurd e (by decide))
 repeat first | refine And.intro qNd0 ?_ | refine whole_yes qNd0 ?_ | refine whole_sub ?_
 refine ⟨a, b, n, rfl, ⟨hl1, hl2, by omega⟩, ?_⟩
 repeat refine And.intro qNd0 ?_
 first | refine hS _ ?_ | (intro cap23 hcap23; refine hS _ ?_)
 clear hS
 refine q_guard (b := false) rfl (by decide) rfl rfl (fun _ _ hS => ?_) (fun e => absurd e (by decide))
 repeat refine And.intro qNd0 ?_
 first | refine hS _ ?_ | (refine whole_yes qNd0 ?_; refine hS _ ?_) | (refine whole_sub ?_; refine hS _ ?_)
 clear hS
 refine q_guard (b := false) rfl (by decide) rfl rfl (fun _ _ hS => ?_) (fun e => absurd e (by decide))
 refine hS _ ?_
 clear hS
 refine q_guard (b := false) rfl (by decide) rfl rfl (fun _ _ hS => ?_) (fun e => absurd e (by decide))
 repeat first | refine And.intro qNd0 ?_ | refine whole_yes qNd0 ?_ | refine whole_sub ?_
 refine ⟨a, b, n, rfl, ⟨hl1, hl2, by omega⟩, ?_⟩
 repeat refine And.intro qNd0 ?_
 first | refine hS _ ?_ | (intro cap26 hcap26; refine hS _ ?_)
 clear hS
 refine q_guard (b := false) rfl (by decide) rfl rfl (fun _ _ hS => ?_) (fun e => absurd e (by decide))
 repeat refine And.intro qNd0 ?_
 refine hS _ ?_
 clear hS
 refine q_step rfl (by decide) rfl fun _ hS => ?_
 refine hS _ ?_
 clear hS
 refine q_step rfl (by decide) rfl fun _ hS => ?_
 refine q_split hS (fun hb29 => ?_) (fun hb29 => ?_)
 ·exfalso; first | (simp at hb29; done) | exact absurd hb29 (by decide)
 clear hS
 refine q_guard (b := false) rfl (by decide) rfl rfl (fun _ _ hS => ?_) (fun e => absurd e (by decide))
 repeat refine And.intro qNd0 ?_
 first | refine hS _ ?_ | (refine whole_yes qNd0 ?_; refine hS _ ?_) | (refine whole_sub ?_; refine hS _ ?_)
 clear hS
 refine q_guard (b := false) rfl (by decide) rfl rfl (fun _ _ hS => ?_) (fun e => absurd e (by decide))
 refine hS _ ?_
 clear hS
 refine q_guard (b := false) rfl (by decide) rfl rfl (fun _ _ hS => ?_) (fun e => absurd e (by decide))
 repeat first | refine And.intro qNd0 ?_ | refine whole_yes qNd0 ?_ | refine whole_sub ?_
 refine ⟨a, b, n, rfl, ⟨hl1, hl2, by omega, by omega⟩, ?_⟩
 repeat refine And.intro qNd0 ?_
 first | refine hS _ ?_ | (intro cap32 hcap32; refine hS _ ?_)
 clear hS
 refine q_guard (b := false) rfl (by decide) rfl rfl (fun _ _ hS => ?_) (fun e => absurd e (by decide))
 repeat refine And.intro qNd0 ?_
 first | refine hS _ ?_ | (refine whole_yes qNd0 ?_; refine hS _ ?_) | (refine whole_sub ?_; refine hS _ ?_)
 clear hS
 refine q_guard (b := false) rfl (by decide) rfl rfl (fun _ _ hS => ?_) (fun e => absurd e (by decide))
 refine hS _ ?_
 clear hS
 refine q_guard (b := false) rfl (by decide) rfl rfl (fun _ _ hS => ?_) (fun e => absurd e (by decide))
 repeat first | refine And.intro qNd0 ?_ | refine whole_yes qNd0 ?_ | refine whole_sub ?_
 refine ⟨a, b, n, rfl, ⟨hl1, hl2, by omega, by omega⟩, ?_⟩
 repeat refine And.intro qNd0 ?_
 first | refine hS _ ?_ | (intro cap35 hcap35; refine hS _ ?_)
 clear hS
 refine q_guard (b := false) rfl (by decide) rfl rfl (fun _ _ hS => ?_) (fun e => absurd e (by decide))
 repeat refine And.intro qNd0 ?_
 refine hS _ ?_
 clear hS
 refine q_step rfl (by decide) rfl fun _ hS => ?_
 refine hS _ ?_
 clear hS
 refine q_nil ?_
 refine hK15 _ ?_
 refine hK14 _ _ _ ?_
 refine WP_cond (b := _) rfl (fun h_t66 => ?_) (fun _ => ?_)
 ·exfalso; first | (simp at h_t66; done) | exact absurd h_t66 (by decide)
 refine WP_skip ?_
 refine hK13 _ _ _ ?_
 refine seq_k fun _ hK16 => ?_
 refine region_k x4_ok fun _ hK17 => ?_
 refine s_step rfl (by decide) rfl fun _ hS => ?_
 repeat refine And.intro qNd0 ?_
 first | refine hS _ _ _ ?_ | (refine whole_yes qNd0 ?_; refine hS _ _ _ ?_) | (refine whole_sub ?_; refine hS _ _ _ ?_)
 clear hS
 refine s_step rfl (by decide) rfl fun _ hS => ?_
 repeat refine And.intro qNd0 ?_
 first | refine hS _ _ _ ?_ | (refine whole_yes qNd0 ?_; refine hS _ _ _ ?_) | (refine whole_sub ?_; refine hS _ _ _ ?_)
 clear hS
 refine s_step rfl (by decide) rfl fun _ hS => ?_
 repeat first | refine And.intro qNd0 ?_ | refine whole_yes qNd0 ?_ | refine whole_sub ?_
 refine ⟨X.1, X.2, Y.1, Y.2, rfl, ⟨by omega, by omega, by omega, by omega⟩, ?_⟩
 obtain ⟨p, hp⟩ : ∃ x, x = mergeL (fun x y => x && y) X.1 X.2 Y.1 Y.2 := ⟨_, rfl⟩
 rw [← hp]
 have lp := mergeL_len (fun x y => x && y) X.1 X.2 Y.1 Y.2
 rw [← hp] at lp
 repeat refine And.intro qNd0 ?_
 first | refine hS _ _ _ ?_ | (intro cap2 hcap2; refine hS _ _ _ ?_)
 clear hS
 refine s_step rfl (by decide) rfl fun _ hS => ?_
 refine hS _ _ _ ?_
 clear hS
 refine s_step rfl (by decide) rfl fun _ hS => ?_
 repeat refine And.intro qNd0 ?_
 refine hS _ _ _ ?_
 clear hS
 refine s_step rfl (by decide) rfl fun _ hS => ?_
 repeat refine And.intro qNd0 ?_
 refine hS _ _ _ ?_
 clear hS
 refine s_step0 rfl rfl fun _ hS => ?_
 repeat refine And.intro qNd0 ?_
 first | refine hS _ _ _ ?_ | (refine splice_full qNd0 ?_; refine hS _ _ _ ?_)
 clear hS
 refine s_step rfl (by decide) rfl fun _ hS => ?_
 refine hS _ _ _ ?_
 clear hS
 refine s_nil ?_
 refine hK17 _ _ _ ?_
 refine hK16 _ _ _ ?_
 refine seq_k fun _ hK18 => ?_
 refine region_k x4_ok fun _ hK19 => ?_
 refine s_step rfl (by decide) rfl fun _ hS => ?_
 repeat refine And.intro qNd0 ?_
 first | refine hS _ _ _ ?_ | (refine whole_yes qNd0 ?_; refine hS _ _ _ ?_) | (refine whole_sub ?_; refine hS _ _ _ ?_)
 clear hS
 refine s_step rfl (by decide) rfl fun _ hS => ?_
 repeat refine And.intro qNd0 ?_
 first | refine hS _ _ _ ?_ | (refine whole_yes qNd0 ?_; refine hS _ _ _ ?_) | (refine whole_sub ?_; refine hS _ _ _ ?_)
 clear hS
 refine s_step rfl (by decide) rfl fun _ hS => ?_
 repeat first | refine And.intro qNd0 ?_ | refine whole_yes qNd0 ?_ | refine whole_sub ?_
 refine ⟨X.1, X.2, Y.1, Y.2, rfl, ⟨by omega, by omega, by omega, by omega⟩, ?_⟩
 rw [← mergeL_eq, ← hp]
 repeat refine And.intro qNd0 ?_
 first | refine hS _ _ _ ?_ | (intro cap2 hcap2; refine hS _ _ _ ?_)
 clear hS
 refine s_step rfl (by decide) rfl fun _ hS => ?_
 refine hS _ _ _ ?_
 clear hS
 refine s_step rfl (by decide) rfl fun _ hS => ?_
 repeat refine And.intro qNd0 ?_
 refine hS _ _ _ ?_
 clear hS
 refine s_step rfl (by decide) rfl fun _ hS => ?_
 repeat refine And.intro qNd0 ?_
 refine hS _ _ _ ?_
 clear hS
 refine s_step0 rfl rfl fun _ hS => ?_
 repeat refine And.intro qNd0 ?_
 first | refine hS _ _ _ ?_ | (refine splice_full qNd0 ?_; refine hS _ _ _ ?_)
 clear hS
 refine s_step rfl (by decide) rfl fun _ hS => ?_
 refine hS _ _ _ ?_
 clear hS
 refine s_nil ?_
 refine hK19 _ _ _ ?_
 refine hK18 _ _ _ ?_
 refine seq_k fun _ hK20 => ?_
 refine seq_k fun _ hK21 => ?_
 refine region_k x4_ok fun _ hK22 => ?_
 refine s_step rfl (by decide) rfl fun _ hS => ?_
 repeat refine And.intro qNd0 ?_
 first | refine hS _ _ _ ?_ | (refine whole_yes qNd0 ?_; refine hS _ _ _ ?_) | (refine whole_sub ?_; refine hS _ _ _ ?_)
 clear hS
 refine s_step rfl (by decide) rfl fun _ hS => ?_
 repeat refine And.intro qNd0 ?_
 first | refine hS _ _ _ ?_ | (refine whole_yes qNd0 ?_; refine hS _ _ _ ?_) | (refine whole_sub ?_; refine hS _ _ _ ?_)
 clear hS
 refine s_step rfl (by decide) rfl fun _ hS => ?_
 repeat first | refine And.intro qNd0 ?_ | refine whole_yes qNd0 ?_ | refine whole_sub ?_
 refine ⟨p.1.1, p.1.2, p.1.1, p.1.2, rfl, ⟨by omega, by omega, by omega, by omega⟩, ?_⟩
 rw [show decide (p.1.1 = p.1.1 ∧ p.1.2 = p.1.2) = true from decide_eq_true ⟨rfl, rfl⟩]
 repeat refine And.intro qNd0 ?_
 first | refine hS _ _ _ ?_ | (intro cap2 hcap2; refine hS _ _ _ ?_)
 clear hS
 refine s_step rfl (by decide) rfl fun _ hS => ?_
 refine hS _ _ _ ?_
 clear hS
 refine s_step rfl (by decide) rfl fun _ hS => ?_
 refine s_split hS (fun hb4 => ?_) (fun hb4 => ?_)
 ·exfalso; first | (simp at hb4; done) | exact absurd hb4 (by decide)
 clear hS
 refine s_guard (b := false) rfl (by decide) rfl rfl (fun _ _ hS => ?_) (fun e => absurd e (by decide))
 refine hS _ _ _ ?_
 clear hS
 refine s_guard (b := false) rfl (by decide) rfl rfl (fun _ _ hS => ?_) (fun e => absurd e (by decide))
 refine hS _ _ _ ?_
 clear hS
 refine s_guard (b := false) rfl (by decide) rfl rfl (fun _ _ hS => ?_) (fun e => absurd e (by decide))
 repeat refine And.intro qNd0 ?_
 refine hS _ _ _ ?_
 clear hS
 refine s_step rfl (by decide) rfl fun _ hS => ?_
 refine hS _ _ _ ?_
 clear hS
 refine s_nil ?_
 refine hK22 _ _ _ ?_
 refine hK21 _ _ _ ?_
 refine WP_cond (b := _) rfl (fun h_t87 => ?_) (fun _ => ?_)
 ·exfalso; first | (simp at h_t87; done) | exact absurd h_t87 (by decide)
 refine WP_skip ?_
 refine hK20 _ _ _ ?_
 refine seq_k fun _ hK23 => ?_
 refine region_k x4_ok fun _ hK24 => ?_
 refine s_step rfl (by decide) rfl fun _ hS => ?_
 repeat refine And.intro qNd0 ?_
 first | refine hS _ _ _ ?_ | (refine whole_yes qNd0 ?_; refine hS _ _ _ ?_) | (refine whole_sub ?_; refine hS _ _ _ ?_)
 clear hS
 refine s_step rfl (by decide) rfl fun _ hS => ?_
 repeat refine And.intro qNd0 ?_
 first | refine hS _ _ _ ?_ | (refine whole_yes qNd0 ?_; refine hS _ _ _ ?_) | (refine whole_sub ?_; refine hS _ _ _ ?_)
 clear hS
 refine s_step rfl (by decide) rfl fun _ hS => ?_
 repeat first | refine And.intro qNd0 ?_ | refine whole_yes qNd0 ?_ | refine whole_sub ?_
 refine ⟨X.1, X.2, Y.1, Y.2, rfl, ⟨by omega, by omega, by omega, by omega⟩, ?_⟩
 obtain ⟨q, hq⟩ : ∃ x, x = mergeL (fun x y => x || y) X.1 X.2 Y.1 Y.2 := ⟨_, rfl⟩
 rw [← hq]
 have lq := mergeL_len (fun x y => x || y) X.1 X.2 Y.1 Y.2
 rw [← hq] at lq
 repeat refine And.intro qNd0 ?_
 first | refine hS _ _ _ ?_ | (intro cap2 hcap2; refine hS _ _ _ ?_)
 clear hS
 refine s_step rfl (by decide) rfl fun _ hS => ?_
 refine hS _ _ _ ?_
 clear hS
 refine s_step rfl (by decide) rfl fun _ hS => ?_
 repeat refine And.intro qNd0 ?_
 refine hS _ _ _ ?_
 clear hS
 refine s_step rfl (by decide) rfl fun _ hS => ?_
 repeat refine And.intro qNd0 ?_
 refine hS _ _ _ ?_
 clear hS
 refine s_step0 rfl rfl fun _ hS => ?_
 repeat refine And.intro qNd0 ?_
 first | refine hS _ _ _ ?_ | (refine splice_full qNd0 ?_; refine hS _ _ _ ?_)
 clear hS
 refine s_step rfl (by decide) rfl fun _ hS => ?_
 refine hS _ _ _ ?_
 clear hS
 refine s_nil ?_
 refine hK24 _ _ _ ?_
 refine hK23 _ _ _ ?_
 refine seq_k fun _ hK25 => ?_
 refine region_k x4_ok fun _ hK26 => ?_
 refine s_step rfl (by decide) rfl fun _ hS => ?_
 repeat refine And.intro qNd0 ?_
 first | refine hS _ _ _ ?_ | (refine whole_yes qNd0 ?_; refine hS _ _ _ ?_) | (refine whole_sub ?_; refine hS _ _ _ ?_)
 clear hS
 refine s_step rfl (by decide) rfl fun _ hS => ?_
 repeat refine And.intro qNd0 ?_
 first | refine hS _ _ _ ?_ | (refine whole_yes qNd0 ?_; refine hS _ _ _ ?_) | (refine whole_sub ?_; refine hS _ _ _ ?_)
 clear hS
 refine s_step rfl (by decide) rfl fun _ hS => ?_
 repeat first | refine And.intro qNd0 ?_ | refine whole_yes qNd0 ?_ | refine whole_sub ?_
 refine ⟨X.1, X.2, Y.1, Y.2, rfl, ⟨by omega, by omega, by omega, by omega⟩, ?_⟩
 rw [← mergeL_eq, ← hq]
 repeat refine And.intro qNd0 ?_
 first | refine hS _ _ _ ?_ | (intro cap2 hcap2; refine hS _ _ _ ?_)
 clear hS
 refine s_step rfl (by decide) rfl fun _ hS => ?_
 refine hS _ _ _ ?_
 clear hS
 refine s_step rfl (by decide) rfl fun _ hS => ?_
 repeat refine And.intro qNd0 ?_
 refine hS _ _ _ ?_
 clear hS
 refine s_step rfl (by decide) rfl fun _ hS => ?_
 repeat refine And.intro qNd0 ?_
 refine hS _ _ _ ?_
 clear hS
 refine s_step0 rfl rfl fun _ hS => ?_
 repeat refine And.intro qNd0 ?_
 first | refine hS _ _ _ ?_ | (refine splice_full qNd0 ?_; refine hS _ _ _ ?_)
 clear hS
 refine s_step rfl (by decide) rfl fun _ hS => ?_
 refine hS _ _ _ ?_
 clear hS
 refine s_nil ?_
 refine hK26 _ _ _ ?_
 refine hK25 _ _ _ ?_
 refine seq_k fun _ hK27 => ?_
 refine seq_k fun _ hK28 => ?_
 refine region_k x4_ok fun _ hK29 => ?_
 refine s_step rfl (by decide) rfl fun _ hS => ?_
 repeat refine And.intro qNd0 ?_
 first | refine hS _ _ _ ?_ | (refine whole_yes qNd0 ?_; refine hS _ _ _ ?_) | (refine whole_sub ?_; refine hS _ _ _ ?_)
 clear hS
 refine s_step rfl (by decide) rfl fun _ hS => ?_
 repeat refine And.intro qNd0 ?_
 first | refine hS _ _ _ ?_ | (refine whole_yes qNd0 ?_; refine hS _ _ _ ?_) | (refine whole_sub ?_; refine hS _ _ _ ?_)
 clear hS
 refine s_step rfl (by decide) rfl fun _ hS => ?_
 repeat first | refine And.intro qNd0 ?_ | refine whole_yes qNd0 ?_ | refine whole_sub ?_
 refine ⟨q.1.1, q.1.2, q.1.1, q.1.2, rfl, ⟨by omega, by omega, by omega, by omega⟩, ?_⟩
 rw [show decide (q.1.1 = q.1.1 ∧ q.1.2 = q.1.2) = true from decide_eq_true ⟨rfl, rfl⟩]
 repeat refine And.intro qNd0 ?_
 first | refine hS _ _ _ ?_ | (intro cap2 hcap2; refine hS _ _ _ ?_)
 clear hS
 refine s_step rfl (by decide) rfl fun _ hS => ?_
 refine hS _ _ _ ?_
 clear hS
 refine s_step rfl (by decide) rfl fun _ hS => ?_
 refine s_split hS (fun hb4 => ?_) (fun hb4 => ?_)
 ·exfalso; first | (simp at hb4; done) | exact absurd hb4 (by decide)
 clear hS
 refine s_guard (b := false) rfl (by decide) rfl rfl (fun _ _ hS => ?_) (fun e => absurd e (by decide))
 refine hS _ _ _ ?_
 clear hS
 refine s_guard (b := false) rfl (by decide) rfl rfl (fun _ _ hS => ?_) (fun e => absurd e (by decide))
 refine hS _ _ _ ?_
 clear hS
 refine s_guard (b := false) rfl (by decide) rfl rfl (fun _ _ hS => ?_) (fun e => absurd e (by decide))
 repeat refine And.intro qNd0 ?_
 refine hS _ _ _ ?_
 clear hS
 refine s_step rfl (by decide) rfl fun _ hS => ?_
 refine hS _ _ _ ?_
 clear hS
 refine s_nil ?_
 refine hK29 _ _ _ ?_
 refine hK28 _ _ _ ?_
 refine WP_cond (b := _) rfl (fun h_t108 => ?_) (fun _ => ?_)
 ·exfalso; first | (simp at h_t108; done) | exact absurd h_t108 (by decide)
 refine WP_skip ?_
 refine hK27 _ _ _ ?_
 refine seq_k fun _ hK30 => ?_
 refine region_k x4_ok fun _ hK31 => ?_
 refine s_step rfl (by decide) rfl fun _ hS => ?_
 repeat refine And.intro qNd0 ?_
 first | refine hS _ _ _ ?_ | (refine whole_yes qNd0 ?_; refine hS _ _ _ ?_) | (refine whole_sub ?_; refine hS _ _ _ ?_)
 clear hS
 refine s_step rfl (by decide) rfl fun _ hS => ?_
 repeat refine And.intro qNd0 ?_
 first | refine hS _ _ _ ?_ | (refine whole_yes qNd0 ?_; refine hS _ _ _ ?_) | (refine whole_sub ?_; refine hS _ _ _ ?_)
 clear hS
 refine s_step rfl (by decide) rfl fun _ hS => ?_
 repeat first | refine And.intro qNd0 ?_ | refine whole_yes qNd0 ?_ | refine whole_sub ?_
 refine ⟨X.1, X.2, Y.1, Y.2, rfl, ⟨by omega, by omega, by omega, by omega⟩, ?_⟩
 obtain ⟨s, hs⟩ : ∃ x, x = sumL X.1 X.2 Y.1 Y.2 := ⟨_, rfl⟩
 rw [← hs]
 have ls := sumL_len X.1 X.2 Y.1 Y.2
 rw [← hs] at ls
 repeat refine And.intro qNd0 ?_
 first | refine hS _ _ _ ?_ | (intro cap2 hcap2; refine hS _ _ _ ?_)
 clear hS
 refine s_step rfl (by decide) rfl fun _ hS => ?_
 refine hS _ _ _ ?_
 clear hS
 refine s_step rfl (by decide) rfl fun _ hS => ?_
 repeat refine And.intro qNd0 ?_
 refine hS _ _ _ ?_
 clear hS
 refine s_step rfl (by decide) rfl fun _ hS => ?_
 repeat refine And.intro qNd0 ?_
 refine hS _ _ _ ?_
 clear hS
 refine s_step0 rfl rfl fun _ hS => ?_
 repeat refine And.intro qNd0 ?_
 first | refine hS _ _ _ ?_ | (refine splice_full qNd0 ?_; refine hS _ _ _ ?_)
 clear hS
 refine s_step rfl (by decide) rfl fun _ hS => ?_
 refine hS _ _ _ ?_
 clear hS
 refine s_nil ?_
 refine hK31 _ _ _ ?_
 refine hK30 _ _ _ ?_
 refine seq_k fun _ hK32 => ?_
 refine region_k x4_ok fun _ hK33 => ?_
 refine s_step rfl (by decide) rfl fun _ hS => ?_
 repeat refine And.intro qNd0 ?_
 first | refine hS _ _ _ ?_ | (refine whole_yes qNd0 ?_; refine hS _ _ _ ?_) | (refine whole_sub ?_; refine hS _ _ _ ?_)
 clear hS
 refine s_step rfl (by decide) rfl fun _ hS => ?_
 repeat refine And.intro qNd0 ?_
 first | refine hS _ _ _ ?_ | (refine whole_yes qNd0 ?_; refine hS _ _ _ ?_) | (refine whole_sub ?_; refine hS _ _ _ ?_)
 clear hS
 refine s_step rfl (by decide) rfl fun _ hS => ?_
 repeat first | refine And.intro qNd0 ?_ | refine whole_yes qNd0 ?_ | refine whole_sub ?_
 refine ⟨X.1, X.2, Y.1, Y.2, rfl, ⟨by omega, by omega, by omega, by omega⟩, ?_⟩
 rw [← sumL_eq, ← hs]
 repeat refine And.intro qNd0 ?_
 first | refine hS _ _ _ ?_ | (intro cap2 hcap2; refine hS _ _ _ ?_)
 clear hS
 refine s_step rfl (by decide) rfl fun _ hS => ?_
 refine hS _ _ _ ?_
 clear hS
 refine s_step rfl (by decide) rfl fun _ hS => ?_
 repeat refine And.intro qNd0 ?_
 refine hS _ _ _ ?_
 clear hS
 refine s_step rfl (by decide) rfl fun _ hS => ?_
 repeat refine And.intro qNd0 ?_
 refine hS _ _ _ ?_
 clear hS
 refine s_step0 rfl rfl fun _ hS => ?_
 repeat refine And.intro qNd0 ?_
 first | refine hS _ _ _ ?_ | (refine splice_full qNd0 ?_; refine hS _ _ _ ?_)
 clear hS
 refine s_step rfl (by decide) rfl fun _ hS => ?_
 refine hS _ _ _ ?_
 clear hS
 refine s_nil ?_
 refine hK33 _ _ _ ?_
 refine hK32 _ _ _ ?_
 refine seq_k fun _ hK34 => ?_
 refine region_k x4_ok fun _ hK35 => ?_
 refine s_step rfl (by decide) rfl fun _ hS => ?_
 repeat refine And.intro qNd0 ?_
 first | refine hS _ _ _ ?_ | (refine whole_yes qNd0 ?_; refine hS _ _ _ ?_) | (refine whole_sub ?_; refine hS _ _ _ ?_)
 clear hS
 refine s_step rfl (by decide) rfl fun _ hS => ?_
 repeat refine And.intro qNd0 ?_
 first | refine hS _ _ _ ?_ | (refine whole_yes qNd0 ?_; refine hS _ _ _ ?_) | (refine whole_sub ?_; refine hS _ _ _ ?_)
 clear hS
 refine s_step rfl (by decide) rfl fun _ hS => ?_
 repeat first | refine And.intro qNd0 ?_ | refine whole_yes qNd0 ?_ | refine whole_sub ?_
 refine ⟨s.1.1, s.1.2, s.1.1, s.1.2, rfl, ⟨by omega, by omega, by omega, by omega⟩, ?_⟩
 rw [show decide (s.1.1 = s.1.1 ∧ s.1.2 = s.1.2) = true from decide_eq_true ⟨rfl, rfl⟩]
 repeat refine And.intro qNd0 ?_
 first | refine hS _ _ _ ?_ | (intro cap2 hcap2; refine hS _ _ _ ?_)
 clear hS
 refine s_step rfl (by decide) rfl fun _ hS => ?_
 refine s_split hS (fun hb3 => ?_) (fun hb3 => ?_)
 rotate_left 1
 ·exfalso; first | (simp at hb3; done) | exact absurd hb3 (by decide)
 clear hS
 refine s_guard (b := true) rfl (by decide) rfl rfl (fun _ _ hS => ?_) (fun e => absurd e (by decide))
 refine hS _ _ _ ?_
 clear hS
 refine s_guard (b := true) rfl (by decide) rfl rfl (fun _ _ hS => ?_) (fun e => absurd e (by decide))
 refine hS _ _ _ ?_
 clear hS
 refine s_guard (b := true) rfl (by decide) rfl rfl (fun _ _ hS => ?_) (fun e => absurd e (by decide))
 repeat refine And.intro qNd0 ?_
 refine hS _ _ _ ?_
 clear hS
 refine s_step rfl (by decide) rfl fun _ hS => ?_
 refine hS _ _ _ ?_
 clear hS
 refine s_step rfl (by decide) rfl fun _ hS => ?_
 refine hS _ _ _ ?_
 clear hS
 refine s_nil ?_
 refine hK35 _ _ _ ?_
 refine hK34 _ _ _ ?_
 refine WP_ret (Done_flat x4_ok (fun _ _ h => h) (by first | rfl | assumption) [.tmp 6] rfl ?_)
 repeat refine And.intro (by first | omega | exact trivial | rfl | (simp <;> omega)) ?_
 try refine ite_yes (by first | omega | exact trivial | rfl | (simp <;> omega)) ?_
 show SV.c (.bool (decide _)) = SV.c (.bool true)
 congr 2
 exact decide_eq_true rfl


end Go.Proofs.YtpfncffapgkjaaaDoor
