/- Bits. -/
import Derived.Test.YtpfncffapgkjaaaDoorAb14
import Derived.Test.YtpfncffapgkjaaaDoorAb21
import Derived.Test.YtpfncffapgkjaaaDoorCtx
import Derived.Test.YtpfncffapgkjaaaDoorLa
import Derived.Test.YtpfncffapgkjaaaDoorLg
import Derived.Test.YtpfncffapgkjaaaDoorLi
namespace Go.Proofs.YtpfncffapgkjaaaDoor
set_option linter.unusedVariables false
open Go.Ab Go.RowKit

theorem qLo0 {a : Prop} (h : a := by first | omega | exact trivial | rfl | (simp only [len_u8s, len_u32s, len_u64s, len_ints, len_bools, len_cells]; omega) | exact inR_i64.mpr ⟨by omega, by omega⟩ | (simp [debruijn_len] <;> omega) | (rw [debruijn_len]; omega) | (refine And.intro ?_ ?_ <;> exact trivial) | exact ⟨trivial, trivial, trivial⟩ | decide | (refine And.intro rfl ?_; (repeat first | exact trivial | refine And.intro rfl ?_); done) | exact Nat.succ_pos _ | exact Nat.le_refl _ | (refine And.intro trivial ?_; (repeat first | exact trivial | refine And.intro trivial ?_); done)) : a := h


def bit (x : UInt64) (s : Nat) : Bool := x.toBitVec.getLsbD s
theorem bit_ge {x : UInt64} {s : Nat} (h : 64 ≤ s) : bit x s = false := BitVec.getLsbD_of_ge _ _ h
theorem bit_ext {x y : UInt64} (h : ∀ s, s < 64 → bit x s = bit y s) : x = y := UInt64.toBitVec_inj.1 (BitVec.eq_of_getLsbD_eq fun i hi => h i hi)
@[simp] theorem bit_or (x y : UInt64) (s : Nat) : bit (x ||| y) s = (bit x s || bit y s) := by simp [bit]
@[simp] theorem bit_and (x y : UInt64) (s : Nat) : bit (x &&& y) s = (bit x s && bit y s) := by simp [bit]
@[simp] theorem bit_zero (s : Nat) : bit 0 s = false := by simp [bit]
theorem bit_one (s : Nat) : bit 1 s = decide (s = 0) := by
  show (1#64).getLsbD s = _
  rw [BitVec.getLsbD_one]; simp
theorem bit_shl1 (k s : Nat) : bit (shl64 1 k) s = (decide (s = k) && decide (k < 64)) := by
  unfold shl64
  by_cases hk : k < 64
  · rw [if_pos hk]
    have e : (1 <<< k.toUInt64 : UInt64).toBitVec = (1#64) <<< k := by
      apply BitVec.eq_of_toNat_eq
      show (1 <<< k.toUInt64 : UInt64).toNat = _
      rw [UInt64.toNat_shiftLeft]
      simp [show k % 18446744073709551616 = k by omega, Nat.mod_eq_of_lt hk]
    rw [bit, e, BitVec.getLsbD_shiftLeft, BitVec.getLsbD_one]
    by_cases hs : s = k
    · subst hs; simp [hk]
    · by_cases h1 : s < k
      · simp [h1, hs]
      · simp [h1, hs, hk]; omega
  · rw [if_neg hk]; simp [hk]
theorem bit_neg (x : UInt64) {s : Nat} (h : s < 64) : bit (-x) s = ((bit x s) ^^ decide (∃ j, j < s ∧ bit x j = true)) := by
  have e : (-x).toBitVec = -x.toBitVec := by simp
  rw [bit, e, BitVec.getLsbD_neg]
  simp only [h, decide_true, Bool.true_and]
  rfl
theorem least_of {p : Nat → Bool} : ∀ n, (∃ s, s < n ∧ p s = true) → ∃ k, k < n ∧ p k = true ∧ ∀ j, j < k → p j = false
  | 0, ⟨s, h, _⟩ => absurd h (Nat.not_lt_zero s)
  | n + 1, ⟨s, h, hp⟩ => by
    by_cases he : ∃ s, s < n ∧ p s = true
    · obtain ⟨k, h1, h2⟩ := least_of n he
      exact ⟨k, by omega, h2⟩
    · refine ⟨s, h, hp, fun j hj => ?_⟩
      cases hpj : p j with
      | false => rfl
      | true => exact absurd ⟨j, by omega, hpj⟩ he
theorem low_bit {x : UInt64} (h : x ≠ 0) : ∃ k, k < 64 ∧ bit x k = true ∧ ∀ j, j < k → bit x j = false := by
  refine least_of 64 ?_
  refine Classical.byContradiction fun hn => h (bit_ext fun s hs => ?_)
  rw [bit_zero]
  cases hb : bit x s with
  | false => rfl
  | true => exact absurd ⟨s, hs, hb⟩ hn
theorem and_neg_low {x : UInt64} {k : Nat} (hk : k < 64) (h1 : bit x k = true) (h2 : ∀ j, j < k → bit x j = false) : x &&& -x = shl64 1 k := by
  refine bit_ext fun s hs => ?_
  rw [bit_and, bit_neg x hs, bit_shl1]
  by_cases e : s = k
  · subst e
    have : ¬ ∃ j, j < s ∧ bit x j = true := fun ⟨j, hj, hb⟩ => by rw [h2 j hj] at hb; cases hb
    simp [h1, this, hk]
  · by_cases hlt : s < k
    · simp [h2 s hlt, e]
    · have : ∃ j, j < s ∧ bit x j = true := ⟨k, by omega, h1⟩
      cases bit x s <;> simp [this, e]
theorem bit_pred {x : UInt64} {s : Nat} (hs : s < 64) : bit (x - 1) s = !(bit (-x) s) := by
  have e : (x - 1).toBitVec = ~~~(-x).toBitVec := by
    rw [show (-x).toBitVec = -x.toBitVec by simp, BitVec.not_neg]; rfl
  rw [bit, e, BitVec.getLsbD_not]
  simp [hs, bit]
theorem and_pred_low {x : UInt64} {k : Nat} (hk : k < 64) (h1 : bit x k = true) (h2 : ∀ j, j < k → bit x j = false) (s : Nat) : bit (x &&& (x - 1)) s = (bit x s && !decide (s = k)) := by
  by_cases hs : s < 64
  · rw [bit_and, bit_pred hs, bit_neg x hs]
    by_cases e : s = k
    · subst e
      have : ¬ ∃ j, j < s ∧ bit x j = true := fun ⟨j, hj, hb⟩ => by rw [h2 j hj] at hb; cases hb
      simp [h1, this]
    · by_cases hlt : s < k
      · simp [h2 s hlt]
      · have : ∃ j, j < s ∧ bit x j = true := ⟨k, by omega, h1⟩
        cases bit x s <;> simp [this, e]
  · rw [bit_ge (by omega), bit_ge (x := x) (by omega)]; rfl
theorem and_pred_lt {x : UInt64} (h : x ≠ 0) : (x &&& (x - 1)).toNat < x.toNat := by
  have h0 : x.toNat ≠ 0 := fun e => h (UInt64.toNat_inj.1 (by simpa using e))
  have h1 : (x - 1).toNat = x.toNat - 1 := by
    rw [UInt64.toNat_sub_of_le]
    · rfl
    · rw [UInt64.le_iff_toNat_le]; show 1 ≤ x.toNat; omega
  rw [UInt64.toNat_and, h1]
  have := Nat.and_le_right (n := x.toNat) (m := x.toNat - 1)
  omega
theorem shr58_lt (y : UInt64) : (shr64 y 58).toNat < 64 := by
  have := y.toNat_lt
  simp only [shr64]
  rw [if_pos (by decide), UInt64.toNat_shiftRight]
  show y.toNat >>> (58 % 64) < 64
  rw [Nat.shiftRight_eq_div_pow]
  show y.toNat / 288230376151711744 < 64
  omega
def mulT (x : UInt64) : UInt64 := (x &&& -x) * 285870213051353865
def shT (x : UInt64) : UInt64 := shr64 (mulT x) 58
theorem shT_lt (x : UInt64) : (shT x).toNat < 64 := shr58_lt _
def tzN (x : UInt64) : Nat := if x = 0 then 64 else (debruijn.getD (shT x).toNat 0).toNat
theorem tz_table : ∀ k : Fin 64, (debruijn.getD (shr64 (shl64 1 k.val * 285870213051353865) 58).toNat 0).toNat = k.val := by decide +kernel
theorem tzN_eq {x : UInt64} {k : Nat} (hk : k < 64) (h1 : bit x k = true) (h2 : ∀ j, j < k → bit x j = false) : tzN x = k := by
  have hx : x ≠ 0 := fun e => by rw [e, bit_zero] at h1; cases h1
  rw [tzN, if_neg hx, shT, mulT, and_neg_low hk h1 h2]
  exact tz_table ⟨k, hk⟩
theorem shr_step {K : SV → Prop} {y : UInt64} {n : Nat} {M : Int} (hM : M.toNat = n) (h0 : 0 ≤ M) (h : K (.c (.u64 (shr64 y n)))) : Go.Ab.shiftS false (.c (.u64 y)) M K := by
  refine ⟨h0, ?_⟩
  show K (.c (.u64 (if false = true then shl64 y M.toNat else shr64 y M.toNat)))
  rw [if_neg (by decide), hM]
  exact h
theorem debruijn_len : (Cont.u8s debruijn).len = 64 := by decide
attribute [local irreducible] debruijn
def tzS : QSpec := fun vs K => ∃ x : UInt64, vs = [.c (.u64 x)] ∧ K (.c (.int .i64 (tzN x)))
theorem tz_ok : FlatOK Tryd.prog gl 46 tzS := by
 refine flat_of (Γ := g0) (N := 14) Tryd.func46 rfl rfl fun vs K h => ?_
 obtain ⟨x, rfl, h⟩ := h
 refine ⟨_, h, rfl, by simp, fun w I => ?_⟩
 refine seq_k fun _ hK1 => ?_
 refine region_k g0_ok fun _ hK2 => ?_
 refine s_step rfl (by decide) rfl fun _ hS => ?_
 refine hS _ _ _ ?_
 clear hS
 refine s_nil ?_
 refine hK2 _ _ _ ?_
 refine hK1 _ _ _ ?_
 refine seq_k fun _ hK3 => ?_
 refine seq_k fun _ hK4 => ?_
 refine region_k g0_ok fun _ hK5 => ?_
 refine s_step rfl (by decide) rfl fun _ hS => ?_
 refine hS _ _ _ ?_
 clear hS
 refine s_step rfl (by decide) rfl fun _ hS => ?_
 repeat refine And.intro (by first | omega | exact trivial | rfl | (simp only [len_u8s, len_u32s, len_u64s, len_ints, len_bools, len_cells]; omega) | exact inR_i64.mpr ⟨by omega, by omega⟩ | (simp <;> omega) | (refine And.intro ?_ ?_ <;> exact trivial) | exact ⟨trivial, trivial, trivial⟩ | decide | (refine And.intro rfl ?_; (repeat first | exact trivial | refine And.intro rfl ?_); done) | exact Nat.succ_pos _ | exact Nat.le_refl _ | (refine And.intro trivial ?_; (repeat first | exact trivial | refine And.intro trivial ?_); done)) ?_
 refine hS _ _ _ ?_
 clear hS
 refine s_nil ?_
 refine hK5 _ _ _ ?_
 refine hK4 _ _ _ ?_
 refine WP_cond (b := _) rfl (fun h_t4 => ?_) (fun h_t4 => ?_)
 ·try try simp only [decide_eq_true_eq] at h_t4
  refine seq_k fun _ hK6 => ?_
  refine region_k g0_ok fun _ hK7 => ?_
  refine s_step rfl (by decide) rfl fun _ hS => ?_
  refine hS _ _ _ ?_
  clear hS
  refine s_nil ?_
  refine hK7 _ _ _ ?_
  refine hK6 _ _ _ ?_
  refine WP_ret (Done_flat g0_ok (fun _ _ h => h) (by first | rfl | assumption) [.tmp 2] rfl ?_)
  repeat refine And.intro (by first | omega | exact trivial | rfl | (simp <;> omega)) ?_
  try refine ite_yes (by first | omega | exact trivial | rfl | (simp <;> omega)) ?_
  show SV.c (.int .i64 64) = _
  rw [tzN, if_pos (by simpa using h_t4)]
  rfl
 ·try try simp only [decide_eq_false_iff_not] at h_t4
  refine WP_skip ?_
  refine hK3 _ _ _ ?_
  refine seq_k fun _ hK8 => ?_
  have hVe : (if false = true then shl64 (mulT x) (((UInt64.ofNat (Int.toNat 58)).toNat : Int)).toNat else shr64 (mulT x) (((UInt64.ofNat (Int.toNat 58)).toNat : Int)).toNat : UInt64) = shT x := by rw [if_neg (by decide)]; rfl
  have hsh : (if false = true then shl64 (mulT x) (((UInt64.ofNat (Int.toNat 58)).toNat : Int)).toNat else shr64 (mulT x) (((UInt64.ofNat (Int.toNat 58)).toNat : Int)).toNat : UInt64).toNat < 64 := by rw [hVe]; exact shT_lt x
  refine region_k g0_ok fun _ hK9 => ?_
  refine s_step rfl (by decide) rfl fun _ hS => ?_
  refine hS _ _ _ ?_
  clear hS
  refine s_step rfl (by decide) rfl fun _ hS => ?_
  refine hS _ _ _ ?_
  clear hS
  refine s_step rfl (by decide) rfl fun _ hS => ?_
  repeat refine And.intro qLo0 ?_
  refine hS _ _ _ ?_
  clear hS
  refine s_step rfl (by decide) rfl fun _ hS => ?_
  repeat refine And.intro qLo0 ?_
  refine hS _ _ _ ?_
  clear hS
  refine s_step rfl (by decide) rfl fun _ hS => ?_
  refine hS (.c (.u64 (mulT x))) _ _ ?_
  clear hS
  refine s_step rfl (by decide) rfl fun _ hS => ?_
  repeat refine And.intro qLo0 ?_
  refine hS _ _ _ ?_
  clear hS
  refine s_step rfl (by decide) rfl fun _ hS => ?_
  repeat refine And.intro qLo0 ?_
  refine hS _ _ _ ?_
  clear hS
  refine s_step rfl (by decide) rfl fun _ hS => ?_
  repeat refine And.intro qLo0 ?_
  first | refine hS _ _ _ ?_ | (refine whole_yes qLo0 ?_; refine hS _ _ _ ?_) | (refine whole_sub ?_; refine hS _ _ _ ?_)
  clear hS
  refine s_step rfl (by decide) rfl fun _ hS => ?_
  repeat first | refine And.intro qLo0 ?_ | refine whole_yes qLo0 ?_ | refine whole_sub ?_
  refine hS _ _ _ ?_
  clear hS
  refine s_step rfl (by decide) rfl fun _ hS => ?_
  refine hS _ _ _ ?_
  clear hS
  refine s_nil ?_
  refine hK9 _ _ _ ?_
  refine hK8 _ _ _ ?_
  refine WP_ret (Done_flat g0_ok (fun _ _ h => h) (by first | rfl | assumption) [.tmp 2] rfl ?_)
  repeat refine And.intro (by first | omega | exact trivial | rfl | (simp <;> omega)) ?_
  try refine ite_yes (by first | omega | exact trivial | rfl | (simp <;> omega)) ?_
  have h0 : x ≠ 0 := by simpa using h_t4
  rw [tzN, if_neg h0]
  show SV.c (.int .i64 (((debruijn.getD (0 + (((if false = true then shl64 (mulT x) (((UInt64.ofNat (Int.toNat 58)).toNat : Int)).toNat else shr64 (mulT x) (((UInt64.ofNat (Int.toNat 58)).toNat : Int)).toNat : UInt64).toNat : Int)).toNat * 1) 0).toNat : Nat) : Int)) = _
  rw [hVe, Nat.zero_add, Nat.mul_one, Int.toNat_natCast]


end Go.Proofs.YtpfncffapgkjaaaDoor
