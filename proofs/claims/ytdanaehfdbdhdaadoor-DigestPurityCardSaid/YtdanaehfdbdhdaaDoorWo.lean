/- Plain laws of 32 bit words; the schedule as the reference writes it. -/
import Derived.Test.YtdanaehfdbdhdaaDoorSha0
namespace Go.Proofs.YtdanaehfdbdhdaaDoor
set_option linter.unusedVariables false
open Go.Ab
theorem add_or32 (x y : UInt32) (h : ∀ i, i < 32 → x.toBitVec.getLsbD i = true → y.toBitVec.getLsbD i = true → False) : x + y = x ||| y := by
  apply UInt32.toBitVec_inj.1
  rw [UInt32.toBitVec_add, UInt32.toBitVec_or]
  apply BitVec.add_eq_or_of_and_eq_zero
  apply BitVec.eq_of_getLsbD_eq
  intro i hi
  rw [BitVec.getLsbD_and]
  cases hx : x.toBitVec.getLsbD i <;> cases hy : y.toBitVec.getLsbD i <;> simp
  exact (h i hi hx hy).elim
theorem bit0 (x : UInt8) (i : Nat) (hi : i < 32) : x.toUInt32.toBitVec.getLsbD i = true → i < 8 := by
  intro h
  rcases Nat.lt_or_ge i 8 with h8 | h8
  · exact h8
  · simp at h
    have := BitVec.getLsbD_of_ge x.toBitVec i h8
    simp_all
theorem bit8 (x : UInt8) (i : Nat) (hi : i < 32) : (shl32 x.toUInt32 8).toBitVec.getLsbD i = true → 8 ≤ i ∧ i < 16 := by
  intro h
  simp [shl32] at h
  refine ⟨h.1.2, ?_⟩
  rcases Nat.lt_or_ge (i - 8) 8 with h8 | h8
  · omega
  · have := BitVec.getLsbD_of_ge x.toBitVec (i - 8) h8
    simp_all
theorem bit16 (x : UInt8) (i : Nat) (hi : i < 32) : (shl32 x.toUInt32 16).toBitVec.getLsbD i = true → 16 ≤ i ∧ i < 24 := by
  intro h
  simp [shl32] at h
  refine ⟨h.1.2, ?_⟩
  rcases Nat.lt_or_ge (i - 16) 8 with h8 | h8
  · omega
  · have := BitVec.getLsbD_of_ge x.toBitVec (i - 16) h8
    simp_all
theorem bit24 (x : UInt8) (i : Nat) (hi : i < 32) : (shl32 x.toUInt32 24).toBitVec.getLsbD i = true → 24 ≤ i := by
  intro h
  simp [shl32] at h
  exact h.1.2
theorem bytes_word (a b c d : UInt8) : shl32 a.toUInt32 24 + shl32 b.toUInt32 16 + shl32 c.toUInt32 8 + d.toUInt32 = shl32 a.toUInt32 24 ||| shl32 b.toUInt32 16 ||| shl32 c.toUInt32 8 ||| d.toUInt32 := by
  have e1 : shl32 a.toUInt32 24 + shl32 b.toUInt32 16 = shl32 a.toUInt32 24 ||| shl32 b.toUInt32 16 := add_or32 _ _ fun i hi h1 h2 => by
    have := bit24 a i hi h1; have := bit16 b i hi h2; omega
  have e2 : (shl32 a.toUInt32 24 ||| shl32 b.toUInt32 16) + shl32 c.toUInt32 8 = shl32 a.toUInt32 24 ||| shl32 b.toUInt32 16 ||| shl32 c.toUInt32 8 := add_or32 _ _ fun i hi h1 h2 => by
    rw [UInt32.toBitVec_or, BitVec.getLsbD_or, Bool.or_eq_true] at h1
    have h3 := bit8 c i hi h2
    rcases h1 with h1 | h1
    · have := bit24 a i hi h1; omega
    · have := bit16 b i hi h1; omega
  have e3 : (shl32 a.toUInt32 24 ||| shl32 b.toUInt32 16 ||| shl32 c.toUInt32 8) + d.toUInt32 = shl32 a.toUInt32 24 ||| shl32 b.toUInt32 16 ||| shl32 c.toUInt32 8 ||| d.toUInt32 := add_or32 _ _ fun i hi h1 h2 => by
    rw [UInt32.toBitVec_or, BitVec.getLsbD_or, Bool.or_eq_true, UInt32.toBitVec_or, BitVec.getLsbD_or, Bool.or_eq_true] at h1
    have h3 := bit0 d i hi h2
    rcases h1 with (h1 | h1) | h1
    · have := bit24 a i hi h1; omega
    · have := bit16 b i hi h1; omega
    · have := bit8 c i hi h1; omega
  rw [e1, e2, e3]
theorem not_sub (x : UInt32) : 4294967295 - x = ~~~x := by
  apply UInt32.toBitVec_inj.1
  simp only [UInt32.toBitVec_sub, UInt32.toBitVec_not]
  have := BitVec.allOnes_sub_eq_not x.toBitVec
  exact this

theorem sched_lo (l : List UInt8) (k : Nat) (h : k < 16) : (Sha.schedArr l k).set k (shl32 (l.getD (4 * k) 0).toUInt32 24 + shl32 (l.getD (4 * k + 1) 0).toUInt32 16 + shl32 (l.getD (4 * k + 2) 0).toUInt32 8 + (l.getD (4 * k + 3) 0).toUInt32) = Sha.schedArr l (k + 1) := by
  rw [← Sha.schedArr_step l k (by omega), Sha.next, if_pos (by rw [Sha.sched_length]; exact h), bytes_word, Sha.word, Sha.sched_length]
theorem sched_hi (l : List UInt8) (k : Nat) (h : 16 ≤ k) (h64 : k < 64) : (Sha.schedArr l k).set k ((Sha.schedArr l k).getD (k - 16) 0 + (Sha.rotr ((Sha.schedArr l k).getD (k - 15) 0) 7 ^^^ Sha.rotr ((Sha.schedArr l k).getD (k - 15) 0) 18 ^^^ shr32 ((Sha.schedArr l k).getD (k - 15) 0) 3) + (Sha.schedArr l k).getD (k - 7) 0 + (Sha.rotr ((Sha.schedArr l k).getD (k - 2) 0) 17 ^^^ Sha.rotr ((Sha.schedArr l k).getD (k - 2) 0) 19 ^^^ shr32 ((Sha.schedArr l k).getD (k - 2) 0) 10)) = Sha.schedArr l (k + 1) := by
  rw [← Sha.schedArr_step l k h64, Sha.next, if_neg (by rw [Sha.sched_length]; omega), Sha.low, Sha.high, Sha.sched_length]
  rw [Sha.schedArr_get l k _ (by omega), Sha.schedArr_get l k _ (by omega), Sha.schedArr_get l k _ (by omega), Sha.schedArr_get l k _ (by omega)]
end Go.Proofs.YtdanaehfdbdhdaaDoor
