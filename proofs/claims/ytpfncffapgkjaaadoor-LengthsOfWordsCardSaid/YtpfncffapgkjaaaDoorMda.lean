/- Words of bits and lists of truth values; made automata are valid. No program in sight. -/
import Derived.Test.YtpfncffapgkjaaaDoorLi
import Derived.Test.YtpfncffapgkjaaaDoorLm
import Derived.Test.YtpfncffapgkjaaaDoorLn
import Derived.Test.YtpfncffapgkjaaaDoorLo
import Derived.Test.YtpfncffapgkjaaaDoorLp
import Derived.Test.YtpfncffapgkjaaaDoorLq
import Derived.Test.YtpfncffapgkjaaaDoorLs
import Derived.Test.YtpfncffapgkjaaaDoorLva
import Derived.Test.YtpfncffapgkjaaaDoorMb
namespace Go.Proofs.YtpfncffapgkjaaaDoor
set_option linter.unusedVariables false
open Go.Ab Go.RowKit

theorem markL_get (r : List Int) (t : Nat) (o : List Bool) (ht : t < o.length) : ∀ j, ((markL r j o).getD t false = true ↔ o.getD t false = true ∨ ∃ i, i < j ∧ (r.getD i 0).toNat = t)
  | 0 => ⟨.inl, fun h => h.elim id fun ⟨i, hi, _⟩ => absurd hi (Nat.not_lt_zero i)⟩
  | j + 1 => by
    have ih := markL_get r t o ht j
    have step : ¬ t = (r.getD j 0).toNat → ((o.getD t false = true ∨ ∃ i, i < j ∧ (r.getD i 0).toNat = t) ↔ (o.getD t false = true ∨ ∃ i, i < j + 1 ∧ (r.getD i 0).toNat = t)) := fun e => by
      constructor
      · rintro (h | ⟨i, hi, h⟩)
        · exact .inl h
        · exact .inr ⟨i, by omega, h⟩
      · rintro (h | ⟨i, hi, h⟩)
        · exact .inl h
        · by_cases ei : i = j
          · subst ei; exact absurd h.symm e
          · exact .inr ⟨i, by omega, h⟩
    rw [markL]
    by_cases hb : (r.getD j 0).toNat < o.length
    · rw [set_getD _ _ _ _ (by rw [markL_length]; exact hb)]
      by_cases e : t = (r.getD j 0).toNat
      · rw [if_pos e]
        exact ⟨fun _ => .inr ⟨j, by omega, e.symm⟩, fun _ => rfl⟩
      · rw [if_neg e, ih, step e]
    · rw [List.set_eq_of_length_le (by rw [markL_length]; omega), ih, step (by omega)]
theorem stepK_get (d : Dfa) (bs : List Bool) (t : Nat) (ht : t < bs.length) : ∀ k, ((stepK d bs k).getD t false = true ↔ ∃ s, s < k ∧ bs.getD s false = true ∧ ∃ i, i < d.nc ∧ ((d.next.getD s []).getD i 0).toNat = t)
  | 0 => ⟨fun h => absurd h (zero_get _ _), fun ⟨s, hs, _⟩ => absurd hs (Nat.not_lt_zero s)⟩
  | k + 1 => by
    have ih := stepK_get d bs t ht k
    rw [stepK]
    split
    · rename_i hb
      rw [markL_get _ _ _ (by rw [stepK_length]; exact ht), ih]
      constructor
      · rintro (⟨s, hs, h⟩ | h)
        · exact ⟨s, by omega, h⟩
        · exact ⟨k, by omega, hb, h⟩
      · rintro ⟨s, hs, h⟩
        by_cases e : s = k
        · subst e; exact .inr h.2
        · exact .inl ⟨s, by omega, h⟩
    · rename_i hb
      rw [ih]
      constructor
      · rintro ⟨s, hs, h⟩
        exact ⟨s, by omega, h⟩
      · rintro ⟨s, hs, h⟩
        by_cases e : s = k
        · subst e; exact absurd h.1 hb
        · exact ⟨s, by omega, h⟩
theorem rs_bits {d : Dfa} (hv : validD d = true) : ∀ k t, t < d.next.length → ((d.rs k).getD t false = true ↔ bit (d.seq k) t = true)
  | 0, t, ht => by
    rw [Dfa.rs, set_getD _ _ _ _ (by simp; omega), Dfa.seq, seqU, bit_one, decide_eq_true_eq]
    by_cases e : t = 0
    · rw [if_pos e]; exact ⟨fun _ => e, fun _ => rfl⟩
    · rw [if_neg e]; exact ⟨fun h => absurd h (zero_get _ _), fun h => absurd h e⟩
  | k + 1, t, ht => by
    obtain ⟨⟨_, h64, _⟩, hr⟩ := validD_spec hv
    rw [Dfa.rs, stepL, stepK_get _ _ _ (by rw [rs_length]; exact ht), rs_length, Dfa.seq, seqU, bit_orBits, List.any_eq_true]
    have hfol : ∀ s, s < d.next.length → (bit (d.fol.getD s 0) t = true ↔ ∃ i, i < d.nc ∧ ((d.next.getD s []).getD i 0).toNat = t) := fun s hs => by
      rw [Dfa.fol, folL_get _ _ _ (Nat.le_refl _) hs, if_pos hs, bit_rowU, decide_eq_true (show t < 64 by omega), Bool.true_and, List.any_eq_true, (hr s hs).1]
      constructor
      · rintro ⟨i, hi, h⟩
        exact ⟨i, List.mem_range.1 hi, of_decide_eq_true h⟩
      · rintro ⟨i, hi, h⟩
        exact ⟨i, List.mem_range.2 hi, decide_eq_true h⟩
    constructor
    · rintro ⟨s, hs, h1, h2⟩
      exact ⟨s, List.mem_range.2 (by omega), by rw [Bool.and_eq_true]; exact ⟨(rs_bits hv k s hs).1 h1, (hfol s hs).2 h2⟩⟩
    · rintro ⟨s, _, h⟩
      rw [Bool.and_eq_true] at h
      have hs := seq_low hv k s h.1
      exact ⟨s, hs, (rs_bits hv k s hs).2 h.1, (hfol s hs).1 h.2⟩
theorem seq_eq_iff {d : Dfa} (hv : validD d = true) (i j : Nat) : d.seq i = d.seq j ↔ d.rs i = d.rs j := by
  constructor
  · intro h
    refine List.ext_getElem (by simp) fun n h1 h2 => ?_
    rw [rs_length] at h1
    have e : (d.rs i).getD n false = (d.rs j).getD n false := by rw [Bool.eq_iff_iff, rs_bits hv i n h1, rs_bits hv j n h1, h]
    simpa [List.getD_eq_getElem?_getD, h1] using e
  · intro h
    refine bit_ext fun s hs => ?_
    rw [Bool.eq_iff_iff]
    by_cases hl : s < d.next.length
    · rw [← rs_bits hv i s hl, ← rs_bits hv j s hl, h]
    · exact ⟨fun h => absurd (seq_low hv _ _ h) hl, fun h => absurd (seq_low hv _ _ h) hl⟩
theorem findRep_congr {α β : Type} [DecidableEq α] [DecidableEq β] {s : Nat → α} {s' : Nat → β} (h : ∀ i j, s i = s j ↔ s' i = s' j) : ∀ f k, findRep s f k = findRep s' f k
  | 0, _ => rfl
  | f + 1, k => by
    have e : (fun i => decide (s i = s k)) = fun i => decide (s' i = s' k) := funext fun i => decide_eq_decide.2 (h i k)
    rw [findRep, findRep, e, findRep_congr h f (k + 1)]
theorem findRep_some {α : Type} [DecidableEq α] {s : Nat → α} {i k : Nat} : ∀ f k0, findRep s f k0 = some (i, k) → i < k ∧ s i = s k
  | 0, _, h => by cases h
  | f + 1, k0, h => by
    rw [findRep] at h
    split at h
    · rename_i j hj
      cases h
      have h1 := List.find?_some hj
      have h2 := List.mem_range.1 (List.mem_of_find?_eq_some hj)
      exact ⟨h2, of_decide_eq_true h1⟩
    · exact findRep_some f (k0 + 1) h
theorem bit_accU (a : List Bool) (s : Nat) (hs : s < 64) : ∀ k, bit (accU a k) s = (decide (s < k) && a.getD s false)
  | 0 => by rw [accU, bit_zero, decide_eq_false (Nat.not_lt_zero s), Bool.false_and]
  | k + 1 => by
    have ih := bit_accU a s hs k
    rw [accU]
    by_cases e : s = k
    · subst e
      rw [decide_eq_true (Nat.lt_succ_self s), Bool.true_and]
      split
      · rename_i hb
        rw [bit_or, bit_shl1, decide_eq_true rfl, decide_eq_true hs, hb]; simp
      · rename_i hb
        rw [ih, decide_eq_false (Nat.lt_irrefl s), Bool.false_and]
        simpa using hb
    · rw [show decide (s < k + 1) = decide (s < k) from decide_eq_decide.2 (by omega)]
      split
      · rw [bit_or, bit_shl1, decide_eq_false e, Bool.false_and, Bool.or_false, ih]
      · exact ih
theorem accB_eq {d : Dfa} (hv : validD d = true) (n : Nat) : d.accB n = accR d (d.rs n) := by
  have h64 := (validD_spec hv).1.2.1
  rw [Bool.eq_iff_iff, Dfa.accB, accR, List.any_eq_true, rs_length]
  simp only [Bool.not_eq_true', decide_eq_false_iff_not]
  constructor
  · intro h
    obtain ⟨s, hs, hb, _⟩ := low_bit h
    rw [bit_and, Bool.and_eq_true, bit_accU _ _ hs, Bool.and_eq_true] at hb
    have hl := of_decide_eq_true hb.2.1
    exact ⟨s, List.mem_range.2 hl, by rw [Bool.and_eq_true]; exact ⟨(rs_bits hv n s hl).2 hb.1, hb.2.2⟩⟩
  · rintro ⟨s, hs, h⟩ e
    rw [Bool.and_eq_true] at h
    have hl := List.mem_range.1 hs
    have hb : bit (d.seq n &&& accU d.acc d.next.length) s = true := by
      rw [bit_and, bit_accU _ _ (by omega), (rs_bits hv n s hl).1 h.1, decide_eq_true hl, h.2]; rfl
    rw [e, bit_zero] at hb
    cases hb
theorem seq_per {d : Dfa} {i k : Nat} (hik : i < k) (h : d.seq i = d.seq k) : ∀ j, d.seq (i + j + (k - i)) = d.seq (i + j)
  | 0 => by rw [Nat.add_zero, show i + (k - i) = k by omega, h]
  | j + 1 => by
    have ih := seq_per hik h j
    rw [show i + (j + 1) + (k - i) = (i + j + (k - i)) + 1 by omega, show i + (j + 1) = (i + j) + 1 by omega]
    rw [Dfa.seq, seqU, seqU]
    exact congrArg (orBits d.fol) ih
theorem mach_rows (l : List UInt8) : (machL l).next.all (rowOK 3 (machN l)) = true := by
  have hp := (machN_pos l).1
  rw [List.all_eq_true]
  intro r hr
  obtain ⟨s, _, rfl⟩ := List.mem_map.1 hr
  rw [rowOK, machRow_length, Bool.and_eq_true, List.all_eq_true]
  refine ⟨by decide, fun x hx => ?_⟩
  obtain ⟨i, _, rfl⟩ := List.mem_map.1 hx
  have := Nat.mod_lt (machK l s i) (show 0 < machN l by omega)
  rw [tgtOK, Bool.and_eq_true, decide_eq_true_eq, decide_eq_true_eq]
  omega
theorem mach_cls : clsP mcls 3 = true := by decide +kernel
theorem mach_part : partR mcls 3 = true := by decide +kernel
theorem mach_valid (l : List UInt8) : validD (machL l) = true := by
  have hp := machN_pos l
  have hr := mach_rows l
  rw [validD, Bool.and_eq_true, Bool.and_eq_true]
  refine ⟨⟨?_, mach_cls⟩, ?_⟩
  · rw [decide_eq_true_eq, show (machL l).next.length = machN l by simp [machL], show (machL l).acc.length = machN l by simp [machL]]
    exact ⟨by omega, by omega, rfl, show 1 ≤ 3 by decide, show 3 ≤ 256 by decide⟩
  · have : (machL l).next.length = machN l := by simp [machL]
    rw [this]
    exact hr
theorem mach_validR (l : List UInt8) : validRD (machL l) = true := by
  have hp := machN_pos l
  have hr := mach_rows l
  have hl : (machL l).next.length = machN l := by simp [machL]
  have ha : (machL l).acc.length = machN l := by simp [machL]
  rw [validRD, soundD, Bool.and_eq_true, Bool.and_eq_true, Bool.and_eq_true, decide_eq_true_eq, decide_eq_true_eq, hl, ha]
  exact ⟨by omega, ⟨⟨by omega, rfl⟩, mach_part⟩, hr⟩
end Go.Proofs.YtpfncffapgkjaaaDoor
