/- The lengths of the words: what the loops keep. -/
import Derived.Test.YtpfncffapgkjaaaDoorCtx
import Derived.Test.YtpfncffapgkjaaaDoorLi
import Derived.Test.YtpfncffapgkjaaaDoorLj
import Derived.Test.YtpfncffapgkjaaaDoorLm
import Derived.Test.YtpfncffapgkjaaaDoorLo
import Derived.Test.YtpfncffapgkjaaaDoorLp
namespace Go.Proofs.YtpfncffapgkjaaaDoor
set_option linter.unusedVariables false
open Go.Ab Go.RowKit



theorem validD_spec {d : Dfa} (h : validD d = true) : (1 ≤ d.next.length ∧ d.next.length ≤ 64 ∧ d.acc.length = d.next.length ∧ 1 ≤ d.nc ∧ d.nc ≤ 256) ∧ ∀ k, k < d.next.length → (d.next.getD k []).length = d.nc ∧ ∀ j, j < (d.next.getD k []).length → 0 ≤ (d.next.getD k []).getD j 0 ∧ (d.next.getD k []).getD j 0 < d.next.length := by
  simp only [validD, Bool.and_eq_true, decide_eq_true_eq] at h
  refine ⟨h.1.1, fun k hk => ?_⟩
  have h1 := List.all_eq_true.1 h.2 _ (getD_mem (d := []) hk)
  simp only [rowOK, Bool.and_eq_true, decide_eq_true_eq] at h1
  refine ⟨h1.1, fun j hj => ?_⟩
  have h2 := List.all_eq_true.1 h1.2 _ (getD_mem (d := 0) hj)
  simpa only [tgtOK, Bool.and_eq_true, decide_eq_true_eq] using h2
theorem bit_rowU (r : List Int) (t : Nat) : ∀ j, bit (rowU r j) t = (decide (t < 64) && (List.range j).any fun i => decide ((r.getD i 0).toNat = t))
  | 0 => by simp [rowU]
  | j + 1 => by
    rw [rowU, bit_or, bit_rowU r t j, bit_shl1, any_range_succ]
    generalize (r.getD j 0).toNat = y
    generalize (List.range j).any (fun i => decide ((r.getD i 0).toNat = t)) = z
    by_cases h : t < 64
    · by_cases e : t = y
      · subst e; simp [h]
      · have e' : ¬ y = t := fun e' => e e'.symm
        simp [h, e, e']
    · by_cases e : t = y
      · subst e; simp [h]
      · simp [h, e]
theorem fol_low {d : Dfa} (hv : validD d = true) {s t : Nat} (h : bit (d.fol.getD s 0) t = true) : t < d.next.length := by
  obtain ⟨_, hr⟩ := validD_spec hv
  by_cases hs : s < d.next.length
  · rw [Dfa.fol, folL_get _ _ _ (Nat.le_refl _) hs, if_pos hs, bit_rowU, Bool.and_eq_true] at h
    obtain ⟨i, hi, h1⟩ := List.any_eq_true.1 h.2
    have h2 := ((hr s hs).2 i (List.mem_range.1 hi)).2
    have h3 := ((hr s hs).2 i (List.mem_range.1 hi)).1
    simp only [decide_eq_true_eq] at h1
    omega
  · rw [List.getD_eq_getElem?_getD, List.getElem?_eq_none (by rw [Dfa.fol, folL_length]; omega), Option.getD_none, bit_zero] at h
    cases h
theorem seq_low {d : Dfa} (hv : validD d = true) : ∀ k s, bit (d.seq k) s = true → s < d.next.length
  | 0, s, h => by
    have h0 := (validD_spec hv).1.1
    rw [Dfa.seq, seqU, bit_one] at h
    have := of_decide_eq_true h
    omega
  | k + 1, s, h => by
    rw [Dfa.seq, seqU, bit_orBits] at h
    obtain ⟨i, _, h1⟩ := List.any_eq_true.1 h
    exact fol_low hv (Bool.and_eq_true _ _ ▸ h1).2
theorem toNat_low {x : UInt64} {n : Nat} (h : ∀ s, bit x s = true → s < n) : x.toNat < 2 ^ n := by
  refine Nat.lt_pow_two_of_testBit _ fun i hi => ?_
  cases hb : x.toNat.testBit i with
  | false => rfl
  | true => exact absurd (h i hb) (by omega)
theorem seq_count {d : Dfa} (hv : validD d = true) (h8 : d.next.length ≤ 8) {k : Nat} (hd : ∀ i j, i < j → j < k → d.seq i ≠ d.seq j) : k ≤ 256 := by
  have h1 : ((List.range k).map fun i => (d.seq i).toNat).Nodup := by
    refine List.pairwise_map.2 ?_
    refine List.Pairwise.imp_of_mem ?_ (List.pairwise_lt_range (n := k))
    intro a b ha hb hab e
    exact hd a b hab (List.mem_range.1 hb) (UInt64.toNat_inj.1 e)
  have h2 := nodup_lt (m := 256) h1 fun x hx => by
    obtain ⟨i, _, rfl⟩ := List.mem_map.1 hx
    have := toNat_low (seq_low hv i)
    have h3 : 2 ^ d.next.length ≤ 2 ^ 8 := Nat.pow_le_pow_right (by omega) h8
    show (d.seq i).toNat < 256
    omega
  simpa using h2
theorem findRep_step {α : Type} [DecidableEq α] {s : Nat → α} {f k : Nat} (h : ∀ i, i < k → s i ≠ s k) : findRep s (f + 1) k = findRep s f (k + 1) := by
  rw [findRep]
  have : (List.range k).find? (fun i => decide (s i = s k)) = none := List.find?_eq_none.2 fun i hi => by simpa using h i (List.mem_range.1 hi)
  rw [this]
theorem findRep_found {α : Type} [DecidableEq α] {s : Nat → α} {f k j : Nat} (hj : j < k) (he : s j = s k) (hd : ∀ i j, i < j → j < k → s i ≠ s j) : findRep s (f + 1) k = some (j, k) := by
  rw [findRep]
  cases hf : (List.range k).find? (fun i => decide (s i = s k)) with
  | none => exact absurd (List.find?_eq_none.1 hf j (List.mem_range.2 hj)) (by simpa using he)
  | some i =>
    have h1 := List.find?_some hf
    have h2 := List.mem_range.1 (List.mem_of_find?_eq_some hf)
    simp only [decide_eq_true_eq] at h1
    rcases Nat.lt_trichotomy i j with h | h | h
    · exact absurd (h1.trans he.symm) (hd i j h hj)
    · rw [h]
    · exact absurd (he.trans h1.symm) (hd j i h h2)
def foundL (d : Dfa) (k : Nat) : List Bool := (List.range k).map d.accB
@[simp] theorem foundL_length (d : Dfa) (k : Nat) : (foundL d k).length = k := by simp [foundL]
theorem foundL_get (d : Dfa) {k n : Nat} (h : n < k) : (foundL d k).getD n false = d.accB n := by simp [foundL, List.getD_eq_getElem?_getD, h]
theorem foundL_step (d : Dfa) (k : Nat) : foundL d k ++ [d.accB k] = foundL d (k + 1) := by simp [foundL, List.range_succ]
def seenM (d : Dfa) (k : Nat) : List (SV × SV) := (List.range k).map fun i => (.c (.u64 (d.seq i)), .c (.int .i64 i))
theorem seenM_step (d : Dfa) (k : Nat) : seenM d k ++ [(.c (.u64 (d.seq k)), .c (.int .i64 k))] = seenM d (k + 1) := by simp [seenM, List.range_succ]
theorem seen_keys (d : Dfa) (k : Nat) : ∀ p ∈ seenM d k, keyS ty 50 p.1 := fun p hp => by
  obtain ⟨i, _, rfl⟩ := List.mem_map.1 hp
  exact rfl
theorem seen_get {d : Dfa} {k j : Nat} {x : UInt64} {v : SV} (h : (seenM d k)[j]? = some (.c (.u64 x), v)) : j < k ∧ d.seq j = x ∧ v = .c (.int .i64 j) := by
  have hj : j < (seenM d k).length := (List.getElem?_eq_some_iff.1 h).1
  have hjk : j < k := by simpa [seenM] using hj
  have h1 : (seenM d k)[j]? = some (.c (.u64 (d.seq j)), .c (.int .i64 j)) := by simp [seenM, hjk]
  rw [h1] at h
  simp only [Option.some.injEq, Prod.mk.injEq, SV.c.injEq, Cell.u64.injEq] at h
  exact ⟨hjk, h.1, h.2.symm⟩
theorem seen_flat (d : Dfa) (k : Nat) : ∀ x ∈ seenM d k, x.1.flat = true ∧ x.2.flat = true := fun x hx => by
  obtain ⟨i, _, rfl⟩ := List.mem_map.1 hx
  exact ⟨rfl, rfl⟩
theorem seen_low (d : Dfa) (k m : Nat) : ∀ x ∈ seenM d k, x.1.low m ∧ x.2.low m := fun x hx => by
  obtain ⟨i, _, rfl⟩ := List.mem_map.1 hx
  exact ⟨trivial, trivial⟩
theorem seen_no {d : Dfa} {k : Nat} (h : ∀ p ∈ seenM d k, p.1 ≠ .c (.u64 (d.seq k))) : ∀ i, i < k → d.seq i ≠ d.seq k := fun i hi e => h (.c (.u64 (d.seq i)), .c (.int .i64 i)) (List.mem_map.2 ⟨i, List.mem_range.2 hi, rfl⟩) (by rw [e])

end Go.Proofs.YtpfncffapgkjaaaDoor
