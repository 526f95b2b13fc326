/- Sums: the table of shifted copies is the sum of the sets. No program in sight. -/
import Derived.Test.YtpfncffapgkjaaaDoorLa
import Derived.Test.YtpfncffapgkjaaaDoorLc
import Derived.Test.YtpfncffapgkjaaaDoorLg
import Derived.Test.YtpfncffapgkjaaaDoorLi
import Derived.Test.YtpfncffapgkjaaaDoorMa
namespace Go.Proofs.YtpfncffapgkjaaaDoor
set_option linter.unusedVariables false
open Go.Ab Go.RowKit

theorem set_getD (l : List Bool) (i n : Nat) (v : Bool) (hi : i < l.length) : (l.set i v).getD n false = if n = i then v else l.getD n false := by
  simp only [List.getD_eq_getElem?_getD, List.getElem?_set]
  by_cases e : i = n
  · subst e; simp [hi]
  · rw [if_neg e, if_neg (fun h => e h.symm)]
theorem shiftK_get (c d l : List Bool) (m : Nat) : ∀ k n, m + k ≤ l.length → (shiftK c d l m k).getD n false = (l.getD n false || (decide (m ≤ n ∧ n < m + k) && atL c d (n - m)))
  | 0, n, _ => by
    rw [shiftK, decide_eq_false (show ¬ (m ≤ n ∧ n < m + 0) by omega), Bool.false_and, Bool.or_false]
  | k + 1, n, h => by
    rw [shiftK, set_getD _ _ _ _ (by rw [shiftK_length]; omega)]
    by_cases e : n = m + k
    · subst e
      rw [if_pos rfl, shiftK_get c d l m k _ (by omega), decide_eq_false (show ¬ (m ≤ m + k ∧ m + k < m + k) by omega), decide_eq_true (show m ≤ m + k ∧ m + k < m + (k + 1) by omega), Bool.false_and, Bool.or_false, Bool.true_and, Nat.add_sub_cancel_left]
    · rw [if_neg e, shiftK_get c d l m k n (by omega)]
      congr 2
      rw [decide_eq_decide]; omega
theorem shiftL_get (c d l : List Bool) (m n : Nat) (hn : n < l.length) : (shiftL c d l m).getD n false = (l.getD n false || (decide (m ≤ n) && atL c d (n - m))) := by
  by_cases hm : m ≤ l.length
  · rw [shiftL, shiftK_get _ _ _ _ _ _ (by omega)]
    congr 2
    rw [decide_eq_decide]; omega
  · rw [shiftL, show l.length - m = 0 by omega, shiftK, decide_eq_false (show ¬ m ≤ n by omega), Bool.false_and, Bool.or_false]
theorem shiftsL_get (c d bits : List Bool) (off : Nat) (l : List Bool) (n : Nat) (hn : n < l.length) : ∀ k, ((shiftsL c d bits off l k).getD n false = true ↔ l.getD n false = true ∨ ∃ x, x < k ∧ bits.getD x false = true ∧ off + x ≤ n ∧ atL c d (n - (off + x)) = true)
  | 0 => ⟨.inl, fun h => h.elim id fun ⟨x, hx, _⟩ => absurd hx (Nat.not_lt_zero x)⟩
  | k + 1 => by
    have ih := shiftsL_get c d bits off l n hn k
    rw [shiftsL]
    split
    · rename_i hb
      rw [shiftL_get _ _ _ _ _ (by rw [shiftsL_length]; exact hn), Bool.or_eq_true, ih, Bool.and_eq_true, decide_eq_true_eq]
      constructor
      · rintro ((h | ⟨x, hx, h⟩) | h)
        · exact .inl h
        · exact .inr ⟨x, by omega, h⟩
        · exact .inr ⟨k, by omega, hb, h⟩
      · rintro (h | ⟨x, hx, h⟩)
        · exact .inl (.inl h)
        · by_cases e : x = k
          · subst e; exact .inr h.2
          · exact .inl (.inr ⟨x, by omega, h⟩)
    · rename_i hb
      rw [ih]
      constructor
      · rintro (h | ⟨x, hx, h⟩)
        · exact .inl h
        · exact .inr ⟨x, by omega, h⟩
      · rintro (h | ⟨x, hx, h⟩)
        · exact .inl h
        · by_cases e : x = k
          · subst e; exact absurd h.1 hb
          · exact .inr ⟨x, by omega, h⟩
theorem repL_ge (m : Nat) (l : List Bool) : ∀ k n, m + k ≤ l.length → m + k ≤ n → (repL m l k).getD n false = l.getD n false
  | 0, n, _, _ => rfl
  | k + 1, n, h, hn => by
    rw [repL, set_getD _ _ _ _ (by rw [repL_length]; omega), if_neg (by omega), repL_ge m l k n (by omega) (by omega)]
theorem repL_fin (m : Nat) (l : List Bool) (k n : Nat) (hn : n < m + k) : ∀ j, m + (k + j) ≤ l.length → (repL m l (k + j)).getD n false = (repL m l k).getD n false
  | 0, _ => rfl
  | j + 1, h => by
    rw [show k + (j + 1) = (k + j) + 1 by omega, repL, set_getD _ _ _ _ (by rw [repL_length]; omega), if_neg (by omega), repL_fin m l k n hn j (by omega)]
theorem repL_rec (m : Nat) (l : List Bool) (hm : 0 < m) (k i : Nat) (h : m + k ≤ l.length) (hi : i < k) : (repL m l k).getD (m + i) false = (l.getD (m + i) false || (repL m l k).getD i false) := by
  have e1 := repL_fin m l (i + 1) (m + i) (by omega) (k - (i + 1)) (by omega)
  rw [show i + 1 + (k - (i + 1)) = k by omega] at e1
  have e2 := repL_fin m l i i (by omega) (k - i) (by omega)
  rw [show i + (k - i) = k by omega] at e2
  rw [e1, repL, set_getD _ _ _ _ (by rw [repL_length]; omega), if_pos rfl, repL_ge m l i (m + i) (by omega) (by omega), e2]
theorem rep_iff (m : Nat) (l : List Bool) (hm : 0 < m) (hl : m ≤ l.length) : ∀ n, n < l.length → ((repL m l (l.length - m)).getD n false = true ↔ ∃ i, i * m ≤ n ∧ l.getD (n - i * m) false = true) := by
  intro n
  induction n using Nat.strongRecOn with
  | ind n ih =>
    intro hn
    by_cases hlt : n < m
    · have e := repL_fin m l 0 n (by omega) (l.length - m) (by omega)
      rw [Nat.zero_add] at e
      rw [e, repL]
      constructor
      · exact fun h => ⟨0, by omega, by rwa [Nat.zero_mul, Nat.sub_zero]⟩
      · rintro ⟨i, hi, h⟩
        obtain rfl : i = 0 := by
          rcases Nat.eq_zero_or_pos i with h0 | h0
          · exact h0
          · have : 1 * m ≤ i * m := Nat.mul_le_mul_right _ h0
            omega
        rwa [Nat.zero_mul, Nat.sub_zero] at h
    · obtain ⟨q, rfl⟩ : ∃ q, n = m + q := ⟨n - m, by omega⟩
      rw [repL_rec m l hm _ q (by omega) (by omega), Bool.or_eq_true, ih q (by omega) (by omega)]
      constructor
      · rintro (h | ⟨i, hi, h⟩)
        · exact ⟨0, by omega, by rwa [Nat.zero_mul, Nat.sub_zero]⟩
        · refine ⟨i + 1, by rw [Nat.succ_mul]; omega, ?_⟩
          rwa [Nat.succ_mul, show m + q - (i * m + m) = q - i * m by omega]
      · rintro ⟨i, hi, h⟩
        cases i with
        | zero => exact .inl (by rwa [Nat.zero_mul, Nat.sub_zero] at h)
        | succ i =>
          rw [Nat.succ_mul] at hi h
          exact .inr ⟨i, by omega, by rwa [show m + q - (i * m + m) = q - i * m by omega] at h⟩
theorem zero_get (N n : Nat) : ¬ (List.replicate N false).getD n false = true := by
  rw [List.getD_eq_getElem?_getD, List.getElem?_replicate]
  split <;> simp
theorem sumAt_iff (a b c d : List Bool) (n : Nat) : sumAt a b c d n = true ↔ ∃ x, x ≤ n ∧ atL a b x = true ∧ atL c d (n - x) = true := by
  rw [sumAt, List.any_eq_true]
  constructor
  · rintro ⟨x, hx, h⟩
    rw [Bool.and_eq_true] at h
    exact ⟨x, by have := List.mem_range.1 hx; omega, h⟩
  · rintro ⟨x, hx, h⟩
    exact ⟨x, List.mem_range.2 (by omega), by rw [Bool.and_eq_true]; exact h⟩
theorem sumG_eq {a b c d : List Bool} (hb : 0 < b.length) (hN : b.length ≤ sumN a b c d) {n : Nat} (hn : n < sumN a b c d) : sumG a b c d n = sumAt a b c d n := by
  rw [Bool.eq_iff_iff, sumAt_iff, sumG, Bool.or_eq_true, onceL, shiftsL_get _ _ _ _ _ _ (by simpa using hn)]
  obtain ⟨S, hS⟩ : ∃ S, S = shiftsL c d b a.length (List.replicate (sumN a b c d) false) b.length := ⟨_, rfl⟩
  have hSl : S.length = sumN a b c d := by rw [hS, shiftsL_length]; simp
  have hSg : ∀ k, k < sumN a b c d → (S.getD k false = true ↔ ∃ x, x < b.length ∧ b.getD x false = true ∧ a.length + x ≤ k ∧ atL c d (k - (a.length + x)) = true) := fun k hk => by
    rw [hS, shiftsL_get _ _ _ _ _ _ (by simpa using hk)]
    exact ⟨fun h => h.resolve_left (zero_get _ _), .inr⟩
  have hag : (againL a b c d).getD n false = true ↔ ∃ i, i * b.length ≤ n ∧ S.getD (n - i * b.length) false = true := by
    have := rep_iff b.length S hb (by omega) n (by omega)
    rw [hSl] at this
    rw [againL, ← hS]
    exact this
  rw [hag]
  constructor
  · rintro ((h | ⟨x, hx, h1, h2, h3⟩) | ⟨i, hi, h⟩)
    · exact absurd h (zero_get _ _)
    · exact ⟨x, by omega, by rw [atL, if_pos hx]; exact h1, by rwa [Nat.zero_add] at h3⟩
    · obtain ⟨x, hx, h1, h2, h3⟩ := (hSg _ (by omega)).1 h
      refine ⟨a.length + x + i * b.length, by omega, ?_, ?_⟩
      · rw [atL, if_neg (by omega), show a.length + x + i * b.length - a.length = x + i * b.length by omega, Nat.add_mul_mod_self_right, Nat.mod_eq_of_lt hx]
        exact h1
      · rwa [show n - (a.length + x + i * b.length) = n - i * b.length - (a.length + x) by omega]
  · rintro ⟨x, hx, h1, h2⟩
    by_cases hlt : x < a.length
    · rw [atL, if_pos hlt] at h1
      exact .inl (.inr ⟨x, hlt, h1, by omega, by rwa [Nat.zero_add]⟩)
    · rw [atL, if_neg hlt] at h1
      have hm := Nat.mod_lt (x - a.length) hb
      have hd := Nat.div_add_mod (x - a.length) b.length
      rw [Nat.mul_comm] at hd
      refine .inr ⟨(x - a.length) / b.length, by omega, (hSg _ (by omega)).2 ⟨_, hm, h1, by omega, ?_⟩⟩
      rwa [show n - (x - a.length) / b.length * b.length - (a.length + (x - a.length) % b.length) = n - x by omega]
/-- From far enough on, every common period is one of the sum. -/
theorem sum_per {a b c d : List Bool} (hb : 0 < b.length) (hd : 0 < d.length) {P : Nat} (h1 : P % b.length = 0) (h2 : P % d.length = 0) : Per (sumAt a b c d) (a.length + c.length + P) P := by
  have pb : Per (atL a b) a.length P := by
    have := (atL_per (a := a) hb).mul (P / b.length)
    rwa [Nat.div_mul_cancel (Nat.dvd_of_mod_eq_zero h1)] at this
  have pd : Per (atL c d) c.length P := by
    have := (atL_per (a := c) hd).mul (P / d.length)
    rwa [Nat.div_mul_cancel (Nat.dvd_of_mod_eq_zero h2)] at this
  intro n hn
  rw [Bool.eq_iff_iff, sumAt_iff, sumAt_iff]
  constructor
  · rintro ⟨x, hx, e1, e2⟩
    by_cases hxa : a.length + P ≤ x
    · have := pb (x - P) (by omega)
      rw [show x - P + P = x by omega] at this
      exact ⟨x - P, by omega, by rw [← this]; exact e1, by rwa [show n - (x - P) = n + P - x by omega]⟩
    · have := pd (n - x) (by omega)
      rw [show n - x + P = n + P - x by omega] at this
      exact ⟨x, by omega, e1, by rw [← this]; exact e2⟩
  · rintro ⟨x, hx, e1, e2⟩
    by_cases hxa : a.length ≤ x
    · exact ⟨x + P, by omega, by rw [pb x hxa]; exact e1, by rwa [show n + P - (x + P) = n - x by omega]⟩
    · have := pd (n - x) (by omega)
      exact ⟨x, by omega, e1, by rw [show n + P - x = n - x + P by omega, this]; exact e2⟩
theorem sumL_eq (a b c d : List Bool) : sumL a b c d = sumRL a b c d := by
  unfold sumL sumRL
  split
  · rename_i h
    obtain ⟨⟨hb, _⟩, hd, _⟩ := h
    have hP := lcmL_pos hb hd
    have hge := lcmL_ge b.length d.length hb hd
    have hN : b.length ≤ sumN a b c d := by rw [sumN, sumH]; omega
    rw [canonO_congr (g' := sumAt a b c d) fun n hn => sumG_eq hb hN hn]
    exact canon_tab hP (sum_per hb hd (lcm_mod _ _).1 (lcm_mod _ _).2) (Nat.mul_pos hb hd) (sum_per hb hd (mul_mod2 _ _).1 (mul_mod2 _ _).2)
  · rfl
end Go.Proofs.YtpfncffapgkjaaaDoor
