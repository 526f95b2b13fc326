/- Ultimately periodic sets: the shortest form is one. No program in sight. -/
import Derived.Test.YtpfncffapgkjaaaDoorLa
import Derived.Test.YtpfncffapgkjaaaDoorLc
import Derived.Test.YtpfncffapgkjaaaDoorLd
import Derived.Test.YtpfncffapgkjaaaDoorLe
import Derived.Test.YtpfncffapgkjaaaDoorLi
namespace Go.Proofs.YtpfncffapgkjaaaDoor
set_option linter.unusedVariables false
open Go.Ab Go.RowKit

/-- From h on the period is p. -/
def Per (g : Nat → Bool) (h p : Nat) : Prop := ∀ n, h ≤ n → g (n + p) = g n
theorem Per.mul {g : Nat → Bool} {h p : Nat} (H : Per g h p) : ∀ m, Per g h (m * p)
  | 0 => fun n _ => by simp
  | m + 1 => fun n hn => by rw [Nat.succ_mul, ← Nat.add_assoc, H _ (by omega), H.mul m n hn]
theorem Per.later {g : Nat → Bool} {h h' p : Nat} (H : Per g h p) (hh : h ≤ h') : Per g h' p := fun n hn => H n (by omega)
/-- Another period from further on is one from here on. -/
theorem Per.back {g : Nat → Bool} {h h' p a : Nat} (H : Per g h p) (hp : 0 < p) (K : Per g h' a) : Per g h a := fun n hn => by
  have h1 := H.mul h' (n + a) (by omega)
  have h2 := H.mul h' n hn
  have h3 := K (n + h' * p) (by have : h' * 1 ≤ h' * p := Nat.mul_le_mul_left _ hp; omega)
  rw [← h1, ← h2, ← h3]
  congr 1
  omega
theorem Per.sub {g : Nat → Bool} {h a b : Nat} (H : Per g h a) (K : Per g h b) (hab : b ≤ a) : Per g h (a - b) := fun n hn => by
  have h1 := K (n + (a - b)) (by omega)
  rw [show n + (a - b) + b = n + a by omega] at h1
  rw [← h1, H n hn]
theorem Per.mod {g : Nat → Bool} {h a b : Nat} (H : Per g h a) (K : Per g h b) : Per g h (a % b) := by
  have h1 : a / b * b ≤ a := Nat.div_mul_le_self a b
  have h2 := H.sub (K.mul (a / b)) h1
  have : a - a / b * b = a % b := by have := Nat.div_add_mod a b; rw [Nat.mul_comm] at this; omega
  rwa [this] at h2
/-- The least period is a divisor of every period. -/
structure Can (g : Nat → Bool) (k q : Nat) : Prop where
  pos : 0 < q
  per : Per g k q
  minq : ∀ a h', 0 < a → Per g h' a → q ≤ a
  mink : ∀ k', Per g k' q → k ≤ k'
theorem Can.unique {g : Nat → Bool} {k q k' q' : Nat} (A : Can g k q) (B : Can g k' q') : k = k' ∧ q = q' := by
  have e : q = q' := Nat.le_antisymm (A.minq _ _ B.pos B.per) (B.minq _ _ A.pos A.per)
  subst e
  exact ⟨Nat.le_antisymm (A.mink _ B.per) (B.mink _ A.per), rfl⟩
theorem dvd_of_min {g : Nat → Bool} {h q a : Nat} (hq : 0 < q) (hp : Per g h q) (hmin : ∀ b, 0 < b → Per g h b → q ≤ b) (ha : Per g h a) : a % q = 0 := by
  rcases Nat.eq_zero_or_pos (a % q) with h0 | h0
  · exact h0
  · have := hmin _ h0 (ha.mod hp)
    have := Nat.mod_lt a hq
    omega
/-- A search from q on: the first that passes, or the last. -/
theorem findQ_spec {t : Nat → Bool} : ∀ n q, (∀ j, q ≤ j → j < findQ t n q → t j = false) ∧ (findQ t n q < q + n → t (findQ t n q) = true)
  | 0, q => ⟨fun j h1 h2 => by rw [findQ] at h2; omega, fun h => by rw [findQ] at h; omega⟩
  | n + 1, q => by
    rw [findQ]
    split
    · rename_i h
      exact ⟨fun j h1 h2 => by omega, fun _ => h⟩
    · rename_i h
      obtain ⟨h1, h2⟩ := findQ_spec n (q + 1)
      refine ⟨fun j hj1 hj2 => ?_, fun hlt => h2 (by omega)⟩
      by_cases e : j = q
      · subst e; simpa using h
      · exact h1 j (by omega) hj2
/-- A test that knows the divisors of p that are periods finds the least period. -/
theorem least_period {g : Nat → Bool} {h p : Nat} (hp : 0 < p) (H : Per g h p) {t : Nat → Bool} (ht : ∀ q, 0 < q → q < p → (t q = true ↔ p % q = 0 ∧ Per g h q)) :
    0 < findQ t (p - 1) 1 ∧ findQ t (p - 1) 1 ≤ p ∧ Per g h (findQ t (p - 1) 1) ∧ ∀ a h', 0 < a → Per g h' a → findQ t (p - 1) 1 ≤ a := by
  obtain ⟨h1, h2⟩ := findQ_spec (t := t) (p - 1) 1
  obtain ⟨h3, h4⟩ := findQ_le t (p - 1) 1
  obtain ⟨q, hq⟩ : ∃ q, q = findQ t (p - 1) 1 := ⟨_, rfl⟩
  rw [← hq] at h1 h2 h3 h4 ⊢
  have hper : Per g h q := by
    by_cases e : q < p
    · exact ((ht q (by omega) e).1 (h2 (by omega))).2
    · rw [show q = p by omega]; exact H
  refine ⟨by omega, by omega, hper, fun a h' ha hA => ?_⟩
  -- the least period of all, by strong induction
  have hA' := H.back hp hA
  have key : ∀ b, 0 < b → Per g h b → q ≤ b := by
    -- take the least positive period m
    have hex : ∃ m, 0 < m ∧ Per g h m ∧ ∀ b, 0 < b → Per g h b → m ≤ b := by
      have : ∀ n, ∀ b, b ≤ n → 0 < b → Per g h b → ∃ m, 0 < m ∧ Per g h m ∧ ∀ b, 0 < b → Per g h b → m ≤ b := by
        intro n
        induction n with
        | zero => intro b hb h0 _; omega
        | succ n ih =>
          intro b hb h0 hB
          by_cases hs : ∃ c, c < b ∧ 0 < c ∧ Per g h c
          · obtain ⟨c, hc, hc0, hC⟩ := hs
            exact ih c (by omega) hc0 hC
          · exact ⟨b, h0, hB, fun c hc hC => by
              rcases Nat.lt_or_ge c b with hlt | hge
              · exact absurd ⟨c, hlt, hc, hC⟩ hs
              · exact hge⟩
      exact this p p (Nat.le_refl _) hp H
    obtain ⟨m, hm0, hm, hmin⟩ := hex
    have hdv : p % m = 0 := dvd_of_min hm0 hm hmin H
    have hqm : q ≤ m := by
      rcases Nat.lt_or_ge m q with hlt | hge
      · have h5 := h1 m (by omega) hlt
        have h6 := (ht m hm0 (by omega)).2 ⟨hdv, hm⟩
        rw [h5] at h6; cases h6
      · exact hge
    intro b hb hB
    exact Nat.le_trans hqm (hmin b hb hB)
  exact key a ha hA'
theorem headL_spec {g : Nat → Bool} {q : Nat} : ∀ h, Per g h q → Per g (headL g q h) q ∧ ∀ k', Per g k' q → headL g q h ≤ k'
  | 0, H => ⟨H, fun _ _ => Nat.zero_le _⟩
  | h + 1, H => by
    rw [headL]
    split
    · rename_i e
      exact headL_spec h fun n hn => by
        by_cases e2 : n = h
        · subst e2; exact e.symm
        · exact H n (by omega)
    · rename_i e
      refine ⟨H, fun k' hk => ?_⟩
      rcases Nat.lt_or_ge k' (h + 1) with hlt | hge
      · exact absurd (hk h (by omega)).symm e
      · exact hge
def cutTab (g : Nat → Bool) (k q : Nat) : LOut := if k + q ≤ 512 then (tabL g k q, 0) else errO 2
theorem tabL_eq (g : Nat → Bool) (k q : Nat) : tabL g k q = ((List.range k).map g, (List.range q).map fun i => g (k + i)) := by
  rw [tabL, preL, postL, show min (k + q) k = k by omega, show k + q - k = q by omega]
theorem canonO_can {g : Nat → Bool} {h p : Nat} (hp : 0 < p) (H : Per g h p) : ∃ k q, Can g k q ∧ k ≤ h ∧ q ≤ p ∧ canonO g h p = cutTab g k q := by
  have hL : ∀ n, n < h + p → ((List.range (h + p)).map g).getD n false = g n := fun n hn => by simp [List.getD_eq_getElem?_getD, hn]
  have ht : ∀ q, 0 < q → q < p → (testQ ((List.range (h + p)).map g) h p q = true ↔ p % q = 0 ∧ Per g h q) := by
    intro q hq hqp
    simp only [testQ, decide_eq_true_eq]
    constructor
    · rintro ⟨h1, h2⟩
      refine ⟨h1, ?_⟩
      have hstep : ∀ i, i < p - q → g (h + q + i) = g (h + i) := fun i hi => by
        have := congrArg (fun l => l[i]?) h2
        simp only [List.getElem?_take_of_lt hi, List.getElem?_drop, List.getElem?_map] at this
        rw [List.getElem?_range (by omega), List.getElem?_range (by omega)] at this
        simpa using this
      have hmod : ∀ i, i < p → g (h + i) = g (h + i % q) := by
        intro i
        induction i using Nat.strongRecOn with
        | ind i ih =>
          intro hi
          by_cases hlt : i < q
          · rw [Nat.mod_eq_of_lt hlt]
          · have e1 := hstep (i - q) (by omega)
            rw [show h + q + (i - q) = h + i by omega] at e1
            rw [e1, ih (i - q) (by omega) (by omega), Nat.mod_eq_sub_mod (a := i) (by omega)]
      have hall : ∀ n, h ≤ n → g n = g (h + (n - h) % q) := fun n hn => by
        have e1 : n = (h + (n - h) % p) + (n - h) / p * p := by
          have := Nat.div_add_mod (n - h) p
          rw [Nat.mul_comm] at this
          omega
        have e2 := H.mul ((n - h) / p) (h + (n - h) % p) (by omega)
        rw [← e1] at e2
        rw [e2, hmod _ (Nat.mod_lt _ hp)]
        congr 2
        exact Nat.mod_mod_of_dvd _ (Nat.dvd_of_mod_eq_zero h1)
      intro n hn
      rw [hall (n + q) (by omega), hall n hn]
      congr 2
      rw [show n + q - h = n - h + q by omega, Nat.add_mod_right]
    · rintro ⟨h1, h2⟩
      refine ⟨h1, ?_⟩
      refine List.ext_getElem (by simp; omega) fun i hi1 hi2 => ?_
      simp only [List.getElem_take, List.getElem_drop, List.getElem_map, List.getElem_range]
      rw [show h + q + i = h + i + q by omega]
      exact h2 _ (by omega)
  obtain ⟨q0, q1, q2, q3⟩ := least_period hp H ht
  obtain ⟨q, hq⟩ : ∃ q, q = findQ (testQ ((List.range (h + p)).map g) h p) (p - 1) 1 := ⟨_, rfl⟩
  rw [← hq] at q0 q1 q2 q3
  have hh : ∀ k, k ≤ h → findH ((List.range (h + p)).map g) q k = headL g q k := by
    intro k
    induction k with
    | zero => intro _; rfl
    | succ k ih =>
      intro hk
      rw [findH, headL, hL k (by omega), hL (k + q) (by omega), ih (by omega)]
  obtain ⟨k1, k2⟩ := headL_spec h q2
  have k3 := headL_le g q h
  refine ⟨headL g q h, q, ⟨q0, k1, q3, k2⟩, k3, q1, ?_⟩
  rw [canonO, ← hq, hh h (Nat.le_refl _), cutO, cutTab, tabL_eq]
  split
  · congr 2
    · rw [← List.map_take, List.take_range, show min (headL g q h) (h + p) = headL g q h by omega]
    · refine List.ext_getElem (by simp; omega) fun i hi1 hi2 => ?_
      simp
  · rfl
theorem atL_per {a b : List Bool} (hb : 0 < b.length) : Per (atL a b) a.length b.length := fun n hn => by
  rw [atL, atL, if_neg (by omega), if_neg (by omega), show n + b.length - a.length = (n - a.length) + b.length by omega, Nat.add_mod_right]
theorem bound_can {a b : List Bool} (hb : 0 < b.length) : ∃ k q, Can (atL a b) k q ∧ k ≤ a.length ∧ q ≤ b.length ∧ boundL a b = cutTab (atL a b) k q := by
  have H := atL_per (a := a) hb
  have hat : ∀ i, i < b.length → atL a b (a.length + i) = b.getD i false := fun i hi => by
    rw [atL, if_neg (by omega), show a.length + i - a.length = i by omega, Nat.mod_eq_of_lt hi]
  have ht : ∀ q, 0 < q → q < b.length → (repB b q = true ↔ b.length % q = 0 ∧ Per (atL a b) a.length q) := by
    intro q hq hqb
    simp only [repB, decide_eq_true_eq]
    constructor
    · rintro ⟨h1, h2⟩
      refine ⟨h1, fun n hn => ?_⟩
      rw [atL, atL, if_neg (by omega), if_neg (by omega), h2 _ (Nat.mod_lt _ hb), h2 ((n - a.length) % b.length) (Nat.mod_lt _ hb)]
      congr 1
      rw [Nat.mod_mod_of_dvd _ (Nat.dvd_of_mod_eq_zero h1), Nat.mod_mod_of_dvd _ (Nat.dvd_of_mod_eq_zero h1), show n + q - a.length = (n - a.length) + q by omega, Nat.add_mod_right]
    · rintro ⟨h1, h2⟩
      refine ⟨h1, fun i hi => ?_⟩
      have hlt := Nat.mod_lt i hq
      rw [← hat i hi, ← hat (i % q) (by omega)]
      have e := h2.mul (i / q) (a.length + i % q) (by omega)
      rw [← e]
      congr 1
      have := Nat.div_add_mod i q
      rw [Nat.mul_comm] at this
      omega
  obtain ⟨q0, q1, q2, q3⟩ := least_period hb H ht
  obtain ⟨k1, k2⟩ := headL_spec a.length q2
  refine ⟨_, _, ⟨q0, k1, q3, k2⟩, headL_le _ _ _, q1, ?_⟩
  rw [boundL, cutTab, shortL]
  simp only [tabL, preL_length, postL_length]
  have e1 : min (headL (atL a b) (findQ (repB b) (b.length - 1) 1) a.length + findQ (repB b) (b.length - 1) 1) (headL (atL a b) (findQ (repB b) (b.length - 1) 1) a.length) = headL (atL a b) (findQ (repB b) (b.length - 1) 1) a.length := by omega
  rw [e1, Nat.add_sub_cancel_left]
  by_cases hc : headL (atL a b) (findQ (repB b) (b.length - 1) 1) a.length + findQ (repB b) (b.length - 1) 1 ≤ 512
  · rw [if_pos ⟨q0, hc⟩, if_pos hc]
  · rw [if_neg (fun hh => hc hh.2), if_neg hc]
theorem cut_unique {g : Nat → Bool} {k q k' q' : Nat} (A : Can g k q) (B : Can g k' q') : cutTab g k q = cutTab g k' q' := by
  obtain ⟨rfl, rfl⟩ := A.unique B
  rfl
theorem atL_tab {g : Nat → Bool} {h p : Nat} (hp : 0 < p) (H : Per g h p) : atL (tabL g h p).1 (tabL g h p).2 = g := by
  funext n
  rw [tabL_eq, atL]
  simp only [List.length_map, List.length_range]
  by_cases hn : n < h
  · rw [if_pos hn]; simp [List.getD_eq_getElem?_getD, hn]
  · rw [if_neg hn]
    have hm := Nat.mod_lt (n - h) hp
    have e1 : ((List.range p).map fun i => g (h + i)).getD ((n - h) % p) false = g (h + (n - h) % p) := by simp [List.getD_eq_getElem?_getD, hm]
    rw [e1, ← H.mul ((n - h) / p) (h + (n - h) % p) (by omega)]
    congr 1
    have := Nat.div_add_mod (n - h) p
    rw [Nat.mul_comm] at this
    omega
theorem tab_can {g : Nat → Bool} {h p : Nat} (hp : 0 < p) (H : Per g h p) : ∃ k q, Can g k q ∧ k ≤ h ∧ q ≤ p ∧ tabOut (tabL g h p) = cutTab g k q := by
  have hl : 0 < (tabL g h p).2.length := by rw [tabL_eq]; simpa using hp
  obtain ⟨k, q, hc, h1, h2, h3⟩ := bound_can (a := (tabL g h p).1) hl
  rw [atL_tab hp H] at hc h3
  exact ⟨k, q, hc, by rw [tabL_eq] at h1; simpa using h1, by rw [tabL_eq] at h2; simpa using h2, h3⟩
/-- Whatever the period and the head: one form. -/
theorem canon_tab {g : Nat → Bool} {h p h' p' : Nat} (hp : 0 < p) (H : Per g h p) (hp' : 0 < p') (H' : Per g h' p') : canonO g h p = tabOut (tabL g h' p') := by
  obtain ⟨k, q, hc, _, _, e⟩ := canonO_can hp H
  obtain ⟨k', q', hc', _, _, e'⟩ := tab_can hp' H'
  rw [e, e', cut_unique hc hc']
theorem canon_canon {g : Nat → Bool} {h p h' p' : Nat} (hp : 0 < p) (H : Per g h p) (hp' : 0 < p') (H' : Per g h' p') : canonO g h p = canonO g h' p' := by
  rw [canon_tab hp H hp' H', canon_tab hp' H' hp' H']
theorem canonL_eq (a b : List Bool) : canonL a b = canonRL a b := by
  unfold canonL canonRL
  split
  · rename_i h
    obtain ⟨k, q, hc, _, _, e⟩ := canonO_can h.1 (atL_per (a := a) h.1)
    obtain ⟨k', q', hc', _, _, e'⟩ := bound_can (a := a) h.1
    rw [e, e', cut_unique hc hc']
  · rfl
theorem canonO_congr {g g' : Nat → Bool} {h p : Nat} (e : ∀ n, n < h + p → g n = g' n) : canonO g h p = canonO g' h p := by
  have : (List.range (h + p)).map g = (List.range (h + p)).map g' := List.map_congr_left fun n hn => e n (List.mem_range.1 hn)
  rw [canonO, canonO, this]
theorem op_per {op : Bool → Bool → Bool} {a b c d : List Bool} (hb : 0 < b.length) (hd : 0 < d.length) {m : Nat} (h1 : m % b.length = 0) (h2 : m % d.length = 0) : Per (fun n => op (atL a b n) (atL c d n)) (max a.length c.length) m := fun n hn => by
  have e1 := ((atL_per (a := a) hb).mul (m / b.length)) n (by omega)
  have e2 := ((atL_per (a := c) hd).mul (m / d.length)) n (by omega)
  rw [Nat.div_mul_cancel (Nat.dvd_of_mod_eq_zero h1)] at e1
  rw [Nat.div_mul_cancel (Nat.dvd_of_mod_eq_zero h2)] at e2
  show op _ _ = op _ _
  rw [e1, e2]
theorem lcm_mod (a b : Nat) : lcmL a b % a = 0 ∧ lcmL a b % b = 0 := by
  refine ⟨?_, Nat.mul_mod_left _ _⟩
  have e1 : a / Nat.gcd a b * Nat.gcd a b = a := Nat.div_mul_cancel (Nat.gcd_dvd_left a b)
  have e2 : b / Nat.gcd a b * Nat.gcd a b = b := Nat.div_mul_cancel (Nat.gcd_dvd_right a b)
  have : lcmL a b = a * (b / Nat.gcd a b) := by
    unfold lcmL
    generalize Nat.gcd a b = g at e1 e2 ⊢
    calc a / g * b = a / g * (b / g * g) := by rw [e2]
      _ = a / g * g * (b / g) := by rw [Nat.mul_assoc, Nat.mul_comm g]
      _ = a * (b / g) := by rw [e1]
  rw [this, Nat.mul_mod_right]
theorem mul_mod2 (a b : Nat) : (a * b) % a = 0 ∧ (a * b) % b = 0 := ⟨Nat.mul_mod_right _ _, Nat.mul_mod_left _ _⟩
theorem mergeL_eq (op : Bool → Bool → Bool) (a b c d : List Bool) : mergeL op a b c d = combL op a b c d := by
  unfold mergeL combL
  split
  · rename_i h
    obtain ⟨⟨hb, _⟩, hd, _⟩ := h
    exact canon_tab (lcmL_pos hb hd) (op_per hb hd (lcm_mod _ _).1 (lcm_mod _ _).2) (Nat.mul_pos hb hd) (op_per hb hd (mul_mod2 _ _).1 (mul_mod2 _ _).2)
  · rfl
end Go.Proofs.YtpfncffapgkjaaaDoor
