/- Sets that fit: the canonical form has the members of the set, and is one for each set. No program in sight. -/
import Derived.Test.YtpfncffapgkjaaaDoorLa
import Derived.Test.YtpfncffapgkjaaaDoorLc
import Derived.Test.YtpfncffapgkjaaaDoorLd
import Derived.Test.YtpfncffapgkjaaaDoorLe
import Derived.Test.YtpfncffapgkjaaaDoorLg
import Derived.Test.YtpfncffapgkjaaaDoorLi
import Derived.Test.YtpfncffapgkjaaaDoorMa
import Derived.Test.YtpfncffapgkjaaaDoorMb
namespace Go.Proofs.YtpfncffapgkjaaaDoor
set_option linter.unusedVariables false
open Go.Ab Go.RowKit

/-- The outcome o is the canonical form of the set g. -/
structure IsCan (o : LOut) (g : Nat → Bool) : Prop where
  ex : ∃ k q, Can g k q ∧ o = (tabL g k q, 0) ∧ k + q ≤ 512
theorem IsCan.unique {o o' : LOut} {g : Nat → Bool} (A : IsCan o g) (B : IsCan o' g) : o = o' := by
  obtain ⟨k, q, hc, rfl, _⟩ := A.ex
  obtain ⟨k', q', hc', rfl, _⟩ := B.ex
  obtain ⟨rfl, rfl⟩ := hc.unique hc'
  rfl
theorem IsCan.err {o : LOut} {g : Nat → Bool} (A : IsCan o g) : o.2 = 0 := by
  obtain ⟨k, q, _, rfl, _⟩ := A.ex
  rfl
theorem IsCan.valid {o : LOut} {g : Nat → Bool} (A : IsCan o g) : 0 < o.1.2.length ∧ o.1.1.length + o.1.2.length ≤ 512 := by
  obtain ⟨k, q, hc, rfl, h⟩ := A.ex
  rw [tabL_eq]
  simp only [List.length_map, List.length_range]
  exact ⟨hc.pos, h⟩
theorem IsCan.mem {o : LOut} {g : Nat → Bool} (A : IsCan o g) : atL o.1.1 o.1.2 = g := by
  obtain ⟨k, q, hc, rfl, _⟩ := A.ex
  exact atL_tab hc.pos hc.per
theorem IsCan.short {o : LOut} {g : Nat → Bool} (A : IsCan o g) {h p : Nat} (hp : 0 < p) (H : Per g h p) : o.1.1.length ≤ h ∧ o.1.2.length ≤ p := by
  obtain ⟨k, q, hc, rfl, _⟩ := A.ex
  rw [tabL_eq]
  simp only [List.length_map, List.length_range]
  exact ⟨hc.mink h (H.back hp hc.per), hc.minq p h hp H⟩
/-- Whatever the table, if some head and cycle of the set fit. -/
theorem isCan_of {g : Nat → Bool} {h p h' p' : Nat} (hp : 0 < p) (H : Per g h p) (hp' : 0 < p') (H' : Per g h' p') (hb : h' + p' ≤ 512) : IsCan (canonO g h p) g := by
  obtain ⟨k, q, hc, hk, hq, e⟩ := canonO_can hp' H'
  refine ⟨k, q, hc, ?_, by omega⟩
  rw [canon_canon hp H hp' H', e, cutTab, if_pos (by omega)]
theorem merge_can {op : Bool → Bool → Bool} {a b c d : List Bool} {g1 g2 : Nat → Bool} (h1 : 0 < b.length ∧ a.length + b.length ≤ 512) (h2 : 0 < d.length ∧ c.length + d.length ≤ 512) (e1 : atL a b = g1) (e2 : atL c d = g2)
    {h p : Nat} (hp : 0 < p) (H : Per (fun n => op (g1 n) (g2 n)) h p) (hb : h + p ≤ 512) : IsCan (mergeL op a b c d) (fun n => op (g1 n) (g2 n)) := by
  subst e1 e2
  rw [mergeL, if_pos ⟨h1, h2⟩]
  exact isCan_of (lcmL_pos h1.1 h2.1) (op_per h1.1 h2.1 (lcm_mod _ _).1 (lcm_mod _ _).2) hp H hb
/-- The sum of two sets of numbers. -/
def sumF (g1 g2 : Nat → Bool) (n : Nat) : Bool := (List.range (n + 1)).any fun x => g1 x && g2 (n - x)
theorem sumF_iff (g1 g2 : Nat → Bool) (n : Nat) : sumF g1 g2 n = true ↔ ∃ x y, x + y = n ∧ g1 x = true ∧ g2 y = true := by
  rw [sumF, List.any_eq_true]
  constructor
  · rintro ⟨x, hx, h⟩
    rw [Bool.and_eq_true] at h
    exact ⟨x, n - x, by have := List.mem_range.1 hx; omega, h⟩
  · rintro ⟨x, y, e, h⟩
    exact ⟨x, List.mem_range.2 (by omega), by rw [Bool.and_eq_true, show n - x = y by omega]; exact h⟩
theorem sumAt_eq (a b c d : List Bool) : sumAt a b c d = sumF (atL a b) (atL c d) := rfl
theorem sum_can {a b c d : List Bool} {g1 g2 : Nat → Bool} (h1 : 0 < b.length ∧ a.length + b.length ≤ 512) (h2 : 0 < d.length ∧ c.length + d.length ≤ 512) (e1 : atL a b = g1) (e2 : atL c d = g2)
    {h p : Nat} (hp : 0 < p) (H : Per (sumF g1 g2) h p) (hb : h + p ≤ 512) : IsCan (sumL a b c d) (sumF g1 g2) := by
  subst e1 e2
  have hP := lcmL_pos h1.1 h2.1
  have hge := lcmL_ge b.length d.length h1.1 h2.1
  have hN : b.length ≤ sumN a b c d := by rw [sumN, sumH]; omega
  rw [sumL, if_pos ⟨h1, h2⟩, canonO_congr (g' := sumAt a b c d) fun n hn => sumG_eq h1.1 hN hn]
  exact isCan_of hP (sum_per h1.1 h2.1 (lcm_mod _ _).1 (lcm_mod _ _).2) hp H hb
theorem sumF_assoc (f g h : Nat → Bool) : sumF (sumF f g) h = sumF f (sumF g h) := by
  funext n
  rw [Bool.eq_iff_iff, sumF_iff, sumF_iff]
  constructor
  · rintro ⟨x, y, e, h1, h2⟩
    obtain ⟨u, v, e', h3, h4⟩ := (sumF_iff ..).1 h1
    exact ⟨u, v + y, by omega, h3, (sumF_iff ..).2 ⟨v, y, rfl, h4, h2⟩⟩
  · rintro ⟨x, y, e, h1, h2⟩
    obtain ⟨u, v, e', h3, h4⟩ := (sumF_iff ..).1 h2
    exact ⟨x + u, v, by omega, (sumF_iff ..).2 ⟨x, u, rfl, h1, h3⟩, h4⟩
theorem sumF_or (f g h : Nat → Bool) : sumF f (fun n => g n || h n) = fun n => sumF f g n || sumF f h n := by
  funext n
  rw [Bool.eq_iff_iff, Bool.or_eq_true, sumF_iff, sumF_iff, sumF_iff]
  constructor
  · rintro ⟨x, y, e, h1, h2⟩
    rw [Bool.or_eq_true] at h2
    exact h2.elim (fun h2 => .inl ⟨x, y, e, h1, h2⟩) (fun h2 => .inr ⟨x, y, e, h1, h2⟩)
  · rintro (⟨x, y, e, h1, h2⟩ | ⟨x, y, e, h1, h2⟩)
    · exact ⟨x, y, e, h1, by rw [h2, Bool.true_or]⟩
    · exact ⟨x, y, e, h1, by rw [h2, Bool.or_true]⟩
theorem merge_comm {op : Bool → Bool → Bool} (ho : ∀ x y, op x y = op y x) (a b c d : List Bool) : mergeL op a b c d = mergeL op c d a b := by
  rw [mergeL, mergeL]
  by_cases hc : (0 < b.length ∧ a.length + b.length ≤ 512) ∧ 0 < d.length ∧ c.length + d.length ≤ 512
  · rw [if_pos hc, if_pos ⟨hc.2, hc.1⟩]
    obtain ⟨⟨hb, _⟩, hd, _⟩ := hc
    have e : (fun n => op (atL a b n) (atL c d n)) = fun n => op (atL c d n) (atL a b n) := funext fun n => ho _ _
    have H := op_per (op := op) (a := a) (c := c) hb hd (lcm_mod _ _).1 (lcm_mod _ _).2
    rw [e] at H ⊢
    exact canon_canon (lcmL_pos hb hd) H (lcmL_pos hd hb) (op_per hd hb (lcm_mod _ _).1 (lcm_mod _ _).2)
  · rw [if_neg hc, if_neg (fun h => hc ⟨h.2, h.1⟩)]
theorem hasL_val {h c : List Bool} (hv : 0 < c.length ∧ h.length + c.length ≤ 512) (n : Int) : hasL h c n = (decide (0 ≤ n) && atL h c n.toNat) := by
  rw [hasL, validL, decide_eq_true hv, Bool.true_and]
end Go.Proofs.YtpfncffapgkjaaaDoor
