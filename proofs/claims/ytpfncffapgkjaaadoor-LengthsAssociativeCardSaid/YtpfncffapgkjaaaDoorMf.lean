/- Periods that sets have in common; counting; no program in sight. -/
import Derived.Test.YtpfncffapgkjaaaDoorLd
import Derived.Test.YtpfncffapgkjaaaDoorLi
import Derived.Test.YtpfncffapgkjaaaDoorMa
import Derived.Test.YtpfncffapgkjaaaDoorMc
import Derived.Test.YtpfncffapgkjaaaDoorMe
namespace Go.Proofs.YtpfncffapgkjaaaDoor
set_option linter.unusedVariables false
open Go.Ab Go.RowKit


theorem common3 {a b c : Nat → Bool} {h1 h2 h3 p q r : Nat} (k1 : h1 ≤ 6) (k2 : h2 ≤ 6) (k3 : h3 ≤ 6) (p0 : 0 < p) (q0 : 0 < q) (r0 : 0 < r) (p5 : p ≤ 5) (q5 : q ≤ 5) (r5 : r ≤ 5) (A : Per a h1 p) (B : Per b h2 q) (C : Per c h3 r) :
    ∃ P, 0 < P ∧ P ≤ 125 ∧ Per a 6 P ∧ Per b 6 P ∧ Per c 6 P := by
  refine ⟨p * q * r, Nat.mul_pos (Nat.mul_pos p0 q0) r0, ?_, ?_, ?_, ?_⟩
  · exact Nat.mul_le_mul (Nat.mul_le_mul p5 q5) r5
  · rw [show p * q * r = (q * r) * p by rw [Nat.mul_assoc, Nat.mul_comm]]; exact (A.mul _).later k1
  · rw [show p * q * r = (p * r) * q by rw [Nat.mul_right_comm]]; exact (B.mul _).later k2
  · exact (C.mul _).later k3
theorem and3 (f g h : Nat → Bool) : (fun n => f n && (g n && h n)) = fun n => (f n && g n) && h n := funext fun n => (Bool.and_assoc ..).symm
theorem or3 (f g h : Nat → Bool) : (fun n => f n || (g n || h n)) = fun n => (f n || g n) || h n := funext fun n => (Bool.or_assoc ..).symm
theorem IsCan.cast {o : LOut} {g g' : Nat → Bool} (A : IsCan o g) (e : g = g') : IsCan o g' := e ▸ A
theorem both_eq {a b c d : List Bool} {e e' : Nat} {g : Nat → Bool} (A : IsCan ((a, b), e) g) (B : IsCan ((c, d), e') g) : a = c ∧ b = d := by
  have h := A.unique B
  simp only [Prod.mk.injEq] at h
  exact h.1
/-- Whether one of the first k numbers passes. -/
def anyN (f : Nat → Bool) (k : Nat) : Bool := (List.range k).any f
theorem anyN_succ (f : Nat → Bool) (k : Nat) : anyN f (k + 1) = (anyN f k || f k) := by simp [anyN, List.range_succ]
theorem sumF_any (f g : Nat → Bool) (n : Nat) : sumF f g n = anyN (fun x => f x && g (n - x)) (n + 1) := rfl
theorem common2 {a b : Nat → Bool} {h1 h2 p q : Nat} (k1 : h1 ≤ 10) (k2 : h2 ≤ 10) (p0 : 0 < p) (q0 : 0 < q) (p5 : p ≤ 12) (q5 : q ≤ 12) (A : Per a h1 p) (B : Per b h2 q) :
    ∃ P, 0 < P ∧ P ≤ 144 ∧ Per a 10 P ∧ Per b 10 P := by
  refine ⟨p * q, Nat.mul_pos p0 q0, Nat.mul_le_mul p5 q5, ?_, ?_⟩
  · rw [Nat.mul_comm]; exact (A.mul _).later k1
  · exact (B.mul _).later k2
/-- Whether two sets agree on the first k numbers. -/
def allN (f g : Nat → Bool) (k : Nat) : Bool := (List.range k).all fun n => decide (f n = g n)
theorem allN_succ (f g : Nat → Bool) (k : Nat) : allN f g (k + 1) = (allN f g k && decide (f k = g k)) := by simp [allN, List.range_succ]
theorem canon_same {a b c d : List Bool} {f g : Nat → Bool} {h1 h2 p q : Nat} (A : IsCan ((a, b), 0) f) (B : IsCan ((c, d), 0) g) (p0 : 0 < p) (q0 : 0 < q) (HA : Per f h1 p) (HB : Per g h2 q) (hm : max h1 h2 + p * q ≤ 154) : decide (a = c ∧ b = d) = allN f g 154 := by
  rw [Bool.eq_iff_iff, decide_eq_true_eq, allN, List.all_eq_true]
  constructor
  · rintro ⟨rfl, rfl⟩ n _
    rw [decide_eq_true_eq, ← A.mem, ← B.mem]
  · intro h
    have e : f = g := agree p0 q0 HA HB hm fun n hn => by simpa using h n (List.mem_range.2 hn)
    subst e
    exact both_eq A B

end Go.Proofs.YtpfncffapgkjaaaDoor
