/- Canonical forms: one for each set; no program in sight. -/
import Derived.Test.YtpfncffapgkjaaaDoorLa
import Derived.Test.YtpfncffapgkjaaaDoorLe
import Derived.Test.YtpfncffapgkjaaaDoorLi
import Derived.Test.YtpfncffapgkjaaaDoorMa
import Derived.Test.YtpfncffapgkjaaaDoorMc
namespace Go.Proofs.YtpfncffapgkjaaaDoor
set_option linter.unusedVariables false
open Go.Ab Go.RowKit

theorem Per.mod' {g : Nat → Bool} {h p : Nat} (H : Per g h p) (n : Nat) (hn : h ≤ n) : g n = g (h + (n - h) % p) := by
  have h1 := H.mul ((n - h) / p) (h + (n - h) % p) (by omega)
  rw [← h1]
  congr 1
  have := Nat.div_add_mod (n - h) p
  rw [Nat.mul_comm] at this
  omega
/-- Two sets that agree far enough are one. -/
theorem agree {g g' : Nat → Bool} {h h' p p' : Nat} (hp : 0 < p) (hp' : 0 < p') (H : Per g h p) (H' : Per g' h' p') {m : Nat} (hm : max h h' + p * p' ≤ m) (e : ∀ n, n < m → g n = g' n) : g = g' := by
  funext n
  rcases Nat.lt_or_ge n m with hn | hn
  · exact e n hn
  · have hP : 0 < p * p' := Nat.mul_pos hp hp'
    have A : Per g (max h h') (p * p') := by rw [Nat.mul_comm]; exact (H.mul p').later (by omega)
    have B : Per g' (max h h') (p * p') := (H'.mul p).later (by omega)
    rw [A.mod' n (by omega), B.mod' n (by omega)]
    have := Nat.mod_lt (n - max h h') hP
    exact e _ (by omega)
theorem canonL_can {a b : List Bool} {g : Nat → Bool} (h1 : 0 < b.length ∧ a.length + b.length ≤ 512) (e : atL a b = g) : IsCan (canonL a b) g := by
  subst e
  rw [canonL, if_pos h1]
  exact isCan_of h1.1 (atL_per h1.1) h1.1 (atL_per h1.1) h1.2
theorem per_or {f g : Nat → Bool} {h h' p : Nat} (H : Per f h p) (H' : Per g h' p) : Per (fun n => f n || g n) (max h h') p := fun n hn => by
  show (f (n + p) || g (n + p)) = (f n || g n)
  rw [H n (by omega), H' n (by omega)]
theorem per_and {f g : Nat → Bool} {h h' p : Nat} (H : Per f h p) (H' : Per g h' p) : Per (fun n => f n && g n) (max h h') p := fun n hn => by
  show (f (n + p) && g (n + p)) = (f n && g n)
  rw [H n (by omega), H' n (by omega)]
/-- From far enough on, every common period is one of the sum. -/
theorem sumF_per {f g : Nat → Bool} {h h' p : Nat} (hp : 0 < p) (H : Per f h p) (H' : Per g h' p) : Per (sumF f g) (h + h' + p) p := fun n hn => by
  rw [Bool.eq_iff_iff, sumF_iff, sumF_iff]
  constructor
  · rintro ⟨x, y, e, h1, h2⟩
    by_cases hx : h + p ≤ x
    · refine ⟨x - p, y, by omega, ?_, h2⟩
      have := H (x - p) (by omega)
      rw [show x - p + p = x by omega] at this
      rw [← this]; exact h1
    · refine ⟨x, y - p, by omega, h1, ?_⟩
      have := H' (y - p) (by omega)
      rw [show y - p + p = y by omega] at this
      rw [← this]; exact h2
  · rintro ⟨x, y, e, h1, h2⟩
    by_cases hx : h ≤ x
    · exact ⟨x + p, y, by omega, (H x hx).trans h1, h2⟩
    · exact ⟨x, y + p, by omega, h1, (H' y (by omega)).trans h2⟩
end Go.Proofs.YtpfncffapgkjaaaDoor
