/- What a small automaton accepts; no program in sight. -/
import Derived.Test.YtpfncffapgkjaaaDoorLi
import Derived.Test.YtpfncffapgkjaaaDoorLm
import Derived.Test.YtpfncffapgkjaaaDoorLn
import Derived.Test.YtpfncffapgkjaaaDoorLp
import Derived.Test.YtpfncffapgkjaaaDoorLs
import Derived.Test.YtpfncffapgkjaaaDoorMa
import Derived.Test.YtpfncffapgkjaaaDoorMc
import Derived.Test.YtpfncffapgkjaaaDoorMda
namespace Go.Proofs.YtpfncffapgkjaaaDoor
set_option linter.unusedVariables false
open Go.Ab Go.RowKit

theorem findRep_le {α : Type} [DecidableEq α] {s : Nat → α} {i k : Nat} : ∀ f k0, findRep s f k0 = some (i, k) → k < k0 + f
  | 0, _, h => by cases h
  | f + 1, k0, h => by
    rw [findRep] at h
    split at h
    · cases h; omega
    · have := findRep_le f (k0 + 1) h; omega
theorem findRep_none {α : Type} [DecidableEq α] {s : Nat → α} : ∀ f k0, findRep s f k0 = none → ∀ k, k0 ≤ k → k < k0 + f → ∀ i, i < k → s i ≠ s k
  | 0, _, _, _, h1, h2, _, _ => by omega
  | f + 1, k0, h, k, h1, h2, i, hi => by
    rw [findRep] at h
    split at h
    · cases h
    · rename_i hf
      by_cases hk : k = k0
      · subst hk
        have := List.find?_eq_none.1 hf i (List.mem_range.2 hi)
        simpa using this
      · exact findRep_none f (k0 + 1) h k (by omega) (by omega) i hi
/-- The lengths of the accepted words of a small automaton. -/
theorem of_can {d : Dfa} (hv : validD d = true) (hr : validRD d = true) (h8 : d.next.length ≤ 8) : IsCan (ofL d) (fun n => accR d (d.rs n)) := by
  have eg : (fun n => accR d (d.rs n)) = d.accB := funext fun n => (accB_eq hv n).symm
  rw [eg, ofL, if_pos hv]
  cases hf : findRep d.seq 257 0 with
  | none =>
    have h1 : ∀ i j, i < j → j < 257 → d.rs i ≠ d.rs j := fun i j hij hj e => findRep_none 257 0 hf j (Nat.zero_le _) (by omega) i hij ((seq_eq_iff hv i j).2 e)
    have := rs_count h8 h1
    omega
  | some p =>
    obtain ⟨i, k⟩ := p
    obtain ⟨hik, e⟩ := findRep_some _ _ hf
    have hk := findRep_le _ _ hf
    have H : Per d.accB i (k - i) := fun n hn => by
      have := seq_per hik e (n - i)
      rw [show i + (n - i) = n by omega] at this
      rw [Dfa.accB, Dfa.accB, this]
    exact isCan_of (by omega) H (by omega) H (by omega)
end Go.Proofs.YtpfncffapgkjaaaDoor
