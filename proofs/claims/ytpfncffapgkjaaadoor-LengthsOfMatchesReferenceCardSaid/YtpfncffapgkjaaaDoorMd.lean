/- The lengths of the words of an automaton: both ways one form. No program in sight. -/
import Derived.Test.YtpfncffapgkjaaaDoorLd
import Derived.Test.YtpfncffapgkjaaaDoorLi
import Derived.Test.YtpfncffapgkjaaaDoorLm
import Derived.Test.YtpfncffapgkjaaaDoorLn
import Derived.Test.YtpfncffapgkjaaaDoorLp
import Derived.Test.YtpfncffapgkjaaaDoorLs
import Derived.Test.YtpfncffapgkjaaaDoorLva
import Derived.Test.YtpfncffapgkjaaaDoorMa
import Derived.Test.YtpfncffapgkjaaaDoorMc
import Derived.Test.YtpfncffapgkjaaaDoorMda
namespace Go.Proofs.YtpfncffapgkjaaaDoor
set_option linter.unusedVariables false
open Go.Ab Go.RowKit

theorem ofL_eq {d : Dfa} (hv : validD d = validRD d) : ofL d = ofRL d := by
  unfold ofL ofRL
  generalize 257 = N
  rw [← hv]
  by_cases h : validD d = true
  · rw [if_pos h, if_pos h, ← findRep_congr (seq_eq_iff h) N 0]
    cases hf : findRep d.seq N 0 with
    | none => rfl
    | some p =>
      obtain ⟨i, k⟩ := p
      obtain ⟨hik, e⟩ := findRep_some _ _ hf
      have H : Per d.accB i (k - i) := fun n hn => by
        have := seq_per hik e (n - i)
        rw [show i + (n - i) = n by omega] at this
        rw [Dfa.accB, Dfa.accB, this]
      have eg : (fun n => accR d (d.rs n)) = d.accB := funext fun n => (accB_eq h n).symm
      show canonO d.accB i (k - i) = tabOut (tabL (fun n => accR d (d.rs n)) i (k - i))
      rw [eg]
      exact canon_tab (by omega) H (by omega) H
  · rw [if_neg h, if_neg h]
/-- With one entry too many no automaton is valid. -/
theorem spoilt_valid (l : List UInt8) (x : Bool) : validD { machL l with acc := (machL l).acc ++ [x] } = validRD { machL l with acc := (machL l).acc ++ [x] } := by
  have hl : (machL l).next.length = machN l := by simp [machL]
  have ha : (machL l).acc.length = machN l := by simp [machL]
  rw [validD, validRD, soundD]
  simp only [List.length_append, hl, ha, List.length_cons, List.length_nil]
  rw [decide_eq_false (show ¬ (1 ≤ machN l ∧ machN l ≤ 64 ∧ machN l + (0 + 1) = machN l ∧ 1 ≤ (machL l).nc ∧ (machL l).nc ≤ 256) by omega), decide_eq_false (show ¬ (1 ≤ machN l ∧ machN l + (0 + 1) = machN l) by omega)]
  simp
end Go.Proofs.YtpfncffapgkjaaaDoor
