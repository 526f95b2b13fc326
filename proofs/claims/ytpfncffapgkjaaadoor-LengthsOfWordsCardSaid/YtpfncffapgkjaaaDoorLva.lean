/- The reference: made automata, what they are. -/
import Derived.Test.YtpfncffapgkjaaaDoorLm
namespace Go.Proofs.YtpfncffapgkjaaaDoor
set_option linter.unusedVariables false
open Go.Ab Go.RowKit

def mcls : List UInt64 := [18446744073709551615, 18446744073709551615 ^^^ 8589934592 ^^^ 17179869184, 18446744073709551615, 18446744073709551615, 0, 8589934592, 0, 0, 0, 17179869184, 0, 0]
def machN (l : List UInt8) : Nat := if 0 < l.length then 1 + (l.getD 0 0 % 8).toNat else 1
theorem machN_pos (l : List UInt8) : 1 ≤ machN l ∧ machN l ≤ 8 := by
  unfold machN
  split
  · have : (l.getD 0 0 % 8).toNat < 8 := by rw [UInt8.toNat_mod]; exact Nat.mod_lt _ (by decide)
    omega
  · omega
def machK (l : List UInt8) (s c : Nat) : Nat := (l.getD (1 + 4 * s + c) 0).toNat
theorem machK_lt (l : List UInt8) (s c : Nat) : machK l s c < 256 := (l.getD (1 + 4 * s + c) 0).toNat_lt
def machRow (l : List UInt8) (n s c : Nat) : List Int := (List.range (min c 3)).map fun i => ((machK l s i % n : Nat) : Int)
def machNx (l : List UInt8) (n s : Nat) : List (List Int) := (List.range s).map fun i => machRow l n i 3
def machAc (l : List UInt8) (s : Nat) : List Bool := (List.range s).map fun i => decide (machK l i 3 % 3 = 1)
def machA (l : List UInt8) (s c : Nat) : List Bool := machAc l (if c = 4 then s + 1 else s)
def machL (l : List UInt8) : Dfa := { cls := mcls, nc := 3, next := machNx l (machN l) (machN l), acc := machAc l (machN l) }
@[simp] theorem machRow_length (l : List UInt8) (n s c : Nat) : (machRow l n s c).length = min c 3 := by simp [machRow]
@[simp] theorem machNx_length (l : List UInt8) (n s : Nat) : (machNx l n s).length = s := by simp [machNx]
@[simp] theorem machAc_length (l : List UInt8) (s : Nat) : (machAc l s).length = s := by simp [machAc]
@[simp] theorem machA_length (l : List UInt8) (s c : Nat) : (machA l s c).length = if c = 4 then s + 1 else s := by simp [machA]
theorem machRow_step (l : List UInt8) (n s : Nat) {c : Nat} (h : c < 3) : machRow l n s c ++ [((machK l s c % n : Nat) : Int)] = machRow l n s (c + 1) := by
  rw [machRow, machRow, show min c 3 = c by omega, show min (c + 1) 3 = c + 1 by omega, List.range_succ, List.map_append]; rfl
theorem machRow_full (l : List UInt8) (n s : Nat) : machRow l n s 4 = machRow l n s 3 := rfl
theorem machRow_stay (l : List UInt8) (n s : Nat) : machRow l n s 3 = machRow l n s 4 := rfl
theorem machNx_step (l : List UInt8) (n s : Nat) : machNx l n s ++ [machRow l n s 3] = machNx l n (s + 1) := by simp [machNx, List.range_succ]
theorem machA_step (l : List UInt8) (s : Nat) : machA l s 3 ++ [decide (machK l s 3 % 3 = 1)] = machA l s 4 := by simp [machA, machAc, List.range_succ]
theorem machA_stay (l : List UInt8) (s : Nat) {c : Nat} (h : c < 3) : machA l s c = machA l s (c + 1) := by rw [machA, machA, if_neg (by omega), if_neg (by omega)]
theorem rowsC_append (a : List (List Int)) (b : List Int) : rowsC a ++ [.ds b.length (.ints .i64 b)] = rowsC (a ++ [b]) := by simp [rowsC]
theorem allTo_rows {tf : Nat → Ty} {H : Heap} {is : List Nat} {ρ : Nat → Nat} (l : List (List Int)) : allTo (Cell.to tf H is ρ) (rowsC l) (rowsC l) := by
  induction l with
  | nil => trivial
  | cons r l ih => exact ⟨⟨rfl, rfl⟩, ih⟩
theorem allTo_app' {f : Cell → Cell → Prop} : ∀ {a b c d : List Cell}, allTo f a c → allTo f b d → allTo f (a ++ b) (c ++ d)
  | [], _, [], _, _, h => h
  | _ :: _, _, _ :: _, _, h, k => ⟨h.1, allTo_app' h.2 k⟩
  | [], _, _ :: _, _, h, _ => h.elim
  | _ :: _, _, [], _, h, _ => h.elim
theorem machK_ge (l : List UInt8) {s c : Nat} (h : l.length ≤ 1 + 4 * s + c) : machK l s c = 0 := by
  rw [machK, List.getD_eq_getElem?_getD, List.getElem?_eq_none h]; rfl
end Go.Proofs.YtpfncffapgkjaaaDoor
