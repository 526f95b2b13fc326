/- Sets of states as words: plain laws. -/
import Derived.Test.YtpfncffapgkjaaaDoorLd
import Derived.Test.YtpfncffapgkjaaaDoorLi
import Derived.Test.YtpfncffapgkjaaaDoorLm
import Derived.Test.YtpfncffapgkjaaaDoorLo
namespace Go.Proofs.YtpfncffapgkjaaaDoor
set_option linter.unusedVariables false
open Go.Ab Go.RowKit



def accU (a : List Bool) : Nat → UInt64
  | 0 => 0
  | k + 1 => if a.getD k false then accU a k ||| shl64 1 k else accU a k
def rowU (r : List Int) : Nat → UInt64
  | 0 => 0
  | j + 1 => rowU r j ||| shl64 1 (r.getD j 0).toNat
def folL (rows : List (List Int)) : Nat → List UInt64
  | 0 => List.replicate rows.length 0
  | k + 1 => (folL rows k).set k (rowU (rows.getD k []) (rows.getD k []).length)
@[simp] theorem folL_length (rows : List (List Int)) : ∀ k, (folL rows k).length = rows.length
  | 0 => by simp [folL]
  | k + 1 => by rw [folL, List.length_set, folL_length rows k]
theorem folL_get (rows : List (List Int)) : ∀ k i, k ≤ rows.length → i < rows.length → (folL rows k).getD i 0 = if i < k then rowU (rows.getD i []) (rows.getD i []).length else 0
  | 0, i, _, h => by simp [folL, h]
  | k + 1, i, hk, h => by
    rw [folL, getD_set (by rw [folL_length]; omega), folL_get rows k i (by omega) h]
    by_cases e : k = i
    · subst e; simp
    · rw [if_neg e]
      by_cases h2 : i < k
      · rw [if_pos h2, if_pos (by omega)]
      · rw [if_neg h2, if_neg (by omega)]
theorem folL_set (rows : List (List Int)) {k : Nat} (h : k < rows.length) : (folL rows k).set k 0 = folL rows k := by
  refine List.ext_getElem (by simp) fun i h1 h2 => ?_
  rw [List.getElem_set]
  split
  · rename_i e; subst e
    have := folL_get rows k k (Nat.le_of_lt h) h
    rw [if_neg (Nat.lt_irrefl _), List.getD_eq_getElem?_getD, List.getElem?_eq_getElem h2, Option.getD_some] at this
    exact this.symm
  · rfl
/-- What the members of a set of states lead to. -/
def orBits (fol : List UInt64) (x : UInt64) : UInt64 := (List.range 64).foldl (fun a s => if bit x s then a ||| fol.getD s 0 else a) 0
theorem bit_foldl (fol : List UInt64) (x : UInt64) (t : Nat) : ∀ (l : List Nat) (a : UInt64), bit (l.foldl (fun a s => if bit x s then a ||| fol.getD s 0 else a) a) t = (bit a t || l.any fun s => bit x s && bit (fol.getD s 0) t)
  | [], a => by simp
  | s :: l, a => by
    rw [List.foldl_cons, bit_foldl fol x t l]
    by_cases h : bit x s = true
    · simp [h, Bool.or_assoc]
    · simp [h]
theorem bit_orBits (fol : List UInt64) (x : UInt64) (t : Nat) : bit (orBits fol x) t = (List.range 64).any fun s => bit x s && bit (fol.getD s 0) t := by
  rw [orBits, bit_foldl, bit_zero, Bool.false_or]
theorem orBits_zero (fol : List UInt64) : orBits fol 0 = 0 := bit_ext fun t _ => by rw [bit_orBits]; simp
theorem orBits_low (fol : List UInt64) {x : UInt64} {k : Nat} (hk : k < 64) (h1 : bit x k = true) (h2 : ∀ j, j < k → bit x j = false) (a : UInt64) : (a ||| fol.getD k 0) ||| orBits fol (x &&& (x - 1)) = a ||| orBits fol x := by
  refine bit_ext fun t _ => ?_
  simp only [bit_or, bit_orBits]
  have hb := and_pred_low hk h1 h2
  rw [Bool.or_assoc]
  congr 1
  rw [Bool.eq_iff_iff]
  simp only [Bool.or_eq_true, List.any_eq_true, List.mem_range, Bool.and_eq_true, hb, Bool.not_eq_true', decide_eq_false_iff_not]
  constructor
  · rintro (h | ⟨s, hs, ⟨h3, _⟩, h4⟩)
    · exact ⟨k, hk, h1, h⟩
    · exact ⟨s, hs, h3, h4⟩
  · rintro ⟨s, hs, h3, h4⟩
    by_cases e : s = k
    · subst e; exact .inl h4
    · exact .inr ⟨s, hs, ⟨h3, e⟩, h4⟩
def seqU (fol : List UInt64) : Nat → UInt64
  | 0 => 1
  | k + 1 => orBits fol (seqU fol k)
/-- The first value that was there before: where, and where again. -/
def findRep {α : Type} [DecidableEq α] (s : Nat → α) : Nat → Nat → Option (Nat × Nat)
  | 0, _ => none
  | f + 1, k => match (List.range k).find? fun i => decide (s i = s k) with
    | some i => some (i, k)
    | none => findRep s f (k + 1)
def Dfa.fol (d : Dfa) : List UInt64 := folL d.next d.next.length
def Dfa.seq (d : Dfa) : Nat → UInt64 := seqU d.fol
def Dfa.accB (d : Dfa) (n : Nat) : Bool := !decide (d.seq n &&& accU d.acc d.next.length = 0)
def ofL (d : Dfa) : LOut := if validD d then match findRep d.seq 257 0 with
    | some (i, k) => canonO d.accB i (k - i)
    | none => errO 0
  else errO 1
theorem nodup_lt {m : Nat} : ∀ {l : List Nat}, l.Nodup → (∀ x ∈ l, x < m) → l.length ≤ m := by
  induction m with
  | zero => intro l _ h; cases l with
    | nil => exact Nat.le_refl _
    | cons x l => exact absurd (h x (.head _)) (Nat.not_lt_zero x)
  | succ m ih =>
    intro l hn h
    by_cases hm : m ∈ l
    · have h1 := ih (hn.erase m) fun x hx => by
        have h2 := (hn.mem_erase_iff).1 hx
        have := h x h2.2
        have := h2.1
        omega
      rw [List.length_erase_of_mem hm] at h1
      omega
    · have := ih hn fun x hx => by
        have h1 := h x hx
        have h2 : x ≠ m := fun e => hm (e ▸ hx)
        omega
      omega

end Go.Proofs.YtpfncffapgkjaaaDoor
