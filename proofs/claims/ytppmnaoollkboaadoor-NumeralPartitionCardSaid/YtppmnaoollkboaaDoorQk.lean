/- Part 11 of what the claims of this seat share: the walk's engine, the functions' contracts, plain mathematics (Us, Utf, Utg, Uth). -/
import Derived.Test.YtppmnaoollkboaaDoorQh
import Derived.Test.YtppmnaoollkboaaDoorQd
import Derived.Test.YtppmnaoollkboaaDoorQc
import Derived.Test.YtppmnaoollkboaaDoorQj
import Derived.Test.YtppmnaoollkboaaDoorQb
import Derived.Test.YtppmnaoollkboaaDoorQi
namespace Go.Proofs.YtppmnaoollkboaaDoor
set_option linter.all false
open Go.Ab Go.RowKit

open Go.Aut
def idL (k : Nat) : List Int := (List.range 256).map fun i => if i < k then (i : Int) else 0
def rowW (x : List UInt8) (s : Nat) : List Int := (List.range 256).map fun b => if s < x.length ∧ b = (x.getD s 0).toNat then ((s : Int) + 1) else ((x.length : Int) + 1)
def rowsW (x : List UInt8) (k : Nat) : List (List Int) := (List.range k).map (rowW x)
def accW (x : List UInt8) (k : Nat) : List Bool := (List.range k).map fun s : Nat => decide ((s : Int) = (x.length : Int))
@[simp] theorem rowsW_length (x : List UInt8) (k : Nat) : (rowsW x k).length = k := by simp [rowsW]
@[simp] theorem accW_length (x : List UInt8) (k : Nat) : (accW x k).length = k := by simp [accW]
theorem rowsW_succ (x : List UInt8) (k : Nat) : rowsW x k ++ [rowW x k] = rowsW x (k + 1) := by simp [rowsW, List.range_succ]
attribute [local irreducible] z0l z26 zl z01 z16 putB fillN canD idL rowsW accW rowW
end Go.Proofs.YtppmnaoollkboaaDoor

namespace Go.Proofs.YtppmnaoollkboaaDoor
set_option linter.all false
open Go.Ab Go.RowKit

open Go.Aut
def tgK (t : Tab) (x : UInt64) (b k : Nat) : UInt64 := (List.range k).foldl (fun a q => if bit x q = true then a ||| shl64 1 ((tblT t).δ q (cN t b)) else a) 0
def tgtU (t : Tab) (x : UInt64) (b : Nat) : UInt64 := tgK t x b t.next.length
theorem tgK_succ (t : Tab) (x : UInt64) (b k : Nat) : tgK t x b (k + 1) = if bit x k = true then tgK t x b k ||| shl64 1 ((tblT t).δ k (cN t b)) else tgK t x b k := by
  rw [tgK, List.range_succ, List.foldl_append]; rfl
theorem tgK_bit {t : Tab} (ht : t.ok) (h64 : t.next.length ≤ 64) {x : UInt64} {b : Nat} {k q : Nat} (hk : k ≤ t.next.length) : bit (tgK t x b k) q = true ↔ ∃ r, r < k ∧ bit x r = true ∧ (tblT t).δ r (cN t b) = q := by
  have hc : cN t b < t.nc := by
    rcases Nat.lt_or_ge b 256 with h | h
    · exact (cellN ht h).1
    · have : cN t b = 0 := by
        show (t.cell.getD b 0).toNat = 0
        rw [List.getD_eq_getElem?_getD, List.getElem?_eq_none (by rw [ht.clen]; exact h)]; rfl
      rw [this]; exact Tab.nc_pos ht
  induction k with
  | zero => exact ⟨fun h => (by rw [show tgK t x b 0 = 0 from rfl, zcp] at h; cases h), fun ⟨r, hr, _⟩ => absurd hr (Nat.not_lt_zero r)⟩
  | succ k ih =>
    have ih : bit (tgK t x b k) q = true ↔ ∃ r, r < k ∧ bit x r = true ∧ (tblT t).δ r (cN t b) = q := ih (by omega)
    have hd := (nextN ht (show k < t.next.length by omega) hc).1
    rw [tgK_succ]
    by_cases hb : bit x k = true
    · rw [if_pos hb, bit_or, Bool.or_eq_true, ih, zcq, Bool.and_eq_true, decide_eq_true_eq, decide_eq_true_eq]
      constructor
      · rintro (⟨r, h1, h2⟩ | ⟨e, _⟩)
        · exact ⟨r, by omega, h2⟩
        · exact ⟨k, by omega, hb, e.symm⟩
      · rintro ⟨r, h1, h2, h3⟩
        by_cases e : r = k
        · subst e; exact .inr ⟨h3.symm, by omega⟩
        · exact .inl ⟨r, by omega, h2, h3⟩
    · rw [if_neg hb, ih]
      constructor
      · rintro ⟨r, h1, h2⟩; exact ⟨r, by omega, h2⟩
      · rintro ⟨r, h1, h2, h3⟩
        have : r ≠ k := fun e => hb (e ▸ h2)
        exact ⟨r, by omega, h2, h3⟩
def memT (t : Tab) (x : UInt64) (q : Nat) : Prop := q < t.next.length ∧ bit x q = true
theorem zds {t : Tab} (ht : t.ok) (h64 : t.next.length ≤ 64) {x : UInt64} {b q : Nat} : memT t (tgtU t x b) q ↔ ∃ r, memT t x r ∧ (tblT t).δ r (cN t b) = q := by
  have hc : cN t b < t.nc := by
    rcases Nat.lt_or_ge b 256 with h | h
    · exact (cellN ht h).1
    · have : cN t b = 0 := by
        show (t.cell.getD b 0).toNat = 0
        rw [List.getD_eq_getElem?_getD, List.getElem?_eq_none (by rw [ht.clen]; exact h)]; rfl
      rw [this]; exact Tab.nc_pos ht
  rw [memT, tgtU, tgK_bit ht h64 (Nat.le_refl _)]
  constructor
  · rintro ⟨_, r, h1, h2, h3⟩; exact ⟨r, ⟨h1, h2⟩, h3⟩
  · rintro ⟨r, ⟨h1, h2⟩, rfl⟩; exact ⟨(nextN ht h1 hc).1, r, h1, h2, rfl⟩
attribute [local irreducible] allB
end Go.Proofs.YtppmnaoollkboaaDoor

namespace Go.Proofs.YtppmnaoollkboaaDoor
set_option linter.all false
open Go.Ab Go.RowKit

open Go.Aut
attribute [local irreducible] z0l z26 zl z01 z16 putB tgK
end Go.Proofs.YtppmnaoollkboaaDoor

namespace Go.Proofs.YtppmnaoollkboaaDoor
set_option linter.all false
open Go.Ab Go.RowKit

theorem qUth0 {a : Prop} (h : a := by first | exact vcA | (simp [-List.reduceReplicate] <;> omega) | exact vTh | exact vcB) : a := h
theorem uUth_0 {a : Prop} (h : a := by
    repeat' (first | exact trivial | refine aI ?_ ?_ | rfl | omega)) : a := h
theorem zk8 {a b : Prop} (kZ : b) (h : HidB b → a := by intro kZ; (repeat first | refine aI qUth0 ?_ | refine z06 qUth0 ?_ | refine z04 qUth0 ?_ | refine z0k qUth0 ?_ | refine z0b ?_); exact kZ.out) : a := h ⟨kZ⟩
theorem zbj {a b : Prop} (kZ : b) (h : HidB b → a := by intro kZ; refine sX ?_; refine zk8 ?_; refine exI ?_; exact kZ.out) : a := h ⟨kZ⟩
theorem zhy {a b : Prop} (kZ : b) (h : HidB b → a := by intro kZ; refine sX ?_; refine zk8 ?_; exact kZ.out) : a := h ⟨kZ⟩
open Go.Aut
noncomputable def lstR (d : Dfa) : Option (List Nat) := if z2e d = true then z3e (langD d) else none
theorem lst_tabD (d : Dfa) : z3e ((tblT (tabD d)).lang 0) = z3e (langD d) := z7y fun w hw => za1 d 0 hw
attribute [local irreducible] z0l z26 zl z01 z16 putB prodT canD jL jrep exR z3e
noncomputable def gh1 : Ctx := { P := Tryd.prog, ty := ty, glob := gl, fs := [(50, .flat zhj), (74, .data zct), (86, .data zun)] }
theorem zgc : gh1.OK := ⟨tyOK, ⟨⟨z08 Tryd.func50 (by kernel_rfl) rfl, zed⟩, ⟨z08 Tryd.func74 (by kernel_rfl) rfl, zbc⟩, ⟨z08 Tryd.func86 (by kernel_rfl) rfl, zuo⟩, trivial⟩, mixed⟩
@[simp] theorem gh1_ty : gh1.ty = ty := rfl

def zmh : QSpec := fun vs K => ∃ d : Dfa, vs = [dfaV d] ∧ d.wf ∧ K (lsV (lstR d))
set_option maxHeartbeats 1000000 in
set_option maxRecDepth 4000 in
theorem zk9 : z24 Tryd.prog gl 29 zmh := by
 refine z1x (Γ := gh1) (N := 12) Tryd.func29 rfl rfl fun vs K h => ?_; obtain ⟨d, rfl, hw, h⟩ := h; refine ⟨_, h, z8w _, by simp, fun w I => ?_⟩; refine srR zgc fun _ hK2 => ?_
 iterate 3 refine zbj ?_
 refine s_nil ?_; apply hK2; refine seq_k fun _ hK3 => ?_; refine srR zgc fun _ hK5 => ?_; refine zbj ?_; refine zhy ?_; refine ⟨d, rfl, hw, ?_⟩; refine zk8 ?_
 first | refine exI ?_ | (intro cap1 hcap1; refine exI ?_)
 refine zbj ?_; refine s_nil ?_; apply hK5; refine z05 (b := _) rfl (fun h_t6 => ?_) (fun h_t6 => ?_)
 ·try simp only [dQ, if_true, if_false, reduceIte] at h_t6
  refine srR zgc fun _ hK7 => ?_
  iterate 2 refine zbj ?_
  refine s_nil ?_; apply hK7; rw [lstR, if_neg (by simpa using h_t6)]; refine z0e (z0f zgc (fun _ _ h => h) (z8w _) [] [.tmp 2, .tmp 3] rfl ?_)
  all_goals exact uUth_0
 ·try simp only [dQ, if_true, if_false, reduceIte] at h_t6
  refine z0a ?_; apply hK3
  have hg := (z6n hw).1 (by simpa using h_t6)
  refine srR zgc fun _ hK9 => ?_; refine zbj ?_; refine zhy ?_; refine ⟨d, rfl, hg, ?_⟩; refine zk8 ?_
  first | refine exI ?_ | (intro cap1 hcap1; refine exI ?_)
  refine zhy ?_; refine aI (z3y _) ?_; refine z51 _ ?_; refine ⟨tabD d, rfl, z5v hg, ?_⟩; rw [lst_tabD]; refine zk8 ?_
  first | refine exI ?_ | (intro cap2 hcap2; refine exI ?_)
  iterate 4 refine zbj ?_
  refine s_nil ?_; apply hK9; rw [lstR, if_pos (z6o hg)]; refine z0e (z0f zgc (fun _ _ h => h) (z8w _) [] [.tmp 2, .tmp 3] rfl ?_)
  all_goals exact uUth_0

end Go.Proofs.YtppmnaoollkboaaDoor
