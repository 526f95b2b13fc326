/- Part 12 of what the claims of this seat share: the walk's engine, the functions' contracts, plain mathematics (Utf, Utg, Uth). -/
import Derived.Test.YtppmnaoollkboaaDoorQk
import Derived.Test.YtppmnaoollkboaaDoorQb
import Derived.Test.YtppmnaoollkboaaDoorQj
namespace Go.Proofs.YtppmnaoollkboaaDoor
set_option linter.all false
open Go.Ab Go.RowKit

open Go.Aut
def tgK (t : Tab) (x : UInt64) (b k : Nat) : UInt64 := (List.range k).foldl (fun a q => if bit x q = true then a ||| shl64 1 ((tblT t).δ q (cN t b)) else a) 0
def tgtU (t : Tab) (x : UInt64) (b : Nat) : UInt64 := tgK t x b t.next.length
theorem zex (t : Tab) (x : UInt64) (b k : Nat) : tgK t x b (k + 1) = if bit x k = true then tgK t x b k ||| shl64 1 ((tblT t).δ k (cN t b)) else tgK t x b k := by
  rw [tgK, List.range_succ, List.foldl_append]; rfl
def smK (t : Tab) (x : UInt64) (k : Nat) : Bool := (List.range k).any fun q => t.acc.getD q false && bit x q
def someU (t : Tab) (x : UInt64) : Bool := smK t x t.acc.length
theorem zrc (t : Tab) (x : UInt64) (k : Nat) : smK t x (k + 1) = (smK t x k || (t.acc.getD k false && bit x k)) := by simp [smK, List.range_succ]
theorem zxm (x : UInt64) (q : Nat) : decide (shr64 x q &&& 1 = 1) = bit x q := by
  have h1 : bit (shr64 x q) 0 = bit x q := by
    unfold shr64
    by_cases hq : q < 64
    · rw [if_pos hq, zep, zep, UInt64.toNat_shiftRight, Nat.testBit_shiftRight]
      congr 1
      have : (q.toUInt64).toNat = q := by
        show q % 18446744073709551616 = q
        omega
      rw [this]; omega
    · rw [if_neg hq, za6, zqh (by omega)]
  rw [← h1, Bool.eq_iff_iff, decide_eq_true_eq]
  constructor
  · intro h
    have := congrArg (fun y => bit y 0) h
    simp only [zjj, zo7] at this
    simpa using this
  · intro h
    refine zo6 fun s hs => ?_; rw [zjj, zo7]
    by_cases e : s = 0
    · subst e; rw [h]; rfl
    · simp [e]
theorem tgK_bit {t : Tab} (ht : t.ok) (h64 : t.next.length ≤ 64) {x : UInt64} {b : Nat} {k q : Nat} (hk : k ≤ t.next.length) : bit (tgK t x b k) q = true ↔ ∃ r, r < k ∧ bit x r = true ∧ (tblT t).δ r (cN t b) = q := by
  have hc : cN t b < t.nc := by
    rcases Nat.lt_or_ge b 256 with h | h
    · exact (cellN ht h).1
    · have : cN t b = 0 := by
        show (t.cell.getD b 0).toNat = 0
        rw [List.getD_eq_getElem?_getD, List.getElem?_eq_none (by rw [ht.clen]; exact h)]; rfl
      rw [this]; exact Tab.nc_pos ht
  induction k with
  | zero => exact ⟨fun h => (by rw [show tgK t x b 0 = 0 from rfl, za6] at h; cases h), fun ⟨r, hr, _⟩ => absurd hr (Nat.not_lt_zero r)⟩
  | succ k ih =>
    have ih : bit (tgK t x b k) q = true ↔ ∃ r, r < k ∧ bit x r = true ∧ (tblT t).δ r (cN t b) = q := ih (by omega)
    have hd := (nextN ht (show k < t.next.length by omega) hc).1
    rw [zex]
    by_cases hb : bit x k = true
    · rw [if_pos hb, bit_or, Bool.or_eq_true, ih, zeo, Bool.and_eq_true, decide_eq_true_eq, decide_eq_true_eq]
      constructor
      · rintro (⟨r, h1, h2⟩ | ⟨e, _⟩)
        · exact ⟨r, by omega, h2⟩
        · exact ⟨k, by omega, hb, e.symm⟩
      · rintro ⟨r, h1, h2, h3⟩
        by_cases e : r = k
        · subst e; exact .inr ⟨h3.symm, by omega⟩
        · exact .inl ⟨r, by omega, h2, h3⟩
    · rw [if_neg hb, ih]
      constructor
      · rintro ⟨r, h1, h2⟩; exact ⟨r, by omega, h2⟩
      · rintro ⟨r, h1, h2, h3⟩
        have : r ≠ k := fun e => hb (e ▸ h2)
        exact ⟨r, by omega, h2, h3⟩
def memT (t : Tab) (x : UInt64) (q : Nat) : Prop := q < t.next.length ∧ bit x q = true
theorem z76 {t : Tab} (ht : t.ok) (h64 : t.next.length ≤ 64) {x : UInt64} {b q : Nat} : memT t (tgtU t x b) q ↔ ∃ r, memT t x r ∧ (tblT t).δ r (cN t b) = q := by
  have hc : cN t b < t.nc := by
    rcases Nat.lt_or_ge b 256 with h | h
    · exact (cellN ht h).1
    · have : cN t b = 0 := by
        show (t.cell.getD b 0).toNat = 0
        rw [List.getD_eq_getElem?_getD, List.getElem?_eq_none (by rw [ht.clen]; exact h)]; rfl
      rw [this]; exact Tab.nc_pos ht
  rw [memT, tgtU, tgK_bit ht h64 (Nat.le_refl _)]
  constructor
  · rintro ⟨_, r, h1, h2, h3⟩; exact ⟨r, ⟨h1, h2⟩, h3⟩
  · rintro ⟨r, ⟨h1, h2⟩, rfl⟩; exact ⟨(nextN ht h1 hc).1, r, h1, h2, rfl⟩
theorem zk4 {t : Tab} (ht : t.ok) {x : UInt64} : someU t x = true ↔ ∃ q, memT t x q ∧ t.acc.getD q false = true := by
  rw [someU, smK, List.any_eq_true]
  constructor
  · rintro ⟨q, hq, h⟩
    rw [Bool.and_eq_true] at h; exact ⟨q, ⟨by rw [← ht.alen]; exact List.mem_range.1 hq, h.2⟩, h.1⟩
  · rintro ⟨q, ⟨h1, h2⟩, h3⟩
    exact ⟨q, List.mem_range.2 (by rw [ht.alen]; exact h1), by rw [h2, h3]; rfl⟩
theorem zov {t : Tab} (ht : t.ok) {x : UInt64} {q : Nat} : memT t (x ||| 1) q ↔ memT t x q ∨ q = 0 := by
  rw [memT, memT, bit_or, zo7, Bool.or_eq_true, decide_eq_true_eq]
  constructor
  · rintro ⟨h1, h2 | h2⟩
    · exact .inl ⟨h1, h2⟩
    · exact .inr h2
  · rintro (⟨h1, h2⟩ | h2)
    · exact ⟨h1, .inl h2⟩
    · exact ⟨by rw [h2]; exact ht.npos, .inr h2⟩
theorem zrd {t : Tab} {q : Nat} : ¬ memT t 0 q := fun h => by have := h.2; rw [za6] at this; cases this
def entG (x : Tab) (s : Stt) : Stt := if x.acc.getD s.1 false = true then (s.1, s.2.1, s.2.2 ||| 1) else s
def catG (x y : Tab) (s : Stt) (c : Nat) : Stt := entG x ((tblT x).δ s.1 (cN x c), 0, tgtU y s.2.2 c)
def catA (y : Tab) (s : Stt) : Bool := someU y s.2.2
def cat0 (x : Tab) : Stt := entG x (0, 0, 0)
theorem ze0 (x : Tab) (s : Stt) : (entG x s).1 = s.1 ∧ (entG x s).2.1 = s.2.1 := by unfold entG; split <;> exact ⟨rfl, rfl⟩
theorem zre {x y : Tab} (hy : y.ok) (s : Stt) (q : Nat) : memT y (entG x s).2.2 q ↔ memT y s.2.2 q ∨ (x.acc.getD (entG x s).1 false = true ∧ q = 0) := by
  rw [(ze0 x s).1]; unfold entG
  by_cases h : x.acc.getD s.1 false = true
  · rw [if_pos h, zov hy]
    exact ⟨fun h2 => h2.elim .inl fun e => .inr ⟨h, e⟩, fun h2 => h2.elim .inl fun e => .inr e.2⟩
  · rw [if_neg h]
    exact ⟨.inl, fun h2 => h2.elim id fun e => absurd e.1 h⟩
def catI (x : Tab) (s : Stt) : Prop := s.1 < x.next.length ∧ s.2.1 = 0
theorem catI_0 {x : Tab} (hx : x.ok) : catI x (cat0 x) := ⟨by rw [cat0, (ze0 _ _).1]; exact hx.npos, by rw [cat0, (ze0 _ _).2]⟩
theorem catI_g {x y : Tab} (hx : x.fit) {s : Stt} {c : Nat} (hs : catI x s) (hc : c < 256) : catI x (catG x y s c) :=
  ⟨by rw [catG, (ze0 _ _).1]; exact (nextN hx.1 hs.1 (cellN hx.1 hc).1).1, by rw [catG, (ze0 _ _).2]⟩
theorem catI_ok {x : Tab} (hx : x.fit) {s : Stt} (hs : catI x s) : okS s := ⟨by have := hs.1; have := hx.2.1; omega, by have := hs.2; omega⟩
theorem zm9 {y : Tab} {s : UInt64} {c r : Nat} (h : cN y r = cN y c) : tgtU y s r = tgtU y s c := by
  unfold tgtU tgK; rw [h]
theorem zc4 {x y : Tab} (s : Stt) {c : Nat} (hc : c < 256) : stepF (catG x y) (jrep (cN x) (cN y)) s ((jL x y 256).getD c 0).toNat = catG x y s c := by
  obtain ⟨_, r, h1, h2, h3, _⟩ := (j_in x y).at' c hc; rw [stepF, h1, catG, catG, h2, zm9 h3]
theorem cat_lang {x y : Tab} (hx : x.fit) (hy : y.fit) (h64 : y.next.length ≤ 64) {w : List Nat} (hw : Bytes w) : catA y (runB (catG x y) (cat0 x) w) = catB ((tblT x).lang 0) ((tblT y).lang 0) w := by
  have hm := cat_mem (g := catG x y) (s0 := cat0 x) (mem := fun s q => memT y s.2.2 q) (dx := fun p c => (tblT x).δ p (cN x c)) (dy := fun p c => (tblT y).δ p (cN y c)) (ax := fun q => x.acc.getD q false) (p := fun s => s.1)
    (by rw [cat0, (ze0 _ _).1]) (fun s b => by rw [catG, (ze0 _ _).1]) (fun q => by
      rw [cat0, zre hy.1, (ze0 _ _).1]
      exact ⟨fun h => h.elim (fun h => absurd h zrd) id, .inr⟩) (fun s b q => by
      rw [catG, zre hy.1]
      exact or_congr (z76 hy.1 h64) Iff.rfl) w
  rw [Bool.eq_iff_iff, catA, zk4 hy.1, z3z]
  have h2 := cat_acc (g := catG x y) (s0 := cat0 x) (mem := fun s q => memT y s.2.2 q) (dx := fun p c => (tblT x).δ p (cN x c)) (dy := fun p c => (tblT y).δ p (cN y c)) (ax := fun q => x.acc.getD q false) (ay := fun q => y.acc.getD q false) (w := w) hm.2
  rw [h2]
  have e1 : (fun u => x.acc.getD (runB (fun p c => (tblT x).δ p (cN x c)) 0 u) false) = (tblT x).lang 0 := funext fun u => (z6j (tblT x) u).symm
  have e2 : (fun u => y.acc.getD (runB (fun p c => (tblT y).δ p (cN y c)) 0 u) false) = (tblT y).lang 0 := funext fun u => (z6j (tblT y) u).symm
  rw [e1, e2]
def staG (x : Tab) (s : Stt) (c : Nat) : Stt := (0, 0, if someU x (tgtU x s.2.2 c) = true then tgtU x s.2.2 c ||| 1 else tgtU x s.2.2 c)
def staA (x : Tab) (s : Stt) : Bool := decide (s.1 = 1) || someU x s.2.2
def staI (s : Stt) : Prop := s.1 ≤ 1 ∧ s.2.1 = 0
theorem staI_g (x : Tab) (s : Stt) (c : Nat) : staI (staG x s c) := ⟨Nat.zero_le _, rfl⟩
theorem staI_ok {s : Stt} (hs : staI s) : okS s := ⟨by have := hs.1; omega, by have := hs.2; omega⟩
theorem zma {x : Tab} (s : Stt) {c : Nat} (hc : c < 256) : stepF (staG x) (jrep (cN x) (cN x)) s ((jL x x 256).getD c 0).toNat = staG x s c := by
  obtain ⟨_, r, h1, h2, _, _⟩ := (j_in x x).at' c hc; rw [stepF, h1, staG, staG, zm9 h2]
theorem zrf (x : Tab) : ∀ (w : List Nat) (s : Stt), w ≠ [] → (runB (staG x) s w).1 = 0
  | [], _, h => absurd rfl h
  | [c], s, _ => rfl
  | c :: d :: w, s, _ => zrf x (d :: w) (staG x s c) (by simp)
theorem sta_lang {x : Tab} (hx : x.fit) (h64 : x.next.length ≤ 64) {w : List Nat} (hw : Bytes w) : staA x (runB (staG x) (1, 0, 1) w) = starB ((tblT x).lang 0) w := by
  have e1 : (fun u => x.acc.getD (runB (fun p c => (tblT x).δ p (cN x c)) 0 u) false) = (tblT x).lang 0 := funext fun u => (z6j (tblT x) u).symm
  rw [Bool.eq_iff_iff, z5g]
  cases w with
  | nil => exact ⟨fun _ => StarL.nil _, fun _ => rfl⟩
  | cons c w =>
    have hm := star_mem (g := staG x) (s0 := ((1, 0, 1) : Stt)) (mem := fun s q => memT x s.2.2 q) (d := fun p c => (tblT x).δ p (cN x c)) (a := fun q => x.acc.getD q false)
      (fun q => by
        have := zov hx.1 (x := 0) (q := q)
        rw [show (0 ||| 1 : UInt64) = 1 from rfl] at this; rw [this]
        exact ⟨fun h => h.elim (fun h => absurd h zrd) id, .inr⟩)
      (fun s b q => by
        show memT x (if someU x (tgtU x s.2.2 b) = true then tgtU x s.2.2 b ||| 1 else tgtU x s.2.2 b) q ↔ _
        have hs := zk4 hx.1 (x := tgtU x s.2.2 b)
        have hiff : someU x (tgtU x s.2.2 b) = true ↔ ∃ r, memT x s.2.2 r ∧ x.acc.getD ((tblT x).δ r (cN x b)) false = true := by
          rw [hs]
          constructor
          · rintro ⟨q, hq, ha⟩
            obtain ⟨r, hr, rfl⟩ := (z76 hx.1 h64).1 hq; exact ⟨r, hr, ha⟩
          · rintro ⟨r, hr, ha⟩
            exact ⟨_, (z76 hx.1 h64).2 ⟨r, hr, rfl⟩, ha⟩
        by_cases h : someU x (tgtU x s.2.2 b) = true
        · rw [if_pos h, zov hx.1, z76 hx.1 h64]
          exact or_congr Iff.rfl ⟨fun e => ⟨e, hiff.1 h⟩, fun e => e.1⟩
        · rw [if_neg h, z76 hx.1 h64]
          exact ⟨.inl, fun h2 => h2.elim id fun e => absurd (hiff.2 e.2) h⟩) (c :: w)
    have h2 := star_acc (g := staG x) (s0 := ((1, 0, 1) : Stt)) (mem := fun s q => memT x s.2.2 q) (d := fun p c => (tblT x).δ p (cN x c)) (a := fun q => x.acc.getD q false) (show c :: w ≠ [] by simp) hm
    rw [e1] at h2; rw [← h2, staA, zrf x (c :: w) _ (by simp)]
    simp only [decide_eq_false (show ¬ (0 : Nat) = 1 by decide), Bool.false_or]
    exact zk4 hx.1
def canT (d : Dfa) : Tab := tabD d
theorem z42 {d : Dfa} (h : d.good) : (canD (langD d)).good ∧ ∀ w, Bytes w → langD (canD (langD d)) w = langD d w := by
  obtain ⟨h1, h2, h3⟩ := zjc h.1; exact ⟨⟨h1, Nat.le_trans h3 h.2⟩, fun w hw => zg0 h2 hw⟩
attribute [local irreducible] allB
theorem zab {g : Stt → Nat → Stt} {acc : Stt → Bool} {a b : Tab} {s0 : Stt} {L : List Nat → Bool} {m : Nat} (hm : m ≤ 65535) (hc : ∀ s x, x < 256 → stepF g (jrep (cN a) (cN b)) s ((jL a b 256).getD x 0).toNat = g s x) (hL : ∀ w, Bytes w → acc (runB g s0 w) = L w)
    (h : ¬ Big (stepF g (jrep (cN a) (cN b))) (jrep (cN a) (cN b)).length s0 m) : (exR g acc (jL a b 256) (jrep (cN a) (cN b)) s0 m).1.fit ∧ (exR g acc (jL a b 256) (jrep (cN a) (cN b)) s0 m).2 = true ∧ canD ((tblT (exR g acc (jL a b 256) (jrep (cN a) (cN b)) s0 m).1).lang 0) = canD L := by
  obtain ⟨n, hn, hle⟩ := zos h
  have hn0 : 0 < n := by
    rcases Nat.eq_zero_or_pos n with e | e
    · subst e
      have := hn.len
      have h2 := zeh (f := stepF g (jrep (cN a) (cN b))) (nc := (jrep (cN a) (cN b)).length) (b0 := s0) (0 * (jrep (cN a) (cN b)).length)
      omega
    · exact e
  have hj := j_in a b
  rw [exR, if_neg h, zqt hn]; refine ⟨⟨zvl hn hn0 (z0l a b 256) hj.cl hj.on, ?_, hj.max⟩, rfl, z1n fun w hw => ?_⟩
  · show (rowsQ _ _ _ n).length ≤ 65535
    rw [z3q]; omega
  · rw [zlp (g := g) hn hn0 (fun x hx => (hj.at' x hx).1) (fun s x hx => hc s x hx) hw]
    exact hL w hw
theorem exT_big {g : Stt → Nat → Stt} {acc : Stt → Bool} {cell : List Int} {bytes : List Nat} {s0 : Stt} {m : Nat} (h : Big (stepF g bytes) bytes.length s0 m) : exR g acc cell bytes s0 m = (zeroT, false) := by rw [exR, if_pos h]
open Classical in
noncomputable def z3d (d e : Dfa) : Dfa × Nat := if z0s d = true ∧ z0s e = true then
  (if Big (stepF (catG (tabD (canD (langD d))) (tabD (canD (langD e)))) (jrep (cN (tabD (canD (langD d)))) (cN (tabD (canD (langD e)))))) (jrep (cN (tabD (canD (langD d)))) (cN (tabD (canD (langD e))))).length (cat0 (tabD (canD (langD d)))) 4096 then (noD, 2) else limL (canD (catB (langD d) (langD e)))) else (noD, 1)
open Classical in
noncomputable def starR (d : Dfa) : Dfa × Nat := if z0s d = true then
  (if Big (stepF (staG (tabD (canD (langD d)))) (jrep (cN (tabD (canD (langD d)))) (cN (tabD (canD (langD d)))))) (jrep (cN (tabD (canD (langD d)))) (cN (tabD (canD (langD d))))).length (1, 0, 1) 4096 then (noD, 2) else limL (canD (starB (langD d)))) else (noD, 1)

end Go.Proofs.YtppmnaoollkboaaDoor

namespace Go.Proofs.YtppmnaoollkboaaDoor
set_option linter.all false
open Go.Ab Go.RowKit

theorem qUtg0 {a : Prop} (h : a := by first | exact vcA | (simp [-List.reduceReplicate] <;> omega) | (show (_ : Nat) < 3; decide) | (show (_ : Nat) < 1; decide) | (show (_ : Nat) ≤ 3; decide) | exact vTh | exact vcB) : a := h
theorem qUtg1 {a : Prop} (h : a := by first | exact vcA | (simp [-List.reduceReplicate] <;> omega) | (show (_ : Nat) < 3; decide) | (show (_ : Nat) < 1; decide) | (show (_ : Nat) ≤ 3; decide) | exact vTx | exact vcB) : a := h
theorem qUtg2 {a : Prop} (h : a := by first | exact trivial | rfl | (show (_ : Nat) ≤ 3; decide) | (show (_ : Nat) < 3; decide) | decide) : a := h
theorem qUtg3 {a : Prop} (h : a := by first | exact vcA | (simp [-List.reduceReplicate] <;> omega) | (show (_ : Nat) < 3; decide) | (show (_ : Nat) < 1; decide) | (show (_ : Nat) ≤ 3; decide) | exact vTx | exact vTy | exact vcB) : a := h
theorem qUtg4 {a : Prop} (h : a := by first | exact vcA | (simp [-List.reduceReplicate] <;> omega) | (show (_ : Nat) < 3; decide) | (show (_ : Nat) < 1; decide) | (show (_ : Nat) ≤ 3; decide) | exact vTy | exact vcB) : a := h
theorem z2k {a : Prop} (h : a := by
    repeat' (first | exact z30 _ | exact pT  | exact trivial | refine aI ?_ ?_ | exact cC0 | refine low_cons' ?_ ?_ | exact cC1 | fail)
    all_goals first | omega | (show (_ : List UInt64) = _; first | assumption | rfl) | (show (0 : Nat) < (z02 _ _ _ _).length; rw [z01 hcl]; decide) | (simp [-List.reduceReplicate]; done) | (simp [-List.reduceReplicate] <;> omega) | skip) : a := h
theorem ze1 {a b : Prop} (kZ : b) (h : HidB b → a := by intro kZ; (repeat first | refine aI qUtg0 ?_ | refine z06 qUtg0 ?_ | refine z04 qUtg0 ?_ | refine z0k qUtg0 ?_ | refine z0a ?_); exact kZ.out) : a := h ⟨kZ⟩
theorem z2j {a b : Prop} (kZ : b) (h : HidB b → a := by intro kZ; refine sX ?_; refine ze1 ?_; refine exI ?_; exact kZ.out) : a := h ⟨kZ⟩
theorem zgz {a b : Prop} (kZ : b) (h : HidB b → a := by intro kZ; refine dX ?_; refine ze1 ?_; refine exI ?_; exact kZ.out) : a := h ⟨kZ⟩
theorem gX0Utg_3 {a b : Prop} (kZ : b) (h : HidB b → a := by intro kZ; refine gX0 ?_; refine ze1 ?_; refine exI ?_; exact kZ.out) : a := h ⟨kZ⟩
theorem sX0Utg_4 {a b : Prop} (kZ : b) (h : HidB b → a := by intro kZ; refine sX0 ?_; refine ze1 ?_; refine exI ?_; exact kZ.out) : a := h ⟨kZ⟩
theorem zrg {a b : Prop} (kZ : b) (h : HidB b → a := by intro kZ; refine sXT ?_; refine ze1 ?_; refine exI ?_; exact kZ.out) : a := h ⟨kZ⟩
theorem ze2 {a b : Prop} (kZ : b) (h : HidB b → a := by intro kZ; (repeat first | refine aI qUtg1 ?_ | refine z06 qUtg1 ?_ | refine z04 qUtg1 ?_ | refine z0k qUtg1 ?_ | refine z0a ?_); exact kZ.out) : a := h ⟨kZ⟩
theorem z3f {a b : Prop} (kZ : b) (h : HidB b → a := by intro kZ; refine sX ?_; refine ze2 ?_; refine exI ?_; exact kZ.out) : a := h ⟨kZ⟩
theorem z8q {a b : Prop} (kZ : b) (h : HidB b → a := by intro kZ; refine sX0 ?_; refine ze2 ?_; refine exI ?_; exact kZ.out) : a := h ⟨kZ⟩
theorem zh0 {a b : Prop} (kZ : b) (h : HidB b → a := by intro kZ; (repeat first | refine aI qUtg3 ?_ | refine z06 qUtg3 ?_ | refine z04 qUtg3 ?_ | refine z0k qUtg3 ?_ | refine z0a ?_); exact kZ.out) : a := h ⟨kZ⟩
theorem sXUtg_10 {a b : Prop} (kZ : b) (h : HidB b → a := by intro kZ; refine sX ?_; refine zh0 ?_; refine exI ?_; exact kZ.out) : a := h ⟨kZ⟩
theorem z8r {a b : Prop} (kZ : b) (h : HidB b → a := by intro kZ; refine dX ?_; refine zh0 ?_; refine exI ?_; exact kZ.out) : a := h ⟨kZ⟩
theorem zxn {a b : Prop} (kZ : b) (h : HidB b → a := by intro kZ; refine gX0 ?_; refine zh0 ?_; refine exI ?_; exact kZ.out) : a := h ⟨kZ⟩
theorem zow {a b : Prop} (kZ : b) (h : HidB b → a := by intro kZ; (repeat first | refine aI qUtg4 ?_ | refine z06 qUtg4 ?_ | refine z04 qUtg4 ?_ | refine z0k qUtg4 ?_ | refine z0a ?_); exact kZ.out) : a := h ⟨kZ⟩
theorem zk5 {a b : Prop} (kZ : b) (h : HidB b → a := by intro kZ; refine sX ?_; refine zow ?_; refine exI ?_; exact kZ.out) : a := h ⟨kZ⟩
theorem zxo {a b : Prop} (kZ : b) (h : HidB b → a := by intro kZ; refine sXT ?_; refine ze2 ?_; refine exI ?_; exact kZ.out) : a := h ⟨kZ⟩
theorem z7x {a b : Prop} (kZ : b) (h : HidB b → a := by intro kZ; refine sX ?_; refine ze1 ?_; exact kZ.out) : a := h ⟨kZ⟩
theorem z9r {a b : Prop} (kZ : b) (h : HidB b → a := by intro kZ; refine dX ?_; refine ze1 ?_; exact kZ.out) : a := h ⟨kZ⟩
theorem zid {a b : Prop} (kZ : b) (h : HidB b → a := by intro kZ; refine sXT ?_; refine ze1 ?_; exact kZ.out) : a := h ⟨kZ⟩
theorem z4b {a b : Prop} (kZ : b) (h : HidB b → a := by intro kZ; refine sX ?_; refine ze2 ?_; exact kZ.out) : a := h ⟨kZ⟩
theorem z5l {a b : Prop} (kZ : b) (h : HidB b → a := by intro kZ; refine dX ?_; refine zh0 ?_; exact kZ.out) : a := h ⟨kZ⟩
theorem zmb {a b : Prop} (kZ : b) (h : HidB b → a := by intro kZ; refine gX ?_; refine zh0 ?_; exact kZ.out) : a := h ⟨kZ⟩
theorem zh1 {a b : Prop} (kZ : b) (h : HidB b → a := by intro kZ; refine sX ?_; refine zow ?_; exact kZ.out) : a := h ⟨kZ⟩
theorem zda {a b : Prop} (kZ : b) (h : HidB b → a := by intro kZ; refine sXT ?_; refine ze2 ?_; exact kZ.out) : a := h ⟨kZ⟩

open Go.Aut
attribute [local irreducible] z0q z1z zl z02 z18 putB tgK
theorem zrh (x : UInt64) : SV.as (.agg (.cells [.u64 x])) (.agg (.u64s [x])) := SV.as_agg (eqv_u64s [x])
def zk6 : QSpec := fun vs K => ∃ (t : Tab) (x : UInt64) (b : Nat), vs = [tabV t, .agg (.u64s [x]), .c (.int .i64 (b : Int))] ∧ (t.fit ∧ b < 256) ∧ K (.agg (.u64s [tgtU t x b]))
set_option maxHeartbeats 1000000 in
set_option maxRecDepth 4000 in
theorem zie : z16 Tryd.prog gl 79 zk6 := by
 refine z1a (Γ := g0) (N := 39) Tryd.func79 rfl rfl fun vs K h => ?_; obtain ⟨t, x, b, rfl, ⟨ht, hb⟩, h⟩ := h; refine ⟨_, h, rfl, by simp, fun w I => ?_⟩
 have ht0 := ht
 obtain ⟨hok, hlen, hnc⟩ := ht0
 have hcl := hok.clen
 refine seq_k fun _ hK1 => ?_; refine z00 g0_ok fun _ hK2 => ?_
 iterate 3 refine z2j ?_
 refine s_nil ?_; apply hK2; apply hK1; refine seq_k fun _ hK3 => ?_; refine z00 g0_ok fun _ hK4 => ?_; refine z2j ?_; refine s_nil ?_; apply hK4; apply hK3; refine seq_k fun _ hK5 => ?_; refine seq_k fun _ hK6 => ?_; refine leW [0] (fun i => i + 1) [(2, .c (.int .i64 (b : Nat))), (3, .c (.dp (tabC t) 0)), (4, .c (.ptr 0 0)), (6, .c (.ptr 1 0)), (7, .c (.ptr 2 0))] [(0, .own 93 (.u64s [x]) 1), (1, .own 93 (.u64s (List.replicate 1 0)) 1), (2, .own 93 (.u64s [0]) 1)] 3 [1, 2, 3] z2k z2k z2k z2k ?_; refine z00 g0_ok fun _ hK7 => ?_; refine z2j ?_; refine z7x ?_; refine exA (.c (.ds t.next.length (.cells (rowsC t.next)))) (as_eq (congrArg SV.c (z5w hcl))) ?_
 iterate 2 refine z2j ?_
 refine s_nil ?_; apply hK7; apply hK6; refine z09 ?_; refine z0t (α := Nat) (fun k => [(2, .c (.int .i64 (b : Nat))), (3, .c (.dp (tabC t) 0)), (4, .c (.ptr 0 0)), (6, .c (.ptr 1 0)), (7, .c (.ptr 2 0)), (11, .c (.int .i64 (t.next.length : Nat))), (12, .c (.int .i64 (k : Nat)))]) (fun k => [(0, .own 93 (.u64s [x]) 1), (1, .own 93 (.u64s (List.replicate 1 0)) 1), (2, .own 93 (.u64s [tgK t x b k]) 1)]) 3 (fun k => k ≤ t.next.length) (fun k => t.next.length - k) ?_ ?_
 ·have hX1 : [(0 : UInt64)] = [tgK t x b 0] := by unfold tgK; rfl
  refine dnS [] id 0 (Nat.zero_le _) [0, 1, 2] z2k z2k z2k z2k
 ·intro k hk
  refine seq_k fun _ hK8 => ?_; refine z00 g0_ok fun _ hK9 => ?_; refine z2j ?_; refine s_nil ?_; apply hK9; apply hK8; refine seq_k fun _ hK10 => ?_; refine z08 (b := _) rfl (fun h_t13 => ?_) (fun h_t13 => ?_)
  ·try simp only [dQ, if_true, if_false, reduceIte] at h_t13
   refine z0c ?_; apply hK10; refine seq_k fun _ hK11 => ?_; refine z09 ?_; refine seq_k fun _ hK12 => ?_; refine z00 g0_ok fun _ hK13 => ?_
   iterate 2 refine z2j ?_
   refine s_nil ?_; apply hK13; apply hK12; refine seq_k fun _ hK14 => ?_
   have hkl : k < t.next.length := by omega
   refine z00 g0_ok fun _ hK15 => ?_
   iterate 3 refine z2j ?_
   refine z7x ?_; refine exA (.c (.u64 (shr64 x k))) (as_eq (by rw [Int.toNat_natCast]; rfl)) ?_; refine z2j ?_; refine z7x ?_; refine exA (.c (.bool (bit x k))) (as_eq (congrArg (fun v => SV.c (Cell.bool v)) (by rw [← zxm]; rfl))) ?_; refine s_nil ?_; apply hK15; apply hK14; refine z08 (b := _) rfl (fun h_t20 => ?_) (fun h_t20 => ?_)
   ·have hx := nextN hok hkl (cellN hok hb).1
    have hrl := zak hok hkl
    have hcb : cN t b < t.nc := (cellN hok hb).1
    have hx : (tblT t).δ k (cN t b) < t.next.length ∧ (t.next.getD k []).getD (cN t b) 0 = (((tblT t).δ k (cN t b) : Nat) : Int) := hx
    refine z3l g0_ok [(0, true), (1, true), (2, true), (3, true), (4, true), (5, true), (6, true), (7, true), (8, true), (9, true), (10, true), (11, true), (12, true), (13, true), (14, true), (15, true), (16, false)] rfl (by kernel_rfl) (by kernel_rfl) fun _ hK16 => ?_
    iterate 3 refine zgz ?_
    refine z9r ?_; refine exA (.c (.ds t.next.length (.cells (rowsC t.next)))) (as_eq (congrArg SV.c (z5w hcl))) ?_
    iterate 2 refine zgz ?_
    refine z9r ?_; refine exA (.c (.ds (t.next.getD k []).length (.ints .i64 (t.next.getD k [])))) (as_eq (congrArg SV.c (z6y ⟨hkl, by omega⟩))) ?_
    iterate 3 refine zgz ?_
    refine z9r ?_; refine exA (.c (.int .i64 ((cN t b : Nat) : Int))) (as_eq (congrArg SV.c ((zbx hcl (by first | omega | (simp; done)) hb).trans (congrArg (Cell.int IntKind.i64) (cellN hok hb).2)))) ?_; refine zgz ?_; refine z9r ?_; refine exA (.c (.int .i64 ((((tblT t).δ k (cN t b) : Nat) : Int)))) (as_eq (congrArg (fun v => SV.c (Cell.int IntKind.i64 v)) ((congrArg (fun i => (t.next.getD k []).getD i 0) (by omega)).trans hx.2))) ?_; refine z9r ?_; refine exA (.c (.u64 (shl64 1 ((tblT t).δ k (cN t b))))) (as_eq (by rw [Int.toNat_natCast]; rfl)) ?_
    iterate 2 refine zgz ?_
    refine gX0Utg_3 ?_; refine d_nil ?_; apply hK16; refine z0b ?_; apply hK11; refine z00 g0_ok fun _ hK17 => ?_
    iterate 2 refine z2j ?_
    refine s_nil ?_; apply hK17
    have hX1 : [tgK t x b k ||| shl64 1 ((tblT t).δ k (cN t b))] = [tgK t x b (k + 1)] := by rw [zex, if_pos h_t20]
    refine dnS [] id (k + 1) ⟨by omega, by omega⟩ [0, 1, 2] z2k z2k z2k z2k
   ·refine z0c ?_; refine z0b ?_; apply hK11; refine z00 g0_ok fun _ hK18 => ?_
    iterate 2 refine z2j ?_
    refine s_nil ?_; apply hK18
    have hX1 : [tgK t x b k] = [tgK t x b (k + 1)] := by rw [zex, if_neg (by rw [h_t20]; decide)]
    refine dnS [] id (k + 1) ⟨by omega, by omega⟩ [0, 1, 2] z2k z2k z2k z2k
  ·try simp only [dQ, if_true, if_false, reduceIte] at h_t13
   refine z0r ?_; refine z05 ?_; refine z05 ?_; refine z0m ?_; apply hK5; refine seq_k fun _ hK19 => ?_
   obtain rfl : k = t.next.length := by omega
   refine z00 g0_ok fun _ hK20 => ?_; refine z2j ?_; refine sX0Utg_4 ?_; refine s_nil ?_; apply hK20; apply hK19; refine z0f (z0d g0_ok (fun _ _ h => h) (by first | rfl | assumption) [.cell 6 93] rfl ?_); refine rtD ?_
   try refine z06 rfl ?_
   rfl

def zxp : QSpec := fun vs K => ∃ (t : Tab) (x : UInt64), vs = [tabV t, .agg (.u64s [x])] ∧ t.fit ∧ K (.c (.bool (someU t x)))
set_option maxHeartbeats 1000000 in
set_option maxRecDepth 4000 in
theorem zri : z16 Tryd.prog gl 82 zxp := by
 refine z1a (Γ := g0) (N := 25) Tryd.func82 rfl rfl fun vs K h => ?_; obtain ⟨t, x, rfl, ht, h⟩ := h; refine ⟨_, h, rfl, by simp, fun w I => ?_⟩
 have ht0 := ht
 obtain ⟨hok, hlen, hnc⟩ := ht0
 have hcl := hok.clen
 refine seq_k fun _ hK1 => ?_; refine z00 g0_ok fun _ hK2 => ?_
 iterate 3 refine z2j ?_
 refine s_nil ?_; apply hK2; apply hK1; refine seq_k fun _ hK3 => ?_; refine seq_k fun _ hK4 => ?_
 have hal := hok.alen
 refine leW [0] (fun i => i + 1) [(2, .c (.dp (tabC t) 0)), (3, .c (.ptr 0 0))] [(0, .own 93 (.u64s [x]) 1)] 1 [1] z2k z2k z2k z2k ?_; refine z00 g0_ok fun _ hK5 => ?_; refine z2j ?_; refine z7x ?_; refine exA (.c (.ds t.acc.length (.bools t.acc))) (as_eq (congrArg SV.c (zaj hcl))) ?_
 iterate 2 refine z2j ?_
 refine s_nil ?_; apply hK5; apply hK4; refine z09 ?_; refine z0t (α := Nat) (fun k => [(2, .c (.dp (tabC t) 0)), (3, .c (.ptr 0 0)), (8, .c (.ds t.acc.length (.bools t.acc))), (9, .c (.int .i64 (t.acc.length : Nat))), (10, .c (.int .i64 (k : Nat)))]) (fun k => [(0, .own 93 (.u64s [x]) 1)]) 1 (fun k => k ≤ t.acc.length ∧ smK t x k = false) (fun k => t.acc.length - k) ?_ ?_
 ·refine dnS [] id 0 ⟨Nat.zero_le _, rfl⟩ [0] z2k z2k z2k z2k
 ·intro k hk
  refine seq_k fun _ hK6 => ?_; refine z00 g0_ok fun _ hK7 => ?_; refine z2j ?_; refine s_nil ?_; apply hK7; apply hK6; refine seq_k fun _ hK8 => ?_; refine z08 (b := _) rfl (fun h_t11 => ?_) (fun h_t11 => ?_)
  ·try simp only [dQ, if_true, if_false, reduceIte] at h_t11
   refine z0c ?_; apply hK8; refine seq_k fun _ hK9 => ?_; refine z09 ?_; refine seq_k fun _ hK10 => ?_
   have hkl : k < t.acc.length := by omega
   refine z00 g0_ok fun _ hK11 => ?_
   iterate 2 refine z2j ?_
   refine z7x ?_; refine exA (.c (.bool (t.acc.getD k false))) (as_eq (congrArg (fun v => SV.c (Cell.bool v)) (congrArg (fun i => t.acc.getD i false) (by omega)))) ?_
   iterate 2 refine z2j ?_
   refine s_nil ?_; apply hK11; apply hK10; refine seq_k fun _ hK12 => ?_; refine z00 g0_ok fun _ hK13 => ?_; refine z2j ?_; refine z7x ?_; refine exB (fun hb1 => ?_) (fun hb1 => ?_)
   ·try simp only [dQ, if_true, if_false, reduceIte] at hb1
    iterate 3 refine zrg ?_
    refine zid ?_; refine exA (.c (.u64 (shr64 x k))) (as_eq (by rw [Int.toNat_natCast]; rfl)) ?_; refine zrg ?_; refine zid ?_; refine exA (.c (.bool (bit x k))) (as_eq (congrArg (fun v => SV.c (Cell.bool v)) (by rw [← zxm]; rfl))) ?_; refine z2j ?_; refine s_nil ?_; apply hK13; apply hK12; refine z08 (b := _) rfl (fun h_t23 => ?_) (fun h_t23 => ?_)
    ·try simp only [dQ, if_true, if_false, reduceIte] at h_t23
     refine seq_k fun _ hK14 => ?_; refine z00 g0_ok fun _ hK15 => ?_; refine z2j ?_; refine s_nil ?_; apply hK15; apply hK14; refine z0f (z0d g0_ok (fun _ _ h => h) (by first | rfl | assumption) [.tmp 4] rfl ?_); refine rtD ?_
     have hsk : someU t x = true := by
      rw [someU, smK, List.any_eq_true]; exact ⟨k, List.mem_range.2 hkl, by simp_all⟩
     show SV.c (.bool true) = SV.c (.bool (someU t x))
     rw [hsk]
    ·try simp only [dQ, if_true, if_false, reduceIte] at h_t23
     refine z0c ?_; refine z0b ?_; apply hK9; refine z00 g0_ok fun _ hK16 => ?_
     iterate 2 refine z2j ?_
     refine s_nil ?_; apply hK16
     have hsk : smK t x (k + 1) = false := by rw [zrc, hk.2]; simp_all
     refine dnS [] id (k + 1) ⟨⟨by omega, hsk⟩, by omega⟩ [0] z2k z2k z2k z2k
   ·try simp only [dQ, if_true, if_false, reduceIte] at hb1
    iterate 6 refine sN ?_
    refine z2j ?_; refine s_nil ?_; apply hK13; apply hK12; refine z08 (b := _) rfl (fun h_t23 => ?_) (fun _ => ?_)
    ·exfalso; simp at h_t23
    refine z0c ?_; refine z0b ?_; apply hK9; refine z00 g0_ok fun _ hK17 => ?_
    iterate 2 refine z2j ?_
    refine s_nil ?_; apply hK17
    have hsk : smK t x (k + 1) = false := by rw [zrc, hk.2]; simp_all
    refine dnS [] id (k + 1) ⟨⟨by omega, hsk⟩, by omega⟩ [0] z2k z2k z2k z2k
  ·try simp only [dQ, if_true, if_false, reduceIte] at h_t11
   refine z0r ?_; refine z05 ?_; refine z05 ?_; refine z0m ?_; apply hK3; refine seq_k fun _ hK18 => ?_
   obtain rfl : k = t.acc.length := by omega
   refine z00 g0_ok fun _ hK19 => ?_; refine z2j ?_; refine s_nil ?_; apply hK19; apply hK18; refine z0f (z0d g0_ok (fun _ _ h => h) (by first | rfl | assumption) [.tmp 4] rfl ?_); refine rtD ?_
   show SV.c (.bool false) = SV.c (.bool (someU t x))
   rw [someU, hk.2]

def cloE (x : Tab) : Cell := .dp (.cells [.clo 77 [dpT x]]) 0
def entS : QSpec := fun vs K => ∃ (x : Tab) (s : Stt), vs = [stV s, .c (dpT x)] ∧ (x.fit ∧ s.1 < x.next.length) ∧ K (stV (entG x s))
set_option maxHeartbeats 1000000 in
set_option maxRecDepth 4000 in
theorem ent_ok : z16 Tryd.prog gl 77 entS := by
 refine z1a (Γ := g0) (N := 17) Tryd.func77 rfl rfl fun vs K h => ?_; obtain ⟨x, s, rfl, ⟨hx, hs⟩, h⟩ := h; refine ⟨_, h, rfl, by simp, fun w I => ?_⟩; refine seq_k fun _ hK1 => ?_; refine z00 g0_ok fun _ hK2 => ?_
 iterate 2 refine z3f ?_
 refine s_nil ?_; apply hK2; apply hK1; refine seq_k fun _ hK3 => ?_; refine seq_k fun _ hK4 => ?_
 have hal := hx.1.alen
 refine z00 g0_ok fun _ hK5 => ?_; refine z3f ?_; refine z4b ?_; refine exA (.c (.ds x.acc.length (.bools x.acc))) (as_eq (congrArg SV.c (zaj hx.1.clen))) ?_; refine z3f ?_; refine z4b ?_; refine exA (.c (.int .i64 (((s.1 : Nat) : Int)))) (as_eq (congrArg (fun v => SV.c (Cell.int IntKind.i64 v)) (rfl))) ?_; refine z3f ?_; refine z4b ?_; refine exA (.c (.bool (x.acc.getD s.1 false))) (as_eq (congrArg (fun v => SV.c (Cell.bool v)) (congrArg (fun i => x.acc.getD i false) (by omega)))) ?_; refine s_nil ?_; apply hK5; apply hK4; refine z08 (b := _) rfl (fun h_t9 => ?_) (fun h_t9 => ?_)
 ·refine z00 g0_ok fun _ hK6 => ?_
  iterate 6 refine z3f ?_
  refine z8q ?_; refine s_nil ?_; apply hK6; apply hK3; refine seq_k fun _ hK7 => ?_; refine z00 g0_ok fun _ hK8 => ?_; refine z3f ?_; refine z8q ?_; refine s_nil ?_; apply hK8; apply hK7; refine z0f (z0d g0_ok (fun _ _ h => h) (by first | rfl | assumption) [.cell 3 95] rfl ?_)
  repeat first | refine aI qUtg2 ?_ | refine z06 (by rfl) ?_
  rw [entG, if_pos h_t9]; rfl
 ·refine z0c ?_; apply hK3; refine seq_k fun _ hK9 => ?_; refine z00 g0_ok fun _ hK10 => ?_
  refine z3f ?_; refine z8q ?_; refine s_nil ?_; apply hK10; apply hK9; refine z0f (z0d g0_ok (fun _ _ h => h) (by first | rfl | assumption) [.cell 3 95] rfl ?_)
  repeat first | refine aI qUtg2 ?_ | refine z06 (by rfl) ?_
  rw [entG, if_neg (by rw [h_t9]; decide)]; rfl

noncomputable def gq2 : Ctx := { P := Tryd.prog, ty := ty, glob := gl, fs := [(77, .flat entS), (79, .flat zk6)] }
theorem zxq : gq2.OK := ⟨tyOK, ⟨⟨z07 Tryd.func77 (by kernel_rfl) rfl, ent_ok⟩, ⟨z07 Tryd.func79 (by kernel_rfl) rfl, zie⟩, trivial⟩, mixed⟩
@[simp] theorem gq2_ty : gq2.ty = ty := rfl

noncomputable def gq3 : Ctx := { P := Tryd.prog, ty := ty, glob := gl, fs := [(82, .flat zxp)] }
theorem zh2 : gq3.OK := ⟨tyOK, ⟨⟨z07 Tryd.func82 (by kernel_rfl) rfl, zri⟩, trivial⟩, mixed⟩
@[simp] theorem gq3_ty : gq3.ty = ty := rfl

noncomputable def gq4 : Ctx := { P := Tryd.prog, ty := ty, glob := gl, fs := [(79, .flat zk6), (82, .flat zxp)] }
theorem ze3 : gq4.OK := ⟨tyOK, ⟨⟨z07 Tryd.func79 (by kernel_rfl) rfl, zie⟩, ⟨z07 Tryd.func82 (by kernel_rfl) rfl, zri⟩, trivial⟩, mixed⟩
@[simp] theorem gq4_ty : gq4.ty = ty := rfl

def cat2S : QSpec := fun vs K => ∃ (x y : Tab) (s : Stt) (c : Nat), vs = [stV s, .c (.int .i64 (c : Int)), .c (cloE x), .c (dpT x), .c (dpT y)] ∧ (x.fit ∧ y.fit ∧ s.1 < x.next.length ∧ c < 256) ∧ K (stV (catG x y s c))
set_option maxHeartbeats 1000000 in
set_option maxRecDepth 4000 in
theorem cat2_ok : z16 Tryd.prog gl 78 cat2S := by
 refine z1a (Γ := gq2) (N := 28) Tryd.func78 rfl rfl fun vs K h => ?_; obtain ⟨x, y, s, c, rfl, ⟨hx, hy, hs, hc⟩, h⟩ := h; refine ⟨_, h, rfl, by simp, fun w I => ?_⟩; refine seq_k fun _ hK1 => ?_; refine z00 zxq fun _ hK2 => ?_
 iterate 2 refine sXUtg_10 ?_
 refine s_nil ?_; apply hK2; apply hK1; refine seq_k fun _ hK3 => ?_
 have hs1 := hs
 have hra := zak hx.1 hs1
 have hca : cN x c < x.nc := (cellN hx.1 hc).1
 have hxa : ((tblT x).δ s.1 (cN x c)) < x.next.length ∧ (x.next.getD s.1 []).getD (cN x c) 0 = ((((tblT x).δ s.1 (cN x c)) : Nat) : Int) := nextN hx.1 hs1 (cellN hx.1 hc).1
 refine z3l zxq [(0, true), (1, true), (2, true), (3, true), (4, true), (5, true), (6, true), (7, true), (8, true), (9, true), (10, true), (11, true), (12, true), (13, true), (14, true), (15, true), (16, true), (17, false), (18, true), (19, false), (20, false)] rfl (by kernel_rfl) (by kernel_rfl) fun _ hK4 => ?_
 iterate 2 refine z8r ?_
 refine z5l ?_; refine exA (.c (.ds x.next.length (.cells (rowsC x.next)))) (as_eq (congrArg SV.c (z5w hx.1.clen))) ?_; refine z8r ?_; refine z5l ?_; refine exA (.c (.int .i64 (((s.1 : Nat) : Int)))) (as_eq (congrArg (fun v => SV.c (Cell.int IntKind.i64 v)) (rfl))) ?_; refine z8r ?_; refine z5l ?_; refine exA (.c (.ds (x.next.getD s.1 []).length (.ints .i64 (x.next.getD s.1 [])))) (as_eq (congrArg SV.c (z6y ⟨hs1, by omega⟩))) ?_
 iterate 3 refine z8r ?_
 refine z5l ?_; refine exA (.c (.int .i64 ((cN x c : Nat) : Int))) (as_eq (congrArg SV.c ((zbx hx.1.clen (by first | omega | (simp; done)) hc).trans (congrArg (Cell.int IntKind.i64) (cellN hx.1 hc).2)))) ?_; refine z8r ?_; refine z5l ?_; refine exA (.c (.int .i64 (((((tblT x).δ s.1 (cN x c)) : Nat) : Int)))) (as_eq (congrArg (fun v => SV.c (Cell.int IntKind.i64 v)) ((congrArg (fun i => (x.next.getD s.1 []).getD i 0) (by omega)).trans hxa.2))) ?_; refine z5l ?_; refine exA (tabV y) (SV.as_refl _) ?_; refine z8r ?_; refine z5l ?_; refine exA (.agg (.u64s [s.2.2])) (zrh s.2.2) ?_; refine z8r ?_; refine zmb ?_; refine aI (z0v _) ?_; refine z10 _ ?_; refine ⟨y, s.2.2, c, rfl, ⟨hy, hc⟩, ?_⟩; refine zh0 ?_
 first | refine exI ?_ | (intro cap17 hcap17; refine exI ?_)
 refine z5l ?_; refine exA (stV (((tblT x).δ s.1 (cN x c)), 0, tgtU y s.2.2 c)) (as_eq rfl) ?_; refine zmb ?_; refine aI (nc_st _) ?_; refine ⟨x, (((tblT x).δ s.1 (cN x c)), 0, tgtU y s.2.2 c), rfl, ⟨hx, hxa.1⟩, ?_⟩; refine zh0 ?_
 first | refine exI ?_ | (intro cap19 hcap19; refine exI ?_)
 refine zxn ?_; refine d_nil ?_; apply hK4; apply hK3; refine z0f (z0d zxq (fun _ _ h => h) (by first | rfl | assumption) [.cell 7 95] rfl ?_)
 repeat first | refine aI qUtg2 ?_ | refine z06 (by rfl) ?_
 rfl

def cat3S : QSpec := fun vs K => ∃ (y : Tab) (s : Stt), vs = [stV s, .c (dpT y)] ∧ y.fit ∧ K (.c (.bool (catA y s)))
set_option maxHeartbeats 1000000 in
set_option maxRecDepth 4000 in
theorem cat3_ok : z16 Tryd.prog gl 81 cat3S := by
 refine z1a (Γ := gq3) (N := 8) Tryd.func81 rfl rfl fun vs K h => ?_; obtain ⟨y, s, rfl, hy, h⟩ := h; refine ⟨_, h, rfl, by simp, fun w I => ?_⟩; refine seq_k fun _ hK1 => ?_; refine z00 zh2 fun _ hK2 => ?_
 iterate 2 refine zk5 ?_
 refine s_nil ?_; apply hK2; apply hK1; refine seq_k fun _ hK3 => ?_; refine z00 zh2 fun _ hK4 => ?_; refine zh1 ?_; refine exA (tabV y) (SV.as_refl _) ?_; refine zk5 ?_; refine zh1 ?_; refine exA (.agg (.u64s [s.2.2])) (zrh s.2.2) ?_; refine zh1 ?_; refine aI (z0v _) ?_; refine z10 _ ?_; refine ⟨y, s.2.2, rfl, hy, ?_⟩; refine zow ?_
 first | refine exI ?_ | (intro cap3 hcap3; refine exI ?_)
 refine zk5 ?_; refine s_nil ?_; apply hK4; apply hK3; refine z0f (z0d zh2 (fun _ _ h => h) (by first | rfl | assumption) [.tmp 3] rfl ?_)
 repeat first | refine aI qUtg2 ?_ | refine z06 (by rfl) ?_
 rfl

def sta1S : QSpec := fun vs K => ∃ (x : Tab) (s : Stt) (c : Nat), vs = [stV s, .c (.int .i64 (c : Int)), .c (dpT x)] ∧ (x.fit ∧ c < 256) ∧ K (stV (staG x s c))
set_option maxHeartbeats 1000000 in
set_option maxRecDepth 4000 in
theorem sta1_ok : z16 Tryd.prog gl 84 sta1S := by
 refine z1a (Γ := gq4) (N := 21) Tryd.func84 rfl rfl fun vs K h => ?_; obtain ⟨x, s, c, rfl, ⟨hx, hc⟩, h⟩ := h; refine ⟨_, h, rfl, by simp, fun w I => ?_⟩; refine seq_k fun _ hK1 => ?_; refine z00 ze3 fun _ hK2 => ?_
 iterate 2 refine z3f ?_
 refine s_nil ?_; apply hK2; apply hK1; refine seq_k fun _ hK3 => ?_; refine z00 ze3 fun _ hK4 => ?_; refine z4b ?_; refine exA (tabV x) (SV.as_refl _) ?_; refine z3f ?_; refine z4b ?_; refine exA (.agg (.u64s [s.2.2])) (zrh s.2.2) ?_; refine z3f ?_; refine z4b ?_; refine aI (z0v _) ?_; refine z10 _ ?_; refine ⟨x, s.2.2, c, rfl, ⟨hx, hc⟩, ?_⟩; refine ze2 ?_
 first | refine exI ?_ | (intro cap4 hcap4; refine exI ?_)
 refine z3f ?_; refine z8q ?_; refine s_nil ?_; apply hK4; apply hK3; refine seq_k fun _ hK5 => ?_; refine seq_k fun _ hK6 => ?_; refine z00 ze3 fun _ hK7 => ?_; refine z4b ?_; refine exA (tabV x) (SV.as_refl _) ?_; refine z4b ?_; refine exA (.agg (.u64s [tgtU x s.2.2 c])) (SV.as_refl _) ?_; refine z4b ?_; refine aI (z0v _) ?_; refine z10 _ ?_; refine ⟨x, tgtU x s.2.2 c, rfl, hx, ?_⟩; refine ze2 ?_
 first | refine exI ?_ | (intro cap2 hcap2; refine exI ?_)
 refine s_nil ?_; apply hK7; apply hK6; refine z08 (b := _) rfl (fun h_t14 => ?_) (fun h_t14 => ?_)
 ·refine z00 ze3 fun _ hK8 => ?_
  iterate 4 refine z3f ?_
  refine z8q ?_; refine s_nil ?_; apply hK8; apply hK5; refine seq_k fun _ hK9 => ?_; refine z00 ze3 fun _ hK10 => ?_
  iterate 2 refine z3f ?_
  refine z8q ?_; refine s_nil ?_; apply hK10; apply hK9; refine z0f (z0d ze3 (fun _ _ h => h) (by first | rfl | assumption) [.cell 5 95] rfl ?_)
  repeat first | refine aI qUtg2 ?_ | refine z06 (by rfl) ?_
  rw [staG, if_pos h_t14]; rfl
 ·refine z0c ?_; apply hK5; refine seq_k fun _ hK11 => ?_; refine z00 ze3 fun _ hK12 => ?_
  iterate 2 refine z3f ?_
  refine z8q ?_; refine s_nil ?_; apply hK12; apply hK11; refine z0f (z0d ze3 (fun _ _ h => h) (by first | rfl | assumption) [.cell 5 95] rfl ?_)
  repeat first | refine aI qUtg2 ?_ | refine z06 (by rfl) ?_
  rw [staG, if_neg (by rw [h_t14]; decide)]; rfl

def sta2S : QSpec := fun vs K => ∃ (x : Tab) (s : Stt), vs = [stV s, .c (dpT x)] ∧ (x.fit ∧ staI s) ∧ K (.c (.bool (staA x s)))
set_option maxHeartbeats 1000000 in
set_option maxRecDepth 4000 in
theorem sta2_ok : z16 Tryd.prog gl 85 sta2S := by
 refine z1a (Γ := gq3) (N := 13) Tryd.func85 rfl rfl fun vs K h => ?_; obtain ⟨x, s, rfl, ⟨hx, hs⟩, h⟩ := h; refine ⟨_, h, rfl, by simp, fun w I => ?_⟩; refine seq_k fun _ hK1 => ?_; refine z00 zh2 fun _ hK2 => ?_
 iterate 2 refine z3f ?_
 refine s_nil ?_; apply hK2; apply hK1; refine seq_k fun _ hK3 => ?_; refine z00 zh2 fun _ hK4 => ?_
 iterate 3 refine z3f ?_
 refine z4b ?_; refine exB (fun hb3 => ?_) (fun hb3 => ?_)
 ·try simp only [dQ, if_true, if_false, reduceIte] at hb3
  iterate 4 refine sN ?_
  iterate 2 refine z3f ?_
  refine s_nil ?_; apply hK4; apply hK3; refine z0f (z0d zh2 (fun _ _ h => h) (by first | rfl | assumption) [.tmp 3] rfl ?_)
  repeat first | refine aI qUtg2 ?_ | refine z06 (by rfl) ?_
  have e : s.1 = 1 := by omega
  show SV.c (.bool _) = SV.c (.bool (staA x s))
  rw [staA, decide_eq_true e]; rfl
 ·try simp only [dQ, if_true, if_false, reduceIte] at hb3
  refine zda ?_; refine exA (tabV x) (SV.as_refl _) ?_; refine zxo ?_; refine zda ?_; refine exA (.agg (.u64s [s.2.2])) (zrh s.2.2) ?_; refine zda ?_; refine aI (z0v _) ?_; refine z10 _ ?_; refine ⟨x, s.2.2, rfl, hx, ?_⟩; refine ze2 ?_
  first | refine exI ?_ | (intro cap7 hcap7; refine exI ?_)
  iterate 2 refine z3f ?_
  refine s_nil ?_; apply hK4; apply hK3; refine z0f (z0d zh2 (fun _ _ h => h) (by first | rfl | assumption) [.tmp 3] rfl ?_)
  repeat first | refine aI qUtg2 ?_ | refine z06 (by rfl) ?_
  have e : ¬ s.1 = 1 := by omega
  show SV.c (.bool _) = SV.c (.bool (staA x s))
  rw [staA, decide_eq_false e]; rfl


end Go.Proofs.YtppmnaoollkboaaDoor

namespace Go.Proofs.YtppmnaoollkboaaDoor
set_option linter.all false
open Go.Ab Go.RowKit

theorem qUth0 {a : Prop} (h : a := by first | exact vcA | (simp [-List.reduceReplicate] <;> omega) | exact vTh | exact vcB) : a := h
theorem zmc {a : Prop} (h : a := by
    repeat' (first | exact trivial | refine aI ?_ ?_ | rfl | omega)) : a := h
theorem z9s {a b : Prop} (kZ : b) (h : HidB b → a := by intro kZ; (repeat first | refine aI qUth0 ?_ | refine z06 qUth0 ?_ | refine z04 qUth0 ?_ | refine z0k qUth0 ?_ | refine z0a ?_); exact kZ.out) : a := h ⟨kZ⟩
theorem z4k {a b : Prop} (kZ : b) (h : HidB b → a := by intro kZ; refine sX ?_; refine z9s ?_; refine exI ?_; exact kZ.out) : a := h ⟨kZ⟩
theorem zrj {a b : Prop} (kZ : b) (h : HidB b → a := by intro kZ; refine sXT ?_; refine z9s ?_; refine exI ?_; exact kZ.out) : a := h ⟨kZ⟩
theorem z8s {a b : Prop} (kZ : b) (h : HidB b → a := by intro kZ; refine sX ?_; refine z9s ?_; exact kZ.out) : a := h ⟨kZ⟩
theorem zxr {a b : Prop} (kZ : b) (h : HidB b → a := by intro kZ; refine sXT ?_; refine z9s ?_; exact kZ.out) : a := h ⟨kZ⟩

open Go.Aut
noncomputable def lstR (d : Dfa) : Option (List Nat) := if z0s d = true then z2y (langD d) else none
noncomputable def aptR (d e : Dfa) : Option (List Nat) := if z0s d = true ∧ z0s e = true then z2y (combB (fun x y => x != y) d e) else none
theorem lst_tabD (d : Dfa) : z2y ((tblT (tabD d)).lang 0) = z2y (langD d) := z9h fun w hw => z3o d 0 hw
theorem zrk {op : Bool → Bool → Bool} {d e : Dfa} (hd : d.good) (he : e.good) : z2y ((tblT (prodT op (tabD d) (tabD e))).lang 0) = z2y (combB op d e) := z9h fun w hw => by
  rw [(za9 (z0y hd) (z0y he) ⟨hd.2, he.2⟩).2 w hw, z3o d 0 hw, z3o e 0 hw]; rfl
theorem nc_1 (a : Tab) : ∀ x ∈ [dpT a], ∀ g l, x ≠ Cell.clo g l := fun x hx g l => by
  rw [List.mem_singleton.1 hx]; intro e; cases e
theorem nc_4 (a b : Tab) : ∀ x ∈ [cloE a, dpT a, dpT b], ∀ g l, x ≠ Cell.clo g l := fun x hx g l => by
  rcases List.mem_cons.1 hx with rfl | hx
  · intro e; cases e
  · exact nc_2 a b x hx g l
theorem cat_exin {x y : Tab} (hx : x.fit) (hy : y.fit) : ExIn cat2S cat3S (catG x y) (catA y) (catI x) (jL x y 256) (jrep (cN x) (cN y)) (cat0 x) [cloE x, dpT x, dpT y] [dpT y] 4096 :=
  ⟨z0l x y 256, (j_in x y).pos, (j_in x y).max, (j_in x y).byte, by decide, by decide, z0x z1x (z0x z1x (z0x z1x z28)), z0x z1x z28, catI_0 hx.1, fun s hs => catI_ok hx hs, fun s c hs hc => catI_g hx hs hc,
   fun s c hs hc => ⟨x, y, s, c, rfl, ⟨hx, hy, hs.1, hc⟩, rfl⟩, fun s hs => ⟨y, s, rfl, hy, rfl⟩⟩
theorem sta_exin {x : Tab} (hx : x.fit) : ExIn sta1S sta2S (staG x) (staA x) staI (jL x x 256) (jrep (cN x) (cN x)) (1, 0, 1) [dpT x] [dpT x] 4096 :=
  ⟨z0l x x 256, (j_in x x).pos, (j_in x x).max, (j_in x x).byte, by decide, by decide, z0x z1x z28, z0x z1x z28, ⟨Nat.le_refl _, rfl⟩, fun s hs => staI_ok hs, fun s c _ _ => staI_g x s c,
   fun s c hs hc => ⟨x, s, c, rfl, ⟨hx, hc⟩, rfl⟩, fun s hs => ⟨x, s, rfl, ⟨hx, hs⟩, rfl⟩⟩
theorem zxs {d e : Dfa} (hd : d.good) (he : e.good) {w : List Nat} (hw : Bytes w) : catA (tabD (canD (langD e))) (runB (catG (tabD (canD (langD d))) (tabD (canD (langD e)))) (cat0 (tabD (canD (langD d)))) w) = catB (langD d) (langD e) w := by
  have gd := z42 hd
  have ge := z42 he
  rw [cat_lang (z0y gd.1) (z0y ge.1) ge.1.2 hw]; exact catB_congr (fun u hu => (z3o _ 0 hu).trans (gd.2 u hu)) (fun u hu => (z3o _ 0 hu).trans (ge.2 u hu)) hw
theorem zxt {d : Dfa} (hd : d.good) {w : List Nat} (hw : Bytes w) : staA (tabD (canD (langD d))) (runB (staG (tabD (canD (langD d)))) (1, 0, 1) w) = starB (langD d) w := by
  have gd := z42 hd
  rw [sta_lang (z0y gd.1) gd.1.2 hw]; exact starB_congr (fun u hu => (z3o _ 0 hu).trans (gd.2 u hu)) hw
theorem zk7 {g : Stt → Nat → Stt} {acc : Stt → Bool} {cell : List Int} {bytes : List Nat} {s0 : Stt} {m : Nat} (h : cell.length = 256) : (exR g acc cell bytes s0 m).1.cell.length = 256 := by
  unfold exR
  split
  · exact zt7
  · exact h
theorem ex_no {g : Stt → Nat → Stt} {acc : Stt → Bool} {cell : List Int} {bytes : List Nat} {s0 : Stt} {m : Nat} (h : (exR g acc cell bytes s0 m).2 = false) : Big (stepF g bytes) bytes.length s0 m := by
  refine Classical.byContradiction fun hn => ?_; rw [exR, if_neg hn] at h; cases h
theorem ze4 {g : Stt → Nat → Stt} {acc : Stt → Bool} {cell : List Int} {bytes : List Nat} {s0 : Stt} {m : Nat} (h : (exR g acc cell bytes s0 m).2 = true) : ¬ Big (stepF g bytes) bytes.length s0 m := fun hb => by
  rw [exT_big hb] at h; cases h
attribute [local irreducible] z0q z1z zl z02 z18 putB prodT canD jL jrep exR z2y
noncomputable def gh1 : Ctx := { P := Tryd.prog, ty := ty, glob := gl, fs := [(50, .flat z8m), (74, .data z8n), (86, .data zor)] }
theorem zif : gh1.OK := ⟨tyOK, ⟨⟨z07 Tryd.func50 (by kernel_rfl) rfl, z5i⟩, ⟨z07 Tryd.func74 (by kernel_rfl) rfl, z6a⟩, ⟨z07 Tryd.func86 (by kernel_rfl) rfl, zm6⟩, trivial⟩, mixed⟩
@[simp] theorem gh1_ty : gh1.ty = ty := rfl

def zxu : QSpec := fun vs K => ∃ d : Dfa, vs = [dfaV d] ∧ d.wf ∧ K (lsV (lstR d))
set_option maxHeartbeats 1000000 in
set_option maxRecDepth 4000 in
theorem zxv : z2p Tryd.prog gl 29 zxu := by
 refine z2e (Γ := gh1) (N := 12) Tryd.func29 rfl rfl fun vs K h => ?_; obtain ⟨d, rfl, hw, h⟩ := h; refine ⟨_, h, zal _, by simp, fun w I => ?_⟩; refine seq_k fun _ hK1 => ?_; refine z00 zif fun _ hK2 => ?_
 iterate 3 refine z4k ?_
 refine s_nil ?_; apply hK2; apply hK1; refine seq_k fun _ hK3 => ?_; refine seq_k fun _ hK4 => ?_; refine z00 zif fun _ hK5 => ?_; refine z4k ?_; refine z8s ?_; refine ⟨d, rfl, hw, ?_⟩; refine z9s ?_
 first | refine exI ?_ | (intro cap1 hcap1; refine exI ?_)
 refine z4k ?_; refine s_nil ?_; apply hK5; apply hK4; refine z08 (b := _) rfl (fun h_t6 => ?_) (fun h_t6 => ?_)
 ·try simp only [dQ, if_true, if_false, reduceIte] at h_t6
  refine seq_k fun _ hK6 => ?_; refine z00 zif fun _ hK7 => ?_
  iterate 2 refine z4k ?_
  refine s_nil ?_; apply hK7; apply hK6; rw [lstR, if_neg (by simpa using h_t6)]; refine z0f (z0n zif (fun _ _ h => h) (zal _) [] [.tmp 2, .tmp 3] rfl ?_)
  all_goals exact zmc
 ·try simp only [dQ, if_true, if_false, reduceIte] at h_t6
  refine z0c ?_; apply hK3; refine seq_k fun _ hK8 => ?_
  have hg := (z1o hw).1 (by simpa using h_t6)
  refine z00 zif fun _ hK9 => ?_; refine z4k ?_; refine z8s ?_; refine ⟨d, rfl, hg, ?_⟩; refine z9s ?_
  first | refine exI ?_ | (intro cap1 hcap1; refine exI ?_)
  refine z8s ?_; refine aI (z0v _) ?_; refine z10 _ ?_; refine ⟨tabD d, rfl, z0y hg, ?_⟩; rw [lst_tabD]; refine z9s ?_
  first | refine exI ?_ | (intro cap2 hcap2; refine exI ?_)
  iterate 4 refine z4k ?_
  refine s_nil ?_; apply hK9; apply hK8; rw [lstR, if_pos (z0w hg)]; refine z0f (z0n zif (fun _ _ h => h) (zal _) [] [.tmp 2, .tmp 3] rfl ?_)
  all_goals exact zmc

noncomputable def gh2 : Ctx := { P := Tryd.prog, ty := ty, glob := gl, fs := [(50, .flat z8m), (87, .data (zk2 88 zxk)), (86, .data zor)] }
theorem ze5 : gh2.OK := ⟨tyOK, ⟨⟨z07 Tryd.func50 (by kernel_rfl) rfl, z5i⟩, ⟨z07 Tryd.func87 (by kernel_rfl) rfl, zic (z07 Tryd.func88 (by kernel_rfl) rfl) zxl⟩, ⟨z07 Tryd.func86 (by kernel_rfl) rfl, zm6⟩, trivial⟩, mixed⟩
@[simp] theorem gh2_ty : gh2.ty = ty := rfl

def zox : QSpec := fun vs K => ∃ d e : Dfa, vs = [dfaV d, dfaV e] ∧ (d.wf ∧ e.wf) ∧ K (lsV (aptR d e))
set_option maxHeartbeats 1000000 in
set_option maxRecDepth 4000 in
theorem zmd : z2p Tryd.prog gl 31 zox := by
 refine z2e (Γ := gh2) (N := 20) Tryd.func31 rfl rfl fun vs K h => ?_; obtain ⟨d, e, rfl, ⟨hd, he⟩, h⟩ := h; refine ⟨_, h, zal _, by simp, fun w I => ?_⟩; refine seq_k fun _ hK1 => ?_; refine z00 ze5 fun _ hK2 => ?_
 iterate 4 refine z4k ?_
 refine s_nil ?_; apply hK2; apply hK1; refine seq_k fun _ hK3 => ?_; refine seq_k fun _ hK4 => ?_; refine z00 ze5 fun _ hK5 => ?_; refine z4k ?_; refine z8s ?_; refine ⟨d, rfl, hd, ?_⟩; refine z9s ?_
 first | refine exI ?_ | (intro cap1 hcap1; refine exI ?_)
 refine z4k ?_; refine z8s ?_; refine exB (fun hb3 => ?_) (fun hb3 => ?_)
 ·try simp only [dQ, if_true, if_false, reduceIte] at hb3
  iterate 3 refine sN ?_
  refine z4k ?_; refine s_nil ?_; apply hK5; apply hK4; refine z08 (b := _) rfl (fun _ => ?_) (fun h_t13 => ?_)
  rotate_left 1
  ·exfalso; simp at h_t13
  refine seq_k fun _ hK6 => ?_; refine z00 ze5 fun _ hK7 => ?_
  iterate 2 refine z4k ?_
  refine s_nil ?_; apply hK7; apply hK6
  have hno : ¬ (z0s d = true ∧ z0s e = true) := by intro hh; simp_all
  rw [aptR, if_neg hno]; refine z0f (z0n ze5 (fun _ _ h => h) (zal _) [] [.tmp 4, .tmp 5] rfl ?_)
  all_goals exact zmc
 ·try simp only [dQ, if_true, if_false, reduceIte] at hb3
  refine zrj ?_; refine zxr ?_; refine ⟨e, rfl, he, ?_⟩; refine z9s ?_
  first | refine exI ?_ | (intro cap5 hcap5; refine exI ?_)
  refine zrj ?_; refine z4k ?_; refine s_nil ?_; apply hK5; apply hK4; refine z08 (b := _) rfl (fun h_t13 => ?_) (fun h_t13 => ?_)
  ·try simp only [dQ, if_true, if_false, reduceIte] at h_t13
   refine seq_k fun _ hK8 => ?_; refine z00 ze5 fun _ hK9 => ?_
   iterate 2 refine z4k ?_
   refine s_nil ?_; apply hK9; apply hK8
   have hno : ¬ (z0s d = true ∧ z0s e = true) := by intro hh; simp_all
   rw [aptR, if_neg hno]; refine z0f (z0n ze5 (fun _ _ h => h) (zal _) [] [.tmp 4, .tmp 5] rfl ?_)
   all_goals exact zmc
  ·try simp only [dQ, if_true, if_false, reduceIte] at h_t13
   refine z0c ?_; apply hK3; refine seq_k fun _ hK10 => ?_
   have hvd : z0s d = true := by simp_all
   have hve : z0s e = true := by simp_all
   have hgd := (z1o hd).1 hvd
   have hge := (z1o he).1 hve
   refine z00 ze5 fun _ hK11 => ?_
   iterate 2 refine z4k ?_
   refine z8s ?_; refine ⟨fun x y => x != y, d, e, rfl, ⟨hgd, hge⟩, fun x y => ⟨x, y, rfl, rfl⟩, ?_⟩; refine z9s ?_
   first | refine exI ?_ | (intro cap2 hcap2; refine exI ?_)
   refine z8s ?_; refine aI (z0v _) ?_; refine z10 _ ?_; refine ⟨_, rfl, z9q _ hgd hge, ?_⟩; rw [zrk hgd hge]; refine z9s ?_
   first | refine exI ?_ | (intro cap3 hcap3; refine exI ?_)
   iterate 4 refine z4k ?_
   refine s_nil ?_; apply hK11; apply hK10
   have hyes : z0s d = true ∧ z0s e = true := ⟨hvd, hve⟩
   rw [aptR, if_pos hyes]; refine z0f (z0n ze5 (fun _ _ h => h) (zal _) [] [.tmp 4, .tmp 5] rfl ?_)
   all_goals exact zmc


end Go.Proofs.YtppmnaoollkboaaDoor
