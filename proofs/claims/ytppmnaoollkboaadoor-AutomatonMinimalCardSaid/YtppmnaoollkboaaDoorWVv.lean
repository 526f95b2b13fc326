/- Plain facts: exchanged states, least bytes of classes. -/
import Derived.Test.YtppmnaoollkboaaDoorQo
import Derived.Test.YtppmnaoollkboaaDoorWVa
import Derived.Test.YtppmnaoollkboaaDoorQn
namespace Go.Proofs.YtppmnaoollkboaaDoor
set_option linter.all false
open Go.Ab Go.RowKit

open Go.Aut
theorem hasBit_W (c : List UInt64) (b : Nat) : zha c b = hasW c b := by
  rw [zha, hasW]
  have h64 : b % 64 < 64 := Nat.mod_lt _ (by decide)
  have hn : (shr64 (c.getD (b / 64) 0) (b % 64)).toNat = (c.getD (b / 64) 0).toNat >>> (b % 64) := by
    unfold shr64; rw [if_pos h64, UInt64.toNat_shiftRight]
    congr 1
    rw [show (b % 64).toUInt64.toNat = b % 64 from UInt64.toNat_ofNat_of_lt' (by show b % 64 < 2 ^ 64; have : (64 : Nat) < 2 ^ 64 := by decide
                                                                                 omega)]
    omega
  rw [Bool.eq_iff_iff, decide_eq_true_eq, Nat.testBit_eq_decide_div_mod_eq, decide_eq_true_eq, ← UInt64.toNat_inj, UInt64.toNat_mod, hn, Nat.shiftRight_eq_div_pow]; exact Iff.rfl
theorem zkb {cls : List UInt64} {k b : Nat} (hb : b < 256) : zha (clsAt cls k) b = hasC cls k b := by rw [hasBit_W, zaz hb]
theorem zyw {cls : List UInt64} {b nc c : Nat} (hb : b < 256) (hc : c < nc) (h : ∀ x, x < nc → (hasC cls x b = true ↔ x = c)) : ∀ k, k ≤ nc → cntK cls b k = if c < k then 1 else 0
  | 0, _ => by rw [cntK, if_neg (Nat.not_lt_zero c)]
  | k + 1, hk => by
    rw [cntK, zyw hb hc h k (by omega), zkb hb]
    by_cases e : k = c
    · subst e
      rw [(h k (by omega)).2 rfl, if_pos rfl, if_neg (Nat.lt_irrefl k), if_pos (Nat.lt_succ_self k)]
    · have : hasC cls k b = false := by rw [← Bool.not_eq_true, h k (by omega)]; exact e
      rw [this]
      simp only [Bool.false_eq_true, if_false]
      by_cases e2 : c < k
      · rw [if_pos e2, if_pos (by omega)]
      · rw [if_neg e2, if_neg (by omega)]
theorem zhc {d : Dfa} (h : d.good) : zhb d = true := by
  obtain ⟨hk, h64⟩ := h
  have h1 := hk.npos
  have hv := z0w (d := d) ⟨hk, h64⟩
  rw [z0s] at hv
  simp only [Bool.and_eq_true] at hv
  rw [zhb, zan, partR]
  simp only [Bool.and_eq_true, decide_eq_true_eq, List.all_eq_true]
  refine ⟨h64, ⟨⟨h1, hk.alen⟩, ⟨⟨hk.cpos, hk.cmax⟩, fun k hkm => ?_⟩, fun b hb => ?_⟩, fun r hr => List.all_eq_true.1 hv.2 r hr⟩
  · have hk' := List.mem_range.1 hkm
    obtain ⟨b, hb, hc⟩ := hk.full k hk'; rw [nzB, Bool.not_eq_true', decide_eq_false_iff_not]; intro e; rw [← zaz hb, e, z5j] at hc; cases hc
  · have hb' := List.mem_range.1 hb
    obtain ⟨c, hc, hx⟩ := hk.part b hb'; rw [oneB, decide_eq_true_eq, zyw hb' hc hx _ (Nat.le_refl _), if_pos hc]
def plN (t s : Nat) : Nat := if t = 0 then s else if t = s then 0 else t
theorem zim {t s n : Nat} (ht : t < n) (hs : s < n) : plN t s < n := by unfold plN; split <;> (try split) <;> omega
theorem zp6 (t s : Nat) : plN (plN t s) s = t := by unfold plN; split <;> (try split) <;> (try split) <;> (try split) <;> omega
theorem zhd (t s : Nat) : plc (t : Int) (s : Int) = (plN t s : Nat) := by
  unfold plc plN
  by_cases h : t = 0
  · rw [if_pos (by omega), if_pos h]
  · rw [if_neg (by omega), if_neg h]
    by_cases h2 : t = s
    · rw [if_pos (by omega), if_pos h2]; rfl
    · rw [if_neg (by omega), if_neg h2]
def mvRow (r : List Int) (s k : Nat) : List Int := (r.take k).map fun x => plc x (s : Int)
def mvR (d : Dfa) (s t : Nat) : List (List Int) := (List.range t).map fun i => mvRow (d.next.getD (plN i s) []) s (d.next.getD (plN i s) []).length
def mvA (d : Dfa) (s t : Nat) : List Bool := (List.range t).map fun i => d.acc.getD (plN i s) false
def z5n (d : Dfa) (s : Nat) : Dfa := { cls := d.cls, nc := d.nc, next := mvR d s d.next.length, acc := mvA d s d.next.length }
@[simp] theorem z6c (d : Dfa) (s t : Nat) : (mvR d s t).length = t := by simp [mvR]
@[simp] theorem z6d (d : Dfa) (s t : Nat) : (mvA d s t).length = t := by simp [mvA]
theorem z5o {r : List Int} {s k : Nat} (h : k ≤ r.length) : (mvRow r s k).length = k := by rw [mvRow, List.length_map, List.length_take, Nat.min_eq_left h]
theorem ztj {r : List Int} {s k : Nat} {v : Int} (h : k < r.length) (hv : v = plc (r.getD k 0) (s : Int)) : mvRow r s k ++ ([] ++ [v]) = mvRow r s (k + 1) := by
  subst hv; rw [mvRow, mvRow, List.take_add_one, List.getElem?_eq_getElem h, List.map_append, List.nil_append, z48 h]; rfl
theorem mvR_succ {d : Dfa} {s t : Nat} {n : Nat} (hn : n = (d.next.getD (plN t s) []).length) : rowsC (mvR d s t) ++ ([] ++ [.ds n (.ints .i64 (mvRow (d.next.getD (plN t s) []) s n))]) = rowsC (mvR d s (t + 1)) := by
  subst hn; rw [mvR, mvR, List.range_succ, List.map_append, List.nil_append, rowsC, rowsC, List.map_append]
  simp [z5o]
theorem mvA_succ {d : Dfa} {s t : Nat} {v : Bool} (hv : v = d.acc.getD (plN t s) false) : mvA d s t ++ ([] ++ [v]) = mvA d s (t + 1) := by
  subst hv; rw [mvA, mvA, List.range_succ, List.map_append]; rfl
theorem zdl {d : Dfa} (h : d.good) {s : Nat} (hs : s < d.next.length) : (z5n d s).good := by
  have hl : (z5n d s).next.length = d.next.length := z6c ..
  refine ⟨⟨h.1.clen, by rw [hl]; exact h.1.npos, by rw [hl]; exact z6d .., h.1.cpos, h.1.cmax, h.1.part, h.1.full, fun r hr => ?_⟩, by rw [hl]; exact h.2⟩; obtain ⟨i, hi, rfl⟩ := List.mem_map.1 hr
  have hp := zim (List.mem_range.1 hi) hs
  obtain ⟨h1, h2⟩ := h.1.rows _ (z2i (d := []) hp); refine ⟨(z5o (Nat.le_refl _)).trans h1, fun t ht => ?_⟩; rw [mvRow, List.take_length] at ht; obtain ⟨x, hx, rfl⟩ := List.mem_map.1 ht
  have hb := h2 x hx
  rw [hl, plc]
  split
  · omega
  · split <;> omega
theorem mv_next {d : Dfa} (h : d.good) {s u c : Nat} (hs : s < d.next.length) (hu : u < d.next.length) (hc : c < d.nc) : nextD (z5n d s) u c = plN (nextD d (plN u s) c) s := by
  have hp := zim hu hs
  have hr := (h.1.rows _ (z2i (d := []) hp)).1
  have h1 := (next_lt h.1 hp hc).2
  have e : (z5n d s).next.getD u [] = mvRow (d.next.getD (plN u s) []) s (d.next.getD (plN u s) []).length := by
    show (mvR d s d.next.length).getD u [] = _
    rw [mvR, z0h hu]
  rw [nextD, e, mvRow, List.take_length]
  have e2 : ((d.next.getD (plN u s) []).map fun x => plc x (s : Int)).getD c 0 = plc ((d.next.getD (plN u s) []).getD c 0) (s : Int) := by
    have hc' : c < (d.next.getD (plN u s) []).length := by rw [hr]; exact hc
    rw [z48 hc', List.getD_eq_getElem?_getD, List.getElem?_map, List.getElem?_eq_getElem hc']; rfl
  rw [e2, h1, zhd]; rfl
theorem mv_run {d : Dfa} (h : d.good) {s : Nat} (hs : s < d.next.length) : ∀ (w : List Nat) (u : Nat), Bytes w → u < d.next.length → (tblD (z5n d s)).run u w = plN ((tblD d).run (plN u s) w) s
  | [], u, _, _ => (zp6 u s).symm
  | b :: w, u, hw, hu => by
    have hc := (z6i h.1 (hw b List.mem_cons_self)).1
    have hn := (next_lt h.1 (zim hu hs) hc).1
    show (tblD (z5n d s)).run (nextD (z5n d s) u (cellD d b)) w = plN ((tblD d).run (nextD d (plN u s) (cellD d b)) w) s
    rw [mv_next h hs hu hc, mv_run h hs w _ (fun x hx => hw x (List.mem_cons_of_mem _ hx)) (zim hn hs), zp6]
theorem zyx {d : Dfa} (h : d.ok) : ∀ (w : List Nat) (s : Nat), Bytes w → s < d.next.length → (tblD d).run s w < d.next.length
  | [], _, _, hs => hs
  | b :: w, s, hw, hs => zyx h w _ (fun x hx => hw x (List.mem_cons_of_mem _ hx)) (next_lt h hs (z6i h (hw b List.mem_cons_self)).1).1
theorem zyy {d : Dfa} (h : d.good) {s : Nat} (hs : s < d.next.length) {w : List Nat} (hw : Bytes w) : langD (z5n d s) w = (tblD d).lang s w := by
  show (mvA d s d.next.length).getD ((tblD (z5n d s)).run 0 w) false = d.acc.getD ((tblD d).run s w) false
  have hr := zyx h.1 w s hw hs
  rw [mv_run h hs w 0 hw h.1.npos, show plN 0 s = s from rfl, mvA, z0h (zim hr hs), zp6]
theorem mv_apart {c : Dfa} {L : List Nat → Bool} (h : c.good) (hc : IsCanon (macD c) L) {s t : Nat} (hs : s < c.next.length) (ht : t < s) : (aptR (z5n c s) (z5n c t)).isSome = true := by
  have ht' : t < c.next.length := Nat.lt_trans ht hs
  obtain ⟨_, _, h3, _⟩ := zyp (zdl h hs) (zdl h ht')
  cases e : (aptR (z5n c s) (z5n c t)).isSome with
  | true => rfl
  | false =>
    have hl := (zil (zdl h hs) (zdl h ht')).1 (h3 e)
    obtain ⟨w, hw, hne⟩ := hc.apart s t hs ht' (by omega); rw [za2, za2] at hne
    have := hl w hw
    rw [zyy h hs hw, zyy h ht' hw] at this; exact absurd this hne
def noB (c : Dfa) (k b : Nat) : Prop := ∀ x, x < b → hasC c.cls k x = false
def zmo (c : Dfa) (k : Nat) (b : Nat) : Prop := b < 256 ∧ hasC c.cls k b = true ∧ noB c k b
theorem least_lt {c : Dfa} {L : List Nat → Bool} (h : c.ok) (hc : IsCanon (macD c) L) {k a b : Nat} (hk : k + 1 < c.nc) (ha : zmo c k a) (hb : zmo c (k + 1) b) : a < b := by
  have hcell : cellD c b = k + 1 := (zbr h hb.1 hk).2 hb.2.1
  obtain ⟨x, hx, e⟩ := hc.cfirst b hb.1 k (by show k < cellD c b; omega)
  have hxc : hasC c.cls k x = true := (zbr h (Nat.lt_trans hx hb.1) (by omega)).1 e
  rcases Nat.lt_or_ge x a with h1 | h1
  · rw [ha.2.2 x h1] at hxc; cases hxc
  · omega
theorem zmp {c : Dfa} (h : c.ok) {k b : Nat} (hk : k < c.nc) (hn : noB c k b) (hb : b ≤ 255) (hs : b = 255 ∨ hasC c.cls k b = true) : zmo c k b := by
  obtain ⟨x, hx, hc⟩ := h.full k hk
  rcases hs with e | e
  · have : x = b := by
      rcases Nat.lt_or_ge x b with h1 | h1
      · rw [hn x h1] at hc; cases hc
      · omega
    subst this; exact ⟨hx, hc, hn⟩
  · exact ⟨by omega, e, hn⟩
def sameK (c : Dfa) (i k j : Nat) : Bool := (List.range j).all fun s => decide ((c.next.getD s []).getD i 0 = (c.next.getD s []).getD k 0)
theorem ztk (c : Dfa) (i k j : Nat) : sameK c i k (j + 1) = (sameK c i k j && decide ((c.next.getD j []).getD i 0 = (c.next.getD j []).getD k 0)) := by
  rw [sameK, sameK, List.range_succ, List.all_append]; simp
theorem same_no {c : Dfa} {L : List Nat → Bool} (h : c.ok) (hc : IsCanon (macD c) L) {i k : Nat} (hi : i < k) (hk : k < c.nc) : sameK c i k c.next.length = false := by
  obtain ⟨s, hs, hne⟩ := hc.capart i k (by show i < c.nc; omega) hk (by omega); rw [← Bool.not_eq_true, sameK, List.all_eq_true]; intro hall
  have := of_decide_eq_true (hall s (List.mem_range.2 hs))
  refine hne ?_
  show nextD c s i = nextD c s k
  rw [nextD, nextD, this]

end Go.Proofs.YtppmnaoollkboaaDoor
