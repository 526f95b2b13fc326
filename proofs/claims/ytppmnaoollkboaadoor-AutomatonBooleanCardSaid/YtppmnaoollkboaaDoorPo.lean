/- Part 15 of what the claims of this seat share: the walk's engine, the functions' contracts, plain mathematics (Vh, Vi, Vk, Vl, Vn, Vp). -/
import Derived.Test.YtppmnaoollkboaaDoorPl
import Derived.Test.YtppmnaoollkboaaDoorPi
import Derived.Test.YtppmnaoollkboaaDoorPc
import Derived.Test.YtppmnaoollkboaaDoorPh
import Derived.Test.YtppmnaoollkboaaDoorPn
import Derived.Test.YtppmnaoollkboaaDoorPd
namespace Go.Proofs.YtppmnaoollkboaaDoor
set_option linter.all false
open Go.Ab Go.RowKit

open Go.Aut
theorem z9h {g : Stt → Nat → Stt} {bytes : List Nat} {s0 : Stt} {Inv : Stt → Prop} (L : List Stt) (hL : ∀ s, Inv s → s ∈ L) (h0 : Inv s0) (hg : ∀ s b, Inv s → b < 256 → Inv (g s b)) (hb : ∀ b ∈ bytes, b < 256) (hp : 0 < bytes.length) {m : Nat} (hm : L.length ≤ m) : ¬ Big (stepF g bytes) bytes.length s0 m := by
  rintro ⟨i, k, hj, hk, hl⟩
  have hz : ∀ q, q < i * bytes.length + k → q / bytes.length < (expO (stepF g bytes) bytes.length s0 q).length := fun q hq => by
    have h1 : q / bytes.length ≤ i := by
      rw [← Nat.lt_succ_iff, Nat.div_lt_iff_lt_mul hp, Nat.succ_mul]; omega
    have h2 := hj _ h1
    have h3 := z21 (f := stepF g bytes) (nc := bytes.length) (b0 := s0) (p := q / bytes.length * bytes.length) (q := q) (Nat.div_mul_le_self _ _)
    omega
  have h4 := zpx h0 hg hb hp hz
  have h5 := List.Nodup.length_le_of_subset (z5m (f := stepF g bytes) (nc := bytes.length) (b0 := s0) (i * bytes.length + k)) fun s hs => hL s (h4 s hs)
  omega
theorem shl1_lt {j n : Nat} (h : j < n) (hn : n ≤ 63) : (shl64 1 j).toNat < 2 ^ n := by
  unfold shl64
  rw [if_pos (by omega), UInt64.toNat_shiftLeft, UInt64.toNat_ofNat_of_lt' (by show j < 2 ^ 64; have : (64 : Nat) < 2 ^ 64 := by decide
                                                                               omega)]
  rw [Nat.mod_eq_of_lt (show j < 64 by omega)]
  show (1 <<< j) % 2 ^ 64 < 2 ^ n
  rw [Nat.shiftLeft_eq, Nat.one_mul]
  have h1 : 2 ^ j < 2 ^ n := Nat.pow_lt_pow_right (by decide) h
  exact Nat.lt_of_le_of_lt (Nat.mod_le _ _) h1
theorem znt {t : Tab} (ht : t.ok) {n : Nat} (h : t.next.length ≤ n) (hn : n ≤ 63) (x : UInt64) {b : Nat} (hb : b < 256) : ∀ k, k ≤ t.next.length → (tgK t x b k).toNat < 2 ^ n
  | 0, _ => Nat.two_pow_pos n
  | k + 1, hk => by
    have ih := znt ht h hn x hb k (by omega)
    rw [zb6]
    split
    · rw [UInt64.toNat_or]
      exact Nat.or_lt_two_pow ih (shl1_lt (Nat.lt_of_lt_of_le (nextN ht (by omega) (cellN ht hb).1).1 h) hn)
    · exact ih
theorem zef {t : Tab} (ht : t.ok) {n : Nat} (h : t.next.length ≤ n) (hn : n ≤ 63) (x : UInt64) {b : Nat} (hb : b < 256) : (tgtU t x b).toNat < 2 ^ n := znt ht h hn x hb _ (Nat.le_refl _)
theorem znu {x : UInt64} {n : Nat} (h0 : 0 < n) (h : x.toNat < 2 ^ n) : (x ||| 1).toNat < 2 ^ n := by
  rw [UInt64.toNat_or]; exact Nat.or_lt_two_pow h (Nat.one_lt_two_pow (by omega))
def inB (m n : Nat) (s : Stt) : Prop := s.1 < m ∧ s.2.1 = 0 ∧ s.2.2.toNat < 2 ^ n
def listB (m n : Nat) : List Stt := (List.range m).flatMap fun a => (List.range (2 ^ n)).map fun u => (a, 0, UInt64.ofNat u)
theorem znv {m n : Nat} {s : Stt} (h : inB m n s) : s ∈ listB m n := by
  obtain ⟨a, b, c⟩ := s; obtain ⟨h1, h2, h3⟩ := h; refine List.mem_flatMap.2 ⟨a, List.mem_range.2 h1, List.mem_map.2 ⟨c.toNat, List.mem_range.2 h3, ?_⟩⟩
  show (a, 0, UInt64.ofNat c.toNat) = (a, b, c)
  rw [show b = 0 from h2, UInt64.ofNat_toNat]
theorem zf9 (m n : Nat) : (listB m n).length = m * 2 ^ n := by
  rw [listB, List.length_flatMap]
  simp [List.map_const', List.sum_replicate_nat]
theorem zjs {x : Tab} {m n : Nat} (h0 : 0 < n) {s : Stt} (h : inB m n s) : inB m n (entG x s) := by
  unfold entG
  split
  · exact ⟨h.1, h.2.1, znu h0 h.2.2⟩
  · exact h
theorem y03 {x y : Tab} (hx : x.fit) (hy : y.ok) {n : Nat} (h0 : 0 < n) (hn : n ≤ 63) (h : y.next.length ≤ n) {q : Nat} (hq : x.next.length * 2 ^ n ≤ q) : ¬ Big (stepF (catG x y) (jrep (cN x) (cN y))) (jrep (cN x) (cN y)).length (cat0 x) q := by
  have hj := j_in x y
  refine z9h (Inv := inB x.next.length n) (listB x.next.length n) (fun s => znv) (zjs (s := (0, 0, 0)) h0 ⟨hx.1.npos, rfl, (show (0 : UInt64).toNat < 2 ^ n from Nat.two_pow_pos n)⟩) (fun s b hs hb => zjs h0 ⟨(nextN hx.1 hs.1 (cellN hx.1 hb).1).1, rfl, zef hy h hn _ hb⟩) hj.byte hj.pos (by rw [zf9]; exact hq)
theorem y04 {x : Tab} (hx : x.ok) {n : Nat} (h0 : 0 < n) (hn : n ≤ 63) (h : x.next.length ≤ n) {q : Nat} (hq : 2 * 2 ^ n ≤ q) : ¬ Big (stepF (staG x) (jrep (cN x) (cN x))) (jrep (cN x) (cN x)).length (1, 0, 1) q := by
  have hj := j_in x x
  refine z9h (Inv := inB 2 n) (listB 2 n) (fun s => znv) ⟨by decide, rfl, Nat.one_lt_two_pow (by omega)⟩ (fun s b hs hb => ⟨by show 0 < 2; decide, rfl, ?_⟩) hj.byte hj.pos (by rw [zf9]; exact hq)
  show (if _ then _ else _ : UInt64).toNat < _
  split
  · exact znu h0 (zef hx h hn _ hb)
  · exact zef hx h hn _ hb

end Go.Proofs.YtppmnaoollkboaaDoor

namespace Go.Proofs.YtppmnaoollkboaaDoor
set_option linter.all false
open Go.Ab Go.RowKit

open Go.Aut
theorem z76 {x : List UInt8} (h : x.length ≤ 62) : (canD (langW (wN x))).good ∧ (∀ w, Bytes w → langD (canD (langW (wN x))) w = langW (wN x) w) ∧ (canD (langW (wN x))).next.length ≤ x.length + 2 := by
  have hf := zng h
  obtain ⟨h1, h2, h3⟩ := zco hf.1
  have hn : (wordT x).next.length = x.length + 2 := z1t _ _
  rw [zsg] at h1 h2 h3; refine ⟨⟨h1, by omega⟩, fun w hw => ?_, by omega⟩
  have := zcm h2 hw
  rw [this]
  have h4 := ze4 x w 0 hw (Nat.zero_le _)
  rw [h4]; rfl
theorem zd7 {u v : List Nat} (h : Bytes (u ++ v)) : Bytes u ∧ Bytes v := ⟨fun b hb => h b (List.mem_append_left _ hb), fun b hb => h b (List.mem_append_right _ hb)⟩
theorem zaz {L L' M M' : List Nat → Bool} (e : ∀ w, Bytes w → L w = L' w) (e' : ∀ w, Bytes w → M w = M' w) {w : List Nat} (hw : Bytes w) : catB L M w = catB L' M' w := by
  unfold catB; refine decide_eq_decide.2 ⟨?_, ?_⟩
  · rintro ⟨u, v, rfl, h1, h2⟩
    exact ⟨u, v, rfl, by rw [← e _ (zd7 hw).1]; exact h1, by rw [← e' _ (zd7 hw).2]; exact h2⟩
  · rintro ⟨u, v, rfl, h1, h2⟩
    exact ⟨u, v, rfl, by rw [e _ (zd7 hw).1]; exact h1, by rw [e' _ (zd7 hw).2]; exact h2⟩
theorem zbt {L L' : List Nat → Bool} (e : ∀ w, Bytes w → L w = L' w) {w : List Nat} (hw : Bytes w) : starB L w = starB L' w := by
  have hb : ∀ ws : List (List Nat), ws.flatten = w → ∀ u ∈ ws, Bytes u := fun ws h u hu b hb => hw b (h ▸ List.mem_flatten.2 ⟨u, hu, hb⟩)
  unfold starB; refine decide_eq_decide.2 ⟨?_, ?_⟩
  · rintro ⟨ws, h1, h2⟩
    exact ⟨ws, fun u hu => by rw [← e _ (hb ws h2 u hu)]; exact h1 u hu, h2⟩
  · rintro ⟨ws, h1, h2⟩
    exact ⟨ws, fun u hu => by rw [e _ (hb ws h2 u hu)]; exact h1 u hu, h2⟩
theorem znw (u v : List Nat) (w : List Nat) : catB (langW u) (langW v) w = langW (u ++ v) w := by
  unfold catB langW; refine decide_eq_decide.2 ⟨?_, ?_⟩
  · rintro ⟨a, b, rfl, h1, h2⟩
    rw [of_decide_eq_true h1, of_decide_eq_true h2]
  · rintro rfl
    exact ⟨u, v, rfl, decide_eq_true rfl, decide_eq_true rfl⟩
noncomputable def dA : Dfa := canD (langW (wN [97]))
noncomputable def dB : Dfa := canD (langW (wN [98]))
theorem z68 : dA.good ∧ (∀ w, Bytes w → langD dA w = langW [97] w) ∧ dA.next.length ≤ 3 := z76 (by decide)
theorem zeg : dB.good ∧ (∀ w, Bytes w → langD dB w = langW [98] w) ∧ dB.next.length ≤ 3 := z76 (by decide)
theorem y05 : canD (langD dA) = dA := z2w z68.2.1
theorem canD_dB : canD (langD dB) = dB := z2w zeg.2.1
theorem word_AB : wordR [97, 98] = (dAB, 0) := by
  rw [wordR, if_neg (by decide), show wN [97, 98] = [97, 98] from rfl, zx4]
theorem word_A : wordR [97] = (dA, 0) := by rw [wordR, if_neg (by decide)]; rfl
theorem word_B : wordR [98] = (dB, 0) := by rw [wordR, if_neg (by decide)]; rfl
theorem word_63 : wordR (List.replicate 63 0) = (noD, 2) := by rw [wordR, if_pos (by rw [List.length_replicate]; decide)]
theorem y06 : z42 dA dB = (dAB, 0) := by
  have hv : z0u dA = true ∧ z0u dB = true := ⟨z0q z68.1, z0q zeg.1⟩
  have hA := z0z z68.1
  have hB := z0z zeg.1
  have hl : (tabD dA).next.length * 2 ^ 3 ≤ 4096 := Nat.le_trans (Nat.mul_le_mul_right _ z68.2.2) (by decide)
  rw [z42, if_pos hv, y05, canD_dB, if_neg (y03 hA hB.1 (n := 3) (by decide) (by decide) zeg.2.2 hl)]
  have : canD (catB (langD dA) (langD dB)) = dAB := by
    rw [← zx4]; exact z2w fun w hw => (zaz z68.2.1 zeg.2.1 hw).trans (znw [97] [98] w)
  rw [this, limL, if_neg (by decide)]
theorem star_A : starR dA = (dAS, 0) := by
  have hA := z0z z68.1
  rw [starR, if_pos (z0q z68.1), y05, if_neg (y04 hA.1 (n := 3) (by decide) (by decide) z68.2.2 (by decide))]
  have : canD (starB (langD dA)) = dAS := by
    rw [← canD_AS]; exact z2w fun w hw => zbt z68.2.1 hw
  rw [this, limL, if_neg (by decide)]
theorem z9i : dAB.good := ⟨dAB_ok, by decide⟩
theorem ztb : Bytes [97, 98] := by unfold Bytes; decide
theorem y07 : Bytes [97] := by unfold Bytes; decide
theorem least_AB : lstR dAB = some [97, 98] := by
  rw [lstR, if_pos (z0q z9i)]; refine z4p ⟨ztb, by rw [zfn _ ztb]; rfl, fun v hv h => ?_⟩; rw [zfn v hv] at h; exact .inl (of_decide_eq_true h).symm
theorem apart_AB : aptR dAB dA = some [97] := by
  rw [aptR, if_pos ⟨z0q z9i, z0q z68.1⟩]
  have hl : ∀ w, Bytes w → combB (fun x y => x != y) dAB dA w = (langW [97, 98] w != langW [97] w) := fun w hw => by
    show (langD dAB w != langD dA w) = _
    rw [zfn w hw, z68.2.1 w hw]
  refine z4p ⟨y07, by rw [hl _ y07]; decide, fun v hv h => ?_⟩; rw [hl v hv] at h
  by_cases h1 : v = [97]
  · exact .inl h1.symm
  · by_cases h2 : v = [97, 98]
    · subst h2; exact .inr (.inl (by decide))
    · rw [langW, langW, decide_eq_false h1, decide_eq_false h2] at h; cases h

end Go.Proofs.YtppmnaoollkboaaDoor

namespace Go.Proofs.YtppmnaoollkboaaDoor
set_option linter.all false
open Go.Ab Go.RowKit

open Go.Aut
theorem ztc (t : Tab) (b : Nat) : ∀ k, tgK t 0 b k = 0
  | 0 => rfl
  | k + 1 => by
    have h0 : bit 0 k = false := by simp [bit]
    rw [zb6, h0, ztc t b k]; rfl
theorem y08 (t : Tab) (b : Nat) {q : Nat} (hq : q < 64) : ∀ k, tgK t (shl64 1 q) b k = if q < k then shl64 1 ((tblT t).δ q (cN t b)) else 0
  | 0 => by rw [if_neg (Nat.not_lt_zero _)]; rfl
  | k + 1 => by
    rw [zb6, zcq, y08 t b hq k]
    by_cases e : k = q
    · subst e
      rw [decide_eq_true rfl, decide_eq_true hq, if_pos (show (true && true) = true from rfl), if_neg (Nat.lt_irrefl _), if_pos (Nat.lt_succ_self _), UInt64.zero_or]
    · rw [decide_eq_false e, Bool.false_and, if_neg (by decide)]
      by_cases h : q < k
      · rw [if_pos h, if_pos (by omega)]
      · rw [if_neg h, if_neg (by omega)]
def inW (x y : Tab) (s : Stt) : Prop := s.2.1 = 0 ∧ ∃ p, Bytes p ∧ s.1 = (tblT x).run 0 p ∧
  ((s.2.2 = 0 ∧ x.acc.getD s.1 false = false) ∨ (s.2.2 = shl64 1 0 ∧ x.acc.getD s.1 false = true) ∨ ((∃ q, q < y.next.length ∧ s.2.2 = shl64 1 q) ∧ ∀ w, Bytes w → (tblT x).lang s.1 w = false))
theorem ztd (t : Tbl) : ∀ (p : List Nat) (s c : Nat), t.run s (p ++ [c]) = t.δ (t.run s p) (t.cell c)
  | [], _, _ => rfl
  | b :: p, s, c => ztd t p _ c
theorem y09 (t : Tbl) : ∀ (p w : List Nat) (s : Nat), t.run s (p ++ w) = t.run (t.run s p) w
  | [], _, _ => rfl
  | b :: p, w, s => y09 t p w _
def listW (m n : Nat) : List Stt := ((List.range m).map fun a => (a, 0, 0)) ++ (List.range m).flatMap fun a => (List.range n).map fun q => (a, 0, shl64 1 q)
theorem znx (m n : Nat) : (listW m n).length = m + m * n := by
  rw [listW, List.length_append, List.length_flatMap]
  simp [List.map_const', List.sum_replicate_nat]
theorem zil {x y : Tab} (hx : x.fit) (hy : y.ok) (hn : y.next.length ≤ 64) {u : List Nat} (hl : ∀ w, Bytes w → (tblT x).lang 0 w = langW u w) {m : Nat} (hm : x.next.length + x.next.length * y.next.length ≤ m) : ¬ Big (stepF (catG x y) (jrep (cN x) (cN y))) (jrep (cN x) (cN y)).length (cat0 x) m := by
  have hj := j_in x y
  have hent : ∀ (p : List Nat) (U : UInt64), Bytes p → (U = 0 ∨ (∃ q, q < y.next.length ∧ U = shl64 1 q) ∧ ∀ w, Bytes w → (tblT x).lang ((tblT x).run 0 p) w = false) → inW x y (entG x ((tblT x).run 0 p, 0, U)) := fun p U hp h => by
    unfold entG
    by_cases ha : x.acc.getD ((tblT x).run 0 p) false = true
    · rw [if_pos ha]
      rcases h with rfl | ⟨_, hd⟩
      · exact ⟨rfl, p, hp, rfl, .inr (.inl ⟨(show (0 ||| 1 : UInt64) = shl64 1 0 by decide), ha⟩)⟩
      · have := hd [] (fun _ h => by cases h)
        exact absurd (ha.symm.trans this) (by decide)
    · rw [if_neg ha]
      rcases h with rfl | h
      · exact ⟨rfl, p, hp, rfl, .inl ⟨rfl, by simpa using ha⟩⟩
      · exact ⟨rfl, p, hp, rfl, .inr (.inr h)⟩
  refine z9h (Inv := inW x y) (listW x.next.length y.next.length) (fun s hs => ?_) (hent [] 0 (fun _ h => by cases h) (.inl rfl)) (fun s c hs hc => ?_) hj.byte hj.pos (by rw [znx]; exact hm)
  · obtain ⟨a, b, U⟩ := s
    obtain ⟨h1, p, hp, h2, h3⟩ := hs
    have ha : a < x.next.length := (show a = _ from h2) ▸ za3 hx.1 p 0 hp hx.1.npos
    have h1 : b = 0 := h1
    subst h1
    rcases h3 with ⟨h3, _⟩ | ⟨h3, _⟩ | ⟨⟨q, hq, h3⟩, _⟩
    · have h3 : U = 0 := h3
      exact List.mem_append_left _ (List.mem_map.2 ⟨a, List.mem_range.2 ha, by rw [h3]⟩)
    · have h3 : U = shl64 1 0 := h3
      exact List.mem_append_right _ (List.mem_flatMap.2 ⟨a, List.mem_range.2 ha, List.mem_map.2 ⟨0, List.mem_range.2 hy.npos, by rw [h3]⟩⟩)
    · have h3 : U = shl64 1 q := h3
      exact List.mem_append_right _ (List.mem_flatMap.2 ⟨a, List.mem_range.2 ha, List.mem_map.2 ⟨q, List.mem_range.2 hq, by rw [h3]⟩⟩)
  · obtain ⟨a, b, U⟩ := s
    obtain ⟨h1, p, hp, h2, h3⟩ := hs
    have h2 : a = (tblT x).run 0 p := h2
    have hpc : Bytes (p ++ [c]) := fun z hz => (List.mem_append.1 hz).elim (hp z) fun h => (List.mem_singleton.1 h) ▸ hc
    have hst : (tblT x).δ a (cN x c) = (tblT x).run 0 (p ++ [c]) := by rw [ztd, h2]; rfl
    show inW x y (entG x ((tblT x).δ a (cN x c), 0, tgtU y U c))
    rw [hst]
    have hone : ∀ q, q < y.next.length → ∃ r, r < y.next.length ∧ tgtU y (shl64 1 q) c = shl64 1 r := fun q hq =>
      ⟨_, (nextN hy hq (cellN hy hc).1).1, by rw [tgtU, y08 y c (Nat.lt_of_lt_of_le hq hn), if_pos hq]; rfl⟩
    rcases h3 with ⟨h3, _⟩ | ⟨h3, ha⟩ | ⟨⟨q, hq, h3⟩, hd⟩
    · have h3 : U = 0 := h3
      exact hent _ _ hpc (.inl (by rw [h3]; exact ztc _ _ _))
    · have h3 : U = shl64 1 0 := h3
      have hpu : p = u := by
        have h4 := hl p hp
        have h5 : (tblT x).lang 0 p = true := by rw [show (tblT x).lang 0 p = x.acc.getD ((tblT x).run 0 p) false from rfl, ← h2]; exact ha
        rw [h5] at h4; exact of_decide_eq_true h4.symm
      refine hent _ _ hpc (.inr ⟨h3 ▸ hone 0 hy.npos, fun w hw => ?_⟩)
      have hb : Bytes (p ++ [c] ++ w) := fun z hz => (List.mem_append.1 hz).elim (hpc z) (hw z)
      have h4 := hl (p ++ [c] ++ w) hb
      rw [show (tblT x).lang ((tblT x).run 0 (p ++ [c])) w = (tblT x).lang 0 (p ++ [c] ++ w) by show (tblT x).acc _ = (tblT x).acc ((tblT x).run 0 ((p ++ [c]) ++ w)); rw [y09 _ (p ++ [c]) w], h4]; refine decide_eq_false fun e => ?_
      have := congrArg List.length e
      rw [hpu] at this
      simp at this
    · have h3 : U = shl64 1 q := h3
      refine hent _ _ hpc (.inr ⟨h3 ▸ hone q hq, fun w hw => ?_⟩)
      have := hd (c :: w) (fun z hz => (List.mem_cons.1 hz).elim (fun h => h ▸ hc) (hw z))
      rw [← this, ← hst]; rfl

end Go.Proofs.YtppmnaoollkboaaDoor

namespace Go.Proofs.YtppmnaoollkboaaDoor
set_option linter.all false
open Go.Ab Go.RowKit

open Go.Aut
noncomputable def wD (x : List UInt8) : Dfa := canD (langW (wN x))
theorem zh3 {x : List UInt8} (h : x.length ≤ 62) : wordR x = (wD x, 0) := by rw [wordR, if_neg (by omega)]; rfl
theorem zak {x : List UInt8} (h : x.length ≤ 62) : (wD x).good := (z76 h).1
theorem zeh {x : List UInt8} (h : x.length ≤ 62) {w : List Nat} (hw : Bytes w) : langD (wD x) w = langW (wN x) w := (z76 h).2.1 w hw
theorem y0a {x : List UInt8} (h : x.length ≤ 62) : canD (langD (wD x)) = wD x := z2w (z76 h).2.1
theorem wN_app (u v : List UInt8) : wN (u ++ v) = wN u ++ wN v := List.map_append
theorem zny {u v : List UInt8} (hu : u.length ≤ 31) (hv : v.length ≤ 31) : z42 (wD u) (wD v) = (wD (u ++ v), 0) := by
  have hu2 : u.length ≤ 62 := by omega
  have hv2 : v.length ≤ 62 := by omega
  have gu := zak hu2
  have gv := zak hv2
  have nu : (wD u).next.length ≤ u.length + 2 := (z76 hu2).2.2
  have nv : (wD v).next.length ≤ v.length + 2 := (z76 hv2).2.2
  have hb : (wD u).next.length + (wD u).next.length * (wD v).next.length ≤ 4096 := by
    have h1 : (wD u).next.length * (wD v).next.length ≤ 33 * 33 := Nat.mul_le_mul (by omega) (by omega)
    omega
  have hs := zil (x := tabD (wD u)) (y := tabD (wD v)) (z0z gu) (z0z gv).1 gv.2 (u := wN u) (fun w hw => (z3n (wD u) 0 hw).trans (zeh hu2 hw)) (m := 4096) hb
  rw [z42, if_pos ⟨z0q gu, z0q gv⟩, y0a hu2, y0a hv2, if_neg hs]
  have hl : (u ++ v).length ≤ 62 := by rw [List.length_append]; omega
  have : canD (catB (langD (wD u)) (langD (wD v))) = wD (u ++ v) := by
    show _ = canD (langW (wN (u ++ v)))
    rw [wN_app]; exact z2w fun w hw => (zaz (fun w hw => zeh hu2 hw) (fun w hw => zeh hv2 hw) hw).trans (znw _ _ w)
  rw [this, limL, if_neg (by have := (zak hl).2; omega)]
theorem zb9 (x : List UInt8) : Bytes (wN x) := z4f x
theorem zv2 {x : List UInt8} (h : x.length ≤ 62) : lstR (wD x) = some (wN x) := by
  rw [lstR, if_pos (z0q (zak h))]; refine z4p ⟨zb9 x, by rw [zeh h (zb9 x)]; exact decide_eq_true rfl, fun v hv hl => ?_⟩; rw [zeh h hv] at hl; exact .inl (of_decide_eq_true hl).symm
theorem wN_inj {u v : List UInt8} (h : wN u = wN v) : u = v := by
  refine List.map_inj_right (fun a b e => UInt8.toNat_inj.1 e) |>.1 h
theorem z51 {x : List UInt8} (h : x.length ≤ 62) (w : List UInt8) : z0y (wD x) w = decide (w = x) := by
  rw [z0y, z0q (zak h), Bool.true_and, zeh h (zb9 w), langW]; exact decide_eq_decide.2 ⟨wN_inj, fun e => by rw [e]⟩

end Go.Proofs.YtppmnaoollkboaaDoor

namespace Go.Proofs.YtppmnaoollkboaaDoor
set_option linter.all false
open Go.Ab Go.RowKit

open Go.Aut
theorem y0b {c : List UInt64} {b x : Nat} (hc : c.length = 4) (hb : b < 256) (hx : x < 256) : hasW (withW c b) x = (hasW c x || decide (x = b)) := by
  rw [hasW, withW, z1u (by omega)]
  by_cases e : b / 64 = x / 64
  · rw [if_pos e, UInt64.toNat_or, Nat.testBit_or]
    have h1 := zcq (b % 64) (x % 64)
    rw [zfq] at h1; rw [h1, hasW, e]
    congr 1
    rw [Bool.eq_iff_iff]; simp; omega
  · rw [if_neg e, decide_eq_false (fun h => e (by rw [h])), Bool.or_false, hasW]
theorem letK_put (n : Nat) {b : Nat} (hb : b < 256) : letK n (b + 1) = putC (letK n b) (z24 n b) b := by
  have hl := z31 (z36 n b) (i := z24 n b) (Nat.lt_succ_of_le (z6q n b))
  have h1 : withW (clsAt (letK n b) (z24 n b)) b = orC (clsAt (letK n b) (z24 n b)) (ofW [UInt8.ofNat b]) := zs1 (by rw [z3d, hl]) (z4q ..) fun x hx => by
    rw [y0b hl hb hx, zxr _ _ hx, zxz hb hx]
  rw [letK, h1]; rfl
theorem zv3 {l : List UInt64} (h : ∀ y ∈ l, y = 0) (i : Nat) : l.getD i 0 = 0 := by
  rw [List.getD_eq_getElem?_getD]
  cases e : l[i]? with
  | none => rfl
  | some y => exact h y (List.mem_of_getElem? e)
theorem zte (n : Nat) {k x : Nat} (hk : k ≤ n) (hx : x < 256) : ∀ b, b ≤ 256 → hasC (letK n b) k x = (decide (x < b) && decide (z24 n x = k))
  | 0, _ => by
    rw [hasC, letK, zv3 fun y hy => ?_]
    · simp
    · obtain ⟨l, hl, hy⟩ := List.mem_flatten.1 hy
      rw [(List.mem_replicate.1 hl).2] at hy; exact (List.mem_replicate.1 hy).2
  | b + 1, hb => by
    rw [letK_put n (by omega), zs6 (z36 n b) (Nat.lt_succ_of_le (z6q n b)) (by omega) (by omega) hx, zte n hk hx b (by omega), Bool.eq_iff_iff]
    simp only [Bool.or_eq_true, Bool.and_eq_true, decide_eq_true_eq]
    constructor
    · rintro (⟨h1, h2⟩ | ⟨h1, h2⟩)
      · exact ⟨by omega, h2⟩
      · subst h2; exact ⟨by omega, h1.symm⟩
    · rintro ⟨h1, h2⟩
      rcases Nat.lt_succ_iff_lt_or_eq.1 h1 with h | h
      · exact .inl ⟨h, h2⟩
      · subst h; exact .inr ⟨h2.symm, rfl⟩
theorem z7q (a : UInt8) : 1 ≤ madeN a ∧ madeN a ≤ 5 := by unfold madeN; omega
theorem y0c (a : UInt8) : z50 a ≤ 3 := by unfold z50; omega
theorem z7r (a : UInt8) (l : List UInt8) (m : UInt8) : (madeD a l m).next.length = madeN a := z61 ..
theorem z77 (a : UInt8) (l : List UInt8) (m : UInt8) : (madeD a l m).good := by
  have hN := z7q a
  have hL := y0c a
  have hlen := z7r a l m
  have hbit : ∀ {k x : Nat}, k < madeC a → x < 256 → (hasC (madeD a l m).cls k x = true ↔ z24 (z50 a) x = k) := fun {k x} hk hx => by
    show hasC (letK (z50 a) 256) k x = true ↔ _
    rw [zte (z50 a) (Nat.lt_succ_iff.1 hk) hx 256 (Nat.le_refl _), decide_eq_true hx, Bool.true_and, decide_eq_true_eq]
  refine ⟨⟨z36 _ 256, by omega, ?_, Nat.succ_pos _, by show z50 a + 1 ≤ 256; omega, fun b hb => ?_, fun c hc => ?_, fun r hr => ?_⟩, by omega⟩
  · rw [hlen]; exact z75 ..
  · exact ⟨z24 (z50 a) b, Nat.lt_succ_of_le (z6q _ _), fun x hx => by rw [hbit hx hb]; exact eq_comm⟩
  · have hc' : c ≤ z50 a := Nat.lt_succ_iff.1 hc
    by_cases h : c < z50 a
    · refine ⟨97 + c, by omega, (hbit hc (by omega)).2 ?_⟩
      rw [z24, if_pos ⟨by omega, by omega⟩]; omega
    · refine ⟨0, by decide, (hbit hc (by decide)).2 ?_⟩
      rw [z24, if_neg (by omega)]; omega
  · obtain ⟨i, _, rfl⟩ := List.mem_map.1 hr
    refine ⟨zc3 .., fun t ht => ?_⟩; obtain ⟨j, _, rfl⟩ := List.mem_map.1 ht; rw [hlen, tgtK]
    split
    · have : (l.getD (i * madeC a + j) 0).toNat % madeN a < madeN a := Nat.mod_lt _ (by omega)
      omega
    · omega
theorem accG {d : Dfa} (h : d.good) (x : List UInt8) : z0y d x = langD d (wN x) := by rw [z0y, z0q h, Bool.true_and]
theorem canD_ok {L : List Nat → Bool} (h : 0 < (canD L).next.length) : (canD L).ok ∧ IsCanon (macD (canD L)) L := by
  by_cases he : ∃ d : Dfa, d.ok ∧ IsCanon (macD d) L
  · obtain ⟨d, h1, h2⟩ := he
    rw [z89 h1 h2]; exact ⟨h1, h2⟩
  · rw [canD, dif_neg he] at h; cases h
theorem zba {L : List Nat → Bool} (h : (canD L).good) : IsCanon (macD (canD L)) L ∧ ∀ w, Bytes w → langD (canD L) w = L w := by
  have h1 := (canD_ok h.1.npos).2
  exact ⟨h1, fun w hw => zcm h1 hw⟩
theorem canR {d : Dfa} (h : d.good) : znf d = (canD (langD d), 0) := by rw [znf, if_pos (z0q h)]
theorem can_len {d : Dfa} (h : d.good) : (canD (langD d)).next.length ≤ d.next.length := (zfi h.1).2.2
theorem not_res {d : Dfa} (h : d.good) : notR d = (canD (fun w => !langD d w), 0) ∧ (canD fun w => !langD d w).good ∧ (canD fun w => !langD d w).next.length ≤ d.next.length := by
  have hf := zse (z0z h)
  obtain ⟨h1, h2, h3⟩ := zco hf.1; rw [zyk h] at h1 h3
  have h3 : (canD fun w => !langD d w).next.length ≤ d.next.length := h3
  exact ⟨by rw [notR, if_pos (z0q h)], ⟨h1, Nat.le_trans h3 h.2⟩, h3⟩
def listP (A B : Nat) : List Stt := (List.range A).flatMap fun p => (List.range B).map fun q => (p, q, 0)
theorem y0d (A B : Nat) : (listP A B).length = A * B := by
  rw [listP, List.length_flatMap]
  simp [List.map_const', List.sum_replicate_nat]
theorem ztf {a b : Tab} (ha : a.fit) (hb : b.fit) {m : Nat} (hm : a.next.length * b.next.length ≤ m) : ¬ Big (stepF (prodG a b) (jrep (cN a) (cN b))) (jrep (cN a) (cN b)).length (0, 0, 0) m := by
  have hj := j_in a b
  refine z9h (Inv := prodI a b) (listP a.next.length b.next.length) (fun s hs => ?_) ⟨ha.1.npos, hb.1.npos, rfl⟩ (fun s c hs hc => zq9 ha hb hs hc) hj.byte hj.pos (by rw [y0d]; exact hm); obtain ⟨p, q, r⟩ := s; obtain ⟨h1, h2, h3⟩ := hs
  have h3 : r = 0 := h3
  subst h3; exact List.mem_flatMap.2 ⟨p, List.mem_range.2 h1, List.mem_map.2 ⟨q, List.mem_range.2 h2, rfl⟩⟩
theorem znz {op : Bool → Bool → Bool} {a b : Tab} (ha : a.fit) (hb : b.fit) (h : a.next.length * b.next.length ≤ 4096) : (prodT op a b).next.length ≤ a.next.length * b.next.length := by
  obtain ⟨n, hn, hle⟩ := zq8 (ztf ha hb (Nat.le_refl _)); rw [prodT, exR, if_neg (ztf ha hb (by omega)), zs8 hn]
  show (rowsQ _ _ _ n).length ≤ _
  rw [z3x]; exact hle
theorem zlp {op : Bool → Bool → Bool} {d e : Dfa} (hd : d.good) (he : e.good) (h : d.next.length * e.next.length ≤ 64) : combR op d e = (canD (combB op d e), 0) ∧ (canD (combB op d e)).good ∧ (canD (combB op d e)).next.length ≤ d.next.length * e.next.length := by
  have hf := zd0 op hd he
  obtain ⟨h1, h2, h3⟩ := zco hf.1; rw [zso hd he] at h1 h3
  have h4 := znz (op := op) (z0z hd) (z0z he) (Nat.le_trans h (by decide))
  have h5 : (canD (combB op d e)).next.length ≤ d.next.length * e.next.length := Nat.le_trans h3 h4
  refine ⟨?_, ⟨h1, Nat.le_trans h5 h⟩, h5⟩; rw [combR, if_pos ⟨z0q hd, z0q he⟩, limL, if_neg (by omega)]
theorem zjt (d : Dfa) : limL d = (noD, 2) ∨ limL d = (d, 0) ∧ d.next.length ≤ 64 := by
  unfold limL
  split
  · exact .inl rfl
  · exact .inr ⟨rfl, by omega⟩
theorem noD_wf : noD.wf := by
  refine ⟨rfl, ?_, ?_, ?_, fun r hr => by cases hr⟩ <;> decide
theorem cat_pos {d e : Dfa} (hd : d.good) (he : e.good) (h : ¬ Big (stepF (catG (tabD (canD (langD d))) (tabD (canD (langD e)))) (jrep (cN (tabD (canD (langD d)))) (cN (tabD (canD (langD e)))))) (jrep (cN (tabD (canD (langD d)))) (cN (tabD (canD (langD e))))).length (cat0 (tabD (canD (langD d)))) 4096) : (canD (catB (langD d) (langD e))).ok := by
  have hx := z0z (z49 hd).1
  have hy := z0z (z49 he).1
  have hj := j_in (tabD (canD (langD d))) (tabD (canD (langD e)))
  obtain ⟨h1, _, h3⟩ := zb7 (L := catB (langD d) (langD e)) (acc := catA (tabD (canD (langD e)))) (m := 4096) (by decide) (fun s x hx' => zd2 s hx') (fun w hw => zze hd he hw) h; rw [← h3]; exact (zco h1.1).1
theorem sta_pos {d : Dfa} (hd : d.good) (h : ¬ Big (stepF (staG (tabD (canD (langD d)))) (jrep (cN (tabD (canD (langD d)))) (cN (tabD (canD (langD d)))))) (jrep (cN (tabD (canD (langD d)))) (cN (tabD (canD (langD d))))).length (1, 0, 1) 4096) : (canD (starB (langD d))).ok := by
  obtain ⟨h1, _, h3⟩ := zb7 (L := starB (langD d)) (acc := staA (tabD (canD (langD d)))) (m := 4096) (by decide) (fun s x hx' => znm s hx') (fun w hw => zzf hd hw) h; rw [← h3]; exact (zco h1.1).1
theorem y0e {d e : Dfa} (hd : d.good) (he : e.good) : z42 d e = (noD, 2) ∨ z42 d e = (canD (catB (langD d) (langD e)), 0) ∧ (canD (catB (langD d) (langD e))).good := by
  rw [z42, if_pos ⟨z0q hd, z0q he⟩]
  split
  · exact .inl rfl
  · rename_i h
    rcases zjt (canD (catB (langD d) (langD e))) with h1 | ⟨h1, h2⟩
    · exact .inl h1
    · exact .inr ⟨h1, cat_pos hd he h, h2⟩
theorem y0f {d : Dfa} (hd : d.good) : starR d = (noD, 2) ∨ starR d = (canD (starB (langD d)), 0) ∧ (canD (starB (langD d))).good := by
  rw [starR, if_pos (z0q hd)]
  split
  · exact .inl rfl
  · rename_i h
    rcases zjt (canD (starB (langD d))) with h1 | ⟨h1, h2⟩
    · exact .inl h1
    · exact .inr ⟨h1, sta_pos hd h, h2⟩
theorem zo0 (u v : List UInt8) : wN (u ++ v) = wN u ++ wN v := List.map_append
theorem ztg {x : List UInt8} {u v : List Nat} (h : wN x = u ++ v) : u = wN (x.take u.length) ∧ v = wN (x.drop u.length) := by
  have h1 : wN (x.take u.length) = u := by rw [wN, List.map_take, ← wN, h, List.take_left]
  have h2 : wN (x.drop u.length) = v := by rw [wN, List.map_drop, ← wN, h, List.drop_left]
  exact ⟨h1.symm, h2.symm⟩
theorem y0g (x : List UInt8) : (wN x).length = x.length := List.length_map ..
theorem gd_star {d : Dfa} (h : d.good) (x : List UInt8) : ∀ k, k ≤ x.length → gd (partF d x) k = starB (langD d) (wN (x.take k)) := by
  intro k
  induction k using Nat.strongRecOn with
  | ind k ih =>
    intro hk
    rcases Nat.eq_zero_or_pos k with h0 | h0
    · subst h0
      rw [y01]; exact (z3o.2 (StarL.nil _)).symm
    · rw [gd_any _ h0, Bool.eq_iff_iff, z3o, anyK, List.any_eq_true]
      constructor
      · rintro ⟨i, hi, hg⟩
        have hi := List.mem_range.1 hi
        rw [Bool.and_eq_true, ih i hi (by omega), z3o, partF, accG h] at hg
        have e : x.take k = x.take i ++ (x.drop i).take (k - i) := by
          rw [← List.take_append_drop i (x.take k), List.take_take, Nat.min_eq_left (by omega), List.drop_take]
        rw [e, zo0]; exact StarL.snoc hg.1 hg.2
      · intro hs
        have hne : wN (x.take k) ≠ [] := fun e => by
          have := congrArg List.length e
          rw [y0g, List.length_take, Nat.min_eq_left hk] at this; exact absurd (show k = 0 from this) (by omega)
        obtain ⟨u, v, e, h1, h2, h3⟩ := StarL.last hs hne; obtain ⟨e1, e2⟩ := ztg e
        have hlen := congrArg List.length e
        rw [y0g, List.length_take, Nat.min_eq_left hk, List.length_append] at hlen
        have hv : 0 < v.length := List.length_pos_iff.2 h3
        refine ⟨u.length, List.mem_range.2 (by omega), ?_⟩; rw [Bool.and_eq_true, ih u.length (by omega) (by omega), z3o, partF, accG h]; rw [List.take_take, Nat.min_eq_left (by omega)] at e1; rw [List.drop_take] at e2; rw [← e1, ← e2]; exact ⟨h1, h2⟩
theorem starB_idem (L : List Nat → Bool) (w : List Nat) : starB (starB L) w = starB L w := by
  rw [Bool.eq_iff_iff, z3o, z3o]
  constructor
  · rintro ⟨ws, h1, rfl⟩
    have : ∀ ws : List (List Nat), (∀ u ∈ ws, starB L u = true) → StarL L ws.flatten := by
      intro ws
      induction ws with
      | nil => exact fun _ => StarL.nil L
      | cons u ws ih =>
        intro h; obtain ⟨us, h2, rfl⟩ := z3o.1 (h u List.mem_cons_self); obtain ⟨vs, h3, h4⟩ := ih fun v hv => h v (List.mem_cons_of_mem _ hv); refine ⟨us ++ vs, fun v hv => (List.mem_append.1 hv).elim (h2 v) (h3 v), ?_⟩; rw [List.flatten_append, h4]; rfl
    exact this ws h1
  · intro h
    exact ⟨[w], fun u hu => by rw [List.mem_singleton.1 hu]; exact z3o.2 h, by simp⟩
def splK (a b : Dfa) (x : List UInt8) (k : Nat) : Bool := (List.range k).any fun i => z0y a (x.take i) && z0y b (x.drop i)
theorem zo1 (a b : Dfa) (x : List UInt8) (k : Nat) : splK a b x (k + 1) = (splK a b x k || (z0y a (x.take k) && z0y b (x.drop k))) := by
  rw [splK, splK, List.range_succ, List.any_append]; simp
theorem zth {a b : Dfa} (ha : a.good) (hb : b.good) (x : List UInt8) : splK a b x (x.length + 1) = catB (langD a) (langD b) (wN x) := by
  rw [Bool.eq_iff_iff, zfk, splK, List.any_eq_true]
  constructor
  · rintro ⟨i, hi, hg⟩
    rw [Bool.and_eq_true, accG ha, accG hb] at hg; refine ⟨_, _, ?_, hg.1, hg.2⟩; rw [← zo0, List.take_append_drop]
  · rintro ⟨u, v, e, h1, h2⟩
    obtain ⟨e1, e2⟩ := ztg e
    have hlen := congrArg List.length e
    rw [y0g, List.length_append] at hlen; refine ⟨u.length, List.mem_range.2 (by omega), ?_⟩; rw [Bool.and_eq_true, accG ha, accG hb, ← e1, ← e2]; exact ⟨h1, h2⟩

end Go.Proofs.YtppmnaoollkboaaDoor

namespace Go.Proofs.YtppmnaoollkboaaDoor
set_option linter.all false
open Go.Ab Go.RowKit

open Go.Aut
theorem y0h : ∀ (n : Nat) (P : List Nat → Prop), (∃ v, Bytes v ∧ v.length = n ∧ P v) → ∃ w, Bytes w ∧ w.length = n ∧ P w ∧ ∀ v, Bytes v → v.length = n → P v → w = v ∨ lexL w v
  | 0, P, ⟨v, h1, h2, h3⟩ => by
    obtain rfl := List.length_eq_zero_iff.1 h2; exact ⟨[], h1, rfl, h3, fun u _ hu _ => .inl (List.length_eq_zero_iff.1 hu).symm⟩
  | n + 1, P, ⟨v, h1, h2, h3⟩ => by
    have he : ∃ a, ∃ u, Bytes (a :: u) ∧ u.length = n ∧ P (a :: u) := by
      cases v with
      | nil => cases h2
      | cons a u => exact ⟨a, u, h1, by simpa using h2, h3⟩
    obtain ⟨a, ⟨u, g1, g2, g3⟩, hmin⟩ := least he; obtain ⟨w, k1, k2, k3, k4⟩ := y0h n (fun u => P (a :: u)) ⟨u, fun b hb => g1 b (List.mem_cons_of_mem _ hb), g2, g3⟩; refine ⟨a :: w, Bytes.cons (g1 a List.mem_cons_self) k1, by simp [k2], k3, fun v hv hl hp => ?_⟩
    cases v with
    | nil => cases hl
    | cons b t =>
      have hl2 : t.length = n := by simpa using hl
      have hab : a ≤ b := Nat.le_of_not_lt fun h => hmin b h ⟨t, hv, hl2, hp⟩
      rcases Nat.lt_or_eq_of_le hab with h | rfl
      · exact .inr (.inl h)
      · rcases k4 t (fun x hx => hv x (List.mem_cons_of_mem _ hx)) hl2 hp with e | e
        · exact .inl (by rw [e])
        · exact .inr (.inr ⟨rfl, e⟩)
theorem least_ex {L : List Nat → Bool} {v : List Nat} (hv : Bytes v) (hL : L v = true) : ∃ w, z6w L w := by
  have he : ∃ n, ∃ u, Bytes u ∧ u.length = n ∧ L u = true := ⟨_, v, hv, rfl, hL⟩
  obtain ⟨n, hn, hmin⟩ := least he; obtain ⟨w, h1, h2, h3, h4⟩ := y0h n (fun u => L u = true) hn; refine ⟨w, h1, h3, fun u hu hLu => ?_⟩
  have : n ≤ u.length := Nat.le_of_not_lt fun h => hmin u.length h ⟨u, hu, rfl, hLu⟩
  rcases Nat.lt_or_eq_of_le this with h | h
  · exact .inr (.inl (by omega))
  · rcases h4 u hu h.symm hLu with e | e
    · exact .inl e
    · exact .inr (.inr ⟨by omega, e⟩)
theorem zo2 {L : List Nat → Bool} (h : z30 L = none) {v : List Nat} (hv : Bytes v) : L v = false := by
  cases e : L v with
  | false => rfl
  | true =>
    obtain ⟨w, hw⟩ := least_ex hv e; rw [z4p hw] at h; cases h
theorem y0i {w : List Nat} (h : Bytes w) : wN (w.map UInt8.ofNat) = w := by
  rw [wN, List.map_map]; refine (List.map_congr_left fun b hb => ?_).trans (List.map_id w); exact UInt8.toNat_ofNat_of_lt' (h b hb)
theorem y0j {w : List Nat} (h : Bytes w) : wN (lsB (some w)) = w := y0i h
theorem zqm (w : List Nat) : (lsB (some w)).length = w.length := List.length_map ..
theorem zv4 {d e : Dfa} (hd : d.good) (he : e.good) : (∀ y, z0y d y = z0y e y) ↔ ∀ w, Bytes w → langD d w = langD e w := by
  constructor
  · intro h w hw
    have := h (w.map UInt8.ofNat)
    rwa [accG hd, accG he, y0i hw] at this
  · intro h y
    rw [accG hd, accG he]; exact h _ (z4f y)
theorem y0k {d e : Dfa} (hd : d.good) (he : e.good) : (lsB (aptR d e)).length ≤ 8192 ∧ ((aptR d e).isSome = true → z0y d (lsB (aptR d e)) = !z0y e (lsB (aptR d e))) ∧ ((aptR d e).isSome = false → ∀ y, z0y d y = z0y e y) ∧ sameD (canD (langD d)) (canD (langD e)) = !(aptR d e).isSome := by
  have hv : z0u d = true ∧ z0u e = true := ⟨z0q hd, z0q he⟩
  rw [aptR, if_pos hv]
  cases ho : z30 (combB (fun x y => x != y) d e) with
  | none =>
    have hl : ∀ w, Bytes w → langD d w = langD e w := fun w hw => by
      have : (langD d w != langD e w) = false := zo2 ho hw
      simpa using this
    refine ⟨by decide, (fun h => by cases h), fun _ => (zv4 hd he).2 hl, ?_⟩; rw [z2w hl]; exact z8i.2 rfl
  | some w =>
    have hw := zbs ho
    have h1 : (langD d w != langD e w) = true := hw.2.1
    have hne : langD d w = !langD e w := by
      cases h2 : langD d w <;> cases h3 : langD e w <;> simp [h2, h3] at h1 ⊢
    refine ⟨?_, fun _ => by rw [accG hd, accG he, y0j hw.1]; exact hne, (fun h => by cases h), ?_⟩
    · have h64 := hd.2; have h64' := he.2
      have hf := zd0 (fun x y => x != y) hd he
      have hlw : z6w ((tblT (prodT (fun x y => x != y) (tabD d) (tabD e))).lang 0) w := by
        have := zsy (op := fun x y => x != y) hd he
        rw [ho] at this; exact zbs this
      have hs := zh8 (g := fun s b => (tblT (prodT (fun x y => x != y) (tabD d) (tabD e))).δ s ((tblT (prodT (fun x y => x != y) (tabD d) (tabD e))).cell b)) (acc := (tblT (prodT (fun x y => x != y) (tabD d) (tabD e))).acc) hf.1.npos (fun s b hs hb => (nextN hf.1 hs (cellN hf.1 hb).1).1) (w := w) (by
        have : (tblT (prodT (fun x y => x != y) (tabD d) (tabD e))).lang 0 = _ := funext fun w => z6x _ w
        rw [this] at hlw; exact hlw)
      have hl := znz (op := fun x y => x != y) (z0z hd) (z0z he) (Nat.mul_le_mul h64 h64')
      have h2 : (tabD d).next.length * (tabD e).next.length ≤ 64 * 64 := Nat.mul_le_mul h64 h64'
      rw [zqm]; omega
    · have : ¬ canD (langD d) = canD (langD e) := fun hc => by
        have e1 := (z49 hd).2 w hw.1
        have e2 := (z49 he).2 w hw.1
        rw [hc, e2] at e1; rw [← e1] at hne
        cases h3 : langD e w <;> rw [h3] at hne <;> cases hne
      show sameD _ _ = false
      rw [← Bool.not_eq_true, z8i]; exact this
theorem zo3 {d : Dfa} (h : d.good) (hL : ∀ w, Bytes w → langD d w = false) : (canD (langD d)).next.length = 1 ∧ (canD (langD d)).acc.getD 0 false = false := by
  have hc := (zfi h.1).2.1
  have hok := (zfi h.1).1
  have h0 : ∀ s, s < (canD (langD d)).next.length → ∀ w, Bytes w → (macD (canD (langD d))).lang s w = false := fun s hs w hw => by
    obtain ⟨u, hu, rfl⟩ := reach hc s hs
    have := hc.lang (u ++ w) (Bytes.app hu hw)
    rw [hL _ (Bytes.app hu hw)] at this; rw [← this]
    show (macD (canD (langD d))).acc _ = (macD (canD (langD d))).acc _
    rw [Mac.run_append]
  refine ⟨?_, ?_⟩
  · have hp := hok.npos
    rcases Nat.lt_or_ge 1 (canD (langD d)).next.length with h1 | h1
    · obtain ⟨w, hw, hne⟩ := hc.apart 0 1 hp h1 (by decide)
      exact absurd ((h0 0 hp w hw).trans (h0 1 h1 w hw).symm) hne
    · omega
  · exact h0 0 hok.npos [] Bytes.nil
theorem y0l {d : Dfa} (h : d.good) : (lsB (lstR d)).length ≤ 64 ∧ ((lstR d).isSome = false → (canD (langD d)).next.length = 1 ∧ (canD (langD d)).acc.getD 0 false = false ∧ ∀ y, z0y d y = false) ∧ ((lstR d).isSome = true → z0y d (lsB (lstR d)) = true ∧ (lsB (lstR d)).length < d.next.length ∧ ∀ y, z0y d y = true → lessB y (lsB (lstR d)) = false) := by
  rw [lstR, if_pos (z0q h)]
  cases ho : z30 (langD d) with
  | none =>
    have hl : ∀ w, Bytes w → langD d w = false := fun w hw => zo2 ho hw
    refine ⟨by decide, fun _ => ⟨(zo3 h hl).1, (zo3 h hl).2, fun y => by rw [accG h]; exact hl _ (z4f y)⟩, (fun h => by cases h)⟩
  | some w =>
    have hw := zbs ho
    have hs := zpi h.1 hw
    have h64 := h.2
    refine ⟨by rw [zqm]; omega, (fun h => by cases h), fun _ => ⟨by rw [accG h, y0j hw.1]; exact hw.2.1, by rw [zqm]; exact hs, fun y hy => ?_⟩⟩; rw [← Bool.not_eq_true, zd4, y0j hw.1]; rw [accG h] at hy; exact zp5 (hw.2.2 _ (z4f y) hy)
def prW (x y : List UInt8) (i : Nat) : List UInt8 := if i = 0 then x else y
theorem y0m {x y : List UInt8} {i j : Nat} (hi : i = 0 ∨ i = 1) (hj : j = i) : (Cont.cells [.ds x.length (.u8s x), .ds y.length (.u8s y)]).get j = .ds (prW x y i).length (.u8s (prW x y i)) := by
  subst hj; rcases hi with rfl | rfl <;> rfl
theorem zqn {x y : List UInt8} {n i : Nat} (hx : x.length ≤ n) (hy : y.length ≤ n) : (prW x y i).length ≤ n := by
  unfold prW; split
  · exact hx
  · exact hy

end Go.Proofs.YtppmnaoollkboaaDoor
