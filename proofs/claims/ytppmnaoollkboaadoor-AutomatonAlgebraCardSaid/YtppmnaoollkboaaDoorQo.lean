/- Part 15 of what the claims of this seat share: the walk's engine, the functions' contracts, plain mathematics (Vh, Vi, Vk, Vl, Vn, Vp). -/
import Derived.Test.YtppmnaoollkboaaDoorQl
import Derived.Test.YtppmnaoollkboaaDoorQi
import Derived.Test.YtppmnaoollkboaaDoorQc
import Derived.Test.YtppmnaoollkboaaDoorQh
import Derived.Test.YtppmnaoollkboaaDoorQn
import Derived.Test.YtppmnaoollkboaaDoorQd
namespace Go.Proofs.YtppmnaoollkboaaDoor
set_option linter.all false
open Go.Ab Go.RowKit

open Go.Aut
theorem zb9 {g : Stt → Nat → Stt} {bytes : List Nat} {s0 : Stt} {Inv : Stt → Prop} (L : List Stt) (hL : ∀ s, Inv s → s ∈ L) (h0 : Inv s0) (hg : ∀ s b, Inv s → b < 256 → Inv (g s b)) (hb : ∀ b ∈ bytes, b < 256) (hp : 0 < bytes.length) {m : Nat} (hm : L.length ≤ m) : ¬ Big (stepF g bytes) bytes.length s0 m := by
  rintro ⟨i, k, hj, hk, hl⟩
  have hz : ∀ q, q < i * bytes.length + k → q / bytes.length < (expO (stepF g bytes) bytes.length s0 q).length := fun q hq => by
    have h1 : q / bytes.length ≤ i := by
      rw [← Nat.lt_succ_iff, Nat.div_lt_iff_lt_mul hp, Nat.succ_mul]; omega
    have h2 := hj _ h1
    have h3 := z1y (f := stepF g bytes) (nc := bytes.length) (b0 := s0) (p := q / bytes.length * bytes.length) (q := q) (Nat.div_mul_le_self _ _)
    omega
  have h4 := zoh h0 hg hb hp hz
  have h5 := List.Nodup.length_le_of_subset (z57 (f := stepF g bytes) (nc := bytes.length) (b0 := s0) (i * bytes.length + k)) fun s hs => hL s (h4 s hs)
  omega
theorem shl1_lt {j n : Nat} (h : j < n) (hn : n ≤ 63) : (shl64 1 j).toNat < 2 ^ n := by
  unfold shl64
  rw [if_pos (by omega), UInt64.toNat_shiftLeft, UInt64.toNat_ofNat_of_lt' (by show j < 2 ^ 64; have : (64 : Nat) < 2 ^ 64 := by decide
                                                                               omega)]
  rw [Nat.mod_eq_of_lt (show j < 64 by omega)]
  show (1 <<< j) % 2 ^ 64 < 2 ^ n
  rw [Nat.shiftLeft_eq, Nat.one_mul]
  have h1 : 2 ^ j < 2 ^ n := Nat.pow_lt_pow_right (by decide) h
  exact Nat.lt_of_le_of_lt (Nat.mod_le _ _) h1
theorem zmf {t : Tab} (ht : t.ok) {n : Nat} (h : t.next.length ≤ n) (hn : n ≤ 63) (x : UInt64) {b : Nat} (hb : b < 256) : ∀ k, k ≤ t.next.length → (tgK t x b k).toNat < 2 ^ n
  | 0, _ => Nat.two_pow_pos n
  | k + 1, hk => by
    have ih := zmf ht h hn x hb k (by omega)
    rw [zex]
    split
    · rw [UInt64.toNat_or]
      exact Nat.or_lt_two_pow ih (shl1_lt (Nat.lt_of_lt_of_le (nextN ht (by omega) (cellN ht hb).1).1 h) hn)
    · exact ih
theorem zdh {t : Tab} (ht : t.ok) {n : Nat} (h : t.next.length ≤ n) (hn : n ≤ 63) (x : UInt64) {b : Nat} (hb : b < 256) : (tgtU t x b).toNat < 2 ^ n := zmf ht h hn x hb _ (Nat.le_refl _)
theorem zmg {x : UInt64} {n : Nat} (h0 : 0 < n) (h : x.toNat < 2 ^ n) : (x ||| 1).toNat < 2 ^ n := by
  rw [UInt64.toNat_or]; exact Nat.or_lt_two_pow h (Nat.one_lt_two_pow (by omega))
def inB (m n : Nat) (s : Stt) : Prop := s.1 < m ∧ s.2.1 = 0 ∧ s.2.2.toNat < 2 ^ n
def listB (m n : Nat) : List Stt := (List.range m).flatMap fun a => (List.range (2 ^ n)).map fun u => (a, 0, UInt64.ofNat u)
theorem zmh {m n : Nat} {s : Stt} (h : inB m n s) : s ∈ listB m n := by
  obtain ⟨a, b, c⟩ := s; obtain ⟨h1, h2, h3⟩ := h; refine List.mem_flatMap.2 ⟨a, List.mem_range.2 h1, List.mem_map.2 ⟨c.toNat, List.mem_range.2 h3, ?_⟩⟩
  show (a, 0, UInt64.ofNat c.toNat) = (a, b, c)
  rw [show b = 0 from h2, UInt64.ofNat_toNat]
theorem zea (m n : Nat) : (listB m n).length = m * 2 ^ n := by
  rw [listB, List.length_flatMap]
  simp [List.map_const', List.sum_replicate_nat]
theorem zik {x : Tab} {m n : Nat} (h0 : 0 < n) {s : Stt} (h : inB m n s) : inB m n (entG x s) := by
  unfold entG
  split
  · exact ⟨h.1, h.2.1, zmg h0 h.2.2⟩
  · exact h
theorem zmi {x y : Tab} (hx : x.fit) (hy : y.ok) {n : Nat} (h0 : 0 < n) (hn : n ≤ 63) (h : y.next.length ≤ n) {q : Nat} (hq : x.next.length * 2 ^ n ≤ q) : ¬ Big (stepF (catG x y) (jrep (cN x) (cN y))) (jrep (cN x) (cN y)).length (cat0 x) q := by
  have hj := j_in x y
  refine zb9 (Inv := inB x.next.length n) (listB x.next.length n) (fun s => zmh) (zik (s := (0, 0, 0)) h0 ⟨hx.1.npos, rfl, (show (0 : UInt64).toNat < 2 ^ n from Nat.two_pow_pos n)⟩) (fun s b hs hb => zik h0 ⟨(nextN hx.1 hs.1 (cellN hx.1 hb).1).1, rfl, zdh hy h hn _ hb⟩) hj.byte hj.pos (by rw [zea]; exact hq)
theorem zyb {x : Tab} (hx : x.ok) {n : Nat} (h0 : 0 < n) (hn : n ≤ 63) (h : x.next.length ≤ n) {q : Nat} (hq : 2 * 2 ^ n ≤ q) : ¬ Big (stepF (staG x) (jrep (cN x) (cN x))) (jrep (cN x) (cN x)).length (1, 0, 1) q := by
  have hj := j_in x x
  refine zb9 (Inv := inB 2 n) (listB 2 n) (fun s => zmh) ⟨by decide, rfl, Nat.one_lt_two_pow (by omega)⟩ (fun s b hs hb => ⟨by show 0 < 2; decide, rfl, ?_⟩) hj.byte hj.pos (by rw [zea]; exact hq)
  show (if _ then _ else _ : UInt64).toNat < _
  split
  · exact zmg h0 (zdh hx h hn _ hb)
  · exact zdh hx h hn _ hb

end Go.Proofs.YtppmnaoollkboaaDoor

namespace Go.Proofs.YtppmnaoollkboaaDoor
set_option linter.all false
open Go.Ab Go.RowKit

open Go.Aut
theorem z7z {x : List UInt8} (h : x.length ≤ 62) : (canD (langW (wN x))).good ∧ (∀ w, Bytes w → langD (canD (langW (wN x))) w = langW (wN x) w) ∧ (canD (langW (wN x))).next.length ≤ x.length + 2 := by
  have hf := zm3 h
  obtain ⟨h1, h2, h3⟩ := za4 hf.1
  have hn : (wordT x).next.length = x.length + 2 := z1q _ _
  rw [zr1] at h1 h2 h3; refine ⟨⟨h1, by omega⟩, fun w hw => ?_, by omega⟩
  have := zg0 h2 hw
  rw [this]
  have h4 := zd8 x w 0 hw (Nat.zero_le _)
  rw [h4]; rfl
theorem zc7 {u v : List Nat} (h : Bytes (u ++ v)) : Bytes u ∧ Bytes v := ⟨fun b hb => h b (List.mem_append_left _ hb), fun b hb => h b (List.mem_append_right _ hb)⟩
theorem catB_congr {L L' M M' : List Nat → Bool} (e : ∀ w, Bytes w → L w = L' w) (e' : ∀ w, Bytes w → M w = M' w) {w : List Nat} (hw : Bytes w) : catB L M w = catB L' M' w := by
  unfold catB; refine decide_eq_decide.2 ⟨?_, ?_⟩
  · rintro ⟨u, v, rfl, h1, h2⟩
    exact ⟨u, v, rfl, by rw [← e _ (zc7 hw).1]; exact h1, by rw [← e' _ (zc7 hw).2]; exact h2⟩
  · rintro ⟨u, v, rfl, h1, h2⟩
    exact ⟨u, v, rfl, by rw [e _ (zc7 hw).1]; exact h1, by rw [e' _ (zc7 hw).2]; exact h2⟩
theorem starB_congr {L L' : List Nat → Bool} (e : ∀ w, Bytes w → L w = L' w) {w : List Nat} (hw : Bytes w) : starB L w = starB L' w := by
  have hb : ∀ ws : List (List Nat), ws.flatten = w → ∀ u ∈ ws, Bytes u := fun ws h u hu b hb => hw b (h ▸ List.mem_flatten.2 ⟨u, hu, hb⟩)
  unfold starB; refine decide_eq_decide.2 ⟨?_, ?_⟩
  · rintro ⟨ws, h1, h2⟩
    exact ⟨ws, fun u hu => by rw [← e _ (hb ws h2 u hu)]; exact h1 u hu, h2⟩
  · rintro ⟨ws, h1, h2⟩
    exact ⟨ws, fun u hu => by rw [e _ (hb ws h2 u hu)]; exact h1 u hu, h2⟩
theorem zyc (u v : List Nat) (w : List Nat) : catB (langW u) (langW v) w = langW (u ++ v) w := by
  unfold catB langW; refine decide_eq_decide.2 ⟨?_, ?_⟩
  · rintro ⟨a, b, rfl, h1, h2⟩
    rw [of_decide_eq_true h1, of_decide_eq_true h2]
  · rintro rfl
    exact ⟨u, v, rfl, decide_eq_true rfl, decide_eq_true rfl⟩
noncomputable def dA : Dfa := canD (langW (wN [97]))
noncomputable def dB : Dfa := canD (langW (wN [98]))
theorem z5v : dA.good ∧ (∀ w, Bytes w → langD dA w = langW [97] w) ∧ dA.next.length ≤ 3 := z7z (by decide)
theorem zdi : dB.good ∧ (∀ w, Bytes w → langD dB w = langW [98] w) ∧ dB.next.length ≤ 3 := z7z (by decide)
theorem zyd : canD (langD dA) = dA := z1n z5v.2.1
theorem canD_dB : canD (langD dB) = dB := z1n zdi.2.1
theorem word_AB : wordR [97, 98] = (dAB, 0) := by
  rw [wordR, if_neg (by decide), show wN [97, 98] = [97, 98] from rfl, zvm]
theorem word_A : wordR [97] = (dA, 0) := by rw [wordR, if_neg (by decide)]; rfl
theorem word_B : wordR [98] = (dB, 0) := by rw [wordR, if_neg (by decide)]; rfl
theorem word_63 : wordR (List.replicate 63 0) = (noD, 2) := by rw [wordR, if_pos (by rw [List.length_replicate]; decide)]
theorem zye : z3d dA dB = (dAB, 0) := by
  have hv : z0s dA = true ∧ z0s dB = true := ⟨z0w z5v.1, z0w zdi.1⟩
  have hA := z0y z5v.1
  have hB := z0y zdi.1
  have hl : (tabD dA).next.length * 2 ^ 3 ≤ 4096 := Nat.le_trans (Nat.mul_le_mul_right _ z5v.2.2) (by decide)
  rw [z3d, if_pos hv, zyd, canD_dB, if_neg (zmi hA hB.1 (n := 3) (by decide) (by decide) zdi.2.2 hl)]
  have : canD (catB (langD dA) (langD dB)) = dAB := by
    rw [← zvm]; exact z1n fun w hw => (catB_congr z5v.2.1 zdi.2.1 hw).trans (zyc [97] [98] w)
  rw [this, limL, if_neg (by decide)]
theorem star_A : starR dA = (dAS, 0) := by
  have hA := z0y z5v.1
  rw [starR, if_pos (z0w z5v.1), zyd, if_neg (zyb hA.1 (n := 3) (by decide) (by decide) z5v.2.2 (by decide))]
  have : canD (starB (langD dA)) = dAS := by
    rw [← canD_AS]; exact z1n fun w hw => starB_congr z5v.2.1 hw
  rw [this, limL, if_neg (by decide)]
theorem z8y : dAB.good := ⟨dAB_ok, by decide⟩
theorem zrq : Bytes [97, 98] := by unfold Bytes; decide
theorem zyf : Bytes [97] := by unfold Bytes; decide
theorem least_AB : lstR dAB = some [97, 98] := by
  rw [lstR, if_pos (z0w z8y)]; refine z59 ⟨zrq, by rw [zem _ zrq]; rfl, fun v hv h => ?_⟩; rw [zem v hv] at h; exact .inl (of_decide_eq_true h).symm
theorem apart_AB : aptR dAB dA = some [97] := by
  rw [aptR, if_pos ⟨z0w z8y, z0w z5v.1⟩]
  have hl : ∀ w, Bytes w → combB (fun x y => x != y) dAB dA w = (langW [97, 98] w != langW [97] w) := fun w hw => by
    show (langD dAB w != langD dA w) = _
    rw [zem w hw, z5v.2.1 w hw]
  refine z59 ⟨zyf, by rw [hl _ zyf]; decide, fun v hv h => ?_⟩; rw [hl v hv] at h
  by_cases h1 : v = [97]
  · exact .inl h1.symm
  · by_cases h2 : v = [97, 98]
    · subst h2; exact .inr (.inl (by decide))
    · rw [langW, langW, decide_eq_false h1, decide_eq_false h2] at h; cases h

end Go.Proofs.YtppmnaoollkboaaDoor

namespace Go.Proofs.YtppmnaoollkboaaDoor
set_option linter.all false
open Go.Ab Go.RowKit

open Go.Aut
def inW (x y : Tab) (s : Stt) : Prop := s.2.1 = 0 ∧ ∃ p, Bytes p ∧ s.1 = (tblT x).run 0 p ∧
  ((s.2.2 = 0 ∧ x.acc.getD s.1 false = false) ∨ (s.2.2 = shl64 1 0 ∧ x.acc.getD s.1 false = true) ∨ ((∃ q, q < y.next.length ∧ s.2.2 = shl64 1 q) ∧ ∀ w, Bytes w → (tblT x).lang s.1 w = false))
def listW (m n : Nat) : List Stt := ((List.range m).map fun a => (a, 0, 0)) ++ (List.range m).flatMap fun a => (List.range n).map fun q => (a, 0, shl64 1 q)
end Go.Proofs.YtppmnaoollkboaaDoor

namespace Go.Proofs.YtppmnaoollkboaaDoor
set_option linter.all false
open Go.Ab Go.RowKit

open Go.Aut
noncomputable def wD (x : List UInt8) : Dfa := canD (langW (wN x))
theorem znq {x : List UInt8} (h : x.length ≤ 62) : wordR x = (wD x, 0) := by rw [wordR, if_neg (by omega)]; rfl
theorem zyg {x : List UInt8} (h : x.length ≤ 62) : (wD x).good := (z7z h).1
theorem wD_lang {x : List UInt8} (h : x.length ≤ 62) {w : List Nat} (hw : Bytes w) : langD (wD x) w = langW (wN x) w := (z7z h).2.1 w hw
theorem canD_wD {x : List UInt8} (h : x.length ≤ 62) : canD (langD (wD x)) = wD x := z1n (z7z h).2.1
end Go.Proofs.YtppmnaoollkboaaDoor

namespace Go.Proofs.YtppmnaoollkboaaDoor
set_option linter.all false
open Go.Ab Go.RowKit

open Go.Aut
theorem zyh {c : List UInt64} {b x : Nat} (hc : c.length = 4) (hb : b < 256) (hx : x < 256) : hasW (withW c b) x = (hasW c x || decide (x = b)) := by
  rw [hasW, withW, z1r (by omega)]
  by_cases e : b / 64 = x / 64
  · rw [if_pos e, UInt64.toNat_or, Nat.testBit_or]
    have h1 := zeo (b % 64) (x % 64)
    rw [zep] at h1; rw [h1, hasW, e]
    congr 1
    rw [Bool.eq_iff_iff]; simp; omega
  · rw [if_neg e, decide_eq_false (fun h => e (by rw [h])), Bool.or_false, hasW]
theorem letK_put (n : Nat) {b : Nat} (hb : b < 256) : letK n (b + 1) = putC (letK n b) (z22 n b) b := by
  have hl := z24 (z2x n b) (i := z22 n b) (Nat.lt_succ_of_le (z6b n b))
  have h1 : withW (clsAt (letK n b) (z22 n b)) b = orC (clsAt (letK n b) (z22 n b)) (ofW [UInt8.ofNat b]) := zqm (by rw [z36, hl]) (z4h ..) fun x hx => by
    rw [zyh hl hb hx, zw9 _ _ hx, zwh hb hx]
  rw [letK, h1]; rfl
theorem ztg {l : List UInt64} (h : ∀ y ∈ l, y = 0) (i : Nat) : l.getD i 0 = 0 := by
  rw [List.getD_eq_getElem?_getD]
  cases e : l[i]? with
  | none => rfl
  | some y => exact h y (List.mem_of_getElem? e)
theorem zrr (n : Nat) {k x : Nat} (hk : k ≤ n) (hx : x < 256) : ∀ b, b ≤ 256 → hasC (letK n b) k x = (decide (x < b) && decide (z22 n x = k))
  | 0, _ => by
    rw [hasC, letK, ztg fun y hy => ?_]
    · simp
    · obtain ⟨l, hl, hy⟩ := List.mem_flatten.1 hy
      rw [(List.mem_replicate.1 hl).2] at hy; exact (List.mem_replicate.1 hy).2
  | b + 1, hb => by
    rw [letK_put n (by omega), zqr (z2x n b) (Nat.lt_succ_of_le (z6b n b)) (by omega) (by omega) hx, zrr n hk hx b (by omega), Bool.eq_iff_iff]
    simp only [Bool.or_eq_true, Bool.and_eq_true, decide_eq_true_eq]
    constructor
    · rintro (⟨h1, h2⟩ | ⟨h1, h2⟩)
      · exact ⟨by omega, h2⟩
      · subst h2; exact ⟨by omega, h1.symm⟩
    · rintro ⟨h1, h2⟩
      rcases Nat.lt_succ_iff_lt_or_eq.1 h1 with h | h
      · exact .inl ⟨h, h2⟩
      · subst h; exact .inr ⟨h2.symm, rfl⟩
theorem zc8 (a : UInt8) : 1 ≤ madeN a ∧ madeN a ≤ 5 := by unfold madeN; omega
theorem zyi (a : UInt8) : z4s a ≤ 3 := by unfold z4s; omega
theorem zc9 (a : UInt8) (l : List UInt8) (m : UInt8) : (madeD a l m).next.length = madeN a := z5m ..
theorem zca (a : UInt8) (l : List UInt8) (m : UInt8) : (madeD a l m).good := by
  have hN := zc8 a
  have hL := zyi a
  have hlen := zc9 a l m
  have hbit : ∀ {k x : Nat}, k < madeC a → x < 256 → (hasC (madeD a l m).cls k x = true ↔ z22 (z4s a) x = k) := fun {k x} hk hx => by
    show hasC (letK (z4s a) 256) k x = true ↔ _
    rw [zrr (z4s a) (Nat.lt_succ_iff.1 hk) hx 256 (Nat.le_refl _), decide_eq_true hx, Bool.true_and, decide_eq_true_eq]
  refine ⟨⟨z2x _ 256, by omega, ?_, Nat.succ_pos _, by show z4s a + 1 ≤ 256; omega, fun b hb => ?_, fun c hc => ?_, fun r hr => ?_⟩, by omega⟩
  · rw [hlen]; exact z6p ..
  · exact ⟨z22 (z4s a) b, Nat.lt_succ_of_le (z6b _ _), fun x hx => by rw [hbit hx hb]; exact eq_comm⟩
  · have hc' : c ≤ z4s a := Nat.lt_succ_iff.1 hc
    by_cases h : c < z4s a
    · refine ⟨97 + c, by omega, (hbit hc (by omega)).2 ?_⟩
      rw [z22, if_pos ⟨by omega, by omega⟩]; omega
    · refine ⟨0, by decide, (hbit hc (by decide)).2 ?_⟩
      rw [z22, if_neg (by omega)]; omega
  · obtain ⟨i, _, rfl⟩ := List.mem_map.1 hr
    refine ⟨zb8 .., fun t ht => ?_⟩; obtain ⟨j, _, rfl⟩ := List.mem_map.1 ht; rw [hlen, tgtK]
    split
    · have : (l.getD (i * madeC a + j) 0).toNat % madeN a < madeN a := Nat.mod_lt _ (by omega)
      omega
    · omega
theorem accG {d : Dfa} (h : d.good) (x : List UInt8) : z2o d x = langD d (wN x) := by rw [z2o, z0w h, Bool.true_and]
theorem canD_ok {L : List Nat → Bool} (h : 0 < (canD L).next.length) : (canD L).ok ∧ IsCanon (macD (canD L)) L := by
  by_cases he : ∃ d : Dfa, d.ok ∧ IsCanon (macD d) L
  · obtain ⟨d, h1, h2⟩ := he
    rw [z7q h1 h2]; exact ⟨h1, h2⟩
  · rw [canD, dif_neg he] at h; cases h
theorem z65 {L : List Nat → Bool} (h : (canD L).good) : IsCanon (macD (canD L)) L ∧ ∀ w, Bytes w → langD (canD L) w = L w := by
  have h1 := (canD_ok h.1.npos).2
  exact ⟨h1, fun w hw => zg0 h1 hw⟩
theorem canR {d : Dfa} (h : d.good) : zm2 d = (canD (langD d), 0) := by rw [zm2, if_pos (z0w h)]
theorem can_len {d : Dfa} (h : d.good) : (canD (langD d)).next.length ≤ d.next.length := (zjc h.1).2.2
theorem zp3 {d : Dfa} (h : d.good) : notR d = (canD (fun w => !langD d w), 0) ∧ (canD fun w => !langD d w).good ∧ (canD fun w => !langD d w).next.length ≤ d.next.length := by
  have hf := zqz (z0y h)
  obtain ⟨h1, h2, h3⟩ := za4 hf.1; rw [zx2 h] at h1 h3
  have h3 : (canD fun w => !langD d w).next.length ≤ d.next.length := h3
  exact ⟨by rw [notR, if_pos (z0w h)], ⟨h1, Nat.le_trans h3 h.2⟩, h3⟩
def listP (A B : Nat) : List Stt := (List.range A).flatMap fun p => (List.range B).map fun q => (p, q, 0)
theorem zyj (A B : Nat) : (listP A B).length = A * B := by
  rw [listP, List.length_flatMap]
  simp [List.map_const', List.sum_replicate_nat]
theorem zrs {a b : Tab} (ha : a.fit) (hb : b.fit) {m : Nat} (hm : a.next.length * b.next.length ≤ m) : ¬ Big (stepF (prodG a b) (jrep (cN a) (cN b))) (jrep (cN a) (cN b)).length (0, 0, 0) m := by
  have hj := j_in a b
  refine zb9 (Inv := prodI a b) (listP a.next.length b.next.length) (fun s hs => ?_) ⟨ha.1.npos, hb.1.npos, rfl⟩ (fun s c hs hc => zot ha hb hs hc) hj.byte hj.pos (by rw [zyj]; exact hm); obtain ⟨p, q, r⟩ := s; obtain ⟨h1, h2, h3⟩ := hs
  have h3 : r = 0 := h3
  subst h3; exact List.mem_flatMap.2 ⟨p, List.mem_range.2 h1, List.mem_map.2 ⟨q, List.mem_range.2 h2, rfl⟩⟩
theorem zmj {op : Bool → Bool → Bool} {a b : Tab} (ha : a.fit) (hb : b.fit) (h : a.next.length * b.next.length ≤ 4096) : (prodT op a b).next.length ≤ a.next.length * b.next.length := by
  obtain ⟨n, hn, hle⟩ := zos (zrs ha hb (Nat.le_refl _)); rw [prodT, exR, if_neg (zrs ha hb (by omega)), zqt hn]
  show (rowsQ _ _ _ n).length ≤ _
  rw [z3q]; exact hle
theorem zrt {op : Bool → Bool → Bool} {d e : Dfa} (hd : d.good) (he : e.good) (h : d.next.length * e.next.length ≤ 64) : combR op d e = (canD (combB op d e), 0) ∧ (canD (combB op d e)).good ∧ (canD (combB op d e)).next.length ≤ d.next.length * e.next.length := by
  have hf := z9q op hd he
  obtain ⟨h1, h2, h3⟩ := za4 hf.1; rw [zk1 hd he] at h1 h3
  have h4 := zmj (op := op) (z0y hd) (z0y he) (Nat.le_trans h (by decide))
  have h5 : (canD (combB op d e)).next.length ≤ d.next.length * e.next.length := Nat.le_trans h3 h4
  refine ⟨?_, ⟨h1, Nat.le_trans h5 h⟩, h5⟩; rw [combR, if_pos ⟨z0w hd, z0w he⟩, limL, if_neg (by omega)]
theorem zdj (d : Dfa) : limL d = (noD, 2) ∨ limL d = (d, 0) ∧ d.next.length ≤ 64 := by
  unfold limL
  split
  · exact .inl rfl
  · exact .inr ⟨rfl, by omega⟩
theorem zeb : noD.wf := by
  refine ⟨rfl, ?_, ?_, ?_, fun r hr => by cases hr⟩ <;> decide
theorem cat_pos {d e : Dfa} (hd : d.good) (he : e.good) (h : ¬ Big (stepF (catG (tabD (canD (langD d))) (tabD (canD (langD e)))) (jrep (cN (tabD (canD (langD d)))) (cN (tabD (canD (langD e)))))) (jrep (cN (tabD (canD (langD d)))) (cN (tabD (canD (langD e))))).length (cat0 (tabD (canD (langD d)))) 4096) : (canD (catB (langD d) (langD e))).ok := by
  have hx := z0y (z42 hd).1
  have hy := z0y (z42 he).1
  have hj := j_in (tabD (canD (langD d))) (tabD (canD (langD e)))
  obtain ⟨h1, _, h3⟩ := zab (L := catB (langD d) (langD e)) (acc := catA (tabD (canD (langD e)))) (m := 4096) (by decide) (fun s x hx' => zc4 s hx') (fun w hw => zxs hd he hw) h; rw [← h3]; exact (za4 h1.1).1
theorem sta_pos {d : Dfa} (hd : d.good) (h : ¬ Big (stepF (staG (tabD (canD (langD d)))) (jrep (cN (tabD (canD (langD d)))) (cN (tabD (canD (langD d)))))) (jrep (cN (tabD (canD (langD d)))) (cN (tabD (canD (langD d))))).length (1, 0, 1) 4096) : (canD (starB (langD d))).ok := by
  obtain ⟨h1, _, h3⟩ := zab (L := starB (langD d)) (acc := staA (tabD (canD (langD d)))) (m := 4096) (by decide) (fun s x hx' => zma s hx') (fun w hw => zxt hd hw) h; rw [← h3]; exact (za4 h1.1).1
theorem zyk {d e : Dfa} (hd : d.good) (he : e.good) : z3d d e = (noD, 2) ∨ z3d d e = (canD (catB (langD d) (langD e)), 0) ∧ (canD (catB (langD d) (langD e))).good := by
  rw [z3d, if_pos ⟨z0w hd, z0w he⟩]
  split
  · exact .inl rfl
  · rename_i h
    rcases zdj (canD (catB (langD d) (langD e))) with h1 | ⟨h1, h2⟩
    · exact .inl h1
    · exact .inr ⟨h1, cat_pos hd he h, h2⟩
theorem zyl {d : Dfa} (hd : d.good) : starR d = (noD, 2) ∨ starR d = (canD (starB (langD d)), 0) ∧ (canD (starB (langD d))).good := by
  rw [starR, if_pos (z0w hd)]
  split
  · exact .inl rfl
  · rename_i h
    rcases zdj (canD (starB (langD d))) with h1 | ⟨h1, h2⟩
    · exact .inl h1
    · exact .inr ⟨h1, sta_pos hd h, h2⟩
theorem zth (L : List Nat → Bool) (w : List Nat) : starB (starB L) w = starB L w := by
  rw [Bool.eq_iff_iff, z5g, z5g]
  constructor
  · rintro ⟨ws, h1, rfl⟩
    have : ∀ ws : List (List Nat), (∀ u ∈ ws, starB L u = true) → StarL L ws.flatten := by
      intro ws
      induction ws with
      | nil => exact fun _ => StarL.nil L
      | cons u ws ih =>
        intro h; obtain ⟨us, h2, rfl⟩ := z5g.1 (h u List.mem_cons_self); obtain ⟨vs, h3, h4⟩ := ih fun v hv => h v (List.mem_cons_of_mem _ hv); refine ⟨us ++ vs, fun v hv => (List.mem_append.1 hv).elim (h2 v) (h3 v), ?_⟩; rw [List.flatten_append, h4]; rfl
    exact this ws h1
  · intro h
    exact ⟨[w], fun u hu => by rw [List.mem_singleton.1 hu]; exact z5g.2 h, by simp⟩
def splK (a b : Dfa) (x : List UInt8) (k : Nat) : Bool := (List.range k).any fun i => z2o a (x.take i) && z2o b (x.drop i)
end Go.Proofs.YtppmnaoollkboaaDoor

namespace Go.Proofs.YtppmnaoollkboaaDoor
set_option linter.all false
open Go.Ab Go.RowKit

open Go.Aut
theorem zym : ∀ (n : Nat) (P : List Nat → Prop), (∃ v, Bytes v ∧ v.length = n ∧ P v) → ∃ w, Bytes w ∧ w.length = n ∧ P w ∧ ∀ v, Bytes v → v.length = n → P v → w = v ∨ lexL w v
  | 0, P, ⟨v, h1, h2, h3⟩ => by
    obtain rfl := List.length_eq_zero_iff.1 h2; exact ⟨[], h1, rfl, h3, fun u _ hu _ => .inl (List.length_eq_zero_iff.1 hu).symm⟩
  | n + 1, P, ⟨v, h1, h2, h3⟩ => by
    have he : ∃ a, ∃ u, Bytes (a :: u) ∧ u.length = n ∧ P (a :: u) := by
      cases v with
      | nil => cases h2
      | cons a u => exact ⟨a, u, h1, by simpa using h2, h3⟩
    obtain ⟨a, ⟨u, g1, g2, g3⟩, hmin⟩ := least he; obtain ⟨w, k1, k2, k3, k4⟩ := zym n (fun u => P (a :: u)) ⟨u, fun b hb => g1 b (List.mem_cons_of_mem _ hb), g2, g3⟩; refine ⟨a :: w, Bytes.cons (g1 a List.mem_cons_self) k1, by simp [k2], k3, fun v hv hl hp => ?_⟩
    cases v with
    | nil => cases hl
    | cons b t =>
      have hl2 : t.length = n := by simpa using hl
      have hab : a ≤ b := Nat.le_of_not_lt fun h => hmin b h ⟨t, hv, hl2, hp⟩
      rcases Nat.lt_or_eq_of_le hab with h | rfl
      · exact .inr (.inl h)
      · rcases k4 t (fun x hx => hv x (List.mem_cons_of_mem _ hx)) hl2 hp with e | e
        · exact .inl (by rw [e])
        · exact .inr (.inr ⟨rfl, e⟩)
theorem least_ex {L : List Nat → Bool} {v : List Nat} (hv : Bytes v) (hL : L v = true) : ∃ w, z6u L w := by
  have he : ∃ n, ∃ u, Bytes u ∧ u.length = n ∧ L u = true := ⟨_, v, hv, rfl, hL⟩
  obtain ⟨n, hn, hmin⟩ := least he; obtain ⟨w, h1, h2, h3, h4⟩ := zym n (fun u => L u = true) hn; refine ⟨w, h1, h3, fun u hu hLu => ?_⟩
  have : n ≤ u.length := Nat.le_of_not_lt fun h => hmin u.length h ⟨u, hu, rfl, hLu⟩
  rcases Nat.lt_or_eq_of_le this with h | h
  · exact .inr (.inl (by omega))
  · rcases h4 u hu h.symm hLu with e | e
    · exact .inl e
    · exact .inr (.inr ⟨by omega, e⟩)
theorem zyn {L : List Nat → Bool} (h : z2y L = none) {v : List Nat} (hv : Bytes v) : L v = false := by
  cases e : L v with
  | false => rfl
  | true =>
    obtain ⟨w, hw⟩ := least_ex hv e; rw [z59 hw] at h; cases h
theorem zyo {w : List Nat} (h : Bytes w) : wN (w.map UInt8.ofNat) = w := by
  rw [wN, List.map_map]; refine (List.map_congr_left fun b hb => ?_).trans (List.map_id w); exact UInt8.toNat_ofNat_of_lt' (h b hb)
theorem wN_lsB {w : List Nat} (h : Bytes w) : wN (lsB (some w)) = w := zyo h
theorem lsB_len (w : List Nat) : (lsB (some w)).length = w.length := List.length_map ..
theorem zil {d e : Dfa} (hd : d.good) (he : e.good) : (∀ y, z2o d y = z2o e y) ↔ ∀ w, Bytes w → langD d w = langD e w := by
  constructor
  · intro h w hw
    have := h (w.map UInt8.ofNat)
    rwa [accG hd, accG he, zyo hw] at this
  · intro h y
    rw [accG hd, accG he]; exact h _ (zlx y)
theorem zyp {d e : Dfa} (hd : d.good) (he : e.good) : (lsB (aptR d e)).length ≤ 8192 ∧ ((aptR d e).isSome = true → z2o d (lsB (aptR d e)) = !z2o e (lsB (aptR d e))) ∧ ((aptR d e).isSome = false → ∀ y, z2o d y = z2o e y) ∧ sameD (canD (langD d)) (canD (langD e)) = !(aptR d e).isSome := by
  have hv : z0s d = true ∧ z0s e = true := ⟨z0w hd, z0w he⟩
  rw [aptR, if_pos hv]
  cases ho : z2y (combB (fun x y => x != y) d e) with
  | none =>
    have hl : ∀ w, Bytes w → langD d w = langD e w := fun w hw => by
      have : (langD d w != langD e w) = false := zyn ho hw
      simpa using this
    refine ⟨by decide, (fun h => by cases h), fun _ => (zil hd he).2 hl, ?_⟩; rw [z1n hl]; exact z2h.2 rfl
  | some w =>
    have hw := zg8 ho
    have h1 : (langD d w != langD e w) = true := hw.2.1
    have hne : langD d w = !langD e w := by
      cases h2 : langD d w <;> cases h3 : langD e w <;> simp [h2, h3] at h1 ⊢
    refine ⟨?_, fun _ => by rw [accG hd, accG he, wN_lsB hw.1]; exact hne, (fun h => by cases h), ?_⟩
    · have h64 := hd.2; have h64' := he.2
      have hf := z9q (fun x y => x != y) hd he
      have hlw : z6u ((tblT (prodT (fun x y => x != y) (tabD d) (tabD e))).lang 0) w := by
        have := zrk (op := fun x y => x != y) hd he
        rw [ho] at this; exact zg8 this
      have hs := zo2 (g := fun s b => (tblT (prodT (fun x y => x != y) (tabD d) (tabD e))).δ s ((tblT (prodT (fun x y => x != y) (tabD d) (tabD e))).cell b)) (acc := (tblT (prodT (fun x y => x != y) (tabD d) (tabD e))).acc) hf.1.npos (fun s b hs hb => (nextN hf.1 hs (cellN hf.1 hb).1).1) (w := w) (by
        have : (tblT (prodT (fun x y => x != y) (tabD d) (tabD e))).lang 0 = _ := funext fun w => z6j _ w
        rw [this] at hlw; exact hlw)
      have hl := zmj (op := fun x y => x != y) (z0y hd) (z0y he) (Nat.mul_le_mul h64 h64')
      have h2 : (tabD d).next.length * (tabD e).next.length ≤ 64 * 64 := Nat.mul_le_mul h64 h64'
      rw [lsB_len]; omega
    · have : ¬ canD (langD d) = canD (langD e) := fun hc => by
        have e1 := (z42 hd).2 w hw.1
        have e2 := (z42 he).2 w hw.1
        rw [hc, e2] at e1; rw [← e1] at hne
        cases h3 : langD e w <;> rw [h3] at hne <;> cases hne
      show sameD _ _ = false
      rw [← Bool.not_eq_true, z2h]; exact this
def prW (x y : List UInt8) (i : Nat) : List UInt8 := if i = 0 then x else y
end Go.Proofs.YtppmnaoollkboaaDoor
