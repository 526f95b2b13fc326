/- What the symbolic state says of a frame and a world. -/
import Derived.Test.YtpfncffapgkjaaaDoorAb1
import Derived.BigQuiet
import Derived.Deep.QuietTactic
import Derived.WalkLawsBesides
namespace Go.Ab
set_option linter.unusedVariables false
open Go.RowKit

/-- A value reads as data: whatever it leads to lies in blocks of I, which nobody writes. -/
inductive CellD (I : Nat → Prop) (w : World) : Cell → Value → Prop
  | flat (x : Cell) : x.flat = true → CellD I w x x.val
  | ds0 (c : Cont) (a : Option Addr) (cap : Nat) : c.len = 0 → CellD I w (.ds 0 c) (.slice a 0 cap)
  | ds (n : Nat) (c : Cont) (b off cap : Nat) (f : Nat → Value) : n ≤ cap → I b → 0 < c.len → (∀ j, j < c.len → w.cell? ⟨b, off + j, none⟩ = some (f j)) → (∀ j, j < c.len → CellD I w (c.get j) (f j)) →
      CellD I w (.ds n c) (.slice (some ⟨b, off, none⟩) n cap)
  | dp (c : Cont) (off b k : Nat) (f : Nat → Value) : I b → off < c.len → (∀ j, j < c.len → w.cell? ⟨b, k + j, none⟩ = some (f j)) → (∀ j, j < c.len → CellD I w (c.get j) (f j)) →
      CellD I w (.dp c off) (.pointer (some ⟨b, k + off, none⟩))
  | clo (f : FuncId) (caps : List Cell) (g : Nat → Value) : (∀ j, j < caps.length → CellD I w (caps.getD j .nils) (g j)) → CellD I w (.clo f caps) (.func (.func f) #[] ((List.range caps.length).map g).toArray)

/-- The cells from an address on hold c. -/
def DatAt (I : Nat → Prop) (w : World) (c : Cont) (b off : Nat) : Prop :=
  I b ∧ ∀ j, j < c.len → ∃ x, w.cell? ⟨b, off + j, none⟩ = some x ∧ CellD I w (c.get j) x

def Ext (I : Nat → Prop) (w : World) (I' : Nat → Prop) (w' : World) : Prop := ∀ b, I b → I' b ∧ w'.heap[b]? = w.heap[b]?
theorem Ext.refl (I : Nat → Prop) (w : World) : Ext I w I w := fun _ h => ⟨h, rfl⟩
theorem Ext.trans {I I' I'' : Nat → Prop} {w w' w'' : World} (h : Ext I w I' w') (k : Ext I' w' I'' w'') : Ext I w I'' w'' := fun b hb => ⟨(k b (h b hb).1).1, (k b (h b hb).1).2.trans (h b hb).2⟩
theorem Ext.widen {I I' : Nat → Prop} {w : World} (h : ∀ b, I b → I' b) : Ext I w I' w := fun b hb => ⟨h b hb, rfl⟩
theorem Ext.cell {I I' : Nat → Prop} {w w' : World} (h : Ext I w I' w') {b off : Nat} (hb : I b) : w'.cell? ⟨b, off, none⟩ = w.cell? ⟨b, off, none⟩ := World.cell?_of_block (h b hb).2

section
variable {I I' : Nat → Prop} {w w' : World}
theorem CellD.mono (h : Ext I w I' w') {x : Cell} {v : Value} (hx : CellD I w x v) : CellD I' w' x v := by
  induction hx with
  | flat x hx => exact .flat x hx
  | ds0 c a cap hc => exact .ds0 c a cap hc
  | ds n c b off cap f hn hb hc hcell _ ih => exact .ds n c b off cap f hn (h b hb).1 hc (fun j hj => (h.cell hb).trans (hcell j hj)) ih
  | dp c off b k f hb hoff hcell _ ih => exact .dp c off b k f (h b hb).1 hoff (fun j hj => (h.cell hb).trans (hcell j hj)) ih
  | clo f caps g _ ih => exact .clo f caps g ih

theorem DatAt.mono (h : Ext I w I' w') {c : Cont} {b off : Nat} (hx : DatAt I w c b off) : DatAt I' w' c b off :=
  ⟨(h b hx.1).1, fun j hj => let ⟨x, h1, h2⟩ := hx.2 j hj; ⟨x, (h.cell hx.1).trans h1, h2.mono h⟩⟩

theorem CellD.of_flat {x : Cell} {v : Value} (hx : x.flat = true) (h : CellD I w x v) : v = x.val := by
  cases h <;> first | rfl | (simp [Cell.flat] at hx)

theorem CellD.ds_inv {n : Nat} {c : Cont} {v : Value} (h : CellD I w (.ds n c) v) : ∃ a cap, v = .slice a n cap ∧ n ≤ cap ∧ ((c.len = 0 ∧ n = 0) ∨ ∃ b off, a = some ⟨b, off, none⟩ ∧ DatAt I w c b off) := by
  cases h with
  | flat x hx => simp [Cell.flat] at hx
  | ds0 c a cap hc => exact ⟨a, cap, rfl, Nat.zero_le _, .inl ⟨hc, rfl⟩⟩
  | ds n c b off cap f hn hb hc hcell he => exact ⟨_, cap, rfl, hn, .inr ⟨b, off, rfl, hb, fun j hj => ⟨f j, hcell j hj, he j hj⟩⟩⟩

theorem CellD.dp_inv {off : Nat} {c : Cont} {v : Value} (h : CellD I w (.dp c off) v) : ∃ b k, v = .pointer (some ⟨b, k + off, none⟩) ∧ off < c.len ∧ DatAt I w c b k := by
  cases h with
  | flat x hx => simp [Cell.flat] at hx
  | dp c off b k f hb hoff hcell he => exact ⟨b, k, rfl, hoff, hb, fun j hj => ⟨f j, hcell j hj, he j hj⟩⟩

theorem DatAt.ds {n cap : Nat} {c : Cont} {b off : Nat} (h : DatAt I w c b off) (hn : n ≤ cap) (h0 : c.len = 0 → n = 0) : CellD I w (.ds n c) (.slice (some ⟨b, off, none⟩) n cap) := by
  by_cases hc : 0 < c.len
  · have key : ∀ j, ∃ x, j < c.len → w.cell? ⟨b, off + j, none⟩ = some x ∧ CellD I w (c.get j) x := fun j => by
      by_cases hj : j < c.len
      · obtain ⟨x, hx⟩ := h.2 j hj; exact ⟨x, fun _ => hx⟩
      · exact ⟨undef, fun h => absurd h hj⟩
    exact .ds n c b off cap (fun j => (key j).choose) hn h.1 hc (fun j hj => ((key j).choose_spec hj).1) fun j hj => ((key j).choose_spec hj).2
  · have := h0 (by omega)
    subst this
    exact .ds0 c _ cap (by omega)

theorem DatAt.dp {c : Cont} {b k off : Nat} (h : DatAt I w c b k) (ho : off < c.len) : CellD I w (.dp c off) (.pointer (some ⟨b, k + off, none⟩)) := by
  have key : ∀ j, ∃ x, j < c.len → w.cell? ⟨b, k + j, none⟩ = some x ∧ CellD I w (c.get j) x := fun j => by
    by_cases hj : j < c.len
    · obtain ⟨x, hx⟩ := h.2 j hj; exact ⟨x, fun _ => hx⟩
    · exact ⟨undef, fun h => absurd h hj⟩
  exact .dp c off b k (fun j => (key j).choose) h.1 ho (fun j hj => ((key j).choose_spec hj).1) fun j hj => ((key j).choose_spec hj).2
end

/-! ### values with names -/

def Cell.rel1 (β : Val) (I : Nat → Prop) (w : World) : Cell → Value → Prop
  | .ptr id off, v => v = .pointer (place β id off)
  | .slice id off len cap, v => len ≤ cap ∧ ∃ off', v = .slice (place β id off') len cap ∧ (off' = off ∨ cap = 0)
  | .map id, v => v = .map (β id)
  | x, v => CellD I w x v
def Cell.rel (β : Val) (I : Nat → Prop) (w : World) : Cell → Value → Prop
  | .clo f caps, v => ∃ g : Nat → Value, v = .func (.func f) #[] ((List.range caps.length).map g).toArray ∧ ∀ j, j < caps.length → (caps.getD j .nils).rel1 β I w (g j)
  | x, v => x.rel1 β I w v
def Cont.rel (β : Val) (I : Nat → Prop) (w : World) (c : Cont) (vs : List Value) : Prop :=
  vs.length = c.len ∧ ∀ j, j < c.len → ∃ v, vs[j]? = some v ∧ (c.get j).rel β I w v
def Part.rel (β : Val) (I : Nat → Prop) (w : World) : Part → Value → Prop
  | .c x, v => x.rel β I w v
  | .agg k, v => ∃ vs, v = .agg vs.toArray ∧ k.rel β I w vs
def SV.rel (β : Val) (I : Nat → Prop) (w : World) : SV → Value → Prop
  | .c x, v => x.rel β I w v
  | .agg k, v => ∃ vs, v = .agg vs.toArray ∧ k.rel β I w vs
  | .tup l, v => ∃ vs : List Value, v = .tuple vs.toArray ∧ vs.length = l.length ∧ ∀ (j : Nat) p, l[j]? = some p → ∃ u, vs[j]? = some u ∧ p.rel β I w u

section
variable {β β' : Val} {I I' : Nat → Prop} {w w' : World} {n : Nat}

theorem place_congr {id off : Nat} (h : ∀ i, i < n → β' i = β i) (hi : id < n) : place β' id off = place β id off := by simp [place, h id hi]

theorem Cell.rel1_of {x : Cell} {v : Value} (h : CellD I w x v) : x.rel1 β I w v := by
  cases x <;> first | exact h | (cases h; rename_i hx; simp [Cell.flat] at hx)
theorem Cell.clo_or (x : Cell) : (∃ f caps, x = .clo f caps) ∨ ∀ f caps, x ≠ .clo f caps := by
  cases x <;> first | exact .inl ⟨_, _, rfl⟩ | exact .inr fun _ _ => by simp
theorem Cell.rel_eq {x : Cell} (h : ∀ f caps, x ≠ .clo f caps) {v : Value} : x.rel β I w v = x.rel1 β I w v := by
  cases x <;> first | rfl | exact absurd rfl (h _ _)
theorem Cell.low_eq {x : Cell} (h : ∀ f caps, x ≠ .clo f caps) : x.low n = x.low1 n := by
  cases x <;> first | rfl | exact absurd rfl (h _ _)
theorem Cell.rel_of {x : Cell} {v : Value} (h : CellD I w x v) : x.rel β I w v := by
  rcases Cell.clo_or x with ⟨f, caps, rfl⟩ | hx
  · cases h with
    | flat x hx => simp [Cell.flat] at hx
    | clo f caps g hg => exact ⟨g, rfl, fun j hj => Cell.rel1_of (hg j hj)⟩
  · rw [Cell.rel_eq hx]; exact Cell.rel1_of h
theorem Cell.rel_flat {x : Cell} (hx : x.flat = true) {v : Value} : x.rel β I w v ↔ v = x.val := by
  constructor
  · intro h
    cases x <;> first | exact CellD.of_flat hx h | (simp [Cell.flat] at hx)
  · rintro rfl; exact Cell.rel_of (.flat x hx)
theorem Cell.rel_val {x : Cell} (hx : x.flat = true) : x.rel β I w x.val := (Cell.rel_flat hx).2 rfl

theorem Cell.rel1_mono (hβ : ∀ i, i < n → β' i = β i) (hE : Ext I w I' w') {x : Cell} {v : Value} (hx : x.low1 n) (h : x.rel1 β I w v) : x.rel1 β' I' w' v := by
  cases x with
  | ptr id off => simp only [Cell.rel1] at h ⊢; rw [place_congr hβ hx]; exact h
  | slice id off len cap =>
    obtain ⟨h1, off', h2, h3⟩ := h
    exact ⟨h1, off', by rw [place_congr hβ hx]; exact h2, h3⟩
  | map id => simp only [Cell.rel1] at h ⊢; rw [hβ id hx]; exact h
  | _ => exact CellD.mono hE h
theorem getD_mem {α : Type} {l : List α} {j : Nat} {d : α} (h : j < l.length) : l.getD j d ∈ l := by
  rw [List.getD_eq_getElem?_getD, List.getElem?_eq_getElem h]; exact List.getElem_mem h
theorem Cell.rel_mono (hβ : ∀ i, i < n → β' i = β i) (hE : Ext I w I' w') {x : Cell} {v : Value} (hx : x.low n) (h : x.rel β I w v) : x.rel β' I' w' v := by
  rcases Cell.clo_or x with ⟨f, caps, rfl⟩ | hc
  · obtain ⟨g, h1, h2⟩ := h
    exact ⟨g, h1, fun j hj => Cell.rel1_mono hβ hE (hx _ (getD_mem hj)) (h2 j hj)⟩
  · rw [Cell.rel_eq hc] at h ⊢
    rw [Cell.low_eq hc] at hx
    exact Cell.rel1_mono hβ hE hx h

theorem Cont.get_low {c : Cont} (h : c.low n) (i : Nat) : (c.get i).low n := by
  cases c with
  | cells l =>
    simp only [Cont.get]
    by_cases hi : i < l.length
    · exact h _ (getD_mem hi)
    · simp only [List.getD_eq_getElem?_getD, List.getElem?_eq_none (Nat.le_of_not_lt hi), Option.getD_none]
      trivial
  | _ => trivial
theorem Cont.rel_mono (hβ : ∀ i, i < n → β' i = β i) (hE : Ext I w I' w') {c : Cont} {vs : List Value} (hc : c.low n) (h : c.rel β I w vs) : c.rel β' I' w' vs :=
  ⟨h.1, fun j hj => let ⟨v, h1, h2⟩ := h.2 j hj; ⟨v, h1, Cell.rel_mono hβ hE (Cont.get_low hc j) h2⟩⟩
theorem Part.rel_mono (hβ : ∀ i, i < n → β' i = β i) (hE : Ext I w I' w') {x : Part} {v : Value} (hx : x.low n) (h : x.rel β I w v) : x.rel β' I' w' v := by
  cases x with
  | c x => exact Cell.rel_mono (x := x) hβ hE hx h
  | agg c => obtain ⟨vs, h1, h2⟩ := h; exact ⟨vs, h1, Cont.rel_mono hβ hE hx h2⟩
theorem SV.rel_mono (hβ : ∀ i, i < n → β' i = β i) (hE : Ext I w I' w') {x : SV} {v : Value} (hx : x.low n) (h : x.rel β I w v) : x.rel β' I' w' v := by
  cases x with
  | c x => exact Cell.rel_mono (x := x) hβ hE hx h
  | agg c => obtain ⟨vs, h1, h2⟩ := h; exact ⟨vs, h1, Cont.rel_mono hβ hE hx h2⟩
  | tup l =>
    obtain ⟨vs, h1, h2, h3⟩ := h
    exact ⟨vs, h1, h2, fun j p hp => let ⟨u, hu, hr⟩ := h3 j p hp; ⟨u, hu, Part.rel_mono hβ hE (hx p (List.mem_of_getElem? hp)) hr⟩⟩

theorem Cell.low1_mono {m : Nat} (h : n ≤ m) {x : Cell} (hx : x.low1 n) : x.low1 m := by
  cases x <;> first | trivial | exact Nat.lt_of_lt_of_le hx h
theorem Cell.low_mono {m : Nat} (h : n ≤ m) {x : Cell} (hx : x.low n) : x.low m := by
  rcases Cell.clo_or x with ⟨f, caps, rfl⟩ | hc
  · exact fun y hy => Cell.low1_mono h (hx y hy)
  · rw [Cell.low_eq hc] at hx ⊢; exact Cell.low1_mono h hx
theorem Cont.low_mono {m : Nat} (h : n ≤ m) {c : Cont} (hc : c.low n) : c.low m := by
  cases c with
  | cells l => exact fun x hx => Cell.low_mono h (hc x hx)
  | _ => trivial
theorem Part.low_mono {m : Nat} (h : n ≤ m) {x : Part} (hx : x.low n) : x.low m := by
  cases x with
  | c x => exact Cell.low_mono (x := x) h hx
  | agg k => exact Cont.low_mono (c := k) h hx
theorem SV.low_mono {m : Nat} (h : n ≤ m) {x : SV} (hx : x.low n) : x.low m := by
  cases x with
  | c x => exact Cell.low_mono (x := x) h hx
  | agg k => exact Cont.low_mono (c := k) h hx
  | tup l => exact fun p hp => Part.low_mono h (hx p hp)
theorem SObj.low_mono {m : Nat} (h : n ≤ m) {o : SObj} (ho : o.low n) : o.low m := by
  cases o with
  | own t c cap => exact Cont.low_mono (c := c) h ho
  | mp t l => exact fun x hx => ⟨SV.low_mono h (ho x hx).1, SV.low_mono h (ho x hx).2⟩
theorem Cell.flat_low {x : Cell} (h : x.flat = true) : x.low n := by
  cases x <;> first | trivial | (simp [Cell.flat] at h)

/-! ### rows -/
theorem Cont.list_length (c : Cont) : c.list.length = c.len := by cases c <;> simp [Cont.list, Cont.len]
theorem Cont.list_get {c : Cont} {i : Nat} (h : i < c.len) : c.list[i]? = some (c.get i) := by
  cases c <;> simp only [Cont.len] at h <;> simp [Cont.list, Cont.get, h]
theorem Cont.vals_length (c : Cont) : c.vals.length = c.len := by simp [Cont.vals, Cont.list_length]
theorem Cont.vals_get {c : Cont} {i : Nat} (h : i < c.len) : c.vals[i]? = some (c.get i).val := by simp [Cont.vals, Cont.list_get h]
theorem allFlat_mem : ∀ {l : List Cell}, allFlat l = true → ∀ x ∈ l, x.flat = true
  | [], _, x, hx => by cases hx
  | y :: l, h, x, hx => by
    simp only [allFlat, Bool.and_eq_true] at h
    rcases List.mem_cons.1 hx with rfl | hx
    · exact h.1
    · exact allFlat_mem h.2 x hx
theorem Cont.get_flat {c : Cont} (h : c.flat = true) {j : Nat} (hj : j < c.len) : (c.get j).flat = true := by
  cases c with
  | cells l => exact allFlat_mem h _ (getD_mem hj)
  | _ => rfl
theorem Cont.rel_flat {c : Cont} (h : c.flat = true) {vs : List Value} : c.rel β I w vs ↔ vs = c.vals := by
  constructor
  · rintro ⟨h1, h2⟩
    apply List.ext_getElem?
    intro j
    by_cases hj : j < c.len
    · obtain ⟨v, hv, hr⟩ := h2 j hj
      rw [hv, Cont.vals_get hj, (Cell.rel_flat (Cont.get_flat h hj)).1 hr]
    · rw [List.getElem?_eq_none (by omega), List.getElem?_eq_none (by rw [Cont.vals_length]; omega)]
  · rintro rfl
    exact ⟨Cont.vals_length c, fun j hj => ⟨_, Cont.vals_get hj, Cell.rel_val (Cont.get_flat h hj)⟩⟩
theorem Cont.flat_low {c : Cont} (h : c.flat = true) : c.low n := by
  cases c with
  | cells l => exact fun x hx => Cell.flat_low (allFlat_mem h x hx)
  | _ => trivial
theorem SV.rel_flat {x : SV} (hx : x.flat = true) {v : Value} : x.rel β I w v ↔ v = x.val := by
  cases x with
  | c x => exact Cell.rel_flat (x := x) hx
  | agg c =>
    constructor
    · rintro ⟨vs, rfl, h⟩; rw [(Cont.rel_flat hx).1 h]; rfl
    · rintro rfl; exact ⟨_, rfl, (Cont.rel_flat hx).2 rfl⟩
  | tup l => simp [SV.flat] at hx
theorem SV.flat_low {x : SV} (h : x.flat = true) : x.low n := by
  cases x with
  | c x => exact Cell.flat_low (x := x) h
  | agg k => exact Cont.flat_low (c := k) h
  | tup l => simp [SV.flat] at h

theorem SV.ofValue_flat (v : Value) : (SV.ofValue v).flat = true := by
  unfold SV.ofValue
  split <;> first | rfl | (split <;> rfl)
theorem SV.ofValue_val (v : Value) : (SV.ofValue v).val = v := by
  unfold SV.ofValue
  split <;> try rfl
  all_goals
    split
    · rename_i h
      simp only [SV.val, Cell.val, UInt8.toNat_ofNat', UInt32.toNat_ofNat', UInt64.toNat_ofNat']
      congr 1
      omega
    · rfl

theorem Part.sv_rel {p : Part} {v : Value} (h : p.rel β I w v) : p.sv.rel β I w v := by cases p <;> exact h
theorem Part.sv_low {p : Part} (h : p.low n) : p.sv.low n := by cases p <;> exact h

theorem Cont.take_len (c : Cont) (m : Nat) : (c.take m).len = min m c.len := by cases c <;> simp [Cont.take, Cont.len]
theorem Cont.drop_len (c : Cont) (m : Nat) : (c.drop m).len = c.len - m := by cases c <;> simp [Cont.drop, Cont.len]
theorem Cont.sub_len (c : Cont) (i m : Nat) : (c.sub i m).len = min m (c.len - i) := by rw [Cont.sub, Cont.take_len, Cont.drop_len]
theorem Cont.take_get (c : Cont) {m j : Nat} (h : j < m) : (c.take m).get j = c.get j := by
  cases c <;> simp [Cont.take, Cont.get, List.getD_eq_getElem?_getD, List.getElem?_take_of_lt h]
theorem Cont.drop_get (c : Cont) (m j : Nat) : (c.drop m).get j = c.get (m + j) := by
  cases c <;> simp [Cont.drop, Cont.get, List.getD_eq_getElem?_getD]
theorem Cont.sub_get (c : Cont) {i m j : Nat} (h : j < m) : (c.sub i m).get j = c.get (i + j) := by rw [Cont.sub, Cont.take_get _ h, Cont.drop_get]
theorem Cont.take_low {c : Cont} (h : c.low n) (m : Nat) : (c.take m).low n := by
  cases c with
  | cells l => exact fun x hx => h x (List.mem_of_mem_take hx)
  | _ => trivial
theorem Cont.drop_low {c : Cont} (h : c.low n) (m : Nat) : (c.drop m).low n := by
  cases c with
  | cells l => exact fun x hx => h x (List.mem_of_mem_drop hx)
  | _ => trivial
theorem Cont.sub_low {c : Cont} (h : c.low n) (i m : Nat) : (c.sub i m).low n := Cont.take_low (Cont.drop_low h i) m
theorem Cont.rel_sub {c : Cont} {vs : List Value} (h : c.rel β I w vs) {i m : Nat} (hm : i + m ≤ c.len) : (c.sub i m).rel β I w ((vs.drop i).take m) := by
  refine ⟨by rw [Cont.sub_len, List.length_take, List.length_drop, h.1], fun j hj => ?_⟩
  rw [Cont.sub_len] at hj
  obtain ⟨v, hv, hr⟩ := h.2 (i + j) (by omega)
  exact ⟨v, by rw [List.getElem?_take_of_lt (by omega), List.getElem?_drop]; exact hv, by rw [Cont.sub_get _ (by omega)]; exact hr⟩
theorem DatAt.sub {c : Cont} {b off : Nat} (h : DatAt I w c b off) {i m : Nat} (hm : i + m ≤ c.len) : DatAt I w (c.sub i m) b (off + i) := by
  refine ⟨h.1, fun j hj => ?_⟩
  rw [Cont.sub_len] at hj
  rw [Cont.sub_get _ (by omega), Nat.add_assoc]
  exact h.2 _ (by omega)
theorem DatAt.take {c : Cont} {b off : Nat} (h : DatAt I w c b off) (m : Nat) : DatAt I w (c.take m) b off := by
  refine ⟨h.1, fun j hj => ?_⟩
  rw [Cont.take_len] at hj
  rw [Cont.take_get _ (by omega)]
  exact h.2 _ (by omega)
theorem DatAt.drop {c : Cont} {b off : Nat} (h : DatAt I w c b off) (i : Nat) : DatAt I w (c.drop i) b (off + i) := by
  refine ⟨h.1, fun j hj => ?_⟩
  rw [Cont.drop_len] at hj
  rw [Cont.drop_get, Nat.add_assoc]
  exact h.2 _ (by omega)

def SObj.Holds (β : Val) (I : Nat → Prop) (w : World) (ad : Option Nat) : SObj → Prop
  | .own t c cap => (∃ b arr, ad = some b ∧ w.heap[b]? = some (.cells arr t (0, 0)) ∧ arr.size = cap ∧ c.len ≤ cap ∧ c.rel β I w (arr.toList.take c.len)) ∨ (ad = none ∧ c.len = 0 ∧ cap = 0)
  | .mp _ l => ∃ b es ck, ad = some b ∧ w.heap[b]? = some (.map es ck) ∧ es.size = l.length ∧ ∀ (j : Nat) x, l[j]? = some x → ∃ e : MapEntry, es[j]? = some e ∧ x.1.rel β I w e.key ∧ x.2.rel β I w e.val

theorem SObj.Holds.lt {ad : Option Nat} {o : SObj} (h : o.Holds β I w ad) {b : Nat} (hb : ad = some b) : b < w.heap.size := by
  cases o with
  | own t c cap =>
    rcases h with ⟨b', arr, hb', hw, _⟩ | ⟨h, _⟩
    · rw [hb] at hb'; cases hb'
      exact (Array.getElem?_eq_some_iff.1 hw).1
    · rw [h] at hb; cases hb
  | mp t l =>
    obtain ⟨b', es, ck, hb', hw, _⟩ := h
    rw [hb] at hb'; cases hb'
    exact (Array.getElem?_eq_some_iff.1 hw).1

theorem SObj.Holds.mono {ad : Option Nat} {o : SObj} (h : o.Holds β I w ad) (hβ : ∀ i, i < n → β' i = β i) (hE : Ext I w I' w') (hl : o.low n) (hb : ∀ b, ad = some b → w'.heap[b]? = w.heap[b]?) : o.Holds β' I' w' ad := by
  cases o with
  | own t c cap =>
    rcases h with ⟨b, arr, hb', hw, hs, hc, hr⟩ | h
    · exact .inl ⟨b, arr, hb', (hb b hb').trans hw, hs, hc, Cont.rel_mono hβ hE hl hr⟩
    · exact .inr h
  | mp t l =>
    obtain ⟨b, es, ck, hb', hw, hs, hr⟩ := h
    exact ⟨b, es, ck, hb', (hb b hb').trans hw, hs, fun j x hx => let ⟨e, he, h1, h2⟩ := hr j x hx; ⟨e, he, SV.rel_mono hβ hE (hl x (List.mem_of_getElem? hx)).1 h1, SV.rel_mono hβ hE (hl x (List.mem_of_getElem? hx)).2 h2⟩⟩

theorem SObj.Holds.cell {ad : Option Nat} {t : TypeId} {c : Cont} {cap : Nat} (h : (SObj.own t c cap).Holds β I w ad) {j : Nat} (hj : j < c.len) : ∃ b x, ad = some b ∧ w.cell? ⟨b, j, none⟩ = some x ∧ (c.get j).rel β I w x := by
  rcases h with ⟨b, arr, hb, hw, hs, hc, hr⟩ | ⟨_, h0, _⟩
  · obtain ⟨v, hv, hrv⟩ := hr.2 j hj
    refine ⟨b, v, hb, ?_, hrv⟩
    rw [cell_of_row w b j arr t (0, 0) hw]
    rw [List.getElem?_take_of_lt hj] at hv
    simpa using hv
  · omega
end

/-! ### the heap of names -/

/-- The call: which old blocks it may write, the world that it began in, the blocks that nobody writes while it runs. -/
structure CC where
  F : Nat → Prop
  w0 : World
  I0 : Nat → Prop
  β0 : Val := fun _ => none
  n0 : Nat := 0
  D : List Deferred := []

structure HeapOK (C : CC) (β : Val) (n : Nat) (H : Heap) (I : Nat → Prop) (w : World) : Prop where
  os : w.os = C.w0.os
  tape : w.tape = C.w0.tape
  output : w.output = C.w0.output
  size : C.w0.heap.size ≤ w.heap.size
  frame : ∀ k, k < C.w0.heap.size → ¬ C.F k → w.heap[k]? = C.w0.heap[k]?
  holds : ∀ id o, H.get id = some o → o.Holds β I w (β id)
  low : ∀ id o, H.get id = some o → id < n ∧ o.low n
  fresh : ∀ id o, H.get id = some o → ∀ b, β id = some b → C.w0.heap.size ≤ b ∨ C.F b
  sep : ∀ i j oi oj, i ≠ j → H.get i = some oi → H.get j = some oj → ∀ b, β i = some b → β j = some b → False
  off : ∀ id o, H.get id = some o → ∀ b, β id = some b → ¬ I b
  ilt : ∀ b, I b → b < w.heap.size
  i0 : ∀ b, I b → C.I0 b ∨ C.w0.heap.size ≤ b ∨ C.F b
  base : ∀ b, C.I0 b → I b

structure EnvOK (D : List Deferred) (β : Val) (n : Nat) (I : Nat → Prop) (w : World) (E : Env) (a : Act) : Prop where
  defers : a.defers = D
  slot : ∀ i v, E.get i = some v → ∃ x, a.tmps[i]? = some x ∧ v.rel β I w x
  low : ∀ i v, E.get i = some v → v.low n

/-- The package-level variables that are known data. -/
def GlobOK (glob : Nat → Option Cont) (I : Nat → Prop) (w : World) : Prop := ∀ g c, glob g = some c → CellD I w (.dp c 0) (.pointer (some ⟨g, 0, none⟩))

/-- Nothing that the world held has turned: new blocks, draws. -/
abbrev Same (w w' : World) : Prop := Below w.heap.size w w'

section
variable {C : CC} {β β' : Val} {n : Nat} {H : Heap} {I I' : Nat → Prop} {w w' : World} {E : Env} {a : Act} {glob : Nat → Option Cont}

theorem HeapOK.ext (h : HeapOK C β n H I w) (hb : Same w w') : Ext I w I w' := fun b hI => ⟨hI, hb.block b (h.ilt b hI)⟩
theorem GlobOK.mono (h : GlobOK glob I w) (hE : Ext I w I' w') : GlobOK glob I' w' := fun g c hg => (h g c hg).mono hE

theorem HeapOK.later (h : HeapOK C β n H I w) (hb : Same w w') : HeapOK C β n H I w' := by
  refine ⟨hb.os.trans h.os, hb.tape.trans h.tape, hb.output.trans h.output, Nat.le_trans h.size hb.size, fun k hk hf => ?_, fun id o ho => ?_, h.low, h.fresh, h.sep, h.off, fun b hI => Nat.lt_of_lt_of_le (h.ilt b hI) hb.size, h.i0, h.base⟩
  · rw [hb.block k (Nat.lt_of_lt_of_le hk h.size)]; exact h.frame k hk hf
  · exact (h.holds id o ho).mono (n := n) (fun _ _ => rfl) (h.ext hb) (h.low id o ho).2 fun b hu => hb.block b ((h.holds id o ho).lt hu)

/-- More blocks that nobody writes. -/
theorem HeapOK.widen (h : HeapOK C β n H I w) (hi : ∀ b, I b → I' b) (hlt : ∀ b, I' b → b < w.heap.size) (hoff : ∀ id o, H.get id = some o → ∀ b, β id = some b → ¬ I' b) (h0 : ∀ b, I' b → C.I0 b ∨ C.w0.heap.size ≤ b ∨ C.F b) : HeapOK C β n H I' w :=
  ⟨h.os, h.tape, h.output, h.size, h.frame, fun id o ho => (h.holds id o ho).mono (n := n) (fun _ _ => rfl) (Ext.widen hi) (h.low id o ho).2 fun _ _ => rfl, h.low, h.fresh, h.sep, hoff, hlt, h0, fun b hb => hi b (h.base b hb)⟩

theorem EnvOK.mono {D : List Deferred} (h : EnvOK D β n I w E a) (hβ : ∀ i, i < n → β' i = β i) (hE : Ext I w I' w') {m : Nat} (hm : n ≤ m) : EnvOK D β' m I' w' E a :=
  ⟨h.defers, fun i v hv => let ⟨x, h1, h2⟩ := h.slot i v hv; ⟨x, h1, SV.rel_mono hβ hE (h.low i v hv) h2⟩, fun i v hv => SV.low_mono hm (h.low i v hv)⟩

theorem Env.get_put (E : Env) (d : Option Nat) (v : SV) (i : Nat) : (E.put d v).get i = if d = some i then some v else E.get i := by
  cases d with
  | none => simp [Env.put]
  | some d => simp only [Env.put, Env.get, Option.some.injEq]
theorem Heap.get_cons (id : Nat) (o : SObj) (H : Heap) (i : Nat) : Heap.get ((id, o) :: H) i = if id = i then some o else H.get i := rfl
theorem Heap.get_del (H : Heap) (i j : Nat) : (H.del i).get j = if i = j then none else H.get j := by
  induction H with
  | nil => simp [Heap.del, Heap.get]
  | cons x H ih =>
    obtain ⟨k, o⟩ := x
    by_cases hki : k = i
    · subst hki
      simp only [Heap.del, if_true, ih, Heap.get]
      split <;> simp_all
    · simp only [Heap.del, if_neg hki, Heap.get, ih]
      by_cases hkj : k = j
      · subst hkj; simp [Ne.symm hki]
      · simp [hkj]
end

/-- What is known of the types is so. -/
structure TyOK (P : Program) (ty : Nat → Ty) : Prop where
  int : ∀ t k, ty t = .int k → P.underlying t = some (.int k)
  bool : ∀ t, ty t = .bool → P.underlying t = some .bool
  str : ∀ t, ty t = .str → P.underlying t = some .string
  slice : ∀ t e s b, ty t = .slice e s b → P.underlying t = some (.slice e) ∧ (P.info? e).map (·.size) = some s ∧
    ∃ z, (P.info? e).map (fun i => (i.zero, i.size, i.bytes)) = some (some z, s, b) ∧ z.cells.size = s ∧ 0 < s
  arr : ∀ t n e s z, ty t = .arr n e s z → P.underlying t = some (.array n e) ∧ (P.info? e).map (·.size) = some s ∧ z.len = n * s
  struct : ∀ t fs n z, ty t = .struct fs n z → (∃ fields : Array Field, P.underlying t = some (.struct fields) ∧ fields.toList.map (fun f => (f.offset, f.type)) = fs.map (fun f => (f.1, f.2.2)) ∧ ∀ f ∈ fs, (P.info? f.2.2).map (·.size) = some f.2.1) ∧ z.len = n
  ptr : ∀ t, ty t = .ptr → ∃ e, P.underlying t = some (.pointer e)
  func : ∀ t, ty t = .func → ∃ a b c, P.underlying t = some (.func a b c)
  map : ∀ t k e, ty t = .map k e → P.underlying t = some (.map k e)
  size : ∀ t, ty t ≠ .other → (P.info? t).map (·.size) = some (ty t).size
  zero : ∀ t z, zeroC (ty t) = some z → ∃ v, (P.info? t).bind (·.zero) = some v ∧ v.cells = z.vals.toArray ∧ z.flat = true
  zeroV : ∀ t z, zeroC (ty t) = some z → (P.info? t).bind (·.zero) = some (if (ty t).one then (z.get 0).val else .agg z.vals.toArray)
end Go.Ab
