/- Code over the symbolic state: sequences, tests, blocks, loops; other names, rows that become data; the end of a function; contracts out of walks. -/
import Derived.Test.YtpfncffapgkjaaaDoorAb11
import Derived.Scope
namespace Go.Ab
set_option linter.unusedVariables false
open Go.RowKit

/-! ### a state taken as another: other names, own rows as data -/

/-- An own slice's cells as data. -/
def sliceD (ty : Nat → Ty) (H : Heap) (is : List Nat) (id off len n : Nat) (k : Cont) : Prop :=
  id ∈ is ∧ match H.get id with
    | some (.own t c _) => c.isD ∧ off + len * (ty t).size ≤ c.len ∧ 0 < (ty t).size ∧ len = n ∧ k = (if off = 0 ∧ c.len = len * (ty t).size then c else c.sub off (len * (ty t).size))
    | _ => False
def ptrD (H : Heap) (is : List Nat) (id off off' : Nat) (k : Cont) : Prop :=
  id ∈ is ∧ match H.get id with
    | some (.own _ c _) => c.isD ∧ off < c.len ∧ off = off' ∧ k = c
    | _ => False

def Cell.to1 (ty : Nat → Ty) (H : Heap) (is : List Nat) (ρ : Nat → Nat) : Cell → Cell → Prop
  | .int k n, .int k' n' => k = k' ∧ n = n'
  | .bool b, .bool b' => b = b'
  | .u8 x, .u8 x' => x = x'
  | .u32 x, .u32 x' => x = x'
  | .u64 x, .u64 x' => x = x'
  | .str s, .str s' => s = s'
  | .nils, .nils => True
  | .raw v, .raw v' => v = v'
  | .ds n c, .ds n' c' => n = n' ∧ c = c'
  | .nils, .ds n' c' => n' = 0 ∧ c'.len = 0
  | .slice id off len _, .ds n' c' => sliceD ty H is id off len n' c'
  | .dp c off, .dp c' off' => c = c' ∧ off = off'
  | .ptr id off, .dp c' off' => ptrD H is id off off' c'
  | .ptr id off, .ptr id' off' => id = ρ id' ∧ off = off'
  | .slice id off len cap, .slice id' off' len' cap' => id = ρ id' ∧ off = off' ∧ len = len' ∧ cap = cap'
  | .map id, .map id' => id = ρ id'
  | _, _ => False
def allTo (f : Cell → Cell → Prop) : List Cell → List Cell → Prop
  | [], [] => True
  | x :: l, y :: m => f x y ∧ allTo f l m
  | _, _ => False
def Cell.to (ty : Nat → Ty) (H : Heap) (is : List Nat) (ρ : Nat → Nat) : Cell → Cell → Prop
  | .clo f caps, .clo f' caps' => f = f' ∧ allTo (Cell.to1 ty H is ρ) caps caps'
  | x, y => x.to1 ty H is ρ y
/-- The same typed content; or cells, one by one. -/
def Cont.to (ty : Nat → Ty) (H : Heap) (is : List Nat) (ρ : Nat → Nat) : Cont → Cont → Prop
  | .u8s l, .u8s l' => l = l'
  | .u32s l, .u32s l' => l = l'
  | .u64s l, .u64s l' => l = l'
  | .ints k l, .ints k' l' => k = k' ∧ l = l'
  | .bools l, .bools l' => l = l'
  | .cells l, .cells l' => allTo (Cell.to ty H is ρ) l l'
  | .cells l, .u8s l' => l = l'.map .u8
  | .cells l, .bools l' => l = l'.map .bool
  | .cells l, .ints k l' => l = l'.map (.int k)
  | .u8s l, .cells l' => l.map .u8 = l'
  | .bools l, .cells l' => l.map .bool = l'
  | .ints k l, .cells l' => l.map (.int k) = l'
  | _, _ => False
def Part.to (ty : Nat → Ty) (H : Heap) (is : List Nat) (ρ : Nat → Nat) : Part → Part → Prop
  | .c x, .c y => x.to ty H is ρ y
  | .agg k, .agg k' => k.to ty H is ρ k'
  | _, _ => False
def partsTo (f : Part → Part → Prop) : List Part → List Part → Prop
  | [], [] => True
  | x :: l, y :: m => f x y ∧ partsTo f l m
  | _, _ => False
def SV.to (ty : Nat → Ty) (H : Heap) (is : List Nat) (ρ : Nat → Nat) : SV → SV → Prop
  | .c x, .c y => x.to ty H is ρ y
  | .agg k, .agg k' => k.to ty H is ρ k'
  | .tup l, .tup l' => partsTo (Part.to ty H is ρ) l l'
  | _, _ => False
def SObj.to (ty : Nat → Ty) (H : Heap) (is : List Nat) (ρ : Nat → Nat) : SObj → SObj → Prop
  | .own t c cap, .own t' c' cap' => t = t' ∧ cap = cap' ∧ c.to ty H is ρ c'
  | .mp t l, .mp t' l' => t = t' ∧ l = l' ∧ ∀ x ∈ l, x.1.flat = true ∧ x.2.flat = true
  | _, _ => False

def Env.le (ty : Nat → Ty) (H : Heap) (is : List Nat) (ρ : Nat → Nat) (E : Env) : Env → Prop
  | [] => True
  | (s, v) :: E' => onV (E.get s) (fun u => u.to ty H is ρ v) ∧ Env.le ty H is ρ E E'
def Heap.le (ty : Nat → Ty) (H : Heap) (is : List Nat) (ρ : Nat → Nat) : Heap → Prop
  | [] => True
  | (id, o) :: H' => ((ρ id ∉ is) ∧ match H.get (ρ id) with | some u => u.to ty H is ρ o | none => False) ∧ Heap.le ty H is ρ H'
def Env.low (n : Nat) : Env → Prop
  | [] => True
  | (_, v) :: E' => v.low n ∧ Env.low n E'
def Heap.low (n : Nat) : Heap → Prop
  | [] => True
  | (id, o) :: H' => (id < n ∧ o.low n) ∧ Heap.low n H'

theorem Env.low_get {n : Nat} : ∀ {E : Env}, Env.low n E → ∀ {s v}, E.get s = some v → v.low n
  | [], _, s, v, h => by cases h
  | (s', v') :: E', h, s, v, hg => by
    simp only [Env.get] at hg
    split at hg
    · cases hg; exact h.1
    · exact Env.low_get h.2 hg
theorem Heap.low_get {n : Nat} : ∀ {H : Heap}, Heap.low n H → ∀ {s o}, H.get s = some o → s < n ∧ o.low n
  | [], _, s, v, h => by cases h
  | (s', v') :: E', h, s, v, hg => by
    simp only [Heap.get] at hg
    split at hg
    · rename_i e; cases hg; subst e; exact h.1
    · exact Heap.low_get h.2 hg
theorem Env.le_get {ty : Nat → Ty} {H : Heap} {is : List Nat} {ρ : Nat → Nat} {E : Env} : ∀ {E' : Env}, Env.le ty H is ρ E E' → ∀ {s v}, E'.get s = some v → ∃ u, E.get s = some u ∧ u.to ty H is ρ v
  | [], _, s, v, h => by cases h
  | (s', v') :: E', h, s, v, hg => by
    simp only [Env.get] at hg
    split at hg
    · rename_i e; cases hg; subst e
      have h1 := h.1
      unfold onV at h1
      split at h1
      · rename_i u hu; exact ⟨u, hu, h1⟩
      · exact h1.elim
    · exact Env.le_get h.2 hg
theorem Heap.le_get {ty : Nat → Ty} {H : Heap} {is : List Nat} {ρ : Nat → Nat} : ∀ {H' : Heap}, Heap.le ty H is ρ H' → ∀ {s o}, H'.get s = some o → ρ s ∉ is ∧ ∃ u, H.get (ρ s) = some u ∧ u.to ty H is ρ o
  | [], _, s, v, h => by cases h
  | (s', v') :: E', h, s, v, hg => by
    simp only [Heap.get] at hg
    split at hg
    · rename_i e; cases hg; subst e
      have h1 := h.1
      refine ⟨h1.1, ?_⟩
      have h2 := h1.2
      split at h2
      · rename_i u hu; exact ⟨u, hu, h2⟩
      · exact h2.elim
    · exact Heap.le_get h.2 hg
theorem Heap.get_mem : ∀ {H : Heap} {s o}, H.get s = some o → s ∈ H.map (·.1)
  | [], s, o, h => by cases h
  | (s', v') :: E', s, o, hg => by
    simp only [Heap.get] at hg
    split at hg
    · rename_i e; subst e; simp
    · exact List.mem_cons_of_mem _ (Heap.get_mem hg)
theorem nodup_map_inj {ρ : Nat → Nat} : ∀ {l : List Nat}, (l.map ρ).Nodup → ∀ i ∈ l, ∀ j ∈ l, ρ i = ρ j → i = j
  | [], _, i, hi, _, _, _ => by cases hi
  | x :: l, h, i, hi, j, hj, e => by
    simp only [List.map_cons, List.nodup_cons] at h
    obtain ⟨h1, h2⟩ := h
    rcases List.mem_cons.1 hi with hi' | hi'
    · rcases List.mem_cons.1 hj with hj' | hj'
      · rw [hi', hj']
      · rw [hi'] at e
        exact absurd (show ρ x ∈ l.map ρ from List.mem_map.2 ⟨j, hj', e.symm⟩) h1
    · rcases List.mem_cons.1 hj with hj' | hj'
      · rw [hj'] at e
        exact absurd (show ρ x ∈ l.map ρ from List.mem_map.2 ⟨i, hi', e⟩) h1
      · exact nodup_map_inj h2 i hi' j hj' e

/-- The state E H may be taken as the state E' H' (fewer slots and rows; the rows 'is' as data; the rows' names turned by ρ). -/
structure Le (Γ : Ctx) (C : CC) (is : List Nat) (ρ : Nat → Nat) (E : Env) (H : Heap) (E' : Env) (H' : Heap) (n' : Nat) : Prop where
  env : Env.le Γ.ty H is ρ E E'
  heap : Heap.le Γ.ty H is ρ H'
  inj : ((H'.map (·.1)).map ρ).Nodup
  elow : Env.low n' E'
  hlow : Heap.low n' H'
  anch : C.n0 ≤ n' ∧ ∀ i, i < C.n0 → ρ i = i

section
variable {Γ : Ctx} {N : Nat} {C : CC} {β : Val} {n : Nat} {E : Env} {H : Heap} {I : Nat → Prop} {a : Act} {w : World} {ty : Nat → Ty} {is : List Nat} {ρ : Nat → Nat}

theorem allTo_get {f : Cell → Cell → Prop} : ∀ {l m : List Cell}, allTo f l m → l.length = m.length ∧ ∀ j, j < l.length → f (l.getD j .nils) (m.getD j .nils)
  | [], [], _ => ⟨rfl, fun j hj => absurd hj (Nat.not_lt_zero j)⟩
  | x :: l, y :: m, h => by
    obtain ⟨h1, h2⟩ := allTo_get h.2
    refine ⟨by simp [h1], fun j hj => ?_⟩
    cases j with
    | zero => exact h.1
    | succ j => have := h2 j (by simp at hj; omega); simpa using this
  | [], _ :: _, h => h.elim
  | _ :: _, [], h => h.elim

theorem to1_sound (hH : HeapOK C β n H I w) {x y : Cell} (hxl : x.low1 n) {v : Value} (hx : x.rel1 β I w v) (h : x.to1 ty H is ρ y) : y.rel1 (fun i => β (ρ i)) (withRows β H is I) w v := by
  have hI : ∀ b, I b → withRows β H is I b := fun b h => .inl h
  unfold Cell.to1 at h
  split at h
  · obtain ⟨rfl, rfl⟩ := h; exact CellD.mono (Ext.widen hI) hx
  · subst h; exact CellD.mono (Ext.widen hI) hx
  · subst h; exact CellD.mono (Ext.widen hI) hx
  · subst h; exact CellD.mono (Ext.widen hI) hx
  · subst h; exact CellD.mono (Ext.widen hI) hx
  · subst h; exact CellD.mono (Ext.widen hI) hx
  · exact CellD.mono (Ext.widen hI) hx
  · subst h; exact CellD.mono (Ext.widen hI) hx
  · obtain ⟨rfl, rfl⟩ := h; exact CellD.mono (Ext.widen hI) hx
  · obtain ⟨rfl, h0⟩ := h
    have : v = Cell.nils.val := CellD.of_flat rfl hx
    rw [this]
    exact CellD.ds0 _ none 0 h0
  · rename_i id off len cap n' c'
    obtain ⟨hid', h⟩ := h
    split at h
    · rename_i t c capc hid
      obtain ⟨hd, hle, hs, rfl, rfl⟩ := h
      obtain ⟨u, hu, hr, _, _⟩ := viewC_sound (ty := ty) (is := is) hH (x := .slice id off len cap) hxl (fun _ _ => by simp) (fun i hi => by simp [Cell.ids] at hi; rw [hi]; exact hid') (v := v) hx (K := fun y => y = .ds len (if off = 0 ∧ c.len = len * (ty t).size then c else c.sub off (len * (ty t).size))) (by
        unfold viewC; simp only [hid]; refine ⟨hd, fun h => by simp [h], hle, hs, ?_⟩; unfold wholeS; split <;> simp_all)
      subst hu
      exact hr
    · exact h.elim
  · obtain ⟨rfl, rfl⟩ := h; exact CellD.mono (Ext.widen hI) hx
  · rename_i id off c' off'
    obtain ⟨hid', h⟩ := h
    split at h
    · rename_i t c capc hid
      obtain ⟨hd, hle, rfl, rfl⟩ := h
      obtain ⟨u, hu, hr, _, _⟩ := viewC_sound (ty := ty) (is := is) hH (x := .ptr id off) hxl (fun _ _ => by simp) (fun i hi => by simp [Cell.ids] at hi; rw [hi]; exact hid') (v := v) hx (K := fun y => y = .dp c' off) (by
        unfold viewC; simp only [hid]; exact ⟨hd, hle, trivial⟩)
      subst hu
      exact hr
    · exact h.elim
  · obtain ⟨rfl, rfl⟩ := h; exact hx
  · obtain ⟨rfl, rfl, rfl, rfl⟩ := h; exact hx
  · subst h; exact hx
  · exact h.elim

theorem to_sound (hH : HeapOK C β n H I w) {x y : Cell} (hxl : x.low n) {v : Value} (hx : x.rel β I w v) (h : x.to ty H is ρ y) : y.rel (fun i => β (ρ i)) (withRows β H is I) w v := by
  unfold Cell.to at h
  split at h
  · obtain ⟨rfl, h⟩ := h
    obtain ⟨h1, h2⟩ := allTo_get h
    obtain ⟨g, rfl, hg⟩ := hx
    exact ⟨g, by rw [h1], fun j hj => to1_sound hH (hxl _ (getD_mem (by omega))) (hg j (by omega)) (h2 j (by omega))⟩
  · rename_i hne
    have hxc : ∀ f l, x ≠ .clo f l := by
      rintro f l rfl
      cases y <;> first | exact h | exact hne _ _ _ _ rfl rfl
    have hyc : ∀ f l, y ≠ .clo f l := by
      rintro f l rfl
      cases x <;> first | exact h | exact hne _ _ _ _ rfl rfl
    rw [Cell.rel_eq hxc] at hx
    rw [Cell.rel_eq hyc]
    rw [Cell.low_eq hxc] at hxl
    exact to1_sound hH hxl hx h

theorem rel_list {l : List Cell} {vs : List Value} : (Cont.cells l).rel β I w vs ↔ vs.length = l.length ∧ ∀ j, j < l.length → ∃ v, vs[j]? = some v ∧ (l.getD j .nils).rel β I w v := Iff.rfl
theorem rel_as_list {c : Cont} {vs : List Value} : c.rel β I w vs ↔ (Cont.cells c.list).rel β I w vs := by
  have hl := Cont.list_length c
  constructor
  · rintro ⟨h1, h2⟩
    exact ⟨by rw [h1]; exact hl.symm, fun j hj => by
      obtain ⟨v, hv, hr⟩ := h2 j (by simp only [Cont.len] at hj; omega)
      exact ⟨v, hv, by rw [show (Cont.cells c.list).get j = c.list.getD j .nils from rfl, Cont.list_getD _ (by simp only [Cont.len] at hj; omega)]; exact hr⟩⟩
  · rintro ⟨h1, h2⟩
    exact ⟨by rw [h1]; exact hl, fun j hj => by
      obtain ⟨v, hv, hr⟩ := h2 j (by simp only [Cont.len]; omega)
      exact ⟨v, hv, by rw [show (Cont.cells c.list).get j = c.list.getD j .nils from rfl, Cont.list_getD _ hj] at hr; exact hr⟩⟩
theorem flat_any {c : Cont} (hf : c.flat = true) {β' : Val} {I' : Nat → Prop} {vs : List Value} (h : c.rel β I w vs) : c.rel β' I' w vs := (Cont.rel_flat hf).2 ((Cont.rel_flat hf).1 h)

theorem contTo_sound (hH : HeapOK C β n H I w) {c d : Cont} (hcl : c.low n) {vs : List Value} (hx : c.rel β I w vs) (h : c.to ty H is ρ d) : d.rel (fun i => β (ρ i)) (withRows β H is I) w vs := by
  have asL : ∀ c d : Cont, c.list = d.list → c.rel β I w vs → d.rel β I w vs := fun c d e h => by
    rw [rel_as_list] at h ⊢; rw [← e]; exact h
  unfold Cont.to at h
  split at h
  · subst h; exact flat_any rfl hx
  · subst h; exact flat_any rfl hx
  · subst h; exact flat_any rfl hx
  · obtain ⟨rfl, rfl⟩ := h; exact flat_any rfl hx
  · subst h; exact flat_any rfl hx
  · obtain ⟨h1, h2⟩ := allTo_get h
    refine ⟨by rw [hx.1]; exact h1, fun j hj => ?_⟩
    simp only [Cont.len] at hj
    obtain ⟨v, hv, hr⟩ := hx.2 j (by simp only [Cont.len]; omega)
    exact ⟨v, hv, to_sound hH (hcl _ (getD_mem (by omega))) hr (h2 j (by omega))⟩
  · exact flat_any rfl (asL _ (.u8s _) (by simpa [Cont.list] using h) hx)
  · exact flat_any rfl (asL _ (.bools _) (by simpa [Cont.list] using h) hx)
  · exact flat_any rfl (asL _ (.ints _ _) (by simpa [Cont.list] using h) hx)
  · have h0 := flat_any (β' := fun i => β (ρ i)) (I' := withRows β H is I) rfl hx
    rw [rel_as_list] at h0; rw [← h]; exact h0
  · have h0 := flat_any (β' := fun i => β (ρ i)) (I' := withRows β H is I) rfl hx
    rw [rel_as_list] at h0; rw [← h]; exact h0
  · have h0 := flat_any (β' := fun i => β (ρ i)) (I' := withRows β H is I) rfl hx
    rw [rel_as_list] at h0; rw [← h]; exact h0
  · exact h.elim

theorem partsTo_get {f : Part → Part → Prop} : ∀ {l m : List Part}, partsTo f l m → l.length = m.length ∧ ∀ (j : Nat) y, m[j]? = some y → ∃ x, l[j]? = some x ∧ f x y
  | [], [], _ => ⟨rfl, fun j y hj => by simp at hj⟩
  | x :: l, y :: m, h => by
    obtain ⟨h1, h2⟩ := partsTo_get h.2
    refine ⟨by simp [h1], fun j z hj => ?_⟩
    cases j with
    | zero => simp at hj; subst hj; exact ⟨x, rfl, h.1⟩
    | succ j => have := h2 j z (by simpa using hj); simpa using this
  | [], _ :: _, h => h.elim
  | _ :: _, [], h => h.elim

theorem svTo_sound (hH : HeapOK C β n H I w) {x y : SV} (hxl : x.low n) {v : Value} (hx : x.rel β I w v) (h : x.to ty H is ρ y) : y.rel (fun i => β (ρ i)) (withRows β H is I) w v := by
  unfold SV.to at h
  split at h
  · rename_i p q; exact to_sound (x := p) (y := q) hH hxl hx h
  · rename_i k k'
    obtain ⟨vs, rfl, hr⟩ := hx
    exact ⟨vs, rfl, contTo_sound (c := k) (d := k') hH hxl hr h⟩
  · rename_i l l'
    obtain ⟨vs, rfl, hl, hr⟩ := hx
    obtain ⟨h1, h2⟩ := partsTo_get h
    refine ⟨vs, rfl, by omega, fun j q hq => ?_⟩
    obtain ⟨p, hp, hpq⟩ := h2 j q hq
    obtain ⟨u, hu, hru⟩ := hr j p hp
    refine ⟨u, hu, ?_⟩
    have hpl := hxl p (List.mem_of_getElem? hp)
    unfold Part.to at hpq
    split at hpq
    · rename_i a b; exact to_sound (x := a) (y := b) hH hpl hru hpq
    · rename_i k k'
      obtain ⟨vs', rfl, hr'⟩ := hru
      exact ⟨vs', rfl, contTo_sound (c := k) (d := k') hH hpl hr' hpq⟩
    · exact hpq.elim
  · exact h.elim

theorem Cont.to_len {c d : Cont} (h : c.to ty H is ρ d) : c.len = d.len := by
  unfold Cont.to at h
  split at h
  all_goals first
    | exact h.elim
    | (subst h; rfl)
    | (obtain ⟨rfl, rfl⟩ := h; rfl)
    | exact (allTo_get h).1
    | (subst h; simp [Cont.len])

theorem St.le (hS : St Γ N C β n E H I a w) {E' : Env} {H' : Heap} {n' : Nat} (h : Le Γ C is ρ E H E' H' n') : St Γ N C (fun i => β (ρ i)) n' E' H' (withRows β H is I) a w := by
  have hH := hS.heap
  have hI : ∀ b, I b → withRows β H is I b := fun b h => .inl h
  refine ⟨⟨hS.env.defers, fun i v hv => ?_, fun i v hv => Env.low_get h.elow hv⟩, hS.size, ?_, hS.glob.mono (Ext.widen hI), h.anch.1, fun i hi => ?_⟩
  · obtain ⟨u, hu, hto⟩ := Env.le_get h.env hv
    obtain ⟨x, hx, hr⟩ := hS.env.slot i u hu
    exact ⟨x, hx, svTo_sound hH (hS.env.low i u hu) hr hto⟩
  · refine ⟨hH.os, hH.tape, hH.output, hH.size, hH.frame, fun id o ho => ?_, fun id o ho => Heap.low_get h.hlow ho, fun id o ho b hb => ?_, fun i j oi oj hij hi hj b hu hv => ?_, fun id o ho b hb hI' => ?_, withRows_lt hH, fun b hb => ?_, fun b hb => .inl (hH.base b hb)⟩
    · obtain ⟨hni, u, hu, hto⟩ := Heap.le_get h.heap ho
      have hh := hH.holds _ _ hu
      have hl := (hH.low _ _ hu).2
      unfold SObj.to at hto
      split at hto
      · rename_i t c cap t' c' cap'
        obtain ⟨rfl, rfl, hto⟩ := hto
        have hlen := Cont.to_len hto
        rcases hh with ⟨b, arr, h1, h2, h3, h4, h5⟩ | ⟨h1, h2, h3⟩
        · exact .inl ⟨b, arr, h1, h2, h3, by omega, by rw [← hlen]; exact contTo_sound (c := c) hH hl h5 hto⟩
        · exact .inr ⟨h1, by omega, h3⟩
      · rename_i t l t' l'
        obtain ⟨rfl, rfl, hfl⟩ := hto
        obtain ⟨b, es, ck, h1, h2, h3, h4⟩ := hh
        exact ⟨b, es, ck, h1, h2, h3, fun j x hx => by
          obtain ⟨e, he, h5, h6⟩ := h4 j x hx
          obtain ⟨f1, f2⟩ := hfl x (List.mem_of_getElem? hx)
          exact ⟨e, he, (SV.rel_flat f1).2 ((SV.rel_flat f1).1 h5), (SV.rel_flat f2).2 ((SV.rel_flat f2).1 h6)⟩⟩
      · exact hto.elim
    · obtain ⟨_, u, hu, _⟩ := Heap.le_get h.heap ho
      exact hH.fresh _ u hu b hb
    · obtain ⟨_, ui, hui, _⟩ := Heap.le_get h.heap hi
      obtain ⟨_, uj, huj, _⟩ := Heap.le_get h.heap hj
      exact hH.sep (ρ i) (ρ j) ui uj (fun e => hij (nodup_map_inj h.inj i (Heap.get_mem hi) j (Heap.get_mem hj) e)) hui huj b hu hv
    · obtain ⟨hni, u, hu, _⟩ := Heap.le_get h.heap ho
      rcases hI' with hI' | ⟨id', o', hi', ho', hb'⟩
      · exact hH.off _ u hu b hb hI'
      · exact hH.sep (ρ id) id' u o' (fun e => hni (e ▸ hi')) hu ho' b hb hb'
    · rcases hb with hb | ⟨id', o', hi', ho', hb'⟩
      · exact hH.i0 b hb
      · exact .inr (hH.fresh id' o' ho' b hb')
  · show β (ρ i) = C.β0 i
    rw [h.anch.2 i hi]; exact hS.anch.2 i hi

/-! ### code -/
def WP (Γ : Ctx) (N : Nat) (C : CC) (c : Code) (E : Env) (H : Heap) (n : Nat) (Q : Exit → Act → World → Prop) : Prop :=
  ∀ β I a w, St Γ N C β n E H I a w → c.wp Γ.P Q a w
def Done (Γ : Ctx) (N : Nat) (C : CC) (E : Env) (H : Heap) (n : Nat) (Q : Act → World → Prop) : Prop :=
  ∀ β I a w, St Γ N C β n E H I a w → Q a w

variable {Q : Exit → Act → World → Prop}

theorem St.draw (hS : St Γ N C β n E H I a w) : St Γ N C β n E H I a { w with drawn := w.drawn + 1 } :=
  have hs : Same w { w with drawn := w.drawn + 1 } := (Below.refl _ w).drew
  ⟨hS.env.mono (fun _ _ => rfl) (hS.heap.ext hs) (Nat.le_refl _), hS.size, hS.heap.later hs, hS.glob.mono (hS.heap.ext hs), hS.anch⟩

/-- The rules with what follows behind a variable. -/
theorem region_k (hΓ : Γ.OK) {id : Nat} {l : List Oper} (h : ∀ K : Env → Heap → Nat → Prop, (∀ E H n, Done Γ N C E H n (Q .normal) → K E H n) → wpS Γ N l l E H n K) : WP Γ N C (.region id l.toArray false) E H n Q :=
  fun _ _ _ _ hS => wp_region_lit (wpS_sound hΓ l hS (h _ fun _ _ _ h => h) fun β' _ _ _ I' a' w' hK hS' => hK β' I' a' w' hS')

theorem quiet_k (hΓ : Γ.OK) {id : Nat} {l : List Oper} (hB : Region.lexB .any l.toArray = true) (h : ∀ K : Env → Prop, (∀ E, Done Γ N C E H n (Q .normal) → K E) → wpQS Γ N l l E H K) : WP Γ N C (.region id l.toArray true) E H n Q := by
  intro β I a w hS
  have hd := hS.draw
  refine wp_region_quiet (C := Same { w with drawn := w.drawn + 1 }) hΓ.mixed hB (Below.refl _ _) ?_
  exact wpQS_sound hΓ hd.glob hd.heap l hd.env hd.size (h _ fun _ h => h) fun E' a' hK hE' hN' w' hw' => hK β I a' w' ⟨hE'.mono (fun _ _ => rfl) (hd.heap.ext hw') (Nat.le_refl _), hN', hd.heap.later hw', hd.glob.mono (hd.heap.ext hw'), hd.anch⟩

theorem tail_k (hΓ : Γ.OK) {id : Nat} {l : List Oper} (k : Nat) (hB : Region.lexTailB .any l.toArray k = true) (h : ∀ K : Env → Heap → Nat → Prop, (∀ E H n, Done Γ N C E H n (Q .normal) → K E H n) → wpQS Γ N l (l.take k) E H fun E => wpS Γ N l (l.drop k) E H n K) :
    WP Γ N C (.region id l.toArray true) E H n Q := by
  intro β I a w hS
  have hd := hS.draw
  refine wp_region_quiet_tail (C := Same { w with drawn := w.drawn + 1 }) k hΓ.mixed hB (Below.refl _ _) ?_
  exact wpQS_sound hΓ hd.glob hd.heap (l.take k) hd.env hd.size (h _ fun _ _ _ h => h) fun E' a' hK hE' hN' w' hw' =>
    wpS_sound hΓ (l.drop k) ⟨hE'.mono (fun _ _ => rfl) (hd.heap.ext hw') (Nat.le_refl _), hN', hd.heap.later hw', hd.glob.mono (hd.heap.ext hw'), hd.anch⟩ hK fun β' _ _ _ I' a' w' hK hS' => hK β' I' a' w' hS'

theorem sched_k (hΓ : Γ.OK) {id : Nat} {l : List Oper} (r : List (Nat × Bool)) (hl : r.length = l.length) (hsel : Region.noSelect l.toArray = true) (hB : schedB l.toArray r (Array.replicate l.toArray.size false) = true) (h : ∀ K : Env → Heap → Nat → Prop, (∀ E H n, Done Γ N C E H n (Q .normal) → K E H n) → wpD Γ N l r E H n K) :
    WP Γ N C (.region id l.toArray true) E H n Q := by
  intro β I a w hS
  have hd := hS.draw
  refine wp_mono (Q := fun e a w => e = .normal ∧ Q .normal a w) (wp_region_any hΓ.mixed (wpAny_of_T _ _ _ _ ?_)) fun e a' w' h => by obtain ⟨rfl, h⟩ := h; exact h
  have := wpD_sound (Q := fun e a w => e = .normal ∧ Q .normal a w) hΓ hsel (fun c a a' w h => by cases h.1) r _ hB (fun m k hm _ => by simp [Array.getD] at hm) hd (h _ fun _ _ _ h => h) fun β' n' E' H' I' a' w' hK hS' => ⟨rfl, hK β' I' a' w' hS'⟩
  rw [show l.toArray.size = r.length by simp [hl]]
  rw [show (Array.replicate l.toArray.size false) = Array.replicate r.length false by simp [hl]] at this
  exact this

theorem seq_k {x y : Code} (h : ∀ K : Act → World → Prop, (∀ E H n, WP Γ N C y E H n Q → Done Γ N C E H n K) → WP Γ N C x E H n (Exit.then K Q)) : WP Γ N C (.seq x y) E H n Q :=
  fun β I a w hS => wp_seq (h (fun a w => y.wp Γ.P Q a w) (fun _ _ _ h => h) β I a w hS)

theorem WP_cond {c : Operand} {x y : Code} {b : Bool} (hc : E.ev Γ.glob c = some (.c (.bool b))) (ht : b = true → WP Γ N C x E H n Q) (hf : b = false → WP Γ N C y E H n Q) : WP Γ N C (.cond c x y) E H n Q := by
  intro β I a w hS
  have := (SV.rel_flat (x := .c (.bool b)) rfl).1 (ev_sound hS.env hS.glob hc).1
  exact wp_cond_split this (fun h => ht h β I a w hS) (fun h => hf h β I a w hS)
theorem WP_block {id : Nat} {c : Code} (h : WP Γ N C c E H n (Exit.inBlock id Q)) : WP Γ N C (.block id c) E H n Q := fun β I a w hS => wp_block (h β I a w hS)
theorem WP_skip (h : Done Γ N C E H n (Q .normal)) : WP Γ N C .skip E H n Q := fun β I a w hS => wp_skip (h β I a w hS)
theorem WP_exit {id : Nat} (h : Done Γ N C E H n (Q (.exit id))) : WP Γ N C (.exit id) E H n Q := fun β I a w hS => wp_exit (h β I a w hS)
theorem WP_ret (h : Done Γ N C E H n (Q .ret)) : WP Γ N C .ret E H n Q := fun β I a w hS => wp_ret (h β I a w hS)
theorem Done_hit {id : Nat} (h : Done Γ N C E H n (Q .normal)) : Done Γ N C E H n (Exit.inBlock id Q (.exit id)) := fun β I a w hS => by
  simpa [Exit.inBlock] using h β I a w hS
theorem Done_miss {id id' : Nat} (hne : id' ≠ id) (h : Done Γ N C E H n (Q (.exit id'))) : Done Γ N C E H n (Exit.inBlock id Q (.exit id')) := fun β I a w hS => by
  simpa [Exit.inBlock, hne] using h β I a w hS
theorem done_then {K : Act → World → Prop} (h : Done Γ N C E H n K) : Done Γ N C E H n (Exit.then K Q .normal) := h
theorem done_block {id : Nat} (h : Done Γ N C E H n (Q .normal)) : Done Γ N C E H n (Exit.inBlock id Q .normal) := h
theorem done_thenx {K : Act → World → Prop} {id : Nat} (h : Done Γ N C E H n (Q (.exit id))) : Done Γ N C E H n (Exit.then K Q (.exit id)) := h

/-- Some state of a family. -/
def Some' (Γ : Ctx) (N : Nat) (C : CC) {α : Type} (E' : α → Env) (H' : α → Heap) (n' : Nat) (J : α → Prop) (a : Act) (w : World) : Prop :=
  ∃ x β' I', J x ∧ St Γ N C β' n' (E' x) (H' x) I' a w

theorem Done_some {α : Type} {E' : α → Env} {H' : α → Heap} {n' : Nat} {J : α → Prop} (is : List Nat) (ρ : Nat → Nat) (x : α) (hJ : J x) (hle : Le Γ C is ρ E H (E' x) (H' x) n') : Done Γ N C E H n (Some' Γ N C E' H' n' J) :=
  fun _ _ _ _ hS => ⟨x, _, _, hJ, hS.le hle⟩
/-- The state is taken as another one, here and now. -/
theorem WP_le {c : Code} {E' : Env} {H' : Heap} {n' : Nat} (is : List Nat) (ρ : Nat → Nat) (hle : Le Γ C is ρ E H E' H' n') (h : WP Γ N C c E' H' n' Q) : WP Γ N C c E H n Q :=
  fun _ _ a w hS => h _ _ a w (hS.le hle)

theorem WP_loop {α : Type} {body : Code} (E' : α → Env) (H' : α → Heap) (n' : Nat) (J : α → Prop) (μ : α → Nat) (hs : Done Γ N C E H n (Some' Γ N C E' H' n' J))
    (round : ∀ x, J x → WP Γ N C body (E' x) (H' x) n' (Exit.then (Some' Γ N C E' H' n' fun x' => J x' ∧ μ x' < μ x) Q)) : WP Γ N C (.loop body) E H n Q := by
  intro β I a w hS b k cs
  have key : ∀ m x β I a w, μ x = m → J x → St Γ N C β n' (E' x) (H' x) I a w →
      ∃ e a' w', Q e a' w' ∧ Arrives Γ.P (lone (b.at a (.code body :: .inLoop body :: k)) cs w) b k cs e a' w' := by
    intro m
    induction m using Nat.strongRecOn with
    | _ m ih =>
      intro x β I a w hm hJ hS
      obtain ⟨e, a₁, w₁, hq, harr⟩ := round x hJ β I a w hS b (.inLoop body :: k) cs
      cases e with
      | normal =>
        obtain ⟨x', β', I', ⟨hJ', hlt⟩, hS'⟩ := hq
        obtain ⟨e₂, a₂, w₂, hq₂, harr₂⟩ := ih (μ x') (hm ▸ hlt) x' β' I' a₁ w₁ rfl hJ' hS'
        exact ⟨e₂, a₂, w₂, hq₂, .of_steps (Steps.trans harr (.one step_inLoop)) harr₂⟩
      | exit id => exact ⟨_, a₁, w₁, hq, .pass (x := .inLoop body) rfl (fun _ _ => .inl (by simp)) harr⟩
      | goto l => exact ⟨_, a₁, w₁, hq, .pass (x := .inLoop body) rfl (fun _ _ => .inl (by simp)) harr⟩
      | ret => exact ⟨_, a₁, w₁, hq, .pass (x := .inLoop body) rfl (fun _ _ => .inl (by simp)) harr⟩
      | panic ch => exact ⟨_, a₁, w₁, hq, .pass (x := .inLoop body) rfl (fun _ _ => .inl (by simp)) harr⟩
      | outgrown => exact ⟨_, a₁, w₁, hq, .pass (x := .inLoop body) rfl (fun _ _ => .inl (by simp)) harr⟩
  obtain ⟨x, β', I', hJ, hS'⟩ := hs β I a w hS
  obtain ⟨e, a', w', hq, harr⟩ := key _ x β' I' a w rfl hJ hS'
  exact ⟨e, a', w', hq, .of_steps (.one step_loop) harr⟩

/-- The ways meet again. -/
theorem WP_cut {α : Type} {x y : Code} (E' : α → Env) (H' : α → Heap) (n' : Nat) (J : α → Prop) (hx : WP Γ N C x E H n (Exit.then (Some' Γ N C E' H' n' J) Q)) (hy : ∀ z, J z → WP Γ N C y (E' z) (H' z) n' Q) :
    WP Γ N C (.seq x y) E H n Q := by
  intro β I a w hS
  refine wp_seq (wp_mono (hx β I a w hS) fun e a' w' h => ?_)
  cases e with
  | normal => obtain ⟨z, β', I', hJ, hS'⟩ := h; exact hy z hJ β' I' a' w' hS'
  | _ => exact h

/-- A nil slice as an own row of no cells. -/
theorem WP_nil {c : Code} (s : Nat) (e : TypeId) (k : Cont) (hs : E.get s = some (.c .nils)) (hk : k.len = 0) (hkb : k.low n) (h : WP Γ N C c ((s, .c (.slice n 0 0 0)) :: E) ((n, .own e k 0) :: H) (n + 1) Q) : WP Γ N C c E H n Q := by
  intro β I a w hS
  have hE := hS.env.mono (upd_lt (β := β) (n := n) (x := none)) (Ext.refl I w) (Nat.le_succ n)
  refine h (upd β n none) I a w ⟨⟨hE.defers, fun i v hv => ?_, fun i v hv => ?_⟩, hS.size, hS.heap.pushNil hk hkb, hS.glob, Nat.le_succ_of_le hS.anch.1, fun i hi => ?_⟩
  · simp only [Env.get] at hv
    split at hv
    · rename_i e'; cases hv; subst e'
      obtain ⟨x, hx, hr⟩ := hS.env.slot _ _ hs
      have := (SV.rel_flat (x := .c .nils) rfl).1 hr
      subst this
      exact ⟨_, hx, Nat.le_refl _, 0, by simp [place, upd_same, SV.val, Cell.val], .inl rfl⟩
    · exact hE.slot i v hv
  · simp only [Env.get] at hv
    split at hv
    · cases hv; exact Nat.lt_succ_self n
    · exact hE.low i v hv
  · rw [upd_lt i (Nat.lt_of_lt_of_le hi hS.anch.1)]; exact hS.anch.2 i hi
theorem WP_label {l : Nat} (h : Done Γ N C E H n (Q .normal)) : WP Γ N C (.label l) E H n Q := fun β I a w hS => wp_label (h β I a w hS)
theorem WP_scope {c : Code} (h : WP Γ N C c E H n (Exit.noGoto Q)) : WP Γ N C (.scope c) E H n Q := fun β I a w hS => wp_scope_straight (h β I a w hS)
theorem done_scope (h : Done Γ N C E H n (Q .normal)) : Done Γ N C E H n (Exit.noGoto Q .normal) := h
end
end Go.Ab
