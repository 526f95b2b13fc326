/- Called functions by their contracts; one operation. -/
import Derived.Test.YtpfncffapgkjaaaDoorAb8
namespace Go.Ab
set_option linter.unusedVariables false
open Go.RowKit

def Enters (P : Program) (f : FuncId) : Prop := ∀ args w, (callFunc f args).run P w = .ok (.enter f args) w
theorem enters_mk {P : Program} {f : FuncId} {fn : Func} (hf : P.funcs[f]? = some fn) (hn : (fn.name == "runtime.NumGoroutine") = false) (hb : fn.body.isNone = false) : Enters P f := fun args w => by
  have h1 : ¬ (fn.name = "runtime.NumGoroutine") := by simpa using hn
  have h2 : ¬ (fn.body = none) := by intro e; simp [e] at hb
  simp [callFunc, hf, h1, h2]

/-- Nothing that was there has turned; more blocks that nobody writes, all of them new. -/
structure GrowI (I : Nat → Prop) (w : World) (I' : Nat → Prop) (w' : World) : Prop where
  same : Same w w'
  le : ∀ b, I b → I' b
  new : ∀ b, I' b → I b ∨ w.heap.size ≤ b
  lt : ∀ b, I' b → b < w'.heap.size

def noVal : Val := fun _ => none
/-- Arguments that are data. -/
def ArgsD (I : Nat → Prop) (w : World) (vs : List SV) (xs : List Value) : Prop :=
  xs.length = vs.length ∧ ∀ (j : Nat) v, vs[j]? = some v → ∃ x, xs[j]? = some x ∧ v.rel noVal I w x ∧ v.low 0

/-- What a called function hands back, as said of its arguments: a value that is no place ('flat'); data; a slice of its own. -/
abbrev QSpec := List SV → (SV → Prop) → Prop
abbrev OSpec := List SV → (TypeId → Nat → Nat → Cont → Prop) → Prop
abbrev GSpec := List SV → Heap → Nat → (SV → Heap → Nat → Prop) → Prop

def FlatOK (P : Program) (glob : Nat → Option Cont) (f : FuncId) (q : QSpec) : Prop :=
  ∀ (vs : List SV) (K : SV → Prop), q vs K → ∃ v, K v ∧ v.flat = true ∧ ∀ (I : Nat → Prop) (w : World) (xs : List Value), GlobOK glob I w → (∀ b, I b → b < w.heap.size) → ArgsD I w vs xs →
    Calls P f xs.toArray w fun e w' => e = .returned v.val ∧ Same w w'
def DataOK (P : Program) (glob : Nat → Option Cont) (f : FuncId) (q : QSpec) : Prop :=
  ∀ (vs : List SV) (K : SV → Prop), q vs K → ∃ v, K v ∧ v.low 0 ∧ ∀ (I : Nat → Prop) (w : World) (xs : List Value), GlobOK glob I w → (∀ b, I b → b < w.heap.size) → ArgsD I w vs xs →
    Calls P f xs.toArray w fun e w' => ∃ x I', e = .returned x ∧ v.rel noVal I' w' x ∧ GrowI I w I' w'
/-- A new row of the called function's own, and the slice of it. -/
def OwnRow (I : Nat → Prop) (w : World) (I' : Nat → Prop) (w' : World) (t : TypeId) (s len : Nat) (c : Cont) (x : Value) : Prop :=
  ∃ ad cap o, x = .slice (ad.map fun b => ⟨b, o, none⟩) len cap ∧ (o = 0 ∨ cap = 0) ∧ len ≤ cap ∧ c.len = len * s ∧ (SObj.own t c (cap * s)).Holds noVal I' w' ad ∧ ∀ b, ad = some b → w.heap.size ≤ b ∧ ¬ I' b
def OwnOK (P : Program) (glob : Nat → Option Cont) (f : FuncId) (q : OSpec) : Prop :=
  ∀ (vs : List SV) (K : TypeId → Nat → Nat → Cont → Prop), q vs K → ∃ t s len c, K t s len c ∧ c.low 0 ∧ ∀ (I : Nat → Prop) (w : World) (xs : List Value), GlobOK glob I w → (∀ b, I b → b < w.heap.size) → ArgsD I w vs xs →
    Calls P f xs.toArray w fun e w' => ∃ x I', e = .returned x ∧ OwnRow I w I' w' t s len c x ∧ GrowI I w I' w'
/-- A function that may write the caller's own rows. -/
def GenOK (P : Program) (glob : Nat → Option Cont) (f : FuncId) (s : GSpec) : Prop :=
  ∀ (C : CC) (β : Val) (n : Nat) (H : Heap) (I : Nat → Prop) (w : World) (vs : List SV) (xs : List Value) (K : SV → Heap → Nat → Prop), GlobOK glob I w → HeapOK C β n H I w → xs.length = vs.length → (∀ (j : Nat) v, vs[j]? = some v → ∃ x, xs[j]? = some x ∧ v.rel β I w x ∧ v.low n) → s vs H n K →
    Calls P f xs.toArray w fun e w' => ∃ x, e = .returned x ∧ After C β n I w K x w'

inductive Spec
  | flat (q : QSpec)
  | data (q : QSpec)
  | own (q : OSpec)
  | ownD (q : OSpec)
  | gen (s : GSpec)
def Spec.OK (P : Program) (glob : Nat → Option Cont) (f : FuncId) : Spec → Prop
  | .flat q => Enters P f ∧ FlatOK P glob f q
  | .data q => Enters P f ∧ DataOK P glob f q
  | .own q => Enters P f ∧ OwnOK P glob f q
  | .ownD q => Enters P f ∧ OwnOK P glob f q
  | .gen s => Enters P f ∧ GenOK P glob f s

def lookSpec : List (FuncId × Spec) → FuncId → Option Spec
  | [], _ => none
  | (g, s) :: l, f => if g = f then some s else lookSpec l f

/-- What is known of the program: its types, its package-level variables that are data, its functions by their contracts. -/
structure Ctx where
  P : Program
  ty : Nat → Ty
  glob : Nat → Option Cont
  fs : List (FuncId × Spec)

def SpecsOK (P : Program) (glob : Nat → Option Cont) : List (FuncId × Spec) → Prop
  | [] => True
  | (f, s) :: l => s.OK P glob f ∧ SpecsOK P glob l
structure Ctx.OK (Γ : Ctx) : Prop where
  ty : TyOK Γ.P Γ.ty
  fs : SpecsOK Γ.P Γ.glob Γ.fs
  mixed : Γ.P.follows .mixedOrders = true

theorem SpecsOK.look {P : Program} {glob : Nat → Option Cont} : ∀ {l : List (FuncId × Spec)} {f : FuncId} {s : Spec}, SpecsOK P glob l → lookSpec l f = some s → s.OK P glob f
  | [], _, _, _, h => by cases h
  | (g, s') :: l, f, s, hl, h => by
    simp only [lookSpec] at h
    split at h
    · rename_i e; cases h; subst e; exact hl.1
    · exact SpecsOK.look hl.2 h

/-! ### own rows read as data -/
def Cell.isD : Cell → Prop
  | .ptr _ _ | .slice _ _ _ _ | .map _ => False
  | .clo _ caps => ∀ x ∈ caps, x.pureB = true ∧ ∀ g l, x ≠ .clo g l
  | _ => True
def allD : List Cell → Prop
  | [] => True
  | x :: l => x.isD ∧ allD l
def Cont.isD : Cont → Prop
  | .cells l => allD l
  | _ => True

/-- A cell as data: what an own slice holds stands for the slice. -/
def viewC (ty : Nat → Ty) (H : Heap) (x : Cell) (K : Cell → Prop) : Prop :=
  match x with
  | .slice id off len _ => match H.get id with
    | some (.own t c _) => c.isD ∧ (len = 0 → (ty t).size * len = 0) ∧ off + len * (ty t).size ≤ c.len ∧ 0 < (ty t).size ∧ wholeS c off (len * (ty t).size) fun c => K (.ds len c)
    | _ => False
  | .ptr id off => match H.get id with
    | some (.own _ c _) => c.isD ∧ off < c.len ∧ K (.dp c off)
    | _ => False
  | .map _ => False
  | x => K x
def viewL (ty : Nat → Ty) (H : Heap) : List Cell → (List Cell → Prop) → Prop
  | [], K => K []
  | x :: l, K => viewC ty H x fun x' => viewL ty H l fun l' => K (x' :: l')
def view1 (ty : Nat → Ty) (H : Heap) (x : Cell) (K : Cell → Prop) : Prop :=
  match x with
  | .clo f caps => (∀ x ∈ caps, ∀ g l, x ≠ Cell.clo g l) ∧ viewL ty H caps fun l => K (.clo f l)
  | x => viewC ty H x K
def viewV (ty : Nat → Ty) (H : Heap) (v : SV) (K : SV → Prop) : Prop :=
  match v with
  | .c x => view1 ty H x fun y => K (.c y)
  | .agg (.cells l) => (∀ x ∈ l, ∀ g cs, x ≠ Cell.clo g cs) ∧ viewL ty H l fun l' => K (.agg (.cells l'))
  | .agg k => K (.agg k)
  | .tup _ => False
def viewS (ty : Nat → Ty) (H : Heap) : List SV → (List SV → Prop) → Prop
  | [], K => K []
  | v :: vs, K => viewV ty H v fun v' => viewS ty H vs fun vs' => K (v' :: vs')

/-- The rows that are named. -/
def Cell.ids : Cell → List Nat
  | .slice id _ _ _ | .ptr id _ => [id]
  | .clo _ caps => caps.flatMap fun | .slice id _ _ _ | .ptr id _ => [id] | _ => []
  | _ => []
def SV.ids : SV → List Nat
  | .c x => x.ids
  | .agg (.cells l) => l.flatMap Cell.ids
  | _ => []
def Heap.delAll : Heap → List Nat → Heap
  | H, [] => H
  | H, i :: is => Heap.delAll (H.del i) is
theorem Heap.get_delAll : ∀ (is : List Nat) (H : Heap) (j : Nat), (H.delAll is).get j = if j ∈ is then none else H.get j
  | [], H, j => by simp [Heap.delAll]
  | i :: is, H, j => by
    rw [Heap.delAll, Heap.get_delAll is, Heap.get_del]
    by_cases h1 : j ∈ is
    · simp [h1]
    · by_cases h2 : i = j
      · subst h2; simp
      · simp [h1, h2, Ne.symm h2]

section
variable {P : Program} {C : CC} {β : Val} {n : Nat} {H : Heap} {I : Nat → Prop} {w : World} {ty : Nat → Ty}

/-- The blocks of the own rows count as data too. -/
def withRows (β : Val) (H : Heap) (is : List Nat) (I : Nat → Prop) (b : Nat) : Prop := I b ∨ ∃ id o, id ∈ is ∧ H.get id = some o ∧ β id = some b

theorem allD_mem : ∀ {l : List Cell}, allD l → ∀ x ∈ l, x.isD
  | [], _, x, hx => by cases hx
  | y :: l, h, x, hx => by
    rcases List.mem_cons.1 hx with rfl | hx
    · exact h.1
    · exact allD_mem h.2 x hx
theorem Cont.isD_get {c : Cont} (h : c.isD) {j : Nat} (hj : j < c.len) : (c.get j).isD := by
  cases c with
  | cells l => exact allD_mem h _ (getD_mem hj)
  | _ => trivial

/-- A cell without names reads as data. -/
theorem Cell.rel_D {x : Cell} (hx : x.isD) {v : Value} (h : x.rel β I w v) : CellD I w x v := by
  rcases Cell.clo_or x with ⟨f, caps, rfl⟩ | hc
  · obtain ⟨g, rfl, hg⟩ := h
    refine .clo f caps g fun j hj => ?_
    have h1 := hg j hj
    have h2 := (hx _ (getD_mem (d := .nils) hj)).1
    generalize caps.getD j .nils = y at h1 h2
    cases y <;> first | exact h1 | (simp [Cell.pureB] at h2)
  · rw [Cell.rel_eq hc] at h
    cases x <;> first | exact h | exact hx.elim

theorem Cont.rel_D {c : Cont} (hc : c.isD) {b off : Nat} (hI : I b) (h : CellsAt β I w c b off) : DatAt I w c b off :=
  ⟨hI, fun j hj => let ⟨u, h1, h2⟩ := h j hj; ⟨u, h1 w (Below.refl _ _), Cell.rel_D (Cont.isD_get hc hj) h2⟩⟩

theorem CellsAt.widen {I' : Nat → Prop} (hI : ∀ b, I b → I' b) {c : Cont} (hl : c.low n) {b off : Nat} (h : CellsAt β I w c b off) : CellsAt β I' w c b off :=
  fun j hj => let ⟨u, h1, h2⟩ := h j hj; ⟨u, h1, Cell.rel_mono (n := n) (fun _ _ => rfl) (Ext.widen hI) (Cont.get_low hl j) h2⟩

theorem viewC_sound {is : List Nat} (hH : HeapOK C β n H I w) {x : Cell} (hxl : x.low n) (hnc : ∀ g l, x ≠ .clo g l) (his : ∀ i ∈ x.ids, i ∈ is) {v : Value} (hx : x.rel β I w v) {K : Cell → Prop} (h : viewC ty H x K) :
    ∃ y, K y ∧ CellD (withRows β H is I) w y v ∧ y.pureB = true ∧ ∀ g l, y ≠ .clo g l := by
  have hI : ∀ b, I b → withRows β H is I b := fun b h => .inl h
  unfold viewC at h
  split at h
  · rename_i id off len cap
    split at h
    · rename_i t c capc hid
      obtain ⟨hd, _, hle, hs, hK'⟩ := h
      have hK : K (.ds len (if off = 0 ∧ c.len = len * (ty t).size then c else c.sub off (len * (ty t).size))) := by
        unfold wholeS at hK'
        split at hK' <;> rename_i hz
        · rw [if_pos hz]; exact hK'
        · rw [if_neg hz]; exact hK'
      obtain ⟨hlc, off', hv, hoff⟩ := hx
      refine ⟨_, hK, ?_, rfl, by simp⟩
      have hlow := (hH.low id _ hid).2
      by_cases h0 : len = 0
      · subst h0
        have : ∀ k : Cont, k.len = 0 → CellD (withRows β H is I) w (.ds 0 k) v := fun k hk => by rw [hv]; exact .ds0 k _ _ hk
        split
        · rename_i hz; exact this c (by simpa using hz.2)
        · exact this _ (by rw [Cont.sub_len]; simp)
      · have ho : off' = off := by rcases hoff with h | h <;> omega
        subst ho
        have hpos : 0 < len * (ty t).size := Nat.mul_pos (by omega) hs
        obtain ⟨b, hb, hc⟩ := hH.cellsAt hid (off := off') (by omega)
        have hIb : withRows β H is I b := .inr ⟨id, _, his id (by simp [Cell.ids]), hid, hb⟩
        have hda := Cont.rel_D hd hIb (hc.widen hI hlow)
        have hv' : v = .slice (some ⟨b, off', none⟩) len cap := by rw [hv]; simp [place, hb]
        rw [hv']
        split
        · rename_i hz
          rw [hz.1]
          exact hda.ds hlc (fun h => by omega)
        · have := hda.sub hle
          rw [Nat.zero_add] at this
          exact this.ds hlc (fun h => by rw [Cont.sub_len] at h; omega)
    · exact h.elim
  · rename_i id off
    split at h
    · rename_i t c capc hid
      obtain ⟨hd, hle, hK⟩ := h
      obtain ⟨b, hb, hc⟩ := hH.cellsAt hid hle
      have hv : v = .pointer (place β id off) := hx
      refine ⟨_, hK, ?_, rfl, by simp⟩
      have hda := Cont.rel_D hd (.inr ⟨id, _, his id (by simp [Cell.ids]), hid, hb⟩ : withRows β H is I b) (hc.widen hI (hH.low id _ hid).2)
      have := hda.dp hle
      rw [Nat.zero_add] at this
      rw [hv]
      simpa [place, hb] using this
    · exact h.elim
  · exact h.elim
  · rename_i h1 h2 h3
    have hp : x.pureB = true := by
      cases x <;> first | rfl | exact absurd rfl (h1 _ _ _ _) | exact absurd rfl (h2 _ _) | exact absurd rfl (h3 _)
    rw [Cell.rel_eq hnc] at hx
    refine ⟨x, h, ?_, hp, hnc⟩
    have : CellD I w x v := by cases x <;> first | exact hx | (simp [Cell.pureB] at hp)
    exact this.mono (Ext.widen hI)

theorem viewL_sound {is : List Nat} (hH : HeapOK C β n H I w) : ∀ {l : List Cell} {g : Nat → Value} {K : List Cell → Prop}, (∀ x ∈ l, x.low n) → (∀ x ∈ l, ∀ g cs, x ≠ .clo g cs) → (∀ x ∈ l, ∀ i ∈ x.ids, i ∈ is) → (∀ j, j < l.length → (l.getD j .nils).rel β I w (g j)) → viewL ty H l K →
    ∃ l', K l' ∧ l'.length = l.length ∧ ∀ j, j < l.length → CellD (withRows β H is I) w (l'.getD j .nils) (g j) ∧ (l'.getD j .nils).pureB = true ∧ ∀ g cs, l'.getD j .nils ≠ .clo g cs
  | [], g, K, _, _, _, _, h => ⟨[], h, rfl, fun j hj => absurd hj (Nat.not_lt_zero j)⟩
  | x :: l, g, K, hl, hnc, his, hr, h => by
    obtain ⟨y, h, hy, hyp, hync⟩ := viewC_sound hH (hl x (List.mem_cons_self ..)) (hnc x (List.mem_cons_self ..)) (his x (List.mem_cons_self ..)) (hr 0 (by simp)) h
    obtain ⟨l', hK, hll, hrel⟩ := viewL_sound (g := fun j => g (j + 1)) hH (fun x hx => hl x (List.mem_cons_of_mem _ hx)) (fun x hx => hnc x (List.mem_cons_of_mem _ hx)) (fun x hx => his x (List.mem_cons_of_mem _ hx)) (fun j hj => by have := hr (j + 1) (by simp; omega); simpa using this) h
    refine ⟨y :: l', hK, by simp [hll], fun j hj => ?_⟩
    cases j with
    | zero => exact ⟨hy, hyp, hync⟩
    | succ j => have := hrel j (by simp at hj; omega); simpa using this

theorem pure_low {x : Cell} (h : x.pureB = true) (hc : ∀ g cs, x ≠ .clo g cs) : x.low 0 := by
  rw [Cell.low_eq hc]; exact Cell.pure_low1 h

theorem viewV_sound {is : List Nat} (hH : HeapOK C β n H I w) {v : SV} (hvl : v.low n) (his : ∀ i ∈ v.ids, i ∈ is) {x : Value} (hx : v.rel β I w x) {K : SV → Prop} (h : viewV ty H v K) :
    ∃ u, K u ∧ u.rel noVal (withRows β H is I) w x ∧ u.low 0 := by
  unfold viewV at h
  split at h
  · rename_i y
    unfold view1 at h
    split at h
    · rename_i f caps
      obtain ⟨hnc, h⟩ := h
      obtain ⟨g, rfl, hg⟩ := hx
      obtain ⟨l', hK, hll, hr⟩ := viewL_sound (is := is) (g := g) hH (fun z hz => by rw [Cell.low_eq (hnc z hz)]; exact hvl z hz) hnc (fun z hz i hi => his i (by
        simp only [SV.ids, Cell.ids, List.mem_flatMap]
        refine ⟨z, hz, ?_⟩
        cases z <;> first | exact hi | exact absurd rfl (hnc _ hz _ _) | (simp [Cell.ids] at hi))) (fun j hj => by
          have := hg j hj
          rwa [← Cell.rel_eq (hnc _ (getD_mem hj))] at this) h
      refine ⟨_, hK, ⟨g, by rw [hll], fun j hj => ?_⟩, fun z hz => ?_⟩
      · have := (hr j (by omega)).1
        exact Cell.rel1_of this
      · obtain ⟨j, hj, rfl⟩ := List.mem_iff_getElem.1 hz
        have := (hr j (by omega)).2
        rw [List.getD_eq_getElem?_getD, List.getElem?_eq_getElem hj, Option.getD_some] at this
        exact Cell.pure_low1 this.1
    · rename_i hnc
      obtain ⟨z, hK, hz, hp, hznc⟩ := viewC_sound (is := is) hH hvl (fun g l e => hnc g l e) his hx h
      exact ⟨_, hK, Cell.rel_of hz, pure_low hp hznc⟩
  · rename_i l
    obtain ⟨hnc, h⟩ := h
    obtain ⟨vs, rfl, hl, hr⟩ := hx
    obtain ⟨l', hK, hll, hr'⟩ := viewL_sound (is := is) (g := fun j => vs.getD j undef) hH hvl hnc (fun z hz i hi => his i (by simp only [SV.ids, List.mem_flatMap]; exact ⟨z, hz, hi⟩)) (fun j hj => by
      obtain ⟨u, hu, hru⟩ := hr j hj
      rw [List.getD_eq_getElem?_getD (l := vs), hu]; exact hru) h
    refine ⟨_, hK, ⟨vs, rfl, by rw [hl]; exact hll.symm, fun j hj => ?_⟩, fun z hz => ?_⟩
    · simp only [Cont.len] at hj
      obtain ⟨u, hu, _⟩ := hr j (by simp only [Cont.len]; omega)
      have := (hr' j (by omega)).1
      rw [List.getD_eq_getElem?_getD (l := vs), hu, Option.getD_some] at this
      exact ⟨u, hu, Cell.rel_of this⟩
    · obtain ⟨j, hj, rfl⟩ := List.mem_iff_getElem.1 hz
      have := (hr' j (by omega)).2
      rw [List.getD_eq_getElem?_getD, List.getElem?_eq_getElem hj, Option.getD_some] at this
      exact pure_low this.1 this.2
  · rename_i k hk
    obtain ⟨vs, rfl, hr⟩ := hx
    have hf : k.flat = true := by cases k <;> first | rfl | exact absurd rfl (hk _)
    exact ⟨_, h, ⟨vs, rfl, (Cont.rel_flat hf).2 ((Cont.rel_flat hf).1 hr)⟩, Cont.flat_low hf⟩
  · exact h.elim

theorem viewS_sound {is : List Nat} (hH : HeapOK C β n H I w) : ∀ {vs : List SV} {xs : List Value} {K : List SV → Prop}, xs.length = vs.length → (∀ (j : Nat) v, vs[j]? = some v → ∃ x, xs[j]? = some x ∧ v.rel β I w x ∧ v.low n) → (∀ v ∈ vs, ∀ i ∈ v.ids, i ∈ is) → viewS ty H vs K →
    ∃ us, K us ∧ ArgsD (withRows β H is I) w us xs
  | [], xs, K, hl, _, _, h => ⟨[], h, hl, fun j v hv => by simp at hv⟩
  | v :: vs, [], K, hl, _, _, h => by simp at hl
  | v :: vs, x :: xs, K, hl, hr, his, h => by
    obtain ⟨y, hy, hry, hlow⟩ := hr 0 v rfl
    simp only [List.getElem?_cons_zero, Option.some.injEq] at hy
    subst hy
    obtain ⟨u, h, hu, hul⟩ := viewV_sound (is := is) hH hlow (his v (List.mem_cons_self ..)) hry h
    obtain ⟨us, hK, hul', hus⟩ := viewS_sound (xs := xs) hH (by simpa using hl) (fun j v hv => by have := hr (j + 1) v (by simpa using hv); simpa using this) (fun v hv => his v (List.mem_cons_of_mem _ hv)) h
    refine ⟨u :: us, hK, by simp [hul'], fun j v' hv' => ?_⟩
    cases j with
    | zero => simp only [List.getElem?_cons_zero, Option.some.injEq] at hv'; subst hv'; exact ⟨x, rfl, hu, hul⟩
    | succ j => have := hus j v' (by simpa using hv'); simpa using this

theorem SV.noVal_rel {v : SV} (hl : v.low 0) {x : Value} (h : v.rel noVal I w x) : v.rel β I w x := SV.rel_mono (n := 0) (fun i hi => absurd hi (Nat.not_lt_zero i)) (Ext.refl _ _) hl h

theorem withRows_lt (hH : HeapOK C β n H I w) {is : List Nat} : ∀ b, withRows β H is I b → b < w.heap.size := by
  rintro b (h | ⟨id, o, _, ho, hb⟩)
  · exact hH.ilt b h
  · exact (hH.holds id o ho).lt hb

/-- The caller's rows that were handed over are data from now on. -/
theorem data_heap (hH : HeapOK C β n H I w) {is : List Nat} {I' : Nat → Prop} {w' : World} (hg : GrowI (withRows β H is I) w I' w') : Ext I w I' w' ∧ HeapOK C β n (H.delAll is) I' w' := by
  refine ⟨fun b hb => ⟨hg.le b (.inl hb), hg.same.block b (hH.ilt b hb)⟩, ?_⟩
  have h1 := (hH.later hg.same).sub (H' := H.delAll is) fun id o ho => by
    rw [Heap.get_delAll] at ho
    split at ho
    · cases ho
    · exact ho
  refine h1.widen (fun b hb => hg.le b (.inl hb)) hg.lt (fun id o ho b hb hI => ?_) (fun b hb => ?_)
  · rw [Heap.get_delAll] at ho
    split at ho
    · cases ho
    · rename_i hni
      rcases hg.new b hI with (h | ⟨id', o', hi', ho', hb'⟩) | h
      · exact hH.off id o ho b hb h
      · exact hH.sep id id' o o' (fun e => hni (e ▸ hi')) ho ho' b hb hb'
      · have := (hH.holds id o ho).lt hb; omega
  · rcases hg.new b hb with (h | ⟨id', o', hi', ho', hb'⟩) | h
    · exact hH.i0 b h
    · exact .inr (hH.fresh id' o' ho' b hb')
    · exact .inr (.inl (Nat.le_trans hH.size h))
theorem after_data (hH : HeapOK C β n H I w) {is : List Nat} {v : SV} {x : Value} {I' : Nat → Prop} {w' : World} (hv : v.rel noVal I' w' x) (hl : v.low 0) (hg : GrowI (withRows β H is I) w I' w') {K : SV → Heap → Nat → Prop} (hK : K v (H.delAll is) n) : AfterG C β n I w K x w' :=
  let ⟨hE, hH'⟩ := data_heap hH hg
  ⟨hg.same, v, _, n, β, I', hK, SV.noVal_rel hl hv, SV.low_mono (Nat.zero_le _) hl, Nat.le_refl _, fun _ _ => rfl, hE, hH'⟩
end
end Go.Ab
