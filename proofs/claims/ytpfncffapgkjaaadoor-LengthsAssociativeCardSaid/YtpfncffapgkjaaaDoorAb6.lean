/- The heap of names under the operations that make or write memory: variables, stores. -/
import Derived.Test.YtpfncffapgkjaaaDoorAb5
namespace Go.Ab
set_option linter.unusedVariables false
open Go.RowKit
section
variable {P : Program} {C : CC} {β : Val} {n : Nat} {H : Heap} {I : Nat → Prop} {w : World}

def upd (β : Val) (n : Nat) (x : Option Nat) : Val := fun i => if i = n then x else β i
theorem upd_lt {β : Val} {n : Nat} {x : Option Nat} : ∀ i, i < n → upd β n x i = β i := fun i hi => by simp [upd]; omega
theorem upd_same {β : Val} {n : Nat} {x : Option Nat} : upd β n x n = x := by simp [upd]

/-- Rows may be forgotten. -/
theorem HeapOK.sub (h : HeapOK C β n H I w) {H' : Heap} (hs : ∀ id o, H'.get id = some o → H.get id = some o) : HeapOK C β n H' I w :=
  ⟨h.os, h.tape, h.output, h.size, h.frame, fun id o ho => h.holds id o (hs id o ho), fun id o ho => h.low id o (hs id o ho), fun id o ho => h.fresh id o (hs _ _ ho),
    fun i j oi oj hij hi hj => h.sep i j oi oj hij (hs _ _ hi) (hs _ _ hj), fun id o ho => h.off id o (hs _ _ ho), h.ilt, h.i0, h.base⟩
theorem HeapOK.del (h : HeapOK C β n H I w) (i : Nat) : HeapOK C β n (H.del i) I w := by
  refine h.sub fun id o ho => ?_
  rw [Heap.get_del] at ho
  split at ho
  · cases ho
  · exact ho
theorem HeapOK.mono_n (h : HeapOK C β n H I w) {m : Nat} (hm : n ≤ m) : HeapOK C β m H I w :=
  ⟨h.os, h.tape, h.output, h.size, h.frame, h.holds, fun id o ho => ⟨Nat.lt_of_lt_of_le (h.low id o ho).1 hm, SObj.low_mono hm (h.low id o ho).2⟩, h.fresh, h.sep, h.off, h.ilt, h.i0, h.base⟩
/-- Another naming, the same on what is named. -/
theorem HeapOK.rename (h : HeapOK C β n H I w) {β' : Val} (hβ : ∀ i, i < n → β' i = β i) : HeapOK C β' n H I w := by
  refine ⟨h.os, h.tape, h.output, h.size, h.frame, fun id o ho => ?_, h.low, fun id o ho b hb => ?_, fun i j oi oj hij hi hj b hu hv => ?_, fun id o ho b hb => ?_, h.ilt, h.i0, h.base⟩
  · rw [hβ id (h.low id o ho).1]
    exact (h.holds id o ho).mono hβ (Ext.refl _ _) (h.low id o ho).2 fun _ _ => rfl
  · rw [hβ id (h.low id _ ho).1] at hb
    exact h.fresh id o ho b hb
  · rw [hβ i (h.low i _ hi).1] at hu
    rw [hβ j (h.low j _ hj).1] at hv
    exact h.sep i j oi oj hij hi hj b hu hv
  · rw [hβ id (h.low id _ ho).1] at hb
    exact h.off id o ho b hb

/-- A new row, known by the name n, at a block that no other row has. -/
theorem HeapOK.name (h : HeapOK C β n H I w) {o : SObj} {ad : Option Nat} (ho : o.Holds β I w ad) (hl : o.low n) (hf : ∀ b, ad = some b → C.w0.heap.size ≤ b ∨ C.F b) (hs : ∀ id o', H.get id = some o' → ∀ b, β id = some b → ad = some b → False) (hi : ∀ b, ad = some b → ¬ I b) :
    HeapOK C (upd β n ad) (n + 1) ((n, o) :: H) I w := by
  have h1 := h.rename (upd_lt (x := ad))
  refine ⟨h1.os, h1.tape, h1.output, h1.size, h1.frame, fun id o' ho' => ?_, fun id o' ho' => ?_, fun id o' ho' b hb => ?_, fun i j oi oj hij hi' hj' b hu hv => ?_, fun id o' ho' b hb => ?_, h.ilt, h.i0, h.base⟩
  · rw [Heap.get_cons] at ho'
    split at ho'
    · rename_i hid
      cases ho'; subst hid
      rw [upd_same]
      exact ho.mono upd_lt (Ext.refl _ _) hl fun _ _ => rfl
    · exact h1.holds id o' ho'
  · rw [Heap.get_cons] at ho'
    split at ho'
    · rename_i hid
      cases ho'; subst hid
      exact ⟨Nat.lt_succ_self _, SObj.low_mono (Nat.le_succ _) hl⟩
    · exact ⟨Nat.lt_succ_of_lt (h.low id o' ho').1, SObj.low_mono (Nat.le_succ _) (h.low id o' ho').2⟩
  · rw [Heap.get_cons] at ho'
    split at ho'
    · rename_i hid
      subst hid
      rw [upd_same] at hb
      exact hf b hb
    · exact h1.fresh id o' ho' b hb
  · rw [Heap.get_cons] at hi' hj'
    split at hi'
    · rename_i hid
      subst hid
      rw [if_neg hij] at hj'
      rw [upd_lt j (h.low j oj hj').1] at hv
      rw [upd_same] at hu
      exact hs j oj hj' b hv hu
    · split at hj'
      · rename_i hid hjd
        subst hjd
        rw [upd_lt i (h.low i _ hi').1] at hu
        rw [upd_same] at hv
        exact hs i oi hi' b hu hv
      · exact h1.sep i j oi oj hij hi' hj' b hu hv
  · rw [Heap.get_cons] at ho'
    split at ho'
    · rename_i hid
      subst hid
      rw [upd_same] at hb
      exact hi b hb
    · exact h1.off id o' ho' b hb

/-- A new block as a row. -/
theorem HeapOK.push (h : HeapOK C β n H I w) {arr : Array Value} {t : TypeId} {c : Cont} (hc : c.rel β I w (arr.toList.take c.len)) (hb : c.low n) (hl : c.len ≤ arr.size) :
    HeapOK C (upd β n (some w.heap.size)) (n + 1) ((n, .own t c arr.size) :: H) I (w.alloc (.cells arr t)) := by
  have hsame : Same w (w.alloc (.cells arr t)) := (Below.refl _ w).alloc (Nat.le_refl _) (.cells arr t)
  have h1 := h.later hsame
  refine h1.name (.inl ⟨_, arr, rfl, heap_alloc_new w _, rfl, hl, Cont.rel_mono (fun _ _ => rfl) (h.ext hsame) hb hc⟩) hb (fun b e => ?_) (fun id o ho b hb e => ?_) (fun b e hI => ?_)
  · cases e; exact .inl h.size
  · cases e
    have := (h.holds id o ho).lt hb
    omega
  · cases e
    exact absurd (h.ilt _ hI) (Nat.lt_irrefl _)

theorem HeapOK.pushNil (h : HeapOK C β n H I w) {t : TypeId} {c : Cont} (h0 : c.len = 0) (hb : c.low n) : HeapOK C (upd β n none) (n + 1) ((n, .own t c 0) :: H) I w :=
  h.name (.inr ⟨rfl, h0, rfl⟩) hb (fun b e => by cases e) (fun id o ho b hb e => by cases e) (fun b e => by cases e)

/-- An own row is written: the world is as it was but for that block. -/
theorem HeapOK.write (h : HeapOK C β n H I w) {id b : Nat} {oo : SObj} (hid : H.get id = some oo) (hb : β id = some b) {w' : World} {o' : SObj}
    (hos : w'.os = w.os) (htape : w'.tape = w.tape) (hout : w'.output = w.output) (hsz : w.heap.size ≤ w'.heap.size) (hother : ∀ k, k < w.heap.size → k ≠ b → w'.heap[k]? = w.heap[k]?)
    (hnew : Ext I w I w' → o'.Holds β I w' (some b)) (hbl : o'.low n) :
    Ext I w I w' ∧ HeapOK C β n ((id, o') :: H) I w' := by
  have hbs : b < w.heap.size := (h.holds id _ hid).lt hb
  have hfr := h.fresh id _ hid _ hb
  have hext : Ext I w I w' := fun k hk => ⟨hk, hother k (h.ilt k hk) (fun e => h.off id _ hid b hb (e ▸ hk))⟩
  refine ⟨hext, hos.trans h.os, htape.trans h.tape, hout.trans h.output, Nat.le_trans h.size hsz, fun k hk hf => ?_, fun i o ho => ?_, fun i o ho => ?_, fun i o ho a ha => ?_, fun i j oi oj hij hi hj k hu hv => ?_, fun i o ho a ha => ?_, fun k hk => Nat.lt_of_lt_of_le (h.ilt k hk) hsz, h.i0, h.base⟩
  · have hkb : k ≠ b := by
      rintro rfl
      rcases hfr with hfr | hfr
      · omega
      · exact hf hfr
    rw [hother k (Nat.lt_of_lt_of_le hk h.size) hkb]
    exact h.frame k hk hf
  · rw [Heap.get_cons] at ho
    split at ho
    · rename_i e; cases ho; subst e
      rw [hb]; exact hnew hext
    · rename_i e
      refine (h.holds i o ho).mono (n := n) (fun _ _ => rfl) hext (h.low i o ho).2 fun k hu => hother k ((h.holds i o ho).lt hu) ?_
      rintro rfl
      exact h.sep id i _ o e hid ho k hb hu
  · rw [Heap.get_cons] at ho
    split at ho
    · rename_i e; cases ho; subst e
      exact ⟨(h.low _ _ hid).1, hbl⟩
    · exact h.low i o ho
  · rw [Heap.get_cons] at ho
    split at ho
    · rename_i e; subst e
      exact h.fresh _ _ hid a ha
    · exact h.fresh i o ho a ha
  · rw [Heap.get_cons] at hi hj
    split at hi
    · rename_i e; subst e
      rw [if_neg hij] at hj
      exact h.sep _ j _ oj hij hid hj _ hu hv
    · split at hj
      · rename_i e e'; subst e'
        exact h.sep i _ oi _ hij hi hid _ hu hv
      · exact h.sep i j oi oj hij hi hj k hu hv
  · rw [Heap.get_cons] at ho
    split at ho
    · rename_i e; subst e
      exact h.off _ _ hid a ha
    · exact h.off i o ho a ha

/-- A name is given to what another name stood for. -/
theorem HeapOK.alias (h : HeapOK C β n H I w) {id : Nat} {o : SObj} (hid : H.get id = some o) : HeapOK C (upd β n (β id)) (n + 1) ((n, o) :: H.del id) I w := by
  refine (h.del id).name (h.holds id o hid) (h.low id o hid).2 (fun b e => h.fresh id o hid b e) (fun i o' ho b hb e => ?_) (fun b e => h.off id o hid b e)
  rw [Heap.get_del] at ho
  split at ho
  · cases ho
  · rename_i hne
    exact h.sep i id o' o (Ne.symm hne) ho hid b hb e

/-- What may come of an operation. -/
def After (C : CC) (β : Val) (n : Nat) (I : Nat → Prop) (w : World) (K : SV → Heap → Nat → Prop) (v : Value) (w' : World) : Prop :=
  ∃ sv H' n' β' I', K sv H' n' ∧ sv.rel β' I' w' v ∧ sv.low n' ∧ n ≤ n' ∧ (∀ i, i < n → β' i = β i) ∧ Ext I w I' w' ∧ HeapOK C β' n' H' I' w'

/-- What may come of an operation that writes nothing that was there. -/
def AfterG (C : CC) (β : Val) (n : Nat) (I : Nat → Prop) (w : World) (K : SV → Heap → Nat → Prop) (v : Value) (w' : World) : Prop := Same w w' ∧ After C β n I w K v w'

/-- An operation runs, and what comes of it is R. -/
def Runs (P : Program) (a : Act) (o : Oper) (w : World) (R : Value → World → Prop) : Prop :=
  match (execOp a.eval o).run P w with
  | .ok (.value v) w' => R v w'
  | .ok .skip w' => R undef w'
  | .ok (.enter f args) w' => Calls P f args w' fun e w'' => ∃ v, e = .returned v ∧ R v w''
  | _ => False

theorem Runs.wp {a : Act} {o : Oper} {R : Value → World → Prop} (h : Runs P a o w R) {K : Act → World → Prop} {Q : Exit → Act → World → Prop} (hK : ∀ v w', R v w' → K (a.put o.dst v) w') : o.wp P a w K Q := by
  unfold Runs at h
  unfold Oper.wp Oper.upon
  split at h
  · rename_i v w' hr; rw [hr]; exact hK _ _ h
  · rename_i w' hr; rw [hr]; exact hK _ _ h
  · rename_i f args w' hr; rw [hr]
    refine Calls.mono h fun e w'' ⟨v, he, hR⟩ => ?_
    subst he
    exact hK _ _ hR
  · exact h.elim
theorem Runs.of_value {a : Act} {o : Oper} {R : Value → World → Prop} {v : Value} {w' : World} (hr : (execOp a.eval o).run P w = .ok (.value v) w') (h : R v w') : Runs P a o w R := by
  unfold Runs; rw [hr]; exact h
theorem Runs.of_skip {a : Act} {o : Oper} {R : Value → World → Prop} {w' : World} (hr : (execOp a.eval o).run P w = .ok .skip w') (h : R undef w') : Runs P a o w R := by
  unfold Runs; rw [hr]; exact h

theorem Gives.runs {a : Act} {o : Oper} {K : SV → Heap → Nat → Prop} (h : Gives P β n I w a o fun v => K v H n) (hH : HeapOK C β n H I w) : Runs P a o w (AfterG C β n I w K) := by
  obtain ⟨v, x, hK, hb, hrel, hr⟩ := h
  exact Runs.of_value (hr w (Below.refl _ _)) ⟨Below.refl _ _, v, H, n, β, I, hK, hrel, hb, Nat.le_refl _, fun _ _ => rfl, Ext.refl _ _, hH⟩

/-! ### a variable of one's own -/

/-- A value as cells. -/
def SV.cont : SV → Option Cont
  | .c (.u8 x) => some (.u8s [x])
  | .c (.u32 x) => some (.u32s [x])
  | .c (.u64 x) => some (.u64s [x])
  | .c (.int k x) => some (.ints k [x])
  | .c (.bool x) => some (.bools [x])
  | .c x => some (.cells [x])
  | .agg k => some k
  | .tup _ => none

def soundSV : SV → Prop
  | .c x => x.solid
  | _ => True

theorem Cell.solid_one {x : Cell} (hs : x.solid) {v : Value} (h : x.rel β I w v) : v.oneCell' = true := by
  have hD : ∀ {y : Cell} {v : Value}, y.solid → CellD I w y v → v.oneCell' = true := by
    intro y v hs h
    cases h with
    | flat x hx => cases y <;> first | rfl | exact hs | (simp [Cell.flat] at hx)
    | _ => rfl
  rcases Cell.clo_or x with ⟨f, cs, rfl⟩ | hc
  · obtain ⟨g, rfl, _⟩ := h; rfl
  · rw [Cell.rel_eq hc] at h
    cases x with
    | ptr id off => cases h; rfl
    | slice id off len cap => obtain ⟨_, _, rfl, _⟩ := h; rfl
    | map id => cases h; rfl
    | _ => exact hD hs h

theorem oneCell_cells {v : Value} (h : v.oneCell' = true) : v.cells = #[v] := by
  cases v <;> first | rfl | (simp [Value.oneCell'] at h)

theorem Cont.rel_one {x : Cell} {v : Value} (h : x.rel β I w v) : (Cont.cells [x]).rel β I w [v] := by
  refine ⟨rfl, fun j hj => ?_⟩
  obtain rfl : j = 0 := by simp only [Cont.len, List.length_cons, List.length_nil] at hj; omega
  exact ⟨v, rfl, h⟩

theorem SV.cont_cells {v : SV} {c : Cont} (h : v.cont = some c) (hs : soundSV v) {x : Value} (hr : v.rel β I w x) : c.rel β I w x.cells.toList ∧ (v.low n → c.low n) := by
  have one : ∀ y : Cell, v = .c y → x.cells = #[x] := by
    rintro y rfl
    exact oneCell_cells (Cell.solid_one hs hr)
  have scal : ∀ (y : Cell) (d : Cont), v = .c y → d.len = 1 → d.get 0 = y → d.rel β I w x.cells.toList := by
    intro y d hy h1 h2
    rw [one y hy]
    subst hy
    refine ⟨by simp [h1], fun j hj => ?_⟩
    obtain rfl : j = 0 := by omega
    exact ⟨x, rfl, by rw [h2]; exact hr⟩
  unfold SV.cont at h
  split at h <;> cases h
  all_goals first
    | exact ⟨scal _ _ rfl rfl rfl, fun _ => trivial⟩
    | exact ⟨scal _ _ rfl rfl rfl, fun h y hy => by obtain rfl := List.mem_singleton.1 hy; exact h⟩
    | skip
  obtain ⟨vs, rfl, hr⟩ := hr
  exact ⟨by simpa [Value.cells] using hr, fun h => h⟩

def allocS (ty : Nat → Ty) (t : TypeId) (H : Heap) (n : Nat) (K : SV → Heap → Nat → Prop) : Prop :=
  match zeroC (ty t) with
  | some z => K (.c (.ptr n 0)) ((n, .own t z z.len) :: H) (n + 1)
  | none => False

theorem run_zero {t : TypeId} {v : Value} (h : (P.info? t).bind (·.zero) = some v) : (zeroValue t).run P w = .ok v w := by
  obtain ⟨i, hi, hz⟩ := Option.bind_eq_some_iff.1 h
  simp [zeroValue, typeInfo, hi, hz]

theorem push_after {K : SV → Heap → Nat → Prop} (hH : HeapOK C β n H I w) {arr : Array Value} {t : TypeId} {c : Cont} {v : SV} {x : Value} (hK : K v ((n, .own t c arr.size) :: H) (n + 1)) (hc : c.rel β I w (arr.toList.take c.len)) (hb : c.low n) (hl : c.len ≤ arr.size)
    (hv : v.rel (upd β n (some w.heap.size)) I (w.alloc (.cells arr t)) x) (hvb : v.low (n + 1)) : AfterG C β n I w K x (w.alloc (.cells arr t)) :=
  ⟨(Below.refl _ w).alloc (Nat.le_refl _) _, v, _, n + 1, upd β n (some w.heap.size), I, hK, hv, hvb, Nat.le_succ _, upd_lt, hH.ext ((Below.refl _ w).alloc (Nat.le_refl _) _), hH.push hc hb hl⟩

theorem place_new {off : Nat} : place (upd β n (some w.heap.size)) n off = some ⟨w.heap.size, off, none⟩ := by
  simp [place, upd_same]

variable {ty : Nat → Ty} {a : Act}
theorem run_allocS (hT : TyOK P ty) (hH : HeapOK C β n H I w) {o : Oper} {t : TypeId} (ho : o.op = .alloc t) {K : SV → Heap → Nat → Prop} (h : allocS ty t H n K) : Runs P a o w (AfterG C β n I w K) := by
  unfold allocS at h
  split at h
  · rename_i z hz
    obtain ⟨v, hv, hc, hf⟩ := hT.zero t z hz
    refine Runs.of_value (v := .pointer (some ⟨w.heap.size, 0, none⟩)) (w' := w.alloc (.cells v.cells t)) ?_ ?_
    · simp [execOp, ho, Instr.alloc, run_zero hv, newVar, newRow]
    · have hs : v.cells.size = z.len := by rw [hc]; simp [Cont.vals_length]
      rw [← hs] at h
      refine push_after hH h ?_ (Cont.flat_low hf) (Nat.le_of_eq hs.symm) (by simp [SV.rel, Cell.rel, Cell.rel1, place_new]) (Nat.lt_succ_self n)
      rw [hc, List.take_of_length_le (by simp [Cont.vals_length])]
      exact (Cont.rel_flat hf).2 rfl
  · exact h.elim

def boxS (x : SV) (t : TypeId) (H : Heap) (n : Nat) (K : SV → Heap → Nat → Prop) : Prop :=
  soundSV x ∧ match x.cont with
  | some c => K (.c (.ptr n 0)) ((n, .own t c c.len) :: H) (n + 1)
  | none => False

theorem run_boxS (hH : HeapOK C β n H I w) {o : Oper} {t : TypeId} {x : Operand} (ho : o.op = .box t x) {v : SV} (hv : v.rel β I w (a.eval x)) (hvb : v.low n) {K : SV → Heap → Nat → Prop} (h : boxS v t H n K) : Runs P a o w (AfterG C β n I w K) := by
  obtain ⟨hs, h⟩ := h
  split at h
  · rename_i c hc
    obtain ⟨h1, h2⟩ := SV.cont_cells (n := n) hc hs hv
    refine Runs.of_value (v := .pointer (some ⟨w.heap.size, 0, none⟩)) (w' := w.alloc (.cells (a.eval x).cells t)) ?_ ?_
    · simp [execOp, ho, Instr.box, newVar, newRow]
    · have hs : (a.eval x).cells.size = c.len := by rw [← h1.1]; simp
      rw [← hs] at h
      refine push_after hH h ?_ (h2 hvb) (Nat.le_of_eq hs.symm) (by simp [SV.rel, Cell.rel, Cell.rel1, place_new]) (Nat.lt_succ_self n)
      rw [List.take_of_length_le (by simp [hs])]
      exact h1
  · exact h.elim

/-! ### a store -/
theorem solidAll_mem : ∀ {l : List Cell}, solidAll l → ∀ x ∈ l, x.solid
  | [], _, x, hx => by cases hx
  | y :: l, h, x, hx => by
    rcases List.mem_cons.1 hx with rfl | hx
    · exact h.1
    · exact solidAll_mem h.2 x hx
theorem Cont.solid_get {c : Cont} (h : c.solid) {j : Nat} (hj : j < c.len) : (c.get j).solid := by
  cases c with
  | cells l => exact solidAll_mem h _ (getD_mem hj)
  | _ => trivial
theorem Cont.rel_oneCell {c : Cont} (hs : c.solid) {vs : List Value} (h : c.rel β I w vs) : ∀ v ∈ vs, v.oneCell' = true := by
  intro v hv
  obtain ⟨j, hj, rfl⟩ := List.mem_iff_getElem.1 hv
  obtain ⟨u, hu, hr⟩ := h.2 j (by rw [← h.1]; exact hj)
  rw [List.getElem?_eq_getElem hj] at hu
  cases hu
  exact Cell.solid_one (Cont.solid_get hs (by rw [← h.1]; exact hj)) hr

theorem getD_set {α : Type} {l : List α} {i j : Nat} {x d : α} (hi : i < l.length) : (l.set i x).getD j d = if i = j then x else l.getD j d := by
  simp only [List.getD_eq_getElem?_getD, List.getElem?_set]
  split
  · rename_i e; subst e; simp
  · rfl

theorem Cont.set_spec {c : Cont} {i : Nat} (hi : i < c.len) {x : Cell} {K : Cont → Prop} (h : c.set i x K) :
    ∃ c', K c' ∧ c'.len = c.len ∧ (∀ j, c'.get j = if i = j then x else c.get j) ∧ (∀ n, c.low n → x.low n → c'.low n) ∧ x.solid := by
  unfold Cont.set at h
  split at h
  · refine ⟨_, h, by simp [Cont.len], fun j => ?_, fun _ _ _ => trivial, trivial⟩
    simp only [Cont.len] at hi; simp only [Cont.get, getD_set hi]; split <;> rfl
  · refine ⟨_, h, by simp [Cont.len], fun j => ?_, fun _ _ _ => trivial, trivial⟩
    simp only [Cont.len] at hi; simp only [Cont.get, getD_set hi]; split <;> rfl
  · refine ⟨_, h, by simp [Cont.len], fun j => ?_, fun _ _ _ => trivial, trivial⟩
    simp only [Cont.len] at hi; simp only [Cont.get, getD_set hi]; split <;> rfl
  · obtain ⟨rfl, h⟩ := h
    refine ⟨_, h, by simp [Cont.len], fun j => ?_, fun _ _ _ => trivial, trivial⟩
    simp only [Cont.len] at hi; simp only [Cont.get, getD_set hi]; split <;> rfl
  · refine ⟨_, h, by simp [Cont.len], fun j => ?_, fun _ _ _ => trivial, trivial⟩
    simp only [Cont.len] at hi; simp only [Cont.get, getD_set hi]; split <;> rfl
  · obtain ⟨hs, h⟩ := h
    refine ⟨_, h, by simp [Cont.len], fun j => ?_, fun n hc hx y hy => ?_, hs⟩
    · simp only [Cont.len] at hi; simp only [Cont.get, getD_set hi]
    · rcases List.mem_or_eq_of_mem_set hy with h | rfl
      · exact hc y h
      · exact hx
  · exact h.elim

/-- Other content in the place of a part. -/
def Cont.splice (c : Cont) (off : Nat) (d : Cont) (K : Cont → Prop) : Prop :=
  if off = 0 ∧ c.len = d.len then K d else
  match c, d with
  | .u8s l, .u8s m => K (.u8s (l.take off ++ m ++ l.drop (off + m.length)))
  | .u32s l, .u32s m => K (.u32s (l.take off ++ m ++ l.drop (off + m.length)))
  | .u64s l, .u64s m => K (.u64s (l.take off ++ m ++ l.drop (off + m.length)))
  | .ints k l, .ints k' m => k = k' ∧ K (.ints k (l.take off ++ m ++ l.drop (off + m.length)))
  | .bools l, .bools m => K (.bools (l.take off ++ m ++ l.drop (off + m.length)))
  | .cells l, d => K (.cells (l.take off ++ d.list ++ l.drop (off + d.len)))
  | _, _ => False

theorem splice_get {α : Type} {l m : List α} {off j : Nat} {d : α} (h : off + m.length ≤ l.length) : (l.take off ++ m ++ l.drop (off + m.length)).getD j d = if j < off then l.getD j d else if j < off + m.length then m.getD (j - off) d else l.getD j d := by
  have h1 : (l.take off).length = off := by simp; omega
  simp only [List.getD_eq_getElem?_getD, List.append_assoc]
  split
  · rw [List.getElem?_append_left (by omega), List.getElem?_take_of_lt (by omega)]
  · rw [List.getElem?_append_right (by omega), h1]
    split
    · rw [List.getElem?_append_left (by omega)]
    · rw [List.getElem?_append_right (by omega), List.getElem?_drop]
      congr 2; omega

theorem Cont.list_getD (c : Cont) {j : Nat} (h : j < c.len) (d : Cell) : c.list.getD j d = c.get j := by
  rw [List.getD_eq_getElem?_getD, Cont.list_get h]; rfl
theorem Cont.list_low {c : Cont} (h : c.low n) : ∀ x ∈ c.list, Cell.low n x := by
  cases c with
  | cells l => exact h
  | _ => intro x hx; simp only [Cont.list] at hx; obtain ⟨y, _, rfl⟩ := List.mem_map.1 hx; trivial

theorem Cont.splice_spec {c d : Cont} {off : Nat} (ho : off + d.len ≤ c.len) {K : Cont → Prop} (h : c.splice off d K) :
    ∃ c', K c' ∧ c'.len = c.len ∧ (∀ j, j < c.len → c'.get j = if j < off then c.get j else if j < off + d.len then d.get (j - off) else c.get j) ∧ (∀ n, c.low n → d.low n → c'.low n) := by
  have hl : d.list.length = d.len := Cont.list_length d
  have hg : ∀ j, j < d.len → d.list.getD j .nils = d.get j := fun j hj => Cont.list_getD d hj _
  have hlow : ∀ n, d.low n → ∀ x ∈ d.list, Cell.low n x := fun n h => Cont.list_low h
  unfold Cont.splice at h
  split at h
  · rename_i hz
    refine ⟨d, h, hz.2.symm, fun j hj => ?_, fun _ _ hd => hd⟩
    rw [hz.1, if_neg (by omega), if_pos (by omega)]; rfl
  · split at h
    · refine ⟨_, h, by simp only [Cont.len] at ho ⊢; simp; omega, fun j _ => ?_, fun _ _ _ => trivial⟩
      simp only [Cont.len] at ho; simp only [Cont.get, splice_get ho, Cont.len]; split; rfl; split <;> (rename_i e; first | exact (if_pos e).symm | exact (if_neg e).symm)
    · refine ⟨_, h, by simp only [Cont.len] at ho ⊢; simp; omega, fun j _ => ?_, fun _ _ _ => trivial⟩
      simp only [Cont.len] at ho; simp only [Cont.get, splice_get ho, Cont.len]; split; rfl; split <;> (rename_i e; first | exact (if_pos e).symm | exact (if_neg e).symm)
    · refine ⟨_, h, by simp only [Cont.len] at ho ⊢; simp; omega, fun j _ => ?_, fun _ _ _ => trivial⟩
      simp only [Cont.len] at ho; simp only [Cont.get, splice_get ho, Cont.len]; split; rfl; split <;> (rename_i e; first | exact (if_pos e).symm | exact (if_neg e).symm)
    · obtain ⟨rfl, h⟩ := h
      refine ⟨_, h, by simp only [Cont.len] at ho ⊢; simp; omega, fun j _ => ?_, fun _ _ _ => trivial⟩
      simp only [Cont.len] at ho; simp only [Cont.get, splice_get ho, Cont.len]; split; rfl; split <;> (rename_i e; first | exact (if_pos e).symm | exact (if_neg e).symm)
    · refine ⟨_, h, by simp only [Cont.len] at ho ⊢; simp; omega, fun j _ => ?_, fun _ _ _ => trivial⟩
      simp only [Cont.len] at ho; simp only [Cont.get, splice_get ho, Cont.len]; split; rfl; split <;> (rename_i e; first | exact (if_pos e).symm | exact (if_neg e).symm)
    · rename_i l _
      have ho0 := ho
      rw [← hl] at ho0
      have ho' := show _ ≤ l.length from ho0
      rw [← hl] at h
      refine ⟨_, h, by simp only [Cont.len]; simp; omega, fun j _ => ?_, fun n hc hd x hx => ?_⟩
      · simp only [Cont.get, splice_get ho']
        rw [hl]
        split
        · rfl
        · split
          · exact hg _ (by omega)
          · rfl
      · simp only [List.mem_append] at hx
        rcases hx with (hx | hx) | hx
        · exact hc x (List.mem_of_mem_take hx)
        · exact hlow n hd x hx
        · exact hc x (List.mem_of_mem_drop hx)
    · exact h.elim

def storeS (ty : Nat → Ty) (t : TypeId) (id off : Nat) (x : SV) (H : Heap) (n : Nat) (K : SV → Heap → Nat → Prop) : Prop :=
  match H.get id with
  | some (.own te c cap) => match x with
    | .c x => (ty t).one = true ∧ off < c.len ∧ c.set off x fun c' => K (.c (.raw undef)) ((id, .own te c' cap) :: H) n
    | .agg d => (match ty t with | .arr _ _ _ _ => True | .struct _ _ _ => True | _ => False) ∧ (ty t).size = d.len ∧ 0 < d.len ∧ off + d.len ≤ c.len ∧ d.solid ∧ c.splice off d fun c' => K (.c (.raw undef)) ((id, .own te c' cap) :: H) n
    | .tup _ => False
  | _ => False

theorem splice_take {α : Type} (A vs : List α) (off L : Nat) (h1 : off + vs.length ≤ L) (h2 : L ≤ A.length) :
    (A.take off ++ vs ++ A.drop (off + vs.length)).take L = (A.take L).take off ++ vs ++ (A.take L).drop (off + vs.length) := by
  rw [List.take_take, Nat.min_eq_left (by omega), List.take_append, List.take_of_length_le (by simp; omega), List.drop_take]
  congr 1
  simp
  congr 1
  omega

/-- Cells are written one behind the other. -/
theorem store_after (hH : HeapOK C β n H I w) {id off : Nat} {te : TypeId} {c c' : Cont} {cap : Nat} (hid : H.get id = some (.own te c cap)) {vs : List Value} (hoff : off + vs.length ≤ c.len) (hone : ∀ v ∈ vs, v.oneCell' = true)
    (hlen : c'.len = c.len) (hget : ∀ j, j < c.len → (off ≤ j ∧ j < off + vs.length → ∃ u, vs[j - off]? = some u ∧ (c'.get j).rel β I w u) ∧ (¬ (off ≤ j ∧ j < off + vs.length) → c'.get j = c.get j)) (hb : c'.low n) (hpos : 0 < c.len) :
    ∃ b, place β id off = some ⟨b, off, none⟩ ∧ ∃ w', (storeCells ⟨b, off, none⟩ vs).run P w = .ok () w' ∧ Ext I w I w' ∧ HeapOK C β n ((id, .own te c' cap) :: H) I w' := by
  rcases hH.holds id _ hid with ⟨b, arr, hb0, hw, hs, hc, hr⟩ | ⟨_, h0, _⟩
  · refine ⟨b, by simp [place, hb0], _, run_storeCells_at (P := P) b off te vs 0 arr w hw (by omega) hone, ?_⟩
    refine hH.write hid hb0 rfl rfl rfl (by simp [World.setRow]) (fun k _ hk => setRow_other w b k _ hk) (fun hE => .inl ⟨b, _, rfl, setRow_heap w b arr _ te (0, 0) hw, ?_, by omega, ?_⟩) hb
    · simp; omega
    · refine Cont.rel_mono (n := n) (fun _ _ => rfl) hE hb ?_
      simp only [Nat.add_zero]
      rw [hlen]
      rw [splice_take arr.toList vs off c.len hoff (by simp; omega)]
      have hAl : (arr.toList.take c.len).length = c.len := by simp; omega
      have hA : ((arr.toList.take c.len).take off).length = off := by rw [List.length_take, hAl]; omega
      refine ⟨?_, fun j hj => ?_⟩
      · simp only [List.length_append, hA, List.length_drop, hAl, hlen]; omega
      · obtain ⟨g1, g2⟩ := hget j (by omega)
        rw [hlen] at hj
        by_cases hin : off ≤ j ∧ j < off + vs.length
        · obtain ⟨u, hu, hru⟩ := g1 hin
          exact ⟨u, by rw [List.append_assoc, List.getElem?_append_right (by omega), hA, List.getElem?_append_left (by omega)]; exact hu, hru⟩
        · obtain ⟨u, hu, hru⟩ := hr.2 j hj
          refine ⟨u, ?_, by rw [g2 hin]; exact hru⟩
          by_cases hlt : j < off
          · rw [List.append_assoc, List.getElem?_append_left (by omega), List.getElem?_take_of_lt hlt]; exact hu
          · rw [List.append_assoc, List.getElem?_append_right (by omega), hA, List.getElem?_append_right (by omega), List.getElem?_drop]
            rw [show off + vs.length + (j - off - vs.length) = j by omega]; exact hu
  · omega

theorem run_storeS (hT : TyOK P ty) (hH : HeapOK C β n H I w) {o : Oper} {t : TypeId} {x y : Operand} (ho : o.op = .store t x y) {id off : Nat} (hx : a.eval x = .pointer (place β id off)) {v : SV} (hv : v.rel β I w (a.eval y)) (hvb : v.low n)
    {K : SV → Heap → Nat → Prop} (h : storeS ty t id off v H n K) : Runs P a o w (After C β n I w K) := by
  have key : ∀ {te : TypeId} {c c' : Cont} {cap : Nat} {vs : List Value}, H.get id = some (.own te c cap) → (a.eval y).cells.toList = vs → (P.info? t).map (·.size) = some vs.length → off + vs.length ≤ c.len → (∀ v ∈ vs, v.oneCell' = true) →
      c'.len = c.len → (∀ j, j < c.len → (off ≤ j ∧ j < off + vs.length → ∃ u, vs[j - off]? = some u ∧ (c'.get j).rel β I w u) ∧ (¬ (off ≤ j ∧ j < off + vs.length) → c'.get j = c.get j)) → c'.low n → 0 < c.len → K (.c (.raw undef)) ((id, .own te c' cap) :: H) n → Runs P a o w (After C β n I w K) := by
    intro te c c' cap vs hid hcells hsize hoff hone hlen hget hb hpos hK
    obtain ⟨b, hp, w', hrun, hE, hH'⟩ := store_after (P := P) hH hid hoff hone hlen hget hb hpos
    refine Runs.of_skip (w' := w') ?_ ⟨.c (.raw undef), _, n, β, I, hK, Cell.rel_val (β := β) (x := .raw undef) rfl, trivial, Nat.le_refl _, fun _ _ => rfl, hE, hH'⟩
    have hsz : (a.eval y).cells.size = vs.length := by rw [← hcells]; simp
    simp [execOp, ho, Instr.storeAt, hx, hp, Instr.sureAddr, storeVar, run_sizeOf' hsize, hsz, hcells, hrun]
  unfold storeS at h
  split at h
  · rename_i te c cap hid
    split at h
    · rename_i x
      obtain ⟨hf, hoff, h⟩ := h
      obtain ⟨c', hK, hl, hget, hb, hsol⟩ := Cont.set_spec hoff h
      have h1 := oneCell_cells (Cell.solid_one hsol hv)
      refine key hid (vs := [a.eval y]) (by rw [h1]) (by simpa using hT.size_one hf) (by simp; omega) (by simpa using Cell.solid_one hsol hv) hl (fun j hj => ⟨fun hin => ?_, fun hin => ?_⟩) (hb n (hH.low id _ hid).2 hvb) (by omega) hK
      · simp only [List.length_cons, List.length_nil] at hin
        obtain rfl : j = off := by omega
        exact ⟨a.eval y, by simp, by rw [hget, if_pos rfl]; exact hv⟩
      · simp only [List.length_cons, List.length_nil] at hin
        rw [hget, if_neg (by omega)]
    · rename_i d
      obtain ⟨hag, hsz, hd0, hoff, hsol, h⟩ := h
      obtain ⟨vs, he, hr⟩ := hv
      obtain ⟨c', hK, hl, hget, hb⟩ := Cont.splice_spec hoff h
      have hts : (P.info? t).map (·.size) = some vs.length := by
        rw [hr.1, ← hsz]
        refine hT.size t (fun e => ?_)
        rw [e] at hag; exact hag
      refine key hid (vs := vs) (by rw [he]; rfl) hts (by rw [hr.1]; exact hoff) (Cont.rel_oneCell hsol hr) hl (fun j hj => ⟨fun hin => ?_, fun hin => ?_⟩) (hb n (hH.low id _ hid).2 hvb) (by omega) hK
      · rw [hr.1] at hin
        obtain ⟨u, hu, hru⟩ := hr.2 (j - off) (by omega)
        exact ⟨u, hu, by rw [hget j hj, if_neg (by omega), if_pos hin.2]; exact hru⟩
      · rw [hr.1] at hin
        rw [hget j hj]
        split
        · rfl
        · rw [if_neg (by omega)]
    · exact h.elim
  · exact h.elim
end
end Go.Ab
