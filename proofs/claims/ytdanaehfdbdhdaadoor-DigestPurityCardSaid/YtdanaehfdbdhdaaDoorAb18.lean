/- A range over a function: an iterator's contract that hands each round data, the caller's law, and the loop of an iterator that yields. -/
import Derived.Test.YtdanaehfdbdhdaaDoorAb16
namespace Go.Ab
set_option linter.unusedVariables false
open Go.RowKit
section
variable {Γ : Ctx} {N : Nat} {C : CC} {β β' : Val} {n n' : Nat} {E : Env} {H H' : Heap} {I I' : Nat → Prop} {a : Act} {w w' : World} {m : Nat} {ro : Option Nat} {Q : Exit → Act → World → Prop}

/-! ### a state taken as the beginning of what follows -/
def ankC (w : World) (I : Nat → Prop) (β : Val) (n : Nat) (H : Heap) (D : List Deferred) : CC := { F := fun b => ∃ id o, H.get id = some o ∧ β id = some b, w0 := w, I0 := I, β0 := β, n0 := n, D := D }

theorem HeapOK.ank (h : HeapOK C β n H I w) (D : List Deferred) : HeapOK (ankC w I β n H D) β n H I w :=
  ⟨rfl, rfl, rfl, Nat.le_refl _, fun _ _ _ => rfl, h.holds, h.low, fun id o ho b hb => .inr ⟨id, o, ho, hb⟩, h.sep, h.off, h.ilt, fun _ h => .inl h, fun _ h => h⟩

theorem HeapOK.unank {D : List Deferred} (h : HeapOK C β n H I w) (k : HeapOK (ankC w I β n H D) β' n' H' I' w') : HeapOK C β' n' H' I' w' := by
  have hfr : ∀ b, (∃ id o, H.get id = some o ∧ β id = some b) → C.w0.heap.size ≤ b ∨ C.F b := fun b ⟨id, o, ho, hb⟩ => h.fresh id o ho b hb
  have hsz : w.heap.size ≤ w'.heap.size := k.size
  refine ⟨k.os.trans h.os, k.tape.trans h.tape, k.output.trans h.output, Nat.le_trans h.size hsz, fun b hb hF => ?_, k.holds, k.low, fun id o ho b hb => ?_, k.sep, k.off, k.ilt, fun b hb => ?_, fun b hb => k.base b (h.base b hb)⟩
  · refine (k.frame b (Nat.lt_of_lt_of_le hb h.size) fun hf => ?_).trans (h.frame b hb hF)
    rcases hfr b hf with h1 | h1
    · omega
    · exact hF h1
  · rcases k.fresh id o ho b hb with h1 | h1
    · exact .inl (Nat.le_trans h.size h1)
    · exact hfr b h1
  · rcases k.i0 b hb with h1 | h1 | h1
    · exact h.i0 b h1
    · exact .inr (.inl (Nat.le_trans h.size h1))
    · exact .inr (hfr b h1)

theorem HeapOK.ankExt {D : List Deferred} (h : HeapOK C β n H I w) (k : HeapOK (ankC w I β n H D) β' n' H' I' w') : Ext I w I' w' :=
  fun b hb => ⟨k.base b hb, k.frame b (h.ilt b hb) fun ⟨id, o, ho, hb'⟩ => h.off id o ho b hb' hb⟩

/-- A block that is neither data nor an own row. -/
structure Aside (β : Val) (H : Heap) (I : Nat → Prop) (w : World) (r : Nat) (o : Obj) : Prop where
  at' : w.heap[r]? = some o
  data : ¬ I r
  own : ∀ id o, H.get id = some o → ∀ b, β id = some b → b ≠ r

theorem Aside.lt {r : Nat} {o : Obj} (h : Aside β H I w r o) : r < w.heap.size := (Array.getElem?_eq_some_iff.1 h.at').1

theorem Aside.ank {D : List Deferred} {r : Nat} {o : Obj} (h : Aside β H I w r o) (k : HeapOK (ankC w I β n H D) β' n' H' I' w') : Aside β' H' I' w' r o := by
  have hno : ¬ ∃ id o, H.get id = some o ∧ β id = some r := fun ⟨id, o, ho, hb⟩ => h.own id o ho r hb rfl
  refine ⟨(k.frame r h.lt hno).trans h.at', fun hI => ?_, fun id o ho b hb e => ?_⟩
  · rcases k.i0 r hI with h1 | h1 | h1
    · exact h.data h1
    · exact absurd h.lt (Nat.not_lt.2 h1)
    · exact hno h1
  · subst e
    rcases k.fresh id o ho b hb with h1 | h1
    · exact absurd h.lt (Nat.not_lt.2 h1)
    · exact hno h1

theorem Aside.put {r r' : Nat} {o o' : Obj} (h : Aside β H I w r o) (hne : r ≠ r') : Aside β H I (w.putObj r' o') r o := ⟨(World.putObj_heap_other hne).trans h.at', h.data, h.own⟩
theorem Aside.same {r : Nat} {o : Obj} (h : Aside β H I w r o) (o' : Obj) : Aside β H I (w.putObj r o') r o' := ⟨World.putObj_heap_same h.lt, h.data, h.own⟩

theorem HeapOK.other (h : HeapOK C β n H I w) {r : Nat} {o : Obj} (hr : C.w0.heap.size ≤ r) (hA : Aside β H I w r o) (o' : Obj) : HeapOK C β n H I (w.putObj r o') ∧ Ext I w I (w.putObj r o') := by
  have hE : Ext I w I (w.putObj r o') := fun b hb => ⟨hb, World.putObj_heap_other (fun e => hA.data (e ▸ hb))⟩
  refine ⟨⟨h.os, h.tape, h.output, by rw [World.putObj_size]; exact h.size, fun k hk hf => ?_, fun id o' ho => ?_, h.low, h.fresh, h.sep, h.off, fun b hb => by rw [World.putObj_size]; exact h.ilt b hb, h.i0, h.base⟩, hE⟩
  · rw [World.putObj_heap_other (by omega)]; exact h.frame k hk hf
  · exact (h.holds id o' ho).mono (n := n) (fun _ _ => rfl) hE (h.low id o' ho).2 fun b hb => World.putObj_heap_other (hA.own id o' ho b hb)

/-- Another party's step: new memory, more of it data. -/
theorem HeapOK.party {D D' : Nat → Prop} {β1 : Val} {n1 : Nat} {H1 : Heap} (h : HeapOK C β n H I w) (k : HeapOK (pureC w D) β1 n1 H1 D' w') (hD : ∀ b, D b → I b) : HeapOK C β n H (fun b => I b ∨ D' b) w' := by
  have hs : Same w w' := k.same
  have hsz := hs.size
  refine (h.later hs).widen (fun b hb => .inl hb) (fun b hb => ?_) (fun id o ho b hb hI => ?_) (fun b hb => ?_)
  · rcases hb with hb | hb
    · exact Nat.lt_of_lt_of_le (h.ilt b hb) hsz
    · exact k.ilt b hb
  · rcases hI with hI | hI
    · exact h.off id o ho b hb hI
    · rcases k.i0 b hI with h1 | h1 | h1
      · exact h.off id o ho b hb (hD b h1)
      · have := (h.holds id o ho).lt hb
        have h1' : w.heap.size ≤ b := h1
        omega
      · exact h1
  · rcases hb with hb | hb
    · exact h.i0 b hb
    · rcases k.i0 b hb with h1 | h1 | h1
      · exact h.i0 b (hD b h1)
      · exact .inr (.inl (Nat.le_trans h.size h1))
      · exact h1.elim

theorem Aside.party {D D' : Nat → Prop} {β1 : Val} {n1 : Nat} {H1 : Heap} {r : Nat} {o : Obj} (h : Aside β H I w r o) (k : HeapOK (pureC w D) β1 n1 H1 D' w') (hD : ∀ b, D b → I b) : Aside β H (fun b => I b ∨ D' b) w' r o := by
  refine ⟨(k.same.block r h.lt).trans h.at', fun hI => ?_, h.own⟩
  rcases hI with hI | hI
  · exact h.data hI
  · rcases k.i0 r hI with h1 | h1 | h1
    · exact h.data (hD r h1)
    · exact absurd h.lt (Nat.not_lt.2 h1)
    · exact h1

/-- Other names for what nobody speaks of. -/
theorem HeapOK.reval (h : HeapOK C β' n' H I w) (hl : ∀ id o, H.get id = some o → id < n ∧ o.low n) (hβ : ∀ i, i < n → β' i = β i) : HeapOK C β n H I w := by
  have e : ∀ id o, H.get id = some o → β id = β' id := fun id o ho => (hβ id (hl id o ho).1).symm
  refine ⟨h.os, h.tape, h.output, h.size, h.frame, fun id o ho => ?_, hl, fun id o ho b hb => h.fresh id o ho b (e id o ho ▸ hb), fun i j oi oj hij hi hj b hb hb' => h.sep i j oi oj hij hi hj b (e i oi hi ▸ hb) (e j oj hj ▸ hb'), fun id o ho b hb => h.off id o ho b (e id o ho ▸ hb), h.ilt, h.i0, h.base⟩
  rw [e id o ho]
  exact (h.holds id o ho).mono (n := n) (fun i hi => (hβ i hi).symm) (Ext.refl _ _) (hl id o ho).2 fun _ _ => rfl
theorem Aside.reval {r : Nat} {o : Obj} (h : Aside β' H I w r o) (hl : ∀ id o, H.get id = some o → id < n ∧ o.low n) (hβ : ∀ i, i < n → β' i = β i) : Aside β H I w r o :=
  ⟨h.at', h.data, fun id o ho b hb => h.own id o ho b ((hβ id (hl id o ho).1).trans hb)⟩
theorem Aside.sub {H2 : Heap} {r : Nat} {o : Obj} (h : Aside β H I w r o) (hs : ∀ id o, H2.get id = some o → H.get id = some o) : Aside β H2 I w r o := ⟨h.at', h.data, fun id o ho => h.own id o (hs id o ho)⟩

/-! ### the contract of an iterator that yields the values xs, one after another -/
def SeqOK (P : Program) (glob : Nat → Option Cont) (g : FuncId) (caps xs : List SV) : Prop :=
  ∀ (I : Nat → Prop) (W : World) (cs : List Value) (l : Nat), GlobOK glob I W → (∀ b, I b → b < W.heap.size) → ArgsD I W caps cs →
  ∀ J : Nat → (Nat → Prop) → World → Prop,
    (∀ k D w D' w' β n H, J k D w → HeapOK (pureC w D) β n H D' w' → J k D' w') →
    (∀ k D w x v m, xs[k]? = some x → J k D w → ArgsD D w [x] [v] → YieldAt Fence.wide m P l #[v] w fun e w' => e = .returned (.bool true) ∧ J (k + 1) D w' ∧ ∀ b, D b → w'.heap[b]? = w.heap[b]?) →
    J 0 I W → Calls P g (#[.func (.yield l) #[] #[]] ++ cs.toArray) W fun e w' => (∃ v, e = .returned v) ∧ ∃ D, J xs.length D w'

/-- Code at the wide fence, in a round or not. -/
def WPi (Γ : Ctx) (N : Nat) (C : CC) (ro : Option Nat) (m : Nat) (c : Code) (E : Env) (H : Heap) (n : Nat) (Q : Exit → Act → World → Prop) : Prop :=
  ∀ β I a w, St Γ N C β n E H I a w → c.wpIn (fr ro) m Γ.P Q a w
theorem WPi_region (hΓ : Γ.OK) {id : Nat} {l : List Oper} (h : ∀ K : Env → Heap → Nat → Prop, (∀ E H n, Done Γ N C E H n (Q .normal) → K E H n) → wpY Γ N l E H n K) : WPi Γ N C ro m (.region id l.toArray false) E H n Q :=
  fun _ _ _ _ hS => regionIn_k hΓ h hS
theorem WPi_block {id : Nat} {c : Code} (h : WPi Γ N C ro m c E H n (Exit.inBlock id Q)) : WPi Γ N C ro m (.block id c) E H n Q := fun β I a w hS => wpIn_block (h β I a w hS)

theorem y_nil {K : Env → Heap → Nat → Prop} (h : K E H n) : wpY Γ N [] E H n K := h
theorem y_step {o : Oper} {os : List Oper} {d : Nat} {K : Env → Heap → Nat → Prop} (hd : o.dst = some d) (hN : d < N) (hg : o.guard = none) (hnd : ∀ c, o.op ≠ .defer c)
    (h : ∀ K' : SV → Heap → Nat → Prop, (∀ v H n, wpY Γ N os ((d, v) :: E) H n K → K' v H n) → stepS Γ o E H n K') : wpY Γ N (o :: os) E H n K := by
  refine ⟨⟨by rw [hd]; exact hN, hg, hnd⟩, ?_⟩
  rw [hd]
  exact h _ fun _ _ _ h => h

theorem Heap.sub_of {H : Heap} : ∀ {H' : Heap}, (∀ x ∈ H', H.get x.1 = some x.2) → ∀ i o, H'.get i = some o → H.get i = some o
  | [], _, _, _, h => by cases h
  | (j, u) :: H', hx, i, o, h => by
    simp only [Heap.get] at h
    split at h
    · rename_i e; cases h; subst e; exact hx _ List.mem_cons_self
    · exact Heap.sub_of (fun x hm => hx x (List.mem_cons_of_mem _ hm)) i o h

theorem WP_rangeF (hΓ : Γ.OK) {g : Operand} {p : Tmp} {assign body : Code} {gf : FuncId} {caps : List Cell} {xs : List SV}
    (hen : Enters Γ.P gf) (hseq : SeqOK Γ.P Γ.glob gf (caps.map .c) xs) (hg : E.ev Γ.glob g = some (.c (.clo gf caps))) (hcaps : ∀ v ∈ caps.map SV.c, v.low 0) (hp : p < N)
    (Hk : Nat → Heap) (h0 : Hk 0 = H) (hids : ∀ k id o, (Hk k).get id = some o → ∃ o', H.get id = some o') (hlow : ∀ k id o, (Hk k).get id = some o → id < n ∧ o.low n) (E1 : Nat → Env)
    (hassign : ∀ k x, xs[k]? = some x → ∀ C' ro m Q, Done Γ N C' (E1 k) (Hk k) n (Q .normal) → WPi Γ N C' ro m assign ((p, x) :: E) (Hk k) n Q)
    (hbody : ∀ k x, xs[k]? = some x → ∀ C' ro m Q, (∀ E' H' n', (∀ id o, (Hk (k + 1)).get id = some o → H'.get id = some o) → Done Γ N C' E' H' n' (Q .normal)) → WPi Γ N C' ro m body (E1 k) (Hk k) n Q)
    (hend : ∀ β I w d, HeapOK C β n (Hk xs.length) I w → C.w0.heap.size ≤ d → Aside β (Hk xs.length) I w d (.deferred (some [])) → Done Γ N (ankC w I β n (Hk xs.length) ({ target := .collected d, args := #[] } :: C.D)) E (Hk xs.length) n (Q .normal)) :
    WP Γ N C (.rangeFunc g #[p] assign body) E H n Q := by
  intro β I a w hS
  refine (wpIn_wide (n := 0)).1 (wpIn_rangeFunc ?_)
  intro fn hfn
  obtain ⟨hev, hevl⟩ := ev_sound hS.env hS.glob hg
  obtain ⟨f', vs', cs, ⟨rfl, rfl⟩, hval, hrel⟩ := calleeS_sound (x := .c (.clo gf caps)) hev hevl (vs := []) (xs := []) ⟨rfl, fun j v hv => by simp at hv⟩ (K := fun f vs => f = gf ∧ vs = caps.map .c) (by
    unfold calleeS
    split
    · rename_i e; cases e; exact ⟨rfl, rfl⟩
    · rename_i e; cases e; exact ⟨rfl, rfl⟩
    · rename_i h1 h2; exact absurd rfl (h2 _ _))
  have hargs : ArgsD I w (caps.map .c) cs.toList := by
    refine ⟨by simpa using hrel.1, fun j v hv => ?_⟩
    obtain ⟨x, hx, hr, _⟩ := hrel.2 j v hv
    have hl0 := hcaps v (List.mem_of_getElem? hv)
    exact ⟨x, by simpa using hx, SV.rel_mono (n := 0) (fun i hi => absurd hi (Nat.not_lt_zero i)) (Ext.refl _ _) hl0 hr, hl0⟩
  obtain ⟨rec, hrec⟩ : ∃ rec : LoopState → Loop, rec = fun st => { state := st, pending := none, fn, tmps := a.tmps, params := #[p], assign, body, defers := w.heap.size } := ⟨_, rfl⟩
  obtain ⟨W1, hW1⟩ : ∃ W1, (w.alloc (.deferred (some []))).alloc (.loop (rec .ready)) = W1 := ⟨_, rfl⟩
  have hSame : Same w W1 := by rw [← hW1]; exact ((Below.refl _ w).alloc (Nat.le_refl _) _).alloc (by simp) _
  have hL1 : W1.heap[w.heap.size + 1]? = some (.loop (rec .ready)) := by
    rw [← hW1]; have := World.alloc_heap_new (w.alloc (.deferred (some []))) (.loop (rec .ready)); rwa [World.size_alloc] at this
  have hK1 : W1.heap[w.heap.size]? = some (.deferred (some [])) := by
    rw [← hW1]; exact (Below.heap_alloc _ _ _ (by simp)).trans (World.alloc_heap_new w _)
  have hblk : ∀ k id o, (Hk k).get id = some o → ∀ b, β id = some b → b < w.heap.size := fun k id o ho b hb => by
    obtain ⟨o', ho'⟩ := hids k id o ho
    exact (hS.heap.holds id o' ho').lt hb
  have hC := hS.heap.size
  let J : Nat → (Nat → Prop) → World → Prop := fun k D W => ∃ I', HeapOK C β n (Hk k) I' W ∧ Ext I w I' W ∧ (∀ b, D b → I' b) ∧ Aside β (Hk k) I' W (w.heap.size + 1) (.loop (rec .ready)) ∧ Aside β (Hk k) I' W w.heap.size (.deferred (some []))
  refine ⟨w.heap.size + 1, [{ target := .collected w.heap.size, args := #[] }], W1, { target := .fn (.func f') cs, args := #[.func (.yield (w.heap.size + 1)) #[] #[]] }, W1, f',
    #[.func (.yield (w.heap.size + 1)) #[] #[]] ++ cs, W1, ?_, ?_, fun _ _ => trivial, ?_, fun h => Bool.noConfusion h, ?_⟩
  · rw [← hW1, hrec]; exact run_enterLoop_outer _ _ _ _ _
  · simp only [resolve, hval]
    simp [go_sem]
  · simp [invoke, go_sem, hen _ _]
  refine callsIn_wide.2 (Calls.mono (hseq I W1 cs.toList (w.heap.size + 1) ?_ ?_ ?_ J ?_ ?_ ?_) ?_)
  · exact hS.glob.mono (hS.heap.ext hSame)
  · exact fun b hb => Nat.lt_of_lt_of_le (hS.heap.ilt b hb) hSame.size
  · exact hargs.mono (hS.heap.ext hSame)
  · -- the iterator's own steps
    rintro k D W D' W' β1 n1 H1 ⟨I', hH, hE, hD, hA1, hA2⟩ hk
    refine ⟨_, hH.party hk hD, fun b hb => ?_, fun b hb => .inr hb, hA1.party hk hD, hA2.party hk hD⟩
    have h1 := hE b hb
    exact ⟨.inl h1.1, (hk.same.block b (hH.ilt b h1.1)).trans h1.2⟩
  · -- one round
    rintro k D W x v m hx ⟨I', hH, hE, hD, hA1, hA2⟩ hv
    have hy := run_yield (P := Γ.P) (args := #[v]) hA1.at' (by rw [hrec]; rfl)
    rw [hrec] at hy
    refine ⟨fn, _, assign, body, hy, roundIn_of_wpIn hfn ?_⟩
    obtain ⟨v', hv0, hv1, hv2⟩ := hv.2 0 x rfl
    obtain rfl : v = v' := by simpa using hv0
    have htm : (#[p].zip #[v]).foldl (fun tmps (t, a) => tmps.setIfInBounds t a) a.tmps = a.tmps.setIfInBounds p v := by simp
    have hSa : St Γ N (ankC W I' β n (Hk k) []) β n ((p, x) :: E) (Hk k) I' { tmps := a.tmps.setIfInBounds p v, defers := [] } W := by
      refine ⟨⟨rfl, fun i u hu => ?_, fun i u hu => ?_⟩, by simpa using hS.size, hH.ank [], hS.glob.mono hE, Nat.le_refl _, fun _ _ => rfl⟩
      · simp only [Env.get] at hu
        split at hu
        · rename_i e; cases hu; subst e
          exact ⟨v, by simp [hS.size, hp], SV.rel_mono (n := 0) (fun i hi => absurd hi (Nat.not_lt_zero i)) (fun b hb => ⟨hD b hb, rfl⟩) hv2 hv1⟩
        · rename_i e
          obtain ⟨y, h1, h2⟩ := hS.env.slot i u hu
          exact ⟨y, by simpa [Array.getElem?_setIfInBounds_ne e] using h1, SV.rel_mono (n := n) (fun _ _ => rfl) hE (hS.env.low i u hu) h2⟩
      · simp only [Env.get] at hu
        split at hu
        · cases hu; exact SV.low_mono (Nat.zero_le _) hv2
        · exact hS.env.low i u hu
    show assign.wpIn (fr (some (w.heap.size + 1))) m Γ.P _ { tmps := (#[p].zip #[v]).foldl (fun tmps (t, a) => tmps.setIfInBounds t a) a.tmps, defers := [] } W
    rw [htm]
    refine hassign k x hx _ (some (w.heap.size + 1)) m _ ?_ β I' _ W hSa
    intro βa Ia aa Wa hSt
    have hβa : ∀ i, i < n → βa i = β i := fun i hi => hSt.anch.2 i hi
    have hHa : HeapOK C β n (Hk k) Ia Wa := (hH.unank hSt.heap).reval (hlow k) hβa
    have hEa : Ext I' W Ia Wa := hH.ankExt hSt.heap
    have hA1a : Aside β (Hk k) Ia Wa (w.heap.size + 1) (.loop (rec .ready)) := (hA1.ank hSt.heap).reval (hlow k) hβa
    have hA2a : Aside β (Hk k) Ia Wa w.heap.size (.deferred (some [])) := (hA2.ank hSt.heap).reval (hlow k) hβa
    refine ⟨_, run_beginRound hA1a.at' (by rw [hrec]), ?_⟩
    obtain ⟨hHb, hEb⟩ := hHa.other (by omega) hA1a (.loop { rec .ready with state := .busy })
    have hA1b := hA1a.same (.loop { rec .ready with state := .busy })
    have hA2b := hA2a.put (o' := .loop { rec .ready with state := .busy }) (show w.heap.size ≠ w.heap.size + 1 by omega)
    refine hbody k x hx (ankC _ Ia β n (Hk k) []) (some (w.heap.size + 1)) m _ ?_ β Ia aa _ ⟨hSt.env.mono (fun i hi => (hβa i hi).symm) hEb (Nat.le_refl _), hSt.size, hHb.ank [], hSt.glob.mono hEb, Nat.le_refl _, fun _ _ => rfl⟩
    intro E' H' n'' hsub βc Ic a3 W3 hSt3
    have hβc : ∀ i, i < n → βc i = β i := fun i hi => hSt3.anch.2 i hi
    have hHc : HeapOK C β n (Hk (k + 1)) Ic W3 := ((hHb.unank hSt3.heap).sub hsub).reval (hlow _) hβc
    have hEc := hHb.ankExt hSt3.heap
    have hA1c : Aside β (Hk (k + 1)) Ic W3 (w.heap.size + 1) (.loop { rec .ready with state := .busy }) := ((hA1b.ank hSt3.heap).sub hsub).reval (hlow _) hβc
    have hA2c : Aside β (Hk (k + 1)) Ic W3 w.heap.size (.deferred (some [])) := ((hA2b.ank hSt3.heap).sub hsub).reval (hlow _) hβc
    have hend2 := run_endRound (P := Γ.P) none hA1c.at'
    refine ⟨_, _, hend2, rfl, ?_, ?_⟩
    · obtain ⟨hHd, hEd⟩ := hHc.other (by omega) hA1c (.loop (rec .ready))
      have e : ({ rec .ready with state := .busy } : Loop) = rec .busy := by rw [hrec]
      have e2 : ({ { rec .ready with state := .busy } with state := if (none : Option Code).isNone then LoopState.ready else .done, pending := none } : Loop) = rec .ready := by rw [hrec]; rfl
      rw [e2]
      refine ⟨Ic, hHd, hE.trans (hEa.trans (hEb.trans (hEc.trans hEd))), fun b hb => ((hEa.trans (hEb.trans hEc)) b (hD b hb)).1, hA1c.same _, hA2c.put (show w.heap.size ≠ w.heap.size + 1 by omega)⟩
    · intro b hb
      have h1 := (hEa.trans (hEb.trans hEc)) b (hD b hb)
      rw [World.putObj_heap_other (show b ≠ w.heap.size + 1 from fun e => hA1c.data (e ▸ h1.1))]
      exact h1.2
  · refine ⟨I, by rw [h0]; exact hS.heap.later hSame, hS.heap.ext hSame, fun b hb => hb, ⟨hL1, fun h => ?_, fun id o ho b hb e => ?_⟩, ⟨hK1, fun h => ?_, fun id o ho b hb e => ?_⟩⟩
    · have := hS.heap.ilt _ h; omega
    · have := hblk 0 id o ho b hb; omega
    · have := hS.heap.ilt _ h; omega
    · have := hblk 0 id o ho b hb; omega
  · -- behind the iterator
    rintro e W2 ⟨⟨v, rfl⟩, D, I', hH, hE, hD, hA1, hA2⟩
    have hl := run_endLoop (P := Γ.P) hA1.at' (by rw [hrec]; simp)
    refine ⟨none, W2.putObj (w.heap.size + 1) (.loop { rec .ready with state := .exhausted }), ?_, ?_⟩
    · rw [hrec] at hl ⊢; exact hl
    · obtain ⟨hHd, hEd⟩ := hH.other (by omega) hA1 (.loop { rec .ready with state := .exhausted })
      have hA3 := hA2.put (o' := .loop { rec .ready with state := .exhausted }) (show w.heap.size ≠ w.heap.size + 1 by omega)
      have hE3 := hE.trans hEd
      refine hend β I' _ w.heap.size hHd (by omega) hA3 β I' _ _ ⟨⟨?_, fun i u hu => ?_, hS.env.low⟩, hS.size, hHd.ank _, hS.glob.mono hE3, Nat.le_refl _, fun _ _ => rfl⟩
      · show _ :: a.defers = _ :: C.D
        rw [hS.env.defers]
      · obtain ⟨y, h1, h2⟩ := hS.env.slot i u hu
        exact ⟨y, h1, SV.rel_mono (n := n) (fun _ _ => rfl) hE3 (hS.env.low i u hu) h2⟩
end
end Go.Ab
