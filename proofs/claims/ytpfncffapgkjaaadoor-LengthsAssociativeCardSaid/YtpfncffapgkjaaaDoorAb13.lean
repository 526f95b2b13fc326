/- The end of a function; contracts out of walks. -/
import Derived.Test.YtpfncffapgkjaaaDoorAb12
namespace Go.Ab
set_option linter.unusedVariables false
open Go.RowKit
section
variable {Γ : Ctx} {N : Nat} {C : CC} {β : Val} {n : Nat} {E : Env} {H : Heap} {I : Nat → Prop} {a : Act} {w : World}

def SV.part : SV → Option Part
  | .c x => some (.c x)
  | .agg k => some (.agg k)
  | .tup _ => none

def resS (Γ : Ctx) (E : Env) (H : Heap) : List ResultVar → (List SV → Prop) → Prop
  | [], K => K []
  | .tmp t :: rs, K => onV (E.get t) fun v => resS Γ E H rs fun vs => K (v :: vs)
  | .cell p t :: rs, K => onV (E.get p) fun v => atS H v fun c off => loadS Γ.ty t c off fun v => resS Γ E H rs fun vs => K (v :: vs)

def partsOf : List SV → Option (List Part)
  | [] => some []
  | v :: vs => match v.part, partsOf vs with
    | some p, some l => some (p :: l)
    | _, _ => none
/-- The results as one value. -/
def packS : List SV → (SV → Prop) → Prop
  | [v], K => K v
  | vs, K => match partsOf vs with
    | some ps => K (.tup ps)
    | none => False

theorem partsOf_spec : ∀ {vs : List SV} {ps : List Part}, partsOf vs = some ps → ps.length = vs.length ∧ ∀ (j : Nat) p, ps[j]? = some p → ∃ v, vs[j]? = some v ∧ v.part = some p
  | [], ps, h => by simp only [partsOf, Option.some.injEq] at h; subst h; exact ⟨rfl, fun j p hp => by simp at hp⟩
  | v :: vs, ps, h => by
    unfold partsOf at h
    split at h
    · rename_i p l hp hl
      cases h
      obtain ⟨h1, h2⟩ := partsOf_spec hl
      refine ⟨by simp [h1], fun j q hq => ?_⟩
      cases j with
      | zero => simp at hq; subst hq; exact ⟨v, rfl, hp⟩
      | succ j => have := h2 j q (by simpa using hq); simpa using this
    · cases h
theorem SV.part_rel {v : SV} {p : Part} (h : v.part = some p) {x : Value} (hr : v.rel β I w x) (hl : v.low n) : p.rel β I w x ∧ p.low n := by
  cases v <;> simp only [SV.part, Option.some.injEq, reduceCtorEq] at h <;> subst h <;> exact ⟨hr, hl⟩

def resF (tmps : Array Value) : ResultVar → Sem Value
  | .tmp t => pure (tmps.getD t undef)
  | .cell p t => do loadVar t (← asAddr (tmps.getD p undef))
theorem results_eq (fn : Func) (tmps : Array Value) : results fn tmps = (do let vs ← fn.results.mapM (resF tmps); pure (if h : vs.size = 1 then vs[0] else .tuple vs)) := by
  unfold results
  congr 1

theorem resS_sound (hΓ : Γ.OK) (hS : St Γ N C β n E H I a w) : ∀ {rs : List ResultVar} {K : List SV → Prop}, resS Γ E H rs K →
    ∃ vs xs, K vs ∧ callRel β n I w vs xs ∧ vs.length = rs.length ∧ (rs.mapM (resF a.tmps)).run Γ.P w = .ok xs w
  | [], K, h => ⟨[], [], h, ⟨rfl, fun j v hv => by simp at hv⟩, rfl, rfl⟩
  | .tmp t :: rs, K, h => by
    unfold resS onV at h
    split at h
    · rename_i v hv
      obtain ⟨vs, xs, hK, hc, hl, hr⟩ := resS_sound hΓ hS h
      obtain ⟨x, hx, hrel⟩ := hS.env.slot t v hv
      refine ⟨v :: vs, x :: xs, hK, ⟨by simp [hc.1], fun j u hu => ?_⟩, by simp [hl], ?_⟩
      · cases j with
        | zero => simp at hu; subst hu; exact ⟨x, rfl, hrel, hS.env.low t _ hv⟩
        | succ j => have := hc.2 j u (by simpa using hu); simpa using this
      · have h3 : (resF a.tmps (.tmp t)).run Γ.P w = .ok x w := by simp [resF, hx]
        rw [List.mapM_cons]
        simp only [Sem.run_bind, h3, Result.andThen_ok, hr, Sem.run_pure]
    · exact h.elim
  | .cell p t :: rs, K, h => by
    unfold resS onV at h
    split at h
    · rename_i v hv
      obtain ⟨y, hy, hrel⟩ := hS.env.slot p v hv
      obtain ⟨c, off, h, hlow, hp⟩ := atS_sound hS.heap hrel h
      obtain ⟨sv, u, h, hb, hru, hrun⟩ := loadS_sound (P := Γ.P) hΓ.ty hlow hp h
      obtain ⟨vs, xs, hK, hc, hl, hr⟩ := resS_sound hΓ hS h
      refine ⟨sv :: vs, u :: xs, hK, ⟨by simp [hc.1], fun j z hz => ?_⟩, by simp [hl], ?_⟩
      · cases j with
        | zero => simp at hz; subst hz; exact ⟨u, rfl, hru, hb⟩
        | succ j => have := hc.2 j z (by simpa using hz); simpa using this
      · have h2 := hrun w (Below.refl _ _)
        have h3 : (resF a.tmps (.cell p t)).run Γ.P w = .ok u w := by
          simp only [resF, Array.getD_eq_getD_getElem?, hy, Option.getD_some]
          cases y with
          | pointer q =>
            cases q with
            | none => simp [Instr.loadAt, Instr.sureAddr, stuck] at h2
            | some ad => simpa [Instr.loadAt, Instr.sureAddr, asAddr] using h2
          | _ => simp [Instr.loadAt, Instr.sureAddr, stuck] at h2
        rw [List.mapM_cons]
        simp only [Sem.run_bind, h3, Result.andThen_ok, hr, Sem.run_pure]
    · exact h.elim

/-- What stands at the end: the results as one value, in the last state. -/
theorem results_sound (hΓ : Γ.OK) (hS : St Γ N C β n E H I a w) {fn : Func} {K : SV → Prop} (h : resS Γ E H fn.results.toList fun vs => packS vs K) :
    ∃ v x, K v ∧ v.rel β I w x ∧ v.low n ∧ (results fn a.tmps).run Γ.P w = .ok x w := by
  obtain ⟨vs, xs, hK, hc, hl, hr⟩ := resS_sound hΓ hS h
  have hm : (fn.results.mapM (resF a.tmps)).run Γ.P w = .ok xs.toArray w := by
    rw [Array.mapM_eq_mapM_toList]
    simp [hr]
  have hres : ∀ v : Value, (if h : xs.toArray.size = 1 then xs.toArray[0] else .tuple xs.toArray) = v → (results fn a.tmps).run Γ.P w = .ok v w := by
    rintro v rfl
    rw [results_eq]
    simp only [Sem.run_bind]
    rw [hm]
    rfl
  have many : vs.length ≠ 1 → (match partsOf vs with | some ps => K (.tup ps) | none => False) → ∃ v x, K v ∧ v.rel β I w x ∧ v.low n ∧ (results fn a.tmps).run Γ.P w = .ok x w := by
    intro hne hK
    split at hK
    · rename_i ps hps
      obtain ⟨h1, h2⟩ := partsOf_spec hps
      refine ⟨.tup ps, .tuple xs.toArray, hK, ⟨xs, rfl, by rw [hc.1, h1], fun j p hp => ?_⟩, fun p hp => ?_, hres _ ?_⟩
      · obtain ⟨v, hv, hvp⟩ := h2 j p hp
        obtain ⟨x, hx, hr, hlow⟩ := hc.2 j v hv
        exact ⟨x, hx, (SV.part_rel hvp hr hlow).1⟩
      · obtain ⟨j, hj, rfl⟩ := List.mem_iff_getElem.1 hp
        obtain ⟨v, hv, hvp⟩ := h2 j _ (List.getElem?_eq_getElem hj)
        obtain ⟨x, hx, hr, hlow⟩ := hc.2 j v hv
        exact (SV.part_rel hvp hr hlow).2
      · rw [dif_neg]
        show ¬ xs.length = 1
        rw [hc.1]; exact hne
    · exact hK.elim
  rcases vs with _ | ⟨v, _ | ⟨u, vs⟩⟩
  · exact many (by simp) hK
  · obtain ⟨x, hx, hr, hlow⟩ := hc.2 0 v rfl
    have hl1 := hc.1
    rcases xs with _ | ⟨y, _ | ⟨z, zs⟩⟩
    · simp at hl1
    · have : y = x := by simpa using hx
      subst this
      exact ⟨v, y, hK, hr, hlow, hres y rfl⟩
    · simp at hl1
  · exact many (by simp) hK

/-- A call that writes nothing old. -/
def pureC (w : World) (I : Nat → Prop) : CC := { F := fun _ => False, w0 := w, I0 := I }

theorem HeapOK.same {w0 : World} {I0 : Nat → Prop} (h : HeapOK (pureC w0 I0) β n H I w) : Same w0 w := ⟨h.os, h.tape, h.output, h.size, fun k hk => h.frame k hk (fun h => h)⟩
theorem HeapOK.grow {w0 : World} {I0 : Nat → Prop} (h : HeapOK (pureC w0 I0) β n H I w) : GrowI I0 w0 I w :=
  ⟨h.same, h.base, fun b hb => (h.i0 b hb).imp id fun h => h.resolve_right fun h => h, h.ilt⟩
theorem HeapOK.growRows {w0 : World} {I0 : Nat → Prop} (h : HeapOK (pureC w0 I0) β n H I w) (is : List Nat) : GrowI I0 w0 (withRows β H is I) w :=
  ⟨h.same, fun b hb => .inl (h.base b hb), fun b hb => by
    rcases hb with hb | ⟨id, o, _, ho, hb⟩
    · exact (h.i0 b hb).imp (fun h => h) fun h => h.resolve_right fun h => h
    · exact .inr ((h.fresh id o ho b hb).resolve_right fun h => h), withRows_lt h⟩

def PostFlat (w0 : World) (v : SV) (e : Ending) (w' : World) : Prop := e = .returned v.val ∧ Same w0 w'
def PostData (w0 : World) (I0 : Nat → Prop) (v : SV) (e : Ending) (w' : World) : Prop := ∃ x I', e = .returned x ∧ v.rel noVal I' w' x ∧ GrowI I0 w0 I' w'
def PostOwn (w0 : World) (I0 : Nat → Prop) (t : TypeId) (s len : Nat) (c : Cont) (e : Ending) (w' : World) : Prop := ∃ x I', e = .returned x ∧ OwnRow I0 w0 I' w' t s len c x ∧ GrowI I0 w0 I' w'

theorem Done_flat (hΓ : Γ.OK) {fn : Func} {w0 : World} {I0 : Nat → Prop} {v : SV} {Q' : Act → World → Prop} (hQ : ∀ a w, bodyPost Γ.P fn (PostFlat w0 v) .ret a w → Q' a w) (hf : v.flat = true) (rs : List ResultVar) (hrs : fn.results.toList = rs)
    (h : resS Γ E H rs fun vs => packS vs fun x => x = v) : Done Γ N (pureC w0 I0) E H n Q' := by
  subst hrs
  intro β I a w hS
  obtain ⟨u, x, rfl, hr, hl, hrun⟩ := results_sound hΓ hS h
  refine hQ a w ⟨hS.env.defers, x, hrun, ?_, hS.heap.same⟩
  rw [(SV.rel_flat hf).1 hr]

theorem Done_data (hΓ : Γ.OK) {fn : Func} {w0 : World} {I0 : Nat → Prop} {v : SV} {Q' : Act → World → Prop} (hQ : ∀ a w, bodyPost Γ.P fn (PostData w0 I0 v) .ret a w → Q' a w) (hv : v.low 0) (is : List Nat) (rs : List ResultVar) (hrs : fn.results.toList = rs)
    (h : resS Γ E H rs fun vs => packS vs fun x => x.to Γ.ty H is id v) : Done Γ N (pureC w0 I0) E H n Q' := by
  subst hrs
  intro β I a w hS
  obtain ⟨u, x, hto, hr, hl, hrun⟩ := results_sound hΓ hS h
  have hr' := svTo_sound (ρ := id) hS.heap hl hr hto
  exact hQ a w ⟨hS.env.defers, x, hrun, x, withRows β H is I, rfl, SV.rel_mono (n := 0) (fun i hi => absurd hi (Nat.not_lt_zero i)) (Ext.refl _ _) hv hr', hS.heap.growRows is⟩

/-- The result is an own slice from its row's beginning. -/
def ownRes (H : Heap) (t : TypeId) (s len : Nat) (c : Cont) (v : SV) : Prop :=
  match v with
  | .c .nils => len = 0 ∧ c.len = 0
  | .c (.slice id off l cap) => match H.get id with
    | some (.own t' c' capc) => t' = t ∧ off = 0 ∧ l = len ∧ c' = c ∧ c.len = len * s ∧ capc = cap * s ∧ c.isD
    | _ => False
  | _ => False

theorem Done_own (hΓ : Γ.OK) {fn : Func} {w0 : World} {I0 : Nat → Prop} {t : TypeId} {s len : Nat} {c : Cont} {Q' : Act → World → Prop} (hQ : ∀ a w, bodyPost Γ.P fn (PostOwn w0 I0 t s len c) .ret a w → Q' a w) (hs : 0 < s) (rs : List ResultVar) (hrs : fn.results.toList = rs)
    (h : resS Γ E H rs fun vs => packS vs (ownRes H t s len c)) : Done Γ N (pureC w0 I0) E H n Q' := by
  subst hrs
  intro β I a w hS
  obtain ⟨u, x, hto, hr, hl, hrun⟩ := results_sound hΓ hS h
  refine hQ a w ⟨hS.env.defers, x, hrun, x, I, rfl, ?_, hS.heap.grow⟩
  unfold ownRes at hto
  split at hto
  · obtain ⟨rfl, h0⟩ := hto
    have := (SV.rel_flat (x := .c .nils) rfl).1 hr
    subst this
    exact ⟨none, 0, 0, rfl, .inl rfl, Nat.le_refl _, by simpa using h0, .inr ⟨rfl, h0, by simp⟩, fun b hb => by cases hb⟩
  · rename_i id off l cap
    split at hto
    · rename_i t' c' capc hid
      obtain ⟨rfl, rfl, rfl, rfl, hcl, rfl, hd⟩ := hto
      obtain ⟨hlc, off', rfl, hoff⟩ := hr
      have hnew : ∀ b, β id = some b → w0.heap.size ≤ b ∧ ¬ I b := fun b hb => ⟨(hS.heap.fresh id _ hid b hb).resolve_right fun h => h, hS.heap.off id _ hid b hb⟩
      have hh := hS.heap.holds id _ hid
      have hhold : (SObj.own t' c' (cap * s)).Holds noVal I w (β id) := by
        rcases hh with ⟨b, arr, h1, h2, h3, h4, h5⟩ | h
        · refine .inl ⟨b, arr, h1, h2, h3, h4, h5.1, fun j hj => ?_⟩
          obtain ⟨u, hu, hru⟩ := h5.2 j hj
          exact ⟨u, hu, Cell.rel_of (Cell.rel_D (Cont.isD_get hd hj) hru)⟩
        · exact .inr h
      refine ⟨β id, cap, off', by simp [place], hoff, hlc, hcl, hhold, hnew⟩
    · exact hto.elim
  · exact hto.elim

/-! ### the beginning -/
def envOf : Nat → List SV → Env
  | _, [] => []
  | i, v :: vs => (i, v) :: envOf (i + 1) vs
theorem envOf_get : ∀ {vs : List SV} {k i : Nat} {v : SV}, (envOf k vs).get i = some v → ∃ j, i = k + j ∧ vs[j]? = some v
  | [], _, _, _, h => by cases h
  | u :: vs, k, i, v, h => by
    simp only [envOf, Env.get] at h
    split at h
    · rename_i e; cases h; subst e; exact ⟨0, rfl, rfl⟩
    · obtain ⟨j, hj, hv⟩ := envOf_get h
      exact ⟨j + 1, by omega, by simpa using hv⟩

/-- A function by the walk of its body. -/
theorem calls_of_WP {f : FuncId} {fn : Func} {c : Code} {vs : List SV} {xs : List Value} {R : Ending → World → Prop} (hf : Γ.P.funcs[f]? = some fn) (hb : fn.body = some c) (hN : fn.ntmps = N) (hn : vs.length ≤ N)
    (hH : HeapOK C β n H I w) (hG : GlobOK Γ.glob I w) (hA : C.n0 ≤ n ∧ ∀ i, i < C.n0 → β i = C.β0 i) (hD : C.D = []) (hr : callRel β n I w vs xs) (h : WP Γ N C c (envOf 0 vs) H n (bodyPost Γ.P fn R)) : Calls Γ.P f xs.toArray w R := by
  subst hN
  refine calls_of_wp hf hb (h β I _ w ⟨⟨hD.symm, fun i v hv => ?_, fun i v hv => ?_⟩, by simp [hr.1]; omega, hH, hG, hA⟩)
  · obtain ⟨j, rfl, hj⟩ := envOf_get hv
    obtain ⟨x, hx, hrel, _⟩ := hr.2 j v hj
    have hlt : j < xs.length := (List.getElem?_eq_some_iff.1 hx).1
    refine ⟨x, ?_, hrel⟩
    rw [Array.getElem?_append_left (by simp; omega)]
    simpa using hx
  · obtain ⟨j, rfl, hj⟩ := envOf_get hv
    obtain ⟨x, hx, _, hlow⟩ := hr.2 j v hj
    exact hlow

theorem HeapOK.init (hlt : ∀ b, I b → b < w.heap.size) : HeapOK (pureC w I) noVal 0 [] I w :=
  ⟨rfl, rfl, rfl, Nat.le_refl _, fun _ _ _ => rfl, fun _ _ h => (by cases h), fun _ _ h => (by cases h), fun _ _ h => (by cases h), fun _ _ _ _ _ h => (by cases h), fun _ _ h => (by cases h), hlt, fun _ h => .inl h, fun _ h => h⟩

theorem calls_pure {f : FuncId} {fn : Func} {c : Code} {vs : List SV} {xs : List Value} {R : Ending → World → Prop} (hf : Γ.P.funcs[f]? = some fn) (hb : fn.body = some c) (hN : fn.ntmps = N) (hn : vs.length ≤ N)
    (hG : GlobOK Γ.glob I w) (hlt : ∀ b, I b → b < w.heap.size) (hr : ArgsD I w vs xs) (h : WP Γ N (pureC w I) c (envOf 0 vs) [] 0 (bodyPost Γ.P fn R)) : Calls Γ.P f xs.toArray w R :=
  calls_of_WP hf hb hN hn (HeapOK.init hlt) hG ⟨Nat.le_refl _, fun i hi => absurd hi (Nat.not_lt_zero i)⟩ rfl hr h

/-- A contract out of a walk. -/
theorem flat_of {f : FuncId} {fn : Func} {c : Code} {q : QSpec} (hf : Γ.P.funcs[f]? = some fn) (hb : fn.body = some c) (hN : fn.ntmps = N)
    (h : ∀ vs K, q vs K → ∃ v, K v ∧ v.flat = true ∧ vs.length ≤ N ∧ ∀ w I, WP Γ N (pureC w I) c (envOf 0 vs) [] 0 (bodyPost Γ.P fn (PostFlat w v))) : FlatOK Γ.P Γ.glob f q := fun vs K hq => by
  obtain ⟨v, hK, hfl, hn, hw⟩ := h vs K hq
  exact ⟨v, hK, hfl, fun I w xs hG hlt hA => calls_pure hf hb hN hn hG hlt hA (hw w I)⟩
theorem data_of {f : FuncId} {fn : Func} {c : Code} {q : QSpec} (hf : Γ.P.funcs[f]? = some fn) (hb : fn.body = some c) (hN : fn.ntmps = N)
    (h : ∀ vs K, q vs K → ∃ v, K v ∧ v.low 0 ∧ vs.length ≤ N ∧ ∀ w I, WP Γ N (pureC w I) c (envOf 0 vs) [] 0 (bodyPost Γ.P fn (PostData w I v))) : DataOK Γ.P Γ.glob f q := fun vs K hq => by
  obtain ⟨v, hK, hfl, hn, hw⟩ := h vs K hq
  exact ⟨v, hK, hfl, fun I w xs hG hlt hA => calls_pure hf hb hN hn hG hlt hA (hw w I)⟩
theorem own_of {f : FuncId} {fn : Func} {c : Code} {q : OSpec} (hf : Γ.P.funcs[f]? = some fn) (hb : fn.body = some c) (hN : fn.ntmps = N)
    (h : ∀ vs K, q vs K → ∃ t s len k, K t s len k ∧ k.low 0 ∧ vs.length ≤ N ∧ ∀ w I, WP Γ N (pureC w I) c (envOf 0 vs) [] 0 (bodyPost Γ.P fn (PostOwn w I t s len k))) : OwnOK Γ.P Γ.glob f q := fun vs K hq => by
  obtain ⟨t, s, len, k, hK, hfl, hn, hw⟩ := h vs K hq
  exact ⟨t, s, len, k, hK, hfl, fun I w xs hG hlt hA => calls_pure hf hb hN hn hG hlt hA (hw w I)⟩

theorem inR_i64 {n : Int} : inR .i64 n ↔ -9223372036854775808 ≤ n ∧ n ≤ 9223372036854775807 := by simp [inR, IntKind.min, IntKind.max, IntKind.signed, IntKind.bits]

/-! ### one operation after another -/
variable {ops os : List Oper} {o : Oper}
theorem q_nil {K : Env → Prop} (h : K E) : wpQS Γ N ops [] E H K := h
theorem s_nil {K : Env → Heap → Nat → Prop} (h : K E H n) : wpS Γ N ops [] E H n K := h
theorem d_nil {K : Env → Heap → Nat → Prop} (h : K E H n) : wpD Γ N ops [] E H n K := h
theorem q_step {d : Nat} {K : Env → Prop} (hd : o.dst = some d) (hN : d < N) (hg : o.guard = none)
    (h : ∀ K' : SV → Prop, (∀ v, wpQS Γ N ops os ((d, v) :: E) H K → K' v) → quietS Γ o E H K') : wpQS Γ N ops (o :: os) E H K := by
  refine ⟨by rw [hd]; exact hN, ?_⟩
  rw [hg, hd]
  exact h _ fun _ h => h
theorem q_step0 {K : Env → Prop} (hd : o.dst = none) (hg : o.guard = none)
    (h : ∀ K' : SV → Prop, (∀ v, wpQS Γ N ops os E H K → K' v) → quietS Γ o E H K') : wpQS Γ N ops (o :: os) E H K := by
  refine ⟨by rw [hd]; trivial, ?_⟩
  rw [hg, hd]
  exact h _ fun _ h => h
theorem q_guard {d j : Nat} {want b : Bool} {K : Env → Prop} (hd : o.dst = some d) (hN : d < N) (hg : o.guard = some (j, want)) (hy : yieldE ops E j = some (some b))
    (h1 : b = want → ∀ K' : SV → Prop, (∀ v, wpQS Γ N ops os ((d, v) :: E) H K → K' v) → quietS Γ o E H K')
    (h2 : b = !want → wpQS Γ N ops os ((d, undefV) :: E) H K) : wpQS Γ N ops (o :: os) E H K := by
  refine ⟨by rw [hd]; exact hN, ?_⟩
  rw [hg, hd]
  simp only [hy]
  exact ⟨fun e => h1 e _ fun _ h => h, h2⟩
theorem q_guard0 {d j : Nat} {want : Bool} {K : Env → Prop} (hd : o.dst = some d) (hN : d < N) (hg : o.guard = some (j, want)) (hy : yieldE ops E j = some none)
    (h2 : wpQS Γ N ops os ((d, undefV) :: E) H K) : wpQS Γ N ops (o :: os) E H K := by
  refine ⟨by rw [hd]; exact hN, ?_⟩
  rw [hg, hd]
  simp only [hy]
  exact h2
theorem s_step {d : Nat} {K : Env → Heap → Nat → Prop} (hd : o.dst = some d) (hN : d < N) (hg : o.guard = none)
    (h : ∀ K' : SV → Heap → Nat → Prop, (∀ v H n, wpS Γ N ops os ((d, v) :: E) H n K → K' v H n) → stepS Γ o E H n K') : wpS Γ N ops (o :: os) E H n K := by
  refine ⟨by rw [hd]; exact hN, ?_⟩
  rw [hg, hd]
  exact h _ fun _ _ _ h => h
theorem s_step0 {K : Env → Heap → Nat → Prop} (hd : o.dst = none) (hg : o.guard = none)
    (h : ∀ K' : SV → Heap → Nat → Prop, (∀ v H n, wpS Γ N ops os E H n K → K' v H n) → stepS Γ o E H n K') : wpS Γ N ops (o :: os) E H n K := by
  refine ⟨by rw [hd]; trivial, ?_⟩
  rw [hg, hd]
  exact h _ fun _ _ _ h => h
theorem s_guard {d j : Nat} {want b : Bool} {K : Env → Heap → Nat → Prop} (hd : o.dst = some d) (hN : d < N) (hg : o.guard = some (j, want)) (hy : yieldE ops E j = some (some b))
    (h1 : b = want → ∀ K' : SV → Heap → Nat → Prop, (∀ v H n, wpS Γ N ops os ((d, v) :: E) H n K → K' v H n) → stepS Γ o E H n K')
    (h2 : b = !want → wpS Γ N ops os ((d, undefV) :: E) H n K) : wpS Γ N ops (o :: os) E H n K := by
  refine ⟨by rw [hd]; exact hN, ?_⟩
  rw [hg, hd]
  simp only [hy]
  exact ⟨fun e => h1 e _ fun _ _ _ h => h, h2⟩
theorem s_guard0 {d j : Nat} {want : Bool} {K : Env → Heap → Nat → Prop} (hd : o.dst = some d) (hN : d < N) (hg : o.guard = some (j, want)) (hy : yieldE ops E j = some none)
    (h2 : wpS Γ N ops os ((d, undefV) :: E) H n K) : wpS Γ N ops (o :: os) E H n K := by
  refine ⟨by rw [hd]; exact hN, ?_⟩
  rw [hg, hd]
  simp only [hy]
  exact h2
theorem d_read {i d : Nat} {r : List (Nat × Bool)} {K : Env → Heap → Nat → Prop} (ho : ops[i]? = some o) (hd : o.dst = some d) (hN : d < N) (hg : o.guard = none)
    (h : ∀ K' : SV → Prop, (∀ v, wpD Γ N ops r ((d, v) :: E) H n K → K' v) → readS Γ o E H K') : wpD Γ N ops ((i, true) :: r) E H n K := by
  unfold wpD
  rw [ho]
  refine ⟨by rw [hd]; exact hN, ?_⟩
  rw [hg, hd]
  exact h _ fun _ h => h
theorem d_grow {i d : Nat} {r : List (Nat × Bool)} {K : Env → Heap → Nat → Prop} (ho : ops[i]? = some o) (hd : o.dst = some d) (hN : d < N) (hg : o.guard = none)
    (h : ∀ K' : SV → Heap → Nat → Prop, (∀ v H n, wpD Γ N ops r ((d, v) :: E) H n K → K' v H n) → forceS Γ o E H n K') : wpD Γ N ops ((i, false) :: r) E H n K := by
  unfold wpD
  rw [ho]
  refine ⟨by rw [hd]; exact hN, ?_⟩
  rw [hg, hd]
  exact h _ fun _ _ _ h => h
theorem d_grow0 {i : Nat} {r : List (Nat × Bool)} {K : Env → Heap → Nat → Prop} (ho : ops[i]? = some o) (hd : o.dst = none) (hg : o.guard = none)
    (h : ∀ K' : SV → Heap → Nat → Prop, (∀ v H n, wpD Γ N ops r E H n K → K' v H n) → forceS Γ o E H n K') : wpD Γ N ops ((i, false) :: r) E H n K := by
  unfold wpD
  rw [ho]
  refine ⟨by rw [hd]; trivial, ?_⟩
  rw [hg, hd]
  exact h _ fun _ _ _ h => h
theorem d_readg {i d j : Nat} {want b : Bool} {r : List (Nat × Bool)} {K : Env → Heap → Nat → Prop} (ho : ops[i]? = some o) (hd : o.dst = some d) (hN : d < N) (hg : o.guard = some (j, want)) (hy : yieldE ops E j = some (some b))
    (h : b = want → ∀ K' : SV → Prop, (∀ v, wpD Γ N ops r ((d, v) :: E) H n K → K' v) → readS Γ o E H K') (h2 : b = !want → wpD Γ N ops r ((d, undefV) :: E) H n K) : wpD Γ N ops ((i, true) :: r) E H n K := by
  unfold wpD
  rw [ho]
  refine ⟨by rw [hd]; exact hN, ?_⟩
  rw [hg, hd]
  simp only [hy]
  exact ⟨fun e => h e _ fun _ h => h, h2⟩
theorem d_growg {i d j : Nat} {want b : Bool} {r : List (Nat × Bool)} {K : Env → Heap → Nat → Prop} (ho : ops[i]? = some o) (hd : o.dst = some d) (hN : d < N) (hg : o.guard = some (j, want)) (hy : yieldE ops E j = some (some b))
    (h : b = want → ∀ K' : SV → Heap → Nat → Prop, (∀ v H n, wpD Γ N ops r ((d, v) :: E) H n K → K' v H n) → forceS Γ o E H n K') (h2 : b = !want → wpD Γ N ops r ((d, undefV) :: E) H n K) : wpD Γ N ops ((i, false) :: r) E H n K := by
  unfold wpD
  rw [ho]
  refine ⟨by rw [hd]; exact hN, ?_⟩
  rw [hg, hd]
  simp only [hy]
  exact ⟨fun e => h e _ fun _ _ _ h => h, h2⟩
theorem d_guard0 {i d j : Nat} {q want : Bool} {r : List (Nat × Bool)} {K : Env → Heap → Nat → Prop} (ho : ops[i]? = some o) (hd : o.dst = some d) (hN : d < N) (hg : o.guard = some (j, want)) (hy : yieldE ops E j = some none)
    (h2 : wpD Γ N ops r ((d, undefV) :: E) H n K) : wpD Γ N ops ((i, q) :: r) E H n K := by
  unfold wpD
  rw [ho]
  refine ⟨by rw [hd]; exact hN, ?_⟩
  rw [hg, hd]
  simp only [hy]
  exact h2

/-! ### a truth value that later operations hang on: both ways -/
theorem q_split {d : Nat} {b : Bool} {K : Env → Prop} {K' : SV → Prop} (hS : ∀ v, wpQS Γ N ops os ((d, v) :: E) H K → K' v) (ht : b = true → wpQS Γ N ops os ((d, .c (.bool true)) :: E) H K) (hf : b = false → wpQS Γ N ops os ((d, .c (.bool false)) :: E) H K) : K' (.c (.bool b)) := by
  cases b
  · exact hS _ (hf rfl)
  · exact hS _ (ht rfl)
theorem s_split {d : Nat} {b : Bool} {K : Env → Heap → Nat → Prop} {K' : SV → Heap → Nat → Prop} (hS : ∀ v H n, wpS Γ N ops os ((d, v) :: E) H n K → K' v H n) (ht : b = true → wpS Γ N ops os ((d, .c (.bool true)) :: E) H n K) (hf : b = false → wpS Γ N ops os ((d, .c (.bool false)) :: E) H n K) : K' (.c (.bool b)) H n := by
  cases b
  · exact hS _ _ _ (hf rfl)
  · exact hS _ _ _ (ht rfl)
theorem d_split {d : Nat} {b : Bool} {r : List (Nat × Bool)} {K : Env → Heap → Nat → Prop} {K' : SV → Prop} (hS : ∀ v, wpD Γ N ops r ((d, v) :: E) H n K → K' v) (ht : b = true → wpD Γ N ops r ((d, .c (.bool true)) :: E) H n K) (hf : b = false → wpD Γ N ops r ((d, .c (.bool false)) :: E) H n K) : K' (.c (.bool b)) := by
  cases b
  · exact hS _ (hf rfl)
  · exact hS _ (ht rfl)
theorem d_splitg {d : Nat} {b : Bool} {r : List (Nat × Bool)} {K : Env → Heap → Nat → Prop} {K' : SV → Heap → Nat → Prop} (hS : ∀ v H n, wpD Γ N ops r ((d, v) :: E) H n K → K' v H n) (ht : b = true → wpD Γ N ops r ((d, .c (.bool true)) :: E) H n K) (hf : b = false → wpD Γ N ops r ((d, .c (.bool false)) :: E) H n K) : K' (.c (.bool b)) H n := by
  cases b
  · exact hS _ _ _ (hf rfl)
  · exact hS _ _ _ (ht rfl)
end
end Go.Ab
