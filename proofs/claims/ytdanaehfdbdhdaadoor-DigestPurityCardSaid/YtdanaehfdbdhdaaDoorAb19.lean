/- The loop of an iterator that yields; a function that holds a range over a function, by its walk. -/
import Derived.Test.YtdanaehfdbdhdaaDoorAb18
namespace Go.Ab
set_option linter.unusedVariables false
open Go.RowKit
section
variable {Γ : Ctx} {N : Nat} {C : CC} {β β' : Val} {n n' : Nat} {E : Env} {H H' : Heap} {I I' : Nat → Prop} {a : Act} {w w' : World} {m : Nat} {Q : Exit → Act → World → Prop}

theorem wp_loop_nat {P : Program} {body : Code} (At : Nat → Act → World → Prop) (K : Nat) (hK : ∀ k a w, At k a w → k ≤ K) (round : ∀ k a w, At k a w → body.wp P (Exit.then (At (k + 1)) Q) a w) (k : Nat) (a : Act) (w : World) (h : At k a w) : (Code.loop body).wp P Q a w := by
  intro b k' cs
  have key : ∀ m k a w, K + 1 - k = m → At k a w → ∃ e a' w', Q e a' w' ∧ Arrives P (lone (b.at a (.code body :: .inLoop body :: k')) cs w) b k' cs e a' w' := by
    intro m
    induction m with
    | zero => intro k a w hm h; have := hK k a w h; omega
    | succ m ih =>
      intro k a w hm h
      obtain ⟨e, a₁, w₁, hq, harr⟩ := round k a w h b (.inLoop body :: k') cs
      cases e with
      | normal =>
        obtain ⟨e₂, a₂, w₂, hq₂, harr₂⟩ := ih (k + 1) a₁ w₁ (by omega) hq
        exact ⟨e₂, a₂, w₂, hq₂, .of_steps (Steps.trans harr (.one step_inLoop)) harr₂⟩
      | exit id => exact ⟨_, a₁, w₁, hq, .pass (x := .inLoop body) rfl (fun _ _ => .inl (by simp)) harr⟩
      | goto l => exact ⟨_, a₁, w₁, hq, .pass (x := .inLoop body) rfl (fun _ _ => .inl (by simp)) harr⟩
      | ret => exact ⟨_, a₁, w₁, hq, .pass (x := .inLoop body) rfl (fun _ _ => .inl (by simp)) harr⟩
      | panic ch => exact ⟨_, a₁, w₁, hq, .pass (x := .inLoop body) rfl (fun _ _ => .inl (by simp)) harr⟩
      | outgrown => exact ⟨_, a₁, w₁, hq, .pass (x := .inLoop body) rfl (fun _ _ => .inl (by simp)) harr⟩
  obtain ⟨e, a', w', hq, harr⟩ := key _ k a w rfl h
  exact ⟨e, a', w', hq, .of_steps (.one step_loop) harr⟩

/-- An iterator between two of its yields: no rows of its own are left; what the caller wants (J) holds of its data and the world. -/
def AtJ (Γ : Ctx) (N : Nat) (J : (Nat → Prop) → World → Prop) (E : Env) (a : Act) (w : World) : Prop := ∃ D β n, J D w ∧ St Γ N (pureC w D) β n E [] D a w

theorem AtJ.wp {J : (Nat → Prop) → World → Prop} {c : Code} (hA : AtJ Γ N J E a w) (h : ∀ D w n, J D w → WP Γ N (pureC w D) c E [] n Q) : c.wp Γ.P Q a w := by
  obtain ⟨D, β, n, hJ, hS⟩ := hA
  exact h D w n hJ β D a w hS

theorem St.atJ {J : (Nat → Prop) → World → Prop} {w0 : World} {D0 : Nat → Prop} (hJ : J D0 w0) (hab : ∀ D w D' w' β n H, J D w → HeapOK (pureC w D) β n H D' w' → J D' w') (hS : St Γ N (pureC w0 D0) β n E H I a w) : AtJ Γ N J E a w :=
  ⟨I, β, n, hab _ _ _ _ _ _ _ hJ hS.heap, hS.env, hS.size, ⟨rfl, rfl, rfl, Nat.le_refl _, fun _ _ _ => rfl, fun _ _ h => (by cases h), fun _ _ h => (by cases h), fun _ _ h => (by cases h), fun _ _ _ _ _ h => (by cases h), fun _ _ h => (by cases h), hS.heap.ilt, fun _ h => .inl h, fun _ h => h⟩, hS.glob, Nat.zero_le _, fun i hi => absurd hi (Nat.not_lt_zero i)⟩

theorem Done_atJ {J : (Nat → Prop) → World → Prop} {w0 : World} {D0 : Nat → Prop} (hJ : J D0 w0) (hab : ∀ D w D' w' β n H, J D w → HeapOK (pureC w D) β n H D' w' → J D' w') : Done Γ N (pureC w0 D0) E H n (AtJ Γ N J E) :=
  fun _ _ _ _ hS => hS.atJ hJ hab

/-- From the engine's walk to what is known between two yields. -/
theorem WP_atJ {J : (Nat → Prop) → World → Prop} {w0 : World} {D0 : Nat → Prop} {c : Code} (hJ : J D0 w0) (hab : ∀ D w D' w' β n H, J D w → HeapOK (pureC w D) β n H D' w' → J D' w') (h : ∀ a w, AtJ Γ N J E a w → c.wp Γ.P Q a w) : WP Γ N (pureC w0 D0) c E H n Q :=
  fun _ _ a w hS => h a w (hS.atJ hJ hab)

theorem AtJ.sub {J : (Nat → Prop) → World → Prop} {E' : Env} (h : AtJ Γ N J E a w) (hs : ∀ i v, E'.get i = some v → E.get i = some v) : AtJ Γ N J E' a w := by
  obtain ⟨D, β, n, hJ, hS⟩ := h
  exact ⟨D, β, n, hJ, ⟨hS.env.defers, fun i v hv => hS.env.slot i v (hs i v hv), fun i v hv => hS.env.low i v (hs i v hv)⟩, hS.size, hS.heap, hS.glob, hS.anch⟩

theorem Env.sub_of {E : Env} : ∀ {E' : Env}, (∀ x ∈ E', E.get x.1 = some x.2) → ∀ i v, E'.get i = some v → E.get i = some v
  | [], _, _, _, h => by cases h
  | (j, u) :: E', hx, i, v, h => by
    simp only [Env.get] at h
    split at h
    · rename_i e; cases h; subst e; exact hx _ List.mem_cons_self
    · exact Env.sub_of (fun x hm => hx x (List.mem_cons_of_mem _ hm)) i v h

/-- A region in program order, one of whose operations is a call of yield. -/
theorem region_yield (hΓ : Γ.OK) {J J' : (Nat → Prop) → World → Prop} (hab : ∀ D w D' w' β n H, J D w → HeapOK (pureC w D) β n H D' w' → J D' w') (hab' : ∀ D w D' w' β n H, J' D w → HeapOK (pureC w D) β n H D' w' → J' D' w')
    {id d l : Nat} {ops : List Oper} (i : Nat) {o : Oper} (hi : ops[i]? = some o) {c : Call} {x : Operand} {y : SV} (ho : o.op = .call c) (hc : c.callee = .value x) (hg : o.guard = none) (hd : o.dst = some d) (hdN : d < N)
    (hy : ∀ D w v m, J D w → ArgsD D w [y] [v] → YieldAt Fence.wide m Γ.P l #[v] w fun e w' => e = .returned (.bool true) ∧ J' D w' ∧ ∀ b, D b → w'.heap[b]? = w.heap[b]?)
    {arg : Operand} (harg : c.args = #[arg]) {E2 : Env}
    (h : ∀ n, wpY Γ N (ops.take i) E [] n fun E1 H1 n1 => E1.ev Γ.glob x = some (.c (.raw (.func (.yield l) #[] #[]))) ∧ E1.ev Γ.glob arg = some y ∧ y.low 0 ∧ wpY Γ N (ops.drop (i + 1)) ((d, .c (.bool true)) :: E1) [] n1 fun E3 _ _ => ∀ i v, E2.get i = some v → E3.get i = some v)
    (hA : AtJ Γ N J E a w) (hQ : ∀ a w, AtJ Γ N J' E2 a w → Q .normal a w) : (Code.region id ops.toArray false).wp Γ.P Q a w := by
  obtain ⟨l1, hl1⟩ : ∃ l1, l1 = ops.take i := ⟨_, rfl⟩
  obtain ⟨l2, hl2⟩ : ∃ l2, l2 = ops.drop (i + 1) := ⟨_, rfl⟩
  have hops : ops = l1 ++ o :: l2 := by
    obtain ⟨hlt, hget⟩ := List.getElem?_eq_some_iff.1 hi
    rw [hl1, hl2, ← hget, List.getElem_cons_drop, List.take_append_drop]
  rw [← hl1, ← hl2] at h
  clear hl1 hl2 hi
  subst hops
  obtain ⟨D, β, n, hJ, hS⟩ := hA
  refine (wpIn_wide (n := 0)).1 (wpIn_region ?_)
  show wpOpsIn (fr none) 0 Γ.P _ Q _ a w
  have hr : List.range (l1 ++ o :: l2).toArray.size = List.range' 0 l1.length ++ (l1.length :: (List.range' (l1.length + 1) l2.length ++ [])) := by
    rw [List.append_nil, List.range_eq_range', ← List.range'_succ]
    simp only [List.size_toArray, List.length_append, List.length_cons]
    rw [← List.range'_append]
    simp
  rw [hr]
  refine wpY_sound hΓ ?_ l1 0 β n E [] D a w (fun j hj => by simp [List.getElem?_append_left hj]) hS (h n)
  rintro β1 n1 E1 H1 I1 a1 w1 ⟨hx, hv, hlow, h2⟩ hS1
  have hJ1 := hab _ _ _ _ _ _ _ hJ hS1.heap
  unfold wpOpsIn
  have h0 : (l1 ++ o :: l2).toArray[l1.length]? = some o := by simp
  simp only [h0, Region.wanted, hg, if_true]
  have hxv : a1.eval x = .func (.yield l) #[] #[] := (SV.rel_flat (x := .c (.raw _)) rfl).1 (ev_sound hS1.env hS1.glob hx).1
  have hvv := (ev_sound hS1.env hS1.glob hv).1
  have hargs : ArgsD I1 w1 [y] [a1.eval arg] := by
    refine ⟨rfl, fun j u hu => ?_⟩
    cases j with
    | zero => cases hu; exact ⟨_, rfl, SV.rel_mono (n := 0) (fun i hi => absurd hi (Nat.not_lt_zero i)) (Ext.refl _ _) hlow hvv, hlow⟩
    | succ j => simp at hu
  refine yield_wpIn (l := l) ho hc hxv (R := fun e w' => e = .returned (.bool true) ∧ J' I1 w' ∧ ∀ b, I1 b → w'.heap[b]? = w1.heap[b]?) (by rw [harg, show Array.map a1.eval #[arg] = #[a1.eval arg] by simp]; exact hy I1 w1 (a1.eval arg) _ hJ1 hargs) ?_
  rintro e w2 ⟨rfl, hJ2, hkeep⟩
  refine ⟨_, rfl, ?_⟩
  have hE : Ext I1 w1 I1 w2 := fun b hb => ⟨hb, hkeep b hb⟩
  have hS2 : St Γ N (pureC w2 I1) β1 n1 ((d, .c (.bool true)) :: E1) [] I1 (a1.put o.dst (.bool true)) w2 := by
    refine ⟨⟨by rw [hd]; exact hS1.env.defers, fun i u hu => ?_, fun i u hu => ?_⟩, by rw [hd]; simpa [Act.put] using hS1.size, ⟨rfl, rfl, rfl, Nat.le_refl _, fun _ _ _ => rfl, fun _ _ h => (by cases h), fun _ _ h => (by cases h), fun _ _ h => (by cases h), fun _ _ _ _ _ h => (by cases h), fun _ _ h => (by cases h), fun b hb => ?_, fun _ h => .inl h, fun _ h => h⟩, hS1.glob.mono hE, Nat.zero_le _, fun i hi => absurd hi (Nat.not_lt_zero i)⟩
    · rw [hd]
      simp only [Env.get] at hu
      split at hu
      · rename_i e; cases hu; subst e
        exact ⟨.bool true, by simp [Act.put, hS1.size, hdN], (SV.rel_flat (x := .c (.bool true)) rfl).2 rfl⟩
      · rename_i e
        obtain ⟨z, h1, h3⟩ := hS1.env.slot i u hu
        exact ⟨z, by simpa [Act.put, Array.getElem?_setIfInBounds_ne e] using h1, SV.rel_mono (n := n1) (fun _ _ => rfl) hE (hS1.env.low i u hu) h3⟩
    · simp only [Env.get] at hu
      split at hu
      · cases hu; exact SV.flat_low rfl
      · exact hS1.env.low i u hu
    · have h1 := hS1.heap.ilt b hb
      have h2 := hkeep b hb
      rw [Array.getElem?_eq_getElem h1] at h2
      exact (Array.getElem?_eq_some_iff.1 h2).1
  refine wpY_sound hΓ ?_ l2 (l1.length + 1) β1 n1 _ [] I1 _ w2 (fun j hj => by rw [List.getElem?_toArray, List.getElem?_append_right (by omega), show l1.length + 1 + j - l1.length = j + 1 by omega, List.getElem?_cons_succ]) hS2 h2
  rintro β3 n3 E3 H3 I3 a3 w3 hs hS3
  exact hQ a3 w3 ((hS3.atJ hJ2 hab').sub hs)

/-- What follows may be of another beginning. -/
theorem seq_kC {x y : Code} (h : ∀ K : Act → World → Prop, (∀ C E H n, WP Γ N C y E H n Q → Done Γ N C E H n K) → WP Γ N C x E H n (Exit.then K Q)) : WP Γ N C (.seq x y) E H n Q :=
  fun β I a w hS => wp_seq (h (fun a w => y.wp Γ.P Q a w) (fun _ _ _ _ h => h) β I a w hS)
theorem Done_wp {c : Code} (h : WP Γ N C c E H n Q) : Done Γ N C E H n (c.wp Γ.P Q) := h

/-- The end of a function without results. -/
theorem Done_normal0 (hΓ : Γ.OK) {fn : Func} {R : Ending → World → Prop} (hD : C.D = []) (hrs : fn.results.toList = []) (hR : ∀ β I a w, St Γ N C β n E H I a w → R (.returned (.tuple #[])) w) : Done Γ N C E H n (bodyPost Γ.P fn R .normal) := by
  intro β I a w hS
  obtain ⟨u, x, rfl, hr, hl, hrun⟩ := results_sound (K := fun x => x = .tup []) hΓ hS (fn := fn) (by rw [hrs]; exact rfl)
  refine ⟨hS.env.defers.trans hD, x, hrun, ?_⟩
  obtain ⟨vs, h1, h2, _⟩ := hr
  rw [h1, List.eq_nil_of_length_eq_zero h2]
  exact hR β I a w hS

/-! ### a function that holds a range over a function -/
theorem calls_of_WPM {f : FuncId} {fn : Func} {c : Code} {vs : List SV} {xs : List Value} {R : Ending → World → Prop} (hf : Γ.P.funcs[f]? = some fn) (hb : fn.body = some c) (hN : fn.ntmps = N) (hn : vs.length ≤ N)
    (hH : HeapOK C β n H I w) (hG : GlobOK Γ.glob I w) (hA : C.n0 ≤ n ∧ ∀ i, i < C.n0 → β i = C.β0 i) (hD : C.D = []) (hr : callRel β n I w vs xs) (h : WP Γ N C c (envOf 0 vs) H n (bodyPostM Fence.wide 0 Γ.P fn R)) : Calls Γ.P f xs.toArray w R := by
  subst hN
  refine (callsIn_wide (n := 0)).1 (callsIn_of_wp_marks hf hb trivial ((wpIn_wide (n := 0)).2 (h β I _ w ⟨⟨hD.symm, fun i v hv => ?_, fun i v hv => ?_⟩, by simp [hr.1]; omega, hH, hG, hA⟩)))
  · obtain ⟨j, rfl, hj⟩ := envOf_get hv
    obtain ⟨x, hx, hrel, _⟩ := hr.2 j v hj
    have hlt : j < xs.length := (List.getElem?_eq_some_iff.1 hx).1
    refine ⟨x, ?_, hrel⟩
    rw [Array.getElem?_append_left (by simp; omega)]
    simpa using hx
  · obtain ⟨j, rfl, hj⟩ := envOf_get hv
    obtain ⟨x, hx, _, hlow⟩ := hr.2 j v hj
    exact hlow

theorem flat_ofM {f : FuncId} {fn : Func} {c : Code} {q : QSpec} (hf : Γ.P.funcs[f]? = some fn) (hb : fn.body = some c) (hN : fn.ntmps = N)
    (h : ∀ vs K, q vs K → ∃ v, K v ∧ v.flat = true ∧ vs.length ≤ N ∧ ∀ w I, WP Γ N (pureC w I) c (envOf 0 vs) [] 0 (bodyPostM Fence.wide 0 Γ.P fn (PostFlat w v))) : FlatOK Γ.P Γ.glob f q := fun vs K hq => by
  obtain ⟨v, hK, hfl, hn, hw⟩ := h vs K hq
  exact ⟨v, hK, hfl, fun I w xs hG hlt hA => calls_of_WPM hf hb hN hn (HeapOK.init hlt) hG ⟨Nat.le_refl _, fun i hi => absurd hi (Nat.not_lt_zero i)⟩ rfl hA (hw w I)⟩

/-- The return behind such a loop: the block of the rounds' deferred calls is shut; it held none. -/
theorem Done_flatM (hΓ : Γ.OK) {fn : Func} {w0 : World} {I0 : Nat → Prop} {v : SV} {w1 : World} {I1 : Nat → Prop} {β1 : Val} {n1 d : Nat} {H1 : Heap} {Q' : Act → World → Prop} (h1 : HeapOK (pureC w0 I0) β1 n1 H1 I1 w1) (hd : w0.heap.size ≤ d) (hA : Aside β1 H1 I1 w1 d (.deferred (some [])))
    (hQ : ∀ a w, bodyPostM Fence.wide 0 Γ.P fn (PostFlat w0 v) .ret a w → Q' a w) (hf : v.flat = true) (rs : List ResultVar) (hrs : fn.results.toList = rs) (h : resS Γ E H rs fun vs => packS vs fun x => x = v) :
    Done Γ N (ankC w1 I1 β1 n1 H1 [{ target := .collected d, args := #[] }]) E H n Q' := by
  subst hrs
  intro β I a w hS
  have hH := h1.unank hS.heap
  have hA' := hA.ank hS.heap
  obtain ⟨hH2, hE2⟩ := hH.other hd hA' (.deferred none)
  have hS2 : St Γ N { pureC w0 I0 with D := a.defers } β n E H I a (w.putObj d (.deferred none)) :=
    ⟨⟨rfl, fun i u hu => let ⟨y, h1, h2⟩ := hS.env.slot i u hu; ⟨y, h1, SV.rel_mono (n := n) (fun _ _ => rfl) hE2 (hS.env.low i u hu) h2⟩, hS.env.low⟩, hS.size,
      ⟨hH2.os, hH2.tape, hH2.output, hH2.size, hH2.frame, hH2.holds, hH2.low, hH2.fresh, hH2.sep, hH2.off, hH2.ilt, hH2.i0, hH2.base⟩, hS.glob.mono hE2, Nat.zero_le _, fun i hi => absurd hi (Nat.not_lt_zero i)⟩
  obtain ⟨u, x, rfl, hr, hl, hrun⟩ := results_sound hΓ hS2 h
  refine hQ a w ?_
  show LeavesInM _ _ _ _ _ _ a.defers _ _
  rw [hS.env.defers]
  refine ⟨by simp, .inl ⟨d, _, rfl, run_takeDeferred hA'.at', ?_⟩⟩
  refine ⟨x, hrun, ?_, hH2.same⟩
  rw [(SV.rel_flat hf).1 hr]
end
end Go.Ab
