/- A region that draws its order, with several unordered operations that each must be shown in every order: stretches in a forced order, then a branching over all that are ready. -/
import Derived.Test.YtpfncffapgkjaaaDoorAb16
namespace Go.Ab
set_option linter.unusedVariables false
open Go.RowKit
section
variable {Γ : Ctx} {N : Nat} {C : CC} {β : Val} {n : Nat} {E : Env} {H : Heap} {I : Nat → Prop} {a : Act} {w : World} {l : List Oper} {Q : Exit → Act → World → Prop}

/-- A beginning of an order (as schedB, not to the end). -/
def schedP (ops : Array Oper) : List (Nat × Bool) → Array Bool → Bool
  | [], _ => true
  | (i, true) :: r, listed => Region.free .any ops listed i && (lateB ops listed i || stillAt ops i) && (Region.ready .any ops listed).contains i && schedP ops r (listed.setIfInBounds i true)
  | (i, false) :: r, listed => Region.ready .any ops listed == [i] && schedP ops r (listed.setIfInBounds i true)
def listedBy : List (Nat × Bool) → Array Bool → Array Bool
  | [], listed => listed
  | (i, _) :: r, listed => listedBy r (listed.setIfInBounds i true)

def WB (Γ : Ctx) (N : Nat) (C : CC) (l : List Oper) (Q : Exit → Act → World → Prop) (g : Nat) (listed : Array Bool) (E : Env) (H : Heap) (n : Nat) : Prop :=
  ∀ β I a w, Closed l.toArray listed → St Γ N C β n E H I a w → wpT Γ.P l.toArray (fun e a w => e = .normal ∧ Q .normal a w) g listed a w
/-- Operation i is the next. -/
def WB1 (Γ : Ctx) (N : Nat) (C : CC) (l : List Oper) (Q : Exit → Act → World → Prop) (g : Nat) (listed : Array Bool) (E : Env) (H : Heap) (n : Nat) (i : Nat) : Prop :=
  ∀ β I a w, Closed l.toArray listed → i ∈ Region.ready .any l.toArray listed → St Γ N C β n E H I a w →
    wpOp Γ.P l.toArray (fun e a w => e = .normal ∧ Q .normal a w) i (fun a' w' => (wrB l.toArray i = false → Same w w') ∧ wpT Γ.P l.toArray (fun e a w => e = .normal ∧ Q .normal a w) g (listed.setIfInBounds i true) a' w') a w

theorem WB_done {g : Nat} {listed : Array Bool} (hr : Region.ready .any l.toArray listed = []) (h : Done Γ N C E H n (Q .normal)) : WB Γ N C l Q g listed E H n := fun β I a w _ hS => by
  have hq : (fun (e : Exit) (a : Act) (w : World) => e = .normal ∧ Q .normal a w) .normal a w := ⟨rfl, h β I a w hS⟩
  cases g with
  | zero => exact ⟨hr, hq⟩
  | succ g => exact ⟨fun _ => hq, fun i hi => by rw [hr] at hi; cases hi⟩

theorem WB_all {g : Nat} {listed : Array Bool} (rs : List Nat) (hr : Region.ready .any l.toArray listed = rs) (hne : rs ≠ []) (h : ∀ i ∈ rs, WB1 Γ N C l Q g listed E H n i) : WB Γ N C l Q (g + 1) listed E H n := fun β I a w hc hS =>
  ⟨fun h0 => absurd (hr.symm.trans h0) hne, fun i hi => h i (hr ▸ hi) β I a w hc hi hS⟩

theorem WB_force (hΓ : Γ.OK) {g i d : Nat} {o : Oper} {listed : Array Bool} (ho : l[i]? = some o) (hd : o.dst = some d) (hN : d < N) (hg : o.guard = none)
    (h : ∀ K' : SV → Heap → Nat → Prop, (∀ v H n, WB Γ N C l Q g (listed.setIfInBounds i true) ((d, v) :: E) H n → K' v H n) → forceS Γ o E H n K') : WB1 Γ N C l Q g listed E H n i := fun β I a w hc hr hS => by
  have hi : l.toArray[i]? = some o := by simpa using ho
  have hwr : wrB l.toArray i = isWrite o := by unfold wrB; rw [hi]
  have hdst : dstOK N o.dst := by rw [hd]; exact hN
  have h' := h (fun v H n => WB Γ N C l Q g (listed.setIfInBounds i true) ((d, v) :: E) H n) fun _ _ _ h => h
  unfold wpOp
  simp only [hi, Region.wanted, hg, if_true]
  refine .inl ?_
  unfold forceS at h'
  split at h' <;> rename_i hw
  · refine (stepS_sound hΓ hS.env hS.glob hS.heap h').wp fun x w' hA => ?_
    obtain ⟨v, H', n', β', I', hK, hS'⟩ := hS.after hA hdst
    rw [hd] at hS'
    rw [hd]
    exact ⟨fun h0 => (by rw [hwr, hw] at h0; cases h0), hK β' I' _ w' (hc.set hr) hS'⟩
  · refine (growS_sound hΓ hS.env hS.glob hS.heap h').wp fun x w' hA => ?_
    obtain ⟨v, H', n', β', I', hK, hS'⟩ := hS.after hA.2 hdst
    rw [hd] at hS'
    rw [hd]
    exact ⟨fun _ => hA.1, hK β' I' _ w' (hc.set hr) hS'⟩

theorem WB_force0 (hΓ : Γ.OK) {g i : Nat} {o : Oper} {listed : Array Bool} (ho : l[i]? = some o) (hd : o.dst = none) (hg : o.guard = none)
    (h : ∀ K' : SV → Heap → Nat → Prop, (∀ v H n, WB Γ N C l Q g (listed.setIfInBounds i true) E H n → K' v H n) → forceS Γ o E H n K') : WB1 Γ N C l Q g listed E H n i := fun β I a w hc hr hS => by
  have hi : l.toArray[i]? = some o := by simpa using ho
  have hwr : wrB l.toArray i = isWrite o := by unfold wrB; rw [hi]
  have hdst : dstOK N o.dst := by rw [hd]; trivial
  have h' := h (fun v H n => WB Γ N C l Q g (listed.setIfInBounds i true) E H n) fun _ _ _ h => h
  unfold wpOp
  simp only [hi, Region.wanted, hg, if_true]
  refine .inl ?_
  unfold forceS at h'
  split at h' <;> rename_i hw
  · refine (stepS_sound hΓ hS.env hS.glob hS.heap h').wp fun x w' hA => ?_
    obtain ⟨v, H', n', β', I', hK, hS'⟩ := hS.after hA hdst
    rw [hd] at hS'
    rw [hd]
    exact ⟨fun h0 => (by rw [hwr, hw] at h0; cases h0), hK β' I' _ w' (hc.set hr) hS'⟩
  · refine (growS_sound hΓ hS.env hS.glob hS.heap h').wp fun x w' hA => ?_
    obtain ⟨v, H', n', β', I', hK, hS'⟩ := hS.after hA.2 hdst
    rw [hd] at hS'
    rw [hd]
    exact ⟨fun _ => hA.1, hK β' I' _ w' (hc.set hr) hS'⟩

theorem WB_run (hΓ : Γ.OK) {g : Nat} (hsel : Region.noSelect l.toArray = true) : ∀ (r : List (Nat × Bool)) {listed : Array Bool} {E : Env} {H : Heap} {n : Nat}, schedP l.toArray r listed = true →
    (∀ K : Env → Heap → Nat → Prop, (∀ E H n, WB Γ N C l Q g (listedBy r listed) E H n → K E H n) → wpD Γ N l r E H n K) → WB Γ N C l Q (r.length + g) listed E H n := by
  intro r listed E H n hB h β I a w hc hS
  have key : ∀ (r : List (Nat × Bool)) (listed : Array Bool) {β : Val} {n : Nat} {E : Env} {H : Heap} {I : Nat → Prop} {a : Act} {w : World} {K : Env → Heap → Nat → Prop}, schedP l.toArray r listed = true → Closed l.toArray listed → St Γ N C β n E H I a w → wpD Γ N l r E H n K →
      (∀ β' n' E' H' I' a' w', K E' H' n' → Closed l.toArray (listedBy r listed) → St Γ N C β' n' E' H' I' a' w' → wpT Γ.P l.toArray (fun e a w => e = .normal ∧ Q .normal a w) g (listedBy r listed) a' w') →
      wpT Γ.P l.toArray (fun e a w => e = .normal ∧ Q .normal a w) (r.length + g) listed a w := by
    intro r
    induction r with
    | nil => intro listed β n E H I a w K _ hc hS h hQ; rw [List.length_nil, Nat.zero_add]; exact hQ β n E H I a w h hc hS
    | cons x r ih =>
      obtain ⟨i, q⟩ := x
      intro listed β n E H I a w K hB hc hS h hQ
      unfold wpD at h
      rw [List.length_cons, show r.length + 1 + g = (r.length + g) + 1 by omega]
      split at h
      · exact h.elim
      · rename_i o ho
        obtain ⟨hd, h⟩ := h
        have hi : l.toArray[i]? = some o := by simpa using ho
        cases q with
        | true =>
          simp only [schedP, Bool.and_eq_true] at hB
          obtain ⟨⟨⟨hf, hlate⟩, hr⟩, hB⟩ := hB
          have hr' : i ∈ Region.ready .any l.toArray listed := by simpa using hr
          have fin : ∀ v x, (lateB l.toArray listed i = true ∧ YieldsIf Γ.P l.toArray (Same w) o x a ∨ YieldsIf Γ.P l.toArray (fun _ => True) o x a) → v.rel β I w x → v.low n → wpD Γ N l r (E.put o.dst v) H n K → wpT Γ.P l.toArray (fun e a w => e = .normal ∧ Q .normal a w) (r.length + g + 1) listed a w := by
            intro v x hy hrel hlow hK
            obtain ⟨hE', hN'⟩ := hS.env.put hS.size hd hrel hlow
            rcases hy with ⟨hlate, hy⟩ | hy
            · exact wpT_take hi (Region.noSelect_spec hsel) (fun c a w h => by cases h.1) (r.length + g) listed a w (Region.free_spec hi hf) hc hlate hr' hy (ih _ hB (hc.set hr') ⟨hE', hN', hS.heap, hS.glob, hS.anch⟩ hK hQ)
            · exact wpT_take_still hi (Region.noSelect_spec hsel) (fun c a w h => by cases h.1) (r.length + g) listed a w (Region.free_spec hi hf) hr' hy (ih _ hB (hc.set hr') ⟨hE', hN', hS.heap, hS.glob, hS.anch⟩ hK hQ)
          have run : Region.wanted o (yielded l.toArray a.tmps) = true → readS Γ o E H (fun v => wpD Γ N l r (E.put o.dst v) H n K) → wpT Γ.P l.toArray (fun e a w => e = .normal ∧ Q .normal a w) (r.length + g + 1) listed a w := by
            intro hw h
            rcases Bool.or_eq_true _ _ ▸ hlate with hl1 | hl1
            · obtain ⟨v, x, hK, hl, hrel, hrun⟩ := readS_sound hΓ hS.env hS.glob hS.heap h
              exact fin v x (.inl ⟨hl1, .inl ⟨hw, hrun⟩⟩) hrel hl hK
            · obtain ⟨v, x, hK, hl, hrel, hrun⟩ := readS_still hΓ hS.env hS.glob (by unfold stillAt at hl1; rw [hi] at hl1; exact hl1) h
              exact fin v x (.inr (.inl ⟨hw, fun w' _ => hrun w'⟩)) hrel hl hK
          have skip : Region.wanted o (yielded l.toArray a.tmps) = false → wpD Γ N l r (E.put o.dst undefV) H n K → wpT Γ.P l.toArray (fun e a w => e = .normal ∧ Q .normal a w) (r.length + g + 1) listed a w := by
            intro hw h
            exact fin undefV undef (.inr (.inr ⟨hw, rfl⟩)) undefV_rel trivial h
          split at h
          · rename_i hg
            exact run (by simp [Region.wanted, hg]) (by simpa using h)
          · rename_i j want hg
            split at h
            · rename_i b hy
              have hy' := yieldE_sound hS.env hy
              by_cases hbw : b = want
              · subst hbw
                exact run (by simp [Region.wanted, hg, hy']) (by simpa using h.1 rfl)
              · exact skip (by simpa [Region.wanted, hg, hy'] using hbw) (h.2 (by cases b <;> cases want <;> simp_all))
            · rename_i hy
              exact skip (by simp [Region.wanted, hg, yieldE_sound hS.env hy]) h
            · exact h.elim
        | false =>
          simp only [schedP, Bool.and_eq_true, beq_iff_eq] at hB
          obtain ⟨hr, hB⟩ := hB
          refine ⟨fun h0 => (by rw [hr] at h0; cases h0), fun j hj => ?_⟩
          have hcs : Closed l.toArray (listed.setIfInBounds i true) := hc.set (by rw [hr]; exact List.mem_singleton.2 rfl)
          rw [hr] at hj
          obtain rfl : j = i := by simpa using hj
          have run : forceS Γ o E H n (fun v H n => wpD Γ N l r (E.put o.dst v) H n K) → o.wp Γ.P a w (fun a' w' => (wrB l.toArray j = false → Same w w') ∧ wpT Γ.P l.toArray (fun e a w => e = .normal ∧ Q .normal a w) (r.length + g) (listed.setIfInBounds j true) a' w') (fun e a w => e = .normal ∧ Q .normal a w) := by
            intro h
            have hwr : wrB l.toArray j = isWrite o := by unfold wrB; rw [hi]
            unfold forceS at h
            split at h <;> rename_i hw
            · refine (stepS_sound hΓ hS.env hS.glob hS.heap h).wp fun x w' hA => ?_
              obtain ⟨v, H', n', β', I', hK, hS'⟩ := hS.after hA hd
              exact ⟨fun h0 => (by rw [hwr, hw] at h0; cases h0), ih _ hB hcs hS' hK hQ⟩
            · refine (growS_sound hΓ hS.env hS.glob hS.heap h).wp fun x w' hA => ?_
              obtain ⟨v, H', n', β', I', hK, hS'⟩ := hS.after hA.2 hd
              exact ⟨fun _ => hA.1, ih _ hB hcs hS' hK hQ⟩
          have skip : wpD Γ N l r (E.put o.dst undefV) H n K → (wrB l.toArray j = false → Same w w) ∧ wpT Γ.P l.toArray (fun e a w => e = .normal ∧ Q .normal a w) (r.length + g) (listed.setIfInBounds j true) (a.put o.dst undef) w := by
            intro h
            obtain ⟨hE', hN'⟩ := hS.env.put hS.size hd undefV_rel trivial
            exact ⟨fun _ => Below.refl _ _, ih _ hB hcs ⟨hE', hN', hS.heap, hS.glob, hS.anch⟩ h hQ⟩
          unfold wpOp
          simp only [hi]
          split at h
          · rename_i hg
            simp only [Region.wanted, hg, if_true]
            exact .inl (run (by simpa using h))
          · rename_i j' want hg
            split at h
            · rename_i b hy
              have hy' := yieldE_sound hS.env hy
              simp only [Region.wanted, hg, hy']
              by_cases hbw : b = want
              · subst hbw; simp only [beq_self_eq_true, if_true]; exact .inl (run (by simpa using h.1 rfl))
              · have : (some b == some want) = false := by simpa using hbw
                simp only [this, Bool.false_eq_true, if_false]
                exact skip (h.2 (by cases b <;> cases want <;> simp_all))
            · rename_i hy
              have hy' := yieldE_sound hS.env hy
              simp only [Region.wanted, hg, hy']
              exact skip h
            · exact h.elim
  exact key r listed hB hc hS (h _ fun _ _ _ h => h) fun β' n' E' H' I' a' w' hK hc' hS' => hK β' I' a' w' hc' hS'

theorem tree_k (hΓ : Γ.OK) {id : Nat} (h : WB Γ N C l Q l.length (Array.replicate l.toArray.size false) E H n) : WP Γ N C (.region id l.toArray true) E H n Q := by
  intro β I a w hS
  have hd := hS.draw
  refine wp_mono (Q := fun e a w => e = .normal ∧ Q .normal a w) (wp_region_any hΓ.mixed (wpAny_of_T _ _ _ _ ?_)) fun e a' w' h => by obtain ⟨rfl, h⟩ := h; exact h
  have := h β I a { w with drawn := w.drawn + 1 } (fun m k hm _ => by simp [Array.getD] at hm) hd
  simpa using this
end
end Go.Ab
