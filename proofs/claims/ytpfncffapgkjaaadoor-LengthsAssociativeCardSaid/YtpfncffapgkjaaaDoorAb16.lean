/- Regions in program order at the wide fence: in or out of a round of a range over a function, with a call of yield. -/
import Derived.Test.YtpfncffapgkjaaaDoorAb15
import Derived.RangeFuncNested
namespace Go.Ab
set_option linter.unusedVariables false
open Go.RowKit

/-- The wide fence, in a round or not. -/
def fr (ro : Option Nat) : Fence := { Fence.wide with round := ro }
theorem fr_none : fr none = Fence.wide := rfl
theorem fr_some (l : Nat) : fr (some l) = Fence.wide.inRound l := rfl

section
variable {P : Program} {a : Act} {w : World} {m : Nat} {ro : Option Nat}

theorem callsIn_fr {f : FuncId} {args : Array Value} {R : Ending → World → Prop} (h : Calls P f args w R) : CallsIn (fr ro) m P f args w R := by
  have h2 : CallsIn Fence.wide m P f args w R := callsIn_wide.2 h
  cases ro with
  | none => exact h2
  | some l => exact CallsIn.inRound l h2

theorem Runs.wpIn {o : Oper} {R : Value → World → Prop} (h : Runs P a o w R) (hnd : ∀ c, o.op ≠ .defer c) {K : Act → World → Prop} {Q : Exit → Act → World → Prop} (hK : ∀ v w', R v w' → K (a.put o.dst v) w') : o.wpIn (fr ro) m P a w K Q := by
  refine ⟨fun _ _ => trivial, ?_⟩
  rw [show (fr ro).round = ro from rfl, Oper.semAt_eq ro a.eval o hnd]
  unfold Runs at h
  unfold Oper.uponIn
  split at h
  · rename_i v w' hr; rw [hr]; exact hK _ _ h
  · rename_i w' hr; rw [hr]; exact hK _ _ h
  · rename_i f args w' hr; rw [hr]
    refine ⟨fun hd => (by cases hd), callsIn_fr (Calls.mono h fun e w'' ⟨v, he, hR⟩ => ?_)⟩
    subst he
    exact hK _ _ hR
  · exact h.elim

/-- A call of yield. -/
theorem yield_wpIn {o : Oper} {c : Call} {x : Operand} {l : Nat} {R : Ending → World → Prop} (ho : o.op = .call c) (hc : c.callee = .value x) (hx : a.eval x = .func (.yield l) #[] #[]) (hy : YieldAt (fr ro) (m - 1) P l (c.args.map a.eval) w R)
    {K : Act → World → Prop} {Q : Exit → Act → World → Prop} (hK : ∀ e w', R e w' → ∃ v, e = .returned v ∧ K (a.put o.dst v) w') : o.wpIn (fr ro) m P a w K Q := by
  refine ⟨fun _ _ => trivial, ?_⟩
  rw [show (fr ro).round = ro from rfl, Oper.semAt_eq ro a.eval o (fun c' h => by rw [ho] at h; cases h)]
  obtain ⟨fn, tmps, assign, body, hrun, hR⟩ := hy
  have e : (execOp a.eval o).run P w = .ok (.round l fn tmps assign body) w := by
    simp only [execOp, ho, resolve, hc, hx, Deferred.ofValue, Sem.run_bind, Sem.run_pure, Result.andThen_ok, invoke, Array.empty_append]
    simpa using hrun
  rw [e]
  refine ⟨fun hd => (by cases hd), RoundIn.mono hR fun e' w' hRe => ?_⟩
  obtain ⟨v, rfl, hk⟩ := hK e' w' hRe
  exact hk
end

section
variable {Γ : Ctx} {N : Nat} {C : CC} {β : Val} {n : Nat} {E : Env} {H : Heap} {I : Nat → Prop} {a : Act} {w : World} {m : Nat} {ro : Option Nat}

/-- Operations without a guard, one after another. -/
def wpY (Γ : Ctx) (N : Nat) : List Oper → Env → Heap → Nat → (Env → Heap → Nat → Prop) → Prop
  | [], E, H, n, K => K E H n
  | o :: os, E, H, n, K => (dstOK N o.dst ∧ o.guard = none ∧ ∀ c, o.op ≠ .defer c) ∧ stepS Γ o E H n fun v H n => wpY Γ N os (E.put o.dst v) H n K

theorem wpY_sound (hΓ : Γ.OK) {ops : Array Oper} {Q : Exit → Act → World → Prop} {rest : List Nat} {K : Env → Heap → Nat → Prop}
    (hK : ∀ β' n' E' H' I' a' w', K E' H' n' → St Γ N C β' n' E' H' I' a' w' → wpOpsIn (fr ro) m Γ.P ops Q rest a' w') :
    ∀ (os : List Oper) (k : Nat) (β : Val) (n : Nat) (E : Env) (H : Heap) (I : Nat → Prop) (a : Act) (w : World), (∀ j, j < os.length → ops[k + j]? = os[j]?) → St Γ N C β n E H I a w → wpY Γ N os E H n K →
      wpOpsIn (fr ro) m Γ.P ops Q (List.range' k os.length ++ rest) a w
  | [], k, β, n, E, H, I, a, w, _, hS, h => by simpa using hK β n E H I a w h hS
  | o :: os, k, β, n, E, H, I, a, w, hl, hS, h => by
    obtain ⟨⟨hd, hg, hnd⟩, h⟩ := h
    have h0 : ops[k]? = some o := by simpa using hl 0 (by simp)
    rw [List.length_cons, List.range'_succ, List.cons_append]
    unfold wpOpsIn
    simp only [h0, Region.wanted, hg, if_true]
    refine (stepS_sound hΓ hS.env hS.glob hS.heap h).wpIn hnd fun x w' hA => ?_
    obtain ⟨v, H', n', β', I', hK', hS'⟩ := hS.after hA hd
    exact wpY_sound hΓ hK os (k + 1) _ _ _ _ _ _ _ (fun j hj => by have := hl (j + 1) (by simp; omega); simpa [Nat.add_assoc, Nat.add_comm 1 j] using this) hS' hK'

/-- A region in program order, in a round or not. -/
theorem regionIn_k (hΓ : Γ.OK) {id : Nat} {l : List Oper} {Q : Exit → Act → World → Prop} (h : ∀ K : Env → Heap → Nat → Prop, (∀ E H n, Done Γ N C E H n (Q .normal) → K E H n) → wpY Γ N l E H n K) (hS : St Γ N C β n E H I a w) :
    (Code.region id l.toArray false).wpIn (fr ro) m Γ.P Q a w := by
  refine wpIn_region ?_
  rw [show List.range l.toArray.size = List.range' 0 l.length ++ [] by simp [List.range_eq_range']]
  exact wpY_sound hΓ (fun β' n' E' H' I' a' w' hK hS' => hK β' I' a' w' hS') l 0 β n E H I a w (fun j _ => by simp) hS (h _ fun _ _ _ h => h)
end
end Go.Ab
