/- Functions whose result holds rows that are the caller's own from then on. -/
import Derived.Test.YtpfncffapgkjaaaDoorAb21
namespace Go.Ab
set_option linter.unusedVariables false
open Go.RowKit
section
variable {Γ : Ctx} {N : Nat} {C : CC} {β β' β1 : Val} {n m k : Nat} {E : Env} {H H1 : Heap} {I D D' : Nat → Prop} {a : Act} {w w' : World}

/-- Names are raised by k. -/
def Cell.up1 (k : Nat) : Cell → Cell
  | .ptr id off => .ptr (k + id) off
  | .slice id off len cap => .slice (k + id) off len cap
  | .map id => .map (k + id)
  | x => x
def Cell.up (k : Nat) : Cell → Cell
  | .clo f caps => .clo f (caps.map (Cell.up1 k))
  | x => x.up1 k
def Cont.up (k : Nat) : Cont → Cont
  | .cells l => .cells (l.map (Cell.up k))
  | c => c
def Part.up (k : Nat) : Part → Part
  | .c x => .c (x.up k)
  | .agg d => .agg (d.up k)
def SV.up (k : Nat) : SV → SV
  | .c x => .c (x.up k)
  | .agg d => .agg (d.up k)
  | .tup l => .tup (l.map (Part.up k))
def SObj.up (k : Nat) : SObj → SObj
  | .own t c cap => .own t (c.up k) cap
  | .mp t l => .mp t (l.map fun x => (x.1.up k, x.2.up k))
def Heap.up (k : Nat) : Heap → Heap
  | [] => []
  | (j, o) :: H => (k + j, o.up k) :: Heap.up k H

theorem up1_rel (hβ : ∀ i, β (k + i) = β' i) {x : Cell} {v : Value} (h : x.rel1 β' I w v) : (x.up1 k).rel1 β I w v := by
  cases x with
  | ptr id off => show v = _; rw [place, hβ]; exact h
  | slice id off len cap =>
    obtain ⟨h1, o, h2, h3⟩ := (show len ≤ cap ∧ ∃ off', v = .slice (place β' id off') len cap ∧ (off' = off ∨ cap = 0) from h)
    exact (show len ≤ cap ∧ ∃ off', v = .slice (place β (k + id) off') len cap ∧ (off' = off ∨ cap = 0) from ⟨h1, o, by rw [place, hβ]; exact h2, h3⟩)
  | map id => show v = _; rw [hβ]; exact h
  | _ => exact h
theorem up1_low {x : Cell} (h : x.low1 m) : (x.up1 k).low1 (k + m) := by
  cases x <;> first | exact Nat.add_lt_add_left h k | trivial
theorem up_rel (hβ : ∀ i, β (k + i) = β' i) {x : Cell} {v : Value} (h : x.rel β' I w v) : (x.up k).rel β I w v := by
  rcases Cell.clo_or x with ⟨f, caps, rfl⟩ | hnc
  · obtain ⟨g, hv, hg⟩ := h
    refine ⟨g, by simpa using hv, fun j hj => ?_⟩
    have hj' : j < caps.length := by simpa using hj
    rw [show (caps.map (Cell.up1 k)).getD j .nils = (caps.getD j .nils).up1 k by simp [List.getD_eq_getElem?_getD, hj']]
    exact up1_rel hβ (hg j hj')
  · rw [Cell.rel_eq hnc] at h
    have e : x.up k = x.up1 k := by cases x <;> first | rfl | exact absurd rfl (hnc _ _)
    have hnc' : ∀ f caps, x.up1 k ≠ .clo f caps := by
      intro f caps; cases x <;> first | exact absurd rfl (hnc _ _) | (intro h; cases h)
    rw [e, Cell.rel_eq hnc']
    exact up1_rel hβ h
theorem up_low {x : Cell} (h : x.low m) : (x.up k).low (k + m) := by
  rcases Cell.clo_or x with ⟨f, caps, rfl⟩ | hnc
  · intro y hy
    obtain ⟨z, hz, rfl⟩ := List.mem_map.1 hy
    exact up1_low (h z hz)
  · rw [Cell.low_eq hnc] at h
    have e : x.up k = x.up1 k := by cases x <;> first | rfl | exact absurd rfl (hnc _ _)
    have hnc' : ∀ f caps, x.up1 k ≠ .clo f caps := by
      intro f caps; cases x <;> first | exact absurd rfl (hnc _ _) | (intro h; cases h)
    rw [e, Cell.low_eq hnc']
    exact up1_low h
theorem contUp_len (c : Cont) : (c.up k).len = c.len := by cases c <;> simp [Cont.up, Cont.len]
theorem contUp_rel (hβ : ∀ i, β (k + i) = β' i) {c : Cont} {vs : List Value} (h : c.rel β' I w vs) : (c.up k).rel β I w vs := by
  refine ⟨by rw [contUp_len]; exact h.1, fun j hj => ?_⟩
  rw [contUp_len] at hj
  obtain ⟨v, hv, hr⟩ := h.2 j hj
  refine ⟨v, hv, ?_⟩
  cases c with
  | cells l =>
    have hj' : j < l.length := hj
    rw [show (Cont.up k (.cells l)).get j = ((Cont.cells l).get j).up k by simp [Cont.up, Cont.get, List.getD_eq_getElem?_getD, hj']]
    exact up_rel hβ hr
  | _ => exact (Cell.rel_flat rfl).2 ((Cell.rel_flat rfl).1 hr)
theorem contUp_low {c : Cont} (h : c.low m) : (c.up k).low (k + m) := by
  cases c with
  | cells l =>
    intro y hy
    obtain ⟨z, hz, rfl⟩ := List.mem_map.1 hy
    exact up_low (h z hz)
  | _ => trivial
theorem partUp_rel (hβ : ∀ i, β (k + i) = β' i) {p : Part} {v : Value} (h : p.rel β' I w v) : (p.up k).rel β I w v := by
  cases p with
  | c x => exact up_rel hβ h
  | agg c => obtain ⟨vs, hv, hr⟩ := h; exact ⟨vs, hv, contUp_rel hβ hr⟩
theorem partUp_low {p : Part} (h : p.low m) : (p.up k).low (k + m) := by
  cases p with
  | c x => exact up_low h
  | agg c => exact contUp_low h
theorem svUp_rel (hβ : ∀ i, β (k + i) = β' i) {x : SV} {v : Value} (h : x.rel β' I w v) : (x.up k).rel β I w v := by
  cases x with
  | c x => exact up_rel hβ h
  | agg c => obtain ⟨vs, hv, hr⟩ := h; exact ⟨vs, hv, contUp_rel hβ hr⟩
  | tup l =>
    obtain ⟨vs, hv, hl, hr⟩ := h
    refine ⟨vs, hv, by simpa using hl, fun j p hp => ?_⟩
    rw [List.getElem?_map] at hp
    obtain ⟨q, hq, rfl⟩ := Option.map_eq_some_iff.1 hp
    obtain ⟨u, hu, hur⟩ := hr j q hq
    exact ⟨u, hu, partUp_rel hβ hur⟩
theorem svUp_low {x : SV} (h : x.low m) : (x.up k).low (k + m) := by
  cases x with
  | c x => exact up_low h
  | agg c => exact contUp_low h
  | tup l =>
    intro y hy
    obtain ⟨z, hz, rfl⟩ := List.mem_map.1 hy
    exact partUp_low (h z hz)
theorem objUp_holds (hβ : ∀ i, β (k + i) = β' i) {o : SObj} {ad : Option Nat} (h : o.Holds β' I w ad) : (o.up k).Holds β I w ad := by
  cases o with
  | own t c cap =>
    rcases h with ⟨b, arr, h1, h2, h3, h4, h5⟩ | ⟨h1, h2, h3⟩
    · exact .inl ⟨b, arr, h1, h2, h3, by rw [contUp_len]; exact h4, by rw [contUp_len]; exact contUp_rel hβ h5⟩
    · exact .inr ⟨h1, by rw [contUp_len]; exact h2, h3⟩
  | mp t l =>
    obtain ⟨b, es, ck, h1, h2, h3, h4⟩ := h
    refine ⟨b, es, ck, h1, h2, by simpa using h3, fun j x hx => ?_⟩
    rw [List.getElem?_map] at hx
    obtain ⟨y, hy, rfl⟩ := Option.map_eq_some_iff.1 hx
    obtain ⟨e, he, h5, h6⟩ := h4 j y hy
    exact ⟨e, he, svUp_rel hβ h5, svUp_rel hβ h6⟩
theorem objUp_low {o : SObj} (h : o.low m) : (o.up k).low (k + m) := by
  cases o with
  | own t c cap => exact contUp_low h
  | mp t l =>
    intro y hy
    obtain ⟨z, hz, rfl⟩ := List.mem_map.1 hy
    exact ⟨svUp_low (h z hz).1, svUp_low (h z hz).2⟩
theorem Heap.get_up : ∀ {H : Heap} {i : Nat} {o : SObj}, (Heap.up k H).get i = some o → ∃ j o', i = k + j ∧ o = o'.up k ∧ H.get j = some o'
  | [], i, o, h => by cases h
  | (j, p) :: H, i, o, h => by
    simp only [Heap.up, Heap.get] at h
    split at h
    · rename_i e; cases h; exact ⟨j, p, e.symm, rfl, by simp [Heap.get]⟩
    · rename_i e
      obtain ⟨j', o', rfl, rfl, h3⟩ := Heap.get_up h
      refine ⟨j', o', rfl, rfl, ?_⟩
      simp only [Heap.get]
      rw [if_neg (fun e' => e (by rw [e']))]
      exact h3
theorem Heap.get_app : ∀ {A B : Heap} {i : Nat} {o : SObj}, Heap.get (A ++ B) i = some o → A.get i = some o ∨ B.get i = some o
  | [], B, i, o, h => .inr h
  | (j, p) :: A, B, i, o, h => by
    have h : Heap.get ((j, p) :: (A ++ B)) i = some o := h
    simp only [Heap.get] at h ⊢
    split at h
    · rename_i e; rw [if_pos e]; exact .inl h
    · rename_i e; rw [if_neg e]; exact Heap.get_app h

/-- The caller's rows and the called function's, side by side. -/
def both (β β1 : Val) (n : Nat) : Val := fun i => if i < n then β i else β1 (i - n)
theorem both_lt {i : Nat} (h : i < n) : both β β1 n i = β i := if_pos h
theorem both_up (i : Nat) : both β β1 n (n + i) = β1 i := by
  rw [both, if_neg (by omega), Nat.add_sub_cancel_left]
theorem HeapOK.join {is : List Nat} (h : HeapOK C β n H I w) (hk : HeapOK (pureC w (withRows β H is I)) β1 m H1 D' w') : Ext I w D' w' ∧ HeapOK C (both β β1 n) (n + m) (Heap.up n H1 ++ H.delAll is) D' w' := by
  obtain ⟨hE, hH⟩ := data_heap h (is := is) hk.grow
  refine ⟨hE, hH.os, hH.tape, hH.output, hH.size, hH.frame, ?_, ?_, ?_, ?_, ?_, hH.ilt, hH.i0, hH.base⟩
  · intro i o ho
    rcases Heap.get_app ho with ho | ho
    · obtain ⟨j, o', rfl, rfl, hj⟩ := Heap.get_up ho
      rw [both_up]
      exact objUp_holds both_up (hk.holds j o' hj)
    · have hlt := (hH.low i o ho)
      rw [both_lt hlt.1]
      exact (hH.holds i o ho).mono (n := n) (fun i hi => both_lt hi) (Ext.refl _ _) hlt.2 fun _ _ => rfl
  · intro i o ho
    rcases Heap.get_app ho with ho | ho
    · obtain ⟨j, o', rfl, rfl, hj⟩ := Heap.get_up ho
      exact ⟨Nat.add_lt_add_left (hk.low j o' hj).1 n, objUp_low (hk.low j o' hj).2⟩
    · exact ⟨Nat.lt_of_lt_of_le (hH.low i o ho).1 (Nat.le_add_right n m), SObj.low_mono (Nat.le_add_right n m) (hH.low i o ho).2⟩
  · intro i o ho b hb
    rcases Heap.get_app ho with ho | ho
    · obtain ⟨j, o', rfl, rfl, hj⟩ := Heap.get_up ho
      rw [both_up] at hb
      have h1 : w.heap.size ≤ b := (hk.fresh j o' hj b hb).resolve_right fun h => h
      exact .inl (Nat.le_trans h.size h1)
    · rw [both_lt (hH.low i o ho).1] at hb
      exact hH.fresh i o ho b hb
  · intro i j oi oj hij hi hj b h1 h2
    have old : ∀ i o, (H.delAll is).get i = some o → ∀ b, β i = some b → b < w.heap.size := fun i o ho b hb => by
      rw [Heap.get_delAll] at ho
      split at ho
      · cases ho
      · exact (h.holds i o ho).lt hb
    have new : ∀ i o, H1.get i = some o → ∀ b, β1 i = some b → w.heap.size ≤ b := fun i o ho b hb => (hk.fresh i o ho b hb).resolve_right fun h => h
    rcases Heap.get_app hi with hi | hi <;> rcases Heap.get_app hj with hj | hj
    · obtain ⟨i', o1, rfl, rfl, hi'⟩ := Heap.get_up hi
      obtain ⟨j', o2, rfl, rfl, hj'⟩ := Heap.get_up hj
      rw [both_up] at h1 h2
      exact hk.sep i' j' o1 o2 (fun e => hij (by rw [e])) hi' hj' b h1 h2
    · obtain ⟨i', o1, rfl, rfl, hi'⟩ := Heap.get_up hi
      rw [both_up] at h1
      rw [both_lt (hH.low j oj hj).1] at h2
      have := new i' o1 hi' b h1; have := old j oj hj b h2; omega
    · obtain ⟨j', o2, rfl, rfl, hj'⟩ := Heap.get_up hj
      rw [both_up] at h2
      rw [both_lt (hH.low i oi hi).1] at h1
      have := new j' o2 hj' b h2; have := old i oi hi b h1; omega
    · rw [both_lt (hH.low i oi hi).1] at h1
      rw [both_lt (hH.low j oj hj).1] at h2
      exact hH.sep i j oi oj hij hi hj b h1 h2
  · intro i o ho b hb
    rcases Heap.get_app ho with ho | ho
    · obtain ⟨j, o', rfl, rfl, hj⟩ := Heap.get_up ho
      rw [both_up] at hb
      exact hk.off j o' hj b hb
    · rw [both_lt (hH.low i o ho).1] at hb
      exact hH.off i o ho b hb

/-! ### the contract -/
/-- Of the arguments: the result, its rows, how many names these have. -/
abbrev NSpec := List SV → (SV → Heap → Nat → Prop) → Prop
def PostNew (w0 : World) (I0 : Nat → Prop) (K : SV → Heap → Nat → Prop) (e : Ending) (w' : World) : Prop :=
  ∃ x v H1 m β1 I', e = .returned x ∧ K v H1 m ∧ v.rel β1 I' w' x ∧ v.low m ∧ HeapOK (pureC w0 I0) β1 m H1 I' w'
def NewOK (P : Program) (glob : Nat → Option Cont) (f : FuncId) (q : NSpec) : Prop :=
  ∀ (vs : List SV) (K : SV → Heap → Nat → Prop), q vs K → ∀ (I : Nat → Prop) (w : World) (xs : List Value), GlobOK glob I w → (∀ b, I b → b < w.heap.size) → ArgsD I w vs xs → Calls P f xs.toArray w (PostNew w I K)
/-- The contract for a caller. -/
def newS (ty : Nat → Ty) (q : NSpec) : GSpec := fun vs H n K => viewS ty H vs fun us => q us fun v H1 m => K (v.up n) (Heap.up n H1 ++ H.delAll (vs.flatMap SV.ids)) (n + m)
theorem gen_new {P : Program} {glob : Nat → Option Cont} {ty : Nat → Ty} {f : FuncId} {q : NSpec} (h : NewOK P glob f q) : GenOK P glob f (newS ty q) := by
  intro C β n H I w vs xs K hG hH hlen hargs hs
  obtain ⟨us, hq, hA⟩ := viewS_data hH ⟨hlen, hargs⟩ hs
  have hG' : GlobOK glob (withRows β H (vs.flatMap SV.ids) I) w := hG.mono (Ext.widen fun b hb => .inl hb)
  refine Calls.mono (h us _ hq _ w xs hG' (withRows_lt hH) hA) fun e w' ⟨x, v, H1, m, β1, I', he, hK, hr, hl, hk⟩ => ⟨x, he, ?_⟩
  obtain ⟨hE, hJ⟩ := hH.join hk
  exact ⟨v.up n, _, n + m, both β β1 n, I', hK, svUp_rel both_up hr, svUp_low hl, Nat.le_add_right n m, fun i hi => both_lt hi, hE, hJ⟩
theorem new_of {f : FuncId} {fn : Func} {c : Code} {q : NSpec} (hf : Γ.P.funcs[f]? = some fn) (hb : fn.body = some c) (hN : fn.ntmps = N)
    (h : ∀ vs K, q vs K → vs.length ≤ N ∧ ∀ w I, WP Γ N (pureC w I) c (envOf 0 vs) [] 0 (bodyPost Γ.P fn (PostNew w I K))) : NewOK Γ.P Γ.glob f q := fun vs K hq I w xs hG hlt hA =>
  calls_pure hf hb hN (h vs K hq).1 hG hlt hA ((h vs K hq).2 w I)
theorem Done_new (hΓ : Γ.OK) {fn : Func} {w0 : World} {I0 : Nat → Prop} {K : SV → Heap → Nat → Prop} {Q' : Act → World → Prop} (hQ : ∀ a w, bodyPost Γ.P fn (PostNew w0 I0 K) .ret a w → Q' a w) (rs : List ResultVar) (hrs : fn.results.toList = rs)
    (h : resS Γ E H rs fun vs => packS vs fun x => K x H n) : Done Γ N (pureC w0 I0) E H n Q' := by
  subst hrs
  intro β I a w hS
  obtain ⟨u, x, hto, hr, hl, hrun⟩ := results_sound hΓ hS h
  exact hQ a w ⟨hS.env.defers, x, hrun, x, u, H, n, β, I, rfl, hto, hr, hl, hS.heap⟩
end
end Go.Ab
