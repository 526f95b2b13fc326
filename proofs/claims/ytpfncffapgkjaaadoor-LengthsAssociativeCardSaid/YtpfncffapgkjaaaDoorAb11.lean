/- Lists of operations; regions that draw their order; code. -/
import Derived.Test.YtpfncffapgkjaaaDoorAb10
import Derived.OrdersHeld
import Derived.StillTail
import Derived.Deep.Quiet
namespace Go
section
variable {P : Program} {ops : Array Oper} {md : Region.Mode} {C : World → Prop}

/-! ### a head of operations that give one value in every world of a class, and a tail in one forced order (after the kit's rule for a head that leaves the world as it is) -/
def wpAnyM (P : Program) (md : Region.Mode) (ops : Array Oper) (C : World → Prop) (n : Nat) (L : Array Bool → Act → Prop) : Nat → Array Bool → Act → Prop
  | 0, listed, a => L listed a
  | f + 1, listed, a =>
    Region.ready md ops listed ≠ [] ∧ ∀ i ∈ Region.ready md ops listed, i < n ∧ qOp P ops C i (wpAnyM P md ops C n L f (listed.setIfInBounds i true)) a
theorem wpAny_of_headM {n g : Nat} {L : Array Bool → Act → Prop} {Q' : Exit → Act → World → Prop} (hL : ∀ listed a w, C w → L listed a → wpAny P md ops Q' g listed a w) :
    ∀ (f : Nat) (listed : Array Bool) (a : Act) (w : World), C w → wpAnyM P md ops C n L f listed a → wpAny P md ops Q' (f + g) listed a w
  | 0, listed, a, w, hw, h => by rw [Nat.zero_add]; exact hL _ _ _ hw h
  | f + 1, listed, a, w, hw, h => by
    rw [show f + 1 + g = (f + g) + 1 by omega]
    exact ⟨fun h0 => absurd h0 h.1, fun i hi => wpOp_of_qOp hw (fun a' w' hw' h' => wpAny_of_headM hL f _ a' w' hw' h') (h.2 i hi).2⟩

theorem wpAnyM_first {n i : Nat} {oi : Oper} {v : Value} {L : Array Bool → Act → Prop} (hi : ops[i]? = some oi) (hsel : ∀ (j : Nat) (o : Oper) cs b, ops[j]? = some o → o.op ≠ .select cs b)
    (hs : Region.sinkB md ops n = true) (hc : Region.chainB md ops n = true) (hn : n < ops.size) (hin : i < n)
    (hdone : ∀ listed a, L listed a → ∀ j ∈ Region.ready md ops listed, n ≤ j) :
    ∀ (f : Nat) (listed : Array Bool) (a : Act), HeadInv md ops n listed →
      (∀ j oj, ops[j]? = some oj → j ≠ i → listed.getD j true = false → (∀ e ∈ oj.after, Region.binds md e = true → e.on ≠ i) → oi.apart ops oj = true) →
      i ∈ Region.ready md ops listed → YieldsIn P ops C oi v a →
      wpAnyM P md ops C n L f (listed.setIfInBounds i true) (a.put oi.dst v) → wpAnyM P md ops C n L (f + 1) listed a := by
  intro f
  induction f with
  | zero =>
    intro listed a inv _ hr hy H
    have hun := (mem_ready.1 hr).1
    refine ⟨fun h => (by rw [h] at hr; cases hr), fun j hj => ?_⟩
    have hjn : j < n := by
      rcases Nat.lt_or_ge j n with h | h
      · exact h
      · exact absurd hj (tail_waits hs hc hn inv _ i rfl hin hun j h)
    refine ⟨hjn, ?_⟩
    by_cases hji : j = i
    · subst hji; exact hy.qOp hi H
    · have := hdone _ _ H j (ready_mono hj hji)
      omega
  | succ f ih =>
    intro listed a inv hfree hr hy H
    have hun := (mem_ready.1 hr).1
    refine ⟨fun h => (by rw [h] at hr; cases hr), fun j hj => ?_⟩
    have hjn : j < n := by
      rcases Nat.lt_or_ge j n with h | h
      · exact h
      · exact absurd hj (tail_waits hs hc hn inv _ i rfl hin hun j h)
    refine ⟨hjn, ?_⟩
    by_cases hji : j = i
    · subst hji; exact hy.qOp hi H
    · have h1 := (H.2 j (ready_mono hj hji)).2
      obtain ⟨hjun, oj, hoj, hall⟩ := mem_ready.1 hj
      have hnot : ∀ e ∈ oj.after, Region.binds md e = true → e.on ≠ i := fun e he hb heq => by
        have h1 := hall e he hb
        rw [heq, getD_both hun] at h1
        cases h1
      have h2 := qOp_put hoj (hfree j oj hoj hji hjun hnot) (fun cs b => hsel i oi cs b hi) (fun cs b => hsel j oj cs b hoj) hy h1
      have hfree' : ∀ k ok, ops[k]? = some ok → k ≠ i → (listed.setIfInBounds j true).getD k true = false →
          (∀ e ∈ ok.after, Region.binds md e = true → e.on ≠ i) → oi.apart ops ok = true := fun k ok hk hki hun hno => by
        refine hfree k ok hk hki ?_ hno
        by_cases hjk : j = k
        · subst hjk; exact hjun
        · rw [getD_set_ne true hjk] at hun; exact hun
      refine qOp_mono (fun a' h3 => ih (listed.setIfInBounds j true) a' (inv.set hj hjn) hfree' (ready_mono hr (Ne.symm hji)) h3.1 ?_) h2
      rw [Array.setIfInBounds_comm _ _ hji]
      exact h3.2

theorem wpAnyM_lex {n g : Nat} {Lq : Act → Prop} (hsel : Region.noSelect ops = true) (hs : Region.sinkB md ops n = true) (hc : Region.chainB md ops n = true) (hn : n < ops.size) :
    ∀ (l : List Oper) (k : Nat) (listed : Array Bool) (a : Act), (∀ j, j < l.length → l[j]? = ops[k + j]?) → k + l.length = n → HeadInv md ops n listed →
    Region.lexHead md ops g l.length k listed = true → wpQuiet P ops C Lq l a →
    wpAnyM P md ops C n (fun listed' a' => Region.seqB md ops g n listed' = true ∧ Lq a') l.length listed a
  | [], k, listed, a, _, hk, _, hB, h => by
    have : k = n := by simpa using hk
    subst this
    exact ⟨by simpa [Region.lexHead] using hB, h⟩
  | o :: l, k, listed, a, hl, hk, inv, hB, h => by
    have h0 : ops[k]? = some o := by simpa using (hl 0 (by simp)).symm
    simp only [List.length_cons, Region.lexHead, Bool.and_eq_true] at hB
    obtain ⟨⟨hr, hf⟩, hB'⟩ := hB
    have hkn : k < n := by simp only [List.length_cons] at hk; omega
    have hr' : k ∈ Region.ready md ops listed := by simpa using hr
    have hst : qOp P ops C k (wpQuiet P ops C Lq l) a := by unfold qOp; simp only [h0]; exact h
    obtain ⟨v, hy, hK⟩ := yieldsIn_of_qOp h0 hst
    exact wpAnyM_first h0 (Region.noSelect_spec hsel) hs hc hn hkn (fun listed' a' hL => seqB_ready hL.1) l.length listed a inv (Region.free_spec h0 hf) hr' hy
      (wpAnyM_lex hsel hs hc hn l (k + 1) _ _ (fun j hj => by have := hl (j + 1) (by simp; omega); simpa [Nat.add_assoc, Nat.add_comm 1 j] using this) (by simp only [List.length_cons] at hk; omega) (inv.set hr' hkn) hB' hK)

theorem wp_region_quiet_tail {id : Nat} {Q : Exit → Act → World → Prop} {a : Act} {w : World} {l : List Oper} (n : Nat) (hm : P.follows .mixedOrders = true) (hB : Region.lexTailB .any l.toArray n = true) (hC : C { w with drawn := w.drawn + 1 })
    (h : wpQuiet P l.toArray C (fun a' => ∀ w', C w' → wpList P l.toArray Q (l.drop n) a' w') (l.take n) a) : (Code.region id l.toArray true).wp P Q a w := by
  simp only [Region.lexTailB, Bool.and_eq_true, decide_eq_true_eq] at hB
  obtain ⟨⟨⟨⟨hsel, hn⟩, hs⟩, hc⟩, hlex⟩ := hB
  have hn' : n < l.length := by simpa using hn
  have htl : (l.take n).length = n := by simp; omega
  have hdl : (l.drop n).length = l.toArray.size - n := by simp
  have inv0 : HeadInv .any l.toArray n (Array.replicate l.toArray.size false) :=
    ⟨by simp, fun j oj _ hl => (by rw [getD_replicate_false] at hl; cases hl), fun t _ ht => getD_in (by simpa using ht) (getD_replicate_false _ _)⟩
  have H := wpAnyM_lex (md := .any) (C := C) (g := l.toArray.size - n) hsel hs hc hn (l.take n) 0 _ a (fun j hj => by
    have hj' : j < n := by rw [htl] at hj; exact hj
    simp [hj']) (by simpa using htl) inv0 (by rw [htl]; exact hlex) h
  refine wp_region_any hm ?_
  have := wpAny_of_headM (Q' := Q) (g := l.toArray.size - n) (fun listed a' w' hw' hL => by
    have := wpAny_of_seq (md := .any) (Q' := Q) (l.drop n) n listed a' w' (fun j => by simp [List.getElem?_drop]) (by rw [hdl]; exact hL.1) (hL.2 w' hw')
    rwa [hdl] at this) _ _ _ _ hC H
  rw [htl, show n + (l.toArray.size - n) = l.toArray.size by omega] at this
  exact this
end

namespace Ab
open Go.RowKit

/-! ### operations that write nothing old, in any order: reading ones may be taken first -/
section
variable {P : Program} {ops : Array Oper} {Q : Exit → Act → World → Prop}
/-- What writes into rows that are there. -/
def isWrite (o : Oper) : Bool := match o.op with
  | .store _ _ _ => true
  | .call c => match c.callee with
    | .builtin .append => true
    | _ => false
  | .mapUpdate .. | .insert .. => true
  | _ => false
def wrB (ops : Array Oper) (j : Nat) : Bool := match ops[j]? with
  | some o => isWrite o
  | none => false
/-- Operation m waits for operation k. -/
def depB (ops : Array Oper) (m k : Nat) : Bool := match ops[m]? with
  | some o => o.after.any fun e => Region.binds .any e && e.on == k
  | none => false
/-- What the operations S wait for, below k. -/
def ups (ops : Array Oper) : Nat → List Nat → List Nat
  | 0, S => S
  | k + 1, S => ups ops k (if S.any (fun m => depB ops m k) then k :: S else S)
/-- Nothing is listed ahead of what it waits for. -/
def Closed (ops : Array Oper) (listed : Array Bool) : Prop := ∀ m k, listed.getD m false = true → depB ops m k = true → listed.getD k false = true
/-- Every operation that writes has been listed, or waits for operation i. -/
def lateB (ops : Array Oper) (listed : Array Bool) (i : Nat) : Bool := (List.range ops.size).all fun j => !wrB ops j || listed.getD j true || (ups ops j [j]).contains i

theorem ups_listed {listed : Array Bool} {j : Nat} (hc : Closed ops listed) (hj : ∀ k, depB ops j k = true → listed.getD k false = true) : ∀ (k : Nat) (S : List Nat), (∀ m ∈ S, m = j ∨ listed.getD m false = true) → ∀ m ∈ ups ops k S, m = j ∨ listed.getD m false = true
  | 0, _, h => h
  | k + 1, S, h => by
    unfold ups
    refine ups_listed hc hj k _ ?_
    split
    · rename_i ha
      obtain ⟨m, hm, hd⟩ := List.any_eq_true.1 ha
      intro m' hm'
      rcases List.mem_cons.1 hm' with rfl | hm'
      · rcases h m hm with rfl | hl
        · exact .inr (hj _ hd)
        · exact .inr (hc _ _ hl hd)
      · exact h m' hm'
    · exact h

def wpT (P : Program) (ops : Array Oper) (Q : Exit → Act → World → Prop) : Nat → Array Bool → Act → World → Prop
  | 0, listed, a, w => Region.ready .any ops listed = [] ∧ Q .normal a w
  | f + 1, listed, a, w => (Region.ready .any ops listed = [] → Q .normal a w) ∧
    ∀ i ∈ Region.ready .any ops listed, wpOp P ops Q i (fun a' w' => (wrB ops i = false → Same w w') ∧ wpT P ops Q f (listed.setIfInBounds i true) a' w') a w

theorem wpAny_of_T : ∀ (f : Nat) (listed : Array Bool) (a : Act) (w : World), wpT P ops Q f listed a w → wpAny P .any ops Q f listed a w
  | 0, _, _, _, h => h
  | f + 1, _, _, _, h => ⟨h.1, fun i hi => wpOp_mono (fun a' w' h' => wpAny_of_T f _ a' w' h'.2) (h.2 i hi)⟩

theorem YieldsIf.later {o : Oper} {v : Value} {a : Act} {w w' : World} (h : YieldsIf P ops (Same w) o v a) (hs : Same w w') : YieldsIf P ops (Same w') o v a :=
  h.imp (fun ⟨h1, h2⟩ => ⟨h1, fun w'' h'' => h2 w'' (hs.trans (h''.mono hs.size))⟩) id

theorem ready_dep {listed : Array Bool} {j : Nat} (hj : j ∈ Region.ready .any ops listed) : ∀ k, depB ops j k = true → listed.getD k false = true := by
  intro k hk
  obtain ⟨_, oj, hoj, hall⟩ := mem_ready.1 hj
  unfold depB at hk
  rw [hoj] at hk
  simp only [Array.any_eq_true', Bool.and_eq_true, beq_iff_eq] at hk
  obtain ⟨e, he, hb, rfl⟩ := hk
  exact hall e he hb
theorem getD_set_false {listed : Array Bool} {j m : Nat} (h : listed.getD m false = true) : (listed.setIfInBounds j true).getD m false = true := by
  simp only [Array.getD_eq_getD_getElem?, Array.getElem?_setIfInBounds] at h ⊢
  split
  · rename_i e; subst e; split
    · rfl
    · rename_i hlt; simp [Array.getElem?_eq_none (Nat.le_of_not_lt hlt)] at h
  · exact h
theorem getD_set_or {listed : Array Bool} {j m : Nat} (h : (listed.setIfInBounds j true).getD m false = true) : m = j ∨ listed.getD m false = true := by
  by_cases e : m = j
  · exact .inl e
  · simp only [Array.getD_eq_getD_getElem?, Array.getElem?_setIfInBounds] at h ⊢
    rw [if_neg (fun e' => e e'.symm)] at h
    exact .inr h
theorem Closed.set {listed : Array Bool} {j : Nat} (hc : Closed ops listed) (hj : j ∈ Region.ready .any ops listed) : Closed ops (listed.setIfInBounds j true) := fun m k hm hd => by
  rcases getD_set_or hm with rfl | hm
  · exact getD_set_false (ready_dep hj k hd)
  · exact getD_set_false (hc m k hm hd)
/-- While operation i is not listed, nothing that writes is ready. -/
theorem late_spec {listed : Array Bool} {i j : Nat} (hc : Closed ops listed) (hl : lateB ops listed i = true) (hi : i ∈ Region.ready .any ops listed) (hj : j ∈ Region.ready .any ops listed) (hji : j ≠ i) : wrB ops j = false := by
  obtain ⟨hjl, oj, hoj, _⟩ := mem_ready.1 hj
  have hlt : j < ops.size := (Array.getElem?_eq_some_iff.1 hoj).1
  have := List.all_eq_true.1 hl j (List.mem_range.2 hlt)
  simp only [Bool.or_eq_true, Bool.not_eq_true'] at this
  rcases this with (h | h) | h
  · exact h
  · rw [hjl] at h; cases h
  · exfalso
    rcases ups_listed hc (ready_dep hj) j [j] (fun m hm => .inl (by simpa using hm)) i (by simpa using h) with e | e
    · exact hji e.symm
    · have := (mem_ready.1 hi).1
      simp only [Array.getD_eq_getD_getElem?] at e this
      cases hx : listed[i]? with
      | none => rw [hx] at e; cases e
      | some b => rw [hx] at e this; simp only [Option.getD_some] at e this; rw [e] at this; cases this
theorem lateB_set {listed : Array Bool} {i j : Nat} (hl : lateB ops listed i = true) : lateB ops (listed.setIfInBounds j true) i = true := by
  refine List.all_eq_true.2 fun k hk => ?_
  have := List.all_eq_true.1 hl k hk
  simp only [Bool.or_eq_true, Bool.not_eq_true'] at this ⊢
  rcases this with (h | h) | h
  · exact .inl (.inl h)
  · refine .inl (.inr ?_)
    simp only [Array.getD_eq_getD_getElem?, Array.getElem?_setIfInBounds] at h ⊢
    split
    · split <;> rfl
    · exact h
  · exact .inr h

theorem wpT_take {i : Nat} {oi : Oper} {v : Value} (hi : ops[i]? = some oi) (hsel : ∀ (j : Nat) (o : Oper) cs b, ops[j]? = some o → o.op ≠ .select cs b) (hQ : ∀ c a w, Q (.panic c) (a.put oi.dst v) w → Q (.panic c) a w) :
    ∀ (f : Nat) (listed : Array Bool) (a : Act) (w : World), (∀ j oj, ops[j]? = some oj → j ≠ i → listed.getD j true = false → (∀ e ∈ oj.after, Region.binds .any e = true → e.on ≠ i) → oi.apart ops oj = true) →
      Closed ops listed → lateB ops listed i = true → i ∈ Region.ready .any ops listed → YieldsIf P ops (Same w) oi v a → wpT P ops Q f (listed.setIfInBounds i true) (a.put oi.dst v) w → wpT P ops Q (f + 1) listed a w := by
  intro f
  induction f with
  | zero =>
    intro listed a w _ _ _ hr hy K
    refine ⟨fun h => (by rw [h] at hr; cases hr), fun j hj => ?_⟩
    by_cases hji : j = i
    · subst hji; exact hy.wpOp hi (Below.refl _ _) ⟨fun _ => Below.refl _ _, K⟩
    · have := ready_mono hj hji
      rw [K.1] at this; cases this
  | succ f ih =>
    intro listed a w hfree hc hl hr hy K
    refine ⟨fun h => (by rw [h] at hr; cases hr), fun j hj => ?_⟩
    by_cases hji : j = i
    · subst hji; exact hy.wpOp hi (Below.refl _ _) ⟨fun _ => Below.refl _ _, K⟩
    · have h1 := K.2 j (ready_mono hj hji)
      have hnw := late_spec hc hl hr hj hji
      obtain ⟨hjun, oj, hoj, hall⟩ := mem_ready.1 hj
      have hnot : ∀ e ∈ oj.after, Region.binds .any e = true → e.on ≠ i := fun e he hb heq => by
        have g1 := hall e he hb
        have g0 := (mem_ready.1 hr).1
        rw [heq] at g1
        rcases Nat.lt_or_ge i listed.size with h' | h'
        · simp [h'] at g0 g1; rw [g0] at g1; cases g1
        · simp [Array.getElem?_eq_none h'] at g1
      have h2 := wpOp_putIf hoj (hfree j oj hoj hji hjun hnot) (fun cs b => hsel i oi cs b hi) (fun cs b => hsel j oj cs b hoj) hQ hy h1
      have hfree' : ∀ k ok, ops[k]? = some ok → k ≠ i → (listed.setIfInBounds j true).getD k true = false → (∀ e ∈ ok.after, Region.binds .any e = true → e.on ≠ i) → oi.apart ops ok = true := fun k ok hk hki hun hno => by
        refine hfree k ok hk hki ?_ hno
        by_cases hjk : j = k
        · subst hjk; exact hjun
        · rw [getD_set_ne true hjk] at hun; exact hun
      refine wpOp_mono (fun a' w' h3 => ⟨h3.2.1, ih (listed.setIfInBounds j true) a' w' hfree' (hc.set hj) (lateB_set hl) (ready_mono hr (Ne.symm hji)) (YieldsIf.later h3.1 (h3.2.1 hnw)) ?_⟩) h2
      rw [Array.setIfInBounds_comm _ _ hji]
      exact h3.2.2

theorem wpT_take_still {i : Nat} {oi : Oper} {v : Value} (hi : ops[i]? = some oi) (hsel : ∀ (j : Nat) (o : Oper) cs b, ops[j]? = some o → o.op ≠ .select cs b) (hQ : ∀ c a w, Q (.panic c) (a.put oi.dst v) w → Q (.panic c) a w) :
    ∀ (f : Nat) (listed : Array Bool) (a : Act) (w : World), (∀ j oj, ops[j]? = some oj → j ≠ i → listed.getD j true = false → (∀ e ∈ oj.after, Region.binds .any e = true → e.on ≠ i) → oi.apart ops oj = true) →
      i ∈ Region.ready .any ops listed → YieldsIf P ops (fun _ => True) oi v a → wpT P ops Q f (listed.setIfInBounds i true) (a.put oi.dst v) w → wpT P ops Q (f + 1) listed a w := by
  intro f
  induction f with
  | zero =>
    intro listed a w _ hr hy K
    refine ⟨fun h => (by rw [h] at hr; cases hr), fun j hj => ?_⟩
    by_cases hji : j = i
    · subst hji; exact hy.wpOp hi trivial ⟨fun _ => Below.refl _ _, K⟩
    · have := ready_mono hj hji
      rw [K.1] at this; cases this
  | succ f ih =>
    intro listed a w hfree hr hy K
    refine ⟨fun h => (by rw [h] at hr; cases hr), fun j hj => ?_⟩
    by_cases hji : j = i
    · subst hji; exact hy.wpOp hi trivial ⟨fun _ => Below.refl _ _, K⟩
    · have h1 := K.2 j (ready_mono hj hji)
      obtain ⟨hjun, oj, hoj, hall⟩ := mem_ready.1 hj
      have hnot : ∀ e ∈ oj.after, Region.binds .any e = true → e.on ≠ i := fun e he hb heq => by
        have g1 := hall e he hb
        have g0 := (mem_ready.1 hr).1
        rw [heq] at g1
        rcases Nat.lt_or_ge i listed.size with h' | h'
        · simp [h'] at g0 g1; rw [g0] at g1; cases g1
        · simp [Array.getElem?_eq_none h'] at g1
      have h2 := wpOp_putIf hoj (hfree j oj hoj hji hjun hnot) (fun cs b => hsel i oi cs b hi) (fun cs b => hsel j oj cs b hoj) hQ hy h1
      have hfree' : ∀ k ok, ops[k]? = some ok → k ≠ i → (listed.setIfInBounds j true).getD k true = false → (∀ e ∈ ok.after, Region.binds .any e = true → e.on ≠ i) → oi.apart ops ok = true := fun k ok hk hki hun hno => by
        refine hfree k ok hk hki ?_ hno
        by_cases hjk : j = k
        · subst hjk; exact hjun
        · rw [getD_set_ne true hjk] at hun; exact hun
      refine wpOp_mono (fun a' w' h3 => ⟨h3.2.1, ih (listed.setIfInBounds j true) a' w' hfree' (ready_mono hr (Ne.symm hji)) h3.1 ?_⟩) h2
      rw [Array.setIfInBounds_comm _ _ hji]
      exact h3.2.2

def stillAt (ops : Array Oper) (i : Nat) : Bool := match ops[i]? with
  | some o => stillB o
  | none => false
/-- An order: a number with 'true' is a reading operation that may come now; with 'false' the only one that may. -/
def schedB (ops : Array Oper) : List (Nat × Bool) → Array Bool → Bool
  | [], listed => (Region.ready .any ops listed).isEmpty
  | (i, true) :: r, listed => Region.free .any ops listed i && (lateB ops listed i || stillAt ops i) && (Region.ready .any ops listed).contains i && schedB ops r (listed.setIfInBounds i true)
  | (i, false) :: r, listed => Region.ready .any ops listed == [i] && schedB ops r (listed.setIfInBounds i true)
end

section
variable {C : CC} {β : Val} {n N : Nat} {H : Heap} {I : Nat → Prop} {w : World} {E : Env} {a : Act} {Γ : Ctx}

structure St (Γ : Ctx) (N : Nat) (C : CC) (β : Val) (n : Nat) (E : Env) (H : Heap) (I : Nat → Prop) (a : Act) (w : World) : Prop where
  env : EnvOK C.D β n I w E a
  size : a.tmps.size = N
  heap : HeapOK C β n H I w
  glob : GlobOK Γ.glob I w
  anch : C.n0 ≤ n ∧ ∀ i, i < C.n0 → β i = C.β0 i

/-- What operation j of the region has yielded: not known; nothing; a truth value. -/
def yieldE (ops : List Oper) (E : Env) (j : Nat) : Option (Option Bool) :=
  match (ops[j]?).bind (·.dst) with
  | some d => match E.get d with
    | some (.c (.bool b)) => some (some b)
    | some (.c (.raw (.tuple _))) => some none
    | _ => none
  | none => none

theorem yieldE_sound {D : List Deferred} {ops : List Oper} {j : Nat} {r : Option Bool} (hE : EnvOK D β n I w E a) (h : yieldE ops E j = some r) : yielded ops.toArray a.tmps j = r := by
  unfold yieldE at h
  split at h
  · rename_i d hd
    have hd' : (ops.toArray[j]?).bind (·.dst) = some d := by simpa using hd
    unfold yielded
    rw [hd']
    split at h
    · rename_i b hb; cases h
      obtain ⟨x, hx, hr⟩ := hE.slot d _ hb
      have := (SV.rel_flat (x := .c (.bool b)) rfl).1 hr
      subst this
      simp [hx, SV.val, Cell.val]
    · rename_i l hb; cases h
      obtain ⟨x, hx, hr⟩ := hE.slot d _ hb
      have := (SV.rel_flat (x := .c (.raw (.tuple l))) rfl).1 hr
      subst this
      simp [hx, SV.val, Cell.val]
    · cases h
  · cases h

def dstOK (N : Nat) : Option Tmp → Prop
  | some d => d < N
  | none => True

abbrev undefV : SV := .c (.raw (.tuple #[]))

def wpQS (Γ : Ctx) (N : Nat) (ops : List Oper) : List Oper → Env → Heap → (Env → Prop) → Prop
  | [], E, _, K => K E
  | o :: os, E, H, K => dstOK N o.dst ∧ match o.guard with
    | none => quietS Γ o E H fun v => wpQS Γ N ops os (E.put o.dst v) H K
    | some (j, want) => match yieldE ops E j with
      | some (some b) => (b = want → quietS Γ o E H fun v => wpQS Γ N ops os (E.put o.dst v) H K) ∧ (b = !want → wpQS Γ N ops os (E.put o.dst undefV) H K)
      | some none => wpQS Γ N ops os (E.put o.dst undefV) H K
      | none => False

def wpS (Γ : Ctx) (N : Nat) (ops : List Oper) : List Oper → Env → Heap → Nat → (Env → Heap → Nat → Prop) → Prop
  | [], E, H, n, K => K E H n
  | o :: os, E, H, n, K => dstOK N o.dst ∧ match o.guard with
    | none => stepS Γ o E H n fun v H n => wpS Γ N ops os (E.put o.dst v) H n K
    | some (j, want) => match yieldE ops E j with
      | some (some b) => (b = want → stepS Γ o E H n fun v H n => wpS Γ N ops os (E.put o.dst v) H n K) ∧ (b = !want → wpS Γ N ops os (E.put o.dst undefV) H n K)
      | some none => wpS Γ N ops os (E.put o.dst undefV) H n K
      | none => False

/-- A reading operation. -/
def readS (Γ : Ctx) (o : Oper) (E : Env) (H : Heap) (K : SV → Prop) : Prop :=
  match o.op with
  | .build t parts => evs Γ.glob E (parts.toList.map (·.2)) fun vs => buildV Γ.ty t ((parts.toList.map (·.1)).zip vs) K
  | _ => pureS Γ.ty Γ.glob o E H K

/-- What is taken in its forced place. -/
def forceS (Γ : Ctx) (o : Oper) (E : Env) (H : Heap) (n : Nat) (K : SV → Heap → Nat → Prop) : Prop := match isWrite o with
  | true => stepS Γ o E H n K
  | false => growS Γ o E H n K
def wpD (Γ : Ctx) (N : Nat) (ops : List Oper) : List (Nat × Bool) → Env → Heap → Nat → (Env → Heap → Nat → Prop) → Prop
  | [], E, H, n, K => K E H n
  | (i, q) :: r, E, H, n, K => match ops[i]? with
    | none => False
    | some o => dstOK N o.dst ∧ match o.guard with
      | none => if q then readS Γ o E H fun v => wpD Γ N ops r (E.put o.dst v) H n K else forceS Γ o E H n fun v H n => wpD Γ N ops r (E.put o.dst v) H n K
      | some (j, want) => match yieldE ops E j with
        | some (some b) => (b = want → if q then readS Γ o E H fun v => wpD Γ N ops r (E.put o.dst v) H n K else forceS Γ o E H n fun v H n => wpD Γ N ops r (E.put o.dst v) H n K) ∧ (b = !want → wpD Γ N ops r (E.put o.dst undefV) H n K)
        | some none => wpD Γ N ops r (E.put o.dst undefV) H n K
        | none => False

theorem EnvOK.put {D : List Deferred} (h : EnvOK D β n I w E a) (hN : a.tmps.size = N) {d : Option Tmp} (hd : dstOK N d) {v : SV} {x : Value} (hr : v.rel β I w x) (hb : v.low n) : EnvOK D β n I w (E.put d v) (a.put d x) ∧ (a.put d x).tmps.size = N := by
  cases d with
  | none => exact ⟨h, hN⟩
  | some d =>
    have hlt : d < a.tmps.size := by rw [hN]; exact hd
    refine ⟨⟨h.defers, fun i u hu => ?_, fun i u hu => ?_⟩, by simpa [Act.put] using hN⟩
    · rw [Env.get_put] at hu
      simp only [Act.put, Array.getElem?_setIfInBounds]
      split at hu
      · rename_i e; cases e; cases hu
        exact ⟨x, by simp [hlt], hr⟩
      · rename_i e
        have : d ≠ i := fun e' => e (by rw [e'])
        rw [if_neg this]
        exact h.slot i u hu
    · rw [Env.get_put] at hu
      split at hu
      · cases hu; exact hb
      · exact h.low i u hu

theorem undefV_rel : undefV.rel β I w undef := Cell.rel_val (β := β) (x := .raw _) rfl

theorem wpQS_sound {D : List Deferred} (hΓ : Γ.OK) {ops : List Oper} (hG : GlobOK Γ.glob I w) (hH : HeapOK C β n H I w) {Q : Act → Prop} : ∀ (os : List Oper) {E : Env} {a : Act} {K : Env → Prop}, EnvOK D β n I w E a → a.tmps.size = N → wpQS Γ N ops os E H K →
    (∀ E' a', K E' → EnvOK D β n I w E' a' → a'.tmps.size = N → Q a') → wpQuiet Γ.P ops.toArray (Same w) Q os a
  | [], E, a, K, hE, hN, h, hQ => hQ E a h hE hN
  | o :: os, E, a, K, hE, hN, h, hQ => by
    obtain ⟨hd, h⟩ := h
    have run : quietS Γ o E H (fun v => wpQS Γ N ops os (E.put o.dst v) H K) → o.quiet Γ.P a (Same w) (wpQuiet Γ.P ops.toArray (Same w) Q os) := by
      intro h
      obtain ⟨v, x, hK, hb, hrel, hr⟩ := quietS_sound hΓ hE hG hH h
      obtain ⟨hE', hN'⟩ := hE.put hN hd hrel hb
      exact ⟨x, hr, wpQS_sound hΓ hG hH os hE' hN' hK hQ⟩
    have skip : wpQS Γ N ops os (E.put o.dst undefV) H K → wpQuiet Γ.P ops.toArray (Same w) Q os (a.put o.dst undef) := by
      intro h
      obtain ⟨hE', hN'⟩ := hE.put hN hd undefV_rel trivial
      exact wpQS_sound hΓ hG hH os hE' hN' h hQ
    unfold wpQuiet
    split at h
    · rename_i hg
      simp only [Region.wanted, hg, if_true]
      exact run h
    · rename_i j want hg
      split at h
      · rename_i b hy
        have := yieldE_sound hE hy
        simp only [Region.wanted, hg, this]
        by_cases hbw : b = want
        · subst hbw; simp only [beq_self_eq_true, if_true]; exact run (h.1 rfl)
        · have : (some b == some want) = false := by simpa using hbw
          simp only [this, Bool.false_eq_true, if_false]
          exact skip (h.2 (by cases b <;> cases want <;> simp_all))
      · rename_i hy
        have := yieldE_sound hE hy
        simp only [Region.wanted, hg, this]
        exact skip h
      · exact h.elim

theorem St.after (hS : St Γ N C β n E H I a w) {K : SV → Heap → Nat → Prop} {x : Value} {w' : World} (hA : After C β n I w K x w') {d : Option Tmp} (hd : dstOK N d) :
    ∃ v H' n' β' I', K v H' n' ∧ St Γ N C β' n' (E.put d v) H' I' (a.put d x) w' := by
  obtain ⟨v, H', n', β', I', hK, hr, hb, hn, hβ, hE, hH⟩ := hA
  obtain ⟨hE', hN'⟩ := (hS.env.mono hβ hE hn).put hS.size hd hr hb
  exact ⟨v, H', n', β', I', hK, hE', hN', hH, hS.glob.mono hE, Nat.le_trans hS.anch.1 hn, fun i hi => (hβ i (Nat.lt_of_lt_of_le hi hS.anch.1)).trans (hS.anch.2 i hi)⟩

theorem wpS_sound (hΓ : Γ.OK) {ops : List Oper} {Q : Exit → Act → World → Prop} : ∀ (os : List Oper) {β : Val} {n : Nat} {E : Env} {H : Heap} {I : Nat → Prop} {a : Act} {w : World} {K : Env → Heap → Nat → Prop}, St Γ N C β n E H I a w → wpS Γ N ops os E H n K →
    (∀ β' n' E' H' I' a' w', K E' H' n' → St Γ N C β' n' E' H' I' a' w' → Q .normal a' w') → wpList Γ.P ops.toArray Q os a w
  | [], β, n, E, H, I, a, w, K, hS, h, hQ => hQ β n E H I a w h hS
  | o :: os, β, n, E, H, I, a, w, K, hS, h, hQ => by
    obtain ⟨hd, h⟩ := h
    have run : stepS Γ o E H n (fun v H n => wpS Γ N ops os (E.put o.dst v) H n K) → o.wp Γ.P a w (wpList Γ.P ops.toArray Q os) Q := by
      intro h
      refine (stepS_sound hΓ hS.env hS.glob hS.heap h).wp fun x w' hA => ?_
      obtain ⟨v, H', n', β', I', hK, hS'⟩ := hS.after hA hd
      exact wpS_sound hΓ os hS' hK hQ
    have skip : wpS Γ N ops os (E.put o.dst undefV) H n K → wpList Γ.P ops.toArray Q os (a.put o.dst undef) w := by
      intro h
      obtain ⟨hE', hN'⟩ := hS.env.put hS.size hd undefV_rel trivial
      exact wpS_sound hΓ os ⟨hE', hN', hS.heap, hS.glob, hS.anch⟩ h hQ
    unfold wpList
    split at h
    · rename_i hg
      simp only [Region.wanted, hg, if_true]
      exact .inl (run h)
    · rename_i j want hg
      split at h
      · rename_i b hy
        have := yieldE_sound hS.env hy
        simp only [Region.wanted, hg, this]
        by_cases hbw : b = want
        · subst hbw; simp only [beq_self_eq_true, if_true]; exact .inl (run (h.1 rfl))
        · have : (some b == some want) = false := by simpa using hbw
          simp only [this, Bool.false_eq_true, if_false]
          exact skip (h.2 (by cases b <;> cases want <;> simp_all))
      · rename_i hy
        have := yieldE_sound hS.env hy
        simp only [Region.wanted, hg, this]
        exact skip h
      · exact h.elim

theorem readS_sound {D : List Deferred} (hΓ : Γ.OK) (hE : EnvOK D β n I w E a) (hG : GlobOK Γ.glob I w) (hH : HeapOK C β n H I w) {o : Oper} {K : SV → Prop} (h : readS Γ o E H K) : Gives Γ.P β n I w a o K := by
  unfold readS at h
  split at h
  · rename_i t parts ho
    obtain ⟨vs, h, hr⟩ := evs_callRel hE hG h
    obtain ⟨hp, hlow⟩ := partsRel_of hr
    obtain ⟨v, x, hK, hl, hrel, hrun⟩ := run_buildV (P := Γ.P) hΓ.ty hp hlow h
    exact ⟨v, x, hK, hl, hrel, fun w' _ => exec_build ho (hrun w')⟩
  · exact pureS_sound (P := Γ.P) hΓ.ty hG hE hH h

theorem readS_still {D : List Deferred} (hΓ : Γ.OK) (hE : EnvOK D β n I w E a) (hG : GlobOK Γ.glob I w) {o : Oper} (hs : stillB o = true) {K : SV → Prop} (h : readS Γ o E H K) :
    ∃ v x, K v ∧ v.low n ∧ v.rel β I w x ∧ ∀ w', (execOp a.eval o).run Γ.P w' = .ok (.value x) w' := by
  unfold readS at h
  split at h
  · rename_i t parts ho
    simp [stillB, ho] at hs
  · exact pureS_still hΓ.ty hG hE hs h
theorem wpD_sound (hΓ : Γ.OK) {l : List Oper} (hsel : Region.noSelect l.toArray = true) {Q : Exit → Act → World → Prop} (hQp : ∀ c a a' w, Q (.panic c) a' w → Q (.panic c) a w) :
    ∀ (r : List (Nat × Bool)) (listed : Array Bool) {β : Val} {n : Nat} {E : Env} {H : Heap} {I : Nat → Prop} {a : Act} {w : World} {K : Env → Heap → Nat → Prop}, schedB l.toArray r listed = true → Closed l.toArray listed → St Γ N C β n E H I a w → wpD Γ N l r E H n K →
      (∀ β' n' E' H' I' a' w', K E' H' n' → St Γ N C β' n' E' H' I' a' w' → Q .normal a' w') → wpT Γ.P l.toArray Q r.length listed a w
  | [], listed, β, n, E, H, I, a, w, K, hB, _, hS, h, hQ => ⟨by simpa [schedB] using hB, hQ β n E H I a w h hS⟩
  | (i, q) :: r, listed, β, n, E, H, I, a, w, K, hB, hc, hS, h, hQ => by
    unfold wpD at h
    split at h
    · exact h.elim
    · rename_i o ho
      obtain ⟨hd, h⟩ := h
      have hi : l.toArray[i]? = some o := by simpa using ho
      cases q with
      | true =>
        simp only [schedB, Bool.and_eq_true] at hB
        obtain ⟨⟨⟨hf, hlate⟩, hr⟩, hB⟩ := hB
        have hr' : i ∈ Region.ready .any l.toArray listed := by simpa using hr
        have fin : ∀ v x, (lateB l.toArray listed i = true ∧ YieldsIf Γ.P l.toArray (Same w) o x a ∨ YieldsIf Γ.P l.toArray (fun _ => True) o x a) → v.rel β I w x → v.low n → wpD Γ N l r (E.put o.dst v) H n K → wpT Γ.P l.toArray Q (r.length + 1) listed a w := by
          intro v x hy hrel hlow hK
          obtain ⟨hE', hN'⟩ := hS.env.put hS.size hd hrel hlow
          rcases hy with ⟨hlate, hy⟩ | hy
          · exact wpT_take hi (Region.noSelect_spec hsel) (fun c a w => hQp c a _ w) r.length listed a w (Region.free_spec hi hf) hc hlate hr' hy (wpD_sound hΓ hsel hQp r _ hB (hc.set hr') ⟨hE', hN', hS.heap, hS.glob, hS.anch⟩ hK hQ)
          · exact wpT_take_still hi (Region.noSelect_spec hsel) (fun c a w => hQp c a _ w) r.length listed a w (Region.free_spec hi hf) hr' hy (wpD_sound hΓ hsel hQp r _ hB (hc.set hr') ⟨hE', hN', hS.heap, hS.glob, hS.anch⟩ hK hQ)
        have run : Region.wanted o (yielded l.toArray a.tmps) = true → readS Γ o E H (fun v => wpD Γ N l r (E.put o.dst v) H n K) → wpT Γ.P l.toArray Q (r.length + 1) listed a w := by
          intro hw h
          rcases Bool.or_eq_true _ _ ▸ hlate with hl1 | hl1
          · obtain ⟨v, x, hK, hl, hrel, hrun⟩ := readS_sound hΓ hS.env hS.glob hS.heap h
            exact fin v x (.inl ⟨hl1, .inl ⟨hw, hrun⟩⟩) hrel hl hK
          · obtain ⟨v, x, hK, hl, hrel, hrun⟩ := readS_still hΓ hS.env hS.glob (by unfold stillAt at hl1; rw [hi] at hl1; exact hl1) h
            exact fin v x (.inr (.inl ⟨hw, fun w' _ => hrun w'⟩)) hrel hl hK
        have skip : Region.wanted o (yielded l.toArray a.tmps) = false → wpD Γ N l r (E.put o.dst undefV) H n K → wpT Γ.P l.toArray Q (r.length + 1) listed a w := by
          intro hw h
          exact fin undefV undef (.inr (.inr ⟨hw, rfl⟩)) undefV_rel trivial h
        simp only [List.length_cons]
        split at h
        · rename_i hg
          exact run (by simp [Region.wanted, hg]) (by simpa using h)
        · rename_i j want hg
          split at h
          · rename_i b hy
            have hy' := yieldE_sound hS.env hy
            by_cases hbw : b = want
            · subst hbw
              exact run (by simp [Region.wanted, hg, hy']) (by simpa using h.1 rfl)
            · exact skip (by simpa [Region.wanted, hg, hy'] using hbw) (h.2 (by cases b <;> cases want <;> simp_all))
          · rename_i hy
            exact skip (by simp [Region.wanted, hg, yieldE_sound hS.env hy]) h
          · exact h.elim
      | false =>
        simp only [schedB, Bool.and_eq_true, beq_iff_eq] at hB
        obtain ⟨hr, hB⟩ := hB
        simp only [List.length_cons]
        refine ⟨fun h0 => (by rw [hr] at h0; cases h0), fun j hj => ?_⟩
        rw [hr] at hj
        obtain rfl : j = i := by simpa using hj
        have run : forceS Γ o E H n (fun v H n => wpD Γ N l r (E.put o.dst v) H n K) → o.wp Γ.P a w (fun a' w' => (wrB l.toArray j = false → Same w w') ∧ wpT Γ.P l.toArray Q r.length (listed.setIfInBounds j true) a' w') Q := by
          intro h
          have hwr : wrB l.toArray j = isWrite o := by unfold wrB; rw [hi]
          have hc' : Closed l.toArray (listed.setIfInBounds j true) := hc.set (by rw [hr]; exact List.mem_singleton.2 rfl)
          unfold forceS at h
          split at h <;> rename_i hw
          · refine (stepS_sound hΓ hS.env hS.glob hS.heap h).wp fun x w' hA => ?_
            obtain ⟨v, H', n', β', I', hK, hS'⟩ := hS.after hA hd
            exact ⟨fun h0 => (by rw [hwr, hw] at h0; cases h0), wpD_sound hΓ hsel hQp r _ hB hc' hS' hK hQ⟩
          · refine (growS_sound hΓ hS.env hS.glob hS.heap h).wp fun x w' hA => ?_
            obtain ⟨v, H', n', β', I', hK, hS'⟩ := hS.after hA.2 hd
            exact ⟨fun _ => hA.1, wpD_sound hΓ hsel hQp r _ hB hc' hS' hK hQ⟩
        have skip : wpD Γ N l r (E.put o.dst undefV) H n K → (wrB l.toArray j = false → Same w w) ∧ wpT Γ.P l.toArray Q r.length (listed.setIfInBounds j true) (a.put o.dst undef) w := by
          intro h
          obtain ⟨hE', hN'⟩ := hS.env.put hS.size hd undefV_rel trivial
          exact ⟨fun _ => Below.refl _ _, wpD_sound hΓ hsel hQp r _ hB (hc.set (by rw [hr]; exact List.mem_singleton.2 rfl)) ⟨hE', hN', hS.heap, hS.glob, hS.anch⟩ h hQ⟩
        unfold wpOp
        simp only [hi]
        split at h
        · rename_i hg
          simp only [Region.wanted, hg, if_true]
          exact .inl (run (by simpa using h))
        · rename_i j' want hg
          split at h
          · rename_i b hy
            have hy' := yieldE_sound hS.env hy
            simp only [Region.wanted, hg, hy']
            by_cases hbw : b = want
            · subst hbw; simp only [beq_self_eq_true, if_true]; exact .inl (run (by simpa using h.1 rfl))
            · have : (some b == some want) = false := by simpa using hbw
              simp only [this, Bool.false_eq_true, if_false]
              exact skip (h.2 (by cases b <;> cases want <;> simp_all))
          · rename_i hy
            have hy' := yieldE_sound hS.env hy
            simp only [Region.wanted, hg, hy']
            exact skip h
          · exact h.elim
end
end Ab
end Go
