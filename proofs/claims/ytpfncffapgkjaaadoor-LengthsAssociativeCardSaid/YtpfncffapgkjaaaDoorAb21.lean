/- Functions that write one own row of the caller's, through a slice in their first argument; closures that are known by their contract alone. -/
import Derived.Test.YtpfncffapgkjaaaDoorAb17
import Derived.Test.YtpfncffapgkjaaaDoorAb15
namespace Go.Ab
set_option linter.unusedVariables false
open Go.RowKit
section
variable {Γ : Ctx} {N : Nat} {C : CC} {β : Val} {n : Nat} {E : Env} {H : Heap} {I : Nat → Prop} {a : Act} {w : World}

/-- Of the row (type, content, room), the slice's length and capacity, and the other arguments: what the row holds behind, and the result. -/
abbrev LSpec := TypeId → Cont → Nat → Nat → Nat → List SV → (Cont → SV → Prop) → Prop
def SlcOK (P : Program) (glob : Nat → Option Cont) (f : FuncId) (q : LSpec) : Prop :=
  ∀ te c cap len capS vs K, q te c cap len capS vs K → ∃ c' v, K c' v ∧ c'.flat = true ∧ v.flat = true ∧ ∀ (I : Nat → Prop) (w : World) (b : Nat) (xs : List Value), GlobOK glob I w → HeapOK (ptrC w I b) (fun _ => some b) 1 [(0, .own te c cap)] I w →
    callRel (fun _ => some b) 1 I w (.c (.slice 0 0 len capS) :: vs) xs → Calls P f xs.toArray w fun e w' => e = .returned v.val ∧ ∃ I' β' n', HeapOK (ptrC w I b) β' n' [(0, .own te c' cap)] I' w' ∧ β' 0 = some b
/-- The contract for a caller; the other arguments as data. -/
def slcS (q : LSpec) : GSpec := fun vs H n K => match vs with
  | .c (.slice id 0 len capS) :: rest => match H.get id with
    | some (.own te c cap) => (c.flat = true ∧ 0 < c.len ∧ ∀ v ∈ rest, v.low 0) ∧ q te c cap len capS rest fun c' v => K v ((id, .own te c' cap) :: H) n
    | _ => False
  | _ => False

theorem gen_slice {P : Program} {glob : Nat → Option Cont} {f : FuncId} {q : LSpec} (h : SlcOK P glob f q) : GenOK P glob f (slcS q) := by
  intro C β n H I w vs xs K hG hH hlen hargs hs
  unfold slcS at hs
  split at hs
  · rename_i id len capS rest
    split at hs
    · rename_i te c cap hid
      obtain ⟨⟨hfl, hpos, hlow⟩, hq⟩ := hs
      obtain ⟨c', v, hK, hfl', hvfl, hcall⟩ := h _ _ _ _ _ _ _ hq
      obtain ⟨b, hb, -⟩ := hH.cellsAt hid (off := 0) hpos
      have hrow := hH.holds id _ hid
      have hoffb : ¬ I b := hH.off id _ hid b hb
      have hbw : b < w.heap.size := SObj.Holds.lt hrow hb
      have hflat : ∀ {β1 β2 : Val} {I1 I2 : Nat → Prop} {w1 : World} {d : Cont}, d.flat = true → (SObj.own te d cap).Holds β1 I1 w1 (some b) → (SObj.own te d cap).Holds β2 I2 w1 (some b) := by
        intro β1 β2 I1 I2 w1 d hd hh
        rcases hh with ⟨b', arr, h1, h2, h3, h4, h5⟩ | ⟨h1, _⟩
        · exact .inl ⟨b', arr, h1, h2, h3, h4, (Cont.rel_flat hd).2 ((Cont.rel_flat hd).1 h5)⟩
        · cases h1
      have hH0 : HeapOK (ptrC w I b) (fun _ => some b) 1 [(0, .own te c cap)] I w := by
        refine ⟨rfl, rfl, rfl, Nat.le_refl _, fun _ _ _ => rfl, ?_, ?_, ?_, ?_, ?_, hH.ilt, fun _ h => .inl h, fun _ h => h⟩
        · intro i o ho; obtain ⟨rfl, rfl⟩ := Heap.get_one ho
          rw [hb] at hrow; exact hflat hfl hrow
        · intro i o ho; obtain ⟨rfl, rfl⟩ := Heap.get_one ho
          exact ⟨Nat.one_pos, Cont.flat_low hfl⟩
        · intro i o ho b' hb'; cases hb'; exact .inr rfl
        · intro i j oi oj hij hi hj; obtain ⟨rfl, -⟩ := Heap.get_one hi; obtain ⟨rfl, -⟩ := Heap.get_one hj; exact absurd rfl hij
        · intro i o ho b' hb'; cases hb'; exact hoffb
      have hrel : callRel (fun _ => some b) 1 I w (.c (.slice 0 0 len capS) :: rest) xs := by
        refine ⟨by simpa using hlen, fun j u hu => ?_⟩
        cases j with
        | zero =>
          obtain ⟨x, hx, hr, _⟩ := hargs 0 _ rfl
          cases hu
          refine ⟨x, hx, ?_, Nat.one_pos⟩
          obtain ⟨hle, off', hx', ho⟩ := (show len ≤ capS ∧ ∃ off', x = .slice (place β id off') len capS ∧ (off' = 0 ∨ capS = 0) from hr)
          refine (show len ≤ capS ∧ ∃ off', x = .slice (place (fun _ => some b) 0 off') len capS ∧ (off' = 0 ∨ capS = 0) from ⟨hle, off', ?_, ho⟩)
          rw [hx', place, place, hb]
        | succ j =>
          obtain ⟨x, hx, hr, _⟩ := hargs (j + 1) _ hu
          have hl0 := hlow u (List.mem_of_getElem? (by simpa using hu))
          exact ⟨x, hx, SV.rel_mono (n := 0) (fun i hi => absurd hi (Nat.not_lt_zero i)) (Ext.refl _ _) hl0 hr, SV.low_mono (Nat.zero_le _) hl0⟩
      refine Calls.mono (hcall I w b xs hG hH0 hrel) fun e w' ⟨he, I', β', n', hA, hβ'⟩ => ⟨v.val, he, ?_⟩
      have hE : Ext I w I' w' := fun b0 h0 => ⟨hA.base b0 h0, hA.frame b0 (hH.ilt b0 h0) (fun e => hoffb (e ▸ h0))⟩
      have hkeep : ∀ k, k < w.heap.size → k ≠ b → w'.heap[k]? = w.heap[k]? := fun k hk hkb => hA.frame k hk hkb
      have hsz : w.heap.size ≤ w'.heap.size := hA.size
      have hIb : ¬ I' b := hA.off 0 _ rfl b hβ'
      have hrow' := hA.holds 0 _ rfl
      rw [hβ'] at hrow'
      have hget : ∀ i o, Heap.get ((id, SObj.own te c' cap) :: H) i = some o → (i = id ∧ o = .own te c' cap) ∨ (i ≠ id ∧ H.get i = some o) := fun i o ho => by
        simp only [Heap.get] at ho
        split at ho
        · rename_i e; cases ho; exact .inl ⟨e.symm, rfl⟩
        · rename_i e; exact .inr ⟨fun e' => e e'.symm, ho⟩
      have hne : ∀ i o, i ≠ id → H.get i = some o → ∀ b', β i = some b' → b' ≠ b := fun i o hi ho b' hb' e => hH.sep i id o _ hi ho hid b' hb' (e ▸ hb)
      refine ⟨v, _, n, β, I', hK, (SV.rel_flat hvfl).2 rfl, SV.flat_low hvfl, Nat.le_refl _, fun _ _ => rfl, hE, ?_⟩
      refine ⟨hA.os.trans hH.os, hA.tape.trans hH.tape, hA.output.trans hH.output, Nat.le_trans hH.size hsz, ?_, ?_, ?_, ?_, ?_, ?_, hA.ilt, ?_, fun b0 h0 => hA.base b0 (hH.base b0 h0)⟩
      · intro k hk hF
        rw [hkeep k (Nat.lt_of_lt_of_le hk hH.size) ?_]
        · exact hH.frame k hk hF
        · intro e
          rcases hH.fresh id _ hid b hb with h1 | h1
          · omega
          · exact hF (e ▸ h1)
      · intro i o ho
        rcases hget i o ho with ⟨rfl, rfl⟩ | ⟨hi, ho⟩
        · rw [hb]; exact hflat hfl' hrow'
        · have hh := hH.holds i o ho
          exact hh.mono (n := n) (fun _ _ => rfl) hE (hH.low i o ho).2 fun b' hb' => hkeep b' (SObj.Holds.lt hh hb') (hne i o hi ho b' hb')
      · intro i o ho
        rcases hget i o ho with ⟨rfl, rfl⟩ | ⟨hi, ho⟩
        · exact ⟨(hH.low _ _ hid).1, Cont.flat_low hfl'⟩
        · exact hH.low i o ho
      · intro i o ho b' hb'
        rcases hget i o ho with ⟨rfl, rfl⟩ | ⟨hi, ho⟩
        · exact hH.fresh _ _ hid b' hb'
        · exact hH.fresh i o ho b' hb'
      · intro i j oi oj hij hi hj b' h1 h2
        rcases hget i oi hi with ⟨hi1, _⟩ | ⟨hi1, hi2⟩
        · rcases hget j oj hj with ⟨hj1, _⟩ | ⟨hj1, hj2⟩
          · exact hij (hi1.trans hj1.symm)
          · exact hH.sep id j _ oj (fun e => hj1 e.symm) hid hj2 b' (hi1 ▸ h1) h2
        · rcases hget j oj hj with ⟨hj1, _⟩ | ⟨hj1, hj2⟩
          · exact hH.sep i id oi _ hi1 hi2 hid b' h1 (hj1 ▸ h2)
          · exact hH.sep i j oi oj hij hi2 hj2 b' h1 h2
      · intro i o ho b' hb' hI'
        rcases hget i o ho with ⟨rfl, rfl⟩ | ⟨hi, ho⟩
        · rw [hb] at hb'; cases hb'; exact hIb hI'
        · have hlt := SObj.Holds.lt (hH.holds i o ho) hb'
          rcases hA.i0 b' hI' with h1 | h1 | h1
          · exact hH.off i o ho b' hb' h1
          · have h1' : w.heap.size ≤ b' := h1
            omega
          · exact hne i o hi ho b' hb' h1
      · intro b' hI'
        rcases hA.i0 b' hI' with h1 | h1 | h1
        · exact hH.i0 b' h1
        · exact .inr (.inl (Nat.le_trans hH.size h1))
        · exact absurd hI' (by have h1' : b' = b := h1; rw [h1']; exact hIb)
    · exact hs.elim
  · exact hs.elim

theorem slc_of {f : FuncId} {fn : Func} {c : Code} {q : LSpec} (hf : Γ.P.funcs[f]? = some fn) (hb : fn.body = some c) (hN : fn.ntmps = N)
    (h : ∀ te k cap len capS vs K, q te k cap len capS vs K → ∃ c' v, K c' v ∧ c'.flat = true ∧ v.flat = true ∧ vs.length + 1 ≤ N ∧ ∀ w I b, WP Γ N (ptrC w I b) c (envOf 0 (.c (.slice 0 0 len capS) :: vs)) [(0, .own te k cap)] 1 (bodyPost Γ.P fn (PostPtr w I b te c' cap v))) : SlcOK Γ.P Γ.glob f q := fun te k cap len capS vs K hq => by
  obtain ⟨c', v, hK, h1, h2, h3, hw⟩ := h te k cap len capS vs K hq
  exact ⟨c', v, hK, h1, h2, fun I w b xs hG hH hr => calls_of_WP hf hb hN (by simpa using h3) hH hG ⟨Nat.le_refl _, fun _ _ => rfl⟩ rfl hr (hw w I b)⟩

/-! ### closures that are known by their contract -/
/-- A cell without names that is no closure. -/
def dataC (x : Cell) : Prop := x.pureB = true ∧ ∀ g l, x ≠ .clo g l
theorem viewV_data {ty : Nat → Ty} {x : Cell} (hx : dataC x) {K : SV → Prop} (h : K (.c x)) : viewV ty H (.c x) K := by
  obtain ⟨h1, h2⟩ := hx
  cases x <;> first | exact h | (simp [Cell.pureB] at h1; done) | exact absurd rfl (h2 _ _)
theorem viewS_data' {ty : Nat → Ty} : ∀ {xs : List Cell} (_ : ∀ x ∈ xs, dataC x) {K : List SV → Prop} (_ : K (xs.map .c)), viewS ty H (xs.map .c) K
  | [], _, _, h => h
  | x :: xs, hx, K, h => viewV_data (hx x (.head _)) (viewS_data' (xs := xs) (fun y hy => hx y (.tail _ hy)) h)
theorem calleeS_var {f : FuncId} {caps : List Cell} {vs : List SV} {K : FuncId → List SV → Prop} (h : K f (vs ++ caps.map .c)) : calleeS (.c (.clo f caps)) vs K := by
  cases caps with
  | nil => simpa [calleeS] using h
  | cons x xs => exact h
theorem call_var {f : FuncId} {q : QSpec} (hq : lookSpec Γ.fs f = some (.flat q)) {xs caps : List Cell} (hx : ∀ x ∈ xs, dataC x) (hc : ∀ x ∈ caps, dataC x) {K : SV → Heap → Nat → Prop} (h : q ((xs ++ caps).map .c) fun v => K v H n) :
    calleeS (.c (.clo f caps)) (xs.map .c) fun f vs => genS Γ f vs H n K := by
  refine calleeS_var ?_
  unfold genS
  rw [hq]
  unfold callG
  simp only [hq]
  rw [← List.map_append]
  exact viewS_data' (fun x hx' => (List.mem_append.1 hx').elim (hx x) (hc x)) h
theorem call_varg {f : FuncId} {q : QSpec} (hq : lookSpec Γ.fs f = some (.flat q)) {xs caps : List Cell} (hx : ∀ x ∈ xs, dataC x) (hc : ∀ x ∈ caps, dataC x) {K : SV → Heap → Nat → Prop} (h : q ((xs ++ caps).map .c) fun v => K v H n) :
    calleeS (.c (.clo f caps)) (xs.map .c) fun f vs => callG Γ f vs H n K := by
  refine calleeS_var ?_
  unfold callG
  simp only [hq]
  rw [← List.map_append]
  exact viewS_data' (fun x hx' => (List.mem_append.1 hx').elim (hx x) (hc x)) h
theorem call_var_quiet {f : FuncId} {q : QSpec} (hq : lookSpec Γ.fs f = some (.flat q)) {xs caps : List Cell} (hx : ∀ x ∈ xs, dataC x) (hc : ∀ x ∈ caps, dataC x) {K : SV → Prop} (h : q ((xs ++ caps).map .c) K) :
    calleeS (.c (.clo f caps)) (xs.map .c) fun f vs => match lookSpec Γ.fs f with
      | some (.flat q) => viewS Γ.ty H vs fun us => q us K
      | _ => False := by
  refine calleeS_var ?_
  rw [hq]
  rw [← List.map_append]
  exact viewS_data' (fun x hx' => (List.mem_append.1 hx').elim (hx x) (hc x)) h
theorem low1_data {x : Cell} (h : dataC x) {n : Nat} : x.low1 n := by
  obtain ⟨h1, h2⟩ := h
  cases x <;> first | exact trivial | (simp [Cell.pureB] at h1; done) | exact absurd rfl (h2 _ _)
theorem low_caps {caps : List Cell} (h : ∀ x ∈ caps, dataC x) {n : Nat} {f : FuncId} : SV.low n (.c (.clo f caps)) := fun x hx => low1_data (h x hx)
theorem to1_data {ty : Nat → Ty} {is : List Nat} {ρ : Nat → Nat} {x : Cell} (h : dataC x) : x.to1 ty H is ρ x := by
  obtain ⟨h1, h2⟩ := h
  cases x <;> first | exact trivial | exact ⟨rfl, rfl⟩ | exact rfl | (simp [Cell.pureB] at h1; done) | exact absurd rfl (h2 _ _)
theorem to_caps {ty : Nat → Ty} {is : List Nat} {ρ : Nat → Nat} : ∀ {caps : List Cell} (_ : ∀ x ∈ caps, dataC x), allTo (Cell.to1 ty H is ρ) caps caps
  | [], _ => trivial
  | x :: l, h => ⟨to1_data (h x (.head _)), to_caps fun y hy => h y (.tail _ hy)⟩
theorem dataC_int {k : IntKind} {n : Int} : dataC (.int k n) := ⟨rfl, fun _ _ => by simp⟩
theorem dataC_u64 {x : UInt64} : dataC (.u64 x) := ⟨rfl, fun _ _ => by simp⟩
theorem dataC_bool {x : Bool} : dataC (.bool x) := ⟨rfl, fun _ _ => by simp⟩
theorem dataC_dp {c : Cont} {o : Nat} : dataC (.dp c o) := ⟨rfl, fun _ _ => by simp⟩
theorem dataC_ds {c : Cont} {o : Nat} : dataC (.ds o c) := ⟨rfl, fun _ _ => by simp⟩
theorem dataC_nil : ∀ x ∈ ([] : List Cell), dataC x := fun x hx => by cases hx
theorem dataC_cons {x : Cell} {xs : List Cell} (h : dataC x) (hs : ∀ y ∈ xs, dataC y) : ∀ y ∈ x :: xs, dataC y := fun y hy => by
  rcases List.mem_cons.1 hy with rfl | hy
  · exact h
  · exact hs y hy
/-- The specification of the last function of a list, if no other has its number. -/
theorem look_last {f : FuncId} {s : Spec} : ∀ {l : List (FuncId × Spec)} (_ : ∀ p ∈ l, p.1 ≠ f), lookSpec (l ++ [(f, s)]) f = some s
  | [], _ => by simp [lookSpec]
  | (g, s') :: l, h => by
    show (if g = f then some s' else lookSpec (l ++ [(f, s)]) f) = _
    rw [if_neg (h (g, s') (.head _))]
    exact look_last fun p hp => h p (.tail _ hp)
end
end Go.Ab
