/- Functions that write one own row of the caller's, through a pointer in their first argument. -/
import Derived.Test.YtpfncffapgkjaaaDoorAb14
namespace Go.Ab
set_option linter.unusedVariables false
open Go.RowKit
section
variable {Γ : Ctx} {N : Nat} {C : CC} {β : Val} {n : Nat} {E : Env} {H : Heap} {I : Nat → Prop} {a : Act} {w : World}

/-- What such a call may write: the block b. -/
def ptrC (w : World) (I : Nat → Prop) (b : Nat) : CC := { F := fun k => k = b, w0 := w, I0 := I, β0 := fun _ => some b, n0 := 1 }
/-- Of the row (type, content, room), the place in it, and the other arguments: what the row holds behind, and the result. -/
abbrev PSpec := TypeId → Cont → Nat → Nat → List SV → (Cont → SV → Prop) → Prop
def PtrOK (P : Program) (glob : Nat → Option Cont) (f : FuncId) (q : PSpec) : Prop :=
  ∀ te c cap off vs K, q te c cap off vs K → ∃ c' v, K c' v ∧ c'.flat = true ∧ v.flat = true ∧ ∀ (I : Nat → Prop) (w : World) (b : Nat) (xs : List Value), GlobOK glob I w → HeapOK (ptrC w I b) (fun _ => some b) 1 [(0, .own te c cap)] I w →
    callRel (fun _ => some b) 1 I w (.c (.ptr 0 off) :: vs) xs → Calls P f xs.toArray w fun e w' => e = .returned v.val ∧ ∃ I' β' n', HeapOK (ptrC w I b) β' n' [(0, .own te c' cap)] I' w' ∧ β' 0 = some b
/-- The contract for a caller. -/
def ptrS (q : PSpec) : GSpec := fun vs H n K => match vs with
  | .c (.ptr id off) :: rest => match H.get id with
    | some (.own te c cap) => (c.flat = true ∧ 0 < c.len ∧ ∀ v ∈ rest, v.low 0) ∧ q te c cap off rest fun c' v => K v ((id, .own te c' cap) :: H) n
    | _ => False
  | _ => False

theorem Heap.get_one {o o' : SObj} {id : Nat} (h : Heap.get [(0, o)] id = some o') : id = 0 ∧ o = o' := by
  simp only [Heap.get] at h
  split at h
  · rename_i e; cases h; exact ⟨e.symm, rfl⟩
  · cases h

theorem gen_ptr {P : Program} {glob : Nat → Option Cont} {f : FuncId} {q : PSpec} (h : PtrOK P glob f q) : GenOK P glob f (ptrS q) := by
  intro C β n H I w vs xs K hG hH hlen hargs hs
  unfold ptrS at hs
  split at hs
  · rename_i id off rest
    split at hs
    · rename_i te c cap hid
      obtain ⟨⟨hfl, hpos, hlow⟩, hq⟩ := hs
      obtain ⟨c', v, hK, hfl', hvfl, hcall⟩ := h _ _ _ _ _ _ hq
      obtain ⟨b, hb, -⟩ := hH.cellsAt hid (off := 0) hpos
      have hrow := hH.holds id _ hid
      have hoffb : ¬ I b := hH.off id _ hid b hb
      have hbw : b < w.heap.size := SObj.Holds.lt hrow hb
      have hflat : ∀ {β1 β2 : Val} {I1 I2 : Nat → Prop} {w1 : World} {d : Cont}, d.flat = true → (SObj.own te d cap).Holds β1 I1 w1 (some b) → (SObj.own te d cap).Holds β2 I2 w1 (some b) := by
        intro β1 β2 I1 I2 w1 d hd hh
        rcases hh with ⟨b', arr, h1, h2, h3, h4, h5⟩ | ⟨h1, _⟩
        · exact .inl ⟨b', arr, h1, h2, h3, h4, (Cont.rel_flat hd).2 ((Cont.rel_flat hd).1 h5)⟩
        · cases h1
      have hH0 : HeapOK (ptrC w I b) (fun _ => some b) 1 [(0, .own te c cap)] I w := by
        refine ⟨rfl, rfl, rfl, Nat.le_refl _, fun _ _ _ => rfl, ?_, ?_, ?_, ?_, ?_, hH.ilt, fun _ h => .inl h, fun _ h => h⟩
        · intro i o ho; obtain ⟨rfl, rfl⟩ := Heap.get_one ho
          rw [hb] at hrow; exact hflat hfl hrow
        · intro i o ho; obtain ⟨rfl, rfl⟩ := Heap.get_one ho
          exact ⟨Nat.one_pos, Cont.flat_low hfl⟩
        · intro i o ho b' hb'; cases hb'; exact .inr rfl
        · intro i j oi oj hij hi hj; obtain ⟨rfl, -⟩ := Heap.get_one hi; obtain ⟨rfl, -⟩ := Heap.get_one hj; exact absurd rfl hij
        · intro i o ho b' hb'; cases hb'; exact hoffb
      have hrel : callRel (fun _ => some b) 1 I w (.c (.ptr 0 off) :: rest) xs := by
        refine ⟨by simpa using hlen, fun j u hu => ?_⟩
        cases j with
        | zero =>
          obtain ⟨x, hx, hr, _⟩ := hargs 0 _ rfl
          cases hu
          refine ⟨x, hx, ?_, Nat.one_pos⟩
          have hr' : x = .pointer (place β id off) := hr
          show x = .pointer (place (fun _ => some b) 0 off)
          rw [hr', place, place, hb]
        | succ j =>
          obtain ⟨x, hx, hr, _⟩ := hargs (j + 1) _ hu
          have hl0 := hlow u (List.mem_of_getElem? (by simpa using hu))
          exact ⟨x, hx, SV.rel_mono (n := 0) (fun i hi => absurd hi (Nat.not_lt_zero i)) (Ext.refl _ _) hl0 hr, SV.low_mono (Nat.zero_le _) hl0⟩
      refine Calls.mono (hcall I w b xs hG hH0 hrel) fun e w' ⟨he, I', β', n', hA, hβ'⟩ => ⟨v.val, he, ?_⟩
      have hE : Ext I w I' w' := fun b0 h0 => ⟨hA.base b0 h0, hA.frame b0 (hH.ilt b0 h0) (fun e => hoffb (e ▸ h0))⟩
      have hkeep : ∀ k, k < w.heap.size → k ≠ b → w'.heap[k]? = w.heap[k]? := fun k hk hkb => hA.frame k hk hkb
      have hsz : w.heap.size ≤ w'.heap.size := hA.size
      have hIb : ¬ I' b := hA.off 0 _ rfl b hβ'
      have hrow' := hA.holds 0 _ rfl
      rw [hβ'] at hrow'
      have hget : ∀ i o, Heap.get ((id, SObj.own te c' cap) :: H) i = some o → (i = id ∧ o = .own te c' cap) ∨ (i ≠ id ∧ H.get i = some o) := fun i o ho => by
        simp only [Heap.get] at ho
        split at ho
        · rename_i e; cases ho; exact .inl ⟨e.symm, rfl⟩
        · rename_i e; exact .inr ⟨fun e' => e e'.symm, ho⟩
      have hne : ∀ i o, i ≠ id → H.get i = some o → ∀ b', β i = some b' → b' ≠ b := fun i o hi ho b' hb' e => hH.sep i id o _ hi ho hid b' hb' (e ▸ hb)
      refine ⟨v, _, n, β, I', hK, (SV.rel_flat hvfl).2 rfl, SV.flat_low hvfl, Nat.le_refl _, fun _ _ => rfl, hE, ?_⟩
      refine ⟨hA.os.trans hH.os, hA.tape.trans hH.tape, hA.output.trans hH.output, Nat.le_trans hH.size hsz, ?_, ?_, ?_, ?_, ?_, ?_, hA.ilt, ?_, fun b0 h0 => hA.base b0 (hH.base b0 h0)⟩
      · intro k hk hF
        rw [hkeep k (Nat.lt_of_lt_of_le hk hH.size) ?_]
        · exact hH.frame k hk hF
        · intro e
          rcases hH.fresh id _ hid b hb with h1 | h1
          · omega
          · exact hF (e ▸ h1)
      · intro i o ho
        rcases hget i o ho with ⟨rfl, rfl⟩ | ⟨hi, ho⟩
        · rw [hb]; exact hflat hfl' hrow'
        · have hh := hH.holds i o ho
          exact hh.mono (n := n) (fun _ _ => rfl) hE (hH.low i o ho).2 fun b' hb' => hkeep b' (SObj.Holds.lt hh hb') (hne i o hi ho b' hb')
      · intro i o ho
        rcases hget i o ho with ⟨rfl, rfl⟩ | ⟨hi, ho⟩
        · exact ⟨(hH.low _ _ hid).1, Cont.flat_low hfl'⟩
        · exact hH.low i o ho
      · intro i o ho b' hb'
        rcases hget i o ho with ⟨rfl, rfl⟩ | ⟨hi, ho⟩
        · exact hH.fresh _ _ hid b' hb'
        · exact hH.fresh i o ho b' hb'
      · intro i j oi oj hij hi hj b' h1 h2
        rcases hget i oi hi with ⟨hi1, _⟩ | ⟨hi1, hi2⟩
        · rcases hget j oj hj with ⟨hj1, _⟩ | ⟨hj1, hj2⟩
          · exact hij (hi1.trans hj1.symm)
          · exact hH.sep id j _ oj (fun e => hj1 e.symm) hid hj2 b' (hi1 ▸ h1) h2
        · rcases hget j oj hj with ⟨hj1, _⟩ | ⟨hj1, hj2⟩
          · exact hH.sep i id oi _ hi1 hi2 hid b' h1 (hj1 ▸ h2)
          · exact hH.sep i j oi oj hij hi2 hj2 b' h1 h2
      · intro i o ho b' hb' hI'
        rcases hget i o ho with ⟨rfl, rfl⟩ | ⟨hi, ho⟩
        · rw [hb] at hb'; cases hb'; exact hIb hI'
        · have hlt := SObj.Holds.lt (hH.holds i o ho) hb'
          rcases hA.i0 b' hI' with h1 | h1 | h1
          · exact hH.off i o ho b' hb' h1
          · have h1' : w.heap.size ≤ b' := h1
            omega
          · exact hne i o hi ho b' hb' h1
      · intro b' hI'
        rcases hA.i0 b' hI' with h1 | h1 | h1
        · exact hH.i0 b' h1
        · exact .inr (.inl (Nat.le_trans hH.size h1))
        · exact absurd hI' (by have h1' : b' = b := h1; rw [h1']; exact hIb)
    · exact hs.elim
  · exact hs.elim

def PostPtr (w0 : World) (I0 : Nat → Prop) (b : Nat) (te : TypeId) (c' : Cont) (cap : Nat) (v : SV) (e : Ending) (w' : World) : Prop :=
  e = .returned v.val ∧ ∃ I' β' n', HeapOK (ptrC w0 I0 b) β' n' [(0, .own te c' cap)] I' w' ∧ β' 0 = some b

theorem Done_ptr (hΓ : Γ.OK) {fn : Func} {w0 : World} {I0 : Nat → Prop} {b : Nat} {te : TypeId} {c' : Cont} {cap : Nat} {v : SV} {Q' : Act → World → Prop} (hQ : ∀ a w, bodyPost Γ.P fn (PostPtr w0 I0 b te c' cap v) .ret a w → Q' a w) (hf : v.flat = true) (rs : List ResultVar) (hrs : fn.results.toList = rs)
    (h : resS Γ E H rs fun vs => packS vs fun x => x = v) (hH' : H.get 0 = some (.own te c' cap)) : Done Γ N (ptrC w0 I0 b) E H n Q' := by
  subst hrs
  intro β I a w hS
  obtain ⟨u, x, rfl, hr, hl, hrun⟩ := results_sound hΓ hS h
  refine hQ a w ⟨hS.env.defers, x, hrun, ?_, I, β, n, ?_, ?_⟩
  · rw [(SV.rel_flat hf).1 hr]
  · refine hS.heap.sub fun id o ho => ?_
    obtain ⟨rfl, rfl⟩ := Heap.get_one ho
    exact hH'
  · exact hS.anch.2 0 Nat.one_pos

theorem Done_ptr0 (hΓ : Γ.OK) {fn : Func} {w0 : World} {I0 : Nat → Prop} {b : Nat} {te : TypeId} {c' : Cont} {cap : Nat} {Q' : Act → World → Prop} (hQ : ∀ a w, bodyPost Γ.P fn (PostPtr w0 I0 b te c' cap undefV) .ret a w → Q' a w) (hrs : fn.results.toList = [])
    (hH' : H.get 0 = some (.own te c' cap)) : Done Γ N (ptrC w0 I0 b) E H n Q' := by
  intro β I a w hS
  obtain ⟨u, x, rfl, hr, hl, hrun⟩ := results_sound (K := fun x => x = .tup []) hΓ hS (fn := fn) (by rw [hrs]; exact rfl)
  refine hQ a w ⟨hS.env.defers, x, hrun, ?_, I, β, n, ?_, ?_⟩
  · obtain ⟨vs, h1, h2, _⟩ := hr
    rw [h1, List.eq_nil_of_length_eq_zero h2]
    rfl
  · refine hS.heap.sub fun id o ho => ?_
    obtain ⟨rfl, rfl⟩ := Heap.get_one ho
    exact hH'
  · exact hS.anch.2 0 Nat.one_pos

theorem ptr_of {f : FuncId} {fn : Func} {c : Code} {q : PSpec} (hf : Γ.P.funcs[f]? = some fn) (hb : fn.body = some c) (hN : fn.ntmps = N)
    (h : ∀ te k cap off vs K, q te k cap off vs K → ∃ c' v, K c' v ∧ c'.flat = true ∧ v.flat = true ∧ vs.length + 1 ≤ N ∧ ∀ w I b, WP Γ N (ptrC w I b) c (envOf 0 (.c (.ptr 0 off) :: vs)) [(0, .own te k cap)] 1 (bodyPost Γ.P fn (PostPtr w I b te c' cap v))) : PtrOK Γ.P Γ.glob f q := fun te k cap off vs K hq => by
  obtain ⟨c', v, hK, h1, h2, h3, hw⟩ := h te k cap off vs K hq
  exact ⟨c', v, hK, h1, h2, fun I w b xs hG hH hr => calls_of_WP hf hb hN (by simpa using h3) hH hG ⟨Nat.le_refl _, fun _ _ => rfl⟩ rfl hr (hw w I b)⟩
end
end Go.Ab
