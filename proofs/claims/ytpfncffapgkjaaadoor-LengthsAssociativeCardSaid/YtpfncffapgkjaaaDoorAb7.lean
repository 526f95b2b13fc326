/- Structs and arrays written out. -/
import Derived.Test.YtpfncffapgkjaaaDoorAb6
namespace Go.Ab
set_option linter.unusedVariables false
open Go.RowKit
section
variable {P : Program} {C : CC} {β : Val} {n : Nat} {H : Heap} {I : Nat → Prop} {w : World} {ty : Nat → Ty}

theorem Cont.empty_spec (c : Cont) : c.empty.len = 0 ∧ c.empty.rel β I w [] ∧ ∀ n, c.empty.low n := by
  cases c <;> exact ⟨rfl, ⟨rfl, fun j hj => absurd hj (Nat.not_lt_zero j)⟩, fun _ => by first | trivial | (intro x hx; cases hx)⟩

theorem getD_append {α : Type} {l m : List α} {j : Nat} {d : α} : (l ++ m).getD j d = if j < l.length then l.getD j d else m.getD (j - l.length) d := by
  simp only [List.getD_eq_getElem?_getD]
  split
  · rw [List.getElem?_append_left ‹_›]
  · rw [List.getElem?_append_right (by omega)]

theorem Cont.app_spec {c d : Cont} {K : Cont → Prop} (hd : d ≠ .cells []) (h : c.app d K) : ∃ e, K e ∧ e.len = c.len + d.len ∧ (∀ j, e.get j = if j < c.len then c.get j else d.get (j - c.len)) ∧ ∀ n, c.low n → d.low n → e.low n := by
  unfold Cont.app at h
  split at h
  · exact ⟨_, h, by simp [Cont.len], fun j => by simp only [Cont.get, getD_append, Cont.len]; split <;> (rename_i e; first | exact (if_pos e).symm | exact (if_neg e).symm), fun _ _ _ => trivial⟩
  · exact ⟨_, h, by simp [Cont.len], fun j => by simp only [Cont.get, getD_append, Cont.len]; split <;> (rename_i e; first | exact (if_pos e).symm | exact (if_neg e).symm), fun _ _ _ => trivial⟩
  · exact ⟨_, h, by simp [Cont.len], fun j => by simp only [Cont.get, getD_append, Cont.len]; split <;> (rename_i e; first | exact (if_pos e).symm | exact (if_neg e).symm), fun _ _ _ => trivial⟩
  · obtain ⟨rfl, h⟩ := h
    exact ⟨_, h, by simp [Cont.len], fun j => by simp only [Cont.get, getD_append, Cont.len]; split <;> (rename_i e; first | exact (if_pos e).symm | exact (if_neg e).symm), fun _ _ _ => trivial⟩
  · exact ⟨_, h, by simp [Cont.len], fun j => by simp only [Cont.get, getD_append, Cont.len]; split <;> (rename_i e; first | exact (if_pos e).symm | exact (if_neg e).symm), fun _ _ _ => trivial⟩
  · refine ⟨_, h, by simp [Cont.len], fun j => by simp only [Cont.get, getD_append, Cont.len]; split <;> (rename_i e; first | exact (if_pos e).symm | exact (if_neg e).symm), fun n hc hd' x hx => ?_⟩
    rcases List.mem_append.1 hx with hx | hx
    · exact hc x hx
    · exact hd' x hx
  · exact absurd rfl hd
  · exact h.elim

theorem Cont.rel_app {c d e : Cont} {xs ys : List Value} (hl : e.len = c.len + d.len) (hg : ∀ j, j < e.len → e.get j = if j < c.len then c.get j else d.get (j - c.len)) (hc : c.rel β I w xs) (hd : d.rel β I w ys) : e.rel β I w (xs ++ ys) := by
  refine ⟨by rw [List.length_append, hc.1, hd.1, hl], fun j hj => ?_⟩
  rw [hg j hj]
  split
  · rename_i h
    obtain ⟨v, hv, hr⟩ := hc.2 j h
    exact ⟨v, by rw [List.getElem?_append_left (by rw [hc.1]; exact h)]; exact hv, hr⟩
  · rename_i h
    obtain ⟨v, hv, hr⟩ := hd.2 (j - c.len) (by omega)
    exact ⟨v, by rw [List.getElem?_append_right (by rw [hc.1]; omega), hc.1]; exact hv, hr⟩

/-- The same up to what is past the end. -/
theorem Cont.app_rel {c d : Cont} {K : Cont → Prop} (h : c.app d K) : ∃ e, K e ∧ e.len = c.len + d.len ∧ (∀ (β : Val) (I : Nat → Prop) (w : World) xs ys, c.rel β I w xs → d.rel β I w ys → e.rel β I w (xs ++ ys)) ∧ ∀ n, c.low n → d.low n → e.low n := by
  by_cases hd : d = .cells []
  · subst hd
    have : K c ∨ ∃ l, c = .cells l ∧ K (.cells (l ++ [])) := by
      unfold Cont.app at h
      cases c with
      | cells l => exact .inr ⟨l, rfl, h⟩
      | _ => exact .inl h
    rcases this with hK | ⟨l, rfl, hK⟩
    · exact ⟨c, hK, rfl, fun β I w xs ys hc hd => by
        have : ys = [] := List.eq_nil_of_length_eq_zero (by rw [hd.1]; rfl)
        subst this; simpa using hc, fun _ hc _ => hc⟩
    · rw [List.append_nil] at hK
      exact ⟨_, hK, rfl, fun β I w xs ys hc hd => by
        have : ys = [] := List.eq_nil_of_length_eq_zero (by rw [hd.1]; rfl)
        subst this; simpa using hc, fun _ hc _ => hc⟩
  · obtain ⟨e, h1, h2, h3, h4⟩ := Cont.app_spec hd h
    exact ⟨e, h1, h2, fun β I w xs ys hc hd' => Cont.rel_app h2 (fun j _ => h3 j) hc hd', h4⟩

/-- The cells of several values, one behind the other. -/
def gather (s : Nat) : Cont → List SV → (Cont → Prop) → Prop
  | acc, [], K => K acc
  | acc, v :: vs, K => soundSV v ∧ match v.cont with
    | some c => c.len = s ∧ acc.app c fun acc' => gather s acc' vs K
    | none => False

theorem gather_spec {s : Nat} : ∀ {vs : List SV} {acc : Cont} {K : Cont → Prop}, gather s acc vs K →
    ∃ e, K e ∧ e.len = acc.len + vs.length * s ∧ (∀ n, acc.low n → (∀ v ∈ vs, SV.low n v) → e.low n) ∧
      ∀ (β : Val) (I : Nat → Prop) (w : World) (as xs : List Value), acc.rel β I w as → xs.length = vs.length → (∀ (j : Nat) v x, vs[j]? = some v → xs[j]? = some x → v.rel β I w x) → e.rel β I w (as ++ xs.flatMap fun x => x.cells.toList) ∧ ∀ x ∈ xs, x.cells.size = s
  | [], acc, K, h => ⟨acc, h, by simp, fun _ hb _ => hb, fun β I w as xs ha hl _ => by
      have : xs = [] := List.eq_nil_of_length_eq_zero hl
      subst this; exact ⟨by simpa using ha, fun x hx => by cases hx⟩⟩
  | v :: vs, acc, K, h => by
    obtain ⟨hs, h⟩ := h
    split at h
    · rename_i c hc
      obtain ⟨hcs, h⟩ := h
      obtain ⟨e, h, hl, hr, hb⟩ := Cont.app_rel h
      obtain ⟨e', hK, hl', hb', hr'⟩ := gather_spec h
      refine ⟨e', hK, by simp only [List.length_cons, Nat.add_mul]; omega, fun n ha hvs => ?_, fun β I w as xs ha hlx hvx => ?_⟩
      · refine hb' n (hb n ha ?_) fun u hu => hvs u (List.mem_cons_of_mem _ hu)
        have hv := hvs v (List.mem_cons_self ..)
        unfold SV.cont at hc
        split at hc <;> cases hc <;> first | trivial | (intro y hy; obtain rfl := List.mem_singleton.1 hy; exact hv) | exact hv
      · cases xs with
        | nil => simp at hlx
        | cons x xs =>
          have h0 := hvx 0 v x rfl rfl
          obtain ⟨h1, _⟩ := SV.cont_cells (n := 0) hc hs h0
          obtain ⟨h2, h3⟩ := hr' β I w _ xs (hr β I w as _ ha h1) (by simpa using hlx) fun j v' x' hv' hx' => hvx (j + 1) v' x' (by simpa using hv') (by simpa using hx')
          refine ⟨by rw [List.flatMap_cons, ← List.append_assoc]; exact h2, fun y hy => ?_⟩
          rcases List.mem_cons.1 hy with rfl | hy
          · rw [← Array.length_toList, h1.1, hcs]
          · exact h3 y hy
    · exact h.elim

theorem fold_put : ∀ (vs : List Value) (off j : Nat) (cells : Array Value), off + j + vs.length ≤ cells.size →
    ((vs.zipIdx j).foldl (fun cs (x : Value × Nat) => cs.setIfInBounds (off + x.2) x.1) cells).toList = cells.toList.take (off + j) ++ vs ++ cells.toList.drop (off + j + vs.length)
  | [], off, j, cells, _ => by simp
  | v :: vs, off, j, cells, h => by
    simp only [List.length_cons] at h
    simp only [List.zipIdx_cons, List.foldl_cons]
    rw [fold_put vs off (j + 1) _ (by simp; omega)]
    simp only [Array.toList_setIfInBounds, List.length_cons]
    rw [List.take_set, List.drop_set_of_lt (by omega), List.set_eq_take_append_cons_drop, if_pos (by simp; omega)]
    rw [List.take_take, Nat.min_eq_left (by omega), List.drop_of_length_le (by simp; omega)]
    simp [Nat.add_assoc, Nat.add_comm 1]

/-! ### parts at their places -/
/-- What stands at cell j after the parts have been laid: a later part over an earlier one. -/
def fillG (pl : Nat → Option (Nat × Nat)) : (Nat → Cell) → List (Nat × Cont) → Nat → Cell
  | g, [], j => g j
  | g, (i, d) :: ps, j => fillG pl (fun j => match pl i with | some (off, sz) => if off ≤ j ∧ j < off + sz then d.get (j - off) else g j | none => g j) ps j

theorem fill_spec {pl : Nat → Option (Nat × Nat)} : ∀ (ps : List (Nat × Cont)) (xs : List Value) (cells : Array Value) (g : Nat → Cell), xs.length = ps.length → (∀ (j : Nat) i d x, ps[j]? = some (i, d) → xs[j]? = some x → d.rel β I w x.cells.toList ∧ ∃ off sz, pl i = some (off, sz) ∧ d.len = sz ∧ off + sz ≤ cells.size) →
    (∀ j, j < cells.size → ∃ u, cells[j]? = some u ∧ (g j).rel β I w u) →
    ∃ r : Array Value, Instr.fill pl cells ((ps.map (·.1)).zip xs) = some r ∧ r.size = cells.size ∧ ∀ j, j < r.size → ∃ u, r[j]? = some u ∧ (fillG pl g ps j).rel β I w u
  | [], xs, cells, g, hl, _, hg => ⟨cells, by simp [Instr.fill], rfl, hg⟩
  | (i, d) :: ps, [], cells, g, hl, _, _ => by simp at hl
  | (i, d) :: ps, x :: xs, cells, g, hl, hp, hg => by
    obtain ⟨hr, off, sz, hpl, hd, hsz⟩ := hp 0 i d x rfl rfl
    have hxs : x.cells.size = sz := by rw [← Array.length_toList, hr.1, hd]
    have hf := fold_put x.cells.toList off 0 cells (by simp [hxs]; exact hsz)
    have e0 : x.cells.zipIdx.foldl (fun cs (x : Value × Nat) => cs.setIfInBounds (off + x.2) x.1) cells = (x.cells.toList.zipIdx 0).foldl (fun cs (x : Value × Nat) => cs.setIfInBounds (off + x.2) x.1) cells := by
      rw [← Array.foldl_toList, Array.toList_zipIdx]
    rw [← e0] at hf
    generalize hgc : x.cells.zipIdx.foldl (fun cs (x : Value × Nat) => cs.setIfInBounds (off + x.2) x.1) cells = cells' at hf
    have hxl : x.cells.toList.length = sz := by simpa using hxs
    have hsz' : cells'.size = cells.size := by
      have := congrArg List.length hf
      simp [hxs] at this
      omega
    obtain ⟨r, h1, h2, h3⟩ := fill_spec ps xs cells' (fun j => match pl i with | some (off, sz) => if off ≤ j ∧ j < off + sz then d.get (j - off) else g j | none => g j) (by simpa using hl)
      (fun j i' d' x' h1 h2 => by rw [hsz']; exact hp (j + 1) i' d' x' (by simpa using h1) (by simpa using h2)) (fun j hj => by
        rw [hsz'] at hj
        have hA : (cells.toList.take (off + 0)).length = off := by simp; omega
        have hget : cells'[j]? = cells'.toList[j]? := by simp
        rw [hget, hf, hpl]
        simp only [Nat.add_zero] at hA ⊢
        split
        · rename_i hin
          obtain ⟨u, hu, hru⟩ := hr.2 (j - off) (by omega)
          refine ⟨u, ?_, hru⟩
          rw [List.append_assoc, List.getElem?_append_right (by omega), hA, List.getElem?_append_left (by omega)]
          exact hu
        · rename_i hin
          obtain ⟨u, hu, hru⟩ := hg j hj
          refine ⟨u, ?_, hru⟩
          have hu' : cells.toList[j]? = some u := by simpa using hu
          by_cases hlt : j < off
          · rw [List.append_assoc, List.getElem?_append_left (by omega), List.getElem?_take_of_lt hlt]; exact hu'
          · rw [List.append_assoc, List.getElem?_append_right (by omega), hA, List.getElem?_append_right (by omega), List.getElem?_drop, hxl]
            rw [show off + sz + (j - off - sz) = j by omega]; exact hu')
    refine ⟨r, ?_, by omega, h3⟩
    have h4 : ¬ (off + x.cells.size > cells.size) := by omega
    simp only [List.map_cons, List.zip_cons_cons, Instr.fill, hpl, hxs, ne_eq, not_true_eq_false, decide_false, Bool.false_or, show ¬ (off + sz > cells.size) by omega, Bool.false_eq_true, if_false]
    rw [hgc]
    exact h1

def lookP : List (Nat × Cont) → Nat → Option Cont
  | [], _ => none
  | (i, d) :: ps, k => if i = k then some d else lookP ps k

theorem fillG_at {pl : Nat → Option (Nat × Nat)} {k off sz : Nat} (hk : pl k = some (off, sz)) (hdis : ∀ i, i ≠ k → ∀ o s, pl i = some (o, s) → ∀ j, off ≤ j → j < off + sz → ¬ (o ≤ j ∧ j < o + s)) :
    ∀ (ps : List (Nat × Cont)) (g : Nat → Cell), (ps.map (·.1)).Nodup → ∀ j, off ≤ j → j < off + sz → fillG pl g ps j = match lookP ps k with | some d => d.get (j - off) | none => g j
  | [], g, _, j, _, _ => rfl
  | (i, d) :: ps, g, hn, j, h1, h2 => by
    simp only [List.map_cons, List.nodup_cons] at hn
    rw [fillG, fillG_at hk hdis ps _ hn.2 j h1 h2]
    by_cases hik : i = k
    · subst hik
      have hnone : lookP ps i = none := by
        have : ∀ ps : List (Nat × Cont), i ∉ ps.map (·.1) → lookP ps i = none := by
          intro ps
          induction ps with
          | nil => intro _; rfl
          | cons p ps ih =>
            intro h
            obtain ⟨i', d'⟩ := p
            simp only [List.map_cons, List.mem_cons, not_or] at h
            simp only [lookP]
            rw [if_neg (Ne.symm h.1)]
            exact ih h.2
        exact this ps hn.1
      rw [hnone]
      simp only [hk, lookP, if_true]
      rw [if_pos ⟨h1, h2⟩]
    · simp only [lookP, if_neg hik]
      cases hl : lookP ps k with
      | some d' => rfl
      | none =>
        simp only
        cases hp : pl i with
        | none => rfl
        | some q =>
          obtain ⟨o, s⟩ := q
          exact if_neg (hdis i hik o s hp j h1 h2)

/-- The fields lie one behind the other, from 'off' on. -/
def contig : Nat → List (Nat × Nat × TypeId) → Bool
  | _, [] => true
  | off, (o, sz, _) :: fs => o == off && contig (off + sz) fs

/-- The pieces of a struct in the order of its fields: those that are given, else the zero value's. -/
def pieces (z : Cont) (ps : List (Nat × Cont)) : Nat → List (Nat × Nat × TypeId) → List Cell
  | _, [] => []
  | k, (off, sz, _) :: fs => (match lookP ps k with | some d => d.list | none => (z.sub off sz).list) ++ pieces z ps (k + 1) fs

def totalS : List (Nat × Nat × TypeId) → Nat
  | [] => 0
  | (_, sz, _) :: fs => sz + totalS fs

theorem contig_get : ∀ {fs : List (Nat × Nat × TypeId)} {off : Nat}, contig off fs = true → ∀ {i o s : Nat} {t : TypeId}, fs[i]? = some (o, s, t) → off ≤ o ∧ o + s ≤ off + totalS fs
  | [], _, _, i, o, s, t, h => by simp at h
  | (o0, s0, t0) :: fs, off, hc, i, o, s, t, h => by
    simp only [contig, Bool.and_eq_true, beq_iff_eq] at hc
    obtain ⟨rfl, hc⟩ := hc
    cases i with
    | zero => simp at h; obtain ⟨rfl, rfl, rfl⟩ := h; simp only [totalS]; omega
    | succ i =>
      have := contig_get hc (by simpa using h)
      simp only [totalS]; omega

theorem contig_dis : ∀ {fs : List (Nat × Nat × TypeId)} {off : Nat}, contig off fs = true → ∀ {i k o s : Nat} {t : TypeId} {o' s' : Nat} {t' : TypeId}, i ≠ k → fs[i]? = some (o, s, t) → fs[k]? = some (o', s', t') → o + s ≤ o' ∨ o' + s' ≤ o
  | [], _, _, i, k, o, s, t, o', s', t', _, h, _ => by simp at h
  | (o0, s0, t0) :: fs, off, hc, i, k, o, s, t, o', s', t', hne, h, h' => by
    simp only [contig, Bool.and_eq_true, beq_iff_eq] at hc
    obtain ⟨rfl, hc⟩ := hc
    cases i with
    | zero =>
      cases k with
      | zero => exact absurd rfl hne
      | succ k =>
        simp at h; obtain ⟨rfl, rfl, rfl⟩ := h
        have := contig_get hc (by simpa using h'); left; omega
    | succ i =>
      cases k with
      | zero =>
        simp at h'; obtain ⟨rfl, rfl, rfl⟩ := h'
        have := contig_get hc (by simpa using h); right; omega
      | succ k => exact contig_dis (fs := fs) (i := i) (k := k) hc (by omega) (by simpa using h) (by simpa using h')

theorem pieces_spec {z : Cont} {ps : List (Nat × Cont)} (hn : (ps.map (·.1)).Nodup) {all : List (Nat × Nat × TypeId)} (hca : contig 0 all = true) (hz : z.len = totalS all) (hps : ∀ i d, lookP ps i = some d → ∀ o s t, all[i]? = some (o, s, t) → d.len = s) :
    ∀ (fs : List (Nat × Nat × TypeId)) (k off : Nat), (∀ i, fs[i]? = all[k + i]?) → contig off fs = true → off + totalS fs ≤ z.len →
      (pieces z ps k fs).length = totalS fs ∧ ∀ j, j < totalS fs → (pieces z ps k fs).getD j .nils = fillG (fun i => (all[i]?).map fun f => (f.1, f.2.1)) z.get ps (off + j)
  | [], k, off, _, _, _ => ⟨rfl, fun j hj => absurd hj (Nat.not_lt_zero j)⟩
  | (o, sz, t) :: fs, k, off, hfs, hc, hle => by
    have hc' := hc
    simp only [contig, Bool.and_eq_true, beq_iff_eq] at hc
    obtain ⟨rfl, hc⟩ := hc
    have hk : all[k]? = some (o, sz, t) := by have := hfs 0; simpa using this.symm
    simp only [totalS] at hle ⊢
    obtain ⟨ih1, ih2⟩ := pieces_spec hn hca hz hps fs (k + 1) (o + sz) (fun i => by have := hfs (i + 1); rw [Nat.add_assoc, Nat.add_comm 1 i]; simpa using this) hc (by omega)
    have hlen : (match lookP ps k with | some d => d.list | none => (z.sub o sz).list).length = sz := by
      cases hl : lookP ps k with
      | some d => simp only [Cont.list_length]; exact hps k d hl _ _ _ hk
      | none => simp only [Cont.list_length, Cont.sub_len]; omega
    refine ⟨by simp only [pieces, List.length_append, hlen, ih1], fun j hj => ?_⟩
    simp only [pieces]
    rw [getD_append, hlen]
    split
    · rename_i hj'
      rw [fillG_at (k := k) (off := o) (sz := sz) (by simp [hk]) ?_ ps z.get hn (o + j) (by omega) (by omega)]
      · cases hl : lookP ps k with
        | some d =>
          have hd := hps k d hl _ _ _ hk
          simp only [Nat.add_sub_cancel_left]
          exact Cont.list_getD d (by omega) _
        | none =>
          simp only
          rw [Cont.list_getD _ (by rw [Cont.sub_len]; omega), Cont.sub_get _ hj']
      · intro i hi o' s' hpl j' h1 h2 h3
        obtain ⟨f, hf, he⟩ := Option.map_eq_some_iff.1 hpl
        obtain ⟨fo, fsz, ft⟩ := f
        simp only [Prod.mk.injEq] at he
        obtain ⟨rfl, rfl⟩ := he
        rcases contig_dis hca hi hf hk with h | h <;> omega
    · rename_i hj'
      rw [ih2 (j - sz) (by omega)]
      congr 1; omega

/-- The parts as contents. -/
def contsP : List (Nat × SV) → Option (List (Nat × Cont))
  | [] => some []
  | (i, v) :: ps => match v.cont, contsP ps with
    | some c, some l => some ((i, c) :: l)
    | _, _ => none
def soundAll : List SV → Prop
  | [] => True
  | v :: vs => soundSV v ∧ soundAll vs
def sizesOK (fs : List (Nat × Nat × TypeId)) : List (Nat × Cont) → Prop
  | [] => True
  | (i, d) :: ps => (match fs[i]? with | some (_, sz, _) => d.len = sz | none => False) ∧ sizesOK fs ps
/-- One cell after another. -/
def setsP : List (Nat × SV) → Cont → Nat → (Cont → Prop) → Prop
  | [], c, _, K => K c
  | (i, .c x) :: ps, c, n, K => i < n ∧ x.solid ∧ c.set i x fun c' => setsP ps c' n K
  | _, _, _, _ => False

/-- A struct, an array written out. -/
def buildV (ty : Nat → Ty) (t : TypeId) (ps : List (Nat × SV)) (K : SV → Prop) : Prop :=
  match ty t with
  | .arr n e s z => match ps with
    | [] => K (.agg z)
    | ps => if (ps.map (·.1)) = List.range n then gather s z.empty (ps.map (·.2)) fun c => K (.agg c) else s = 1 ∧ (ty e).one = true ∧ setsP ps z n fun c => K (.agg c)
  | .struct fs m z => soundAll (ps.map (·.2)) ∧ contig 0 fs = true ∧ totalS fs = m ∧ (ps.map (·.1)).Nodup ∧ match contsP ps with
    | some l => sizesOK fs l ∧ K (.agg (.cells (pieces z l 0 fs)))
    | none => False
  | _ => False

theorem contsP_spec : ∀ {ps : List (Nat × SV)} {l : List (Nat × Cont)}, contsP ps = some l → l.map (·.1) = ps.map (·.1) ∧ l.length = ps.length ∧ ∀ (j i : Nat) d, l[j]? = some (i, d) → ∃ v, ps[j]? = some (i, v) ∧ v.cont = some d
  | [], l, h => by simp only [contsP, Option.some.injEq] at h; subst h; exact ⟨rfl, rfl, fun j i d hj => by simp at hj⟩
  | (i, v) :: ps, l, h => by
    unfold contsP at h
    split at h
    · rename_i c l' hc hl'
      cases h
      obtain ⟨h1, h2, h3⟩ := contsP_spec hl'
      refine ⟨by simp [h1], by simp [h2], fun j i' d hj => ?_⟩
      cases j with
      | zero => simp at hj; obtain ⟨rfl, rfl⟩ := hj; exact ⟨v, rfl, hc⟩
      | succ j => exact h3 j i' d (by simpa using hj)
    · cases h

theorem soundAll_mem : ∀ {l : List SV}, soundAll l → ∀ v ∈ l, soundSV v
  | [], _, v, hv => by cases hv
  | u :: l, h, v, hv => by
    rcases List.mem_cons.1 hv with rfl | hv
    · exact h.1
    · exact soundAll_mem h.2 v hv

theorem sizesOK_mem {fs : List (Nat × Nat × TypeId)} : ∀ {l : List (Nat × Cont)}, sizesOK fs l → ∀ (j i : Nat) d, l[j]? = some (i, d) → ∃ o s t, fs[i]? = some (o, s, t) ∧ d.len = s
  | [], _, j, i, d, hj => by simp at hj
  | (i0, d0) :: l, h, j, i, d, hj => by
    obtain ⟨h1, h2⟩ := h
    cases j with
    | zero =>
      simp at hj; obtain ⟨rfl, rfl⟩ := hj
      split at h1
      · rename_i o s t hf; exact ⟨o, s, t, hf, h1⟩
      · exact h1.elim
    | succ j => exact sizesOK_mem h2 j i d (by simpa using hj)

theorem lookP_mem : ∀ {l : List (Nat × Cont)} {i : Nat} {d : Cont}, lookP l i = some d → ∃ j : Nat, l[j]? = some (i, d)
  | [], i, d, h => by simp [lookP] at h
  | (i0, d0) :: l, i, d, h => by
    simp only [lookP] at h
    split at h
    · rename_i e; cases h; subst e; exact ⟨0, rfl⟩
    · obtain ⟨j, hj⟩ := lookP_mem h; exact ⟨j + 1, by simpa using hj⟩

/-- The parts' values fit them. -/
def partsRel (β : Val) (I : Nat → Prop) (w : World) (ps : List (Nat × SV)) (xs : List (Nat × Value)) : Prop :=
  xs.length = ps.length ∧ ∀ (j i : Nat) v, ps[j]? = some (i, v) → ∃ x, xs[j]? = some (i, x) ∧ v.rel β I w x

theorem fill_all {s : Nat} : ∀ (vs : List Value) (k : Nat) (cells : Array Value), (∀ v ∈ vs, v.cells.size = s) → (k + vs.length) * s ≤ cells.size →
    ∃ r : Array Value, Instr.fill (fun i => some (i * s, s)) cells ((List.range' k vs.length).zip vs) = some r ∧ r.toList = cells.toList.take (k * s) ++ vs.flatMap (fun v => v.cells.toList) ++ cells.toList.drop ((k + vs.length) * s)
  | [], k, cells, _, _ => ⟨cells, by simp [Instr.fill], by simp⟩
  | v :: vs, k, cells, hs, h => by
    have hv := hs v (List.mem_cons_self ..)
    simp only [List.length_cons] at h
    have hks : k * s + s ≤ cells.size := by
      have : (k + 1) * s ≤ (k + (vs.length + 1)) * s := Nat.mul_le_mul_right _ (by omega)
      rw [Nat.add_mul, Nat.one_mul] at this; omega
    have hf := fold_put v.cells.toList (k * s) 0 cells (by simp [hv]; omega)
    have e0 : v.cells.zipIdx.foldl (fun cs (x : Value × Nat) => cs.setIfInBounds (k * s + x.2) x.1) cells = (v.cells.toList.zipIdx 0).foldl (fun cs (x : Value × Nat) => cs.setIfInBounds (k * s + x.2) x.1) cells := by
      rw [← Array.foldl_toList, Array.toList_zipIdx]
    rw [← e0] at hf
    generalize hg : v.cells.zipIdx.foldl (fun cs (x : Value × Nat) => cs.setIfInBounds (k * s + x.2) x.1) cells = cells' at hf
    have hsz : cells'.size = cells.size := by
      have := congrArg List.length hf
      simp [hv] at this
      omega
    obtain ⟨r, hr, hrl⟩ := fill_all vs (k + 1) cells' (fun u hu => hs u (List.mem_cons_of_mem _ hu)) (by rw [hsz]; rw [show k + 1 + vs.length = k + (vs.length + 1) by omega]; exact h)
    refine ⟨r, ?_, ?_⟩
    · simp only [List.length_cons, List.range'_succ, List.zip_cons_cons, Instr.fill, hv, ne_eq, not_true_eq_false, decide_false, Bool.false_or, show ¬ (k * s + s > cells.size) by omega, Bool.false_eq_true, if_false]
      rw [hg]
      exact hr
    · rw [hrl, hf]
      simp only [Nat.add_zero, Array.length_toList, hv, List.flatMap_cons, List.length_cons]
      have h1 : (k + 1) * s = k * s + s := by rw [Nat.add_mul, Nat.one_mul]
      rw [h1]
      have hA : (cells.toList.take (k * s)).length = k * s := by simp; omega
      have hB : (cells.toList.take (k * s) ++ v.cells.toList).length = k * s + s := by simp [hv]; omega
      rw [List.take_append_of_le_length (by rw [hB]; exact Nat.le_refl _), List.take_of_length_le (by rw [hB]; exact Nat.le_refl _), List.append_assoc (cells.toList.take (k * s))]
      congr 1
      have h2 : (k + 1 + vs.length) * s = (k * s + s) + vs.length * s := by rw [Nat.add_mul, h1]
      have h3 : (k + (vs.length + 1)) * s = (k * s + s) + vs.length * s := by rw [← h2]; congr 1; omega
      rw [List.drop_append, List.drop_of_length_le (by rw [hB]; omega), List.nil_append, hB, List.drop_drop, h2, h3]
      congr 1
      omega

theorem zip_parts {ps : List (Nat × SV)} {xs : List (Nat × Value)} (h : partsRel β I w ps xs) : xs = (ps.map (·.1)).zip (xs.map (·.2)) := by
  apply List.ext_getElem?
  intro j
  by_cases hj : j < ps.length
  · obtain ⟨x, hx, _⟩ := h.2 j (ps[j].1) (ps[j].2) (by simp [hj])
    rw [hx, List.getElem?_zip_eq_some.2]
    exact ⟨by simp [hj], by simp [hx]⟩
  · rw [List.getElem?_eq_none (by rw [h.1]; omega), List.getElem?_eq_none (by simp [h.1]; omega)]

theorem setsP_spec {g0 : Cont} : ∀ {ps : List (Nat × SV)} {c : Cont} {m : Nat} {K : Cont → Prop} {xs : List (Nat × Value)} {cells : Array Value}, setsP ps c m K → partsRel β I w ps xs → (∀ v ∈ ps.map (·.2), SV.low n v) → c.len = m → c.low n → c.rel β I w cells.toList →
    ∃ c' r, K c' ∧ c'.low n ∧ Instr.fill (fun i => some (i * 1, 1)) cells xs = some r ∧ c'.rel β I w r.toList
  | [], c, m, K, xs, cells, h, hp, _, hm, hcl, hr => by
    have : xs = [] := List.eq_nil_of_length_eq_zero hp.1
    subst this
    exact ⟨c, cells, h, hcl, by simp [Instr.fill], hr⟩
  | (i, .c x) :: ps, c, m, K, xs, cells, h, hp, hlow, hm, hcl, hr => by
    obtain ⟨hi, hs, h⟩ := h
    obtain ⟨c', h, hl, hg, hlow', _⟩ := Cont.set_spec (by omega) h
    cases xs with
    | nil => exact absurd hp.1 (by simp)
    | cons q xs =>
      obtain ⟨y, hy, hry⟩ := hp.2 0 i _ rfl
      simp only [List.getElem?_cons_zero, Option.some.injEq] at hy
      subst hy
      have h1 := oneCell_cells (Cell.solid_one hs hry)
      have hsz : cells.size = m := by rw [← hm, ← Array.length_toList, hr.1]
      have hx : x.low n := hlow (.c x) (by simp)
      obtain ⟨c2, r, hK, hl2, hf, hrr⟩ := setsP_spec (g0 := g0) (cells := cells.setIfInBounds i y) h ⟨by have := hp.1; simpa using this, fun j i' v hj => by have := hp.2 (j + 1) i' v (by simpa using hj); simpa using this⟩ (fun v hv => hlow v (by simp only [List.map_cons, List.mem_cons]; exact .inr hv)) (by omega) (hlow' n hcl hx) ⟨by simp [hr.1, hl], fun j hj => by
        rw [hl] at hj
        rw [hg]
        simp only [Array.toList_setIfInBounds, List.getElem?_set]
        split
        · rename_i e; subst e
          rw [if_pos (by rw [hr.1]; exact hj)]
          exact ⟨y, rfl, hry⟩
        · exact hr.2 j hj⟩
      refine ⟨c2, r, hK, hl2, ?_, hrr⟩
      simp only [Instr.fill, h1]
      have : ¬ (i * 1 + 1 > cells.size) := by omega
      simp only [List.size_toArray, List.length_cons, List.length_nil, Nat.zero_add, ne_eq, not_true_eq_false, decide_false, Bool.false_or, this, Bool.false_eq_true, if_false]
      have e : (#[y].zipIdx.foldl (fun cs (x : Value × Nat) => cs.setIfInBounds (i * 1 + x.2) x.1) cells) = cells.setIfInBounds i y := by simp
      rw [e]
      exact hf
  | (_, .agg _) :: _, _, _, _, _, _, h, _, _, _, _, _ => h.elim
  | (_, .tup _) :: _, _, _, _, _, _, h, _, _, _, _, _ => h.elim

theorem run_buildV (hT : TyOK P ty) {t : TypeId} {ps : List (Nat × SV)} {xs : List (Nat × Value)} {K : SV → Prop} (hp : partsRel β I w ps xs) (hlow : ∀ v ∈ ps.map (·.2), SV.low n v) (h : buildV ty t ps K) :
    ∃ v x, K v ∧ v.low n ∧ v.rel β I w x ∧ ∀ w', (Instr.build t xs.toArray).run P w' = .ok x w' := by
  have hzip := zip_parts hp
  unfold buildV at h
  split at h
  · rename_i m e s z ht
    obtain ⟨hu, hes, hzl⟩ := hT.arr t m e s z ht
    obtain ⟨zv, hz1, hz2, hz3⟩ := hT.zero t z (by rw [ht]; rfl)
    have hzsz : zv.cells.size = m * s := by rw [hz2]; simp [Cont.vals_length, hzl]
    have hzrel : z.rel β I w zv.cells.toList := by rw [hz2]; exact (Cont.rel_flat hz3).2 rfl
    have fin : ∀ c r, K (.agg c) → c.low n → Instr.fill (fun i => some (i * s, s)) zv.cells xs = some r → c.rel β I w r.toList → ∃ v x, K v ∧ v.low n ∧ v.rel β I w x ∧ ∀ w', (Instr.build t xs.toArray).run P w' = .ok x w' := by
      intro c r hK hl hf hr
      refine ⟨_, .agg r, hK, hl, ⟨r.toList, by simp, hr⟩, fun w' => ?_⟩
      simp only [Instr.build, Sem.run_bind, run_zero hz1, Result.andThen_ok, run_underlying hu, run_sizeOf' hes, hf, Sem.run_pure]
    split at h
    · have : xs = [] := List.eq_nil_of_length_eq_zero (by rw [hp.1]; rfl)
      exact fin z zv.cells h (Cont.flat_low hz3) (by rw [this]; simp [Instr.fill]) hzrel
    · rename_i hne
      split at h
      · rename_i hran
        obtain ⟨c, hK, hcl, hcb, hcr⟩ := gather_spec h
        obtain ⟨e0, e1, e2⟩ := Cont.empty_spec (β := β) (I := I) (w := w) z
        have hpl : ps.length = m := by have := congrArg List.length hran; simpa using this
        obtain ⟨hcv, hcs⟩ := hcr β I w [] (xs.map (·.2)) e1 (by simp [hp.1]) (fun j v x hv hx => by
          simp only [List.getElem?_map] at hv hx
          obtain ⟨q, hq, rfl⟩ := Option.map_eq_some_iff.1 hv
          obtain ⟨y, hy, hr⟩ := hp.2 j q.1 q.2 (by rw [hq])
          rw [hy] at hx
          simp only [Option.map_some, Option.some.injEq] at hx
          subst hx; exact hr)
        obtain ⟨r, hr, hrl⟩ := fill_all (s := s) (xs.map (·.2)) 0 zv.cells hcs (by rw [hzsz]; simp [hp.1, hpl])
        refine fin c r hK (hcb n (e2 n) hlow) ?_ ?_
        · rw [hzip, hran, List.range_eq_range', show m = (xs.map (·.2)).length by simp [hp.1, hpl]]; exact hr
        · rw [hrl]
          simp only [Nat.zero_mul, List.take_zero, List.nil_append, Nat.zero_add]
          rw [List.drop_of_length_le (by rw [Array.length_toList, hzsz]; simp [hp.1, hpl]), List.append_nil]
          simpa using hcv
      · obtain ⟨rfl, hone, h⟩ := h
        obtain ⟨c', r, hK, hl, hf, hr⟩ := setsP_spec (g0 := z) h hp hlow (by omega) (Cont.flat_low hz3) hzrel
        exact fin c' r hK hl hf hr
  · rename_i fs m z ht
    obtain ⟨hsnd, hcon, htot, hnd, h⟩ := h
    obtain ⟨⟨fields, hu, hm, hs⟩, hzl⟩ := hT.struct t fs m z ht
    obtain ⟨zv, hz1, hz2, hz3⟩ := hT.zero t z (by rw [ht]; rfl)
    have hzsz : zv.cells.size = m := by rw [hz2]; simp [Cont.vals_length, hzl]
    have hzrel : z.rel β I w zv.cells.toList := by rw [hz2]; exact (Cont.rel_flat hz3).2 rfl
    split at h
    · rename_i l hl
      obtain ⟨hsz, hK⟩ := h
      obtain ⟨hl1, hl2, hl3⟩ := contsP_spec hl
      have hsm := sizesOK_mem hsz
      have hfit : ∀ {i o s : Nat} {te : TypeId}, fs[i]? = some (o, s, te) → o + s ≤ zv.cells.size := fun hf => by
        have := contig_get hcon hf; omega
      obtain ⟨r, hr1, hr2, hr3⟩ := fill_spec (pl := fun i => (fs[i]?).map fun f => (f.1, f.2.1)) (β := β) (I := I) (w := w) l (xs.map (·.2)) zv.cells z.get (by simp [hp.1, hl2]) (fun j i d x hj hx => by
        obtain ⟨v, hv, hc⟩ := hl3 j i d hj
        obtain ⟨y, hy, hry⟩ := hp.2 j i v hv
        simp only [List.getElem?_map, hy, Option.map_some, Option.some.injEq] at hx
        subst hx
        obtain ⟨o, s, te, hf, hd⟩ := hsm j i d hj
        exact ⟨(SV.cont_cells (n := 0) hc (soundAll_mem hsnd v (List.mem_map_of_mem (f := (·.2)) (List.mem_of_getElem? hv))) hry).1, o, s, by simp [hf], hd, hfit hf⟩)
        (fun j hj => by
          obtain ⟨u, hu, hru⟩ := hzrel.2 j (by omega)
          exact ⟨u, by simpa using hu, hru⟩)
      have hnd' : (l.map (·.1)).Nodup := by rw [hl1]; exact hnd
      obtain ⟨p1, p2⟩ := pieces_spec (z := z) hnd' hcon (by omega) (fun i d hi o s te hf => by
        obtain ⟨j, hj⟩ := lookP_mem hi
        obtain ⟨o', s', t', hf', hd⟩ := hsm j i d hj
        rw [hf] at hf'; cases hf'; exact hd) fs 0 0 (fun i => by simp) hcon (by omega)
      refine ⟨_, .agg r, hK, ?_, ⟨r.toList, by simp, ?_, ?_⟩, fun w' => ?_⟩
      · have hlp : ∀ i d, lookP l i = some d → d.low n := fun i d hi => by
          obtain ⟨j, hj⟩ := lookP_mem hi
          obtain ⟨v, hv, hc⟩ := hl3 j i d hj
          have hv' := hlow v (List.mem_map_of_mem (f := (·.2)) (List.mem_of_getElem? hv))
          unfold SV.cont at hc
          split at hc <;> cases hc <;> first | trivial | (intro y hy; obtain rfl := List.mem_singleton.1 hy; exact hv') | exact hv'
        have : ∀ (fs : List (Nat × Nat × TypeId)) k, ∀ x ∈ pieces z l k fs, Cell.low n x := by
          intro fs
          induction fs with
          | nil => intro k x hx; cases hx
          | cons f fs ih =>
            obtain ⟨o, s, te⟩ := f
            intro k x hx
            simp only [pieces, List.mem_append] at hx
            rcases hx with hx | hx
            · cases hlk : lookP l k with
              | some d => rw [hlk] at hx; exact Cont.list_low (hlp k d hlk) x hx
              | none => rw [hlk] at hx; exact Cont.list_low (Cont.sub_low (Cont.flat_low hz3) _ _) x hx
            · exact ih (k + 1) x hx
        exact this fs 0
      · simp only [Array.length_toList, Cont.len, p1, hr2, hzsz, htot]
      · intro j hj
        simp only [Cont.len, p1] at hj
        obtain ⟨u, hu, hru⟩ := hr3 j (by omega)
        refine ⟨u, by simpa using hu, ?_⟩
        have e := p2 j hj
        simp only [Cont.get]
        rw [e, Nat.zero_add]; exact hru
      · have hpl : ∀ (fl : List Field) (w' : World), (∀ f ∈ fl, ∃ s, (P.info? f.type).map (·.size) = some s) → ∃ places : List (Nat × Nat), (fl.mapM fun f => (do pure (f.offset, ← sizeOf f.type) : Sem (Nat × Nat))).run P w' = .ok places w' ∧ ∀ j : Nat, places[j]? = (fl[j]?).bind fun f => ((P.info? f.type).map (·.size)).map fun s => (f.offset, s) := by
          intro fl w'
          induction fl with
          | nil => intro _; exact ⟨[], rfl, fun j => by simp⟩
          | cons f fl ih =>
            intro hall
            obtain ⟨s, hs⟩ := hall f (List.mem_cons_self ..)
            obtain ⟨pl, h1, h2⟩ := ih fun g hg => hall g (List.mem_cons_of_mem _ hg)
            refine ⟨(f.offset, s) :: pl, ?_, fun j => ?_⟩
            · rw [List.mapM_cons]
              simp only [Sem.run_bind, run_sizeOf' hs, Result.andThen_ok, Sem.run_pure, h1]
            · cases j with
              | zero => simp only [List.getElem?_cons_zero, Option.bind_some]; rw [hs]; rfl
              | succ j => simpa using h2 j
        have hfsz : ∀ (j : Nat) f, fields.toList[j]? = some f → ∃ q, fs[j]? = some q ∧ f.offset = q.1 ∧ (P.info? f.type).map (·.size) = some q.2.1 := fun j f hf => by
          have h1 : (fields.toList.map fun f => (f.offset, f.type))[j]? = some (f.offset, f.type) := by rw [List.getElem?_map, hf]; rfl
          rw [hm, List.getElem?_map] at h1
          obtain ⟨q, hq, he⟩ := Option.map_eq_some_iff.1 h1
          simp only [Prod.mk.injEq] at he
          exact ⟨q, hq, he.1.symm, by rw [← he.2]; exact hs q (List.mem_of_getElem? hq)⟩
        obtain ⟨places, h1, h2⟩ := hpl fields.toList w' (fun f hf => by
          obtain ⟨j, hj, rfl⟩ := List.mem_iff_getElem.1 hf
          obtain ⟨q, _, _, h⟩ := hfsz j _ (by rw [List.getElem?_eq_getElem hj])
          exact ⟨_, h⟩)
        have hlen : fields.toList.length = fs.length := by have := congrArg List.length hm; simpa using this
        have hpls : (fun (i : Nat) => places.toArray[i]?) = fun (i : Nat) => (fs[i]?).map fun f => (f.1, f.2.1) := by
          funext j
          rw [List.getElem?_toArray, h2 j]
          by_cases hj : j < fs.length
          · have hj' : j < fields.toList.length := by omega
            rw [List.getElem?_eq_getElem hj']
            obtain ⟨q, hq, e1, e2⟩ := hfsz j _ (List.getElem?_eq_getElem hj')
            rw [hq]
            simp only [Option.bind_some, Option.map_some]
            rw [e2, e1]; rfl
          · rw [List.getElem?_eq_none (by omega), List.getElem?_eq_none (by omega)]; rfl
        have hfm : (fields.mapM fun f => (do pure (f.offset, ← sizeOf f.type) : Sem (Nat × Nat))).run P w' = .ok places.toArray w' := by
          rw [Array.mapM_eq_mapM_toList]
          simp only [Sem.run_map, h1]
          rfl
        have hfill : Instr.fill (fun (i : Nat) => places.toArray[i]?) zv.cells xs = some r := by
          rw [hpls, hzip, ← hl1]; exact hr1
        simp only [Instr.build, Sem.run_bind, run_zero hz1, Result.andThen_ok, run_underlying hu, hfm, hfill, Sem.run_pure]
    · exact h.elim
  · exact h.elim
end
end Go.Ab
