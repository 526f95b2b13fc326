/- Slices: written out, made, appended to; a string as bytes. -/
import Derived.Test.YtpfncffapgkjaaaDoorAb7
import Derived.Lib.ConvBytes
import Derived.Laws.MakeOwn
namespace Go.Ab
set_option linter.unusedVariables false
open Go.RowKit
section
variable {P : Program} {C : CC} {β : Val} {n : Nat} {H : Heap} {I : Nat → Prop} {w : World} {ty : Nat → Ty} {a : Act}

def emptyC (t : Ty) : Option Cont := (zeroC t).map Cont.empty

/-- A slice written out. -/
def buildSliceS (ty : Nat → Ty) (t : TypeId) (len : Nat) (vs : List SV) (H : Heap) (n : Nat) (K : SV → Heap → Nat → Prop) : Prop :=
  match ty t with
  | .slice e s _ => match emptyC (ty e) with
    | some c => len = vs.length ∧ len * s ≤ 16777216 ∧ gather s c vs fun c' => K (.c (.slice n 0 len len)) ((n, .own e c' (len * s)) :: H) (n + 1)
    | none => False
  | _ => False

theorem run_buildSliceS (hT : TyOK P ty) (hH : HeapOK C β n H I w) {o : Oper} {t : TypeId} {len : Nat} {parts : Array (Nat × Operand)} (ho : o.op = .buildSlice t len parts) (hp : parts.toList.map (·.1) = List.range len)
    {vs : List SV} (hv : vs.length = parts.toList.length ∧ ∀ (j : Nat) x v, (parts.toList.map (·.2))[j]? = some x → vs[j]? = some v → v.rel β I w (a.eval x)) (hvb : ∀ v ∈ vs, SV.low n v) {K : SV → Heap → Nat → Prop} (h : buildSliceS ty t len vs H n K) : Runs P a o w (AfterG C β n I w K) := by
  unfold buildSliceS at h
  split at h
  · rename_i e s by_ ht
    obtain ⟨hu, hes, z, hz, hzs, hs0⟩ := hT.slice t e s by_ ht
    obtain ⟨i, hi, hz0, hz1, hz2⟩ := info_parts hz
    split at h
    · rename_i c hc
      obtain ⟨hl, h24, h⟩ := h
      obtain ⟨c', hK, hcl, hcb, hcr⟩ := gather_spec h
      obtain ⟨zc, _, rfl⟩ := Option.map_eq_some_iff.1 hc
      obtain ⟨e0, e1, e2⟩ := Cont.empty_spec (β := β) (I := I) (w := w) zc
      rw [e0, Nat.zero_add] at hcl
      obtain ⟨hcv, hcs⟩ := hcr β I w [] ((parts.toList.map (·.2)).map a.eval) e1 (by simp [hv.1]) (fun j v x hv' hx => by
        rw [List.getElem?_map] at hx
        obtain ⟨y, hy, rfl⟩ := Option.map_eq_some_iff.1 hx
        exact hv.2 j y v hy hv')
      rw [List.nil_append] at hcv
      have hpl : parts.toList.length = len := by have := congrArg List.length hp; simpa using this
      obtain ⟨r, hr, hrl⟩ := fill_all (s := s) ((parts.toList.map (·.2)).map a.eval) 0 ((Array.range (len * s)).map (z.cells[· % z.cells.size]!)) hcs (by simp; rw [← Array.length_toList, hpl]; exact Nat.le_refl _)
      have hrl' : r.toList = ((parts.toList.map (·.2)).map a.eval).flatMap fun v => v.cells.toList := by
        rw [hrl]
        simp only [Nat.zero_mul, List.take_zero, List.nil_append, List.length_map, Nat.zero_add]
        rw [List.drop_of_length_le (by simp; rw [← Array.length_toList, hpl]; exact Nat.le_refl _), List.append_nil]
      have hrs : r.size = c'.len := by rw [← Array.length_toList, hrl', hcv.1]
      have hparts : (parts.map fun (x : Nat × Operand) => (x.1, a.eval x.2)).toList = (List.range' 0 ((parts.toList.map (·.2)).map a.eval).length).zip ((parts.toList.map (·.2)).map a.eval) := by
        rw [List.length_map, List.length_map, ← List.range_eq_range', hpl, ← hp, Array.toList_map, List.map_map, ← List.zip_map']
        rfl
      refine Runs.of_value (v := .slice (some ⟨w.heap.size, 0, none⟩) len len) (w' := w.alloc (.cells r e)) ?_ ?_
      · have h24' : ¬ (len * s > 2 ^ 24) := by simpa using h24
        have hfill : Instr.fill (fun i => some (i * s, s)) ((Array.range (len * s)).map (z.cells[· % z.cells.size]!)) (parts.map fun (x : Nat × Operand) => (x.1, a.eval x.2)).toList = some r := by
          rw [hparts]; exact hr
        simp only [execOp, ho, Instr.buildSlice, Sem.run_bind, run_underlying hu, Result.andThen_ok, run_sizeOf' hes, if_neg h24']
        by_cases h0 : len * s = 0
        · have hc0 : (Array.range (len * s)).map (fun x => (#[] : Array Value)[x % (#[] : Array Value).size]!) = (Array.range (len * s)).map (z.cells[· % z.cells.size]!) := by rw [h0]; simp
          simp only [if_pos h0, Sem.run_bind, Sem.run_pure, Result.andThen_ok, hc0, hfill]
          rfl
        · simp only [if_neg h0, Sem.run_bind, zeroValue, typeInfo, run_program, hi, hz0, Sem.run_pure, Result.andThen_ok, hfill]
          rfl
      · have hcl' : c'.len = len * s := by rw [hcl, hl]
        rw [← hcl', ← hrs] at hK
        refine push_after hH hK (by rw [List.take_of_length_le (by simp; omega), hrl']; exact hcv) (hcb n (e2 n) hvb) (Nat.le_of_eq hrs.symm) ⟨Nat.le_refl _, 0, by simp [place_new], .inl rfl⟩ (Nat.lt_succ_self n)
    · exact h.elim
  · exact h.elim

/-! ### make -/
def makeS (ty : Nat → Ty) (t : TypeId) (l c : Int) (H : Heap) (n : Nat) (K : SV → Heap → Nat → Prop) : Prop :=
  match ty t with
  | .slice e s by_ => match zeroC (ty e) with
    | some z => 0 ≤ l ∧ l ≤ c ∧ (by_ : Int) * c ≤ 281474976710656 ∧ c ≤ 9223372036854775807 ∧ K (.c (.slice n 0 l.toNat c.toNat)) ((n, .own e (z.times l.toNat) (c.toNat * s)) :: H) (n + 1)
    | none => False
  | _ => False

theorem flatten_getD {α : Type} {x : List α} {d : α} (hx : 0 < x.length) : ∀ (m j : Nat), j < m * x.length → ((List.replicate m x).flatten).getD j d = x.getD (j % x.length) d
  | 0, j, h => by simp at h
  | m + 1, j, h => by
    rw [List.replicate_succ, List.flatten_cons, getD_append]
    split
    · rename_i hj; rw [Nat.mod_eq_of_lt hj]
    · rename_i hj
      rw [Nat.add_mul, Nat.one_mul] at h
      rw [flatten_getD hx m _ (by omega)]
      rw [Nat.mod_eq_sub_mod (a := j) (b := x.length) (by omega)]
theorem flatten_len {α : Type} (x : List α) (m : Nat) : ((List.replicate m x).flatten).length = m * x.length := by simp [List.length_flatten, List.map_replicate, List.sum_replicate_nat]
theorem times_eq {α : Type} (l : List α) (m : Nat) : timesL l m = (List.replicate m l).flatten := by
  unfold timesL
  split
  · rename_i x
    induction m with
    | zero => rfl
    | succ m ih => rw [List.replicate_succ, List.replicate_succ, List.flatten_cons, ← ih]; rfl
  · rfl
theorem Cont.times_spec (z : Cont) (m : Nat) : (z.times m).len = m * z.len ∧ ∀ j, j < m * z.len → (z.times m).get j = z.get (j % z.len) := by
  have h0 : ∀ {j : Nat}, j < m * z.len → 0 < z.len := fun h => Nat.pos_of_ne_zero fun e => by simp [e] at h
  cases z <;> refine ⟨by simp only [Cont.times, times_eq, Cont.len, flatten_len], fun j hj => ?_⟩ <;>
    simp only [Cont.times, times_eq, Cont.get, Cont.len] at hj ⊢ <;> rw [flatten_getD (h0 hj) m j hj]
theorem Cont.times_low {z : Cont} (h : z.low n) (m : Nat) : (z.times m).low n := by
  cases z with
  | cells l =>
    intro x hx
    simp only [times_eq] at hx
    obtain ⟨y, hy, hx⟩ := List.mem_flatten.1 hx
    rw [List.eq_of_mem_replicate hy] at hx
    exact h x hx
  | _ => trivial

theorem run_makeS (hT : TyOK P ty) (hH : HeapOK C β n H I w) {t : TypeId} {kl kc : IntKind} {l c : Int} {K : SV → Heap → Nat → Prop} (h : makeS ty t l c H n K) :
    ∃ v w', (Instr.makeSlice t (.int kl l) (.int kc c)).run P w = .ok v w' ∧ AfterG C β n I w K v w' := by
  unfold makeS at h
  split at h
  · rename_i e s by_ ht
    obtain ⟨hu, hes, z0, hz, hzs, hs0⟩ := hT.slice t e s by_ ht
    obtain ⟨i, hi, hz0, hz1, hz2⟩ := info_parts hz
    split at h
    · rename_i z hzc
      obtain ⟨h0, h1, h2, h3, hK⟩ := h
      obtain ⟨v, hv, hcv, hf⟩ := hT.zero e z hzc
      have hvz : v = z0 := by
        rw [hi] at hv; simp only [Option.bind_some] at hv; rw [hz0] at hv; exact (Option.some.inj hv).symm
      subst hvz
      have hzl : z.len = s := by rw [← hzs, hcv]; simp [Cont.vals_length]
      have hr := run_make (P := P) w t e i v hu hi hz0 kl kc l c h0 h1 (by rw [hz2]; exact h2) h3
      refine ⟨_, _, hr, ?_⟩
      have hsize : (madeCells v.cells (c.toNat * i.size)).size = c.toNat * s := by rw [size_madeCells, hz1]
      rw [← hsize] at hK
      obtain ⟨t1, t2⟩ := Cont.times_spec z l.toNat
      have hle : l.toNat * s ≤ c.toNat * s := Nat.mul_le_mul_right _ (by omega)
      refine push_after hH hK ⟨?_, fun j hj => ?_⟩ (Cont.times_low (Cont.flat_low hf) _) (by rw [hsize, t1, hzl]; exact hle) ⟨by omega, 0, by simp [place_new], .inl rfl⟩ (Nat.lt_succ_self n)
      · rw [List.length_take, Array.length_toList, hsize, t1, hzl]; omega
      · have hj' := hj
        rw [t1] at hj'
        rw [t2 j hj', hzl]
        rw [hzl] at hj'
        have hlt : j % s < z.len := by rw [hzl]; exact Nat.mod_lt _ hs0
        refine ⟨(z.get (j % s)).val, ?_, Cell.rel_val (Cont.get_flat hf hlt)⟩
        rw [List.getElem?_take_of_lt hj]
        simp only [madeCells, Array.toList_map, List.getElem?_map]
        rw [List.getElem?_eq_getElem (by simp [hz1]; omega)]
        simp only [Array.getElem_toList, Array.getElem_range, Option.map_some, hcv, List.size_toArray, Cont.vals_length, hzl]
        congr 1
        have := Cont.vals_get hlt
        simp [this]
    · exact h.elim
  · exact h.elim

/-! ### append -/
theorem run_append_room' {t u e ty' : TypeId} {i : TypeInfo} {d : TypeDesc} (ht : P.underlying t = some (.slice e)) (hu : P.underlying u = some d) (hd : ∀ k, d ≠ .int k) (hi : P.info? e = some i) {g sLen sCap : Nat} {cur : Array Value} (hg : w.heap[g]? = some (.cells cur e (0, 0)))
    {m : Nat} {news : List Value} {x : Value} (hx : Src P i.size m news x w) (h1 : ∀ v ∈ news, v.oneCell' = true) (hroom : sLen + m ≤ sCap) (hfit : sLen * i.size + news.length ≤ cur.size) :
    (Builtin.append_ #[t, u] ty' #[.slice (some ⟨g, 0, none⟩) sLen sCap, x]).run P w =
      .ok (.slice (some ⟨g, 0, none⟩) (sLen + m) sCap) (w.setRow g (cur.toList.take (sLen * i.size) ++ news ++ cur.toList.drop (sLen * i.size + news.length)).toArray) := by
  have hst := run_storeCells_at P g (sLen * i.size) e news 0 cur w hg (by simpa using hfit) h1
  simp only [Nat.add_zero] at hst
  have ha : (⟨g, 0, none⟩ : Addr).add (sLen * i.size) = ⟨g, sLen * i.size, none⟩ := by rw [addr_add, Nat.zero_add]
  simp [Builtin.append_, run_underlying ht, run_underlying hu, sizeOf, typeInfo, hi, hx.len, hroom, hx.first, ha, hst]

/-- Nothing is appended where there is no room. -/
theorem run_append_none' {t u e ty' : TypeId} {i : TypeInfo} {d : TypeDesc} {ad : Option Addr} (ht : P.underlying t = some (.slice e)) (hu : P.underlying u = some d) (hd : ∀ k, d ≠ .int k) (hi : P.info? e = some i)
    {news : List Value} {x : Value} (hx : Src P i.size 0 news x w) :
    (Builtin.append_ #[t, u] ty' #[.slice ad 0 0, x]).run P w = .ok (.slice ad 0 0) w := by
  have hn : news = [] := List.eq_nil_of_length_eq_zero (by rw [hx.size]; simp)
  subst hn
  cases ad <;> simp [Builtin.append_, run_underlying ht, run_underlying hu, sizeOf, typeInfo, hi, hx.len, hx.first, storeCells]

theorem run_append_grow' {t u e ty' : TypeId} {i : TypeInfo} {d : TypeDesc} {z : Value} (ht : P.underlying t = some (.slice e)) (hu : P.underlying u = some d) (hd : ∀ k, d ≠ .int k) (hi : P.info? e = some i) (hz : i.zero = some z)
    {base : Option Addr} {sLen sCap : Nat} {olds : List Value} (ho : (Builtin.firstCells i.size sLen (.slice base sLen sCap)).run P w.drew = .ok olds.toArray w.drew)
    {m : Nat} {news : List Value} {x : Value} (hx : Src P i.size m news x w) (hx1 : Src P i.size m news x w.drew) (hg : sCap < sLen + m) (h63 : sLen + m ≤ 9223372036854775807) (hb : (sLen + m) * i.bytes ≤ 140737488355328) :
    (Builtin.append_ #[t, u] ty' #[.slice base sLen sCap, x]).run P w =
      .ok (.slice (some ⟨w.heap.size, 0, none⟩) (sLen + m) (grownCap w (sLen + m) sCap e))
        (w.drew.alloc (.cells (olds.toArray ++ news.toArray ++ Builtin.zeroCells z.cells (grownCap w (sLen + m) sCap e - (sLen + m))) e)) := by
  have hn : ¬ (sLen + m ≤ sCap) := by omega
  have h63' : ¬ (9223372036854775807 < ((sLen : Int) + (m : Int))) := by omega
  have hfit := growslice_fits hg hb
  have h48' : ¬ (281474976710656 < Builtin.nextslicecap (sLen + m) sCap * i.bytes) := by omega
  simp [Builtin.append_, run_underlying ht, run_underlying hu, sizeOf, typeInfo, zeroValue, hi, hz, hx.len, hn, h63', h48', Question.forced, ho, hx1.first, newRow, grownCap]
  congr 2
  apply Array.ext'
  simp [List.append_assoc]

def appendS (ty : Nat → Ty) (t u : TypeId) (sv xv : SV) (H : Heap) (n : Nat) (K : SV → Heap → Nat → Prop) : Prop :=
  match ty t with
  | .slice e s by_ => (match ty u with | .slice _ _ _ => True | .str => True | _ => False) ∧
    match sv with
    | .c .nils => match emptyC (ty e) with
      | some c0 => srcS H s xv fun m d => (m * by_ ≤ 140737488355328 ∧ m ≤ 9223372036854775807 ∧ d.solid) ∧ c0.app d fun c' => ∀ cap', m ≤ cap' → K (.c (.slice n 0 m cap')) ((n, .own e c' (cap' * s)) :: H) (n + 1)
      | none => False
    | .c (.raw (.slice ad 0 0)) => match emptyC (ty e) with
      | some c0 => srcS H s xv fun m d => (m * by_ ≤ 140737488355328 ∧ m ≤ 9223372036854775807 ∧ d.solid) ∧ c0.app d fun c' => (m = 0 → K (.c (.raw (.slice ad 0 0))) H n) ∧ (0 < m → ∀ cap', m ≤ cap' → K (.c (.slice n 0 m cap')) ((n, .own e c' (cap' * s)) :: H) (n + 1))
      | none => False
    | .c (.slice id off len cap) => match H.get id with
      | some (.own e' c capc) => e' = e ∧ off = 0 ∧ c.len = len * s ∧ capc = cap * s ∧
        srcS H s xv fun m d => ((len + m) * by_ ≤ 140737488355328 ∧ len + m ≤ 9223372036854775807 ∧ d.solid) ∧ c.app d fun c' => ∀ cap', len + m ≤ cap' → K (.c (.slice n 0 (len + m) cap')) ((n, .own e c' (cap' * s)) :: H.del id) (n + 1)
      | _ => False
    | _ => False
  | _ => False

/-- The world and value behind an append that grows. -/
theorem append_grown (hH : HeapOK C β n H I w) {H' : Heap} (hs : ∀ id o, H'.get id = some o → H.get id = some o) {t u e ty' : TypeId} {i : TypeInfo} {d : TypeDesc} {z : Value} (ht : P.underlying t = some (.slice e)) (hu : P.underlying u = some d) (hd : ∀ k, d ≠ .int k) (hi : P.info? e = some i) (hz : i.zero = some z) (hzs : z.cells.size = i.size)
    {base : Option Addr} {len cap m : Nat} {olds news : List Value} {x : Value} {c' : Cont} (ho : (Builtin.firstCells i.size len (.slice base len cap)).run P w.drew = .ok olds.toArray w.drew) (hol : olds.length = len * i.size) (hx : Src P i.size m news x w) (hx1 : Src P i.size m news x w.drew)
    (hc' : c'.len = (len + m) * i.size) (hr : c'.rel β I w (olds ++ news)) (hb : c'.low n) (hg : cap < len + m) (h63 : len + m ≤ 9223372036854775807) (hbytes : (len + m) * i.bytes ≤ 140737488355328) {K : SV → Heap → Nat → Prop}
    (hK : ∀ cap', len + m ≤ cap' → K (.c (.slice n 0 (len + m) cap')) ((n, .own e c' (cap' * i.size)) :: H') (n + 1)) :
    ∃ v w', (Builtin.append_ #[t, u] ty' #[.slice base len cap, x]).run P w = .ok v w' ∧ After C β n I w K v w' := by
  refine ⟨_, _, run_append_grow' (P := P) (w := w) (ty' := ty') ht hu hd hi hz ho hx hx1 hg h63 hbytes, ?_⟩
  have hge := grownCap_ge w (len + m) cap e
  have hsize : (olds.toArray ++ news.toArray ++ Builtin.zeroCells z.cells (grownCap w (len + m) cap e - (len + m))).size = grownCap w (len + m) cap e * i.size := by
    simp only [Array.size_append, List.size_toArray, size_zeroCells, hzs, hol, hx.size]
    rw [← Nat.add_mul, ← Nat.add_mul]; congr 1; omega
  have hk := hK (grownCap w (len + m) cap e) hge
  rw [← hsize] at hk
  have hsame : Same w w.drew := (Below.refl _ w).drew
  have hH' : HeapOK C β n H' I w.drew := (hH.later hsame).sub hs
  have hA := push_after (K := K) (x := .slice (some ⟨w.drew.heap.size, 0, none⟩) (len + m) (grownCap w (len + m) cap e)) hH' hk ?_ hb ?_ ⟨hge, 0, by simp [place_new], .inl rfl⟩ (Nat.lt_succ_self n)
  · obtain ⟨_, sv, H2, n2, β2, I2, a1, a2, a3, a4, a5, a6, a7⟩ := hA
    exact ⟨sv, H2, n2, β2, I2, a1, a2, a3, a4, a5, (hH.ext hsame).trans a6, a7⟩
  · refine Cont.rel_mono (n := n) (fun _ _ => rfl) (hH.ext hsame) hb ?_
    simp only [Array.toList_append]
    rw [← hr.1]
    rw [List.take_append_of_le_length (by simp), List.take_of_length_le (by simp)]
    exact hr
  · rw [hsize, hc']; exact Nat.mul_le_mul_right _ hge

theorem TyOK.arg_desc (hT : TyOK P ty) {u : TypeId} (h : (match ty u with | .slice _ _ _ => True | .str => True | _ => False)) : ∃ d, P.underlying u = some d ∧ ∀ k, d ≠ .int k := by
  split at h
  · rename_i hu; exact ⟨_, (hT.slice _ _ _ _ hu).1, by simp⟩
  · rename_i hu; exact ⟨_, hT.str _ hu, by simp⟩
  · exact h.elim

theorem run_appendS (hT : TyOK P ty) (hH : HeapOK C β n H I w) {t u ty' : TypeId} {sv xv : SV} {s x : Value} (hs : sv.rel β I w s) (hx : xv.rel β I w x) {K : SV → Heap → Nat → Prop} (h : appendS ty t u sv xv H n K) :
    ∃ v w', (Builtin.append_ #[t, u] ty' #[s, x]).run P w = .ok v w' ∧ After C β n I w K v w' := by
  have hdrew : Same w w.drew := (Below.refl _ w).drew
  unfold appendS at h
  split at h
  · rename_i e s by_ ht
    obtain ⟨hu, h⟩ := h
    obtain ⟨d, hd, hdi⟩ := hT.arg_desc hu
    obtain ⟨hut, hes, z, hz, hzs, hs0⟩ := hT.slice t e s by_ ht
    obtain ⟨i, hi, hz0, rfl, rfl⟩ := info_parts hz
    split at h
    · have hs' := (SV.rel_flat (x := .c .nils) rfl).1 hs
      subst hs'
      split at h
      · rename_i c0 hc0
        obtain ⟨zc, _, rfl⟩ := Option.map_eq_some_iff.1 hc0
        obtain ⟨e0, e1, e2⟩ := Cont.empty_spec (β := β) (I := I) (w := w) zc
        obtain ⟨m, dc, h, hl, hb, news, hnr, hsrc⟩ := srcS_spec (P := P) hH hx h
        obtain ⟨⟨h1, h2, h3⟩, h⟩ := h
        obtain ⟨c', hK, hcl, hcr, hcb⟩ := Cont.app_rel h
        have hr := hcr β I w [] news e1 hnr
        rw [e0, Nat.zero_add] at hcl
        have hsw := hsrc w (Below.refl _ _)
        by_cases hm : m = 0
        · subst hm
          refine ⟨_, _, run_append_none' hut hd hdi hi hsw, .c (.slice n 0 0 0), _, n + 1, upd β n none, I, hK 0 (Nat.le_refl _), ⟨Nat.le_refl _, 0, by simp [place, upd_same], .inl rfl⟩, Nat.lt_succ_self n, Nat.le_succ _, upd_lt, Ext.refl _ _, ?_⟩
          rw [Nat.zero_mul]
          exact hH.pushNil (by omega) (hcb n (e2 n) hb)
        · have := append_grown (P := P) (ty' := ty') hH (H' := H) (fun _ _ h => h) hut hd hdi hi hz0 hzs (base := none) (len := 0) (cap := 0) (olds := []) rfl (by simp) hsw (hsrc _ hdrew) (by simpa using hcl.trans hl) hr (hcb n (e2 n) hb) (by omega) (by omega) (by simpa using h1) (K := K) (by simpa using hK)
          exact this
      · exact h.elim
    · rename_i ad
      have hs' := (SV.rel_flat (x := .c (.raw (.slice ad 0 0))) rfl).1 hs
      subst hs'
      split at h
      · rename_i c0 hc0
        obtain ⟨zc, _, rfl⟩ := Option.map_eq_some_iff.1 hc0
        obtain ⟨e0, e1, e2⟩ := Cont.empty_spec (β := β) (I := I) (w := w) zc
        obtain ⟨m, dc, h, hl, hb, news, hnr, hsrc⟩ := srcS_spec (P := P) hH hx h
        obtain ⟨⟨h1, h2, h3⟩, h⟩ := h
        obtain ⟨c', ⟨hK0, hK⟩, hcl, hcr, hcb⟩ := Cont.app_rel h
        have hr := hcr β I w [] news e1 hnr
        rw [e0, Nat.zero_add] at hcl
        have hsw := hsrc w (Below.refl _ _)
        by_cases hm : m = 0
        · subst hm
          exact ⟨_, _, run_append_none' hut hd hdi hi hsw, .c (.raw (.slice ad 0 0)), H, n, β, I, hK0 rfl, CellD.flat (.raw (.slice ad 0 0)) rfl, trivial, Nat.le_refl _, fun _ _ => rfl, Ext.refl _ _, hH⟩
        · have := append_grown (P := P) (ty' := ty') hH (H' := H) (fun _ _ h => h) hut hd hdi hi hz0 hzs (base := ad) (len := 0) (cap := 0) (olds := []) (by cases ad <;> simp [Builtin.firstCells] <;> rfl) (by simp) hsw (hsrc _ hdrew) (by simpa using hcl.trans hl) hr (hcb n (e2 n) hb) (by omega) (by omega) (by simpa using h1) (K := K) (by simpa using hK (by omega))
          exact this
      · exact h.elim
    · rename_i id off len cap
      split at h
      · rename_i e' c capc hid
        obtain ⟨rfl, rfl, hcl, rfl, h⟩ := h
        obtain ⟨m, dc, h, hl, hb, news, hnr, hsrc⟩ := srcS_spec (P := P) hH hx h
        obtain ⟨⟨h1, h2, h3⟩, h⟩ := h
        obtain ⟨c', hK, hcl', hcr, hcb⟩ := Cont.app_rel h
        have hbc := hcb n (hH.low id _ hid).2 hb
        have hsw := hsrc w (Below.refl _ _)
        obtain ⟨hlc, off', rfl, hoff⟩ := hs
        have hdel : ∀ i o, (H.del id).get i = some o → H.get i = some o := fun i o ho => by
          rw [Heap.get_del] at ho
          split at ho
          · cases ho
          · exact ho
        have hc'l : c'.len = (len + m) * i.size := by rw [hcl', hcl, hl, Nat.add_mul]
        by_cases hcap : cap = 0
        · subst hcap
          have hlen : len = 0 := by omega
          subst hlen
          rw [Nat.zero_mul] at hcl
          have hce : c.rel β I w [] := ⟨by simp [hcl], fun j hj => by omega⟩
          have hr := hcr β I w [] news hce hnr
          by_cases hm : m = 0
          · subst hm
            refine ⟨_, _, run_append_none' hut hd hdi hi hsw, .c (.slice n 0 0 0), _, n + 1, upd β n (β id), I, hK 0 (Nat.le_refl _), ⟨Nat.le_refl _, off', by simp [place, upd_same], .inr rfl⟩, Nat.lt_succ_self n, Nat.le_succ _, upd_lt, Ext.refl _ _, ?_⟩
            rw [Nat.zero_mul]
            have hH2 : HeapOK C β n ((id, .own e' c' 0) :: H) I w := by
              rcases hH.holds id _ hid with ⟨b, arr, hb0, hw, hs, hle, hrr⟩ | ⟨hnone, _, _⟩
              · refine (hH.write (w' := w) (o' := .own e' c' 0) hid hb0 rfl rfl rfl (Nat.le_refl _) (fun _ _ _ => rfl) (fun _ => .inl ⟨b, arr, rfl, hw, by omega, by omega, ⟨by rw [List.length_take]; omega, fun j hj => by omega⟩⟩) hbc).2
              · refine ⟨hH.os, hH.tape, hH.output, hH.size, hH.frame, fun i' o' ho' => ?_, fun i' o' ho' => ?_, fun i' o' ho' => ?_, fun i' j' oi oj hij hi' hj' b hu hv => ?_, fun i' o' ho' => ?_, hH.ilt, hH.i0, hH.base⟩
                · rw [Heap.get_cons] at ho'
                  split at ho'
                  · rename_i e; cases ho'; subst e; exact .inr ⟨hnone, by omega, rfl⟩
                  · exact hH.holds i' o' ho'
                · rw [Heap.get_cons] at ho'
                  split at ho'
                  · rename_i e; cases ho'; subst e; exact ⟨(hH.low _ _ hid).1, hbc⟩
                  · exact hH.low i' o' ho'
                · rw [Heap.get_cons] at ho'
                  split at ho'
                  · rename_i e; subst e; intro b hb; rw [hnone] at hb; cases hb
                  · exact hH.fresh i' o' ho'
                · rw [Heap.get_cons] at hi' hj'
                  split at hi'
                  · rename_i e; subst e; rw [hnone] at hu; cases hu
                  · split at hj'
                    · rename_i e; subst e; rw [hnone] at hv; cases hv
                    · exact hH.sep i' j' oi oj hij hi' hj' b hu hv
                · rw [Heap.get_cons] at ho'
                  split at ho'
                  · rename_i e; subst e; intro b hb; rw [hnone] at hb; cases hb
                  · exact hH.off i' o' ho'
            have hH3 := hH2.alias (id := id) (o := .own e' c' 0) (by simp [Heap.get_cons])
            simpa [Heap.del] using hH3
          · refine append_grown (P := P) (ty' := ty') hH (H' := H.del id) hdel hut hd hdi hi hz0 hzs (olds := []) ?_ (by simp) hsw (hsrc _ hdrew) hc'l hr hbc (by omega) h2 h1 hK
            cases place β id off' <;> simp [Builtin.firstCells] <;> rfl
        · have h0 : off' = 0 := by rcases hoff with h | h <;> omega
          subst h0
          rcases hH.holds id _ hid with ⟨b, arr, hb0, hw, hs, hle, hrr⟩ | ⟨hnone, h0, hc0⟩
          · have hpl : place β id 0 = some ⟨b, 0, none⟩ := by simp [place, hb0]
            rw [hpl]
            have hr := hcr β I w _ news hrr hnr
            by_cases hroom : len + m ≤ cap
            · have hmul : (len + m) * i.size ≤ cap * i.size := Nat.mul_le_mul_right _ hroom
              rw [Nat.add_mul] at hmul
              have hr' := run_append_room' (P := P) (ty' := ty') hut hd hdi hi hw hsw (Cont.rel_oneCell h3 hnr) hroom (by rw [hsw.size, hs]; exact hmul)
              refine ⟨_, _, hr', ?_⟩
              have hA : (arr.toList.take (len * i.size)).length = len * i.size := by simp; omega
              obtain ⟨hE, hH2⟩ := hH.write hid hb0 (w' := w.setRow b (arr.toList.take (len * i.size) ++ news ++ arr.toList.drop (len * i.size + news.length)).toArray) (o' := .own e' c' (cap * i.size)) rfl rfl rfl (by simp [World.setRow]) (fun k _ hk => setRow_other w b k _ hk)
                (fun hE => .inl ⟨b, _, rfl, setRow_heap w b arr _ _ (0, 0) hw, by simp [hsw.size]; omega, by rw [hc'l, Nat.add_mul]; exact hmul, by
                  refine Cont.rel_mono (n := n) (fun _ _ => rfl) hE hbc ?_
                  rw [List.take_append_of_le_length (by simp only [List.length_append, hA, hsw.size, hc'l, Nat.add_mul]; exact Nat.le_refl _), List.take_of_length_le (by simp only [List.length_append, hA, hsw.size, hc'l, Nat.add_mul]; exact Nat.le_refl _), ← hcl]
                  exact hr⟩) hbc
              have hH3 := hH2.alias (id := id) (o := .own e' c' (cap * i.size)) (by simp [Heap.get_cons])
              refine ⟨.c (.slice n 0 (len + m) cap), _, n + 1, upd β n (β id), I, hK cap hroom, ⟨hroom, 0, ?_, .inl rfl⟩, Nat.lt_succ_self n, Nat.le_succ _, upd_lt, hE, ?_⟩
              · simp [place, upd_same, hb0]
              · simpa [Heap.del] using hH3
            · refine append_grown (P := P) (ty' := ty') hH (H' := H.del id) hdel hut hd hdi hi hz0 hzs (olds := arr.toList.take c.len) ?_ (by simp; omega) hsw (hsrc _ hdrew) hc'l hr hbc (by omega) h2 h1 hK
              have hcells : CellsAt β I w c b 0 := by
                by_cases hc0 : 0 < c.len
                · obtain ⟨b', hb', h⟩ := hH.cellsAt hid hc0
                  rw [hb0] at hb'; cases hb'; exact h
                · intro j hj; omega
              have := run_loadCells_list (P := P) w.drew ⟨b, 0, none⟩ (arr.toList.take c.len) fun j v hj => by
                rw [addr_add, Nat.zero_add]
                have hjc : j < c.len := by
                  rcases Nat.lt_or_ge j c.len with h | h
                  · exact h
                  · rw [List.getElem?_eq_none (by simp; omega)] at hj; cases hj
                rw [List.getElem?_take_of_lt hjc] at hj
                have hd : w.drew.heap[b]? = w.heap[b]? := rfl
                rw [cell_of_row w.drew b j arr e' (0, 0) (by rw [hd]; exact hw)]
                simpa using hj
              have hlen : (arr.toList.take c.len).length = len * i.size := by simp; omega
              rw [hlen] at this
              simpa [Builtin.firstCells] using this
          · exfalso
            rcases Nat.mul_eq_zero.1 hc0 with h | h <;> omega
      · exact h.elim
    · exact h.elim
  · exact h.elim

/-! ### a string's bytes -/
def strBytesS (ty : Nat → Ty) (src dst : TypeId) (x : SV) (K : SV → Prop) : Prop :=
  match ty src, ty dst, x with
  | .str, .slice e _ _, .c (.str s) => ty e = .int .u8 ∧ K (.c (.ds s.length (.u8s s)))
  | _, _, _ => False

theorem run_strBytesS (hT : TyOK P ty) (hH : HeapOK C β n H I w) {src dst : TypeId} {xv : SV} {x : Value} (hx : xv.rel β I w x) {K : SV → Heap → Nat → Prop} (h : strBytesS ty src dst xv fun v => K v H n) :
    ∃ v w', (convert src dst x).run P w = .ok v w' ∧ AfterG C β n I w K v w' := by
  unfold strBytesS at h
  split at h
  · rename_i e s' b s hs hd
    obtain ⟨he, hK⟩ := h
    have hx' := (SV.rel_flat (x := .c (.str s)) rfl).1 hx
    subst hx'
    have hr := Lib.run_convert_string_bytes (P := P) w src dst e ⟨s.toArray⟩ (hT.str _ hs) (hT.slice _ _ _ _ hd).1 (hT.int _ _ he)
    refine ⟨_, _, hr, ?_⟩
    have hsz : (⟨s.toArray⟩ : ByteArray).size = s.length := by simp [ByteArray.size]
    have hsame : Same w (Lib.bytesWorld w e ⟨s.toArray⟩) := ⟨rfl, rfl, rfl, by rw [Lib.bytesWorld_size]; omega, fun k hk => Lib.bytesWorld_at_old w e _ k hk⟩
    have hH1 := hH.later hsame
    have hI : ∀ b, I b ∨ b = w.heap.size → b < (Lib.bytesWorld w e ⟨s.toArray⟩).heap.size := fun b h => by
      rw [Lib.bytesWorld_size]
      rcases h with h | h
      · have := hH.ilt b h; omega
      · omega
    have hE : Ext I w (fun b => I b ∨ b = w.heap.size) (Lib.bytesWorld w e ⟨s.toArray⟩) := fun b hb => ⟨.inl hb, hsame.block b (hH.ilt b hb)⟩
    refine ⟨hsame, _, H, n, β, fun b => I b ∨ b = w.heap.size, hK, ?_, trivial, Nat.le_refl _, fun _ _ => rfl, hE, hH1.widen (fun b h => .inl h) hI (fun id o ho b hb h => ?_) (fun b h => ?_)⟩
    · rw [hsz]
      refine DatAt.ds (c := .u8s s) ⟨.inr rfl, fun j hj => ?_⟩ ?_ (fun h => h)
      · simp only [Cont.len] at hj
        refine ⟨_, by rw [Nat.zero_add]; exact Lib.bytesWorld_cell w e _ j (by omega), ?_⟩
        exact CellD.flat (.u8 _) rfl
      · have := grownCap_ge w s.length 0 e; exact this
    · rcases h with h | h
      · exact hH1.off id o ho b hb h
      · have := (hH.holds id o ho).lt hb; omega
    · rcases h with h | h
      · exact hH.i0 b h
      · rw [h]; exact .inr (.inl hH.size)
  · exact h.elim
/-! ### maps: made, written -/
theorem HeapOK.pushMap (h : HeapOK C β n H I w) {t : TypeId} : HeapOK C (upd β n (some w.heap.size)) (n + 1) ((n, .mp t []) :: H) I (w.alloc (.map #[] 0)) := by
  have hsame : Same w (w.alloc (.map #[] 0)) := (Below.refl _ w).alloc (Nat.le_refl _) (.map #[] 0)
  have h1 := h.later hsame
  refine h1.name ⟨_, #[], 0, rfl, heap_alloc_new w _, rfl, fun j x hx => by simp at hx⟩ (fun x hx => by cases hx) (fun b e => ?_) (fun id o ho b hb e => ?_) (fun b e hI => ?_)
  · cases e; exact .inl h.size
  · cases e
    have := (h.holds id o ho).lt hb
    omega
  · cases e
    exact absurd (h.ilt _ hI) (Nat.lt_irrefl _)
def makeMapS (ty : Nat → Ty) (t : TypeId) (H : Heap) (n : Nat) (K : SV → Heap → Nat → Prop) : Prop := K (.c (.map n)) ((n, .mp t []) :: H) (n + 1)
theorem run_makeMapS (hH : HeapOK C β n H I w) {o : Oper} {t : TypeId} (ho : o.op = .makeMap t none) {K : SV → Heap → Nat → Prop} (h : makeMapS ty t H n K) : Runs P a o w (AfterG C β n I w K) := by
  refine Runs.of_value (v := .map (some w.heap.size)) (w' := w.alloc (.map #[] 0)) ?_ ?_
  · simp [execOp, ho, Instr.makeMap]
  · have hsame : Same w (w.alloc (.map #[] 0)) := (Below.refl _ w).alloc (Nat.le_refl _) (.map #[] 0)
    exact ⟨hsame, .c (.map n), _, n + 1, upd β n (some w.heap.size), I, h, by simp [SV.rel, Cell.rel, Cell.rel1, upd_same], Nat.lt_succ_self n, Nat.le_succ _, upd_lt, hH.ext hsame, hH.pushMap⟩
/-- An entry is written: over the one with its key, or as a new one. -/
def mapUpdS (ty : Nat → Ty) (t : TypeId) (x k v : SV) (H : Heap) (n : Nat) (K : SV → Heap → Nat → Prop) : Prop :=
  match ty t, x with
  | .map kt et, .c (.map id) => match H.get id with
    | some (.mp mt l) => keyS ty kt k ∧ (∀ p ∈ l, keyS ty kt p.1) ∧ (∀ (j : Nat) (u : SV), l[j]? = some (k, u) → K (.c (.raw undef)) ((id, .mp mt (l.set j (k, v))) :: H) n) ∧ ((∀ p ∈ l, p.1 ≠ k) → K (.c (.raw undef)) ((id, .mp mt (l ++ [(k, v)])) :: H) n)
    | _ => False
  | _, _ => False
theorem run_mapUpdS (hT : TyOK P ty) (hH : HeapOK C β n H I w) {t : TypeId} {x k v : SV} {xv kv vv : Value} (hx : x.rel β I w xv) (hk : k.rel β I w kv) (hv : v.rel β I w vv) (hkl : k.low n) (hvl : v.low n) {K : SV → Heap → Nat → Prop} (h : mapUpdS ty t x k v H n K) :
    ∃ w', (Instr.mapUpdate t xv kv vv).run P w = .ok () w' ∧ After C β n I w K undef w' := by
  unfold mapUpdS at h
  split at h
  · rename_i kt et id hty
    split at h
    · rename_i mt l hid
      obtain ⟨hks, hls, hyes, hno⟩ := h
      obtain ⟨d, hd, hik, hkf⟩ := keyS_isKey hT hks
      obtain rfl := (SV.rel_flat hkf).1 hk
      obtain ⟨b, es, ck, hb, hw, hs, he⟩ := hH.holds id _ hid
      have hxv : xv = .map (some b) := by have : xv = .map (β id) := hx; rw [this, hb]
      subst hxv
      have hm := hT.map t kt et hty
      have hlow := (hH.low id _ hid).2
      rcases find_spec (P := P) hT hks hls hs he with ⟨j, u, e, h1, h2, h3, h5, h4⟩ | ⟨h1, h2⟩
      · have hrun : (Instr.mapUpdate t (.map (some b)) k.val vv).run P w = .ok () { w with heap := w.heap.setIfInBounds b (.map (es.modify j fun e => { e with key := k.val, val := vv }) ck) } := by
          simp [Instr.mapUpdate, run_underlying hm, MapKept.run_getObj_map hw, MapKept.run_checkKey hd hik, h4, h2, h5, MapKept.run_keyThatStays hik, MapKept.run_setObj_map _ hw, Result.andThen]
        obtain ⟨hE, hH'⟩ := hH.write hid hb (w' := { w with heap := w.heap.setIfInBounds b (.map (es.modify j fun e => { e with key := k.val, val := vv }) ck) }) (o' := .mp mt (l.set j (k, v))) rfl rfl rfl (by simp) (fun k' _ hne => (MapKept.heap_set hw).2 k' hne)
          (fun hE => ⟨b, _, ck, rfl, (MapKept.heap_set hw).1, by simp [hs], fun i y hy => by
            rw [List.getElem?_set] at hy
            by_cases hij : j = i
            · subst hij
              rw [if_pos rfl] at hy
              split at hy
              · cases hy
                exact ⟨{ e with key := k.val, val := vv }, by simp [Array.getElem?_modify, h2], (SV.rel_flat hkf).2 rfl, SV.rel_mono (n := n) (fun _ _ => rfl) hE hvl hv⟩
              · cases hy
            · rw [if_neg hij] at hy
              obtain ⟨e', he', h6, h7⟩ := he i y hy
              have hyl := hlow y (List.mem_of_getElem? hy)
              exact ⟨e', by simp [Array.getElem?_modify, hij, he'], SV.rel_mono (n := n) (fun _ _ => rfl) hE hyl.1 h6, SV.rel_mono (n := n) (fun _ _ => rfl) hE hyl.2 h7⟩⟩)
          (fun y hy => by
            rcases List.mem_or_eq_of_mem_set hy with hy | rfl
            · exact hlow y hy
            · exact ⟨hkl, hvl⟩)
        exact ⟨_, hrun, .c (.raw undef), _, n, β, I, hyes j u h1, Cell.rel_val (β := β) (x := .raw undef) rfl, trivial, Nat.le_refl _, fun _ _ => rfl, hE, hH'⟩
      · have hrun : (Instr.mapUpdate t (.map (some b)) k.val vv).run P w = .ok () { w with heap := w.heap.setIfInBounds b (.map (es.push { key := k.val, val := vv, born := ck }) (ck + 1)) } := by
          simp [Instr.mapUpdate, run_underlying hm, MapKept.run_getObj_map hw, MapKept.run_checkKey hd hik, h2, MapKept.run_setObj_map _ hw, Result.andThen]
        obtain ⟨hE, hH'⟩ := hH.write hid hb (w' := { w with heap := w.heap.setIfInBounds b (.map (es.push { key := k.val, val := vv, born := ck }) (ck + 1)) }) (o' := .mp mt (l ++ [(k, v)])) rfl rfl rfl (by simp) (fun k' _ hne => (MapKept.heap_set hw).2 k' hne)
          (fun hE => ⟨b, _, ck + 1, rfl, (MapKept.heap_set hw).1, by simp [hs], fun i y hy => by
            by_cases hil : i < l.length
            · rw [List.getElem?_append_left hil] at hy
              obtain ⟨e', he', h6, h7⟩ := he i y hy
              have hyl := hlow y (List.mem_of_getElem? hy)
              exact ⟨e', by rw [Array.getElem?_push, if_neg (by omega)]; exact he', SV.rel_mono (n := n) (fun _ _ => rfl) hE hyl.1 h6, SV.rel_mono (n := n) (fun _ _ => rfl) hE hyl.2 h7⟩
            · rw [List.getElem?_append_right (by omega)] at hy
              have h0 : i - l.length = 0 := by
                rcases Nat.eq_zero_or_pos (i - l.length) with h | h
                · exact h
                · rw [List.getElem?_eq_none (by simp; omega)] at hy; cases hy
              rw [h0] at hy
              simp only [List.getElem?_cons_zero, Option.some.injEq] at hy
              subst hy
              exact ⟨_, by rw [Array.getElem?_push, if_pos (by omega)], (SV.rel_flat hkf).2 rfl, SV.rel_mono (n := n) (fun _ _ => rfl) hE hvl hv⟩⟩)
          (fun y hy => by
            rcases List.mem_append.1 hy with hy | hy
            · exact hlow y hy
            · obtain rfl := List.mem_singleton.1 hy
              exact ⟨hkl, hvl⟩)
        exact ⟨_, hrun, .c (.raw undef), _, n, β, I, hno h1, Cell.rel_val (β := β) (x := .raw undef) rfl, trivial, Nat.le_refl _, fun _ _ => rfl, hE, hH'⟩
    · exact h.elim
  · exact h.elim
end
end Go.Ab
