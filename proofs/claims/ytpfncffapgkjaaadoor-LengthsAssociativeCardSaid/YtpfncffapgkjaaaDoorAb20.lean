/- Arguments as a row reads them, as data of the walk; what the row asks behind the call. -/
import Derived.Test.YtpfncffapgkjaaaDoorAb14
import Derived.ProofKit
import Derived.OpenShut
import Derived.Deep.Slices
import Derived.Deep.DeepHandedRow
import Derived.Lib.LaidTab
namespace Go.Ab
set_option linter.unusedVariables false
open Go.RowKit Go.ChangeShapes Go.Deep
section
variable {H : Type} {enc : TypeId × Value → H} {P : Program} {W W' : World}

/-- Every block that is there when the call begins. -/
abbrev oldI (W : World) : Nat → Prop := fun b => b < W.heap.size

/-- Whatever reads at type t is one cell of data of which S holds. -/
def Fit (enc : TypeId × Value → H) (P : Program) (W : World) (t : TypeId) (S : Cell → Prop) : Prop :=
  ∀ fuel cs x, DataW.trod enc P W 0 (fun _ => true) true fuel t cs = some x → ∃ v c, cs = [v] ∧ CellD (oldI W) W c v ∧ S c
/-- .. is several cells, without places, of which S holds. -/
def FitA (enc : TypeId × Value → H) (P : Program) (W : World) (t : TypeId) (S : Cont → Prop) : Prop :=
  ∀ fuel cs x, DataW.trod enc P W 0 (fun _ => true) true fuel t cs = some x → ∃ c : Cont, cs = c.vals ∧ c.flat = true ∧ S c

theorem Fit.mono {t : TypeId} {S S' : Cell → Prop} (h : Fit enc P W t S) (hS : ∀ c, S c → S' c) : Fit enc P W t S' := fun fuel cs x hx =>
  let ⟨v, c, h1, h2, h3⟩ := h fuel cs x hx; ⟨v, c, h1, h2, hS c h3⟩

theorem inR_of_wf {k : IntKind} {n : Int} (h : (Lit.int k n).wf = true) : inR k n := by simpa [Lit.wf, inR] using h
theorem fit_int {t : TypeId} {k : IntKind} (ht : P.underlying t = some (.int k)) : Fit enc P W t fun c => ∃ n, c = .int k n ∧ inR k n := fun fuel cs x h => by
  obtain ⟨n, rfl, rfl, hw⟩ := DataW.trod_int ht h
  exact ⟨_, .int k n, rfl, .flat _ rfl, n, rfl, inR_of_wf hw⟩
theorem fit_bool {t : TypeId} (ht : P.underlying t = some .bool) : Fit enc P W t fun c => ∃ b, c = .bool b := fun fuel cs x h => by
  obtain ⟨b, rfl, rfl⟩ := DataW.trod_bool ht h
  exact ⟨_, .bool b, rfl, .flat _ rfl, b, rfl⟩
theorem fit_str {t : TypeId} (ht : P.underlying t = some .string) : Fit enc P W t fun c => ∃ s : List UInt8, c = .str s ∧ s.length ≤ 9223372036854775807 := fun fuel cs x h => by
  obtain ⟨s, rfl, rfl, hs⟩ := DataW.trod_string ht h
  exact ⟨_, .str s.data.toList, rfl, .flat _ rfl, _, rfl, by simpa [maxLen] using hs⟩
theorem u8_val {n : Int} (h : (Lit.int .u8 n).wf = true) : Value.int .u8 n = (Cell.u8 (UInt8.ofNat n.toNat)).val := by
  have : 0 ≤ n ∧ n ≤ 255 := by simpa [Lit.wf, IntKind.min, IntKind.max, IntKind.signed, IntKind.bits] using h
  simp [Cell.val]; omega
theorem u32_val {n : Int} (h : (Lit.int .u32 n).wf = true) : Value.int .u32 n = (Cell.u32 (UInt32.ofNat n.toNat)).val := by
  have : 0 ≤ n ∧ n ≤ 4294967295 := by simpa [Lit.wf, IntKind.min, IntKind.max, IntKind.signed, IntKind.bits] using h
  simp [Cell.val]; omega
theorem u64_val {n : Int} (h : (Lit.int .u64 n).wf = true) : Value.int .u64 n = (Cell.u64 (UInt64.ofNat n.toNat)).val := by
  have : 0 ≤ n ∧ n ≤ 18446744073709551615 := by simpa [Lit.wf, IntKind.min, IntKind.max, IntKind.signed, IntKind.bits] using h
  simp [Cell.val]; omega
theorem fit_u8 {t : TypeId} (ht : P.underlying t = some (.int .u8)) : Fit enc P W t fun c => ∃ b, c = .u8 b := fun fuel cs x h => by
  obtain ⟨n, rfl, rfl, hw⟩ := DataW.trod_int ht h
  rw [u8_val hw]
  exact ⟨_, _, rfl, CellD.flat (.u8 _) rfl, _, rfl⟩
theorem fit_u32 {t : TypeId} (ht : P.underlying t = some (.int .u32)) : Fit enc P W t fun c => ∃ b, c = .u32 b := fun fuel cs x h => by
  obtain ⟨n, rfl, rfl, hw⟩ := DataW.trod_int ht h
  rw [u32_val hw]
  exact ⟨_, _, rfl, CellD.flat (.u32 _) rfl, _, rfl⟩
theorem fit_u64 {t : TypeId} (ht : P.underlying t = some (.int .u64)) : Fit enc P W t fun c => ∃ b, c = .u64 b := fun fuel cs x h => by
  obtain ⟨n, rfl, rfl, hw⟩ := DataW.trod_int ht h
  rw [u64_val hw]
  exact ⟨_, _, rfl, CellD.flat (.u64 _) rfl, _, rfl⟩

theorem spot_none {a : Addr} {v : Value} (h : W.cell? a = some v) : a.spot = none ∧ a.block < W.heap.size := by
  unfold World.cell? at h
  split at h
  · rename_i hb
    split at h
    · cases h
    · rename_i hs
      exact ⟨by simpa using hs, (Array.getElem?_eq_some_iff.1 hb).1⟩
  · cases h

/-- A slice whose elements are one cell each. -/
theorem fit_slice {t e : TypeId} {S : Cell → Prop} (ht : P.underlying t = some (.slice e)) (hc : P.cellsOf e = 1) (he : Fit enc P W e S) :
    Fit enc P W t fun c => ∃ xs : List Cell, c = .ds xs.length (.cells xs) ∧ xs.length ≤ 9223372036854775807 ∧ ∀ x ∈ xs, S x := fun fuel cs x h => by
  rcases open_slice1 ht hc h with ⟨rfl, _⟩ | ⟨a, len, cap, m, n, V, D, Pl, rfl, hb, hl, hm, hmm, rfl, hx⟩
  · exact ⟨_, .ds 0 (.cells []), rfl, .ds0 _ _ _ rfl, [], rfl, Nat.zero_le _, by simp⟩
  · simp only [if_true] at hmm
    have hmm := hmm.symm
    subst hmm
    obtain ⟨f, hf⟩ := choose_lt (α := Cell) (n := len) (p := fun i c => CellD (oldI W) W c (V i) ∧ S c) (fun i hi => by
      obtain ⟨v, c, hv, h1, h2⟩ := he _ _ _ (hx i (by omega)).2
      cases hv
      exact ⟨c, h1, h2⟩)
    have hmax : len ≤ 9223372036854775807 := by have := hm; simp only [maxLen] at this; omega
    refine ⟨_, .ds ((List.range len).map f).length (.cells ((List.range len).map f)), rfl, ?_, _, rfl, by simpa using hmax, fun x hx => ?_⟩
    · by_cases h0 : len = 0
      · subst h0; exact .ds0 _ _ _ rfl
      · obtain ⟨hs, hbl⟩ := spot_none (hx 0 (by omega)).1
        obtain ⟨b, o, s⟩ := a
        have hs' : s = none := by simpa [Addr.add] using hs
        subst hs'
        rw [show ((List.range len).map f).length = len by simp]
        refine .ds len _ b o cap V hl hbl (by show 0 < ((List.range len).map f).length; simp; omega) (fun j hj => ?_) (fun j hj => ?_)
        · have hj' : j < len := by simpa [Cont.len] using hj
          have e : (⟨b, o, none⟩ : Addr).add j = ⟨b, o + j, none⟩ := by
            unfold Addr.add
            split
            · rename_i h; rw [h]; rfl
            · rfl
          rw [← e]; exact (hx j (by omega)).1
        · have hj' : j < len := by simpa [Cont.len] using hj
          have e : (Cont.cells ((List.range len).map f)).get j = f j := by simp [Cont.get, List.getD_eq_getElem?_getD, hj']
          rw [e]; exact (hf j hj').1
    · obtain ⟨i, hi, rfl⟩ := List.mem_map.1 hx
      exact (hf i (List.mem_range.1 hi)).2

theorem CellD.recont {I : Nat → Prop} {n : Nat} {c c' : Cont} {v : Value} (h : CellD I W (.ds n c) v) (hl : c'.len = c.len) (hg : ∀ j, j < c.len → c'.get j = c.get j) : CellD I W (.ds n c') v := by
  cases h with
  | flat _ h => cases h
  | ds0 _ a cap h => exact .ds0 _ _ _ (hl.trans h)
  | ds _ _ b off cap f h1 h2 h3 h4 h5 => exact .ds n c' b off cap f h1 h2 (hl ▸ h3) (fun j hj => h4 j (hl ▸ hj)) (fun j hj => by rw [hg j (hl ▸ hj)]; exact h5 j (hl ▸ hj))

/-- A slice of elements of one kind, its content typed. -/
theorem fit_typed {t e : TypeId} {α : Type} {S : Cell → Prop} {g : α → Cell} {K : List α → Cont} (ht : P.underlying t = some (.slice e)) (hc : P.cellsOf e = 1) (he : Fit enc P W e S) (hS : ∀ c, S c → ∃ a, c = g a)
    (hK : ∀ l, (K l).len = l.length ∧ ∀ j (h : j < l.length), (K l).get j = g l[j]) : Fit enc P W t fun c => ∃ l : List α, c = .ds l.length (K l) ∧ l.length ≤ 9223372036854775807 := fun fuel cs x h => by
  obtain ⟨v, c, rfl, hd, xs, rfl, hl, hx⟩ := fit_slice ht hc he fuel cs x h
  have key : ∀ xs : List Cell, (∀ x ∈ xs, S x) → ∃ l : List α, xs = l.map g := by
    intro xs
    induction xs with
    | nil => exact fun _ => ⟨[], rfl⟩
    | cons x xs ih =>
      intro hx
      obtain ⟨a, rfl⟩ := hS x (hx x (by simp))
      obtain ⟨l, rfl⟩ := ih fun y hy => hx y (by simp [hy])
      exact ⟨a :: l, rfl⟩
  obtain ⟨l, rfl⟩ := key xs hx
  refine ⟨v, .ds l.length (K l), rfl, ?_, l, rfl, by simpa using hl⟩
  rw [List.length_map] at hd
  refine hd.recont (by rw [(hK l).1]; exact (List.length_map ..).symm) (fun j hj => ?_)
  have hj' : j < l.length := by simpa [Cont.len] using hj
  rw [(hK l).2 j hj']
  simp [Cont.get, List.getD_eq_getElem?_getD, hj']

theorem fit_bytes {t e : TypeId} (ht : P.underlying t = some (.slice e)) (hc : P.cellsOf e = 1) (he : P.underlying e = some (.int .u8)) : Fit enc P W t fun c => ∃ l : List UInt8, c = .ds l.length (.u8s l) ∧ l.length ≤ 9223372036854775807 :=
  fit_typed ht hc (fit_u8 he) (fun _ h => h) (fun l => ⟨rfl, fun j h => by simp [Cont.get, List.getD_eq_getElem?_getD, h]⟩)
theorem fit_bools {t e : TypeId} (ht : P.underlying t = some (.slice e)) (hc : P.cellsOf e = 1) (he : P.underlying e = some .bool) : Fit enc P W t fun c => ∃ l : List Bool, c = .ds l.length (.bools l) ∧ l.length ≤ 9223372036854775807 :=
  fit_typed ht hc (fit_bool he) (fun _ h => h) (fun l => ⟨rfl, fun j h => by simp [Cont.get, List.getD_eq_getElem?_getD, h]⟩)
/-- A slice of byte slices. -/
theorem fit_lists {t e q : TypeId} (ht : P.underlying t = some (.slice e)) (hc : P.cellsOf e = 1) (he : P.underlying e = some (.slice q)) (hcq : P.cellsOf q = 1) (hq : P.underlying q = some (.int .u8)) :
    Fit enc P W t fun c => ∃ ps : List (List UInt8), c = .ds ps.length (.cells (ps.map fun p => .ds p.length (.u8s p))) ∧ ps.length ≤ 9223372036854775807 ∧ ∀ p ∈ ps, p.length ≤ 9223372036854775807 := fun fuel cs x h => by
  obtain ⟨v, c, rfl, hd, xs, rfl, hl, hx⟩ := fit_slice ht hc (fit_bytes he hcq hq) fuel cs x h
  have key : ∀ xs : List Cell, (∀ x ∈ xs, ∃ l : List UInt8, x = .ds l.length (.u8s l) ∧ l.length ≤ 9223372036854775807) → ∃ ps : List (List UInt8), xs = ps.map (fun p => .ds p.length (.u8s p)) ∧ ∀ p ∈ ps, p.length ≤ 9223372036854775807 := by
    intro xs
    induction xs with
    | nil => exact fun _ => ⟨[], rfl, by simp⟩
    | cons x xs ih =>
      intro hx
      obtain ⟨a, rfl, ha⟩ := hx x (by simp)
      obtain ⟨l, rfl, hl⟩ := ih fun y hy => hx y (by simp [hy])
      exact ⟨a :: l, rfl, by simpa using ⟨ha, hl⟩⟩
  obtain ⟨ps, rfl, hp⟩ := key xs hx
  rw [List.length_map] at hd hl
  exact ⟨v, _, rfl, hd, ps, rfl, hl, hp⟩

/-- An array of bytes. -/
theorem fitA_bytes {t e : TypeId} {n : Nat} (ht : P.underlying t = some (.array n e)) (hc : P.cellsOf e = 1) (hct : P.cellsOf t = n) (he : P.underlying e = some (.int .u8)) : FitA enc P W t fun c => ∃ l : List UInt8, c = .u8s l ∧ l.length = n := fun fuel cs x h => by
  obtain ⟨xs, m, -, -, hl, hxl, hx⟩ := DataW.trod_array ht h
  obtain ⟨z, hz⟩ := choose_lt (α := UInt8) (n := n) (p := fun i b => cs[i]? = some (Cell.u8 b).val) (fun i hi => by
    have h1 := hx i hi
    rw [hc, Nat.mul_one, List.getElem?_eq_getElem (by omega)] at h1
    obtain ⟨k, hk, -, hw⟩ := DataW.trod_int he h1
    have h2 := congrArg (·[0]?) hk
    simp only [List.getElem?_take, Nat.zero_lt_one, if_true, List.getElem?_drop, Nat.add_zero, List.getElem?_cons_zero] at h2
    exact ⟨_, h2.trans (congrArg some (u8_val hw))⟩)
  refine ⟨.u8s ((List.range n).map z), ?_, rfl, _, rfl, by simp⟩
  apply List.ext_getElem?
  intro i
  by_cases hi : i < n
  · rw [hz i hi]; simp [Cont.vals, Cont.list, hi]
  · rw [List.getElem?_eq_none (by omega), List.getElem?_eq_none (by simp [Cont.vals, Cont.list]; omega)]

/-! ### the arguments -/
theorem argsD_nil {I : Nat → Prop} : ArgsD I W [] [] := ⟨rfl, fun j v h => by simp at h⟩
theorem argsD_cons {I : Nat → Prop} {s : SV} {v : Value} {vs : List SV} {xs : List Value} (hr : s.rel noVal I W v) (hl : s.low 0) (h : ArgsD I W vs xs) : ArgsD I W (s :: vs) (v :: xs) := by
  refine ⟨by simp [h.1], fun j u hu => ?_⟩
  cases j with
  | zero => cases hu; exact ⟨v, rfl, hr, hl⟩
  | succ j => exact h.2 j u hu
theorem argsD_cell {I : Nat → Prop} {c : Cell} {v : Value} {vs : List SV} {xs : List Value} (hr : CellD I W c v) (h : ArgsD I W vs xs) : ArgsD I W (.c c :: vs) (v :: xs) := argsD_cons (Cell.rel_of hr) (CellD.low hr) h
theorem argsD_agg {I : Nat → Prop} {c : Cont} {vs : List SV} {xs : List Value} (hf : c.flat = true) (h : ArgsD I W vs xs) : ArgsD I W (.agg c :: vs) (.agg c.vals.toArray :: xs) :=
  argsD_cons ((SV.rel_flat (x := .agg c) hf).2 rfl) (SV.flat_low hf) h

/-- A slice argument. -/
theorem arg_slice {r : Reach} {base : Nat} {t e : TypeId} {v : Value} {d : DataW H} {p : List MemPlace} {S : Cell → Prop} (ht : P.underlying t = some (.slice e)) (hf : Fit enc P W t S) (hval : Value.okWide P W r base t v) (h : DataW.Trod enc P W 0 (fun _ => true) true t v d p) :
    ∃ c, CellD (oldI W) W c v ∧ S c := by
  obtain ⟨a, len, cap, rfl⟩ := Go.WideShapes.okWide_slice ht hval
  obtain ⟨fuel, h⟩ := h
  obtain ⟨v', c, hv, h1, h2⟩ := hf fuel _ _ h
  cases hv
  exact ⟨c, h1, h2⟩
theorem arg_array {r : Reach} {base n : Nat} {t e : TypeId} {v : Value} {d : DataW H} {p : List MemPlace} {S : Cont → Prop} (ht : P.underlying t = some (.array n e)) (hf : FitA enc P W t S) (hval : Value.okWide P W r base t v) (h : DataW.Trod enc P W 0 (fun _ => true) true t v d p) :
    ∃ c : Cont, v = .agg c.vals.toArray ∧ c.flat = true ∧ S c := by
  unfold Value.okWide at hval
  rw [ht] at hval
  obtain ⟨cs, rfl, -⟩ := hval
  obtain ⟨fuel, h⟩ := h
  obtain ⟨c, hv, h1, h2⟩ := hf fuel _ _ h
  refine ⟨c, ?_, h1, h2⟩
  have : cs.toList = c.vals := hv
  rw [← this]
theorem arg_int {r : Reach} {base : Nat} {t : TypeId} {k : IntKind} {v : Value} {d : DataW H} {p : List MemPlace} {S : Cell → Prop} (ht : P.underlying t = some (.int k)) (hf : Fit enc P W t S) (hval : Value.okWide P W r base t v) (h : DataW.Trod enc P W 0 (fun _ => true) true t v d p) :
    ∃ c, CellD (oldI W) W c v ∧ S c := by
  obtain ⟨n, rfl, -⟩ := open_int ht hval h
  obtain ⟨fuel, h⟩ := h
  obtain ⟨v', c, hv, h1, h2⟩ := hf fuel _ _ h
  cases hv
  exact ⟨c, h1, h2⟩
theorem arg_bool {r : Reach} {base : Nat} {t : TypeId} {v : Value} {d : DataW H} {p : List MemPlace} {S : Cell → Prop} (ht : P.underlying t = some .bool) (hf : Fit enc P W t S) (hval : Value.okWide P W r base t v) (h : DataW.Trod enc P W 0 (fun _ => true) true t v d p) :
    ∃ c, CellD (oldI W) W c v ∧ S c := by
  obtain ⟨n, rfl, -⟩ := open_bool ht hval h
  obtain ⟨fuel, h⟩ := h
  obtain ⟨v', c, hv, h1, h2⟩ := hf fuel _ _ h
  cases hv
  exact ⟨c, h1, h2⟩

/-! ### what the row asks behind the call -/
theorem trodAll_below (hl : laidOutB P = true) (hb : Below W.heap.size W W') : ∀ {ts : List TypeId} {vs : List Value} {ds : List (DataW H)} {ps : List MemPlace}, (∀ t ∈ ts, P.readableRec t = true ∧ t < P.types.size) → DataW.TrodAll enc P W 0 (fun _ => true) true ts vs ds ps →
    (∀ x ∈ ps, x.block < W.heap.size) → DataW.TrodAll enc P W' 0 (fun b => decide (b < W.heap.size)) true ts vs ds ps
  | [], [], [], ps, _, h, _ => h
  | t :: ts, v :: vs, d :: ds, ps, ht, ⟨p, q, h1, h2, e⟩, hlt => by
    subst e
    exact ⟨p, q, Below.trod hl (ht t (by simp)).1 (ht t (by simp)).2 h1 hb fun x hx => hlt x (by simp [hx]), trodAll_below hl hb (fun u hu => ht u (by simp [hu])) h2 fun x hx => hlt x (by simp [hx]), rfl⟩
  | [], _ :: _, _, _, _, h, _ => by cases h
  | [], [], _ :: _, _, _, h, _ => by cases h
  | _ :: _, [], _, _, _, h, _ => by cases h
  | _ :: _, _ :: _, [], _, _, h, _ => by cases h

/-- A law: true comes back; each argument reads as it read. -/
theorem row_post {f : Func} {s : ChangeSpec} {args : Array Value} {ds gs : List (DataW H)} {before : List MemPlace} {tb : TypeId} (hl : laidOutB P = true) (hts : ∀ t ∈ f.params.toList, P.readableRec t = true ∧ t < P.types.size) (hr : f.resultTypes = #[tb]) (htb : P.underlying tb = some .bool)
    (hW : DataW.Whole enc P f.params.toList s.vars false W args.toList ds gs before) (hv : s.vars = []) (hs : (s.fn H (ds ++ gs)).results = [.lit (.bool true)] ∧ (s.fn H (ds ++ gs)).args = ds ∧ (s.fn H (ds ++ gs)).vars = []) (hb : Same W W') :
    s.post enc P f false true false false W args (.bool true) W' := by
  have hW' := hW
  obtain ⟨p, q, hA, hV, rfl, hfz, hnd⟩ := hW
  rw [hv] at hV
  obtain ⟨rfl, rfl⟩ := trodVars_none hV
  refine ⟨_, _, _, [], p, [], hW', ?_, ?_, ?_, hb.frame _, fun h => by cases h⟩
  · rw [hs.1, hr]
    exact trodAll_cons_mk (shut_bool htb true) trodAll_mk0
  · rw [hs.2.1]
    exact trodAll_below hl hb hts hA fun x hx => hW'.lt x (by simp [hx])
  · rw [hs.2.2, hv]
    rfl
end
end Go.Ab
