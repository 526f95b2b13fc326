/- pureS is sound. -/
import Derived.Test.YtpfncffapgkjaaaDoorAb4
import Derived.MapKept
namespace Go.Ab
set_option linter.unusedVariables false
open Go.RowKit
section
variable {P : Program} {C : CC} {β : Val} {n : Nat} {H : Heap} {I : Nat → Prop} {w : World} {ty : Nat → Ty} {glob : Nat → Option Cont} {E : Env} {a : Act}

theorem CellsAt.sub {c : Cont} {b k : Nat} (h : CellsAt β I w c b k) {i m : Nat} (hm : i + m ≤ c.len) : CellsAt β I w (c.sub i m) b (k + i) := fun j hj => by
  rw [Cont.sub_len] at hj
  rw [Cont.sub_get _ (by omega), Nat.add_assoc]
  exact h _ (by omega)

/-- Where the cells of a slice lie. -/
theorem srcS_at (hH : HeapOK C β n H I w) {s : Nat} {x : SV} {v : Value} (hx : x.rel β I w v) {K : Nat → Cont → Prop} (hns : ∀ t, x ≠ .c (.str t)) (h : srcS H s x K) :
    ∃ m c, K m c ∧ c.len = m * s ∧ c.low n ∧ ∃ ad cap, v = .slice ad m cap ∧ (c.len = 0 ∨ ∃ b k, ad = some ⟨b, k, none⟩ ∧ CellsAt β I w c b k) := by
  unfold srcS at h
  split at h
  · have hv : v = .slice none 0 0 := CellD.of_flat rfl hx
    exact ⟨0, _, h, by simp [Cont.len], (fun x hx => by cases hx), none, 0, hv, .inl rfl⟩
  · rename_i m c
    obtain ⟨hc, hK⟩ := h
    obtain ⟨ad, cap, hv, _, hd⟩ := CellD.ds_inv (show CellD I w (.ds m c) v from hx)
    rcases hd with ⟨h0, rfl⟩ | ⟨b, off, ha, hd⟩
    · refine ⟨0, c, hK, hc, ?_, ad, cap, hv, .inl h0⟩
      cases c with
      | cells l => intro y hy; simp only [Cont.len] at h0; rw [List.eq_nil_of_length_eq_zero h0] at hy; cases hy
      | _ => trivial
    · exact ⟨m, c, hK, hc, hd.low, ad, cap, hv, .inr ⟨b, off, ha, hd.cellsAt hH⟩⟩
  · rename_i id off m cap
    split at h
    · rename_i t c capc hid
      obtain ⟨hle, hK⟩ := h
      obtain ⟨hlc, off', hv, hoff⟩ := hx
      have key : ∃ c1 : Cont, K m c1 ∧ c1.len = m * s ∧ c1.low n ∧ (c1.len = 0 ∨ ∃ b, β id = some b ∧ off' = off ∧ CellsAt β I w c1 b off) := by
        have hb : 0 < m * s → ∃ b, β id = some b ∧ off' = off ∧ CellsAt β I w c b 0 := fun hpos => by
          obtain ⟨b, hb, hc⟩ := hH.cellsAt hid (off := off) (by omega)
          refine ⟨b, hb, ?_, hc⟩
          rcases hoff with h | h
          · exact h
          · have : m = 0 := by omega
            subst this; simp at hpos
        unfold wholeS at hK
        split at hK
        · rename_i hz
          refine ⟨c, hK, hz.2, (hH.low id _ hid).2, ?_⟩
          by_cases hpos : 0 < m * s
          · obtain ⟨b, h1, h2, h3⟩ := hb hpos
            exact .inr ⟨b, h1, h2, by rw [hz.1]; exact h3⟩
          · exact .inl (by omega)
        · refine ⟨_, hK, by rw [Cont.sub_len]; omega, Cont.sub_low (hH.low id _ hid).2 _ _, ?_⟩
          by_cases hpos : 0 < m * s
          · obtain ⟨b, h1, h2, h3⟩ := hb hpos
            exact .inr ⟨b, h1, h2, by have := h3.sub hle; rwa [Nat.zero_add] at this⟩
          · exact .inl (by rw [Cont.sub_len]; omega)
      obtain ⟨c1, hK1, hl1, hlow, h1⟩ := key
      refine ⟨m, c1, hK1, hl1, hlow, _, cap, hv, ?_⟩
      rcases h1 with h1 | ⟨b, hb, rfl, hc⟩
      · exact .inl h1
      · exact .inr ⟨b, off', by simp [place, hb], hc⟩
    · exact h.elim
  · rename_i t
    exact absurd rfl (hns t)
  · exact h.elim

/-- What is appended, copied: its length and its cells. -/
structure Src (P : Program) (size m : Nat) (news : List Value) (x : Value) (w : World) : Prop where
  len : (Builtin.lenOf x).run P w = .ok m w
  first : (Builtin.firstCells size m x).run P w = .ok news.toArray w
  size : news.length = m * size

theorem srcS_spec (hH : HeapOK C β n H I w) {s : Nat} {x : SV} {v : Value} (hx : x.rel β I w v) {K : Nat → Cont → Prop} (h : srcS H s x K) :
    ∃ m c, K m c ∧ c.len = m * s ∧ c.low n ∧ ∃ news, c.rel β I w news ∧ ∀ w', Same w w' → Src P s m news v w' := by
  by_cases hs : ∃ t, x = .c (.str t)
  · obtain ⟨t, rfl⟩ := hs
    obtain ⟨rfl, hK⟩ := h
    have hv : v = (Cell.str t).val := CellD.of_flat rfl hx
    refine ⟨t.length, _, hK, by simp [Cont.len], trivial, (Cont.u8s t).vals, (Cont.rel_flat rfl).2 rfl, fun w' _ => ⟨?_, ?_, by simp [Cont.vals_length, Cont.len]⟩⟩
    · simp [hv, Cell.val, Builtin.lenOf, ByteArray.size]
    · simp only [hv, Cell.val, Builtin.firstCells, Sem.run_pure]
      congr 1
      have : (⟨t.toArray⟩ : ByteArray).extract 0 t.length = ⟨t.toArray⟩ := by
        have h0 := @ByteArray.extract_zero_size ⟨t.toArray⟩
        have h1 : (⟨t.toArray⟩ : ByteArray).size = t.length := by simp [ByteArray.size]
        rwa [h1] at h0
      rw [this]
      apply Array.ext'
      simp [Cont.vals, Cont.list, Cell.val]
  · obtain ⟨m, c, hK, hc, hl, ad, cap, hv, hd⟩ := srcS_at hH hx (fun t e => hs ⟨t, e⟩) h
    subst hv
    rcases hd with h0 | ⟨b, k, rfl, hd⟩
    · refine ⟨m, c, hK, hc, hl, [], ⟨by simp [h0], fun j hj => by omega⟩, fun w' _ => ⟨rfl, ?_, by simp; omega⟩⟩
      have e : m * s = 0 := by omega
      simp only [Builtin.firstCells, e]
      cases ad <;> rfl
    · obtain ⟨vs, hr, hvl, hrun⟩ := loadCells_sound (P := P) hd (off := 0) c.len (by omega)
      rw [Cont.sub_all] at hr
      refine ⟨m, c, hK, hc, hl, vs, hr, fun w' hw => ⟨rfl, ?_, by omega⟩⟩
      have := hrun w' hw
      simp only [Nat.add_zero, hc] at this
      simp only [Builtin.firstCells]
      exact this

theorem convStrS_sound (hT : TyOK P ty) (hH : HeapOK C β n H I w) {src dst e s b : Nat} (hs : ty src = .slice e s b) (hd : ty dst = .str) {x : SV} {v : Value} (hx : x.rel β I w v) {K : SV → Prop} (h : convStrS ty H e x K) :
    ∃ t, K (.c (.str t)) ∧ ∀ w', Same w w' → (convert src dst v).run P w' = .ok (Cell.str t).val w' := by
  unfold convStrS at h
  split at h
  · rename_i he
    obtain ⟨hns, h⟩ := h
    obtain ⟨m, c, hK, hc, hl, ad, cap, hv, hcells⟩ := srcS_at hH hx (fun t e => by subst e; exact hns) h
    have hus := (hT.slice _ _ _ _ hs).1
    have hue := hT.int _ _ he
    have hud := hT.str _ hd
    have key : ∀ l : List UInt8, c = .u8s l → ∀ w', Same w w' → (convert src dst v).run P w' = .ok (Cell.str l).val w' := by
      rintro l rfl w' hw
      have hm : m = l.length := by simp only [Cont.len] at hc; omega
      rcases hcells with h0 | ⟨b', k, rfl, hcells⟩
      · have : l = [] := List.eq_nil_of_length_eq_zero h0
        subst this
        simp only [List.length_nil] at hm
        subst hm
        rw [hv]
        rw [run_convert_bytes_string w' src dst e ad 0 cap hus hue hud]
        cases ad <;> simp [Conv.bytesToString, Cell.val] <;> rfl
      · have hlen : (l.map (fun x => (x.toNat : Int))).length = m := by simp [hm]
        have hr := run_convert_bytes_arg (P := P) (w := w') src e hus hue b' k m cap _ hlen (fun i hi => by
          obtain ⟨u, hu, hr⟩ := hcells i (by simp only [Cont.len]; omega)
          rw [hu w' hw, (Cell.rel_flat rfl).1 hr]
          simp only [Cont.get, Cell.val, List.getD_eq_getElem?_getD, List.getElem?_map]
          rw [List.getElem?_eq_getElem (by omega)]
          simp) dst hud
        rw [hv, hr]
        simp only [Cell.val]
        congr 2
        apply ByteArray.ext
        apply Array.toList_inj.1
        rw [strOfNums_data, List.map_map]
        conv => rhs; rw [← List.map_id l]
        simp [Function.comp_def]
    split at hK
    · rename_i l
      exact ⟨l, hK, key l rfl⟩
    · refine ⟨[], hK, fun w' hw => ?_⟩
      have hm : m = 0 := by simp only [Cont.len, List.length_nil] at hc; omega
      subst hm
      rw [hv, run_convert_bytes_string w' src dst e ad 0 cap hus hue hud]
      cases ad <;> simp [Conv.bytesToString, Cell.val] <;> rfl
    · exact hK.elim
  · exact h.elim

theorem ev_sound {D : List Deferred} (hE : EnvOK D β n I w E a) (hG : GlobOK glob I w) {x : Operand} {v : SV} (h : E.ev glob x = some v) : v.rel β I w (a.eval x) ∧ v.low n := by
  cases x with
  | tmp t =>
    obtain ⟨u, hu, hr⟩ := hE.slot t v h
    exact ⟨by simp only [Act.eval, Array.getD_eq_getD_getElem?, hu, Option.getD_some]; exact hr, hE.low t v h⟩
  | const c =>
    simp only [Env.ev, Option.some.injEq] at h
    subst h
    exact ⟨(SV.rel_flat (SV.ofValue_flat c)).2 (SV.ofValue_val c).symm, SV.flat_low (SV.ofValue_flat c)⟩
  | global g =>
    simp only [Env.ev] at h
    split at h
    · rename_i c hg
      cases h
      exact ⟨Cell.rel_of (β := β) (hG g c hg), trivial⟩
    · cases h
      exact ⟨Cell.rel_val (β := β) (x := .raw _) rfl, trivial⟩
  | func f =>
    cases h
    exact ⟨⟨fun _ => undef, by simp [Act.eval], fun j hj => by simp at hj⟩, fun x hx => by cases hx⟩

theorem onV_sound {D : List Deferred} (hE : EnvOK D β n I w E a) (hG : GlobOK glob I w) {x : Operand} {K : SV → Prop} (h : onV (E.ev glob x) K) : ∃ v, v.rel β I w (a.eval x) ∧ v.low n ∧ K v := by
  unfold onV at h
  split at h
  · rename_i v hv
    obtain ⟨h1, h2⟩ := ev_sound hE hG hv
    exact ⟨v, h1, h2, h⟩
  · exact h.elim

theorem amount_sound {y : SV} {v : Value} (hv : y.rel β I w v) {K : Int → Prop} (h : amount y K) : ∃ k i, v = .int k i ∧ K i := by
  have e := (SV.rel_flat (amount_flat h)).1 hv
  unfold amount at h
  split at h
  · exact ⟨_, _, e, h⟩
  · exact ⟨_, _, e, h⟩
  · exact ⟨_, _, e, h⟩
  · exact ⟨_, _, e, h⟩
  · exact h.elim

theorem onI_sound {D : List Deferred} (hE : EnvOK D β n I w E a) (hG : GlobOK glob I w) {x : Operand} {K : Int → Prop} (h : onI (E.ev glob x) K) : ∃ k i, a.eval x = .int k i ∧ K i := by
  unfold onI at h
  split at h
  · rename_i v hv; exact amount_sound (ev_sound hE hG hv).1 h
  · exact h.elim

theorem run_not_u8 (x : UInt8) (w : World) : (Op.unary .xor (.int .u8 x.toNat)).run P w = .ok (.int .u8 (~~~x).toNat) w := by
  have hx := (~~~x).toNat_lt
  have e1 : BitVec.ofInt 8 ((2 : Int) ^ 8 - 1) = BitVec.allOnes 8 := by decide
  have e2 : BitVec.ofInt 8 (x.toNat : Int) = x.toBitVec := by
    apply BitVec.eq_of_toNat_eq
    simp
  have e3 : (BitVec.ofInt 8 ((2 : Int) ^ 8 - 1) ^^^ BitVec.ofInt 8 (x.toNat : Int)).toNat = (~~~x).toNat := by
    rw [e1, e2, BitVec.allOnes_xor]; rfl
  show Result.ok (Value.int .u8 (IntKind.u8.wrap ((BitVec.ofInt 8 ((2 : Int) ^ 8 - 1) ^^^ BitVec.ofInt 8 (x.toNat : Int)).toNat : Nat))) w = _
  rw [e3, IntKind.wrap_u8]
  congr 2
  omega
theorem run_not_u32 (x : UInt32) (w : World) : (Op.unary .xor (.int .u32 x.toNat)).run P w = .ok (.int .u32 (~~~x).toNat) w := by
  have hx := (~~~x).toNat_lt
  have e1 : BitVec.ofInt 32 ((2 : Int) ^ 32 - 1) = BitVec.allOnes 32 := by decide
  have e2 : BitVec.ofInt 32 (x.toNat : Int) = x.toBitVec := by
    apply BitVec.eq_of_toNat_eq
    simp
  have e3 : (BitVec.ofInt 32 ((2 : Int) ^ 32 - 1) ^^^ BitVec.ofInt 32 (x.toNat : Int)).toNat = (~~~x).toNat := by
    rw [e1, e2, BitVec.allOnes_xor]; rfl
  show Result.ok (Value.int .u32 (IntKind.u32.wrap ((BitVec.ofInt 32 ((2 : Int) ^ 32 - 1) ^^^ BitVec.ofInt 32 (x.toNat : Int)).toNat : Nat))) w = _
  rw [e3, IntKind.wrap_u32]
  congr 2
  omega
/-! ### maps -/
open MapKept in
theorem keyS_isKey (hT : TyOK P ty) {kt : Nat} {k : SV} (h : keyS ty kt k) : ∃ d, P.underlying kt = some d ∧ IsKey d k.val ∧ k.flat = true := by
  unfold keyS at h
  split at h
  · exact ⟨_, hT.int _ _ h.1, rfl, rfl⟩
  · exact ⟨_, hT.int _ _ h, rfl, rfl⟩
  · exact ⟨_, hT.int _ _ h, rfl, rfl⟩
  · exact ⟨_, hT.int _ _ h, rfl, rfl⟩
  · exact ⟨_, hT.str _ h, trivial, rfl⟩
  · exact ⟨_, hT.bool _ h, trivial, rfl⟩
  · exact h.elim
theorem keyS_inj {kt : Nat} {a b : SV} (ha : keyS ty kt a) (hb : keyS ty kt b) (h : a.val = b.val) : a = b := by
  unfold keyS at ha hb
  split at ha <;> split at hb <;> first | exact ha.elim | exact hb.elim | skip
  all_goals simp only [SV.val, Cell.val, Value.int.injEq, Value.string.injEq, Value.bool.injEq, reduceCtorEq, true_and, false_and] at h
  all_goals first
    | (obtain ⟨rfl, rfl⟩ := h; rfl)
    | (obtain ⟨rfl, _⟩ := h; simp at ha hb; done)
    | (rw [UInt8.toNat_inj.1 (Int.ofNat_inj.1 h)]; done)
    | (rw [UInt32.toNat_inj.1 (Int.ofNat_inj.1 h)]; done)
    | (rw [UInt64.toNat_inj.1 (Int.ofNat_inj.1 h)]; done)
    | (subst h; rfl)
    | (simp at h; subst h; rfl)
    | skip
/-- What is found under a key. -/
theorem find_spec (hT : TyOK P ty) {kt : Nat} {k : SV} (hk : keyS ty kt k) {l : List (SV × SV)} (hl : ∀ p ∈ l, keyS ty kt p.1) {es : Array MapEntry} (hs : es.size = l.length)
    (he : ∀ (j : Nat) x, l[j]? = some x → ∃ e : MapEntry, es[j]? = some e ∧ x.1.rel β I w e.key ∧ x.2.rel β I w e.val) :
    (∃ (j : Nat) (v : SV) (e : MapEntry), l[j]? = some (k, v) ∧ es[j]? = some e ∧ v.rel β I w e.val ∧ e.key = k.val ∧ ∀ w', (Instr.findKey kt k.val es.toList).run P w' = .ok (some (j, e.val)) w') ∨
    ((∀ p ∈ l, p.1 ≠ k) ∧ ∀ w', (Instr.findKey kt k.val es.toList).run P w' = .ok none w') := by
  obtain ⟨d, hd, hik, _⟩ := keyS_isKey hT hk
  have key : ∀ (j : Nat) e, es[j]? = some e → ∃ x, l[j]? = some x ∧ x.1.val = e.key ∧ x.2.rel β I w e.val := fun j e hj => by
    have hjl : j < l.length := by rw [← hs]; exact (Array.getElem?_eq_some_iff.1 hj).1
    obtain ⟨e', he', h1, h2⟩ := he j l[j] (List.getElem?_eq_getElem hjl)
    rw [hj] at he'; cases he'
    obtain ⟨_, _, _, hf⟩ := keyS_isKey hT (hl _ (List.getElem_mem hjl))
    exact ⟨_, List.getElem?_eq_getElem hjl, ((SV.rel_flat hf).1 h1).symm, h2⟩
  have hall : ∀ e ∈ es.toList, MapKept.IsKey d e.key := fun e hm => by
    obtain ⟨j, hj, rfl⟩ := List.mem_iff_getElem.1 hm
    obtain ⟨x, hx, h1, _⟩ := key j es.toList[j] (by rw [← Array.getElem?_toList]; exact List.getElem?_eq_getElem hj)
    obtain ⟨d', hd', hi, _⟩ := keyS_isKey hT (hl x (List.mem_of_getElem? hx))
    rw [hd] at hd'; cases hd'
    rw [← h1]; exact hi
  rcases MapKept.findNow_spec hik es.toList 0 hall with ⟨h1, h2⟩ | ⟨j, e, h1, h2, h3⟩
  · refine .inr ⟨fun p hp e => ?_, fun w' => MapKept.run_findKey hd h1⟩
    obtain ⟨j, hj, rfl⟩ := List.mem_iff_getElem.1 hp
    obtain ⟨e', he', h4, _⟩ := he j _ (List.getElem?_eq_getElem hj)
    obtain ⟨_, _, _, hf⟩ := keyS_isKey hT (hl _ (List.getElem_mem hj))
    refine h2 e' (by simpa using List.mem_of_getElem? (l := es.toList) (i := j) (by simpa using he')) ?_
    rw [(SV.rel_flat hf).1 h4, e]
  · rw [Nat.zero_add] at h1
    obtain ⟨⟨k', v⟩, hx, h4, h5⟩ := key j e (by simpa using h2)
    obtain rfl : k' = k := keyS_inj (hl _ (List.mem_of_getElem? hx)) hk (h4.trans h3)
    exact .inl ⟨j, v, e, hx, by simpa using h2, h5, h3, fun w' => MapKept.run_findKey hd h1⟩
theorem Cont.flat_get {c : Cont} (h : c.flat = true) (i : Nat) : (c.get i).flat = true := by
  cases c with
  | cells l =>
    by_cases hi : i < l.length
    · exact allFlat_mem h _ (getD_mem hi)
    · show (l.getD i .nils).flat = true
      rw [List.getD_eq_getElem?_getD, List.getElem?_eq_none (by omega)]; rfl
  | _ => rfl
theorem gotS_rel {v : SV} {x : Value} {b ok : Bool} {K : SV → Prop} (h : gotS v b ok K) (hl : v.low n) (hr : v.rel β I w x) : ∃ u, K u ∧ u.low n ∧ u.rel β I w (if ok then .tuple #[x, .bool b] else x) := by
  unfold gotS at h
  split at h
  · exact ⟨v, h, hl, by simpa using hr⟩
  · split at h
    · rename_i y
      refine ⟨_, h, fun p hp => ?_, [x, .bool b], by simp, rfl, fun j p hp => ?_⟩
      · simp only [List.mem_cons, List.not_mem_nil, or_false] at hp
        rcases hp with rfl | rfl
        · exact hl
        · exact trivial
      · match j with
        | 0 => simp at hp; subst hp; exact ⟨x, rfl, hr⟩
        | 1 => simp at hp; subst hp; exact ⟨_, rfl, Cell.rel_val (β := β) (x := .bool b) rfl⟩
        | j + 2 => simp at hp
    · rename_i y
      refine ⟨_, h, fun p hp => ?_, [x, .bool b], by simp, rfl, fun j p hp => ?_⟩
      · simp only [List.mem_cons, List.not_mem_nil, or_false] at hp
        rcases hp with rfl | rfl
        · exact hl
        · exact trivial
      · match j with
        | 0 => simp at hp; subst hp; exact ⟨x, rfl, hr⟩
        | 1 => simp at hp; subst hp; exact ⟨_, rfl, Cell.rel_val (β := β) (x := .bool b) rfl⟩
        | j + 2 => simp at hp
    · exact h.elim
theorem zeroS_rel (hT : TyOK P ty) {t : Nat} {K : SV → Prop} (h : zeroS (ty t) K) : ∃ v x, K v ∧ v.low n ∧ v.rel β I w x ∧ ∀ w', (zeroValue t).run P w' = .ok x w' := by
  unfold zeroS at h
  split at h
  · rename_i z hz
    have h1 := hT.zeroV t z hz
    obtain ⟨_, _, _, hf⟩ := hT.zero t z hz
    obtain ⟨i, hi, hz0⟩ := Option.bind_eq_some_iff.1 h1
    have hrun : ∀ w', (zeroValue t).run P w' = .ok (if (ty t).one then (z.get 0).val else .agg z.vals.toArray) w' := fun w' => by simp [zeroValue, typeInfo, hi, hz0]
    split at h
    · rename_i h1
      rw [h1] at hrun
      have hg : (z.get 0).flat = true := Cont.flat_get hf 0
      exact ⟨_, _, h, SV.flat_low (x := .c (z.get 0)) hg, Cell.rel_val hg, hrun⟩
    · rename_i h1
      rw [h1] at hrun
      exact ⟨_, _, h, Cont.flat_low hf, ⟨_, rfl, (Cont.rel_flat hf).2 rfl⟩, hrun⟩
  · exact h.elim
theorem run_lookS (hT : TyOK P ty) (hH : HeapOK C β n H I w) {t : Nat} {x k : SV} {xv kv : Value} (hx : x.rel β I w xv) (hk : k.rel β I w kv) {ok : Bool} {K : SV → Prop} (h : lookS ty H t x k ok K) :
    ∃ v y, K v ∧ v.low n ∧ v.rel β I w y ∧ ∀ w', Same w w' → (Instr.lookup t xv kv ok).run P w' = .ok y w' := by
  unfold lookS at h
  split at h
  · rename_i kt et id hty
    split at h
    · rename_i mt l hid
      obtain ⟨hks, hls, hyes, hno⟩ := h
      obtain ⟨d, hd, hik, hkf⟩ := keyS_isKey hT hks
      obtain rfl := (SV.rel_flat hkf).1 hk
      obtain ⟨b, es, ck, hb, hw, hs, he⟩ := hH.holds id _ hid
      have hxv : xv = .map (some b) := by have : xv = .map (β id) := hx; rw [this, hb]
      subst hxv
      have hbs : b < w.heap.size := (Array.getElem?_eq_some_iff.1 hw).1
      have hw' : ∀ w', Same w w' → w'.heap[b]? = some (.map es ck) := fun w' hs => (hs.block b hbs).trans hw
      have hm := hT.map t kt et hty
      rcases find_spec (P := P) hT hks hls hs he with ⟨j, v, e, h1, h2, h3, _, h4⟩ | ⟨h1, h2⟩
      · obtain ⟨u, hK, hl, hr⟩ := gotS_rel (hyes j v h1) ((hH.low id _ hid).2 _ (List.mem_of_getElem? h1)).2 h3
        refine ⟨u, _, hK, hl, hr, fun w' hs => ?_⟩
        simp only [Instr.lookup, Sem.run_bind, run_underlying hm, Result.andThen_ok, Sem.run_pure, MapKept.run_getObj_map (hw' w' hs), MapKept.run_checkKey hd hik, h4]
      · obtain ⟨z, zx, hz, hzl, hzr, hzrun⟩ := zeroS_rel (n := n) (β := β) (I := I) (w := w) hT (hno h1)
        obtain ⟨u, hK, hl, hr⟩ := gotS_rel hz hzl hzr
        refine ⟨u, _, hK, hl, hr, fun w' hs => ?_⟩
        simp only [Instr.lookup, Sem.run_bind, run_underlying hm, Result.andThen_ok, Sem.run_pure, MapKept.run_getObj_map (hw' w' hs), MapKept.run_checkKey hd hik, h2, hzrun]
    · exact h.elim
  · exact h.elim
theorem run_equal_nil {t e : TypeId} {ad : Option Addr} {len cap : Nat} {w : World} (ht : P.underlying t = some (.slice e)) : (Op.equal t (.slice ad len cap) (.slice none 0 0)).run P w = .ok ad.isNone w := by
  unfold Op.equal Op.maxDepth
  rw [show (10000 : Nat) = 9999 + 1 from rfl, Op.equalIn]
  cases ad <;> simp [run_underlying ht]
theorem run_neg_u64 (x : UInt64) (w : World) : (Op.unary .neg (.int .u64 x.toNat)).run P w = .ok (.int .u64 (-x).toNat) w := by
  have hx := x.toNat_lt
  simp [Op.unary, Op.intArith, IntKind.wrap_u64, UInt64.toNat_neg, UInt64.size]
  omega
theorem run_not_u64 (x : UInt64) (w : World) : (Op.unary .xor (.int .u64 x.toNat)).run P w = .ok (.int .u64 (~~~x).toNat) w := by
  have hx := (~~~x).toNat_lt
  have e1 : BitVec.ofInt 64 ((2 : Int) ^ 64 - 1) = BitVec.allOnes 64 := by decide
  have e2 : BitVec.ofInt 64 (x.toNat : Int) = x.toBitVec := by
    apply BitVec.eq_of_toNat_eq
    simp
  have e3 : (BitVec.ofInt 64 ((2 : Int) ^ 64 - 1) ^^^ BitVec.ofInt 64 (x.toNat : Int)).toNat = (~~~x).toNat := by
    rw [e1, e2, BitVec.allOnes_xor]; rfl
  show Result.ok (Value.int .u64 (IntKind.u64.wrap ((BitVec.ofInt 64 ((2 : Int) ^ 64 - 1) ^^^ BitVec.ofInt 64 (x.toNat : Int)).toNat : Nat))) w = _
  rw [e3, IntKind.wrap_u64]
  congr 2
  omega

/-- The post of an operation that leaves the world alone. -/
def Gives (P : Program) (β : Val) (n : Nat) (I : Nat → Prop) (w : World) (a : Act) (o : Oper) (K : SV → Prop) : Prop :=
  ∃ v x, K v ∧ v.low n ∧ v.rel β I w x ∧ ∀ w', Same w w' → (execOp a.eval o).run P w' = .ok (.value x) w'

theorem Gives.cell {o : Oper} {K : SV → Prop} {c : Cell} (hK : K (.c c)) (hf : c.flat = true) (h : ∀ w', (execOp a.eval o).run P w' = .ok (.value c.val) w') : Gives P β n I w a o K :=
  ⟨.c c, c.val, hK, SV.flat_low (x := .c c) hf, Cell.rel_val hf, fun w' _ => h w'⟩

theorem run_value (s : Sem Value) {v : Value} {w : World} (h : s.run P w = .ok v w) : (do pure (.value (← s)) : Sem Next).run P w = .ok (.value v) w := by
  simp [h]

theorem indexV_sound (hT : TyOK P ty) {t : TypeId} {x : SV} {v : Value} (hx : x.rel β I w v) (hxl : x.low n) {i : Int} {k : IntKind} {K : SV → Prop} (h : indexV ty t x i K) :
    ∃ sv u, K sv ∧ sv.low n ∧ sv.rel β I w u ∧ ∀ w', (Instr.index t v (.int k i)).run P w' = .ok u w' := by
  unfold indexV at h
  split at h
  · rename_i c
    split at h
    · rename_i m e s z ht
      obtain ⟨hu, hes, _⟩ := hT.arr t m e s z ht
      obtain ⟨hf, rfl, hl, h0, h1, hK⟩ := h
      obtain ⟨vs, hv, hr⟩ := hx
      obtain ⟨u, hu', hr'⟩ := hr.2 i.toNat (by omega)
      refine ⟨_, u, hK, Cont.get_low hxl _, hr', fun w' => ?_⟩
      simp [Instr.index, asIntOf, run_underlying hu, hv, h0, h1, run_sizeOf' hes, part, hT.isAgg_one hf w', hu']
    · exact h.elim
  · rename_i s
    split at h
    · rename_i ht
      have hu := hT.str t ht
      obtain ⟨h0, h1, hK⟩ := h
      have hv : v = (Cell.str s).val := CellD.of_flat rfl hx
      refine ⟨_, _, hK, trivial, Cell.rel_val (β := β) (x := .u8 _) rfl, fun w' => ?_⟩
      have hsz : (⟨s.toArray⟩ : ByteArray).size = s.length := by simp [ByteArray.size]
      have hlt : i.toNat < (⟨s.toArray⟩ : ByteArray).size := by omega
      have e : (⟨s.toArray⟩ : ByteArray)[i.toNat]? = some (s.getD i.toNat 0) := by
        rw [ByteArray.getElem?_lt' _ _ hlt]
        congr 1
        show s.toArray[i.toNat] = _
        rw [List.getD_eq_getElem?_getD, List.getElem?_eq_getElem (by omega)]
        simp
      simp [Instr.index, asIntOf, run_underlying hu, hv, Cell.val, h0, e]
    · exact h.elim
  · exact h.elim

theorem lenS_sound (hT : TyOK P ty) {t : TypeId} {x : SV} {v : Value} (hx : x.rel β I w v) {K : SV → Prop} (h : lenS ty t x K) :
    ∃ c : Cell, K (.c c) ∧ c.flat = true ∧ ∀ w' o, (Builtin.len_ #[t] o #[v]).run P w' = .ok c.val w' := by
  unfold lenS at h
  split at h
  · split at h
    · rename_i ht
      have hu := (hT.slice _ _ _ _ ht).1
      obtain ⟨_, off', hv, _⟩ := hx
      exact ⟨_, h, rfl, fun w o => by simp [Builtin.len_, run_underlying hu, hv, Cell.val, goInt]⟩
    · exact h.elim
  · rename_i m c
    split at h
    · rename_i ht
      have hu := (hT.slice _ _ _ _ ht).1
      obtain ⟨ad, cap, hv, _⟩ := CellD.ds_inv (show CellD I w (.ds m c) v from hx)
      exact ⟨_, h, rfl, fun w o => by simp [Builtin.len_, run_underlying hu, hv, Cell.val, goInt]⟩
    · exact h.elim
  · split at h
    · rename_i ht
      have hu := (hT.slice _ _ _ _ ht).1
      have hv : v = Cell.nils.val := CellD.of_flat rfl hx
      exact ⟨_, h, rfl, fun w o => by simp [Builtin.len_, run_underlying hu, hv, Cell.val, goInt]⟩
    · exact h.elim
  · rename_i s
    split at h
    · rename_i ht
      have hu := hT.str _ ht
      have hv : v = (Cell.str s).val := CellD.of_flat rfl hx
      have hsz : (⟨s.toArray⟩ : ByteArray).size = s.length := by simp [ByteArray.size]
      exact ⟨_, h, rfl, fun w o => by simp [Builtin.len_, run_underlying hu, hv, Cell.val, goInt, hsz]⟩
    · exact h.elim
  · exact h.elim

theorem evs_sound {D : List Deferred} (hE : EnvOK D β n I w E a) (hG : GlobOK glob I w) : ∀ {xs : List Operand} {K : List SV → Prop}, evs glob E xs K → ∃ vs : List SV, K vs ∧ (∀ v ∈ vs, SV.low n v) ∧ vs.length = xs.length ∧ ∀ (j : Nat) x v, xs[j]? = some x → vs[j]? = some v → v.rel β I w (a.eval x)
  | [], K, h => ⟨[], h, (fun v hv => by cases hv), rfl, fun j x v hx => by simp at hx⟩
  | x :: xs, K, h => by
    obtain ⟨v, hv, hb, h⟩ := onV_sound hE hG h
    obtain ⟨vs, hK, hbs, hl, hr⟩ := evs_sound hE hG h
    refine ⟨v :: vs, hK, fun u hu => ?_, by simp [hl], fun j y u hy hu => ?_⟩
    · rcases List.mem_cons.1 hu with rfl | hu
      · exact hb
      · exact hbs u hu
    · cases j with
      | zero => simp only [List.getElem?_cons_zero, Option.some.injEq] at hy hu; subst hy hu; exact hv
      | succ j => simp only [List.getElem?_cons_succ] at hy hu; exact hr j y u hy hu

theorem cellsOf_spec : ∀ {vs : List SV} {l : List Cell}, cellsOf vs = some l → vs = l.map .c ∧ ∀ x ∈ l, ∀ f cs, x ≠ .clo f cs
  | [], l, h => by simp only [cellsOf, Option.some.injEq] at h; subst h; exact ⟨rfl, fun x hx => by cases hx⟩
  | .c x :: vs, l, h => by
    rcases Cell.clo_or x with ⟨f, cs, rfl⟩ | hx
    · simp [cellsOf] at h
    · have h' : (cellsOf vs).map (x :: ·) = some l := by
        cases x <;> first | exact h | exact absurd rfl (hx _ _)
      obtain ⟨l', hl, rfl⟩ := Option.map_eq_some_iff.1 h'
      obtain ⟨h1, h2⟩ := cellsOf_spec hl
      refine ⟨by rw [h1]; rfl, fun y hy => ?_⟩
      rcases List.mem_cons.1 hy with rfl | hy
      · exact hx
      · exact h2 y hy
  | .agg _ :: _, _, h => by simp [cellsOf] at h
  | .tup _ :: _, _, h => by simp [cellsOf] at h

theorem pureS_sound {D : List Deferred} (hT : TyOK P ty) (hG : GlobOK glob I w) (hE : EnvOK D β n I w E a) (hH : HeapOK C β n H I w) {o : Oper} {K : SV → Prop} (h : pureS ty glob o E H K) :
    Gives P β n I w a o K := by
  unfold pureS at h
  split at h
  · -- move
    rename_i x hop
    obtain ⟨v, hv, hb, hK⟩ := onV_sound hE hG h
    exact ⟨v, _, hK, hb, hv, fun w' _ => by simp [execOp, hop]⟩
  · rename_i x hop
    obtain ⟨v, hv, hb, hK⟩ := onV_sound hE hG h
    exact ⟨v, _, hK, hb, hv, fun w' _ => by simp [execOp, hop]⟩
  · -- pick
    rename_i c x y hop
    obtain ⟨vc, hvc, _, h⟩ := onV_sound hE hG h
    obtain ⟨vx, hvx, hbx, h⟩ := onV_sound hE hG h
    obtain ⟨vy, hvy, hby, h⟩ := onV_sound hE hG h
    split at h
    · refine Gives.cell h rfl fun w' => ?_
      have e1 := (SV.rel_flat (x := .c (.bool _)) rfl).1 hvc
      have e2 := (SV.rel_flat (x := .c (.bool _)) rfl).1 hvx
      have e3 := (SV.rel_flat (x := .c (.bool _)) rfl).1 hvy
      simp only [execOp, hop, e1, e2, e3, SV.val, Cell.val, asBool, Sem.run_bind, Sem.run_pure, Result.andThen_ok]
      congr 2
      split <;> rfl
    · have e1 := (SV.rel_flat (x := .c (.bool _)) rfl).1 hvc
      exact ⟨_, _, h, hbx, hvx, fun w' _ => by simp [execOp, hop, e1, SV.val, Cell.val, asBool]⟩
    · have e1 := (SV.rel_flat (x := .c (.bool _)) rfl).1 hvc
      exact ⟨_, _, h, hby, hvy, fun w' _ => by simp [execOp, hop, e1, SV.val, Cell.val, asBool]⟩
    · exact h.elim
  · -- a slice held against nil
    rename_i op t x yt hop
    obtain ⟨ht, h⟩ := h
    obtain ⟨vx, hvx, hbx, h⟩ := onV_sound hE hG h
    clear hbx
    split at ht
    · rename_i e s by_ hty
      have hu := (hT.slice _ _ _ _ hty).1
      have key : ∀ ad len cap w', a.eval x = .slice ad len cap → (do eqGuard .eql t x (.const (.slice none 0 0)) (a.eval x) (a.eval (.const (.slice none 0 0))); binOp .eql t (a.eval x) (a.eval (.const (.slice none 0 0))) : Sem Value).run P w' = .ok (.bool ad.isNone) w' ∧
          (do eqGuard .neq t x (.const (.slice none 0 0)) (a.eval x) (a.eval (.const (.slice none 0 0))); binOp .neq t (a.eval x) (a.eval (.const (.slice none 0 0))) : Sem Value).run P w' = .ok (.bool !ad.isNone) w' := by
        intro ad len cap w' hv
        have hc : a.eval (.const (.slice none 0 0)) = .slice none 0 0 := rfl
        rw [hv, hc]
        exact ⟨run_guarded (eqGuard_other (by simp) (by simp)) (by simp only [binOp, Sem.run_bind, run_equal_nil hu]; rfl), run_guarded (eqGuard_other (by simp) (by simp)) (by simp only [binOp, Sem.run_bind, run_equal_nil hu]; rfl)⟩
      unfold nilS at h
      split at h
      · have hv := CellD.of_flat (x := .nils) rfl hvx
        refine Gives.cell h rfl fun w' => ?_
        simp only [execOp, hop]
        exact run_value _ (key _ _ _ w' hv).1
      · have hv := CellD.of_flat (x := .nils) rfl hvx
        refine Gives.cell h rfl fun w' => ?_
        simp only [execOp, hop]
        exact run_value _ (key _ _ _ w' hv).2
      · rename_i m c _
        obtain ⟨ad, cap, hv, hn, hd⟩ := CellD.ds_inv (show CellD I w (.ds m c) _ from hvx)
        refine Gives.cell (h ad.isNone fun e => ?_) rfl fun w' => ?_
        · rcases hd with ⟨_, h0⟩ | ⟨b, off, rfl, _⟩
          · exact h0
          · cases e
        · simp only [execOp, hop]
          exact run_value _ (key _ _ _ w' hv).1
      · rename_i m c _
        obtain ⟨ad, cap, hv, hn, hd⟩ := CellD.ds_inv (show CellD I w (.ds m c) _ from hvx)
        refine Gives.cell (h (!ad.isNone) fun e => ?_) rfl fun w' => ?_
        · rcases hd with ⟨_, h0⟩ | ⟨b, off, rfl, _⟩
          · exact h0
          · cases e
        · simp only [execOp, hop]
          exact run_value _ (key _ _ _ w' hv).2
      · exact h.elim
    · exact ht.elim
  · -- binOp
    rename_i op t x y yt hne hop
    split at h
    · obtain ⟨vx, hvx, _, h⟩ := onV_sound hE hG h
      obtain ⟨vy, hvy, _, h⟩ := onV_sound hE hG h
      obtain ⟨k, i, hi, h⟩ := amount_sound hvy h
      have ex := (SV.rel_flat (shiftS_flat h)).1 hvx
      obtain ⟨c, hc, hb, hrun⟩ := run_shift (P := P) (yk := k) (t := t) h
      refine Gives.cell hc hb fun w' => ?_
      have := hrun w'
      simp only [if_true] at this
      simp only [execOp, hop, ex, hi]
      exact run_value _ (by simpa [eqGuard] using this)
    · obtain ⟨vx, hvx, _, h⟩ := onV_sound hE hG h
      obtain ⟨vy, hvy, _, h⟩ := onV_sound hE hG h
      obtain ⟨k, i, hi, h⟩ := amount_sound hvy h
      have ex := (SV.rel_flat (shiftS_flat h)).1 hvx
      obtain ⟨c, hc, hb, hrun⟩ := run_shift (P := P) (yk := k) (t := t) h
      refine Gives.cell hc hb fun w' => ?_
      have := hrun w'
      simp only [Bool.false_eq_true, if_false] at this
      simp only [execOp, hop, ex, hi]
      exact run_value _ (by simpa [eqGuard] using this)
    · rename_i hs hr
      obtain ⟨vx, hvx, _, h⟩ := onV_sound hE hG h
      obtain ⟨vy, hvy, _, h⟩ := onV_sound hE hG h
      obtain ⟨f1, f2⟩ := binS_flat h
      have ex := (SV.rel_flat f1).1 hvx
      have ey := (SV.rel_flat f2).1 hvy
      obtain ⟨c, hc, hb, hrun⟩ := run_binS (P := P) (x := x) (y := y) hT (fun e => hs e) (fun e => hr e) h
      refine Gives.cell hc hb fun w' => ?_
      simp only [execOp, hop, ex, ey]
      exact run_value _ (hrun w')
  · -- unOp
    rename_i op t x hop
    obtain ⟨vx, hvx, _, h⟩ := onV_sound hE hG h
    split at h
    · refine Gives.cell h rfl fun w' => ?_
      have ex := (SV.rel_flat (x := .c (.bool _)) rfl).1 hvx
      simp [execOp, hop, ex, SV.val, Cell.val, Op.unary]
    · refine Gives.cell h rfl fun w' => ?_
      have ex := (SV.rel_flat (x := .c (.u8 _)) rfl).1 hvx
      simp only [execOp, hop, ex, SV.val, Cell.val]
      exact run_value _ (run_not_u8 _ w')
    · refine Gives.cell h rfl fun w' => ?_
      have ex := (SV.rel_flat (x := .c (.u32 _)) rfl).1 hvx
      simp only [execOp, hop, ex, SV.val, Cell.val]
      exact run_value _ (run_not_u32 _ w')
    · refine Gives.cell h rfl fun w' => ?_
      have ex := (SV.rel_flat (x := .c (.u64 _)) rfl).1 hvx
      simp only [execOp, hop, ex, SV.val, Cell.val]
      exact run_value _ (run_not_u64 _ w')
    · refine Gives.cell h.2 rfl fun w' => ?_
      have ex := (SV.rel_flat (x := .c (.int _ _)) rfl).1 hvx
      simp [execOp, hop, ex, SV.val, Cell.val, Op.unary, Op.intArith, wrap_in h.1]
    · refine Gives.cell h rfl fun w' => ?_
      have ex := (SV.rel_flat (x := .c (.u64 _)) rfl).1 hvx
      simp only [execOp, hop, ex, SV.val, Cell.val]
      exact run_value _ (run_neg_u64 _ w')
    · exact h.elim
  · -- convert
    rename_i src dst x hop
    split at h
    · rename_i k' k hs hd
      obtain ⟨vx, hvx, _, h⟩ := onV_sound hE hG h
      have ex := (SV.rel_flat (convS_flat h)).1 hvx
      obtain ⟨c, hc, hb, hrun⟩ := run_convS (P := P) (hT.int _ _ hs) (hT.int _ _ hd) h
      refine Gives.cell hc hb fun w' => ?_
      simp only [execOp, hop, ex]
      exact run_value _ (hrun w')
    · rename_i e s b hs hd
      obtain ⟨vx, hvx, _, h⟩ := onV_sound hE hG h
      obtain ⟨t, hK, hrun⟩ := convStrS_sound (P := P) hT hH hs hd hvx h
      refine ⟨_, _, hK, trivial, Cell.rel_val (β := β) (x := .str t) rfl, fun w' hw => ?_⟩
      simp only [execOp, hop]
      exact run_value _ (hrun w' hw)
    · exact h.elim
  · -- load
    rename_i t x hop
    obtain ⟨vx, hvx, _, h⟩ := onV_sound hE hG h
    obtain ⟨c, off, h, hl, hp⟩ := atS_sound hH hvx h
    obtain ⟨sv, u, hK, hb, hr, hrun⟩ := loadS_sound (P := P) hT hl hp h
    refine ⟨sv, u, hK, hb, hr, fun w' hw => ?_⟩
    simp only [execOp, hop]
    exact run_value _ (hrun w' hw)
  · -- nilCheck
    rename_i x hop
    obtain ⟨vx, hvx, hbx, h⟩ := onV_sound hE hG h
    obtain ⟨sv, b, k, hK, hl, hv, hr⟩ := shiftP_sound hH hvx hbx h
    exact ⟨sv, _, hK, hl, hr, fun w' _ => by simp [execOp, hop, hv]⟩
  · -- makeFunc
    rename_i f first caps hop
    obtain ⟨hf, h⟩ := h
    obtain ⟨vs, hK, hlow, hl, hr⟩ := evs_sound hE hG h
    split at hK
    · rename_i l hcl
      obtain ⟨hvs, hnc⟩ := cellsOf_spec hcl
      subst hvs
      have hfirst : first = #[] := by
        apply Array.ext'
        exact List.eq_nil_of_length_eq_zero hf
      have hll : l.length = caps.size := by simpa using hl
      refine ⟨_, .func (.func f) #[] (caps.map a.eval), hK, fun x hx => ?_, ⟨fun j => a.eval (caps.getD j default), ?_, fun j hj => ?_⟩, fun w' _ => ?_⟩
      · have : SV.low n (.c x) := hlow _ (List.mem_map_of_mem hx)
        have h2 : x.low n := this
        rwa [Cell.low_eq (hnc x hx)] at h2
      · congr 1
        apply Array.ext'
        apply List.ext_getElem?
        intro j
        simp only [Array.toList_map, List.getElem?_map]
        by_cases hj : j < l.length
        · rw [List.getElem?_range hj]
          have hj' : j < caps.size := by omega
          simp [hj', Array.getD]
        · rw [List.getElem?_eq_none (by simp; omega), List.getElem?_eq_none (by simp; omega)]; rfl
      · have hj' : j < caps.size := by omega
        have h1 : caps.toList[j]? = some (caps.getD j default) := by simp [hj', Array.getD]
        have h2 : (l.map SV.c)[j]? = some (.c (l.getD j .nils)) := by simp [hj, List.getD_eq_getElem?_getD]
        have h3 : (l.getD j .nils).rel β I w (a.eval (caps.getD j default)) := hr j _ _ h1 h2
        have h4 := hlow _ (List.mem_of_getElem? h2)
        rwa [Cell.rel_eq (hnc _ (getD_mem hj))] at h3
      · simp [execOp, hop, Instr.makeFunc, hfirst]
    · exact hK.elim
  · -- indexAddr
    rename_i t x i hop
    obtain ⟨vx, hvx, hbx, h⟩ := onV_sound hE hG h
    obtain ⟨k, i', hi, h⟩ := onI_sound hE hG h
    obtain ⟨sv, u, hK, hb, hr, hrun⟩ := indexS_sound (P := P) (q := k) hT hH hvx hbx h
    refine ⟨sv, u, hK, hb, hr, fun w' _ => ?_⟩
    simp only [execOp, hop, hi]
    exact run_value _ (hrun w')
  · -- index
    rename_i t x i hop
    obtain ⟨vx, hvx, hbx, h⟩ := onV_sound hE hG h
    obtain ⟨k, i', hi, h⟩ := onI_sound hE hG h
    obtain ⟨sv, u, hK, hb, hr, hrun⟩ := indexV_sound (P := P) (k := k) hT hvx hbx h
    refine ⟨sv, u, hK, hb, hr, fun w' _ => ?_⟩
    simp only [execOp, hop, hi]
    exact run_value _ (hrun w')
  · -- fieldAddr
    rename_i t x f hop
    obtain ⟨vx, hvx, hbx, h⟩ := onV_sound hE hG h
    obtain ⟨sv, u, hK, hb, hr, hrun⟩ := fieldAddrS_sound (P := P) hT hH hvx hbx h
    refine ⟨sv, u, hK, hb, hr, fun w' _ => ?_⟩
    simp only [execOp, hop]
    exact run_value _ (hrun w')
  · -- field
    rename_i t x f hop
    obtain ⟨vx, hvx, hbx, h⟩ := onV_sound hE hG h
    obtain ⟨sv, u, hK, hb, hr, hrun⟩ := fieldS_sound (P := P) hT hvx hbx h
    refine ⟨sv, u, hK, hb, hr, fun w' _ => ?_⟩
    simp only [execOp, hop]
    exact run_value _ (hrun w')
  · -- slice
    rename_i t x lo hi hop
    obtain ⟨vx, hvx, hbx, h⟩ := onV_sound hE hG h
    split at h
    · obtain ⟨sv, u, hK, hb, hr, hrun⟩ := sliceS_sound (P := P) (lo := none) (hi := none) (l := none) (h := none) hT hH hvx hbx trivial trivial h
      refine ⟨sv, u, hK, hb, hr, fun w' _ => ?_⟩
      simp only [execOp, hop]
      exact run_value _ (hrun w')
    · obtain ⟨k, i, hi, h⟩ := onI_sound hE hG h
      obtain ⟨sv, u, hK, hb, hr, hrun⟩ := sliceS_sound (P := P) (lo := some (.int k i)) (hi := none) (l := some i) (h := none) hT hH hvx hbx rfl trivial h
      refine ⟨sv, u, hK, hb, hr, fun w' _ => ?_⟩
      simp only [execOp, hop, Option.map_some, hi]
      exact run_value _ (hrun w')
    · obtain ⟨k, i, hi, h⟩ := onI_sound hE hG h
      obtain ⟨sv, u, hK, hb, hr, hrun⟩ := sliceS_sound (P := P) (lo := none) (hi := some (.int k i)) (l := none) (h := some i) hT hH hvx hbx trivial rfl h
      refine ⟨sv, u, hK, hb, hr, fun w' _ => ?_⟩
      simp only [execOp, hop, Option.map_some, hi]
      exact run_value _ (hrun w')
    · obtain ⟨k, i, hi, h⟩ := onI_sound hE hG h
      obtain ⟨k', i', hi', h⟩ := onI_sound hE hG h
      obtain ⟨sv, u, hK, hb, hr, hrun⟩ := sliceS_sound (P := P) (lo := some (.int k i)) (hi := some (.int k' i')) (l := some i) (h := some i') hT hH hvx hbx rfl rfl h
      refine ⟨sv, u, hK, hb, hr, fun w' _ => ?_⟩
      simp only [execOp, hop, Option.map_some, hi, hi']
      exact run_value _ (hrun w')
  · -- a slice of nothing, without room
    rename_i t x hx mx hop
    obtain ⟨vx, hvx, hbx, h1⟩ := onV_sound hE hG h
    obtain ⟨k, i, hi, h2⟩ := onI_sound hE hG h1
    obtain ⟨k', i', hi', ⟨hz, hz'⟩, h3⟩ := onI_sound hE hG h2
    clear h h1 h2
    subst hz hz'
    split at h3
    · rename_i e s by_ m c ht
      obtain ⟨hu, hes, _⟩ := hT.slice t e s by_ ht
      obtain ⟨ad, cap, hv, hn, hd⟩ := CellD.ds_inv (show CellD I w (.ds m c) _ from hvx)
      refine ⟨.c (.raw (.slice ad 0 0)), .slice ad 0 0, h3 ad, trivial, CellD.flat _ rfl, fun w' _ => ?_⟩
      simp only [execOp, hop, Option.map_some, Option.map_none, hi, hi']
      exact run_value _ (by simp [Instr.sliceAt, Instr.slice, run_underlying hu, hv, Instr.sliceBounds, Instr.sliceBound, asIntOf, run_sizeOf' hes])
    · rename_i e s by_ ht
      obtain ⟨hu, hes, _⟩ := hT.slice t e s by_ ht
      refine ⟨.c .nils, .slice none 0 0, h3, trivial, CellD.flat .nils rfl, fun w' _ => ?_⟩
      have hv := CellD.of_flat (x := .nils) rfl hvx
      simp only [execOp, hop, Option.map_some, Option.map_none, hi, hi']
      exact run_value _ (by simp [Instr.sliceAt, Instr.slice, run_underlying hu, hv, Cell.val, Instr.sliceBounds, Instr.sliceBound, asIntOf, run_sizeOf' hes])
    · exact h3.elim
  · -- lookup
    rename_i t x i ok hop
    obtain ⟨vx, hvx, hbx, h⟩ := onV_sound hE hG h
    obtain ⟨vi, hvi, hbi, h⟩ := onV_sound hE hG h
    obtain ⟨v, y, hK, hl, hr, hrun⟩ := run_lookS (P := P) hT hH hvx hvi h
    refine ⟨v, y, hK, hl, hr, fun w' hw => ?_⟩
    simp only [execOp, hop]
    exact run_value _ (hrun w' hw)
  · -- extract
    rename_i t i hop
    obtain ⟨vx, hvx, hbx, h⟩ := onV_sound hE hG h
    split at h
    · rename_i l
      split at h
      · rename_i p hp
        obtain ⟨vs, hv, hl, hr⟩ := hvx
        obtain ⟨u, hu, hru⟩ := hr i p hp
        refine ⟨_, u, h, Part.sv_low (hbx p (List.mem_of_getElem? hp)), Part.sv_rel hru, fun w' _ => ?_⟩
        simp only [execOp, hop, hv]
        exact run_value _ (by simp only [Instr.extract, List.getElem?_toArray, hu]; rfl)
      · exact h.elim
    · exact h.elim
  · -- call of a builtin
    rename_i c hop
    have hc : ∀ (b : Builtin) (l : List Operand) (r : Value) (w : World), c.callee = .builtin b → c.args.toList = l → (builtin b c.argTypes o.type (c.args.map fun | .const _ => true | _ => false) (l.map a.eval).toArray).run P w = .ok (.value r) w →
        (execOp a.eval o).run P w = .ok (.value r) w := by
      intro b l r w hcb hl hrun
      have e : c.args.map a.eval = (l.map a.eval).toArray := by rw [← hl, ← Array.toList_map, Array.toArray_toList]
      simp only [execOp, hop, resolve, hcb, Sem.run_bind, Sem.run_pure, Result.andThen_ok, invoke, e]
      exact hrun
    split at h
    · rename_i x t hcb hl ht
      obtain ⟨vx, hvx, hbx, h⟩ := onV_sound hE hG h
      obtain ⟨v, hK, hb, hrun⟩ := lenS_sound (P := P) hT hvx h
      refine Gives.cell hK hb fun w' => hc _ _ _ w' hcb hl ?_
      have ea : c.argTypes = #[t] := by
        have := congrArg List.toArray ht
        simpa using this
      simp only [builtin, List.map_cons, List.map_nil, ea]
      exact run_value _ (hrun w' o.type)
    · rename_i x y hcb hl
      obtain ⟨vx, hvx, hbx, h⟩ := onV_sound hE hG h
      obtain ⟨vy, hvy, hby, h⟩ := onV_sound hE hG h
      split at h
      · obtain ⟨rfl, h⟩ := h
        have ex := (SV.rel_flat (x := .c (.int _ _)) rfl).1 hvx
        have ey := (SV.rel_flat (x := .c (.int _ _)) rfl).1 hvy
        refine Gives.cell h rfl fun w' => hc _ _ _ w' hcb hl ?_
        simp only [builtin, List.map_cons, List.map_nil, ex, ey, SV.val, Cell.val]
        exact run_value _ (by simp [Builtin.min_, Builtin.min2])
      · exact h.elim
    · rename_i x y hcb hl
      obtain ⟨vx, hvx, hbx, h⟩ := onV_sound hE hG h
      obtain ⟨vy, hvy, hby, h⟩ := onV_sound hE hG h
      split at h
      · obtain ⟨rfl, h⟩ := h
        have ex := (SV.rel_flat (x := .c (.int _ _)) rfl).1 hvx
        have ey := (SV.rel_flat (x := .c (.int _ _)) rfl).1 hvy
        refine Gives.cell h rfl fun w' => hc _ _ _ w' hcb hl ?_
        simp only [builtin, List.map_cons, List.map_nil, ex, ey, SV.val, Cell.val]
        exact run_value _ (by simp [Builtin.max_, Builtin.max2])
      · exact h.elim
    · exact h.elim
  · exact h.elim
/-- Operations that look at no memory. -/
def stillB (o : Oper) : Bool := match o.op with
  | .move _ | .assign _ => true
  | .binOp _ _ _ (.const (.slice _ _ _)) _ => false
  | .binOp _ _ _ _ _ => true
  | _ => false
theorem pureS_still {D : List Deferred} (hT : TyOK P ty) (hG : GlobOK glob I w) (hE : EnvOK D β n I w E a) {o : Oper} (hs : stillB o = true) {K : SV → Prop} (h : pureS ty glob o E H K) :
    ∃ v x, K v ∧ v.low n ∧ v.rel β I w x ∧ ∀ w', (execOp a.eval o).run P w' = .ok (.value x) w' := by
  unfold stillB at hs
  split at hs
  · rename_i x hop
    unfold pureS at h
    rw [hop] at h
    obtain ⟨v, hv, hb, hK⟩ := onV_sound hE hG h
    exact ⟨v, _, hK, hb, hv, fun w' => by simp [execOp, hop]⟩
  · rename_i x hop
    unfold pureS at h
    rw [hop] at h
    obtain ⟨v, hv, hb, hK⟩ := onV_sound hE hG h
    exact ⟨v, _, hK, hb, hv, fun w' => by simp [execOp, hop]⟩
  · cases hs
  · rename_i op t x y yt hne hop
    unfold pureS at h
    rw [hop] at h
    have fl : ∀ {c : Cell}, K (.c c) → c.flat = true → (∀ w', (execOp a.eval o).run P w' = .ok (.value c.val) w') → ∃ v x, K v ∧ v.low n ∧ v.rel β I w x ∧ ∀ w', (execOp a.eval o).run P w' = .ok (.value x) w' :=
      fun {c} hK hf hr => ⟨.c c, c.val, hK, SV.flat_low (x := .c c) hf, Cell.rel_val hf, hr⟩
    split at h
    all_goals first | (rename_i e; cases e) | skip
    all_goals first | (exfalso; exact hne _ _ _ rfl) | skip
    all_goals first | (exact False.elim h) | skip
    split at h
    · obtain ⟨vx, hvx, _, h⟩ := onV_sound hE hG h
      obtain ⟨vy, hvy, _, h⟩ := onV_sound hE hG h
      obtain ⟨k, i, hi, h⟩ := amount_sound hvy h
      have ex := (SV.rel_flat (shiftS_flat h)).1 hvx
      obtain ⟨c, hc, hb, hrun⟩ := run_shift (P := P) (yk := k) (t := t) h
      refine fl hc hb fun w' => ?_
      have := hrun w'
      simp only [if_true] at this
      simp only [execOp, hop, ex, hi]
      exact run_value _ (by simpa [eqGuard] using this)
    · obtain ⟨vx, hvx, _, h⟩ := onV_sound hE hG h
      obtain ⟨vy, hvy, _, h⟩ := onV_sound hE hG h
      obtain ⟨k, i, hi, h⟩ := amount_sound hvy h
      have ex := (SV.rel_flat (shiftS_flat h)).1 hvx
      obtain ⟨c, hc, hb, hrun⟩ := run_shift (P := P) (yk := k) (t := t) h
      refine fl hc hb fun w' => ?_
      have := hrun w'
      simp only [Bool.false_eq_true, if_false] at this
      simp only [execOp, hop, ex, hi]
      exact run_value _ (by simpa [eqGuard] using this)
    · rename_i hs hr
      obtain ⟨vx, hvx, _, h⟩ := onV_sound hE hG h
      obtain ⟨vy, hvy, _, h⟩ := onV_sound hE hG h
      obtain ⟨f1, f2⟩ := binS_flat h
      have ex := (SV.rel_flat f1).1 hvx
      have ey := (SV.rel_flat f2).1 hvy
      obtain ⟨c, hc, hb, hrun⟩ := run_binS (P := P) (x := x) (y := y) hT (fun e => hs e) (fun e => hr e) h
      refine fl hc hb fun w' => ?_
      simp only [execOp, hop, ex, ey]
      exact run_value _ (hrun w')
  · cases hs
end
end Go.Ab
