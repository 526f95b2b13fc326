/- The operations that leave the world alone are sound: reads and places. -/
import Derived.Test.YtpfncffapgkjaaaDoorAb3
import Derived.Laws.BytesArg
import Derived.Laws.BytesString
namespace Go.Ab
set_option linter.unusedVariables false
open Go.RowKit

theorem addr_add (b o j : Nat) : (⟨b, o, none⟩ : Addr).add j = ⟨b, o + j, none⟩ := by
  unfold Addr.add; split <;> simp_all
theorem exists_list {Q : Nat → Value → Prop} : ∀ (m : Nat), (∀ j, j < m → ∃ u, Q j u) → ∃ vs : List Value, vs.length = m ∧ ∀ j, j < m → ∃ u, vs[j]? = some u ∧ Q j u
  | 0, _ => ⟨[], rfl, fun j hj => absurd hj (Nat.not_lt_zero j)⟩
  | m + 1, h => by
    obtain ⟨vs, h1, h2⟩ := exists_list m fun j hj => h j (by omega)
    obtain ⟨u, hu⟩ := h m (by omega)
    refine ⟨vs ++ [u], by simp [h1], fun j hj => ?_⟩
    by_cases e : j < m
    · obtain ⟨x, hx, hq⟩ := h2 j e
      exact ⟨x, by rw [List.getElem?_append_left (by omega)]; exact hx, hq⟩
    · obtain rfl : j = m := by omega
      exact ⟨u, by rw [List.getElem?_append_right (by omega)]; simp [h1], hu⟩

theorem CellD.pure {I : Nat → Prop} {w : World} {x : Cell} {v : Value} (h : CellD I w x v) : x.pureB = true := by
  cases h with
  | flat x hx => cases x <;> first | rfl | (simp [Cell.flat] at hx)
  | _ => rfl
theorem Cell.pure_low1 {n : Nat} {x : Cell} (h : x.pureB = true) : x.low1 n := by
  cases x <;> first | trivial | (simp [Cell.pureB] at h)
theorem CellD.low {I : Nat → Prop} {w : World} {n : Nat} {x : Cell} {v : Value} (h : CellD I w x v) : x.low n := by
  cases h with
  | flat x hx => exact Cell.flat_low hx
  | clo f caps g hg =>
    intro y hy
    obtain ⟨j, hj, rfl⟩ := List.mem_iff_getElem.1 hy
    have := hg j hj
    rw [List.getD_eq_getElem?_getD, List.getElem?_eq_getElem hj, Option.getD_some] at this
    exact Cell.pure_low1 this.pure
  | _ => trivial
theorem DatAt.low {I : Nat → Prop} {w : World} {n : Nat} {c : Cont} {b k : Nat} (hd : DatAt I w c b k) : c.low n := by
  cases c with
  | cells l =>
    intro y hy
    obtain ⟨j, hj, rfl⟩ := List.mem_iff_getElem.1 hy
    obtain ⟨z, _, hz⟩ := hd.2 j hj
    have e : (Cont.cells l).get j = l[j] := by simp [Cont.get, hj]
    rw [e] at hz
    exact hz.low
  | _ => trivial

section
variable {P : Program} {ty : Nat → Ty} {t : TypeId} {w : World}
theorem TyOK.isAgg_one (hT : TyOK P ty) (h : (ty t).one = true) (w : World) : (isAgg t).run P w = .ok false w := by
  cases ht : ty t <;> rw [ht] at h <;> simp [Ty.one] at h
  · have := hT.int t _ ht; simp [isAgg, run_underlying this]
  · have := hT.bool t ht; simp [isAgg, run_underlying this]
  · have := hT.str t ht; simp [isAgg, run_underlying this]
  · have := (hT.slice t _ _ _ ht).1; simp [isAgg, run_underlying this]
  · obtain ⟨e, he⟩ := hT.ptr t ht; simp [isAgg, run_underlying he]
  · obtain ⟨a, b, c, he⟩ := hT.func t ht; simp [isAgg, run_underlying he]
  · have := hT.map t _ _ ht; simp [isAgg, run_underlying this]
theorem TyOK.size_one (hT : TyOK P ty) (h : (ty t).one = true) : (P.info? t).map (·.size) = some 1 := by
  have h0 := hT.size t (by intro e; rw [e] at h; simp [Ty.one] at h)
  have : (ty t).size = 1 := by cases ht : ty t <;> rw [ht] at h <;> simp [Ty.one] at h <;> rfl
  rw [this] at h0; exact h0
end

section
variable {P : Program} {C : CC} {β : Val} {n : Nat} {H : Heap} {I : Nat → Prop} {w : World} {ty : Nat → Ty}

/-- The cells from an address on hold c, in the world and in every later one. -/
def CellsAt (β : Val) (I : Nat → Prop) (w : World) (c : Cont) (b k : Nat) : Prop :=
  ∀ j, j < c.len → ∃ u, (∀ w', Same w w' → w'.cell? ⟨b, k + j, none⟩ = some u) ∧ (c.get j).rel β I w u

theorem DatAt.cellsAt (hH : HeapOK C β n H I w) {c : Cont} {b k : Nat} (h : DatAt I w c b k) : CellsAt β I w c b k := fun j hj => by
  obtain ⟨x, h1, h2⟩ := h.2 j hj
  exact ⟨x, fun w' hw => ((hH.ext hw).cell h.1).trans h1, Cell.rel_of h2⟩

theorem HeapOK.cellsAt (hH : HeapOK C β n H I w) {id : Nat} {t : TypeId} {c : Cont} {cap : Nat} (hid : H.get id = some (.own t c cap)) {off : Nat} (ho : off < c.len) : ∃ b, β id = some b ∧ CellsAt β I w c b 0 := by
  obtain ⟨b, x, hb, _, _⟩ := (hH.holds id _ hid).cell ho
  refine ⟨b, hb, fun j hj => ?_⟩
  obtain ⟨b', x, hb', hc, hr⟩ := (hH.holds id _ hid).cell hj
  rw [hb] at hb'; cases hb'
  refine ⟨x, fun w' hw => ?_, hr⟩
  rw [Nat.zero_add]
  exact (World.cell?_of_block (hw.block b ((hH.holds id _ hid).lt hb))).trans hc

theorem atS_sound (hH : HeapOK C β n H I w) {x : SV} {v : Value} (hx : x.rel β I w v) {K : Cont → Nat → Prop} (h : atS H x K) :
    ∃ c off, K c off ∧ c.low n ∧ (off < c.len → ∃ b k, v = .pointer (some ⟨b, k + off, none⟩) ∧ CellsAt β I w c b k) := by
  unfold atS at h
  split at h
  · rename_i id off
    split at h
    · rename_i t c cap hid
      refine ⟨c, off, h, (hH.low id _ hid).2, fun ho => ?_⟩
      obtain ⟨b, hb, hc⟩ := hH.cellsAt hid ho
      have hv : v = .pointer (place β id off) := hx
      exact ⟨b, 0, by rw [hv]; simp [place, hb], hc⟩
    · exact h.elim
  · rename_i c off
    obtain ⟨b, k, hv, ho, hd⟩ := CellD.dp_inv (show CellD I w (.dp c off) v from hx)
    have hl : c.low n := hd.low
    exact ⟨c, off, h, hl, fun _ => ⟨b, k, hv, hd.cellsAt hH⟩⟩
  · exact h.elim

theorem loadCells_sound {c : Cont} {b k off : Nat} (hc : CellsAt β I w c b k) (m : Nat) (hm : off + m ≤ c.len) :
    ∃ vs, (c.sub off m).rel β I w vs ∧ vs.length = m ∧ ∀ w', Same w w' → (loadCells ⟨b, k + off, none⟩ m).run P w' = .ok vs.toArray w' := by
  obtain ⟨vs, hl, hv⟩ := exists_list (Q := fun j u => (∀ w', Same w w' → w'.cell? ⟨b, k + (off + j), none⟩ = some u) ∧ (c.get (off + j)).rel β I w u) m fun j hj => hc (off + j) (by omega)
  refine ⟨vs, ⟨by rw [Cont.sub_len]; omega, fun j hj => ?_⟩, hl, fun w' hw => ?_⟩
  · rw [Cont.sub_len] at hj
    obtain ⟨u, hu, _, hr⟩ := hv j (by omega)
    exact ⟨u, hu, by rw [Cont.sub_get _ (by omega)]; exact hr⟩
  · have := run_loadCells_list (P := P) w' ⟨b, k + off, none⟩ vs fun j v hj => by
      rw [addr_add, Nat.add_assoc]
      have hjm : j < m := by
        rcases Nat.lt_or_ge j m with h | h
        · exact h
        · rw [List.getElem?_eq_none (by omega)] at hj; cases hj
      obtain ⟨u, hu, hc, _⟩ := hv j hjm
      rw [hu] at hj; cases hj
      exact hc w' hw
    rw [hl] at this
    exact this

theorem Cont.sub_all (c : Cont) : c.sub 0 c.len = c := by cases c <;> simp [Cont.sub, Cont.drop, Cont.take, Cont.len]

theorem loadS_sound (hT : TyOK P ty) {t off : Nat} {c : Cont} {v : Value} (hl : c.low n) (hp : off < c.len → ∃ b k, v = .pointer (some ⟨b, k + off, none⟩) ∧ CellsAt β I w c b k) {K : SV → Prop} (h : loadS ty t c off K) :
    ∃ sv x, K sv ∧ sv.low n ∧ sv.rel β I w x ∧ ∀ w', Same w w' → (Instr.loadAt t v).run P w' = .ok x w' := by
  unfold loadS at h
  have many : ∀ m, (isAgg t).run P = (fun w => .ok true w) → (P.info? t).map (·.size) = some m → 0 < m → off + m ≤ c.len → (if off = 0 ∧ c.len = m then K (.agg c) else K (.agg (c.sub off m))) →
      ∃ sv x, K sv ∧ sv.low n ∧ sv.rel β I w x ∧ ∀ w', Same w w' → (Instr.loadAt t v).run P w' = .ok x w' := by
    intro m hagg hsz hpos hle hK
    obtain ⟨b, k, rfl, hc⟩ := hp (by omega)
    obtain ⟨vs, hr, hvl, hrun⟩ := loadCells_sound (P := P) hc m hle
    have hrun' : ∀ w', Same w w' → (Instr.loadAt t (.pointer (some ⟨b, k + off, none⟩))).run P w' = .ok (.agg vs.toArray) w' := fun w' hw => by
      have ha := congrFun hagg w'
      simp only [Instr.loadAt, Instr.sureAddr, loadVar, Sem.run_bind, Sem.run_pure, Result.andThen_ok, ha, if_true, run_sizeOf' hsz, hrun w' hw]
    split at hK
    · rename_i hz
      refine ⟨_, .agg vs.toArray, hK, hl, ⟨vs, rfl, ?_⟩, hrun'⟩
      rw [hz.1, ← hz.2, Cont.sub_all] at hr
      exact hr
    · exact ⟨_, .agg vs.toArray, hK, Cont.sub_low hl _ _, ⟨vs, rfl, hr⟩, hrun'⟩
  have one : (ty t).one = true → (off < c.len ∧ K (.c (c.get off))) → ∃ sv x, K sv ∧ sv.low n ∧ sv.rel β I w x ∧ ∀ w', Same w w' → (Instr.loadAt t v).run P w' = .ok x w' := by
    intro hf ⟨h1, h2⟩
    obtain ⟨b, k, rfl, hc⟩ := hp h1
    obtain ⟨u, hu, hr⟩ := hc off h1
    exact ⟨_, u, h2, Cont.get_low hl off, hr, fun w' hw => by simp [Instr.loadAt, Instr.sureAddr, loadVar, hT.isAgg_one hf w', run_load, hu w' hw]⟩
  cases ht : ty t with
  | other => simp only [ht] at h
  | arr m e s z =>
    simp only [ht] at h
    obtain ⟨hu, _⟩ := hT.arr t m e s z ht
    have hs := hT.size t (by rw [ht]; simp)
    rw [ht] at hs
    exact many (m * s) (by funext w; simp [isAgg, run_underlying hu]) hs h.1 h.2.1 h.2.2
  | struct fs m z =>
    simp only [ht] at h
    obtain ⟨⟨fields, hu, _⟩, _⟩ := hT.struct t fs m z ht
    have hs := hT.size t (by rw [ht]; simp)
    rw [ht] at hs
    exact many m (by funext w; simp [isAgg, run_underlying hu]) hs h.1 h.2.1 h.2.2
  | _ => simp only [ht] at h; exact one (by rw [ht]; rfl) h

theorem shiftP_sound (hH : HeapOK C β n H I w) {x : SV} {v : Value} (hx : x.rel β I w v) (hxl : x.low n) {j : Nat} {K : SV → Prop} (h : shiftP H x j K) :
    ∃ sv b k, K sv ∧ sv.low n ∧ v = .pointer (some ⟨b, k, none⟩) ∧ sv.rel β I w (.pointer (some ⟨b, k + j, none⟩)) := by
  unfold shiftP at h
  split at h
  · rename_i id off
    split at h
    · rename_i t c cap hid
      obtain ⟨b, hb, _⟩ := hH.cellsAt hid h.1
      have hv : v = .pointer (place β id off) := hx
      exact ⟨_, b, off, h.2, hxl, by rw [hv]; simp [place, hb], by simp [SV.rel, Cell.rel, Cell.rel1, place, hb]⟩
    · exact h.elim
  · rename_i c off
    obtain ⟨b, k, hv, ho, hd⟩ := CellD.dp_inv (show CellD I w (.dp c off) v from hx)
    refine ⟨_, b, k + off, h.2, trivial, hv, ?_⟩
    have := DatAt.dp hd h.1
    rw [← Nat.add_assoc] at this
    exact this
  · exact h.elim

theorem indexS_sound (hT : TyOK P ty) (hH : HeapOK C β n H I w) {t : TypeId} {x : SV} {v : Value} (hx : x.rel β I w v) (hxl : x.low n) {i : Int} {q : IntKind} {K : SV → Prop} (h : indexS ty H t x i K) :
    ∃ sv u, K sv ∧ sv.low n ∧ sv.rel β I w u ∧ ∀ w', (Instr.indexAt t v (.int q i)).run P w' = .ok u w' := by
  unfold indexS at h
  split at h
  · rename_i id off len cap
    split at h
    · rename_i e s by_ ht
      obtain ⟨hu, hes, _⟩ := hT.slice t e s by_ ht
      obtain ⟨h0, h1, h2⟩ := h
      obtain ⟨hlc, off', hv, hoff⟩ := hx
      have ho : off' = off := by rcases hoff with h | h <;> omega
      subst ho
      obtain ⟨sv, b, k, hK, hlow, hp, hr⟩ := shiftP_sound hH (x := .c (.ptr id off')) (v := .pointer (place β id off')) rfl hxl h2
      refine ⟨sv, _, hK, hlow, hr, fun w' => ?_⟩
      have hpl : place β id off' = some ⟨b, k, none⟩ := by simpa using hp
      simp [Instr.indexAt, asIntOf, run_underlying hu, hv, hpl, h0, h1, run_sizeOf' hes, addr_add]
    · exact h.elim
  · rename_i m c
    split at h
    · rename_i e s by_ ht
      obtain ⟨hu, hes, _⟩ := hT.slice t e s by_ ht
      obtain ⟨h0, h1, h2, h3⟩ := h
      obtain ⟨a, cap, hv, hn, hd⟩ := CellD.ds_inv (show CellD I w (.ds m c) v from hx)
      rcases hd with ⟨hz, _⟩ | ⟨b, off, ha, hd⟩
      · omega
      · refine ⟨_, .pointer (some ⟨b, off + i.toNat * s, none⟩), h3, trivial, DatAt.dp hd h2, fun w' => ?_⟩
        simp [Instr.indexAt, asIntOf, run_underlying hu, hv, ha, h0, h1, run_sizeOf' hes, addr_add]
    · exact h.elim
  · split at h
    · rename_i m e s z ht
      obtain ⟨hu, hes, _⟩ := hT.arr t m e s z ht
      obtain ⟨h0, h1, h2⟩ := h
      obtain ⟨sv, b, k, hK, hlow, hv, hr⟩ := shiftP_sound hH hx hxl h2
      refine ⟨sv, _, hK, hlow, hr, fun w' => ?_⟩
      simp [Instr.indexAt, asIntOf, run_underlying hu, hv, Instr.sureAddr, h0, h1, run_sizeOf' hes, addr_add]
    · exact h.elim

theorem TyOK.field (hT : TyOK P ty) {t m : Nat} {fs : List (Nat × Nat × TypeId)} {z : Cont} (ht : ty t = .struct fs m z) {f off sz te : Nat} (hf : fs[f]? = some (off, sz, te)) :
    ∃ fields : Array Field, P.underlying t = some (.struct fields) ∧ ∃ fd : Field, fields[f]? = some fd ∧ fd.offset = off ∧ fd.type = te ∧ (P.info? te).map (·.size) = some sz := by
  obtain ⟨⟨fields, hu, hm, hs⟩, _⟩ := hT.struct t fs m z ht
  refine ⟨fields, hu, ?_⟩
  have h1 : (fs.map (fun f => (f.1, f.2.2)))[f]? = some (off, te) := by simp [hf]
  rw [← hm, List.getElem?_map] at h1
  obtain ⟨fd, hfd, he⟩ := Option.map_eq_some_iff.1 h1
  have h2 : fd.offset = off ∧ fd.type = te := by simpa using he
  exact ⟨fd, by simpa using hfd, h2.1, h2.2, hs _ (List.mem_of_getElem? hf)⟩

theorem fieldAddrS_sound (hT : TyOK P ty) (hH : HeapOK C β n H I w) {t : TypeId} {x : SV} {v : Value} (hx : x.rel β I w v) (hxl : x.low n) {f : Nat} {K : SV → Prop} (h : fieldAddrS ty H t x f K) :
    ∃ sv u, K sv ∧ sv.low n ∧ sv.rel β I w u ∧ ∀ w', (Instr.fieldAt t v f).run P w' = .ok u w' := by
  unfold fieldAddrS at h
  split at h
  · rename_i fs m z ht
    split at h
    · rename_i off sz te hf
      obtain ⟨hsz, h⟩ := h
      obtain ⟨fields, hu, fd, hfd, h1, h2, h3⟩ := hT.field ht hf
      obtain ⟨sv, b, k, hK, hlow, hv, hr⟩ := shiftP_sound hH hx hxl h
      refine ⟨sv, _, hK, hlow, hr, fun w' => ?_⟩
      have h3' : (P.info? fd.type).map (·.size) = some sz := by rw [h2]; exact h3
      have h4 : ¬ (sz = 0) := by omega
      simp [Instr.fieldAt, run_underlying hu, hfd, hv, Instr.sureAddr, fieldPlace, run_sizeOf' h3', h4, h1, addr_add]
    · exact h.elim
  · exact h.elim

theorem fieldS_sound (hT : TyOK P ty) {t : TypeId} {x : SV} {v : Value} (hx : x.rel β I w v) (hxl : x.low n) {f : Nat} {K : SV → Prop} (h : fieldS ty t x f K) :
    ∃ sv u, K sv ∧ sv.low n ∧ sv.rel β I w u ∧ ∀ w', (Instr.field t v f).run P w' = .ok u w' := by
  unfold fieldS at h
  split at h
  · rename_i fs m z c ht
    split at h
    · rename_i off sz te hf
      obtain ⟨hle, h⟩ := h
      obtain ⟨fields, hu, fd, hfd, h1, h2, h3⟩ := hT.field ht hf
      obtain ⟨vs, hv, hr⟩ := hx
      subst h1 h2
      split at h
      · rename_i ho
        obtain ⟨rfl, hK⟩ := h
        obtain ⟨u, hu', hr'⟩ := hr.2 fd.offset (by omega)
        refine ⟨_, u, hK, Cont.get_low hxl _, hr', fun w' => ?_⟩
        simp [Instr.field, run_underlying hu, hfd, hv, asAgg, part, hT.isAgg_one ho w', hu']
      · obtain ⟨hq, _, h0, hK⟩ := h
        refine ⟨_, .agg ((vs.drop fd.offset).take sz).toArray, hK, Cont.sub_low hxl _ _, ⟨_, rfl, Cont.rel_sub hr hle⟩, fun w' => ?_⟩
        have ha : (isAgg fd.type).run P w' = .ok true w' := by
          split at hq
          · rename_i ht'; have := (hT.arr _ _ _ _ _ ht').1; simp [isAgg, run_underlying this]
          · rename_i ht'; obtain ⟨fl, this, _⟩ := (hT.struct _ _ _ _ ht').1; simp [isAgg, run_underlying this]
          · exact hq.elim
        have e : (vs.toArray.extract fd.offset (fd.offset + sz)) = ((vs.drop fd.offset).take sz).toArray := by simp
        simp only [Instr.field, Sem.run_bind, run_underlying hu, Result.andThen_ok, hfd, hv, asAgg, Sem.run_pure, part, ha, if_true, run_sizeOf' h3, e]
    · exact h.elim
  · exact h.elim

/-- A bound as a value, if there is one. -/
def BoundIs (x : Option Value) (i : Option Int) : Prop := match x, i with
  | none, none => True
  | some (.int _ n), some i => n = i
  | _, _ => False

theorem run_sliceBounds' {b : Bool} {len cap : Nat} {lo hi : Option Value} {l h : Option Int} (hlo : BoundIs lo l) (hhi : BoundIs hi h) (h0 : 0 ≤ l.getD 0) (h1 : l.getD 0 ≤ h.getD len) (h2 : h.getD len ≤ cap) (w : World) :
    (Instr.sliceBounds b len cap lo hi none).run P w = .ok ((l.getD 0).toNat, (h.getD len).toNat, cap) w := by
  unfold Instr.sliceBounds
  have hB : ∀ (k : IntKind) (i : Int) (y : Nat) (c : BoundsCode), 0 ≤ i → i ≤ y → (Instr.sliceBound (.int k i) y c).run P w = .ok i.toNat w := fun k i y c a b => run_sliceBound w k i y c a b
  cases hi with
  | none =>
    cases h with
    | some _ => exact hhi.elim
    | none =>
      cases lo with
      | none => cases l with
        | some _ => exact hlo.elim
        | none => simp
      | some lv => cases l with
        | none => cases lv <;> exact hlo.elim
        | some l =>
          cases lv <;> simp only [BoundIs] at hlo
          subst hlo
          simp only [Option.getD_some, Option.getD_none] at h0 h1
          simp [hB _ _ _ _ h0 h1]
  | some hv => cases h with
    | none => cases hv <;> exact hhi.elim
    | some h =>
      cases hv <;> simp only [BoundIs] at hhi
      subst hhi
      simp only [Option.getD_some] at h1 h2
      have hh := hB
      cases lo with
      | none => cases l with
        | some _ => exact hlo.elim
        | none =>
          simp only [Option.getD_none] at h1
          simp [hB _ _ _ _ h1 h2]
      | some lv => cases l with
        | none => cases lv <;> exact hlo.elim
        | some l =>
          cases lv <;> simp only [BoundIs] at hlo
          subst hlo
          simp only [Option.getD_some] at h0 h1
          rename_i q _ _
          simp [hB _ _ _ _ (Int.le_trans h0 h1) h2, hB _ _ _ _ h0 (show _ ≤ ((q.toNat : Nat) : Int) by omega)]

/-- A cut of data, wherever it begins. -/
theorem cutS_sound {m s : Nat} {c : Cont} {lo hi : Option Int} {K : SV → Prop} (hs : 0 < s) (hc : c.len = m * s) (h : cutS m s c lo hi K) :
    (0 ≤ lo.getD 0 ∧ lo.getD 0 ≤ hi.getD m ∧ hi.getD m ≤ m) ∧ ∃ c', K (.c (.ds ((hi.getD m).toNat - (lo.getD 0).toNat) c')) ∧ c'.len = ((hi.getD m).toNat - (lo.getD 0).toNat) * s ∧ ∀ (I : Nat → Prop) (w : World) b off, DatAt I w c b off → DatAt I w c' b (off + (lo.getD 0).toNat * s) := by
  unfold cutS at h
  split at h
  · refine ⟨⟨by simp, by simp, by simp⟩, c, by simpa using h, by simpa using hc, fun I w b off hd => by simpa using hd⟩
  · rename_i l
    obtain ⟨h0, h1, h2⟩ := h
    refine ⟨⟨h0, by simpa using h1, by simp⟩, c.drop (l.toNat * s), by simpa using h2, ?_, fun I w b off hd => ?_⟩
    · simp only [Option.getD_some, Option.getD_none, Int.toNat_natCast, Cont.drop_len, hc, Nat.sub_mul]
    · simpa using hd.drop _
  · rename_i h'
    obtain ⟨h0, h1, h2⟩ := h
    refine ⟨⟨by simp, by simpa using h0, by simpa using h1⟩, c.take (h'.toNat * s), by simpa using h2, ?_, fun I w b off hd => ?_⟩
    · simp only [Option.getD_some, Option.getD_none, Int.toNat_zero, Nat.sub_zero, Cont.take_len, hc]
      have : h'.toNat * s ≤ m * s := Nat.mul_le_mul_right _ (by omega)
      omega
    · simpa using hd.take _
  · rename_i l h'
    obtain ⟨h0, h1, h2, h3⟩ := h
    have h4 : (l.toNat * s) + (h'.toNat - l.toNat) * s ≤ m * s := by
      rw [← Nat.add_mul]; exact Nat.mul_le_mul_right _ (by omega)
    refine ⟨⟨h0, by simpa using h1, by simpa using h2⟩, _, by simpa using h3, ?_, fun I w b off hd => ?_⟩
    · simp only [Option.getD_some, Cont.sub_len, hc]; omega
    · simpa using hd.sub (i := l.toNat * s) (m := (h'.toNat - l.toNat) * s) (by omega)

theorem sliceS_sound (hT : TyOK P ty) (hH : HeapOK C β n H I w) {t : TypeId} {x : SV} {v : Value} (hx : x.rel β I w v) (hxl : x.low n) {lo hi : Option Value} {l h : Option Int} (hlo : BoundIs lo l) (hhi : BoundIs hi h) {K : SV → Prop} (hs : sliceS ty H t x l h K) :
    ∃ sv u, K sv ∧ sv.low n ∧ sv.rel β I w u ∧ ∀ w', (Instr.sliceAt t v lo hi none).run P w' = .ok u w' := by
  unfold sliceS at hs
  split at hs
  · rename_i id off len cap
    split at hs
    · rename_i e s by_ ht
      obtain ⟨hu, hes, _⟩ := hT.slice t e s by_ ht
      obtain ⟨h0, h1, h2, h3⟩ := hs
      obtain ⟨hlc, off', hv, hoff⟩ := hx
      refine ⟨_, .slice (if cap = (l.getD 0).toNat then place β id off' else (place β id off').map (·.add ((l.getD 0).toNat * s))) ((h.getD len).toNat - (l.getD 0).toNat) (cap - (l.getD 0).toNat), h3, hxl, ⟨by omega, ?_⟩, fun w' => ?_⟩
      · split
        · rename_i e
          exact ⟨off', rfl, .inr (by omega)⟩
        · rename_i e
          refine ⟨off' + (l.getD 0).toNat * s, ?_, ?_⟩
          · unfold place; cases β id <;> simp [addr_add]
          · rcases hoff with rfl | h
            · exact .inl rfl
            · exact absurd (by omega) e
      · simp only [Instr.sliceAt, Instr.slice, Sem.run_bind, run_underlying hu, Result.andThen_ok, hv, run_sliceBounds' (P := P) (b := true) hlo hhi h0 h1 h2 w', run_sizeOf' hes, Sem.run_pure]
    · exact hs.elim
  · rename_i m c
    split at hs
    · rename_i e s by_ ht
      obtain ⟨hu, hes, z, _, _, hs0⟩ := hT.slice t e s by_ ht
      obtain ⟨hc, hs⟩ := hs
      obtain ⟨⟨h0, h1, h2⟩, c', hK, hc', hd'⟩ := cutS_sound hs0 hc hs
      obtain ⟨a, cap, hv, hn, hd⟩ := CellD.ds_inv (show CellD I w (.ds m c) v from hx)
      refine ⟨_, .slice (if cap = (l.getD 0).toNat then a else a.map (·.add ((l.getD 0).toNat * s))) ((h.getD m).toNat - (l.getD 0).toNat) (cap - (l.getD 0).toNat), hK, trivial, ?_, fun w' => ?_⟩
      · show CellD I w _ _
        by_cases hz : (h.getD m).toNat - (l.getD 0).toNat = 0
        · rw [hz] at hc' ⊢
          exact .ds0 c' _ _ (by simpa using hc')
        · rcases hd with ⟨_, hm0⟩ | ⟨b, off, ha, hd⟩
          · omega
          · subst ha
            rw [if_neg (by omega)]
            simp only [Option.map_some, addr_add]
            exact (hd' I w b off hd).ds (by omega) (fun h0 => by rw [hc'] at h0; rcases Nat.mul_eq_zero.1 h0 with h | h <;> omega)
      · simp only [Instr.sliceAt, Instr.slice, Sem.run_bind, run_underlying hu, Result.andThen_ok, hv, run_sliceBounds' (P := P) (b := true) hlo hhi h0 h1 (show h.getD (m : Int) ≤ (cap : Nat) by omega) w', run_sizeOf' hes, Sem.run_pure]
    · exact hs.elim
  · split at hs
    · rename_i e s by_ ht
      obtain ⟨hu, hes, _⟩ := hT.slice t e s by_ ht
      obtain ⟨h0, h1, h3⟩ := hs
      have hv : v = .slice none 0 0 := CellD.of_flat rfl hx
      refine ⟨_, .slice none 0 0, h3, trivial, CellD.flat _ rfl, fun w' => ?_⟩
      simp only [Instr.sliceAt, Instr.slice, Sem.run_bind, run_underlying hu, Result.andThen_ok, hv, run_sliceBounds' (P := P) (b := true) (len := 0) (cap := 0) hlo hhi (by omega) (by simp [h0, h1]) (by simp [h1]) w', run_sizeOf' hes, Sem.run_pure]
      simp [h0, h1]
    · exact hs.elim
  · rename_i id off
    split at hs
    · rename_i m e s z ht
      obtain ⟨hu, hes, _⟩ := hT.arr t m e s z ht
      obtain ⟨hth, h0, h1, h2, h3⟩ := hs
      split at hth
      · rename_i t' c cap hid
        obtain ⟨b, hb, _⟩ := hH.cellsAt hid hth
        have hv : v = .pointer (some ⟨b, off, none⟩) := by have : v = .pointer (place β id off) := hx; rw [this]; simp [place, hb]
        refine ⟨_, .slice (some (if m = (l.getD 0).toNat then ⟨b, off, none⟩ else (⟨b, off, none⟩ : Addr).add ((l.getD 0).toNat * s))) ((h.getD m).toNat - (l.getD 0).toNat) (m - (l.getD 0).toNat), h3, hxl, ⟨by omega, ?_⟩, fun w' => ?_⟩
        · split
          · rename_i e
            exact ⟨off, by simp [place, hb], .inr (by omega)⟩
          · exact ⟨off + (l.getD 0).toNat * s, by simp [place, hb, addr_add], .inl rfl⟩
        · simp only [Instr.sliceAt, Sem.run_bind, run_underlying hu, Result.andThen_ok, hv, Instr.sureAddr, run_sliceBounds' (P := P) (b := false) hlo hhi h0 h1 h2 w', run_sizeOf' hes, Sem.run_pure]
      · exact hth.elim
    · exact hs.elim
  · rename_i c off
    split at hs
    · rename_i m e s z ht
      obtain ⟨hu, hes, _⟩ := hT.arr t m e s z ht
      obtain ⟨hpos, hle, hs⟩ := hs
      obtain ⟨b, k, hv, ho, hd⟩ := CellD.dp_inv (show CellD I w (.dp c off) v from hx)
      have hs0 : 0 < s := Nat.pos_of_ne_zero (fun e => by simp [e] at hpos)
      obtain ⟨c1, hc1, hd1, hs⟩ : ∃ c1 : Cont, c1.len = m * s ∧ DatAt I w c1 b (k + off) ∧ cutS m s c1 l h K := by
        split at hs
        · rename_i hz
          exact ⟨c, hz.2, by rw [hz.1]; exact hd, hs⟩
        · exact ⟨_, by rw [Cont.sub_len]; omega, hd.sub hle, hs⟩
      obtain ⟨⟨h0, h1, h2⟩, c', hK, hc', hd'⟩ := cutS_sound hs0 hc1 hs
      refine ⟨_, .slice (some (if m = (l.getD 0).toNat then ⟨b, k + off, none⟩ else (⟨b, k + off, none⟩ : Addr).add ((l.getD 0).toNat * s))) ((h.getD m).toNat - (l.getD 0).toNat) (m - (l.getD 0).toNat), hK, trivial, ?_, fun w' => ?_⟩
      · show CellD I w _ _
        by_cases hz : (h.getD m).toNat - (l.getD 0).toNat = 0
        · rw [hz] at hc' ⊢
          exact .ds0 c' _ _ (by simpa using hc')
        · rw [if_neg (by omega), addr_add]
          exact (hd' I w b _ hd1).ds (by omega) (fun h0 => by rw [hc'] at h0; rcases Nat.mul_eq_zero.1 h0 with h | h <;> omega)
      · simp only [Instr.sliceAt, Sem.run_bind, run_underlying hu, Result.andThen_ok, hv, Instr.sureAddr, run_sliceBounds' (P := P) (b := false) hlo hhi h0 h1 h2 w', run_sizeOf' hes, Sem.run_pure]
    · exact hs.elim
  · rename_i str
    split at hs
    · rename_i ht
      have hu := hT.str t ht
      obtain ⟨h0, h1, h2, h3⟩ := hs
      have hv : v = (Cell.str str).val := CellD.of_flat rfl hx
      refine ⟨_, _, h3, trivial, Cell.rel_val (β := β) (x := .str _) rfl, fun w' => ?_⟩
      have hsz : (⟨str.toArray⟩ : ByteArray).size = str.length := by simp [ByteArray.size]
      have hbs := run_sliceBounds' (P := P) (b := false) (len := str.length) (cap := str.length) hlo hhi h0 h1 h2 w'
      simp only [Instr.sliceAt, Instr.slice, Sem.run_bind, run_underlying hu, Result.andThen_ok, hv, Cell.val, hsz, Option.isSome_none, Bool.false_eq_true, if_false, hbs, Sem.run_pure]
      congr 2
      apply ByteArray.ext
      simp [List.take_drop]
    · exact hs.elim
  · exact hs.elim
end
end Go.Ab
