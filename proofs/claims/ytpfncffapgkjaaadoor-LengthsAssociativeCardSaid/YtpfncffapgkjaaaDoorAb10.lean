/- One operation: what it gives, what it does to the rows. -/
import Derived.Test.YtpfncffapgkjaaaDoorAb9
namespace Go.Ab
set_option linter.unusedVariables false
open Go.RowKit
section
variable {P : Program} {C : CC} {β : Val} {n : Nat} {H : Heap} {I : Nat → Prop} {w : World} {E : Env} {a : Act} {Γ : Ctx}

/-- A call by the contract: new memory only. -/
def callG (Γ : Ctx) (f : FuncId) (vs : List SV) (H : Heap) (n : Nat) (K : SV → Heap → Nat → Prop) : Prop :=
  match lookSpec Γ.fs f with
  | some (.flat q) => viewS Γ.ty H vs fun us => q us fun v => K v H n
  | some (.data q) => viewS Γ.ty H vs fun us => q us fun v => K v (H.delAll (vs.flatMap SV.ids)) n
  | some (.own q) => viewS Γ.ty H vs fun us => q us fun t s len c => c.flat = true ∧ ∀ cap, len ≤ cap → K (.c (.slice n 0 len cap)) ((n, .own t c (cap * s)) :: H) (n + 1)
  | some (.ownD q) => viewS Γ.ty H vs fun us => q us fun t s len c => ∀ cap, len ≤ cap → K (.c (.slice n 0 len cap)) ((n, .own t c (cap * s)) :: H.delAll (vs.flatMap SV.ids)) (n + 1)
  | _ => False

/-- The called function and its arguments. -/
def calleeS (x : SV) (vs : List SV) (K : FuncId → List SV → Prop) : Prop :=
  match x with
  | .c (.clo f []) => K f vs
  | .c (.clo f caps) => K f (vs ++ caps.map .c)
  | _ => False

def callRel (β : Val) (n : Nat) (I : Nat → Prop) (w : World) (vs : List SV) (xs : List Value) : Prop :=
  xs.length = vs.length ∧ ∀ (j : Nat) v, vs[j]? = some v → ∃ x, xs[j]? = some x ∧ v.rel β I w x ∧ v.low n

theorem calleeS_sound {x : SV} {v : Value} (hx : x.rel β I w v) (hxl : x.low n) {vs : List SV} {xs : List Value} (hr : callRel β n I w vs xs) {K : FuncId → List SV → Prop} (h : calleeS x vs K) :
    ∃ f vs' cs, K f vs' ∧ v = .func (.func f) #[] cs ∧ callRel β n I w vs' (xs ++ cs.toList) := by
  have key : ∀ f caps, x = .c (.clo f caps) → K f (vs ++ caps.map .c) → ∃ f vs' cs, K f vs' ∧ v = .func (.func f) #[] cs ∧ callRel β n I w vs' (xs ++ cs.toList) := by
    rintro f caps rfl hK
    obtain ⟨g, rfl, hg⟩ := hx
    refine ⟨f, _, _, hK, rfl, by simp [hr.1], fun j v hv => ?_⟩
    by_cases hj : j < vs.length
    · rw [List.getElem?_append_left hj] at hv
      obtain ⟨y, hy, h2⟩ := hr.2 j v hv
      exact ⟨y, by rw [List.getElem?_append_left (by rw [hr.1]; exact hj)]; exact hy, h2⟩
    · rw [List.getElem?_append_right (by omega), List.getElem?_map] at hv
      obtain ⟨y, hy, rfl⟩ := Option.map_eq_some_iff.1 hv
      have hlt : j - vs.length < caps.length := (List.getElem?_eq_some_iff.1 hy).1
      refine ⟨g (j - vs.length), ?_, ?_, ?_⟩
      · rw [List.getElem?_append_right (by rw [hr.1]; omega), hr.1]
        simp [hlt]
      · have := hg _ hlt
        rw [List.getD_eq_getElem?_getD, hy, Option.getD_some] at this
        rcases Cell.clo_or y with ⟨f', cs', rfl⟩ | hnc
        · exact Cell.rel_of (show CellD I w _ _ from this)
        · show y.rel β I w _
          rw [Cell.rel_eq hnc]; exact this
      · have hy' : y.low1 n := hxl y (List.mem_of_getElem? hy)
        rcases Cell.clo_or y with ⟨f', cs', rfl⟩ | hnc
        · have := hg _ hlt
          rw [List.getD_eq_getElem?_getD, hy, Option.getD_some] at this
          exact CellD.low (show CellD I w _ _ from this)
        · show y.low n
          rw [Cell.low_eq hnc]; exact hy'
  unfold calleeS at h
  split at h
  · exact key _ [] rfl (by simpa using h)
  · exact key _ _ rfl h
  · exact h.elim

theorem viewS_data (hH : HeapOK C β n H I w) {vs : List SV} {xs : List Value} (hr : callRel β n I w vs xs) {ty : Nat → Ty} {K : List SV → Prop} (h : viewS ty H vs K) : ∃ us, K us ∧ ArgsD (withRows β H (vs.flatMap SV.ids) I) w us xs :=
  viewS_sound hH hr.1 hr.2 (fun v hv i hi => List.mem_flatMap.2 ⟨v, hv, hi⟩) h

theorem own_flat {t : TypeId} {c : Cont} {cap : Nat} {β' : Val} {I' : Nat → Prop} {w' : World} {ad : Option Nat} (hf : c.flat = true) (h : (SObj.own t c cap).Holds β I w' ad) : (SObj.own t c cap).Holds β' I' w' ad := by
  rcases h with ⟨b, arr, h1, h2, h3, h4, h5⟩ | h
  · exact .inl ⟨b, arr, h1, h2, h3, h4, (Cont.rel_flat hf).2 ((Cont.rel_flat hf).1 h5)⟩
  · exact .inr h

theorem callG_sound (hΓ : Γ.OK) (hG : GlobOK Γ.glob I w) (hH : HeapOK C β n H I w) {f : FuncId} {vs : List SV} {xs : List Value} (hr : callRel β n I w vs xs) {K : SV → Heap → Nat → Prop} (h : callG Γ f vs H n K) :
    Enters Γ.P f ∧ Calls Γ.P f xs.toArray w fun e w' => ∃ x, e = .returned x ∧ AfterG C β n I w K x w' := by
  have hGi : GlobOK Γ.glob (withRows β H (vs.flatMap SV.ids) I) w := hG.mono (Ext.widen fun b h => .inl h)
  unfold callG at h
  split at h
  · rename_i q hq
    obtain ⟨hen, hok⟩ := hΓ.fs.look hq
    obtain ⟨us, h, hargs⟩ := viewS_data hH hr h
    obtain ⟨v, hK, hf, hc⟩ := hok us _ h
    refine ⟨hen, (hc _ w xs hGi (withRows_lt hH) hargs).mono ?_⟩
    rintro e w' ⟨rfl, hs⟩
    exact ⟨_, rfl, hs, v, H, n, β, I, hK, (SV.rel_flat hf).2 rfl, SV.flat_low hf, Nat.le_refl _, fun _ _ => rfl, hH.ext hs, hH.later hs⟩
  · rename_i q hq
    obtain ⟨hen, hok⟩ := hΓ.fs.look hq
    obtain ⟨us, h, hargs⟩ := viewS_data hH hr h
    obtain ⟨v, hK, hl, hc⟩ := hok us _ h
    refine ⟨hen, (hc _ w xs hGi (withRows_lt hH) hargs).mono ?_⟩
    rintro e w' ⟨x, I', rfl, hv, hg⟩
    exact ⟨_, rfl, after_data hH hv hl hg hK⟩
  · rename_i q hq
    obtain ⟨hen, hok⟩ := hΓ.fs.look hq
    obtain ⟨us, h, hargs⟩ := viewS_data hH hr h
    obtain ⟨t, s, len, c, ⟨hf, hK⟩, hl, hc⟩ := hok us _ h
    refine ⟨hen, (hc _ w xs hGi (withRows_lt hH) hargs).mono ?_⟩
    rintro e w' ⟨x, I', rfl, ⟨ad, cap, o, rfl, ho, hlc, hcl, hh, hnew⟩, hg⟩
    have hH1 := hH.later hg.same
    refine ⟨_, rfl, hg.same, _, _, n + 1, upd β n ad, I, hK cap hlc, ⟨hlc, o, by simp [place, upd_same], ho⟩, Nat.lt_succ_self n, Nat.le_succ _, upd_lt, hH.ext hg.same, ?_⟩
    refine hH1.name (own_flat hf hh) (Cont.flat_low hf) (fun b hb => .inl (Nat.le_trans hH.size (hnew b hb).1)) (fun id o ho b hb hb' => ?_) (fun b hb hI => ?_)
    · have := (hH.holds id o ho).lt hb
      have := (hnew b hb').1
      omega
    · have := hH.ilt b hI
      have := (hnew b hb).1
      omega
  · rename_i q hq
    obtain ⟨hen, hok⟩ := hΓ.fs.look hq
    obtain ⟨us, h, hargs⟩ := viewS_data hH hr h
    obtain ⟨t, s, len, c, hK, hl, hc⟩ := hok us _ h
    refine ⟨hen, (hc _ w xs hGi (withRows_lt hH) hargs).mono ?_⟩
    rintro e w' ⟨x, I', rfl, ⟨ad, cap, o, rfl, ho, hlc, hcl, hh, hnew⟩, hg⟩
    obtain ⟨hE, hH'⟩ := data_heap hH hg
    refine ⟨_, rfl, hg.same, _, _, n + 1, upd β n ad, I', hK cap hlc, ⟨hlc, o, by simp [place, upd_same], ho⟩, Nat.lt_succ_self n, Nat.le_succ _, upd_lt, hE, ?_⟩
    refine hH'.name (hh.mono (n := 0) (fun i hi => absurd hi (Nat.not_lt_zero i)) (Ext.refl _ _) hl fun _ _ => rfl) (Cont.low_mono (Nat.zero_le _) hl) (fun b hb => .inl (Nat.le_trans hH.size (hnew b hb).1)) (fun id o ho b hb hb' => ?_) (fun b hb => (hnew b hb).2)
    rw [Heap.get_delAll] at ho
    split at ho
    · cases ho
    · have := (hH.holds id o ho).lt hb
      have := (hnew b hb').1
      omega
  · exact h.elim

/-! ### one operation -/

theorem evs_callRel {D : List Deferred} {glob : Nat → Option Cont} (hE : EnvOK D β n I w E a) (hG : GlobOK glob I w) {xs : List Operand} {K : List SV → Prop} (h : evs glob E xs K) : ∃ vs, K vs ∧ callRel β n I w vs (xs.map a.eval) := by
  obtain ⟨vs, hK, hlow, hl, hr⟩ := evs_sound hE hG h
  refine ⟨vs, hK, by simp [hl], fun j v hv => ?_⟩
  have hj : j < xs.length := by rw [← hl]; exact (List.getElem?_eq_some_iff.1 hv).1
  exact ⟨a.eval xs[j], by simp [hj], hr j _ v (List.getElem?_eq_getElem hj) hv, hlow v (List.mem_of_getElem? hv)⟩

theorem exec_call {o : Oper} {c : Call} {x : Operand} {f : FuncId} {cs : Array Value} (ho : o.op = .call c) (hc : c.callee = .value x) (hx : a.eval x = .func (.func f) #[] cs) (he : Enters P f) :
    (execOp a.eval o).run P w = .ok (.enter f (c.args.toList.map a.eval ++ cs.toList).toArray) w := by
  have e : c.args.map a.eval ++ cs = (c.args.toList.map a.eval ++ cs.toList).toArray := by
    apply Array.ext'; simp
  simp only [execOp, ho, resolve, hc, hx, Deferred.ofValue, Sem.run_bind, Sem.run_pure, Result.andThen_ok, invoke, Array.empty_append, e, he _ _]

/-- What an operation gives that writes nothing that was there. -/
def growS (Γ : Ctx) (o : Oper) (E : Env) (H : Heap) (n : Nat) (K : SV → Heap → Nat → Prop) : Prop :=
  match o.op with
  | .alloc t => allocS Γ.ty t H n K
  | .box t x => onV (E.ev Γ.glob x) fun v => boxS v t H n K
  | .buildSlice t len parts => parts.toList.map (·.1) = List.range len ∧ evs Γ.glob E (parts.toList.map (·.2)) fun vs => buildSliceS Γ.ty t len vs H n K
  | .makeSlice t l c => onI (E.ev Γ.glob l) fun l => onI (E.ev Γ.glob c) fun c => makeS Γ.ty t l c H n K
  | .build t parts => evs Γ.glob E (parts.toList.map (·.2)) fun vs => buildV Γ.ty t ((parts.toList.map (·.1)).zip vs) fun v => K v H n
  | .makeMap t none => makeMapS Γ.ty t H n K
  | .convert src dst x => match Γ.ty src with
    | .str => onV (E.ev Γ.glob x) fun v => strBytesS Γ.ty src dst v fun v => K v H n
    | _ => pureS Γ.ty Γ.glob o E H fun v => K v H n
  | .call c => match c.callee with
    | .value x => onV (E.ev Γ.glob x) fun x => evs Γ.glob E c.args.toList fun vs => calleeS x vs fun f vs => callG Γ f vs H n K
    | _ => pureS Γ.ty Γ.glob o E H fun v => K v H n
  | _ => pureS Γ.ty Γ.glob o E H fun v => K v H n

def genS (Γ : Ctx) (f : FuncId) (vs : List SV) (H : Heap) (n : Nat) (K : SV → Heap → Nat → Prop) : Prop :=
  match lookSpec Γ.fs f with
  | some (.gen s) => s vs H n K
  | _ => callG Γ f vs H n K

/-- '[]byte(x)' of an own slice of bytes: the row is marked, and data from now on. -/
def markS (ty : Nat → Ty) (t : TypeId) (v : SV) (H : Heap) (n : Nat) (K : SV → Heap → Nat → Prop) : Prop :=
  match ty t, v with
  | .slice e s _, .c (.slice id off len _) => match H.get id with
    | some (.own _ (.u8s l) _) => (ty e = .int .u8 ∧ s = 1 ∧ off = 0 ∧ len = l.length ∧ 0 < len) ∧ K (.c (.ds len (.u8s l))) (H.del id) n
    | _ => False
  | _, _ => False

theorem Heap.del_sub {id i : Nat} {o : SObj} : ∀ {H : Heap}, (H.del id).get i = some o → i ≠ id ∧ H.get i = some o
  | [], h => by cases h
  | (j, p) :: H, h => by
    simp only [Heap.del] at h
    by_cases hj : j = id
    · rw [if_pos hj] at h
      obtain ⟨h1, h2⟩ := Heap.del_sub h
      refine ⟨h1, ?_⟩
      simp only [Heap.get]
      rw [if_neg (fun e => h1 (by rw [← e, hj]))]
      exact h2
    · rw [if_neg hj] at h
      simp only [Heap.get] at h ⊢
      by_cases e : j = i
      · rw [if_pos e] at h ⊢
        exact ⟨fun e2 => hj (e.trans e2), h⟩
      · rw [if_neg e] at h ⊢
        exact Heap.del_sub h

theorem run_markS {P : Program} {ty : Nat → Ty} (hT : TyOK P ty) (hH : HeapOK C β n H I w) {t : TypeId} {v : SV} {x : Value} (hx : v.rel β I w x) {K : SV → Heap → Nat → Prop} (h : markS ty t v H n K) :
    ∃ u w', (convert t t x).run P w = .ok u w' ∧ After C β n I w K u w' := by
  unfold markS at h
  split at h
  · rename_i e s by_ id off len cap ht
    split at h
    · rename_i te l capc hid
      obtain ⟨⟨he, hs1, hoff, hlen, hpos⟩, hK⟩ := h
      subst hoff hlen
      obtain ⟨hlc, off', hv, ho⟩ := hx
      have h0 : off' = 0 := by rcases ho with h | h <;> omega
      subst h0
      rcases hH.holds id _ hid with ⟨b, arr, hb, hw, hsz, hle, hrel⟩ | ⟨_, h0, _⟩
      · have hpl : place β id 0 = some ⟨b, 0, none⟩ := by simp [place, hb]
        rw [hpl] at hv
        subst hv
        have hsh : w.shape? b = some (te, arr.size) := by unfold World.shape?; rw [hw]
        have hwb : (w.freeze ⟨b, arr.size, none⟩ 1).heap[b]? = some (.cells arr te (arr.size, arr.size + 1)) := by
          unfold World.freeze
          rw [if_neg (by decide)]
          simp [Array.getElem?_modify, hw]
        have hoth : ∀ k, k ≠ b → (w.freeze ⟨b, arr.size, none⟩ 1).heap[k]? = w.heap[k]? := fun k hk => by
          unfold World.freeze
          rw [if_neg (by decide)]
          simp [Array.getElem?_modify, Ne.symm hk]
        have hsize : (w.freeze ⟨b, arr.size, none⟩ 1).heap.size = w.heap.size := by
          unfold World.freeze
          rw [if_neg (by decide)]
          simp
        have hrun : (convert t t (.slice (some ⟨b, 0, none⟩) l.length cap)).run P w = .ok (.slice (some ⟨b, 0, none⟩) l.length cap) (w.freeze ⟨b, arr.size, none⟩ 1) := by
          simp [convert, run_underlying (hT.slice _ _ _ _ ht).1, run_underlying (hT.int _ _ he), markStringish, hsh]
        obtain ⟨w', hw'⟩ : ∃ w', w.freeze ⟨b, arr.size, none⟩ 1 = w' := ⟨_, rfl⟩
        have hos : w'.os = w.os := by rw [← hw']; rfl
        have htape : w'.tape = w.tape := by rw [← hw']; rfl
        have hout : w'.output = w.output := by rw [← hw']; rfl
        rw [hw'] at hwb hoth hsize hrun
        have hbs : b < w.heap.size := (hH.holds id _ hid).lt hb
        have hIb : ¬ I b := hH.off id _ hid b hb
        have hE : Ext I w (fun k => I k ∨ k = b) w' := fun k hk => ⟨.inl hk, hoth k (fun e => hIb (e ▸ hk))⟩
        refine ⟨_, w', hrun, .c (.ds l.length (.u8s l)), H.del id, n, β, fun k => I k ∨ k = b, hK, ?_, trivial, Nat.le_refl _, fun _ _ => rfl, hE, ?_⟩
        · refine DatAt.ds (c := .u8s l) ⟨.inr rfl, fun j hj => ?_⟩ hlc (fun h => h)
          simp only [Cont.len] at hj hle hrel
          have hr := (Cont.rel_flat (c := .u8s l) rfl).1 hrel
          have hja : j < arr.size := by omega
          refine ⟨arr[j], by rw [Nat.zero_add, cell_of_row w' b j arr te _ hwb]; simp [hja], ?_⟩
          have e1 : arr[j] = (Cell.u8 (l.getD j 0)).val := by
            have := congrArg (fun z => z[j]?) hr
            simp [Cont.vals, Cont.list, hja, hj, List.getElem?_take_of_lt hj] at this
            rw [this]
            simp [List.getD_eq_getElem?_getD, hj]
          rw [e1]
          exact CellD.flat (.u8 _) rfl
        · have hne : ∀ i o, (H.del id).get i = some o → i ≠ id ∧ H.get i = some o := fun i o h => Heap.del_sub h
          have hblk : ∀ i o, i ≠ id → H.get i = some o → ∀ k, β i = some k → k ≠ b := fun i o hi ho k hk e => hH.sep i id o _ hi ho hid k hk (e ▸ hb)
          refine ⟨hos.trans hH.os, htape.trans hH.tape, hout.trans hH.output, by rw [hsize]; exact hH.size, ?_, ?_, ?_, ?_, ?_, ?_, ?_, ?_, fun k hk => .inl (hH.base k hk)⟩
          · intro k hk hF
            rw [hoth k ?_]
            · exact hH.frame k hk hF
            · intro e
              rcases hH.fresh id _ hid b hb with h1 | h1
              · omega
              · exact hF (e ▸ h1)
          · intro i o h
            obtain ⟨hi, ho⟩ := hne i o h
            have hh := hH.holds i o ho
            exact hh.mono (n := n) (fun _ _ => rfl) hE (hH.low i o ho).2 fun k hk => hoth k (hblk i o hi ho k hk)
          · intro i o h; exact hH.low i o (hne i o h).2
          · intro i o h; exact hH.fresh i o (hne i o h).2
          · intro i j oi oj hij hi hj; exact hH.sep i j oi oj hij (hne i oi hi).2 (hne j oj hj).2
          · intro i o h k hk hI
            obtain ⟨hi, ho⟩ := hne i o h
            rcases hI with h1 | h1
            · exact hH.off i o ho k hk h1
            · exact hblk i o hi ho k hk h1
          · intro k hk
            rw [hsize]
            rcases hk with h1 | h1
            · exact hH.ilt k h1
            · rw [h1]; exact hbs
          · intro k hk
            rcases hk with h1 | h1
            · exact hH.i0 k h1
            · rw [h1]; exact .inr (hH.fresh id _ hid b hb)
      · simp only [Cont.len] at h0; omega
    · exact h.elim
  · exact h.elim

def stepS (Γ : Ctx) (o : Oper) (E : Env) (H : Heap) (n : Nat) (K : SV → Heap → Nat → Prop) : Prop :=
  match o.op with
  | .store t x y => onV (E.ev Γ.glob x) fun x => onV (E.ev Γ.glob y) fun y => match x with
    | .c (.ptr id off) => storeS Γ.ty t id off y H n K
    | _ => False
  | .mapUpdate t m k v => onV (E.ev Γ.glob m) fun m => onV (E.ev Γ.glob k) fun k => onV (E.ev Γ.glob v) fun v => mapUpdS Γ.ty t m k v H n K
  | .insert t m k v => onV (E.ev Γ.glob m) fun m => onV (E.ev Γ.glob k) fun k => onV (E.ev Γ.glob v) fun v => mapUpdS Γ.ty t m k v H n K
  | .call c => match c.callee with
    | .value x => onV (E.ev Γ.glob x) fun x => evs Γ.glob E c.args.toList fun vs => calleeS x vs fun f vs => genS Γ f vs H n K
    | .builtin .append => match c.args.toList, c.argTypes.toList with
      | [x, y], [t, u] => onV (E.ev Γ.glob x) fun x => onV (E.ev Γ.glob y) fun y => appendS Γ.ty t u x y H n K
      | _, _ => False
    | _ => pureS Γ.ty Γ.glob o E H fun v => K v H n
  | .convert src dst x => match Γ.ty src, Γ.ty dst with
    | .slice _ _ _, .slice _ _ _ => src = dst ∧ onV (E.ev Γ.glob x) fun v => markS Γ.ty src v H n K
    | _, _ => growS Γ o E H n K
  | _ => growS Γ o E H n K

theorem partsRel_of {parts : Array (Nat × Operand)} {vs : List SV} (h : callRel β n I w vs ((parts.toList.map (·.2)).map a.eval)) :
    partsRel β I w ((parts.toList.map (·.1)).zip vs) (parts.toList.map fun (x : Nat × Operand) => (x.1, a.eval x.2)) ∧ ∀ v ∈ ((parts.toList.map (·.1)).zip vs).map (·.2), SV.low n v := by
  have hl : vs.length = parts.toList.length := by rw [← h.1]; simp
  refine ⟨⟨by simp [hl], fun j i v hj => ?_⟩, fun v hv => ?_⟩
  · obtain ⟨h1, h2⟩ := List.getElem?_zip_eq_some.1 hj
    obtain ⟨x, hx, hr, _⟩ := h.2 j v h2
    simp only [List.getElem?_map] at h1 hx ⊢
    obtain ⟨q, hq, rfl⟩ := Option.map_eq_some_iff.1 h1
    rw [hq] at hx ⊢
    simp only [Option.map_some, Option.some.injEq] at hx ⊢
    exact ⟨x, by rw [← hx], hr⟩
  · rw [List.map_snd_zip (by simp [hl])] at hv
    obtain ⟨j, hj, rfl⟩ := List.mem_iff_getElem.1 hv
    obtain ⟨x, _, _, hlow⟩ := h.2 j _ (List.getElem?_eq_getElem hj)
    exact hlow

theorem exec_build {o : Oper} {t : TypeId} {parts : Array (Nat × Operand)} {v : Value} (ho : o.op = .build t parts) (h : (Instr.build t (parts.toList.map fun (x : Nat × Operand) => (x.1, a.eval x.2)).toArray).run P w = .ok v w) : (execOp a.eval o).run P w = .ok (.value v) w := by
  have e : parts.map (fun (x : Nat × Operand) => (x.1, a.eval x.2)) = (parts.toList.map fun (x : Nat × Operand) => (x.1, a.eval x.2)).toArray := by rw [← Array.toList_map, Array.toArray_toList]
  simp only [execOp, ho, e]
  exact run_value _ h

theorem Runs.mono {o : Oper} {R R' : Value → World → Prop} (h : Runs P a o w R) (hR : ∀ v w', R v w' → R' v w') : Runs P a o w R' := by
  unfold Runs at h ⊢
  split at h
  · exact hR _ _ h
  · exact hR _ _ h
  · exact Calls.mono h fun e w'' ⟨v, he, hr⟩ => ⟨v, he, hR _ _ hr⟩
  · exact h.elim

theorem growS_sound {D : List Deferred} (hΓ : Γ.OK) (hE : EnvOK D β n I w E a) (hG : GlobOK Γ.glob I w) (hH : HeapOK C β n H I w) {o : Oper} {K : SV → Heap → Nat → Prop} (h : growS Γ o E H n K) : Runs Γ.P a o w (AfterG C β n I w K) := by
  have pure : pureS Γ.ty Γ.glob o E H (fun v => K v H n) → Runs Γ.P a o w (AfterG C β n I w K) := fun h => (pureS_sound (P := Γ.P) hΓ.ty hG hE hH h).runs hH
  unfold growS at h
  split at h
  · rename_i t ho; exact run_allocS hΓ.ty hH ho h
  · rename_i t x ho
    obtain ⟨v, hv, hb, h⟩ := onV_sound hE hG h
    exact run_boxS hH ho hv hb h
  · rename_i t len parts ho
    obtain ⟨hp, h⟩ := h
    obtain ⟨vs, h, hlow, hl, hr⟩ := evs_sound hE hG h
    exact run_buildSliceS hΓ.ty hH ho hp ⟨by simpa using hl, hr⟩ hlow h
  · rename_i t l c ho
    obtain ⟨kl, il, hl, h⟩ := onI_sound hE hG h
    obtain ⟨kc, ic, hc, h⟩ := onI_sound hE hG h
    obtain ⟨v, w', hr, hA⟩ := run_makeS (P := Γ.P) (kl := kl) (kc := kc) hΓ.ty hH h
    refine Runs.of_value (w' := w') (v := v) ?_ hA
    simp only [execOp, ho, hl, hc]
    exact congrArg _ (by rfl) |>.trans (by simp [hr])
  · rename_i t parts ho
    obtain ⟨vs, h, hr⟩ := evs_callRel hE hG h
    obtain ⟨hp, hlow⟩ := partsRel_of hr
    obtain ⟨v, x, hK, hl, hrel, hrun⟩ := run_buildV (P := Γ.P) hΓ.ty hp hlow h
    exact Runs.of_value (exec_build ho (hrun w)) ⟨Below.refl _ _, v, H, n, β, I, hK, hrel, hl, Nat.le_refl _, fun _ _ => rfl, Ext.refl _ _, hH⟩
  · rename_i t ho
    exact run_makeMapS hH ho h
  · rename_i src dst x ho
    split at h
    · obtain ⟨v, hv, hb, h⟩ := onV_sound hE hG h
      obtain ⟨u, w', hr, hA⟩ := run_strBytesS (P := Γ.P) hΓ.ty hH hv h
      refine Runs.of_value (w' := w') (v := u) ?_ hA
      simp only [execOp, ho]
      exact congrArg _ (by rfl) |>.trans (by simp [hr])
    · exact pure h
  · rename_i c ho
    split at h
    · rename_i x hc
      obtain ⟨vx, hvx, hxl, h⟩ := onV_sound hE hG h
      obtain ⟨vs, h, hr⟩ := evs_callRel hE hG h
      obtain ⟨f, vs', cs, h, hf, hr'⟩ := calleeS_sound hvx hxl hr h
      obtain ⟨he, hcall⟩ := callG_sound hΓ hG hH hr' h
      unfold Runs
      rw [exec_call ho hc hf he]
      exact hcall
    · exact pure h
  · exact pure h

theorem stepS_sound {D : List Deferred} (hΓ : Γ.OK) (hE : EnvOK D β n I w E a) (hG : GlobOK Γ.glob I w) (hH : HeapOK C β n H I w) {o : Oper} {K : SV → Heap → Nat → Prop} (h : stepS Γ o E H n K) : Runs Γ.P a o w (After C β n I w K) := by
  have pure : pureS Γ.ty Γ.glob o E H (fun v => K v H n) → Runs Γ.P a o w (After C β n I w K) := fun h => ((pureS_sound (P := Γ.P) hΓ.ty hG hE hH h).runs hH).mono fun _ _ h => h.2
  unfold stepS at h
  split at h
  · rename_i t x y ho
    obtain ⟨vx, hvx, hbx, h⟩ := onV_sound hE hG h
    obtain ⟨vy, hvy, hby, h⟩ := onV_sound hE hG h
    split at h
    · exact run_storeS hΓ.ty hH ho hvx hvy hby h
    · exact h.elim
  · rename_i t m k v ho
    obtain ⟨vm, hvm, hbm, h⟩ := onV_sound hE hG h
    obtain ⟨vk, hvk, hbk, h⟩ := onV_sound hE hG h
    obtain ⟨vv, hvv, hbv, h⟩ := onV_sound hE hG h
    obtain ⟨w', hr, hA⟩ := run_mapUpdS (P := Γ.P) hΓ.ty hH hvm hvk hvv hbk hbv h
    exact Runs.of_skip (by simp [execOp, ho, hr]) hA
  · rename_i t m k v ho
    obtain ⟨vm, hvm, hbm, h⟩ := onV_sound hE hG h
    obtain ⟨vk, hvk, hbk, h⟩ := onV_sound hE hG h
    obtain ⟨vv, hvv, hbv, h⟩ := onV_sound hE hG h
    obtain ⟨w', hr, hA⟩ := run_mapUpdS (P := Γ.P) hΓ.ty hH hvm hvk hvv hbk hbv h
    exact Runs.of_skip (by simp [execOp, ho, hr]) hA
  · rename_i c ho
    split at h
    · rename_i x hc
      obtain ⟨vx, hvx, hxl, h⟩ := onV_sound hE hG h
      obtain ⟨vs, h, hr⟩ := evs_callRel hE hG h
      obtain ⟨f, vs', cs, h, hf, hr'⟩ := calleeS_sound hvx hxl hr h
      unfold genS at h
      split at h
      · rename_i s hs
        obtain ⟨he, hok⟩ := hΓ.fs.look hs
        unfold Runs
        rw [exec_call ho hc hf he]
        exact hok C β n H I w vs' _ K hG hH hr'.1 hr'.2 h
      · obtain ⟨he, hcall⟩ := callG_sound hΓ hG hH hr' h
        unfold Runs
        rw [exec_call ho hc hf he]
        exact hcall.mono fun e w' ⟨x, h1, h2⟩ => ⟨x, h1, h2.2⟩
    · rename_i hc
      split at h
      · rename_i x y t u hl ht
        obtain ⟨vx, hvx, hbx, h⟩ := onV_sound hE hG h
        obtain ⟨vy, hvy, hby, h⟩ := onV_sound hE hG h
        obtain ⟨v, w', hr, hA⟩ := run_appendS (P := Γ.P) (ty' := o.type) hΓ.ty hH hvx hvy h
        refine Runs.of_value ?_ hA
        have ea : c.argTypes = #[t, u] := by
          have := congrArg List.toArray ht
          simpa using this
        have el : c.args = #[x, y] := by
          have := congrArg List.toArray hl
          simpa using this
        simp [execOp, ho, resolve, hc, el, invoke, builtin, ea, hr]
      · exact h.elim
    · exact pure h
  · rename_i src dst x ho
    split at h
    · obtain ⟨rfl, h⟩ := h
      obtain ⟨vx, hvx, _, h⟩ := onV_sound hE hG h
      obtain ⟨u, w', hr, hA⟩ := run_markS (P := Γ.P) hΓ.ty hH hvx h
      refine Runs.of_value (w' := w') (v := u) ?_ hA
      simp only [execOp, ho]
      exact congrArg _ (by rfl) |>.trans (by simp [hr])
    · exact (growS_sound hΓ hE hG hH h).mono fun _ _ h => h.2
  · exact (growS_sound hΓ hE hG hH h).mono fun _ _ h => h.2

/-- What an operation gives whose value no order changes. -/
def quietS (Γ : Ctx) (o : Oper) (E : Env) (H : Heap) (K : SV → Prop) : Prop :=
  match o.op with
  | .call c => match c.callee with
    | .value x => onV (E.ev Γ.glob x) fun x => evs Γ.glob E c.args.toList fun vs => calleeS x vs fun f vs => match lookSpec Γ.fs f with
      | some (.flat q) => viewS Γ.ty H vs fun us => q us K
      | _ => False
    | _ => pureS Γ.ty Γ.glob o E H K
  | .build t parts => evs Γ.glob E (parts.toList.map (·.2)) fun vs => buildV Γ.ty t ((parts.toList.map (·.1)).zip vs) K
  | _ => pureS Γ.ty Γ.glob o E H K

theorem ArgsD.mono {I' : Nat → Prop} {w' : World} (hE : Ext I w I' w') {vs : List SV} {xs : List Value} (h : ArgsD I w vs xs) : ArgsD I' w' vs xs :=
  ⟨h.1, fun j v hv => let ⟨x, h1, h2, h3⟩ := h.2 j v hv; ⟨x, h1, SV.rel_mono (n := 0) (fun i hi => absurd hi (Nat.not_lt_zero i)) hE h3 h2, h3⟩⟩

theorem quietS_sound {D : List Deferred} (hΓ : Γ.OK) (hE : EnvOK D β n I w E a) (hG : GlobOK Γ.glob I w) (hH : HeapOK C β n H I w) {o : Oper} {K : SV → Prop} (h : quietS Γ o E H K) :
    ∃ v x, K v ∧ v.low n ∧ v.rel β I w x ∧ ∀ w', Same w w' → o.quietAt Γ.P a (Same w) w' x := by
  have pure : pureS Γ.ty Γ.glob o E H K → ∃ v x, K v ∧ v.low n ∧ v.rel β I w x ∧ ∀ w', Same w w' → o.quietAt Γ.P a (Same w) w' x := fun h => by
    obtain ⟨v, x, hK, hl, hr, hrun⟩ := pureS_sound (P := Γ.P) hΓ.ty hG hE hH h
    exact ⟨v, x, hK, hl, hr, fun w' hw => by unfold Oper.quietAt; rw [hrun w' hw]; exact ⟨rfl, rfl⟩⟩
  unfold quietS at h
  split at h
  · rename_i c ho
    split at h
    · rename_i x hc
      obtain ⟨vx, hvx, hxl, h⟩ := onV_sound hE hG h
      obtain ⟨vs, h, hr⟩ := evs_callRel hE hG h
      obtain ⟨f, vs', cs, h, hf, hr'⟩ := calleeS_sound hvx hxl hr h
      split at h
      · rename_i q hq
        obtain ⟨hen, hok⟩ := hΓ.fs.look hq
        obtain ⟨us, h, hargs⟩ := viewS_data hH hr' h
        obtain ⟨v, hK, hfl, hcall⟩ := hok us _ h
        refine ⟨v, v.val, hK, SV.flat_low hfl, (SV.rel_flat hfl).2 rfl, fun w' hw => ?_⟩
        unfold Oper.quietAt
        rw [exec_call ho hc hf hen]
        have hlt := withRows_lt hH (is := vs'.flatMap SV.ids)
        have hE' : Ext (withRows β H (vs'.flatMap SV.ids) I) w (withRows β H (vs'.flatMap SV.ids) I) w' := fun b hb => ⟨hb, hw.block b (hlt b hb)⟩
        refine ⟨rfl, (hcall _ w' _ ((hG.mono (Ext.widen fun b h => .inl h)).mono hE') (fun b hb => Nat.lt_of_lt_of_le (hlt b hb) hw.size) (hargs.mono hE')).mono ?_⟩
        rintro e w'' ⟨rfl, hs⟩
        exact ⟨rfl, hw.trans (hs.mono hw.size)⟩
      · exact h.elim
    · exact pure h
  · rename_i t parts ho
    obtain ⟨vs, h, hr⟩ := evs_callRel hE hG h
    obtain ⟨hp, hlow⟩ := partsRel_of hr
    obtain ⟨v, x, hK, hl, hrel, hrun⟩ := run_buildV (P := Γ.P) hΓ.ty hp hlow h
    exact ⟨v, x, hK, hl, hrel, fun w' _ => by unfold Oper.quietAt; rw [exec_build ho (hrun w')]; exact ⟨rfl, rfl⟩⟩
  · exact pure h
end
end Go.Ab
