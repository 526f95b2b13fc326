/- The canonical form. -/
import Derived.Test.YtpfncffapgkjaaaDoorAb14
import Derived.Test.YtpfncffapgkjaaaDoorAb21
import Derived.Test.YtpfncffapgkjaaaDoorCtx
import Derived.Test.YtpfncffapgkjaaaDoorLa
import Derived.Test.YtpfncffapgkjaaaDoorLc
namespace Go.Proofs.YtpfncffapgkjaaaDoor
set_option linter.unusedVariables false
open Go.Ab Go.RowKit

theorem qLd0 {a : Prop} (h : a := by first | omega | exact trivial | rfl | (simp only [len_u8s, len_u32s, len_u64s, len_ints, len_bools, len_cells]; omega) | exact inR_i64.mpr ⟨by omega, by omega⟩ | (simp <;> omega) | (refine And.intro ?_ ?_ <;> exact trivial) | exact ⟨trivial, trivial, trivial⟩ | decide | (refine And.intro rfl ?_; (repeat first | exact trivial | refine And.intro rfl ?_); done) | exact Nat.succ_pos _ | exact Nat.le_refl _ | (refine And.intro trivial ?_; (repeat first | exact trivial | refine And.intro trivial ?_); done)) : a := h
theorem qLd1 {a : Prop} (h : a := by first | omega | exact trivial | rfl | (simp only [len_u8s, len_u32s, len_u64s, len_ints, len_bools, len_cells]; omega) | exact inR_i64.mpr ⟨by omega, by omega⟩ | (simp [hfl] <;> omega) | (refine And.intro ?_ ?_ <;> exact trivial) | exact ⟨trivial, trivial, trivial⟩ | decide | (refine And.intro rfl ?_; (repeat first | exact trivial | refine And.intro rfl ?_); done) | exact Nat.succ_pos _ | exact Nat.le_refl _ | (refine And.intro trivial ?_; (repeat first | exact trivial | refine And.intro trivial ?_); done)) : a := h
theorem qLd2 {a : Prop} (h : a := by first | omega | exact trivial | rfl | (simp only [len_u8s, len_u32s, len_u64s, len_ints, len_bools, len_cells]; omega) | exact inR_i64.mpr ⟨by omega, by omega⟩ | (simp [hLl] <;> omega) | (refine ⟨by omega, by omega⟩) | (refine And.intro ?_ ?_ <;> exact trivial) | exact ⟨trivial, trivial, trivial⟩ | decide | (refine And.intro rfl ?_; (repeat first | exact trivial | refine And.intro rfl ?_); done) | exact Nat.succ_pos _ | exact Nat.le_refl _ | (refine And.intro trivial ?_; (repeat first | exact trivial | refine And.intro trivial ?_); done)) : a := h
theorem qLd3 {a : Prop} (h : a := by first | omega | exact trivial | rfl | (simp only [len_u8s, len_u32s, len_u64s, len_ints, len_bools, len_cells]; omega) | exact inR_i64.mpr ⟨by omega, by omega⟩ | (simp [hLl] <;> omega) | (simp <;> omega) | (refine And.intro ?_ ?_ <;> exact trivial) | exact ⟨trivial, trivial, trivial⟩ | decide | (refine And.intro rfl ?_; (repeat first | exact trivial | refine And.intro rfl ?_); done) | exact Nat.succ_pos _ | exact Nat.le_refl _ | (refine And.intro trivial ?_; (repeat first | exact trivial | refine And.intro trivial ?_); done)) : a := h

theorem uLd0 {a : Prop} (h : a := by
    repeat' (first | exact trivial | refine And.intro ?_ ?_ | rfl | omega | decide | (show (_ : Nat) < _; decide) | exact low_nil' | refine low_cons' ?_ ?_ | exact Nat.le_refl _ | exact Nat.succ_pos _)
    all_goals first | omega | exact to_caps hcaps | exact low_caps hcaps | (show (_ : List Bool) = _; rw [fillL_zero]; congr 1) | (show (_ : List Bool) = _; simp only [Int.toNat_natCast, Nat.zero_add, Nat.mul_one]; exact fillL_step g hkl) | exact hL | (simp; done) | (simp <;> omega) | (show (_ : List Bool) = _; obtain rfl : k = h + p := by omega; exact fillL_full g _) | skip) : a := h

def findQ (t : Nat → Bool) : Nat → Nat → Nat
  | 0, q => q
  | n + 1, q => if t q then q else findQ t n (q + 1)
def testQ (L : List Bool) (h p q : Nat) : Bool := decide (p % q = 0 ∧ (L.drop (h + q)).take (p - q) = (L.drop h).take (p - q))
def findH (L : List Bool) (p : Nat) : Nat → Nat
  | 0 => 0
  | h + 1 => if L.getD h false = L.getD (h + p) false then findH L p h else h + 1
abbrev LOut := (List Bool × List Bool) × Nat
abbrev outV (o : LOut) : SV := .tup [.agg (lsC o.1.1 o.1.2), .c (.int .i64 o.2)]
def errO (e : Nat) : LOut := (([], []), e)
def cutO (L : List Bool) (h p : Nat) : LOut := if h + p ≤ 512 then ((L.take h, (L.drop h).take p), 0) else errO 2
/-- What 'canonical' computes: the shortest period that divides p, then the shortest head. -/
def canonO (g : Nat → Bool) (h p : Nat) : LOut :=
  let L := (List.range (h + p)).map g
  let q := findQ (testQ L h p) (p - 1) 1
  cutO L (findH L q h) q
theorem findQ_le (t : Nat → Bool) : ∀ n q, q ≤ findQ t n q ∧ findQ t n q ≤ q + n
  | 0, q => ⟨Nat.le_refl _, Nat.le_refl _⟩
  | n + 1, q => by
    have := findQ_le t n (q + 1)
    rw [findQ]; split <;> omega
theorem findH_le (L : List Bool) (p : Nat) : ∀ h, findH L p h ≤ h
  | 0 => Nat.le_refl _
  | h + 1 => by
    have := findH_le L p h
    rw [findH]; split <;> omega
/-- A result once and for all. -/
def eqS (q : QSpec) : QSpec := fun vs K => ∃ v, q vs (fun u => u = v) ∧ K v
theorem flat_eq {f : FuncId} {q : QSpec} (h : FlatOK Tryd.prog gl f q) : FlatOK Tryd.prog gl f (eqS q) := fun vs K ⟨v, hq, hK⟩ => by
  obtain ⟨u, rfl, hf, hc⟩ := h vs _ hq
  exact ⟨_, hK, hf, hc⟩
theorem flat_or {f : FuncId} {q r : QSpec} (h : FlatOK Tryd.prog gl f q) (k : FlatOK Tryd.prog gl f r) : FlatOK Tryd.prog gl f (fun vs K => q vs K ∨ r vs K) := fun vs K hq => hq.elim (h vs K) (k vs K)
noncomputable def gC (f : FuncId) (q : QSpec) : Ctx := { P := Tryd.prog, ty := ty, glob := gl, fs := [(52, .flat equalS), (53, .data cloneS), (f, .flat (eqS q))] }
theorem gC_ok {f : FuncId} {q : QSpec} (he : Enters Tryd.prog f) (h : FlatOK Tryd.prog gl f q) : (gC f q).OK := ⟨tyOK, ⟨⟨enters_mk Tryd.func52 (by kernel_rfl) rfl, equal_ok⟩, ⟨enters_mk Tryd.func53 (by kernel_rfl) rfl, clone_ok⟩, ⟨he, flat_eq h⟩, trivial⟩, mixed⟩
@[simp] theorem gC_ty {f : FuncId} {q : QSpec} : (gC f q).ty = ty := rfl
theorem gC_look {f : FuncId} {q : QSpec} (h : f ≠ 52 ∧ f ≠ 53) : lookSpec (gC f q).fs f = some (.flat (eqS q)) :=
  look_last (l := [(52, .flat equalS), (53, .data cloneS)]) fun p hp => by
    simp only [List.mem_cons, List.not_mem_nil, or_false] at hp
    rcases hp with rfl | rfl
    · exact fun e => h.1 e.symm
    · exact fun e => h.2 e.symm
def canonS (f : FuncId) (q : QSpec) : QSpec := fun vs K => ∃ caps, ∃ g : Nat → Bool, ∃ h p : Nat, vs = [.c (.int .i64 h), .c (.int .i64 p), .c (.clo f caps)] ∧ (0 < p ∧ h + p ≤ 1048576) ∧ ((∀ x ∈ caps, dataC x) ∧ ∀ n, n < h + p → q (.c (.int .i64 n) :: caps.map .c) (fun v => v = .c (.bool (g n)))) ∧ K (outV (canonO g h p))
def fillL (g : Nat → Bool) (n k : Nat) : List Bool := (List.range k).map g ++ List.replicate (n - k) false
@[simp] theorem fillL_length (g : Nat → Bool) {n k : Nat} (h : k ≤ n) : (fillL g n k).length = n := by simp [fillL]; omega
theorem fillL_zero (g : Nat → Bool) (n : Nat) : fillL g n 0 = List.replicate n false := by simp [fillL]
theorem fillL_full (g : Nat → Bool) (n : Nat) : fillL g n n = (List.range n).map g := by simp [fillL]
theorem fillL_step (g : Nat → Bool) {n k : Nat} (h : k < n) : (fillL g n k).set k (g k) = fillL g n (k + 1) := by
  have e : n - k = (n - (k + 1)) + 1 := by omega
  rw [fillL, List.set_append_right _ _ (by simp)]
  simp only [List.length_map, List.length_range, Nat.sub_self]
  rw [e, List.replicate_succ, List.set_cons_zero, fillL, List.range_succ, List.map_append, List.append_assoc]
  rfl
theorem low_lsC {n : Nat} {a b : List Bool} : (Cont.cells [.ds a.length (.bools a), .ds b.length (.bools b)]).low n := fun x hx => by
  simp only [List.mem_cons, List.not_mem_nil, or_false] at hx
  rcases hx with rfl | rfl <;> trivial
theorem low_outV {o : LOut} : (outV o).low 0 := fun p hp => by
  simp only [List.mem_cons, List.not_mem_nil, or_false] at hp
  rcases hp with rfl | rfl
  · exact low_lsC
  · trivial
set_option maxHeartbeats 1000000 in
theorem canon_ok {cf : FuncId} {cq : QSpec} (hen : Enters Tryd.prog cf) (hne : cf ≠ 52 ∧ cf ≠ 53) (hok : FlatOK Tryd.prog gl cf cq) : DataOK Tryd.prog gl 32 (canonS cf cq) := by
 refine data_of (Γ := gC cf cq) (N := 88) Tryd.func32 rfl rfl fun vs K h => ?_
 obtain ⟨caps, g, h, p, rfl, ⟨hp, hb⟩, ⟨hcaps, hcall⟩, hK⟩ := h
 refine ⟨_, hK, low_outV, by simp, fun w I => ?_⟩
 have hlook := gC_look (q := cq) hne
 have hLl : ((List.range (h + p)).map g).length = h + p := by simp
 refine seq_k fun _ hK1 => ?_
 refine region_k (gC_ok hen hok) fun _ hK2 => ?_
 refine s_step rfl (by decide) rfl fun _ hS => ?_
 repeat refine And.intro qLd0 ?_
 refine hS _ _ _ ?_
 clear hS
 refine s_step rfl (by decide) rfl fun _ hS => ?_
 refine hS _ _ _ ?_
 clear hS
 refine s_nil ?_
 refine hK2 _ _ _ ?_
 refine hK1 _ _ _ ?_
 refine seq_k fun _ hK3 => ?_
 refine region_k (gC_ok hen hok) fun _ hK4 => ?_
 refine s_step rfl (by decide) rfl fun _ hS => ?_
 refine hS _ _ _ ?_
 clear hS
 refine s_step rfl (by decide) rfl fun _ hS => ?_
 refine hS _ _ _ ?_
 clear hS
 refine s_step rfl (by decide) rfl fun _ hS => ?_
 repeat refine And.intro qLd0 ?_
 refine hS _ _ _ ?_
 clear hS
 refine s_step rfl (by decide) rfl fun _ hS => ?_
 repeat refine And.intro qLd0 ?_
 refine hS _ _ _ ?_
 clear hS
 refine s_step rfl (by decide) rfl fun _ hS => ?_
 refine hS _ _ _ ?_
 clear hS
 refine s_nil ?_
 refine hK4 _ _ _ ?_
 refine hK3 _ _ _ ?_
 refine seq_k fun _ hK5 => ?_
 refine seq_k fun _ hK6 => ?_
 refine region_k (gC_ok hen hok) fun _ hK7 => ?_
 refine s_step rfl (by decide) rfl fun _ hS => ?_
 refine hS _ _ _ ?_
 clear hS
 refine s_step rfl (by decide) rfl fun _ hS => ?_
 repeat refine And.intro qLd0 ?_
 refine hS _ _ _ ?_
 clear hS
 refine s_step rfl (by decide) rfl fun _ hS => ?_
 refine hS _ _ _ ?_
 clear hS
 refine s_nil ?_
 refine hK7 _ _ _ ?_
 refine hK6 _ _ _ ?_
 refine WP_block ?_
 refine WP_loop (α := Nat) (fun k => [(0, .c (.int .i64 h)), (1, .c (.int .i64 p)), (2, .c (.clo cf caps)), (6, .c (.ptr 0 0)), (8, .c (.slice 1 0 (h + p) (h + p))), (17, .c (.int .i64 (h + p))), (18, .c (.int .i64 k))]) (fun k => [(0, .own 24 (.cells [.nils, .nils]) 2), (1, .own 4 (.bools (fillL g (h + p) k)) (h + p))]) 2 (fun k => k ≤ h + p) (fun k => h + p - k) ?_ ?_
 ·refine Done_some [] id 0 (Nat.zero_le _) ⟨?_, ?_, (by decide : List.Nodup ([0, 1] : List Nat)), ?_, ?_, ⟨Nat.zero_le _, fun i hi => absurd hi (Nat.not_lt_zero i)⟩⟩
  ·exact uLd0
  ·exact uLd0
  ·exact uLd0
  ·exact uLd0
 ·intro k hk
  have hfl := fillL_length g hk
  refine seq_k fun _ hK8 => ?_
  refine region_k (gC_ok hen hok) fun _ hK9 => ?_
  refine s_step rfl (by decide) rfl fun _ hS => ?_
  repeat refine And.intro qLd0 ?_
  refine hS _ _ _ ?_
  clear hS
  refine s_nil ?_
  refine hK9 _ _ _ ?_
  refine hK8 _ _ _ ?_
  refine seq_k fun _ hK10 => ?_
  refine WP_cond (b := _) rfl (fun h_t19 => ?_) (fun h_t19 => ?_)
  ·try try simp only [decide_eq_true_eq] at h_t19
   refine WP_skip ?_
   refine hK10 _ _ _ ?_
   refine seq_k fun _ hK11 => ?_
   refine WP_block ?_
   refine seq_k fun _ hK12 => ?_
   refine region_k (gC_ok hen hok) fun _ hK13 => ?_
   refine s_step rfl (by decide) rfl fun _ hS => ?_
   refine hS _ _ _ ?_
   clear hS
   refine s_step rfl (by decide) rfl fun _ hS => ?_
   refine hS _ _ _ ?_
   clear hS
   refine s_nil ?_
   refine hK13 _ _ _ ?_
   refine hK12 _ _ _ ?_
   have hkl : k < h + p := by omega
   refine region_k (gC_ok hen hok) fun _ hK14 => ?_
   refine s_step rfl (by decide) rfl fun _ hS => ?_
   refine hS _ _ _ ?_
   clear hS
   refine s_step rfl (by decide) rfl fun _ hS => ?_
   refine hS _ _ _ ?_
   clear hS
   refine s_step rfl (by decide) rfl fun _ hS => ?_
   refine hS _ _ _ ?_
   clear hS
   refine s_step rfl (by decide) rfl fun _ hS => ?_
   refine hS _ _ _ ?_
   clear hS
   refine s_step rfl (by decide) rfl fun _ hS => ?_
   refine call_var (xs := [.int .i64 k]) hlook (dataC_cons dataC_int dataC_nil) hcaps ?_
   refine ⟨_, hcall k hkl, ?_⟩
   refine hS _ _ _ ?_
   clear hS
   refine s_step rfl (by decide) rfl fun _ hS => ?_
   repeat refine And.intro qLd1 ?_
   refine hS _ _ _ ?_
   clear hS
   refine s_step0 rfl rfl fun _ hS => ?_
   repeat refine And.intro qLd1 ?_
   first | refine hS _ _ _ ?_ | (refine splice_full qLd1 ?_; refine hS _ _ _ ?_)
   clear hS
   refine s_nil ?_
   refine hK14 _ _ _ ?_
   have hfs := fillL_step g hkl
   refine done_block ?_
   refine hK11 _ _ _ ?_
   refine region_k (gC_ok hen hok) fun _ hK15 => ?_
   refine s_step rfl (by decide) rfl fun _ hS => ?_
   repeat refine And.intro qLd0 ?_
   refine hS _ _ _ ?_
   clear hS
   refine s_step rfl (by decide) rfl fun _ hS => ?_
   refine hS _ _ _ ?_
   clear hS
   refine s_nil ?_
   refine hK15 _ _ _ ?_
   refine Done_some [] id (k + 1) ⟨by omega, by omega⟩ ⟨?_, ?_, (by decide : List.Nodup ([0, 1] : List Nat)), ?_, ?_, ⟨Nat.zero_le _, fun i hi => absurd hi (Nat.not_lt_zero i)⟩⟩
   ·exact uLd0
   ·exact uLd0
   ·exact uLd0
   ·exact uLd0
  ·try try simp only [decide_eq_false_iff_not, Int.not_lt] at h_t19
   refine WP_exit ?_
   refine done_thenx ?_
   refine done_thenx ?_
   refine Done_hit ?_
   refine hK5 _ _ _ ?_
   refine seq_k fun _ hK16 => ?_
   obtain rfl : k = h + p := by omega
   have hL : fillL g (h + p) (h + p) = ((List.range (h + p)).map g) := fillL_full g _
   refine region_k (gC_ok hen hok) fun _ hK17 => ?_
   refine s_step rfl (by decide) rfl fun _ hS => ?_
   refine hS _ _ _ ?_
   clear hS
   refine s_step rfl (by decide) rfl fun _ hS => ?_
   refine hS _ _ _ ?_
   clear hS
   refine s_step rfl (by decide) rfl fun _ hS => ?_
   repeat refine And.intro qLd1 ?_
   first | refine hS _ _ _ ?_ | (refine ite_yes qLd1 ?_; (repeat refine And.intro qLd1 ?_); refine hS _ _ _ ?_)
   clear hS
   refine s_step rfl (by decide) rfl fun _ hS => ?_
   refine hS _ _ _ ?_
   clear hS
   refine s_nil ?_
   refine hK17 _ _ _ ?_
   refine hK16 _ _ _ ?_
   refine WP_cut (α := Nat) (fun q => [(0, .c (.int .i64 h)), (1, .c (.int .i64 q)), (6, .c (.ptr 0 0)), (8, .c (.slice 1 0 (h + p) (h + p)))]) (fun q => [(0, .own 24 (.cells [.nils, .nils]) 2), (1, .own 4 (.bools ((List.range (h + p)).map g)) (h + p))]) 2 (fun q => q = findQ (testQ ((List.range (h + p)).map g) h p) (p - 1) 1 ∧ q ≤ p ∧ 1 ≤ q) ?_ ?_
   ·skip
    refine seq_k fun _ hK18 => ?_
    refine region_k (gC_ok hen hok) fun _ hK19 => ?_
    refine s_step rfl (by decide) rfl fun _ hS => ?_
    refine hS _ _ _ ?_
    clear hS
    refine s_nil ?_
    refine hK19 _ _ _ ?_
    refine hK18 _ _ _ ?_
    refine WP_block ?_
    refine WP_loop (α := Nat) (fun q => [(0, .c (.int .i64 h)), (1, .c (.int .i64 p)), (6, .c (.ptr 0 0)), (8, .c (.slice 1 0 (h + p) (h + p))), (10, .c (.slice 1 h p p)), (11, .c (.int .i64 q))]) (fun q => [(0, .own 24 (.cells [.nils, .nils]) 2), (1, .own 4 (.bools ((List.range (h + p)).map g)) (h + p))]) 2 (fun q => 1 ≤ q ∧ q ≤ p ∧ findQ (testQ ((List.range (h + p)).map g) h p) (p - q) q = findQ (testQ ((List.range (h + p)).map g) h p) (p - 1) 1) (fun q => p - q) ?_ ?_
    ·refine Done_some [] id 1 ⟨Nat.le_refl _, hp, rfl⟩ ⟨?_, ?_, (by decide : List.Nodup ([0, 1] : List Nat)), ?_, ?_, ⟨Nat.zero_le _, fun i hi => absurd hi (Nat.not_lt_zero i)⟩⟩
     ·exact uLd0
     ·exact uLd0
     ·exact uLd0
     ·exact uLd0
    ·intro q hq
     refine seq_k fun _ hK20 => ?_
     refine seq_k fun _ hK21 => ?_
     refine region_k (gC_ok hen hok) fun _ hK22 => ?_
     refine s_step rfl (by decide) rfl fun _ hS => ?_
     refine hS _ _ _ ?_
     clear hS
     refine s_step rfl (by decide) rfl fun _ hS => ?_
     refine hS _ _ _ ?_
     clear hS
     refine s_step rfl (by decide) rfl fun _ hS => ?_
     repeat refine And.intro qLd0 ?_
     refine hS _ _ _ ?_
     clear hS
     refine s_nil ?_
     refine hK22 _ _ _ ?_
     refine hK21 _ _ _ ?_
     refine WP_cond (b := _) rfl (fun h_t33 => ?_) (fun h_t33 => ?_)
     ·try try simp only [decide_eq_true_eq] at h_t33
      refine WP_skip ?_
      refine hK20 _ _ _ ?_
      refine seq_k fun _ hK23 => ?_
      refine WP_block ?_
      refine seq_k fun _ hK24 => ?_
      have hqp : q < p := by omega
      have hz : (0 : Int) < (q : Int) := by omega
      refine sched_k (gC_ok hen hok) [(0, true), (1, true), (2, true), (3, true), (4, true), (5, true), (6, true), (7, true), (8, true), (9, true), (10, true), (11, true), (12, true), (13, false), (14, true)] rfl (by kernel_rfl) (by kernel_rfl) fun _ hK25 => ?_
      refine d_read rfl rfl (by decide) rfl fun _ hS => ?_
      refine hS _ ?_
      clear hS
      refine d_read rfl rfl (by decide) rfl fun _ hS => ?_
      refine hS _ ?_
      clear hS
      refine d_read rfl rfl (by decide) rfl fun _ hS => ?_
      repeat refine And.intro qLd2 ?_
      refine hS _ ?_
      clear hS
      refine d_read rfl rfl (by decide) rfl fun _ hS => ?_
      repeat refine And.intro qLd2 ?_
      refine hS _ ?_
      clear hS
      refine d_read rfl rfl (by decide) rfl fun _ hS => ?_
      refine d_split hS (fun hb4 => ?_) (fun hb4 => ?_)
      ·clear hS
       try simp only [decide_eq_true_eq] at hb4
       refine d_readg (b := true) rfl rfl (by decide) rfl rfl (fun _ _ hS => ?_) (fun e => absurd e (by decide))
       refine hS _ ?_
       clear hS
       refine d_readg (b := true) rfl rfl (by decide) rfl rfl (fun _ _ hS => ?_) (fun e => absurd e (by decide))
       refine hS _ ?_
       clear hS
       refine d_readg (b := true) rfl rfl (by decide) rfl rfl (fun _ _ hS => ?_) (fun e => absurd e (by decide))
       repeat refine And.intro qLd2 ?_
       first | refine hS _ ?_ | (refine ite_yes qLd2 ?_; (repeat refine And.intro qLd2 ?_); refine hS _ ?_)
       clear hS
       refine d_readg (b := true) rfl rfl (by decide) rfl rfl (fun _ _ hS => ?_) (fun e => absurd e (by decide))
       refine hS _ ?_
       clear hS
       refine d_readg (b := true) rfl rfl (by decide) rfl rfl (fun _ _ hS => ?_) (fun e => absurd e (by decide))
       refine hS _ ?_
       clear hS
       refine d_readg (b := true) rfl rfl (by decide) rfl rfl (fun _ _ hS => ?_) (fun e => absurd e (by decide))
       refine hS _ ?_
       clear hS
       refine d_readg (b := true) rfl rfl (by decide) rfl rfl (fun _ _ hS => ?_) (fun e => absurd e (by decide))
       repeat refine And.intro qLd2 ?_
       refine hS _ ?_
       clear hS
       refine d_readg (b := true) rfl rfl (by decide) rfl rfl (fun _ _ hS => ?_) (fun e => absurd e (by decide))
       repeat refine And.intro qLd2 ?_
       first | refine hS _ ?_ | (refine ite_yes qLd2 ?_; (repeat refine And.intro qLd2 ?_); refine hS _ ?_)
       clear hS
       refine d_growg (b := true) rfl rfl (by decide) rfl rfl (fun _ _ hS => ?_) (fun e => absurd e (by decide))
       repeat first | refine And.intro qLd2 ?_ | refine whole_yes qLd2 ?_ | refine whole_sub ?_
       refine ⟨((((List.range (h + p)).map g).drop (h + q)).take (p - q)), ((((List.range (h + p)).map g).drop h).take (p - q)), ?_, ⟨by simp; omega, by simp; omega⟩, ?_⟩
       ·have e1 : (((List.range (h + p)).map g).drop (h + q)).length = p - q := by simp; omega
        simp only [List.length_take, e1, hLl, List.length_drop]
        simp [Cont.sub, Cont.take, Cont.drop]
        try omega
       repeat refine And.intro qLd2 ?_
       first | refine hS _ _ _ ?_ | (intro cap13 hcap13; refine hS _ _ _ ?_)
       clear hS
       refine d_read rfl rfl (by decide) rfl fun _ hS => ?_
       refine hS _ ?_
       clear hS
       refine d_nil ?_
       refine hK25 _ _ _ ?_
       refine hK24 _ _ _ ?_
       refine WP_cond (b := _) rfl (fun h_t50 => ?_) (fun h_t50 => ?_)
       ·try simp only [decide_eq_true_eq, if_true] at h_t50
        have htest : testQ ((List.range (h + p)).map g) h p q = true := by simp only [testQ, decide_eq_true_eq]; exact ⟨by omega, by simpa using h_t50⟩
        have hfin : findQ (testQ ((List.range (h + p)).map g) h p) (p - 1) 1 = q := by rw [← hq.2.2, show p - q = (p - q - 1) + 1 by omega, findQ, if_pos htest]
        refine seq_k fun _ hK26 => ?_
        refine region_k (gC_ok hen hok) fun _ hK27 => ?_
        refine s_step rfl (by decide) rfl fun _ hS => ?_
        refine hS _ _ _ ?_
        clear hS
        refine s_step rfl (by decide) rfl fun _ hS => ?_
        refine hS _ _ _ ?_
        clear hS
        refine s_nil ?_
        refine hK27 _ _ _ ?_
        refine hK26 _ _ _ ?_
        refine WP_exit ?_
        refine Done_miss (by decide) ?_
        refine done_thenx ?_
        refine done_thenx ?_
        refine Done_hit ?_
        refine Done_some [] id _ ⟨hfin.symm, by omega, by omega⟩ ⟨?_, ?_, (by decide : List.Nodup ([0, 1] : List Nat)), ?_, ?_, ⟨Nat.zero_le _, fun i hi => absurd hi (Nat.not_lt_zero i)⟩⟩
        ·exact uLd0
        ·exact uLd0
        ·exact uLd0
        ·exact uLd0
       ·skip
        refine WP_skip ?_
        refine done_block ?_
        refine hK23 _ _ _ ?_
        have hntest : ¬ testQ ((List.range (h + p)).map g) h p q = true := by
         simp only [testQ, decide_eq_true_eq]
         rintro ⟨e1, e2⟩
         first | exact hb4 (by exact_mod_cast e1) | (simp [e2] at h_t50; done)
        refine region_k (gC_ok hen hok) fun _ hK28 => ?_
        refine s_step rfl (by decide) rfl fun _ hS => ?_
        refine hS _ _ _ ?_
        clear hS
        refine s_step rfl (by decide) rfl fun _ hS => ?_
        repeat refine And.intro qLd0 ?_
        refine hS _ _ _ ?_
        clear hS
        refine s_step rfl (by decide) rfl fun _ hS => ?_
        refine hS _ _ _ ?_
        clear hS
        refine s_nil ?_
        refine hK28 _ _ _ ?_
        refine Done_some [] id (q + 1) ⟨⟨by omega, by omega, by rw [← hq.2.2, show p - q = (p - (q + 1)) + 1 by omega, findQ, if_neg hntest]⟩, by omega⟩ ⟨?_, ?_, (by decide : List.Nodup ([0, 1] : List Nat)), ?_, ?_, ⟨Nat.zero_le _, fun i hi => absurd hi (Nat.not_lt_zero i)⟩⟩
        ·exact uLd0
        ·exact uLd0
        ·exact uLd0
        ·exact uLd0
      ·clear hS
       try simp only [decide_eq_false_iff_not] at hb4
       refine d_readg (b := false) rfl rfl (by decide) rfl rfl (fun e => absurd e (by decide)) (fun _ => ?_)
       refine d_readg (b := false) rfl rfl (by decide) rfl rfl (fun e => absurd e (by decide)) (fun _ => ?_)
       refine d_readg (b := false) rfl rfl (by decide) rfl rfl (fun e => absurd e (by decide)) (fun _ => ?_)
       refine d_readg (b := false) rfl rfl (by decide) rfl rfl (fun e => absurd e (by decide)) (fun _ => ?_)
       refine d_readg (b := false) rfl rfl (by decide) rfl rfl (fun e => absurd e (by decide)) (fun _ => ?_)
       refine d_readg (b := false) rfl rfl (by decide) rfl rfl (fun e => absurd e (by decide)) (fun _ => ?_)
       refine d_readg (b := false) rfl rfl (by decide) rfl rfl (fun e => absurd e (by decide)) (fun _ => ?_)
       refine d_readg (b := false) rfl rfl (by decide) rfl rfl (fun e => absurd e (by decide)) (fun _ => ?_)
       refine d_growg (b := false) rfl rfl (by decide) rfl rfl (fun e => absurd e (by decide)) (fun _ => ?_)
       refine d_read rfl rfl (by decide) rfl fun _ hS => ?_
       refine hS _ ?_
       clear hS
       refine d_nil ?_
       refine hK25 _ _ _ ?_
       refine hK24 _ _ _ ?_
       refine WP_cond (b := _) rfl (fun h_t50 => ?_) (fun _ => ?_)
       ·exfalso; cases h_t50
       refine WP_skip ?_
       refine done_block ?_
       refine hK23 _ _ _ ?_
       have hntest : ¬ testQ ((List.range (h + p)).map g) h p q = true := by
        simp only [testQ, decide_eq_true_eq]
        rintro ⟨e1, e2⟩
        first | exact hb4 (by exact_mod_cast e1) | (simp [e2] at h_t50; done)
       refine region_k (gC_ok hen hok) fun _ hK29 => ?_
       refine s_step rfl (by decide) rfl fun _ hS => ?_
       refine hS _ _ _ ?_
       clear hS
       refine s_step rfl (by decide) rfl fun _ hS => ?_
       repeat refine And.intro qLd0 ?_
       refine hS _ _ _ ?_
       clear hS
       refine s_step rfl (by decide) rfl fun _ hS => ?_
       refine hS _ _ _ ?_
       clear hS
       refine s_nil ?_
       refine hK29 _ _ _ ?_
       refine Done_some [] id (q + 1) ⟨⟨by omega, by omega, by rw [← hq.2.2, show p - q = (p - (q + 1)) + 1 by omega, findQ, if_neg hntest]⟩, by omega⟩ ⟨?_, ?_, (by decide : List.Nodup ([0, 1] : List Nat)), ?_, ?_, ⟨Nat.zero_le _, fun i hi => absurd hi (Nat.not_lt_zero i)⟩⟩
       ·exact uLd0
       ·exact uLd0
       ·exact uLd0
       ·exact uLd0
     ·try simp only [decide_eq_false_iff_not, Int.not_lt] at h_t33
      have hqp : q = p := by omega
      have hfin : findQ (testQ ((List.range (h + p)).map g) h p) (p - 1) 1 = p := by rw [← hq.2.2, hqp, Nat.sub_self]; rfl
      refine WP_exit ?_
      refine done_thenx ?_
      refine done_thenx ?_
      refine Done_hit ?_
      refine Done_some [] id _ ⟨hfin.symm, by omega, by omega⟩ ⟨?_, ?_, (by decide : List.Nodup ([0, 1] : List Nat)), ?_, ?_, ⟨Nat.zero_le _, fun i hi => absurd hi (Nat.not_lt_zero i)⟩⟩
      ·exact uLd0
      ·exact uLd0
      ·exact uLd0
      ·exact uLd0
   ·intro q hqf
    refine WP_cut (α := Nat) (fun k => [(0, .c (.int .i64 k)), (1, .c (.int .i64 q)), (6, .c (.ptr 0 0)), (8, .c (.slice 1 0 (h + p) (h + p)))]) (fun k => [(0, .own 24 (.cells [.nils, .nils]) 2), (1, .own 4 (.bools ((List.range (h + p)).map g)) (h + p))]) 2 (fun k => k = findH ((List.range (h + p)).map g) q h ∧ k ≤ h) ?_ ?_
    ·skip
     refine WP_block ?_
     refine WP_loop (α := Nat) (fun k => [(0, .c (.int .i64 k)), (1, .c (.int .i64 q)), (6, .c (.ptr 0 0)), (8, .c (.slice 1 0 (h + p) (h + p)))]) (fun k => [(0, .own 24 (.cells [.nils, .nils]) 2), (1, .own 4 (.bools ((List.range (h + p)).map g)) (h + p))]) 2 (fun k => k ≤ h ∧ findH ((List.range (h + p)).map g) q k = findH ((List.range (h + p)).map g) q h) (fun k => k) ?_ ?_
     ·refine Done_some [] id h ⟨Nat.le_refl _, rfl⟩ ⟨?_, ?_, (by decide : List.Nodup ([0, 1] : List Nat)), ?_, ?_, ⟨Nat.zero_le _, fun i hi => absurd hi (Nat.not_lt_zero i)⟩⟩
      ·exact uLd0
      ·exact uLd0
      ·exact uLd0
      ·exact uLd0
     ·intro k hk
      refine seq_k fun _ hK30 => ?_
      refine seq_k fun _ hK31 => ?_
      have hkq : k ≤ h := hk.1
      refine quiet_k (gC_ok hen hok) (by kernel_rfl) fun _ hK32 => ?_
      refine q_step rfl (by decide) rfl fun _ hS => ?_
      refine hS _ ?_
      clear hS
      refine q_step rfl (by decide) rfl fun _ hS => ?_
      repeat refine And.intro qLd3 ?_
      refine hS _ ?_
      clear hS
      refine q_step rfl (by decide) rfl fun _ hS => ?_
      refine q_split hS (fun hb2 => ?_) (fun hb2 => ?_)
      ·clear hS
       try simp only [decide_eq_true_eq] at hb2
       refine q_guard (b := true) rfl (by decide) rfl rfl (fun _ _ hS => ?_) (fun e => absurd e (by decide))
       refine hS _ ?_
       clear hS
       refine q_guard (b := true) rfl (by decide) rfl rfl (fun _ _ hS => ?_) (fun e => absurd e (by decide))
       refine hS _ ?_
       clear hS
       refine q_guard (b := true) rfl (by decide) rfl rfl (fun _ _ hS => ?_) (fun e => absurd e (by decide))
       repeat refine And.intro qLd3 ?_
       refine hS _ ?_
       clear hS
       refine q_guard (b := true) rfl (by decide) rfl rfl (fun _ _ hS => ?_) (fun e => absurd e (by decide))
       repeat refine And.intro qLd3 ?_
       refine hS _ ?_
       clear hS
       refine q_guard (b := true) rfl (by decide) rfl rfl (fun _ _ hS => ?_) (fun e => absurd e (by decide))
       repeat refine And.intro qLd3 ?_
       first | refine hS _ ?_ | (refine whole_yes qLd3 ?_; refine hS _ ?_) | (refine whole_sub ?_; refine hS _ ?_)
       clear hS
       refine q_guard (b := true) rfl (by decide) rfl rfl (fun _ _ hS => ?_) (fun e => absurd e (by decide))
       refine hS _ ?_
       clear hS
       refine q_guard (b := true) rfl (by decide) rfl rfl (fun _ _ hS => ?_) (fun e => absurd e (by decide))
       refine hS _ ?_
       clear hS
       refine q_guard (b := true) rfl (by decide) rfl rfl (fun _ _ hS => ?_) (fun e => absurd e (by decide))
       repeat refine And.intro qLd3 ?_
       refine hS _ ?_
       clear hS
       refine q_guard (b := true) rfl (by decide) rfl rfl (fun _ _ hS => ?_) (fun e => absurd e (by decide))
       refine hS _ ?_
       clear hS
       refine q_guard (b := true) rfl (by decide) rfl rfl (fun _ _ hS => ?_) (fun e => absurd e (by decide))
       repeat refine And.intro qLd3 ?_
       refine hS _ ?_
       clear hS
       refine q_guard (b := true) rfl (by decide) rfl rfl (fun _ _ hS => ?_) (fun e => absurd e (by decide))
       repeat refine And.intro qLd3 ?_
       refine hS _ ?_
       clear hS
       refine q_guard (b := true) rfl (by decide) rfl rfl (fun _ _ hS => ?_) (fun e => absurd e (by decide))
       repeat refine And.intro qLd3 ?_
       first | refine hS _ ?_ | (refine whole_yes qLd3 ?_; refine hS _ ?_) | (refine whole_sub ?_; refine hS _ ?_)
       clear hS
       refine q_guard (b := true) rfl (by decide) rfl rfl (fun _ _ hS => ?_) (fun e => absurd e (by decide))
       repeat refine And.intro qLd3 ?_
       refine hS _ ?_
       clear hS
       refine q_step rfl (by decide) rfl fun _ hS => ?_
       refine hS _ ?_
       clear hS
       refine q_nil ?_
       refine hK32 _ ?_
       refine hK31 _ _ _ ?_
       refine WP_cond (b := _) rfl (fun h_t68 => ?_) (fun h_t68 => ?_)
       ·try simp only [decide_eq_true_eq, if_true] at h_t68
        rw [show 0 + ((k : Int) - 1).toNat * 1 = k - 1 by omega, show 0 + ((k : Int) - 1 + q).toNat * 1 = k - 1 + q by omega] at h_t68
        refine WP_skip ?_
        refine hK30 _ _ _ ?_
        refine WP_block ?_
        have hknext : findH ((List.range (h + p)).map g) q (k - 1) = findH ((List.range (h + p)).map g) q h := by
         rw [← hk.2]
         conv => rhs; rw [show k = (k - 1) + 1 by omega, findH, if_pos h_t68]
        refine region_k (gC_ok hen hok) fun _ hK33 => ?_
        refine s_step rfl (by decide) rfl fun _ hS => ?_
        refine hS _ _ _ ?_
        clear hS
        refine s_step rfl (by decide) rfl fun _ hS => ?_
        repeat refine And.intro qLd0 ?_
        refine hS _ _ _ ?_
        clear hS
        refine s_step rfl (by decide) rfl fun _ hS => ?_
        refine hS _ _ _ ?_
        clear hS
        refine s_nil ?_
        refine hK33 _ _ _ ?_
        refine done_block ?_
        refine Done_some [] id (k - 1) ⟨⟨by omega, hknext⟩, by omega⟩ ⟨?_, ?_, (by decide : List.Nodup ([0, 1] : List Nat)), ?_, ?_, ⟨Nat.zero_le _, fun i hi => absurd hi (Nat.not_lt_zero i)⟩⟩
        ·exact uLd0
        ·exact uLd0
        ·exact uLd0
        ·exact uLd0
       ·try simp only [decide_eq_false_iff_not, if_true] at h_t68
        rw [show 0 + ((k : Int) - 1).toNat * 1 = k - 1 by omega, show 0 + ((k : Int) - 1 + q).toNat * 1 = k - 1 + q by omega] at h_t68
        have hkfin : k = findH ((List.range (h + p)).map g) q h := by
         rw [← hk.2]
         conv => rhs; rw [show k = (k - 1) + 1 by omega, findH, if_neg h_t68]
         omega
        refine WP_exit ?_
        refine done_thenx ?_
        refine done_thenx ?_
        refine Done_hit ?_
        refine Done_some [] id k ⟨hkfin, hk.1⟩ ⟨?_, ?_, (by decide : List.Nodup ([0, 1] : List Nat)), ?_, ?_, ⟨Nat.zero_le _, fun i hi => absurd hi (Nat.not_lt_zero i)⟩⟩
        ·exact uLd0
        ·exact uLd0
        ·exact uLd0
        ·exact uLd0
      ·clear hS
       try simp only [decide_eq_false_iff_not, Int.not_lt] at hb2
       refine q_guard (b := false) rfl (by decide) rfl rfl (fun e => absurd e (by decide)) (fun _ => ?_)
       refine q_guard (b := false) rfl (by decide) rfl rfl (fun e => absurd e (by decide)) (fun _ => ?_)
       refine q_guard (b := false) rfl (by decide) rfl rfl (fun e => absurd e (by decide)) (fun _ => ?_)
       refine q_guard (b := false) rfl (by decide) rfl rfl (fun e => absurd e (by decide)) (fun _ => ?_)
       refine q_guard (b := false) rfl (by decide) rfl rfl (fun e => absurd e (by decide)) (fun _ => ?_)
       refine q_guard (b := false) rfl (by decide) rfl rfl (fun e => absurd e (by decide)) (fun _ => ?_)
       refine q_guard (b := false) rfl (by decide) rfl rfl (fun e => absurd e (by decide)) (fun _ => ?_)
       refine q_guard (b := false) rfl (by decide) rfl rfl (fun e => absurd e (by decide)) (fun _ => ?_)
       refine q_guard (b := false) rfl (by decide) rfl rfl (fun e => absurd e (by decide)) (fun _ => ?_)
       refine q_guard (b := false) rfl (by decide) rfl rfl (fun e => absurd e (by decide)) (fun _ => ?_)
       refine q_guard (b := false) rfl (by decide) rfl rfl (fun e => absurd e (by decide)) (fun _ => ?_)
       refine q_guard (b := false) rfl (by decide) rfl rfl (fun e => absurd e (by decide)) (fun _ => ?_)
       refine q_guard (b := false) rfl (by decide) rfl rfl (fun e => absurd e (by decide)) (fun _ => ?_)
       refine q_step rfl (by decide) rfl fun _ hS => ?_
       refine hS _ ?_
       clear hS
       refine q_nil ?_
       refine hK32 _ ?_
       refine hK31 _ _ _ ?_
       have hkfin : k = findH ((List.range (h + p)).map g) q h := by
        rw [← hk.2]
        obtain rfl : k = 0 := by omega
        rfl
       refine WP_cond (b := _) rfl (fun h_t68 => ?_) (fun _ => ?_)
       ·exfalso; cases h_t68
       refine WP_exit ?_
       refine done_thenx ?_
       refine done_thenx ?_
       refine Done_hit ?_
       refine Done_some [] id k ⟨hkfin, hk.1⟩ ⟨?_, ?_, (by decide : List.Nodup ([0, 1] : List Nat)), ?_, ?_, ⟨Nat.zero_le _, fun i hi => absurd hi (Nat.not_lt_zero i)⟩⟩
       ·exact uLd0
       ·exact uLd0
       ·exact uLd0
       ·exact uLd0
    ·intro k hk
     have hO : canonO g h p = cutO ((List.range (h + p)).map g) k q := by rw [canonO, hk.1, hqf.1]
     refine seq_k fun _ hK34 => ?_
     refine seq_k fun _ hK35 => ?_
     refine region_k (gC_ok hen hok) fun _ hK36 => ?_
     refine s_step rfl (by decide) rfl fun _ hS => ?_
     refine hS _ _ _ ?_
     clear hS
     refine s_step rfl (by decide) rfl fun _ hS => ?_
     refine hS _ _ _ ?_
     clear hS
     refine s_step rfl (by decide) rfl fun _ hS => ?_
     repeat refine And.intro qLd0 ?_
     refine hS _ _ _ ?_
     clear hS
     refine s_step rfl (by decide) rfl fun _ hS => ?_
     repeat refine And.intro qLd0 ?_
     refine hS _ _ _ ?_
     clear hS
     refine s_nil ?_
     refine hK36 _ _ _ ?_
     refine hK35 _ _ _ ?_
     refine WP_cond (b := _) rfl (fun h_t74 => ?_) (fun h_t74 => ?_)
     ·try try simp only [decide_eq_true_eq] at h_t74
      refine seq_k fun _ hK37 => ?_
      refine region_k (gC_ok hen hok) fun _ hK38 => ?_
      refine s_step rfl (by decide) rfl fun _ hS => ?_
      repeat refine And.intro qLd0 ?_
      refine hS _ _ _ ?_
      clear hS
      refine s_step0 rfl rfl fun _ hS => ?_
      repeat refine And.intro qLd0 ?_
      first | refine hS _ _ _ ?_ | (refine splice_full qLd0 ?_; refine hS _ _ _ ?_)
      clear hS
      refine s_step rfl (by decide) rfl fun _ hS => ?_
      refine hS _ _ _ ?_
      clear hS
      refine s_nil ?_
      refine hK38 _ _ _ ?_
      refine hK37 _ _ _ ?_
      refine WP_ret (Done_data (gC_ok hen hok) (fun _ _ h => h) (low_outV) [] [.cell 6 24, .tmp 7] rfl ?_)
      rw [hO, cutO, if_neg (by omega)]
      repeat' (first | exact trivial | refine And.intro ?_ ?_ | rfl | omega | decide | (show (_ : Nat) < _; decide) | exact low_nil' | refine low_cons' ?_ ?_ | exact Nat.le_refl _ | exact Nat.succ_pos _)
     ·try try simp only [decide_eq_false_iff_not, Int.not_lt] at h_t74
      refine WP_skip ?_
      refine hK34 _ _ _ ?_
      refine seq_k fun _ hK39 => ?_
      refine WP_le (is := [1]) (ρ := id) (E' := [(0, .c (.int .i64 k)), (1, .c (.int .i64 q)), (6, .c (.ptr 0 0)), (8, .c (.ds (h + p) (.bools ((List.range (h + p)).map g))))]) (H' := [(0, .own 24 (.cells [.nils, .nils]) 2)]) (n' := 2) ⟨?_, ?_, (by decide : List.Nodup ([0] : List Nat)), ?_, ?_, ⟨Nat.zero_le _, fun i hi => absurd hi (Nat.not_lt_zero i)⟩⟩ ?_
      ·exact uLd0
      ·exact uLd0
      ·exact uLd0
      ·exact uLd0
      refine sched_k (gC_ok hen hok) [(0, true), (1, true), (2, true), (4, true), (5, true), (6, true), (7, true), (8, true), (9, true), (3, false), (10, false), (11, true), (12, false), (13, true)] rfl (by kernel_rfl) (by kernel_rfl) fun _ hK40 => ?_
      refine d_read rfl rfl (by decide) rfl fun _ hS => ?_
      refine hS _ ?_
      clear hS
      refine d_read rfl rfl (by decide) rfl fun _ hS => ?_
      refine hS _ ?_
      clear hS
      refine d_read rfl rfl (by decide) rfl fun _ hS => ?_
      repeat refine And.intro qLd0 ?_
      first | refine hS _ ?_ | (refine ite_yes qLd0 ?_; (repeat refine And.intro qLd0 ?_); refine hS _ ?_)
      clear hS
      refine d_read rfl rfl (by decide) rfl fun _ hS => ?_
      refine hS _ ?_
      clear hS
      refine d_read rfl rfl (by decide) rfl fun _ hS => ?_
      refine hS _ ?_
      clear hS
      refine d_read rfl rfl (by decide) rfl fun _ hS => ?_
      refine hS _ ?_
      clear hS
      refine d_read rfl rfl (by decide) rfl fun _ hS => ?_
      refine hS _ ?_
      clear hS
      refine d_read rfl rfl (by decide) rfl fun _ hS => ?_
      repeat refine And.intro qLd0 ?_
      refine hS _ ?_
      clear hS
      refine d_read rfl rfl (by decide) rfl fun _ hS => ?_
      repeat refine And.intro qLd0 ?_
      first | refine hS _ ?_ | (refine ite_yes qLd0 ?_; (repeat refine And.intro qLd0 ?_); refine hS _ ?_)
      clear hS
      refine d_grow rfl rfl (by decide) rfl fun _ hS => ?_
      repeat first | refine And.intro qLd0 ?_ | refine whole_yes qLd0 ?_ | refine whole_sub ?_
      refine ⟨((List.range (h + p)).map g).take k, ?_, by rw [List.length_take, hLl]; omega, ?_⟩
      ·simp [hLl, Cont.take] <;> omega
      repeat refine And.intro qLd0 ?_
      first | refine hS _ _ _ ?_ | (intro cap3 hcap3; refine hS _ _ _ ?_)
      clear hS
      refine d_grow rfl rfl (by decide) rfl fun _ hS => ?_
      repeat first | refine And.intro qLd0 ?_ | refine whole_yes qLd0 ?_ | refine whole_sub ?_
      refine ⟨(((List.range (h + p)).map g).drop k).take q, ?_, by rw [List.length_take, List.length_drop, hLl]; omega, ?_⟩
      ·have e1 : ((k : Int) + q).toNat - (k : Int).toNat = q := by omega
       have e2 : ((((List.range (h + p)).map g).drop k).take q).length = q := by simp; omega
       have e3 : ((k : Int) + q).toNat - k = q := by omega
       rw [e2]
       simp [Cont.sub, Cont.take, Cont.drop, e3]
      repeat refine And.intro qLd0 ?_
      first | refine hS _ _ _ ?_ | (intro cap10 hcap10; refine hS _ _ _ ?_)
      clear hS
      refine d_read rfl rfl (by decide) rfl fun _ hS => ?_
      repeat refine And.intro qLd0 ?_
      refine hS _ ?_
      clear hS
      refine d_grow0 rfl rfl rfl fun _ hS => ?_
      repeat refine And.intro qLd0 ?_
      first | refine hS _ _ _ ?_ | (refine splice_full qLd0 ?_; refine hS _ _ _ ?_)
      clear hS
      refine d_read rfl rfl (by decide) rfl fun _ hS => ?_
      refine hS _ ?_
      clear hS
      refine d_nil ?_
      refine hK40 _ _ _ ?_
      refine hK39 _ _ _ ?_
      refine WP_ret (Done_data (gC_ok hen hok) (fun _ _ h => h) (low_outV) [] [.cell 6 24, .tmp 7] rfl ?_)
      rw [hO, cutO, if_pos (by omega)]
      repeat' (first | exact trivial | refine And.intro ?_ ?_ | rfl | omega | decide | (show (_ : Nat) < _; decide) | exact low_nil' | refine low_cons' ?_ ?_ | exact Nat.le_refl _ | exact Nat.succ_pos _)
      all_goals first | (simp; done) | (simp <;> omega) | skip
end Go.Proofs.YtpfncffapgkjaaaDoor
