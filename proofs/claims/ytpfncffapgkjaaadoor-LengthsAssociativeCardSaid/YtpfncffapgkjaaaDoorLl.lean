/- Classes of bytes, word by word. -/
import Derived.Test.YtpfncffapgkjaaaDoorAb14
import Derived.Test.YtpfncffapgkjaaaDoorAb21
import Derived.Test.YtpfncffapgkjaaaDoorCtx
import Derived.Test.YtpfncffapgkjaaaDoorLa
import Derived.Test.YtpfncffapgkjaaaDoorLd
import Derived.Test.YtpfncffapgkjaaaDoorLi
namespace Go.Proofs.YtpfncffapgkjaaaDoor
set_option linter.unusedVariables false
open Go.Ab Go.RowKit

theorem qLl0 {a : Prop} (h : a := by first | omega | exact trivial | rfl | (simp only [len_u8s, len_u32s, len_u64s, len_ints, len_bools, len_cells]; omega) | exact inR_i64.mpr ⟨by omega, by omega⟩ | (simp <;> omega) | (refine And.intro ?_ ?_ <;> exact trivial) | exact ⟨trivial, trivial, trivial⟩ | decide | (refine And.intro rfl ?_; (repeat first | exact trivial | refine And.intro rfl ?_); done) | exact Nat.succ_pos _ | exact Nat.le_refl _ | (refine And.intro trivial ?_; (repeat first | exact trivial | refine And.intro trivial ?_); done)) : a := h
theorem qLl1 {a : Prop} (h : a := by first | omega | exact trivial | rfl | (simp only [len_u8s, len_u32s, len_u64s, len_ints, len_bools, len_cells]; omega) | exact inR_i64.mpr ⟨by omega, by omega⟩ | (simp [ha, hb] <;> omega) | (refine And.intro ?_ ?_ <;> exact trivial) | exact ⟨trivial, trivial, trivial⟩ | decide | (refine And.intro rfl ?_; (repeat first | exact trivial | refine And.intro rfl ?_); done) | exact Nat.succ_pos _ | exact Nat.le_refl _ | (refine And.intro trivial ?_; (repeat first | exact trivial | refine And.intro trivial ?_); done)) : a := h
theorem qLl2 {a : Prop} (h : a := by first | omega | exact trivial | rfl | (simp only [len_u8s, len_u32s, len_u64s, len_ints, len_bools, len_cells]; omega) | exact inR_i64.mpr ⟨by omega, by omega⟩ | (simp [ha, hb] <;> omega) | (simp [ha, hb] <;> omega) | (refine And.intro ?_ ?_ <;> exact trivial) | exact ⟨trivial, trivial, trivial⟩ | decide | (refine And.intro rfl ?_; (repeat first | exact trivial | refine And.intro rfl ?_); done) | exact Nat.succ_pos _ | exact Nat.le_refl _ | (refine And.intro trivial ?_; (repeat first | exact trivial | refine And.intro trivial ?_); done)) : a := h
theorem qLl3 {a : Prop} (h : a := by first | omega | exact trivial | rfl | (simp only [len_u8s, len_u32s, len_u64s, len_ints, len_bools, len_cells]; omega) | exact inR_i64.mpr ⟨by omega, by omega⟩ | (simp [ha] <;> omega) | (refine And.intro ?_ ?_ <;> exact trivial) | exact ⟨trivial, trivial, trivial⟩ | decide | (refine And.intro rfl ?_; (repeat first | exact trivial | refine And.intro rfl ?_); done) | exact Nat.succ_pos _ | exact Nat.le_refl _ | (refine And.intro trivial ?_; (repeat first | exact trivial | refine And.intro trivial ?_); done)) : a := h

theorem uLl0 {a : Prop} (h : a := by
    repeat' (first | exact trivial | refine And.intro ?_ ?_ | rfl | omega | decide | (show (_ : Nat) < _; decide) | exact low_nil' | refine low_cons' ?_ ?_ | exact Nat.le_refl _ | exact Nat.succ_pos _)
    all_goals first | omega | (show (_ : List UInt64) = _; first | exact hst | (rw [hi1]; exact hst) | rfl) | (simp [ha, hb]; done) | (simp <;> omega) | exact low_caps dataC_nil | skip) : a := h

def kAndS : QSpec := fun vs K => ∃ x y : UInt64, vs = [.c (.u64 x), .c (.u64 y)] ∧ K (.c (.u64 (x &&& y)))
theorem kAnd_ok : FlatOK Tryd.prog gl 62 kAndS := by
 refine flat_of (Γ := g0) (N := 8) Tryd.func62 rfl rfl fun vs K h => ?_
 obtain ⟨x, y, rfl, h⟩ := h
 refine ⟨_, h, rfl, by simp, fun w I => ?_⟩
 refine seq_k fun _ hK1 => ?_
 refine region_k g0_ok fun _ hK2 => ?_
 refine s_step rfl (by decide) rfl fun _ hS => ?_
 refine hS _ _ _ ?_
 clear hS
 refine s_nil ?_
 refine hK2 _ _ _ ?_
 refine hK1 _ _ _ ?_
 refine seq_k fun _ hK3 => ?_
 refine region_k g0_ok fun _ hK4 => ?_
 refine s_step rfl (by decide) rfl fun _ hS => ?_
 refine hS _ _ _ ?_
 clear hS
 refine s_step rfl (by decide) rfl fun _ hS => ?_
 refine hS _ _ _ ?_
 clear hS
 refine s_step rfl (by decide) rfl fun _ hS => ?_
 repeat refine And.intro qLl0 ?_
 refine hS _ _ _ ?_
 clear hS
 refine s_step rfl (by decide) rfl fun _ hS => ?_
 refine hS _ _ _ ?_
 clear hS
 refine s_nil ?_
 refine hK4 _ _ _ ?_
 refine hK3 _ _ _ ?_
 refine WP_ret (Done_flat g0_ok (fun _ _ h => h) (by first | rfl | assumption) [.tmp 4] rfl ?_)
 repeat refine And.intro (by first | omega | exact trivial | rfl | (simp <;> omega)) ?_
 try refine ite_yes (by first | omega | exact trivial | rfl | (simp <;> omega)) ?_
 show _ = _
 rfl

def kOrS : QSpec := fun vs K => ∃ x y : UInt64, vs = [.c (.u64 x), .c (.u64 y)] ∧ K (.c (.u64 (x ||| y)))
theorem kOr_ok : FlatOK Tryd.prog gl 63 kOrS := by
 refine flat_of (Γ := g0) (N := 8) Tryd.func63 rfl rfl fun vs K h => ?_
 obtain ⟨x, y, rfl, h⟩ := h
 refine ⟨_, h, rfl, by simp, fun w I => ?_⟩
 refine seq_k fun _ hK1 => ?_
 refine region_k g0_ok fun _ hK2 => ?_
 refine s_step rfl (by decide) rfl fun _ hS => ?_
 refine hS _ _ _ ?_
 clear hS
 refine s_nil ?_
 refine hK2 _ _ _ ?_
 refine hK1 _ _ _ ?_
 refine seq_k fun _ hK3 => ?_
 refine region_k g0_ok fun _ hK4 => ?_
 refine s_step rfl (by decide) rfl fun _ hS => ?_
 refine hS _ _ _ ?_
 clear hS
 refine s_step rfl (by decide) rfl fun _ hS => ?_
 refine hS _ _ _ ?_
 clear hS
 refine s_step rfl (by decide) rfl fun _ hS => ?_
 repeat refine And.intro qLl0 ?_
 refine hS _ _ _ ?_
 clear hS
 refine s_step rfl (by decide) rfl fun _ hS => ?_
 refine hS _ _ _ ?_
 clear hS
 refine s_nil ?_
 refine hK4 _ _ _ ?_
 refine hK3 _ _ _ ?_
 refine WP_ret (Done_flat g0_ok (fun _ _ h => h) (by first | rfl | assumption) [.tmp 4] rfl ?_)
 repeat refine And.intro (by first | omega | exact trivial | rfl | (simp <;> omega)) ?_
 try refine ite_yes (by first | omega | exact trivial | rfl | (simp <;> omega)) ?_
 show _ = _
 rfl

def kNotS : QSpec := fun vs K => ∃ x y : UInt64, vs = [.c (.u64 x), .c (.u64 y)] ∧ K (.c (.u64 (~~~x)))
theorem kNot_ok : FlatOK Tryd.prog gl 64 kNotS := by
 refine flat_of (Γ := g0) (N := 7) Tryd.func64 rfl rfl fun vs K h => ?_
 obtain ⟨x, y, rfl, h⟩ := h
 refine ⟨_, h, rfl, by simp, fun w I => ?_⟩
 refine seq_k fun _ hK1 => ?_
 refine region_k g0_ok fun _ hK2 => ?_
 refine s_step rfl (by decide) rfl fun _ hS => ?_
 refine hS _ _ _ ?_
 clear hS
 refine s_nil ?_
 refine hK2 _ _ _ ?_
 refine hK1 _ _ _ ?_
 refine seq_k fun _ hK3 => ?_
 refine region_k g0_ok fun _ hK4 => ?_
 refine s_step rfl (by decide) rfl fun _ hS => ?_
 refine hS _ _ _ ?_
 clear hS
 refine s_step rfl (by decide) rfl fun _ hS => ?_
 repeat refine And.intro qLl0 ?_
 refine hS _ _ _ ?_
 clear hS
 refine s_step rfl (by decide) rfl fun _ hS => ?_
 refine hS _ _ _ ?_
 clear hS
 refine s_nil ?_
 refine hK4 _ _ _ ?_
 refine hK3 _ _ _ ?_
 refine WP_ret (Done_flat g0_ok (fun _ _ h => h) (by first | rfl | assumption) [.tmp 4] rfl ?_)
 repeat refine And.intro (by first | omega | exact trivial | rfl | (simp <;> omega)) ?_
 try refine ite_yes (by first | omega | exact trivial | rfl | (simp <;> omega)) ?_
 show _ = _
 rfl

noncomputable def gK (f : FuncId) (q : QSpec) : Ctx := { P := Tryd.prog, ty := ty, glob := gl, fs := [(f, .flat (eqS q))] }
theorem gK_ok {f : FuncId} {q : QSpec} (he : Enters Tryd.prog f) (h : FlatOK Tryd.prog gl f q) : (gK f q).OK := ⟨tyOK, ⟨⟨he, flat_eq h⟩, trivial⟩, mixed⟩
@[simp] theorem gK_ty {f : FuncId} {q : QSpec} : (gK f q).ty = ty := rfl
theorem gK_look {f : FuncId} {q : QSpec} : lookSpec (gK f q).fs f = some (.flat (eqS q)) := look_last (l := []) fun p hp => by cases hp
/-- Word by word. -/
def zipK (g : UInt64 → UInt64 → UInt64) (a b : List UInt64) (k : Nat) : List UInt64 := (List.range 4).map fun i => if i < k then g (a.getD i 0) (b.getD i 0) else 0
def zipC (g : UInt64 → UInt64 → UInt64) (a b : List UInt64) : List UInt64 := zipK g a b 4
@[simp] theorem zipK_length (g : UInt64 → UInt64 → UInt64) (a b : List UInt64) (k : Nat) : (zipK g a b k).length = 4 := by simp [zipK]
@[simp] theorem zipC_length (g : UInt64 → UInt64 → UInt64) (a b : List UInt64) : (zipC g a b).length = 4 := zipK_length ..
theorem zipK_step (g : UInt64 → UInt64 → UInt64) (a b : List UInt64) {k : Nat} (h : k < 4) : (zipK g a b k).set k (g (a.getD k 0) (b.getD k 0)) = zipK g a b (k + 1) := by
  refine List.ext_getElem (by simp) fun i h1 h2 => ?_
  rw [List.getElem_set]
  simp only [zipK, List.getElem_map, List.getElem_range]
  by_cases e : k = i
  · subst e; rw [if_pos rfl, if_pos (by omega)]
  · rw [if_neg e]
    by_cases e2 : i < k
    · rw [if_pos e2, if_pos (by omega)]
    · rw [if_neg e2, if_neg (by omega)]
def combineS (f : FuncId) (q : QSpec) : QSpec := fun vs K => ∃ g : UInt64 → UInt64 → UInt64, ∃ a b : List UInt64, vs = [.agg (.u64s a), .agg (.u64s b), .c (.clo f [])] ∧ (a.length = 4 ∧ b.length = 4) ∧ (∀ x y, q [.c (.u64 x), .c (.u64 y)] (fun v => v = .c (.u64 (g x y)))) ∧ K (.agg (.u64s (zipC g a b)))
set_option maxHeartbeats 400000 in
theorem combine_ok {cf : FuncId} {cq : QSpec} (hen : Enters Tryd.prog cf) (hok : FlatOK Tryd.prog gl cf cq) : FlatOK Tryd.prog gl 61 (combineS cf cq) := by
 refine flat_of (Γ := gK cf cq) (N := 24) Tryd.func61 rfl rfl fun vs K h => ?_
 obtain ⟨g, a, b, rfl, ⟨ha, hb⟩, hcall, h⟩ := h
 refine ⟨_, h, rfl, by simp, fun w I => ?_⟩
 have hlook := gK_look (f := cf) (q := cq)
 refine seq_k fun _ hK1 => ?_
 refine region_k (gK_ok hen hok) fun _ hK2 => ?_
 refine s_step rfl (by decide) rfl fun _ hS => ?_
 repeat refine And.intro qLl1 ?_
 refine hS _ _ _ ?_
 clear hS
 refine s_step rfl (by decide) rfl fun _ hS => ?_
 repeat refine And.intro qLl1 ?_
 refine hS _ _ _ ?_
 clear hS
 refine s_step rfl (by decide) rfl fun _ hS => ?_
 repeat refine And.intro qLl1 ?_
 refine hS _ _ _ ?_
 clear hS
 refine s_nil ?_
 refine hK2 _ _ _ ?_
 refine hK1 _ _ _ ?_
 refine seq_k fun _ hK3 => ?_
 refine region_k (gK_ok hen hok) fun _ hK4 => ?_
 refine s_step rfl (by decide) rfl fun _ hS => ?_
 repeat refine And.intro qLl1 ?_
 refine hS _ _ _ ?_
 clear hS
 refine s_nil ?_
 refine hK4 _ _ _ ?_
 refine hK3 _ _ _ ?_
 refine seq_k fun _ hK5 => ?_
 refine seq_k fun _ hK6 => ?_
 refine region_k (gK_ok hen hok) fun _ hK7 => ?_
 refine s_step rfl (by decide) rfl fun _ hS => ?_
 refine hS _ _ _ ?_
 clear hS
 refine s_nil ?_
 refine hK7 _ _ _ ?_
 refine hK6 _ _ _ ?_
 refine WP_block ?_
 refine WP_loop (α := Nat) (fun k => [(2, .c (.clo cf [])), (3, .c (.ptr 0 0)), (4, .c (.ptr 1 0)), (6, .c (.ptr 2 0)), (7, .c (.ptr 3 0)), (9, .c (.int .i64 k))]) (fun k => [(0, .own 52 (.u64s a) 4), (1, .own 52 (.u64s b) 4), (2, .own 52 (.u64s (List.replicate 4 0)) 4), (3, .own 52 (.u64s (zipK g a b k)) 4)]) 4 (fun k => k ≤ 4) (fun k => 4 - k) ?_ ?_
 ·refine Done_some [] id 0 (Nat.zero_le _) ⟨?_, ?_, (by decide : List.Nodup ([0, 1, 2, 3] : List Nat)), ?_, ?_, ⟨Nat.zero_le _, fun i hi => absurd hi (Nat.not_lt_zero i)⟩⟩
  ·exact uLl0
  ·exact uLl0
  ·exact uLl0
  ·exact uLl0
 ·intro k hk
  refine seq_k fun _ hK8 => ?_
  refine region_k (gK_ok hen hok) fun _ hK9 => ?_
  refine s_step rfl (by decide) rfl fun _ hS => ?_
  repeat refine And.intro qLl1 ?_
  refine hS _ _ _ ?_
  clear hS
  refine s_nil ?_
  refine hK9 _ _ _ ?_
  refine hK8 _ _ _ ?_
  refine seq_k fun _ hK10 => ?_
  refine WP_cond (b := _) rfl (fun h_t10 => ?_) (fun h_t10 => ?_)
  ·try try simp only [decide_eq_true_eq] at h_t10
   refine WP_skip ?_
   refine hK10 _ _ _ ?_
   refine seq_k fun _ hK11 => ?_
   refine WP_block ?_
   refine seq_k fun _ hK12 => ?_
   refine region_k (gK_ok hen hok) fun _ hK13 => ?_
   refine s_step rfl (by decide) rfl fun _ hS => ?_
   refine hS _ _ _ ?_
   clear hS
   refine s_step rfl (by decide) rfl fun _ hS => ?_
   refine hS _ _ _ ?_
   clear hS
   refine s_nil ?_
   refine hK13 _ _ _ ?_
   refine hK12 _ _ _ ?_
   have hk4 : k < 4 := by omega
   have hst := zipK_step g a b hk4
   have hi1 : 0 + (k : Int).toNat * 1 = k := by omega
   refine sched_k (gK_ok hen hok) [(0, true), (1, true), (2, true), (3, true), (4, true), (5, true), (6, true), (7, true), (8, false), (9, true), (10, false)] rfl (by kernel_rfl) (by kernel_rfl) fun _ hK14 => ?_
   refine d_read rfl rfl (by decide) rfl fun _ hS => ?_
   refine hS _ ?_
   clear hS
   refine d_read rfl rfl (by decide) rfl fun _ hS => ?_
   refine hS _ ?_
   clear hS
   refine d_read rfl rfl (by decide) rfl fun _ hS => ?_
   refine hS _ ?_
   clear hS
   refine d_read rfl rfl (by decide) rfl fun _ hS => ?_
   repeat refine And.intro qLl2 ?_
   refine hS _ ?_
   clear hS
   refine d_read rfl rfl (by decide) rfl fun _ hS => ?_
   repeat refine And.intro qLl2 ?_
   first | refine hS _ ?_ | (refine whole_yes qLl2 ?_; refine hS _ ?_) | (refine whole_sub ?_; refine hS _ ?_)
   clear hS
   refine d_read rfl rfl (by decide) rfl fun _ hS => ?_
   refine hS _ ?_
   clear hS
   refine d_read rfl rfl (by decide) rfl fun _ hS => ?_
   repeat refine And.intro qLl2 ?_
   refine hS _ ?_
   clear hS
   refine d_read rfl rfl (by decide) rfl fun _ hS => ?_
   repeat refine And.intro qLl2 ?_
   first | refine hS _ ?_ | (refine whole_yes qLl2 ?_; refine hS _ ?_) | (refine whole_sub ?_; refine hS _ ?_)
   clear hS
   refine d_grow rfl rfl (by decide) rfl fun _ hS => ?_
   refine call_varg (xs := [.u64 (a.getD (0 + (k : Int).toNat * 1) 0), .u64 (b.getD (0 + (k : Int).toNat * 1) 0)]) hlook (dataC_cons dataC_u64 (dataC_cons dataC_u64 dataC_nil)) dataC_nil ?_
   refine ⟨_, hcall _ _, ?_⟩
   refine hS _ _ _ ?_
   clear hS
   refine d_read rfl rfl (by decide) rfl fun _ hS => ?_
   repeat refine And.intro qLl2 ?_
   refine hS _ ?_
   clear hS
   refine d_grow0 rfl rfl rfl fun _ hS => ?_
   repeat refine And.intro qLl2 ?_
   first | refine hS _ _ _ ?_ | (refine splice_full qLl2 ?_; refine hS _ _ _ ?_)
   clear hS
   refine d_nil ?_
   refine hK14 _ _ _ ?_
   refine done_block ?_
   refine hK11 _ _ _ ?_
   refine region_k (gK_ok hen hok) fun _ hK15 => ?_
   refine s_step rfl (by decide) rfl fun _ hS => ?_
   repeat refine And.intro qLl1 ?_
   refine hS _ _ _ ?_
   clear hS
   refine s_step rfl (by decide) rfl fun _ hS => ?_
   refine hS _ _ _ ?_
   clear hS
   refine s_nil ?_
   refine hK15 _ _ _ ?_
   refine Done_some [] id (k + 1) ⟨by omega, by omega⟩ ⟨?_, ?_, (by decide : List.Nodup ([0, 1, 2, 3] : List Nat)), ?_, ?_, ⟨Nat.zero_le _, fun i hi => absurd hi (Nat.not_lt_zero i)⟩⟩
   ·exact uLl0
   ·exact uLl0
   ·exact uLl0
   ·exact uLl0
  ·try try simp only [decide_eq_false_iff_not, Int.not_lt] at h_t10
   refine WP_exit ?_
   refine done_thenx ?_
   refine done_thenx ?_
   refine Done_hit ?_
   refine hK5 _ _ _ ?_
   refine seq_k fun _ hK16 => ?_
   refine region_k (gK_ok hen hok) fun _ hK17 => ?_
   refine s_step rfl (by decide) rfl fun _ hS => ?_
   repeat refine And.intro qLl1 ?_
   first | refine hS _ _ _ ?_ | (refine whole_yes qLl1 ?_; refine hS _ _ _ ?_) | (refine whole_sub ?_; refine hS _ _ _ ?_)
   clear hS
   refine s_step0 rfl rfl fun _ hS => ?_
   repeat refine And.intro qLl1 ?_
   first | refine hS _ _ _ ?_ | (refine splice_full qLl1 ?_; refine hS _ _ _ ?_)
   clear hS
   refine s_nil ?_
   refine hK17 _ _ _ ?_
   refine hK16 _ _ _ ?_
   refine WP_ret (Done_flat (gK_ok hen hok) (fun _ _ h => h) (by first | rfl | assumption) [.cell 6 52] rfl ?_)
   repeat refine And.intro (by first | omega | exact trivial | rfl | (simp <;> omega)) ?_
   try refine ite_yes (by first | omega | exact trivial | rfl | (simp <;> omega)) ?_
   obtain rfl : k = 4 := by omega
   rfl

noncomputable def kinter : Ctx := { P := Tryd.prog, ty := ty, glob := gl, fs := [(61, .flat (combineS 62 kAndS))] }
theorem kinter_ok : kinter.OK := ⟨tyOK, ⟨⟨enters_mk Tryd.func61 (by kernel_rfl) rfl, combine_ok (enters_mk Tryd.func62 (by kernel_rfl) rfl) kAnd_ok⟩, trivial⟩, mixed⟩
@[simp] theorem kinter_ty : kinter.ty = ty := rfl

def interS : QSpec := fun vs K => ∃ a b : List UInt64, vs = [.agg (.u64s a), .agg (.u64s b)] ∧ (a.length = 4 ∧ b.length = 4) ∧ K (.agg (.u64s (zipC (fun x y => x &&& y) a b)))
theorem inter_ok : FlatOK Tryd.prog gl 56 interS := by
 refine flat_of (Γ := kinter) (N := 8) Tryd.func56 rfl rfl fun vs K h => ?_
 obtain ⟨a, b, rfl, ⟨ha, hb⟩, h⟩ := h
 refine ⟨_, h, rfl, by simp, fun w I => ?_⟩
 refine seq_k fun _ hK1 => ?_
 refine region_k kinter_ok fun _ hK2 => ?_
 refine s_step rfl (by decide) rfl fun _ hS => ?_
 repeat refine And.intro qLl1 ?_
 refine hS _ _ _ ?_
 clear hS
 refine s_step rfl (by decide) rfl fun _ hS => ?_
 repeat refine And.intro qLl1 ?_
 refine hS _ _ _ ?_
 clear hS
 refine s_step rfl (by decide) rfl fun _ hS => ?_
 repeat refine And.intro qLl1 ?_
 refine hS _ _ _ ?_
 clear hS
 refine s_nil ?_
 refine hK2 _ _ _ ?_
 refine hK1 _ _ _ ?_
 refine seq_k fun _ hK3 => ?_
 refine region_k kinter_ok fun _ hK4 => ?_
 refine s_step rfl (by decide) rfl fun _ hS => ?_
 repeat refine And.intro qLl1 ?_
 first | refine hS _ _ _ ?_ | (refine whole_yes qLl1 ?_; refine hS _ _ _ ?_) | (refine whole_sub ?_; refine hS _ _ _ ?_)
 clear hS
 refine s_step rfl (by decide) rfl fun _ hS => ?_
 repeat refine And.intro qLl1 ?_
 first | refine hS _ _ _ ?_ | (refine whole_yes qLl1 ?_; refine hS _ _ _ ?_) | (refine whole_sub ?_; refine hS _ _ _ ?_)
 clear hS
 refine s_step rfl (by decide) rfl fun _ hS => ?_
 repeat first | refine And.intro qLl1 ?_ | refine whole_yes qLl1 ?_ | refine whole_sub ?_
 refine ⟨fun x y => x &&& y, a, b, rfl, ⟨ha, hb⟩, fun x y => ⟨x, y, rfl, rfl⟩, ?_⟩
 repeat refine And.intro qLl1 ?_
 first | refine hS _ _ _ ?_ | (intro cap2 hcap2; refine hS _ _ _ ?_)
 clear hS
 refine s_step0 rfl rfl fun _ hS => ?_
 repeat refine And.intro qLl1 ?_
 first | refine hS _ _ _ ?_ | (refine splice_full qLl1 ?_; refine hS _ _ _ ?_)
 clear hS
 refine s_nil ?_
 refine hK4 _ _ _ ?_
 refine hK3 _ _ _ ?_
 refine WP_ret (Done_flat kinter_ok (fun _ _ h => h) (by first | rfl | assumption) [.cell 4 52] rfl ?_)
 repeat refine And.intro (by first | omega | exact trivial | rfl | (simp <;> omega)) ?_
 try refine ite_yes (by first | omega | exact trivial | rfl | (simp <;> omega)) ?_
 show _ = _
 rfl



noncomputable def kunion : Ctx := { P := Tryd.prog, ty := ty, glob := gl, fs := [(61, .flat (combineS 63 kOrS))] }
theorem kunion_ok : kunion.OK := ⟨tyOK, ⟨⟨enters_mk Tryd.func61 (by kernel_rfl) rfl, combine_ok (enters_mk Tryd.func63 (by kernel_rfl) rfl) kOr_ok⟩, trivial⟩, mixed⟩
@[simp] theorem kunion_ty : kunion.ty = ty := rfl

def unionS : QSpec := fun vs K => ∃ a b : List UInt64, vs = [.agg (.u64s a), .agg (.u64s b)] ∧ (a.length = 4 ∧ b.length = 4) ∧ K (.agg (.u64s (zipC (fun x y => x ||| y) a b)))
theorem union_ok : FlatOK Tryd.prog gl 57 unionS := by
 refine flat_of (Γ := kunion) (N := 8) Tryd.func57 rfl rfl fun vs K h => ?_
 obtain ⟨a, b, rfl, ⟨ha, hb⟩, h⟩ := h
 refine ⟨_, h, rfl, by simp, fun w I => ?_⟩
 refine seq_k fun _ hK1 => ?_
 refine region_k kunion_ok fun _ hK2 => ?_
 refine s_step rfl (by decide) rfl fun _ hS => ?_
 repeat refine And.intro qLl1 ?_
 refine hS _ _ _ ?_
 clear hS
 refine s_step rfl (by decide) rfl fun _ hS => ?_
 repeat refine And.intro qLl1 ?_
 refine hS _ _ _ ?_
 clear hS
 refine s_step rfl (by decide) rfl fun _ hS => ?_
 repeat refine And.intro qLl1 ?_
 refine hS _ _ _ ?_
 clear hS
 refine s_nil ?_
 refine hK2 _ _ _ ?_
 refine hK1 _ _ _ ?_
 refine seq_k fun _ hK3 => ?_
 refine region_k kunion_ok fun _ hK4 => ?_
 refine s_step rfl (by decide) rfl fun _ hS => ?_
 repeat refine And.intro qLl1 ?_
 first | refine hS _ _ _ ?_ | (refine whole_yes qLl1 ?_; refine hS _ _ _ ?_) | (refine whole_sub ?_; refine hS _ _ _ ?_)
 clear hS
 refine s_step rfl (by decide) rfl fun _ hS => ?_
 repeat refine And.intro qLl1 ?_
 first | refine hS _ _ _ ?_ | (refine whole_yes qLl1 ?_; refine hS _ _ _ ?_) | (refine whole_sub ?_; refine hS _ _ _ ?_)
 clear hS
 refine s_step rfl (by decide) rfl fun _ hS => ?_
 repeat first | refine And.intro qLl1 ?_ | refine whole_yes qLl1 ?_ | refine whole_sub ?_
 refine ⟨fun x y => x ||| y, a, b, rfl, ⟨ha, hb⟩, fun x y => ⟨x, y, rfl, rfl⟩, ?_⟩
 repeat refine And.intro qLl1 ?_
 first | refine hS _ _ _ ?_ | (intro cap2 hcap2; refine hS _ _ _ ?_)
 clear hS
 refine s_step0 rfl rfl fun _ hS => ?_
 repeat refine And.intro qLl1 ?_
 first | refine hS _ _ _ ?_ | (refine splice_full qLl1 ?_; refine hS _ _ _ ?_)
 clear hS
 refine s_nil ?_
 refine hK4 _ _ _ ?_
 refine hK3 _ _ _ ?_
 refine WP_ret (Done_flat kunion_ok (fun _ _ h => h) (by first | rfl | assumption) [.cell 4 52] rfl ?_)
 repeat refine And.intro (by first | omega | exact trivial | rfl | (simp <;> omega)) ?_
 try refine ite_yes (by first | omega | exact trivial | rfl | (simp <;> omega)) ?_
 show _ = _
 rfl



noncomputable def knotC : Ctx := { P := Tryd.prog, ty := ty, glob := gl, fs := [(61, .flat (combineS 64 kNotS))] }
theorem knotC_ok : knotC.OK := ⟨tyOK, ⟨⟨enters_mk Tryd.func61 (by kernel_rfl) rfl, combine_ok (enters_mk Tryd.func64 (by kernel_rfl) rfl) kNot_ok⟩, trivial⟩, mixed⟩
@[simp] theorem knotC_ty : knotC.ty = ty := rfl

def notCS : QSpec := fun vs K => ∃ a : List UInt64, vs = [.agg (.u64s a)] ∧ a.length = 4 ∧ K (.agg (.u64s (zipC (fun x _ => ~~~x) a a)))
theorem notC_ok : FlatOK Tryd.prog gl 58 notCS := by
 refine flat_of (Γ := knotC) (N := 6) Tryd.func58 rfl rfl fun vs K h => ?_
 obtain ⟨a, rfl, ha, h⟩ := h
 refine ⟨_, h, rfl, by simp, fun w I => ?_⟩
 refine seq_k fun _ hK1 => ?_
 refine region_k knotC_ok fun _ hK2 => ?_
 refine s_step rfl (by decide) rfl fun _ hS => ?_
 repeat refine And.intro qLl3 ?_
 refine hS _ _ _ ?_
 clear hS
 refine s_step rfl (by decide) rfl fun _ hS => ?_
 repeat refine And.intro qLl3 ?_
 refine hS _ _ _ ?_
 clear hS
 refine s_nil ?_
 refine hK2 _ _ _ ?_
 refine hK1 _ _ _ ?_
 refine seq_k fun _ hK3 => ?_
 refine region_k knotC_ok fun _ hK4 => ?_
 refine s_step rfl (by decide) rfl fun _ hS => ?_
 repeat refine And.intro qLl3 ?_
 first | refine hS _ _ _ ?_ | (refine whole_yes qLl3 ?_; refine hS _ _ _ ?_) | (refine whole_sub ?_; refine hS _ _ _ ?_)
 clear hS
 refine s_step rfl (by decide) rfl fun _ hS => ?_
 repeat refine And.intro qLl3 ?_
 first | refine hS _ _ _ ?_ | (refine whole_yes qLl3 ?_; refine hS _ _ _ ?_) | (refine whole_sub ?_; refine hS _ _ _ ?_)
 clear hS
 refine s_step rfl (by decide) rfl fun _ hS => ?_
 repeat first | refine And.intro qLl3 ?_ | refine whole_yes qLl3 ?_ | refine whole_sub ?_
 refine ⟨fun x _ => ~~~x, a, a, rfl, ⟨ha, ha⟩, fun x y => ⟨x, y, rfl, rfl⟩, ?_⟩
 repeat refine And.intro qLl3 ?_
 first | refine hS _ _ _ ?_ | (intro cap2 hcap2; refine hS _ _ _ ?_)
 clear hS
 refine s_step0 rfl rfl fun _ hS => ?_
 repeat refine And.intro qLl3 ?_
 first | refine hS _ _ _ ?_ | (refine splice_full qLl3 ?_; refine hS _ _ _ ?_)
 clear hS
 refine s_nil ?_
 refine hK4 _ _ _ ?_
 refine hK3 _ _ _ ?_
 refine WP_ret (Done_flat knotC_ok (fun _ _ h => h) (by first | rfl | assumption) [.cell 2 52] rfl ?_)
 repeat refine And.intro (by first | omega | exact trivial | rfl | (simp <;> omega)) ?_
 try refine ite_yes (by first | omega | exact trivial | rfl | (simp <;> omega)) ?_
 show _ = _
 rfl


end Go.Proofs.YtpfncffapgkjaaaDoor
