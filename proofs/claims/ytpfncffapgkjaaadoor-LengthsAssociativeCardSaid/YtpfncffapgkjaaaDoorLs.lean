/- The reference: one step of a set of states. -/
import Derived.Test.YtpfncffapgkjaaaDoorAb14
import Derived.Test.YtpfncffapgkjaaaDoorAb21
import Derived.Test.YtpfncffapgkjaaaDoorCtx
import Derived.Test.YtpfncffapgkjaaaDoorLa
import Derived.Test.YtpfncffapgkjaaaDoorLd
import Derived.Test.YtpfncffapgkjaaaDoorLi
import Derived.Test.YtpfncffapgkjaaaDoorLm
import Derived.Test.YtpfncffapgkjaaaDoorLn
import Derived.Test.YtpfncffapgkjaaaDoorLp
namespace Go.Proofs.YtpfncffapgkjaaaDoor
set_option linter.unusedVariables false
open Go.Ab Go.RowKit

theorem qLs0 {a : Prop} (h : a := by first | omega | exact trivial | rfl | (simp only [len_u8s, len_u32s, len_u64s, len_ints, len_bools, len_cells]; omega) | exact inR_i64.mpr ⟨by omega, by omega⟩ | (simp [hw1] <;> omega) | (refine And.intro ?_ ?_ <;> exact trivial) | exact ⟨trivial, trivial, trivial⟩ | decide | (refine And.intro rfl ?_; (repeat first | exact trivial | refine And.intro rfl ?_); done) | exact Nat.succ_pos _ | exact Nat.le_refl _ | (refine And.intro trivial ?_; (repeat first | exact trivial | refine And.intro trivial ?_); done)) : a := h
theorem qLs1 {a : Prop} (h : a := by first | omega | exact trivial | rfl | (simp only [len_u8s, len_u32s, len_u64s, len_ints, len_bools, len_cells]; omega) | exact inR_i64.mpr ⟨by omega, by omega⟩ | (simp [hw1] <;> omega) | (simp <;> omega) | (refine And.intro ?_ ?_ <;> exact trivial) | exact ⟨trivial, trivial, trivial⟩ | decide | (refine And.intro rfl ?_; (repeat first | exact trivial | refine And.intro rfl ?_); done) | exact Nat.succ_pos _ | exact Nat.le_refl _ | (refine And.intro trivial ?_; (repeat first | exact trivial | refine And.intro trivial ?_); done)) : a := h
theorem qLs2 {a : Prop} (h : a := by first | omega | exact trivial | rfl | (simp only [len_u8s, len_u32s, len_u64s, len_ints, len_bools, len_cells]; omega) | exact inR_i64.mpr ⟨by omega, by omega⟩ | (simp [hw1] <;> omega) | (rw [hsj]; omega) | (rw [hsj]; simp; omega) | (refine And.intro ?_ ?_ <;> exact trivial) | exact ⟨trivial, trivial, trivial⟩ | decide | (refine And.intro rfl ?_; (repeat first | exact trivial | refine And.intro rfl ?_); done) | exact Nat.succ_pos _ | exact Nat.le_refl _ | (refine And.intro trivial ?_; (repeat first | exact trivial | refine And.intro trivial ?_); done)) : a := h

theorem uLs0 {a : Prop} (h : a := by
    repeat' (first | exact trivial | refine And.intro ?_ ?_ | rfl | omega | decide | (show (_ : Nat) < _; decide) | exact low_nil' | refine low_cons' ?_ ?_ | exact Nat.le_refl _ | exact Nat.succ_pos _)
    all_goals first | omega | exact low_rows _ | exact low_cons' trivial (low_cons' trivial (low_cons' trivial low_nil')) | (show (_ : List Bool) = _; first | rfl | exact hst | (simp [stepK]; done)) | (simp; done) | (simp <;> omega) | skip) : a := h

def setsC (l : List (List Bool)) : List Cell := l.map fun b => .ds b.length (.bools b)
@[simp] theorem setsC_length (l : List (List Bool)) : (setsC l).length = l.length := by simp [setsC]
theorem get_sets {l : List (List Bool)} {i : Nat} (h : i < l.length) : (Cont.cells (setsC l)).get i = .ds (l.getD i []).length (.bools (l.getD i [])) := by
  simp [Cont.get, setsC, List.getD_eq_getElem?_getD, h]
theorem low_sets {n : Nat} (l : List (List Bool)) : (Cont.cells (setsC l)).low n := fun x hx => by
  obtain ⟨r, _, rfl⟩ := List.mem_map.1 hx
  exact trivial
theorem isD_sets (l : List (List Bool)) : (Cont.cells (setsC l)).isD := by
  show allD (setsC l)
  induction l with
  | nil => trivial
  | cons r l ih => exact ⟨trivial, ih⟩
theorem solid_sets (l : List (List Bool)) : (Cont.cells (setsC l)).solid := by
  show solidAll (setsC l)
  induction l with
  | nil => trivial
  | cons r l ih => exact ⟨trivial, ih⟩
theorem setsC_append (a : List (List Bool)) (b : List Bool) : setsC a ++ [.ds b.length (.bools b)] = setsC (a ++ [b]) := by simp [setsC]
theorem allTo_sets {tf : Nat → Ty} {H : Heap} {is : List Nat} {ρ : Nat → Nat} (l : List (List Bool)) : allTo (Cell.to tf H is ρ) (setsC l) (setsC l) := by
  induction l with
  | nil => trivial
  | cons r l ih => exact ⟨⟨rfl, rfl⟩, ih⟩
def markL (r : List Int) : Nat → List Bool → List Bool
  | 0, o => o
  | j + 1, o => (markL r j o).set (r.getD j 0).toNat true
@[simp] theorem markL_length (r : List Int) : ∀ j o, (markL r j o).length = o.length
  | 0, _ => rfl
  | j + 1, o => by rw [markL, List.length_set, markL_length r j o]
def stepK (d : Dfa) (bs : List Bool) : Nat → List Bool
  | 0 => List.replicate bs.length false
  | k + 1 => if bs.getD k false then markL (d.next.getD k []) d.nc (stepK d bs k) else stepK d bs k
@[simp] theorem stepK_length (d : Dfa) (bs : List Bool) : ∀ k, (stepK d bs k).length = bs.length
  | 0 => by simp [stepK]
  | k + 1 => by
    have := stepK_length d bs k
    rw [stepK]; split <;> simp [this]
def stepL (d : Dfa) (bs : List Bool) : List Bool := stepK d bs bs.length
@[simp] theorem stepL_length (d : Dfa) (bs : List Bool) : (stepL d bs).length = bs.length := stepK_length ..
def Dfa.rs (d : Dfa) : Nat → List Bool
  | 0 => (List.replicate d.next.length false).set 0 true
  | k + 1 => stepL d (Dfa.rs d k)
@[simp] theorem rs_length (d : Dfa) : ∀ k, (d.rs k).length = d.next.length
  | 0 => by simp [Dfa.rs]
  | k + 1 => by rw [Dfa.rs, stepL_length, rs_length d k]
def accR (d : Dfa) (bs : List Bool) : Bool := (List.range bs.length).any fun s => bs.getD s false && d.acc.getD s false
def ofRL (d : Dfa) : LOut := if validRD d then match findRep d.rs 257 0 with
    | some (i, k) => tabOut (tabL (fun n => accR d (d.rs n)) i (k - i))
    | none => errO 0
  else errO 1
theorem validRD_spec {d : Dfa} (h : validRD d = true) : (1 ≤ d.next.length ∧ d.next.length ≤ 64 ∧ d.acc.length = d.next.length) ∧ ∀ k, k < d.next.length → (d.next.getD k []).length = d.nc ∧ ∀ j, j < (d.next.getD k []).length → 0 ≤ (d.next.getD k []).getD j 0 ∧ (d.next.getD k []).getD j 0 < d.next.length := by
  simp only [validRD, soundD, Bool.and_eq_true, decide_eq_true_eq] at h
  refine ⟨⟨h.2.1.1.1, h.1, h.2.1.1.2⟩, fun k hk => ?_⟩
  have h1 := List.all_eq_true.1 h.2.2 _ (getD_mem (d := []) hk)
  simp only [rowOK, Bool.and_eq_true, decide_eq_true_eq] at h1
  refine ⟨h1.1, fun j hj => ?_⟩
  have h2 := List.all_eq_true.1 h1.2 _ (getD_mem (d := 0) hj)
  simpa only [tgtOK, Bool.and_eq_true, decide_eq_true_eq] using h2
def encB : List Bool → Nat
  | [] => 0
  | b :: l => b.toNat + 2 * encB l
theorem encB_lt : ∀ l, encB l < 2 ^ l.length
  | [] => by simp [encB]
  | b :: l => by
    have := encB_lt l
    rw [encB, List.length_cons, Nat.pow_succ]
    cases b <;> simp <;> omega
theorem encB_inj : ∀ {l m : List Bool}, l.length = m.length → encB l = encB m → l = m
  | [], [], _, _ => rfl
  | [], _ :: _, h, _ => by simp at h
  | _ :: _, [], h, _ => by simp at h
  | a :: l, b :: m, h, e => by
    simp only [encB] at e
    have h1 : a = b := by cases a <;> cases b <;> simp at e ⊢ <;> omega
    subst h1
    rw [encB_inj (l := l) (m := m) (by simpa using h) (by omega)]
theorem rs_count {d : Dfa} (h8 : d.next.length ≤ 8) {k : Nat} (hd : ∀ i j, i < j → j < k → d.rs i ≠ d.rs j) : k ≤ 256 := by
  have h1 : ((List.range k).map fun i => encB (d.rs i)).Nodup := by
    refine List.pairwise_map.2 ?_
    refine List.Pairwise.imp_of_mem ?_ (List.pairwise_lt_range (n := k))
    intro a b ha hb hab e
    exact hd a b hab (List.mem_range.1 hb) (encB_inj (by simp) e)
  have h2 := nodup_lt (m := 256) h1 fun x hx => by
    obtain ⟨i, _, rfl⟩ := List.mem_map.1 hx
    have := encB_lt (d.rs i)
    rw [rs_length] at this
    have h3 : 2 ^ d.next.length ≤ 2 ^ 8 := Nat.pow_le_pow_right (by omega) h8
    omega
  simpa using h2
def stepRS : QSpec := fun vs K => ∃ d bs, vs = [dfaV d, .c (.ds bs.length (.bools bs))] ∧ d.wf ∧ (bs.length = d.next.length ∧ d.next.length ≤ 64 ∧ ∀ k, k < d.next.length → (d.next.getD k []).length = d.nc ∧ ∀ j, j < (d.next.getD k []).length → 0 ≤ (d.next.getD k []).getD j 0 ∧ (d.next.getD k []).getD j 0 < d.next.length) ∧ K (.c (.ds (stepL d bs).length (.bools (stepL d bs))))
set_option maxHeartbeats 1000000 in
theorem stepR_ok : DataOK Tryd.prog gl 51 stepRS := by
 refine data_of (Γ := g0) (N := 41) Tryd.func51 rfl rfl fun vs K h => ?_
 obtain ⟨d, bs, rfl, ⟨hw1, hw2, hw3, hw4, hw5⟩, ⟨hbl, h64, hrows⟩, h⟩ := h
 refine ⟨_, h, trivial, by simp, fun w I => ?_⟩
 refine seq_k fun _ hK1 => ?_
 refine region_k g0_ok fun _ hK2 => ?_
 refine s_step rfl (by decide) rfl fun _ hS => ?_
 repeat refine And.intro qLs0 ?_
 refine hS _ _ _ ?_
 clear hS
 refine s_step rfl (by decide) rfl fun _ hS => ?_
 refine hS _ _ _ ?_
 clear hS
 refine s_nil ?_
 refine hK2 _ _ _ ?_
 refine hK1 _ _ _ ?_
 refine seq_k fun _ hK3 => ?_
 refine region_k g0_ok fun _ hK4 => ?_
 refine s_step rfl (by decide) rfl fun _ hS => ?_
 refine hS _ _ _ ?_
 clear hS
 refine s_step rfl (by decide) rfl fun _ hS => ?_
 repeat refine And.intro qLs0 ?_
 refine hS _ _ _ ?_
 clear hS
 refine s_step rfl (by decide) rfl fun _ hS => ?_
 repeat refine And.intro qLs0 ?_
 refine hS _ _ _ ?_
 clear hS
 refine s_step rfl (by decide) rfl fun _ hS => ?_
 refine hS _ _ _ ?_
 clear hS
 refine s_nil ?_
 refine hK4 _ _ _ ?_
 refine hK3 _ _ _ ?_
 refine seq_k fun _ hK5 => ?_
 refine seq_k fun _ hK6 => ?_
 refine region_k g0_ok fun _ hK7 => ?_
 refine s_step rfl (by decide) rfl fun _ hS => ?_
 refine hS _ _ _ ?_
 clear hS
 refine s_nil ?_
 refine hK7 _ _ _ ?_
 refine hK6 _ _ _ ?_
 refine WP_block ?_
 refine WP_loop (α := Nat) (fun k => [(1, .c (.ds bs.length (.bools bs))), (2, .c (.ptr 0 0)), (5, .c (.slice 1 0 bs.length bs.length)), (6, .c (.int .i64 k))]) (fun k => [(0, .own 40 (dfaC d) 3), (1, .own 4 (.bools (stepK d bs k)) bs.length)]) 2 (fun k => k ≤ bs.length) (fun k => bs.length - k) ?_ ?_
 ·refine Done_some [] id 0 (Nat.zero_le _) ⟨?_, ?_, (by decide : List.Nodup ([0, 1] : List Nat)), ?_, ?_, ⟨Nat.zero_le _, fun i hi => absurd hi (Nat.not_lt_zero i)⟩⟩
  ·exact uLs0
  ·exact uLs0
  ·exact uLs0
  ·exact uLs0
 ·intro k hk
  refine seq_k fun _ hK8 => ?_
  refine seq_k fun _ hK9 => ?_
  refine region_k g0_ok fun _ hK10 => ?_
  refine s_step rfl (by decide) rfl fun _ hS => ?_
  refine hS _ _ _ ?_
  clear hS
  refine s_step rfl (by decide) rfl fun _ hS => ?_
  refine hS _ _ _ ?_
  clear hS
  refine s_step rfl (by decide) rfl fun _ hS => ?_
  repeat refine And.intro qLs0 ?_
  refine hS _ _ _ ?_
  clear hS
  refine s_step rfl (by decide) rfl fun _ hS => ?_
  repeat refine And.intro qLs0 ?_
  refine hS _ _ _ ?_
  clear hS
  refine s_nil ?_
  refine hK10 _ _ _ ?_
  refine hK9 _ _ _ ?_
  refine WP_cond (b := _) rfl (fun h_t14 => ?_) (fun h_t14 => ?_)
  ·try try simp only [decide_eq_true_eq] at h_t14
   refine WP_skip ?_
   refine hK8 _ _ _ ?_
   refine seq_k fun _ hK11 => ?_
   refine WP_block ?_
   refine seq_k fun _ hK12 => ?_
   have hkn : k < d.next.length := by omega
   have hkb : k < bs.length := by omega
   obtain ⟨hrl, hrt⟩ := hrows k hkn
   refine region_k g0_ok fun _ hK13 => ?_
   refine s_step rfl (by decide) rfl fun _ hS => ?_
   refine hS _ _ _ ?_
   clear hS
   refine s_nil ?_
   refine hK13 _ _ _ ?_
   refine hK12 _ _ _ ?_
   refine WP_block ?_
   refine WP_loop (α := Nat) (fun j => [(1, .c (.ds bs.length (.bools bs))), (2, .c (.ptr 0 0)), (5, .c (.slice 1 0 bs.length bs.length)), (6, .c (.int .i64 k)), (7, .c (.int .i64 j))]) (fun j => [(0, .own 40 (dfaC d) 3), (1, .own 4 (.bools (markL (d.next.getD k []) j (stepK d bs k))) bs.length)]) 2 (fun j => j ≤ d.nc ∧ (bs.getD k false = false → j = 0)) (fun j => d.nc - j) ?_ ?_
   ·refine Done_some [] id 0 ⟨Nat.zero_le _, fun _ => rfl⟩ ⟨?_, ?_, (by decide : List.Nodup ([0, 1] : List Nat)), ?_, ?_, ⟨Nat.zero_le _, fun i hi => absurd hi (Nat.not_lt_zero i)⟩⟩
    ·exact uLs0
    ·exact uLs0
    ·exact uLs0
    ·exact uLs0
   ·intro j hj
    refine seq_k fun _ hK14 => ?_
    refine seq_k fun _ hK15 => ?_
    refine region_k g0_ok fun _ hK16 => ?_
    refine s_step rfl (by decide) rfl fun _ hS => ?_
    refine hS _ _ _ ?_
    clear hS
    refine s_step rfl (by decide) rfl fun _ hS => ?_
    repeat refine And.intro qLs1 ?_
    refine hS _ _ _ ?_
    clear hS
    refine s_step rfl (by decide) rfl fun _ hS => ?_
    repeat refine And.intro qLs1 ?_
    first | refine hS _ _ _ ?_ | (refine whole_yes qLs1 ?_; refine hS _ _ _ ?_) | (refine whole_sub ?_; refine hS _ _ _ ?_)
    clear hS
    refine s_step rfl (by decide) rfl fun _ hS => ?_
    repeat refine And.intro qLs1 ?_
    refine hS _ _ _ ?_
    clear hS
    refine s_step rfl (by decide) rfl fun _ hS => ?_
    repeat refine And.intro qLs1 ?_
    refine hS _ _ _ ?_
    clear hS
    refine s_step rfl (by decide) rfl fun _ hS => ?_
    refine s_split hS (fun hb5 => ?_) (fun hb5 => ?_)
    ·clear hS
     try simp only [decide_eq_true_eq] at hb5
     refine s_guard (b := true) rfl (by decide) rfl rfl (fun _ _ hS => ?_) (fun e => absurd e (by decide))
     refine hS _ _ _ ?_
     clear hS
     refine s_guard (b := true) rfl (by decide) rfl rfl (fun _ _ hS => ?_) (fun e => absurd e (by decide))
     refine hS _ _ _ ?_
     clear hS
     refine s_guard (b := true) rfl (by decide) rfl rfl (fun _ _ hS => ?_) (fun e => absurd e (by decide))
     repeat refine And.intro qLs1 ?_
     refine hS _ _ _ ?_
     clear hS
     refine s_guard (b := true) rfl (by decide) rfl rfl (fun _ _ hS => ?_) (fun e => absurd e (by decide))
     repeat refine And.intro qLs1 ?_
     first | refine hS _ _ _ ?_ | (refine whole_yes qLs1 ?_; refine hS _ _ _ ?_) | (refine whole_sub ?_; refine hS _ _ _ ?_)
     clear hS
     refine s_step rfl (by decide) rfl fun _ hS => ?_
     refine hS _ _ _ ?_
     clear hS
     refine s_nil ?_
     refine hK16 _ _ _ ?_
     refine hK15 _ _ _ ?_
     refine WP_cond (b := _) rfl (fun h_t27 => ?_) (fun h_t27 => ?_)
     ·have hbit : bs.getD k false = true := by simpa using h_t27
      refine WP_skip ?_
      refine hK14 _ _ _ ?_
      refine seq_k fun _ hK17 => ?_
      refine WP_block ?_
      have hjn : j < (d.next.getD k []).length := by omega
      obtain ⟨ht0, ht1⟩ := hrt j hjn
      have hlen : (markL (d.next.getD k []) j (stepK d bs k)).length = bs.length := by simp
      have hsj : ((d.next.getD k []).getD ((j : Int).toNat * 1) 0) = (d.next.getD k []).getD j 0 := by rw [show (j : Int).toNat * 1 = j by omega]
      refine region_k g0_ok fun _ hK18 => ?_
      refine s_step rfl (by decide) rfl fun _ hS => ?_
      refine hS _ _ _ ?_
      clear hS
      refine s_step rfl (by decide) rfl fun _ hS => ?_
      repeat refine And.intro qLs2 ?_
      refine hS _ _ _ ?_
      clear hS
      refine s_step rfl (by decide) rfl fun _ hS => ?_
      repeat refine And.intro qLs2 ?_
      first | refine hS _ _ _ ?_ | (refine whole_yes qLs2 ?_; refine hS _ _ _ ?_) | (refine whole_sub ?_; refine hS _ _ _ ?_)
      clear hS
      refine s_step rfl (by decide) rfl fun _ hS => ?_
      refine hS _ _ _ ?_
      clear hS
      refine s_step rfl (by decide) rfl fun _ hS => ?_
      repeat refine And.intro qLs2 ?_
      refine hS _ _ _ ?_
      clear hS
      refine s_step rfl (by decide) rfl fun _ hS => ?_
      repeat refine And.intro qLs2 ?_
      rw [show (k : Int).toNat * 1 = k by omega, get_rows hkn]
      first | refine hS _ _ _ ?_ | (refine whole_yes qLs2 ?_; refine hS _ _ _ ?_) | (refine whole_sub ?_; refine hS _ _ _ ?_)
      clear hS
      refine s_step rfl (by decide) rfl fun _ hS => ?_
      refine hS _ _ _ ?_
      clear hS
      refine s_step rfl (by decide) rfl fun _ hS => ?_
      repeat refine And.intro qLs2 ?_
      refine hS _ _ _ ?_
      clear hS
      refine s_step rfl (by decide) rfl fun _ hS => ?_
      repeat refine And.intro qLs2 ?_
      first | refine hS _ _ _ ?_ | (refine whole_yes qLs2 ?_; refine hS _ _ _ ?_) | (refine whole_sub ?_; refine hS _ _ _ ?_)
      clear hS
      refine s_step rfl (by decide) rfl fun _ hS => ?_
      repeat refine And.intro qLs2 ?_
      refine hS _ _ _ ?_
      clear hS
      refine s_step0 rfl rfl fun _ hS => ?_
      repeat refine And.intro qLs2 ?_
      first | refine hS _ _ _ ?_ | (refine splice_full qLs2 ?_; refine hS _ _ _ ?_)
      clear hS
      refine s_nil ?_
      refine hK18 _ _ _ ?_
      have hst : (markL (d.next.getD k []) j (stepK d bs k)).set (0 + ((d.next.getD k []).getD ((j : Int).toNat * 1) 0).toNat * 1) true = (markL (d.next.getD k []) (j + 1) (stepK d bs k)) := by rw [hsj, Nat.zero_add, Nat.mul_one]; rfl
      refine done_block ?_
      refine hK17 _ _ _ ?_
      refine region_k g0_ok fun _ hK19 => ?_
      refine s_step rfl (by decide) rfl fun _ hS => ?_
      refine hS _ _ _ ?_
      clear hS
      refine s_step rfl (by decide) rfl fun _ hS => ?_
      repeat refine And.intro qLs0 ?_
      refine hS _ _ _ ?_
      clear hS
      refine s_step rfl (by decide) rfl fun _ hS => ?_
      refine hS _ _ _ ?_
      clear hS
      refine s_nil ?_
      refine hK19 _ _ _ ?_
      refine Done_some [] id (j + 1) ⟨⟨by omega, fun h0 => by rw [hbit] at h0; cases h0⟩, by omega⟩ ⟨?_, ?_, (by decide : List.Nodup ([0, 1] : List Nat)), ?_, ?_, ⟨Nat.zero_le _, fun i hi => absurd hi (Nat.not_lt_zero i)⟩⟩
      ·exact uLs0
      ·exact uLs0
      ·exact uLs0
      ·exact uLs0
     ·have hbit : bs.getD k false = false := by simpa using h_t27
      have hst : (markL (d.next.getD k []) j (stepK d bs k)) = stepK d bs (k + 1) := by rw [hj.2 hbit, stepK, if_neg (by rw [hbit]; decide)]; rfl
      refine WP_exit ?_
      refine done_thenx ?_
      refine done_thenx ?_
      refine Done_hit ?_
      refine done_block ?_
      refine hK11 _ _ _ ?_
      refine region_k g0_ok fun _ hK20 => ?_
      refine s_step rfl (by decide) rfl fun _ hS => ?_
      refine hS _ _ _ ?_
      clear hS
      refine s_step rfl (by decide) rfl fun _ hS => ?_
      repeat refine And.intro qLs0 ?_
      refine hS _ _ _ ?_
      clear hS
      refine s_step rfl (by decide) rfl fun _ hS => ?_
      refine hS _ _ _ ?_
      clear hS
      refine s_nil ?_
      refine hK20 _ _ _ ?_
      refine Done_some [] id (k + 1) ⟨by omega, by omega⟩ ⟨?_, ?_, (by decide : List.Nodup ([0, 1] : List Nat)), ?_, ?_, ⟨Nat.zero_le _, fun i hi => absurd hi (Nat.not_lt_zero i)⟩⟩
      ·exact uLs0
      ·exact uLs0
      ·exact uLs0
      ·exact uLs0
    ·clear hS
     try simp only [decide_eq_false_iff_not, Int.not_lt] at hb5
     refine s_guard (b := false) rfl (by decide) rfl rfl (fun e => absurd e (by decide)) (fun _ => ?_)
     refine s_guard (b := false) rfl (by decide) rfl rfl (fun e => absurd e (by decide)) (fun _ => ?_)
     refine s_guard (b := false) rfl (by decide) rfl rfl (fun e => absurd e (by decide)) (fun _ => ?_)
     refine s_guard (b := false) rfl (by decide) rfl rfl (fun e => absurd e (by decide)) (fun _ => ?_)
     refine s_step rfl (by decide) rfl fun _ hS => ?_
     refine hS _ _ _ ?_
     clear hS
     refine s_nil ?_
     refine hK16 _ _ _ ?_
     refine hK15 _ _ _ ?_
     have hst : (markL (d.next.getD k []) j (stepK d bs k)) = stepK d bs (k + 1) := by
      rw [show j = d.nc by omega, stepK]
      cases hbk : bs.getD k false with
      | true => rfl
      | false => have := hj.2 hbk; rw [if_neg (by decide), show d.nc = 0 by omega]; rfl
     refine WP_cond (b := _) rfl (fun h_t27 => ?_) (fun _ => ?_)
     ·exfalso; cases h_t27
     refine WP_exit ?_
     refine done_thenx ?_
     refine done_thenx ?_
     refine Done_hit ?_
     refine done_block ?_
     refine hK11 _ _ _ ?_
     refine region_k g0_ok fun _ hK21 => ?_
     refine s_step rfl (by decide) rfl fun _ hS => ?_
     refine hS _ _ _ ?_
     clear hS
     refine s_step rfl (by decide) rfl fun _ hS => ?_
     repeat refine And.intro qLs0 ?_
     refine hS _ _ _ ?_
     clear hS
     refine s_step rfl (by decide) rfl fun _ hS => ?_
     refine hS _ _ _ ?_
     clear hS
     refine s_nil ?_
     refine hK21 _ _ _ ?_
     refine Done_some [] id (k + 1) ⟨by omega, by omega⟩ ⟨?_, ?_, (by decide : List.Nodup ([0, 1] : List Nat)), ?_, ?_, ⟨Nat.zero_le _, fun i hi => absurd hi (Nat.not_lt_zero i)⟩⟩
     ·exact uLs0
     ·exact uLs0
     ·exact uLs0
     ·exact uLs0
  ·try try simp only [decide_eq_false_iff_not, Int.not_lt] at h_t14
   refine WP_exit ?_
   refine done_thenx ?_
   refine done_thenx ?_
   refine Done_hit ?_
   refine hK5 _ _ _ ?_
   refine seq_k fun _ hK22 => ?_
   obtain rfl : k = bs.length := by omega
   refine region_k g0_ok fun _ hK23 => ?_
   refine s_step rfl (by decide) rfl fun _ hS => ?_
   refine hS _ _ _ ?_
   clear hS
   refine s_step rfl (by decide) rfl fun _ hS => ?_
   refine hS _ _ _ ?_
   clear hS
   refine s_nil ?_
   refine hK23 _ _ _ ?_
   refine hK22 _ _ _ ?_
   refine WP_ret (Done_data g0_ok (fun _ _ h => h) (by trivial) [1] [.tmp 4] rfl ?_)
   repeat' (first | exact trivial | refine And.intro ?_ ?_ | rfl | omega | decide | (show (_ : Nat) < _; decide) | exact low_nil' | refine low_cons' ?_ ?_ | exact Nat.le_refl _ | exact Nat.succ_pos _)
   all_goals first | omega | (simp [stepL]; done) | skip


end Go.Proofs.YtpfncffapgkjaaaDoor
