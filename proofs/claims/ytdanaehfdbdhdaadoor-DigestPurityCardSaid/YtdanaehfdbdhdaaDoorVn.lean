/- Small functions of the laws and the reference. -/
import Derived.Test.YtdanaehfdbdhdaaDoorVl
namespace Go.Proofs.YtdanaehfdbdhdaaDoor
set_option linter.unusedVariables false
open Go.Ab Go.RowKit

def shortS : QSpec := fun vs K => match vs with
  | [.c (.ds n (.u8s l)), .c (.int .i64 m)] => (n = l.length ∧ l.length ≤ 9223372036854775807 ∧ 0 ≤ m) ∧ K (.c (.ds (l.take m.toNat).length (.u8s (l.take m.toNat))))
  | _ => False
theorem short_ok : DataOK Tryd.prog gl 12 shortS := by
  refine data_of (Γ := g0) (N := 11) Tryd.func12 rfl rfl fun vs K h => ?_
  unfold shortS at h
  split at h
  · rename_i n l m
    obtain ⟨⟨hn, hl, h0⟩, h⟩ := h
    subst hn
    refine ⟨_, h, trivial, by simp, fun w I => ?_⟩
    refine seq_k fun _ hK1 => ?_
    refine region_k g0_ok fun _ hK2 => ?_
    refine s_step rfl (by decide) rfl fun _ hS => ?_
    refine hS _ _ _ ?_
    clear hS
    refine s_nil ?_
    refine hK2 _ _ _ ?_
    refine hK1 _ _ _ ?_
    refine seq_k fun _ hK3 => ?_
    refine region_k g0_ok fun _ hK4 => ?_
    refine s_step rfl (by decide) rfl fun _ hS => ?_
    refine hS _ _ _ ?_
    clear hS
    refine s_step rfl (by decide) rfl fun _ hS => ?_
    refine hS _ _ _ ?_
    clear hS
    refine s_step rfl (by decide) rfl fun _ hS => ?_
    repeat refine And.intro (by first | omega | exact trivial | rfl | (simp <;> omega) | (split <;> omega) | (refine And.intro ?_ ?_ <;> exact trivial) | exact ⟨trivial, trivial, trivial⟩) ?_
    refine hS _ _ _ ?_
    clear hS
    refine s_step rfl (by decide) rfl fun _ hS => ?_
    refine hS _ _ _ ?_
    clear hS
    refine s_step rfl (by decide) rfl fun _ hS => ?_
    repeat refine And.intro (by first | omega | exact trivial | rfl | (simp <;> omega) | (split <;> omega) | (refine And.intro ?_ ?_ <;> exact trivial) | exact ⟨trivial, trivial, trivial⟩) ?_
    refine hS _ _ _ ?_
    clear hS
    refine s_step rfl (by decide) rfl fun _ hS => ?_
    repeat refine And.intro (by first | omega | exact trivial | rfl | (simp <;> omega) | (split <;> omega) | (refine And.intro ?_ ?_ <;> exact trivial) | exact ⟨trivial, trivial, trivial⟩) ?_
    first | refine hS _ _ _ ?_ | (refine ite_yes (by first | omega | exact trivial | rfl | (simp <;> omega) | (split <;> omega) | (refine And.intro ?_ ?_ <;> exact trivial) | exact ⟨trivial, trivial, trivial⟩) ?_; (repeat refine And.intro (by first | omega | exact trivial | rfl | (simp <;> omega) | (split <;> omega) | (refine And.intro ?_ ?_ <;> exact trivial) | exact ⟨trivial, trivial, trivial⟩) ?_); refine hS _ _ _ ?_)
    clear hS
    refine s_step rfl (by decide) rfl fun _ hS => ?_
    refine hS _ _ _ ?_
    clear hS
    refine s_nil ?_
    refine hK4 _ _ _ ?_
    refine hK3 _ _ _ ?_
    refine WP_ret (Done_data g0_ok (fun _ _ h => h) (by trivial) [] [.tmp 4] rfl ?_)
    refine And.intro ?_ ?_
    · show (if m < (l.length : Int) then m else l.length).toNat = _
      split <;> simp <;> omega
    · show Cont.u8s (l.take ((if m < (l.length : Int) then m else l.length).toNat * 1)) = _
      split
      · simp
      · rw [List.take_of_length_le (by simp), List.take_of_length_le (by omega)]
  · exact h.elim

def sameBytesS : QSpec := fun vs K => match vs with
  | [.c (.ds n (.u8s a)), .c (.ds m (.u8s b))] => (n = a.length ∧ m = b.length) ∧ K (.c (.bool (decide (a = b))))
  | _ => False
theorem sameBytes_ok : FlatOK Tryd.prog gl 26 sameBytesS := by
  refine flat_of (Γ := g0) (N := 10) Tryd.func26 rfl rfl fun vs K h => ?_
  unfold sameBytesS at h
  split at h
  · rename_i n a m b
    obtain ⟨⟨hn, hm⟩, h⟩ := h
    subst hn hm
    refine ⟨_, h, rfl, by simp, fun w I => ?_⟩
    refine seq_k fun _ hK1 => ?_
    refine region_k g0_ok fun _ hK2 => ?_
    refine s_step rfl (by decide) rfl fun _ hS => ?_
    refine hS _ _ _ ?_
    clear hS
    refine s_nil ?_
    refine hK2 _ _ _ ?_
    refine hK1 _ _ _ ?_
    refine seq_k fun _ hK3 => ?_
    refine region_k g0_ok fun _ hK4 => ?_
    refine s_step rfl (by decide) rfl fun _ hS => ?_
    refine hS _ _ _ ?_
    clear hS
    refine s_step rfl (by decide) rfl fun _ hS => ?_
    repeat first | refine And.intro (by first | omega | exact trivial | rfl | (simp <;> omega) | (refine And.intro ?_ ?_ <;> exact trivial) | exact ⟨trivial, trivial, trivial⟩) ?_ | refine whole_yes (by first | omega | exact trivial | rfl | (simp <;> omega) | (refine And.intro ?_ ?_ <;> exact trivial) | exact ⟨trivial, trivial, trivial⟩) ?_ | refine whole_sub ?_
    refine hS _ _ _ ?_
    clear hS
    refine s_step rfl (by decide) rfl fun _ hS => ?_
    refine hS _ _ _ ?_
    clear hS
    refine s_step rfl (by decide) rfl fun _ hS => ?_
    repeat first | refine And.intro (by first | omega | exact trivial | rfl | (simp <;> omega) | (refine And.intro ?_ ?_ <;> exact trivial) | exact ⟨trivial, trivial, trivial⟩) ?_ | refine whole_yes (by first | omega | exact trivial | rfl | (simp <;> omega) | (refine And.intro ?_ ?_ <;> exact trivial) | exact ⟨trivial, trivial, trivial⟩) ?_ | refine whole_sub ?_
    refine hS _ _ _ ?_
    clear hS
    refine s_step rfl (by decide) rfl fun _ hS => ?_
    repeat refine And.intro (by first | omega | exact trivial | rfl | (simp <;> omega) | (refine And.intro ?_ ?_ <;> exact trivial) | exact ⟨trivial, trivial, trivial⟩) ?_
    refine hS _ _ _ ?_
    clear hS
    refine s_step rfl (by decide) rfl fun _ hS => ?_
    refine hS _ _ _ ?_
    clear hS
    refine s_nil ?_
    refine hK4 _ _ _ ?_
    refine hK3 _ _ _ ?_
    refine WP_ret (Done_flat g0_ok (fun _ _ h => h) (by first | rfl | assumption) [.tmp 4] rfl ?_)
    repeat refine And.intro (by first | omega | exact trivial | rfl | (simp <;> omega)) ?_
    try refine ite_yes (by first | omega | exact trivial | rfl | (simp <;> omega)) ?_
    show _ = _
    rfl
  · exact h.elim

theorem take_eq_succ {ps qs : List (List UInt8)} {k : Nat} (h : ps.take k = qs.take k) (h1 : k < ps.length) (h2 : k < qs.length) (e : ps.getD k [] = qs.getD k []) : ps.take (k + 1) = qs.take (k + 1) := by
  rw [List.getD_eq_getElem?_getD, List.getD_eq_getElem?_getD, List.getElem?_eq_getElem h1, List.getElem?_eq_getElem h2, Option.getD_some, Option.getD_some] at e
  rw [List.take_add_one, List.take_add_one, h, List.getElem?_eq_getElem h1, List.getElem?_eq_getElem h2, e]
def sameListsS : QSpec := fun vs K => ∃ ps qs, vs = [.c (.ds ps.length (.cells (lists ps))), .c (.ds qs.length (.cells (lists qs)))] ∧ ps.length ≤ 1000 ∧ K (.c (.bool (decide (ps = qs))))
set_option maxHeartbeats 400000 in
theorem sameLists_ok : FlatOK Tryd.prog gl 25 sameListsS := by
  refine flat_of (Γ := g0) (N := 28) Tryd.func25 rfl rfl fun vs K h => ?_
  obtain ⟨ps, qs, rfl, hn, h⟩ := h
  refine ⟨_, h, rfl, by simp, fun w I => ?_⟩
  refine seq_k fun _ hK1 => ?_
  refine region_k g0_ok fun _ hK2 => ?_
  refine s_step rfl (by decide) rfl fun _ hS => ?_
  refine hS _ _ _ ?_
  clear hS
  refine s_nil ?_
  refine hK2 _ _ _ ?_
  refine hK1 _ _ _ ?_
  refine seq_k fun _ hK3 => ?_
  refine seq_k fun _ hK4 => ?_
  refine region_k g0_ok fun _ hK5 => ?_
  refine s_step rfl (by decide) rfl fun _ hS => ?_
  refine hS _ _ _ ?_
  clear hS
  refine s_step rfl (by decide) rfl fun _ hS => ?_
  repeat refine And.intro (by first | omega | exact trivial | rfl | (simp <;> omega) | (refine And.intro ?_ ?_ <;> exact trivial) | exact ⟨trivial, trivial, trivial⟩) ?_
  refine hS _ _ _ ?_
  clear hS
  refine s_step rfl (by decide) rfl fun _ hS => ?_
  refine hS _ _ _ ?_
  clear hS
  refine s_step rfl (by decide) rfl fun _ hS => ?_
  repeat refine And.intro (by first | omega | exact trivial | rfl | (simp <;> omega) | (refine And.intro ?_ ?_ <;> exact trivial) | exact ⟨trivial, trivial, trivial⟩) ?_
  refine hS _ _ _ ?_
  clear hS
  refine s_step rfl (by decide) rfl fun _ hS => ?_
  repeat refine And.intro (by first | omega | exact trivial | rfl | (simp <;> omega) | (refine And.intro ?_ ?_ <;> exact trivial) | exact ⟨trivial, trivial, trivial⟩) ?_
  refine hS _ _ _ ?_
  clear hS
  refine s_nil ?_
  refine hK5 _ _ _ ?_
  refine hK4 _ _ _ ?_
  refine WP_cond (b := _) rfl (fun h_t10 => ?_) (fun h_t10 => ?_)
  · try simp only [decide_eq_false_iff_not, Bool.not_eq_eq_eq_not, Bool.not_true, Int.natCast_inj] at h_t10
    refine seq_k fun _ hK6 => ?_
    refine region_k g0_ok fun _ hK7 => ?_
    refine s_step rfl (by decide) rfl fun _ hS => ?_
    refine hS _ _ _ ?_
    clear hS
    refine s_nil ?_
    refine hK7 _ _ _ ?_
    refine hK6 _ _ _ ?_
    refine WP_ret (Done_flat g0_ok (fun _ _ h => h) (by first | rfl | assumption) [.tmp 4] rfl ?_)
    repeat refine And.intro (by first | omega | exact trivial | rfl | (simp <;> omega)) ?_
    try refine ite_yes (by first | omega | exact trivial | rfl | (simp <;> omega)) ?_
    show SV.c (.bool false) = _
    rw [decide_eq_false (fun e => by rw [e] at h_t10; omega)]
  · try simp only [decide_eq_true_eq, Bool.not_eq_eq_eq_not, Bool.not_false, Int.natCast_inj] at h_t10
    refine WP_skip ?_
    refine hK3 _ _ _ ?_
    refine seq_k fun _ hK8 => ?_
    refine seq_k fun _ hK9 => ?_
    refine region_k g0_ok fun _ hK10 => ?_
    refine s_step rfl (by decide) rfl fun _ hS => ?_
    refine hS _ _ _ ?_
    clear hS
    refine s_nil ?_
    refine hK10 _ _ _ ?_
    refine hK9 _ _ _ ?_
    refine WP_block ?_
    have hq : ps.length = qs.length := by omega
    refine WP_loop (α := Nat) (fun k => [(0, .c (.ds ps.length (.cells (lists ps)))), (1, .c (.ds qs.length (.cells (lists qs)))), (5, .c (.int .i64 k))]) (fun k => []) 0 (fun k => k ≤ ps.length ∧ ps.take k = qs.take k) (fun k => ps.length - k) ?_ ?_
    · refine Done_some [] id 0 ⟨Nat.zero_le _, rfl⟩ ⟨?_, ?_, (by decide : List.Nodup ([] : List Nat)), ?_, ?_, ⟨Nat.zero_le _, fun i hi => absurd hi (Nat.not_lt_zero i)⟩⟩
      · repeat' (first | exact trivial | refine And.intro ?_ ?_ | rfl | omega | decide | (show (_ : Nat) < _; decide))
      · repeat' (first | exact trivial | refine And.intro ?_ ?_ | rfl | omega | decide | (show (_ : Nat) < _; decide))
      · repeat' (first | exact trivial | refine And.intro ?_ ?_ | rfl | omega | decide | (show (_ : Nat) < _; decide))
      · repeat' (first | exact trivial | refine And.intro ?_ ?_ | rfl | omega | decide | (show (_ : Nat) < _; decide))
    · intro k hk
      refine seq_k fun _ hK11 => ?_
      refine seq_k fun _ hK12 => ?_
      refine region_k g0_ok fun _ hK13 => ?_
      refine s_step rfl (by decide) rfl fun _ hS => ?_
      refine hS _ _ _ ?_
      clear hS
      refine s_step rfl (by decide) rfl fun _ hS => ?_
      refine hS _ _ _ ?_
      clear hS
      refine s_step rfl (by decide) rfl fun _ hS => ?_
      repeat refine And.intro (by first | omega | exact trivial | rfl | (simp <;> omega) | (refine And.intro ?_ ?_ <;> exact trivial) | exact ⟨trivial, trivial, trivial⟩) ?_
      refine hS _ _ _ ?_
      clear hS
      refine s_step rfl (by decide) rfl fun _ hS => ?_
      repeat refine And.intro (by first | omega | exact trivial | rfl | (simp <;> omega) | (refine And.intro ?_ ?_ <;> exact trivial) | exact ⟨trivial, trivial, trivial⟩) ?_
      refine hS _ _ _ ?_
      clear hS
      refine s_nil ?_
      refine hK13 _ _ _ ?_
      refine hK12 _ _ _ ?_
      refine WP_cond (b := _) rfl (fun h_t14 => ?_) (fun h_t14 => ?_)
      · try simp only [decide_eq_true_eq] at h_t14
        refine WP_skip ?_
        refine hK11 _ _ _ ?_
        refine seq_k fun _ hK14 => ?_
        refine WP_block ?_
        refine seq_k fun _ hK15 => ?_
        have hkl : k < ps.length := by omega
        refine quiet_k g0_ok (by kernel_rfl) fun _ hK16 => ?_
        refine q_step rfl (by decide) rfl fun _ hS => ?_
        refine hS _ ?_
        clear hS
        refine q_step rfl (by decide) rfl fun _ hS => ?_
        refine hS _ ?_
        clear hS
        refine q_step rfl (by decide) rfl fun _ hS => ?_
        repeat refine And.intro (by first | omega | exact trivial | rfl | (simp <;> omega) | (refine And.intro ?_ ?_ <;> exact trivial) | exact ⟨trivial, trivial, trivial⟩) ?_
        refine hS _ ?_
        clear hS
        refine q_step rfl (by decide) rfl fun _ hS => ?_
        repeat refine And.intro (by first | omega | exact trivial | rfl | (simp <;> omega) | (refine And.intro ?_ ?_ <;> exact trivial) | exact ⟨trivial, trivial, trivial⟩) ?_
        rw [get_lists]
        rotate_left 1
        · first | omega | (simp <;> omega)
        first | refine hS _ ?_ | (refine ite_yes (by first | omega | exact trivial | rfl | (simp <;> omega) | (refine And.intro ?_ ?_ <;> exact trivial) | exact ⟨trivial, trivial, trivial⟩) ?_; refine hS _ ?_)
        clear hS
        refine q_step rfl (by decide) rfl fun _ hS => ?_
        repeat first | refine And.intro (by first | omega | exact trivial | rfl | (simp <;> omega) | (refine And.intro ?_ ?_ <;> exact trivial) | exact ⟨trivial, trivial, trivial⟩) ?_ | refine whole_yes (by first | omega | exact trivial | rfl | (simp <;> omega) | (refine And.intro ?_ ?_ <;> exact trivial) | exact ⟨trivial, trivial, trivial⟩) ?_ | refine whole_sub ?_
        refine hS _ ?_
        clear hS
        refine q_step rfl (by decide) rfl fun _ hS => ?_
        refine hS _ ?_
        clear hS
        refine q_step rfl (by decide) rfl fun _ hS => ?_
        refine hS _ ?_
        clear hS
        refine q_step rfl (by decide) rfl fun _ hS => ?_
        repeat refine And.intro (by first | omega | exact trivial | rfl | (simp <;> omega) | (refine And.intro ?_ ?_ <;> exact trivial) | exact ⟨trivial, trivial, trivial⟩) ?_
        refine hS _ ?_
        clear hS
        refine q_step rfl (by decide) rfl fun _ hS => ?_
        repeat refine And.intro (by first | omega | exact trivial | rfl | (simp <;> omega) | (refine And.intro ?_ ?_ <;> exact trivial) | exact ⟨trivial, trivial, trivial⟩) ?_
        rw [get_lists]
        rotate_left 1
        · first | omega | (simp <;> omega)
        first | refine hS _ ?_ | (refine ite_yes (by first | omega | exact trivial | rfl | (simp <;> omega) | (refine And.intro ?_ ?_ <;> exact trivial) | exact ⟨trivial, trivial, trivial⟩) ?_; refine hS _ ?_)
        clear hS
        refine q_step rfl (by decide) rfl fun _ hS => ?_
        repeat first | refine And.intro (by first | omega | exact trivial | rfl | (simp <;> omega) | (refine And.intro ?_ ?_ <;> exact trivial) | exact ⟨trivial, trivial, trivial⟩) ?_ | refine whole_yes (by first | omega | exact trivial | rfl | (simp <;> omega) | (refine And.intro ?_ ?_ <;> exact trivial) | exact ⟨trivial, trivial, trivial⟩) ?_ | refine whole_sub ?_
        refine hS _ ?_
        clear hS
        refine q_step rfl (by decide) rfl fun _ hS => ?_
        repeat refine And.intro (by first | omega | exact trivial | rfl | (simp <;> omega) | (refine And.intro ?_ ?_ <;> exact trivial) | exact ⟨trivial, trivial, trivial⟩) ?_
        refine hS _ ?_
        clear hS
        refine q_nil ?_
        refine hK16 _ ?_
        refine hK15 _ _ _ ?_
        refine WP_cond (b := _) rfl (fun h_t27 => ?_) (fun h_t27 => ?_)
        · simp only [Int.toNat_natCast, Nat.mul_one, Bool.not_eq_true', decide_eq_false_iff_not] at h_t27
          refine seq_k fun _ hK17 => ?_
          refine region_k g0_ok fun _ hK18 => ?_
          refine s_step rfl (by decide) rfl fun _ hS => ?_
          refine hS _ _ _ ?_
          clear hS
          refine s_nil ?_
          refine hK18 _ _ _ ?_
          refine hK17 _ _ _ ?_
          refine WP_ret (Done_flat g0_ok (fun _ _ h => h) (by first | rfl | assumption) [.tmp 4] rfl ?_)
          repeat refine And.intro (by first | omega | exact trivial | rfl | (simp <;> omega)) ?_
          try refine ite_yes (by first | omega | exact trivial | rfl | (simp <;> omega)) ?_
          show SV.c (.bool false) = _
          rw [decide_eq_false (fun e => h_t27 (by rw [e]))]
        · simp only [Int.toNat_natCast, Nat.mul_one, Bool.not_eq_false', decide_eq_true_eq] at h_t27
          refine WP_skip ?_
          refine done_block ?_
          refine hK14 _ _ _ ?_
          refine region_k g0_ok fun _ hK19 => ?_
          refine s_step rfl (by decide) rfl fun _ hS => ?_
          refine hS _ _ _ ?_
          clear hS
          refine s_step rfl (by decide) rfl fun _ hS => ?_
          repeat refine And.intro (by first | omega | exact trivial | rfl | (simp <;> omega) | (refine And.intro ?_ ?_ <;> exact trivial) | exact ⟨trivial, trivial, trivial⟩) ?_
          refine hS _ _ _ ?_
          clear hS
          refine s_step rfl (by decide) rfl fun _ hS => ?_
          refine hS _ _ _ ?_
          clear hS
          refine s_nil ?_
          refine hK19 _ _ _ ?_
          refine Done_some [] id (k + 1) ⟨⟨by omega, take_eq_succ hk.2 hkl (by omega) (by simpa using h_t27)⟩, by omega⟩ ⟨?_, ?_, (by decide : List.Nodup ([] : List Nat)), ?_, ?_, ⟨Nat.zero_le _, fun i hi => absurd hi (Nat.not_lt_zero i)⟩⟩
          · repeat' (first | exact trivial | refine And.intro ?_ ?_ | rfl | omega | decide | (show (_ : Nat) < _; decide))
          · repeat' (first | exact trivial | refine And.intro ?_ ?_ | rfl | omega | decide | (show (_ : Nat) < _; decide))
          · repeat' (first | exact trivial | refine And.intro ?_ ?_ | rfl | omega | decide | (show (_ : Nat) < _; decide))
          · repeat' (first | exact trivial | refine And.intro ?_ ?_ | rfl | omega | decide | (show (_ : Nat) < _; decide))
      · try simp only [decide_eq_false_iff_not, Int.not_lt] at h_t14
        refine WP_exit ?_
        refine done_thenx ?_
        refine done_thenx ?_
        refine Done_hit ?_
        refine hK8 _ _ _ ?_
        refine seq_k fun _ hK20 => ?_
        refine region_k g0_ok fun _ hK21 => ?_
        refine s_step rfl (by decide) rfl fun _ hS => ?_
        refine hS _ _ _ ?_
        clear hS
        refine s_nil ?_
        refine hK21 _ _ _ ?_
        refine hK20 _ _ _ ?_
        refine WP_ret (Done_flat g0_ok (fun _ _ h => h) (by first | rfl | assumption) [.tmp 4] rfl ?_)
        repeat refine And.intro (by first | omega | exact trivial | rfl | (simp <;> omega)) ?_
        try refine ite_yes (by first | omega | exact trivial | rfl | (simp <;> omega)) ?_
        obtain rfl : k = ps.length := by omega
        show SV.c (.bool true) = _
        rw [decide_eq_true (by have := hk.2; rw [List.take_length, hq, List.take_length] at this; exact this)]
def fewL (ps : List (List UInt8)) : List (List UInt8) := (ps.take 8).map fun p => p.take 100
def fewS : OSpec := fun vs K => ∃ ps, vs = [.c (.ds ps.length (.cells (lists ps)))] ∧ (ps.length ≤ 9223372036854775807 ∧ ∀ p ∈ ps, p.length ≤ 9223372036854775807) ∧ K 22 1 (fewL ps).length (.cells (lists (fewL ps)))
theorem fewL_step (ps : List (List UInt8)) (k : Nat) (h : k < ps.length) : ((ps.take k).map fun p => p.take 100) ++ [(ps.getD k []).take 100] = (ps.take (k + 1)).map fun p => p.take 100 := by
  have e := List.take_add_one (l := ps) (i := k)
  rw [e, List.map_append, List.getElem?_eq_getElem h, Option.toList_some, List.map_singleton, List.getD_eq_getElem?_getD, List.getElem?_eq_getElem h, Option.getD_some]
noncomputable def g8 : Ctx := { P := Tryd.prog, ty := ty, glob := gl, fs := [(12, .data shortS)] }
theorem g8_ok : g8.OK := ⟨tyOK, ⟨⟨enters_mk Tryd.func12 (by kernel_rfl) rfl, short_ok⟩, trivial⟩, mixed⟩
@[simp] theorem g8_ty : g8.ty = ty := rfl


set_option maxHeartbeats 400000 in
theorem few_ok : OwnOK Tryd.prog gl 13 fewS := by
  refine own_of (Γ := g8) (N := 25) Tryd.func13 rfl rfl fun vs K h => ?_
  obtain ⟨ps, rfl, ⟨hn, hp⟩, h⟩ := h
  refine ⟨_, _, _, _, h, low_lists _, by simp, fun w I => ?_⟩
  refine seq_k fun _ hK1 => ?_
  refine region_k g8_ok fun _ hK2 => ?_
  refine s_step rfl (by decide) rfl fun _ hS => ?_
  refine hS _ _ _ ?_
  clear hS
  refine s_nil ?_
  refine hK2 _ _ _ ?_
  refine hK1 _ _ _ ?_
  refine seq_k fun _ hK3 => ?_
  refine region_k g8_ok fun _ hK4 => ?_
  refine s_step rfl (by decide) rfl fun _ hS => ?_
  repeat refine And.intro (by first | omega | exact trivial | rfl | (simp <;> omega) | (refine And.intro ?_ ?_ <;> exact trivial) | exact ⟨trivial, trivial, trivial⟩) ?_
  refine hS _ _ _ ?_
  clear hS
  refine s_step rfl (by decide) rfl fun _ hS => ?_
  refine hS _ _ _ ?_
  clear hS
  refine s_nil ?_
  refine hK4 _ _ _ ?_
  refine hK3 _ _ _ ?_
  refine seq_k fun _ hK5 => ?_
  refine seq_k fun _ hK6 => ?_
  refine region_k g8_ok fun _ hK7 => ?_
  refine s_step rfl (by decide) rfl fun _ hS => ?_
  refine hS _ _ _ ?_
  clear hS
  refine s_nil ?_
  refine hK7 _ _ _ ?_
  refine hK6 _ _ _ ?_
  refine WP_block ?_
  refine WP_loop (α := Nat × Nat) (fun k => [(0, .c (.ds ps.length (.cells (lists ps)))), (3, .c (.slice 0 0 ((ps.take k.1).map fun p => p.take 100).length k.2)), (4, .c (.int .i64 k.1))]) (fun k => [(0, .own 22 (.cells (lists ((ps.take k.1).map fun p => p.take 100))) k.2)]) 1 (fun k => k.1 ≤ ps.length ∧ k.1 ≤ 8) (fun k => ps.length - k.1) ?_ ?_
  · refine Done_some [] id (0, 0) ⟨Nat.zero_le _, Nat.zero_le _⟩ ⟨?_, ?_, (by decide : List.Nodup ([0] : List Nat)), ?_, ?_, ⟨Nat.zero_le _, fun i hi => absurd hi (Nat.not_lt_zero i)⟩⟩
    · repeat' (first | exact trivial | refine And.intro ?_ ?_ | rfl | omega | decide | (show (_ : Nat) < _; decide))
      all_goals first | exact allTo_lists _ | (simp; done) | skip
    · repeat' (first | exact trivial | refine And.intro ?_ ?_ | rfl | omega | decide | (show (_ : Nat) < _; decide))
      all_goals first | exact allTo_lists _ | (simp; done) | skip
    · repeat' (first | exact trivial | refine And.intro ?_ ?_ | rfl | omega | decide | (show (_ : Nat) < _; decide))
      all_goals exact low_lists _
    · repeat' (first | exact trivial | refine And.intro ?_ ?_ | rfl | omega | decide | (show (_ : Nat) < _; decide))
      all_goals exact low_lists _
  · intro k hk
    have hfl : ((ps.take k.1).map fun p => p.take 100).length = k.1 := by simp; omega
    refine seq_k fun _ hK8 => ?_
    refine seq_k fun _ hK9 => ?_
    refine region_k g8_ok fun _ hK10 => ?_
    refine s_step rfl (by decide) rfl fun _ hS => ?_
    refine hS _ _ _ ?_
    clear hS
    refine s_step rfl (by decide) rfl fun _ hS => ?_
    refine hS _ _ _ ?_
    clear hS
    refine s_step rfl (by decide) rfl fun _ hS => ?_
    repeat refine And.intro (by first | omega | exact trivial | rfl | (simp <;> omega) | (refine And.intro ?_ ?_ <;> exact trivial) | exact ⟨trivial, trivial, trivial⟩) ?_
    refine hS _ _ _ ?_
    clear hS
    refine s_step rfl (by decide) rfl fun _ hS => ?_
    repeat refine And.intro (by first | omega | exact trivial | rfl | (simp <;> omega) | (refine And.intro ?_ ?_ <;> exact trivial) | exact ⟨trivial, trivial, trivial⟩) ?_
    refine hS _ _ _ ?_
    clear hS
    refine s_step rfl (by decide) rfl fun _ hS => ?_
    refine s_split hS (fun hb4 => ?_) (fun hb4 => ?_)
    · clear hS
      simp only [decide_eq_true_eq] at hb4
      refine s_guard (b := true) rfl (by decide) rfl rfl (fun _ _ hS => ?_) (fun e => absurd e (by decide))
      refine hS _ _ _ ?_
      clear hS
      refine s_guard (b := true) rfl (by decide) rfl rfl (fun _ _ hS => ?_) (fun e => absurd e (by decide))
      repeat refine And.intro (by first | omega | exact trivial | rfl | (simp <;> omega) | (refine And.intro ?_ ?_ <;> exact trivial) | exact ⟨trivial, trivial, trivial⟩) ?_
      refine hS _ _ _ ?_
      clear hS
      refine s_step rfl (by decide) rfl fun _ hS => ?_
      refine hS _ _ _ ?_
      clear hS
      refine s_nil ?_
      refine hK10 _ _ _ ?_
      refine hK9 _ _ _ ?_
      refine WP_cond (b := _) rfl (fun h_t13 => ?_) (fun h_t13 => ?_)
      · try simp only [decide_eq_true_eq, if_true] at h_t13
        refine WP_skip ?_
        refine hK8 _ _ _ ?_
        refine seq_k fun _ hK11 => ?_
        refine WP_block ?_
        have hkl : k.1 < ps.length := by omega
        have hpk := hp _ (getD_mem ps k.1 hkl)
        have hpk2 : (ps[k.1]?.getD []).length ≤ 9223372036854775807 := by simpa using hpk
        refine region_k g8_ok fun _ hK12 => ?_
        refine s_step rfl (by decide) rfl fun _ hS => ?_
        refine hS _ _ _ ?_
        clear hS
        refine s_step rfl (by decide) rfl fun _ hS => ?_
        refine hS _ _ _ ?_
        clear hS
        refine s_step rfl (by decide) rfl fun _ hS => ?_
        refine hS _ _ _ ?_
        clear hS
        refine s_step rfl (by decide) rfl fun _ hS => ?_
        repeat refine And.intro (by first | omega | exact trivial | rfl | (simp <;> omega) | (refine And.intro ?_ ?_ <;> exact trivial) | exact ⟨trivial, trivial, trivial⟩) ?_
        refine hS _ _ _ ?_
        clear hS
        refine s_step rfl (by decide) rfl fun _ hS => ?_
        repeat refine And.intro (by first | omega | exact trivial | rfl | (simp <;> omega) | (refine And.intro ?_ ?_ <;> exact trivial) | exact ⟨trivial, trivial, trivial⟩) ?_
        rw [get_lists]
        rotate_left 1
        · first | omega | (simp <;> omega)
        first | refine hS _ _ _ ?_ | (refine ite_yes (by first | omega | exact trivial | rfl | (simp [hfl] <;> omega) | (refine And.intro ?_ ?_ <;> exact trivial) | exact ⟨trivial, trivial, trivial⟩) ?_; refine hS _ _ _ ?_)
        clear hS
        refine s_step rfl (by decide) rfl fun _ hS => ?_
        repeat first | refine And.intro (by first | omega | exact trivial | rfl | (simp <;> omega) | (refine And.intro ?_ ?_ <;> exact trivial) | exact ⟨trivial, trivial, trivial⟩) ?_ | refine whole_yes (by first | omega | exact trivial | rfl | (simp [hfl] <;> omega) | (refine And.intro ?_ ?_ <;> exact trivial) | exact ⟨trivial, trivial, trivial⟩) ?_ | refine whole_sub ?_
        first | refine hS _ _ _ ?_ | (intro cap5 hcap5; refine hS _ _ _ ?_)
        clear hS
        refine s_step rfl (by decide) rfl fun _ hS => ?_
        repeat refine And.intro (by first | omega | exact trivial | rfl | (simp [hfl] <;> omega) | (refine And.intro ?_ ?_ <;> exact trivial) | exact ⟨trivial, trivial, trivial⟩) ?_
        refine hS _ _ _ ?_
        clear hS
        refine s_step rfl (by decide) rfl fun _ hS => ?_
        repeat first | refine And.intro (by first | omega | exact trivial | rfl | (simp <;> omega) | (refine And.intro ?_ ?_ <;> exact trivial) | exact ⟨trivial, trivial, trivial⟩) ?_ | refine whole_yes (by first | omega | exact trivial | rfl | (simp [hfl] <;> omega) | (refine And.intro ?_ ?_ <;> exact trivial) | exact ⟨trivial, trivial, trivial⟩) ?_ | refine whole_sub ?_
        intro cap7 hcap7; refine hS _ _ _ ?_
        clear hS
        refine s_step rfl (by decide) rfl fun _ hS => ?_
        refine hS _ _ _ ?_
        clear hS
        refine s_nil ?_
        refine hK12 _ _ _ ?_
        refine done_block ?_
        refine hK11 _ _ _ ?_
        refine region_k g8_ok fun _ hK13 => ?_
        refine s_step rfl (by decide) rfl fun _ hS => ?_
        refine hS _ _ _ ?_
        clear hS
        refine s_step rfl (by decide) rfl fun _ hS => ?_
        repeat refine And.intro (by first | omega | exact trivial | rfl | (simp <;> omega) | (refine And.intro ?_ ?_ <;> exact trivial) | exact ⟨trivial, trivial, trivial⟩) ?_
        refine hS _ _ _ ?_
        clear hS
        refine s_step rfl (by decide) rfl fun _ hS => ?_
        refine hS _ _ _ ?_
        clear hS
        refine s_nil ?_
        refine hK13 _ _ _ ?_
        refine Done_some [] (fun _ => 2) (k.1 + 1, cap7) ⟨⟨by omega, by omega⟩, by omega⟩ ⟨?_, ?_, (by decide : List.Nodup ([2] : List Nat)), ?_, ?_, ⟨Nat.zero_le _, fun i hi => absurd hi (Nat.not_lt_zero i)⟩⟩
        · repeat' (first | exact trivial | refine And.intro ?_ ?_ | rfl | omega | decide | (show (_ : Nat) < _; decide))
          all_goals first
            | (simp <;> omega)
            | (show allTo _ (lists ((ps.take k.1).map fun p => p.take 100) ++ _) (lists ((ps.take (k.1 + 1)).map fun p => p.take 100))
               rw [← fewL_step ps k.1 hkl, lists_append]
               exact allTo_app (allTo_lists _) ⟨⟨by simp, by simp⟩, trivial⟩)
            | skip
        · repeat' (first | exact trivial | refine And.intro ?_ ?_ | rfl | omega | decide | (show (_ : Nat) < _; decide))
          all_goals first
            | (simp <;> omega)
            | (show allTo _ (lists ((ps.take k.1).map fun p => p.take 100) ++ _) (lists ((ps.take (k.1 + 1)).map fun p => p.take 100))
               rw [← fewL_step ps k.1 hkl, lists_append]
               exact allTo_app (allTo_lists _) ⟨⟨by simp, by simp⟩, trivial⟩)
            | skip
        · repeat' (first | exact trivial | refine And.intro ?_ ?_ | rfl | omega | decide | (show (_ : Nat) < _; decide))
          all_goals exact low_lists _
        · repeat' (first | exact trivial | refine And.intro ?_ ?_ | rfl | omega | decide | (show (_ : Nat) < _; decide))
          all_goals exact low_lists _
      · try simp only [decide_eq_false_iff_not, Int.not_lt, if_true] at h_t13
        refine WP_exit ?_
        refine done_thenx ?_
        refine done_thenx ?_
        refine Done_hit ?_
        refine hK5 _ _ _ ?_
        refine seq_k fun _ hK14 => ?_
        refine region_k g8_ok fun _ hK15 => ?_
        refine s_step rfl (by decide) rfl fun _ hS => ?_
        refine hS _ _ _ ?_
        clear hS
        refine s_step rfl (by decide) rfl fun _ hS => ?_
        refine hS _ _ _ ?_
        clear hS
        refine s_nil ?_
        refine hK15 _ _ _ ?_
        refine hK14 _ _ _ ?_
        refine WP_ret (Done_own g8_ok (fun _ _ h => h) (by decide) [.tmp 2] rfl ?_)
        have hfin : ps.take k.1 = ps.take 8 := by first | (rw [show k.1 = 8 by omega]) | (rw [List.take_of_length_le (by omega), List.take_of_length_le (by omega)])
        show _ ∧ _
        repeat' (first | exact trivial | refine And.intro ?_ ?_ | rfl | omega | decide | (show (_ : Nat) < _; decide))
        all_goals first | exact isD_lists _ | (rw [fewL, ← hfin]; done) | simp
    · clear hS
      simp only [decide_eq_false_iff_not, Int.not_lt] at hb4
      refine s_guard (b := false) rfl (by decide) rfl rfl (fun e => absurd e (by decide)) (fun _ => ?_)
      refine s_guard (b := false) rfl (by decide) rfl rfl (fun e => absurd e (by decide)) (fun _ => ?_)
      refine s_step rfl (by decide) rfl fun _ hS => ?_
      refine hS _ _ _ ?_
      clear hS
      refine s_nil ?_
      refine hK10 _ _ _ ?_
      refine hK9 _ _ _ ?_
      refine WP_cond (b := _) rfl (fun h_t13 => ?_) (fun _ => ?_)
      · exfalso; exact absurd h_t13 (by decide)
      refine WP_exit ?_
      refine done_thenx ?_
      refine done_thenx ?_
      refine Done_hit ?_
      refine hK5 _ _ _ ?_
      refine seq_k fun _ hK16 => ?_
      refine region_k g8_ok fun _ hK17 => ?_
      refine s_step rfl (by decide) rfl fun _ hS => ?_
      refine hS _ _ _ ?_
      clear hS
      refine s_step rfl (by decide) rfl fun _ hS => ?_
      refine hS _ _ _ ?_
      clear hS
      refine s_nil ?_
      refine hK17 _ _ _ ?_
      refine hK16 _ _ _ ?_
      refine WP_ret (Done_own g8_ok (fun _ _ h => h) (by decide) [.tmp 2] rfl ?_)
      have hfin : ps.take k.1 = ps.take 8 := by first | (rw [show k.1 = 8 by omega]) | (rw [List.take_of_length_le (by omega), List.take_of_length_le (by omega)])
      show _ ∧ _
      repeat' (first | exact trivial | refine And.intro ?_ ?_ | rfl | omega | decide | (show (_ : Nat) < _; decide))
      all_goals first | exact isD_lists _ | (rw [fewL, ← hfin]; done) | simp
end Go.Proofs.YtdanaehfdbdhdaaDoor
