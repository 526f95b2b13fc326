/- Bytes and block of the reference. -/
import Derived.Test.YtdanaehfdbdhdaaDoorVa
namespace Go.Proofs.YtdanaehfdbdhdaaDoor
set_option linter.unusedVariables false
open Go.Ab Go.RowKit

theorem take_getD (d : List UInt8) (k : Nat) (h : k < d.length) : d.take k ++ [d.getD k 0] = d.take (k + 1) := by
  rw [List.take_add_one, List.getD_eq_getElem?_getD, List.getElem?_eq_getElem h, Option.getD_some, Option.toList_some]
def masked (d : List UInt8) (m : UInt8) (k : Nat) : List UInt8 := (List.range k).map fun i => if i < 32 then d.getD i 0 ^^^ m else m
theorem masked_length (d : List UInt8) (m : UInt8) (k : Nat) : (masked d m k).length = k := by simp [masked]
theorem masked_lo (d : List UInt8) (m : UInt8) (k : Nat) (h : k < 32) : masked d m k ++ [d.getD k 0 ^^^ m] = masked d m (k + 1) := by
  rw [masked, masked, List.range_succ, List.map_append, List.map_singleton, if_pos h]
theorem masked_hi (d : List UInt8) (m : UInt8) (k : Nat) (h : 32 ≤ k) : masked d m k ++ [m] = masked d m (k + 1) := by
  rw [masked, masked, List.range_succ, List.map_append, List.map_singleton, if_neg (by omega)]


def bytesS : OSpec := fun vs K => match vs with
  | [.agg (.u8s d)] => d.length = 32 ∧ K 5 1 32 (.u8s d)
  | _ => False
set_option maxHeartbeats 400000 in
theorem bytesR_ok : OwnOK Tryd.prog gl 23 bytesS := by
  refine own_of (Γ := g0) (N := 17) Tryd.func23 rfl rfl fun vs K h => ?_
  unfold bytesS at h
  split at h
  · rename_i d
    obtain ⟨hd, h⟩ := h
    refine ⟨_, _, _, _, h, trivial, by simp, fun w I => ?_⟩
    refine seq_k fun _ hK1 => ?_
    refine region_k g0_ok fun _ hK2 => ?_
    refine s_step rfl (by decide) rfl fun _ hS => ?_
    repeat refine And.intro (by first | omega | exact trivial | rfl | (simp [hd] <;> omega) | exact hd.symm) ?_
    refine hS _ _ _ ?_
    clear hS
    refine s_step rfl (by decide) rfl fun _ hS => ?_
    refine hS _ _ _ ?_
    clear hS
    refine s_nil ?_
    refine hK2 _ _ _ ?_
    refine hK1 _ _ _ ?_
    refine seq_k fun _ hK3 => ?_
    refine region_k g0_ok fun _ hK4 => ?_
    refine s_step rfl (by decide) rfl fun _ hS => ?_
    repeat refine And.intro (by first | omega | exact trivial | rfl | (simp [hd] <;> omega)) ?_
    refine hS _ _ _ ?_
    clear hS
    refine s_step rfl (by decide) rfl fun _ hS => ?_
    refine hS _ _ _ ?_
    clear hS
    refine s_nil ?_
    refine hK4 _ _ _ ?_
    refine hK3 _ _ _ ?_
    refine seq_k fun _ hK5 => ?_
    refine seq_k fun _ hK6 => ?_
    refine region_k g0_ok fun _ hK7 => ?_
    refine s_step rfl (by decide) rfl fun _ hS => ?_
    refine hS _ _ _ ?_
    clear hS
    refine s_nil ?_
    refine hK7 _ _ _ ?_
    refine hK6 _ _ _ ?_
    refine WP_block ?_
    refine WP_loop (α := Nat × Nat) (fun k => [(1, .c (.ptr 0 0)), (3, .c (.slice 1 0 k.1 k.2)), (4, .c (.int .i64 k.1))]) (fun k => [(0, .own 24 (.u8s d) 32), (1, .own 5 (.u8s (d.take k.1)) k.2)]) 2 (fun k => k.1 ≤ 32) (fun k => 32 - k.1) ?_ ?_
    · refine Done_some [] id (0, 0) (Nat.zero_le _) ⟨?_, ?_, (by decide : List.Nodup ([0, 1] : List Nat)), ?_, ?_, ⟨Nat.zero_le _, fun i hi => absurd hi (Nat.not_lt_zero i)⟩⟩
      · repeat' (first | exact trivial | refine And.intro ?_ ?_ | rfl | omega | decide | exact Nat.lt_of_sub_pos (by decide))
        all_goals first | (simp; done) | (simp <;> omega)
      · repeat' (first | exact trivial | refine And.intro ?_ ?_ | rfl | omega | decide | exact Nat.lt_of_sub_pos (by decide))
        all_goals first | exact hd | (show (_ : List UInt8) = _; simp [masked]; done) | (show (_ : List UInt8) = _; simp [masked]; done) | (simp; done)
      · repeat' (first | exact trivial | refine And.intro ?_ ?_ | rfl | omega | decide | exact Nat.lt_of_sub_pos (by decide))
      · repeat' (first | exact trivial | refine And.intro ?_ ?_ | rfl | omega | decide | exact Nat.lt_of_sub_pos (by decide))
    · intro k hk
      have hlen : (d.take k.1).length = k.1 := by simp; omega
      refine seq_k fun _ hK8 => ?_
      refine seq_k fun _ hK9 => ?_
      refine region_k g0_ok fun _ hK10 => ?_
      refine s_step rfl (by decide) rfl fun _ hS => ?_
      refine hS _ _ _ ?_
      clear hS
      refine s_step rfl (by decide) rfl fun _ hS => ?_
      repeat refine And.intro (by first | omega | exact trivial | rfl | (simp [hd] <;> omega)) ?_
      refine hS _ _ _ ?_
      clear hS
      refine s_nil ?_
      refine hK10 _ _ _ ?_
      refine hK9 _ _ _ ?_
      refine WP_cond (b := _) rfl (fun h_t7 => ?_) (fun h_t7 => ?_)
      · try simp only [decide_eq_true_eq] at h_t7
        refine WP_skip ?_
        refine hK8 _ _ _ ?_
        refine seq_k fun _ hK11 => ?_
        refine WP_block ?_
        refine region_k g0_ok fun _ hK12 => ?_
        refine s_step rfl (by decide) rfl fun _ hS => ?_
        refine hS _ _ _ ?_
        clear hS
        refine s_step rfl (by decide) rfl fun _ hS => ?_
        refine hS _ _ _ ?_
        clear hS
        refine s_step rfl (by decide) rfl fun _ hS => ?_
        repeat refine And.intro (by first | omega | exact trivial | rfl | (simp [hd] <;> omega)) ?_
        refine hS _ _ _ ?_
        clear hS
        refine s_step rfl (by decide) rfl fun _ hS => ?_
        repeat refine And.intro (by first | omega | exact trivial | rfl | (simp [hd] <;> omega)) ?_
        first | refine hS _ _ _ ?_ | (refine ite_yes (by first | omega | exact trivial | rfl | (simp [hd, hlen] <;> omega)) ?_; refine hS _ _ _ ?_)
        clear hS
        refine s_step rfl (by decide) rfl fun _ hS => ?_
        repeat refine And.intro (by first | omega | exact trivial | rfl | (simp [hd, hlen] <;> omega)) ?_
        refine hS _ _ _ ?_
        clear hS
        refine s_step rfl (by decide) rfl fun _ hS => ?_
        repeat first | refine And.intro (by first | omega | exact trivial | rfl | (simp [hlen] <;> omega)) ?_ | refine whole_yes (by first | omega | exact trivial | rfl | (simp [hd, hlen] <;> omega)) ?_ | refine whole_sub ?_
        intro cap5 hcap5; refine hS _ _ _ ?_
        clear hS
        refine s_step rfl (by decide) rfl fun _ hS => ?_
        refine hS _ _ _ ?_
        clear hS
        refine s_nil ?_
        refine hK12 _ _ _ ?_
        have e1 := take_getD d k.1 (by omega)
        refine done_block ?_
        refine hK11 _ _ _ ?_
        refine region_k g0_ok fun _ hK13 => ?_
        refine s_step rfl (by decide) rfl fun _ hS => ?_
        refine hS _ _ _ ?_
        clear hS
        refine s_step rfl (by decide) rfl fun _ hS => ?_
        repeat refine And.intro (by first | omega | exact trivial | rfl | (simp <;> omega)) ?_
        refine hS _ _ _ ?_
        clear hS
        refine s_step rfl (by decide) rfl fun _ hS => ?_
        refine hS _ _ _ ?_
        clear hS
        refine s_nil ?_
        refine hK13 _ _ _ ?_
        refine Done_some [] (fun i => if i = 1 then 3 else i) (k.1 + 1, cap5) ⟨by omega, by omega⟩ ⟨?_, ?_, (by decide : List.Nodup ([0, 3] : List Nat)), ?_, ?_, ⟨Nat.zero_le _, fun i hi => absurd hi (Nat.not_lt_zero i)⟩⟩
        · repeat' (first | exact trivial | refine And.intro ?_ ?_ | rfl | omega | decide | exact Nat.lt_of_sub_pos (by decide))
          all_goals first | (simp; done) | (simp <;> omega)
        · repeat' (first | exact trivial | refine And.intro ?_ ?_ | rfl | omega | decide | exact Nat.lt_of_sub_pos (by decide))
          all_goals first | exact hd | (show (_ : List UInt8) = _; simp only [Nat.zero_add, Nat.mul_one]; exact e1) | (show (_ : List UInt8) = _; simp [masked]; done) | (simp; done)
        · repeat' (first | exact trivial | refine And.intro ?_ ?_ | rfl | omega | decide | exact Nat.lt_of_sub_pos (by decide))
        · repeat' (first | exact trivial | refine And.intro ?_ ?_ | rfl | omega | decide | exact Nat.lt_of_sub_pos (by decide))
      · try simp only [decide_eq_false_iff_not, Int.not_lt] at h_t7
        refine WP_exit ?_
        refine done_thenx ?_
        refine done_thenx ?_
        refine Done_hit ?_
        refine hK5 _ _ _ ?_
        refine seq_k fun _ hK14 => ?_
        obtain ⟨k, cap0⟩ := k
        have hk32 : k = 32 := by simp at h_t7 hk; omega
        subst hk32
        refine region_k g0_ok fun _ hK15 => ?_
        refine s_step rfl (by decide) rfl fun _ hS => ?_
        refine hS _ _ _ ?_
        clear hS
        refine s_step rfl (by decide) rfl fun _ hS => ?_
        refine hS _ _ _ ?_
        clear hS
        refine s_nil ?_
        refine hK15 _ _ _ ?_
        refine hK14 _ _ _ ?_
        refine WP_ret (Done_own g0_ok (fun _ _ h => h) (by decide) [.tmp 2] rfl ?_)
        show _ ∧ _
        repeat' (first | exact trivial | refine And.intro ?_ ?_ | rfl | omega | decide | exact Nat.lt_of_sub_pos (by decide))
        all_goals (first | (simp [hd]; done) | (show (_ : List UInt8) = _; rw [← hd, List.take_length]) | (rw [← hd, List.take_length]))
  · exact h.elim

def maskedS : OSpec := fun vs K => match vs with
  | [.agg (.u8s d), .c (.u8 m)] => d.length = 32 ∧ K 5 1 64 (.u8s (masked d m 64))
  | _ => False
set_option maxHeartbeats 400000 in
theorem maskedR_ok : OwnOK Tryd.prog gl 22 maskedS := by
  refine own_of (Γ := g0) (N := 26) Tryd.func22 rfl rfl fun vs K h => ?_
  unfold maskedS at h
  split at h
  · rename_i d m
    obtain ⟨hd, h⟩ := h
    refine ⟨_, _, _, _, h, trivial, by simp, fun w I => ?_⟩
    refine seq_k fun _ hK1 => ?_
    refine region_k g0_ok fun _ hK2 => ?_
    refine s_step rfl (by decide) rfl fun _ hS => ?_
    repeat refine And.intro (by first | omega | exact trivial | rfl | (simp [hd] <;> omega) | exact hd.symm) ?_
    refine hS _ _ _ ?_
    clear hS
    refine s_step rfl (by decide) rfl fun _ hS => ?_
    refine hS _ _ _ ?_
    clear hS
    refine s_nil ?_
    refine hK2 _ _ _ ?_
    refine hK1 _ _ _ ?_
    refine seq_k fun _ hK3 => ?_
    refine region_k g0_ok fun _ hK4 => ?_
    refine s_step rfl (by decide) rfl fun _ hS => ?_
    repeat refine And.intro (by first | omega | exact trivial | rfl | (simp [hd] <;> omega)) ?_
    refine hS _ _ _ ?_
    clear hS
    refine s_step rfl (by decide) rfl fun _ hS => ?_
    refine hS _ _ _ ?_
    clear hS
    refine s_nil ?_
    refine hK4 _ _ _ ?_
    refine hK3 _ _ _ ?_
    refine seq_k fun _ hK5 => ?_
    refine seq_k fun _ hK6 => ?_
    refine region_k g0_ok fun _ hK7 => ?_
    refine s_step rfl (by decide) rfl fun _ hS => ?_
    refine hS _ _ _ ?_
    clear hS
    refine s_nil ?_
    refine hK7 _ _ _ ?_
    refine hK6 _ _ _ ?_
    refine WP_block ?_
    refine WP_loop (α := Nat × Nat) (fun k => [(1, .c (.u8 m)), (2, .c (.ptr 0 0)), (5, .c (.slice 1 0 k.1 k.2)), (6, .c (.int .i64 k.1))]) (fun k => [(0, .own 24 (.u8s d) 32), (1, .own 5 (.u8s (masked d m k.1)) k.2)]) 2 (fun k => k.1 ≤ 64) (fun k => 64 - k.1) ?_ ?_
    · refine Done_some [] id (0, 0) (Nat.zero_le _) ⟨?_, ?_, (by decide : List.Nodup ([0, 1] : List Nat)), ?_, ?_, ⟨Nat.zero_le _, fun i hi => absurd hi (Nat.not_lt_zero i)⟩⟩
      · repeat' (first | exact trivial | refine And.intro ?_ ?_ | rfl | omega | decide | exact Nat.lt_of_sub_pos (by decide))
        all_goals first | (simp; done) | (simp <;> omega)
      · repeat' (first | exact trivial | refine And.intro ?_ ?_ | rfl | omega | decide | exact Nat.lt_of_sub_pos (by decide))
        all_goals first | exact hd | (show (_ : List UInt8) = _; simp [masked]; done) | (show (_ : List UInt8) = _; simp [masked]; done) | (simp; done)
      · repeat' (first | exact trivial | refine And.intro ?_ ?_ | rfl | omega | decide | exact Nat.lt_of_sub_pos (by decide))
      · repeat' (first | exact trivial | refine And.intro ?_ ?_ | rfl | omega | decide | exact Nat.lt_of_sub_pos (by decide))
    · intro k hk
      have hlen := masked_length d m k.1
      refine seq_k fun _ hK8 => ?_
      refine seq_k fun _ hK9 => ?_
      refine region_k g0_ok fun _ hK10 => ?_
      refine s_step rfl (by decide) rfl fun _ hS => ?_
      refine hS _ _ _ ?_
      clear hS
      refine s_step rfl (by decide) rfl fun _ hS => ?_
      repeat refine And.intro (by first | omega | exact trivial | rfl | (simp [hd] <;> omega)) ?_
      refine hS _ _ _ ?_
      clear hS
      refine s_nil ?_
      refine hK10 _ _ _ ?_
      refine hK9 _ _ _ ?_
      refine WP_cond (b := _) rfl (fun h_t10 => ?_) (fun h_t10 => ?_)
      · try simp only [decide_eq_true_eq] at h_t10
        refine WP_skip ?_
        refine hK8 _ _ _ ?_
        refine seq_k fun _ hK11 => ?_
        refine WP_block ?_
        refine seq_k fun _ hK12 => ?_
        refine region_k g0_ok fun _ hK13 => ?_
        refine s_step rfl (by decide) rfl fun _ hS => ?_
        refine hS _ _ _ ?_
        clear hS
        refine s_step rfl (by decide) rfl fun _ hS => ?_
        refine hS _ _ _ ?_
        clear hS
        refine s_nil ?_
        refine hK13 _ _ _ ?_
        refine hK12 _ _ _ ?_
        refine seq_k fun _ hK14 => ?_
        refine seq_k fun _ hK15 => ?_
        refine region_k g0_ok fun _ hK16 => ?_
        refine s_step rfl (by decide) rfl fun _ hS => ?_
        refine hS _ _ _ ?_
        clear hS
        refine s_step rfl (by decide) rfl fun _ hS => ?_
        repeat refine And.intro (by first | omega | exact trivial | rfl | (simp [hd] <;> omega)) ?_
        refine hS _ _ _ ?_
        clear hS
        refine s_nil ?_
        refine hK16 _ _ _ ?_
        refine hK15 _ _ _ ?_
        refine WP_cond (b := _) rfl (fun h_t15 => ?_) (fun h_t15 => ?_)
        · try simp only [decide_eq_true_eq] at h_t15
          refine region_k g0_ok fun _ hK17 => ?_
          refine s_step rfl (by decide) rfl fun _ hS => ?_
          refine hS _ _ _ ?_
          clear hS
          refine s_step rfl (by decide) rfl fun _ hS => ?_
          repeat refine And.intro (by first | omega | exact trivial | rfl | (simp [hd] <;> omega)) ?_
          refine hS _ _ _ ?_
          clear hS
          refine s_step rfl (by decide) rfl fun _ hS => ?_
          repeat refine And.intro (by first | omega | exact trivial | rfl | (simp [hd] <;> omega)) ?_
          first | refine hS _ _ _ ?_ | (refine ite_yes (by first | omega | exact trivial | rfl | (simp [hd] <;> omega)) ?_; refine hS _ _ _ ?_)
          clear hS
          refine s_step rfl (by decide) rfl fun _ hS => ?_
          refine hS _ _ _ ?_
          clear hS
          refine s_step rfl (by decide) rfl fun _ hS => ?_
          repeat refine And.intro (by first | omega | exact trivial | rfl | (simp [hd] <;> omega)) ?_
          refine hS _ _ _ ?_
          clear hS
          refine s_step rfl (by decide) rfl fun _ hS => ?_
          refine hS _ _ _ ?_
          clear hS
          refine s_nil ?_
          refine hK17 _ _ _ ?_
          refine hK14 _ _ _ ?_
          refine region_k g0_ok fun _ hK18 => ?_
          refine s_step rfl (by decide) rfl fun _ hS => ?_
          refine hS _ _ _ ?_
          clear hS
          refine s_step rfl (by decide) rfl fun _ hS => ?_
          refine hS _ _ _ ?_
          clear hS
          refine s_step rfl (by decide) rfl fun _ hS => ?_
          repeat refine And.intro (by first | omega | exact trivial | rfl | (simp [hd, hlen] <;> omega)) ?_
          refine hS _ _ _ ?_
          clear hS
          refine s_step rfl (by decide) rfl fun _ hS => ?_
          repeat first | refine And.intro (by first | omega | exact trivial | rfl | (simp [hlen] <;> omega)) ?_ | refine whole_yes (by first | omega | exact trivial | rfl | (simp [hd, hlen] <;> omega)) ?_ | refine whole_sub ?_
          intro cap3 hcap3; refine hS _ _ _ ?_
          clear hS
          refine s_step rfl (by decide) rfl fun _ hS => ?_
          refine hS _ _ _ ?_
          clear hS
          refine s_nil ?_
          refine hK18 _ _ _ ?_
          refine done_block ?_
          refine hK11 _ _ _ ?_
          refine region_k g0_ok fun _ hK19 => ?_
          refine s_step rfl (by decide) rfl fun _ hS => ?_
          refine hS _ _ _ ?_
          clear hS
          refine s_step rfl (by decide) rfl fun _ hS => ?_
          repeat refine And.intro (by first | omega | exact trivial | rfl | (simp <;> omega)) ?_
          refine hS _ _ _ ?_
          clear hS
          refine s_step rfl (by decide) rfl fun _ hS => ?_
          refine hS _ _ _ ?_
          clear hS
          refine s_nil ?_
          refine hK19 _ _ _ ?_
          refine Done_some [] (fun i => if i = 1 then 3 else i) (k.1 + 1, cap3) ⟨by omega, by omega⟩ ⟨?_, ?_, (by decide : List.Nodup ([0, 3] : List Nat)), ?_, ?_, ⟨Nat.zero_le _, fun i hi => absurd hi (Nat.not_lt_zero i)⟩⟩
          · repeat' (first | exact trivial | refine And.intro ?_ ?_ | rfl | omega | decide | exact Nat.lt_of_sub_pos (by decide))
            all_goals first | (simp; done) | (simp <;> omega)
          · repeat' (first | exact trivial | refine And.intro ?_ ?_ | rfl | omega | decide | exact Nat.lt_of_sub_pos (by decide))
            all_goals first | exact hd | (show (_ : List UInt8) = _; simp only [Nat.zero_add, Nat.mul_one]; first | exact masked_lo d m k.1 (by omega) | exact masked_hi d m k.1 (by omega)) | (show (_ : List UInt8) = _; simp [masked]; done) | (simp; done)
          · repeat' (first | exact trivial | refine And.intro ?_ ?_ | rfl | omega | decide | exact Nat.lt_of_sub_pos (by decide))
          · repeat' (first | exact trivial | refine And.intro ?_ ?_ | rfl | omega | decide | exact Nat.lt_of_sub_pos (by decide))
        · try simp only [decide_eq_false_iff_not, Int.not_lt] at h_t15
          refine WP_skip ?_
          refine hK14 _ _ _ ?_
          refine region_k g0_ok fun _ hK20 => ?_
          refine s_step rfl (by decide) rfl fun _ hS => ?_
          refine hS _ _ _ ?_
          clear hS
          refine s_step rfl (by decide) rfl fun _ hS => ?_
          refine hS _ _ _ ?_
          clear hS
          refine s_step rfl (by decide) rfl fun _ hS => ?_
          repeat refine And.intro (by first | omega | exact trivial | rfl | (simp [hd, hlen] <;> omega)) ?_
          refine hS _ _ _ ?_
          clear hS
          refine s_step rfl (by decide) rfl fun _ hS => ?_
          repeat first | refine And.intro (by first | omega | exact trivial | rfl | (simp [hlen] <;> omega)) ?_ | refine whole_yes (by first | omega | exact trivial | rfl | (simp [hd, hlen] <;> omega)) ?_ | refine whole_sub ?_
          intro cap3 hcap3; refine hS _ _ _ ?_
          clear hS
          refine s_step rfl (by decide) rfl fun _ hS => ?_
          refine hS _ _ _ ?_
          clear hS
          refine s_nil ?_
          refine hK20 _ _ _ ?_
          refine done_block ?_
          refine hK11 _ _ _ ?_
          refine region_k g0_ok fun _ hK21 => ?_
          refine s_step rfl (by decide) rfl fun _ hS => ?_
          refine hS _ _ _ ?_
          clear hS
          refine s_step rfl (by decide) rfl fun _ hS => ?_
          repeat refine And.intro (by first | omega | exact trivial | rfl | (simp <;> omega)) ?_
          refine hS _ _ _ ?_
          clear hS
          refine s_step rfl (by decide) rfl fun _ hS => ?_
          refine hS _ _ _ ?_
          clear hS
          refine s_nil ?_
          refine hK21 _ _ _ ?_
          refine Done_some [] (fun i => if i = 1 then 3 else i) (k.1 + 1, cap3) ⟨by omega, by omega⟩ ⟨?_, ?_, (by decide : List.Nodup ([0, 3] : List Nat)), ?_, ?_, ⟨Nat.zero_le _, fun i hi => absurd hi (Nat.not_lt_zero i)⟩⟩
          · repeat' (first | exact trivial | refine And.intro ?_ ?_ | rfl | omega | decide | exact Nat.lt_of_sub_pos (by decide))
            all_goals first | (simp; done) | (simp <;> omega)
          · repeat' (first | exact trivial | refine And.intro ?_ ?_ | rfl | omega | decide | exact Nat.lt_of_sub_pos (by decide))
            all_goals first | exact hd | (show (_ : List UInt8) = _; simp only; first | exact masked_lo d m k.1 (by omega) | exact masked_hi d m k.1 (by omega)) | (show (_ : List UInt8) = _; simp [masked]; done) | (simp; done)
          · repeat' (first | exact trivial | refine And.intro ?_ ?_ | rfl | omega | decide | exact Nat.lt_of_sub_pos (by decide))
          · repeat' (first | exact trivial | refine And.intro ?_ ?_ | rfl | omega | decide | exact Nat.lt_of_sub_pos (by decide))
      · try simp only [decide_eq_false_iff_not, Int.not_lt] at h_t10
        refine WP_exit ?_
        refine done_thenx ?_
        refine done_thenx ?_
        refine Done_hit ?_
        refine hK5 _ _ _ ?_
        refine seq_k fun _ hK22 => ?_
        obtain ⟨k, cap0⟩ := k
        have hk64 : k = 64 := by simp at h_t10 hk; omega
        subst hk64
        refine region_k g0_ok fun _ hK23 => ?_
        refine s_step rfl (by decide) rfl fun _ hS => ?_
        refine hS _ _ _ ?_
        clear hS
        refine s_step rfl (by decide) rfl fun _ hS => ?_
        refine hS _ _ _ ?_
        clear hS
        refine s_nil ?_
        refine hK23 _ _ _ ?_
        refine hK22 _ _ _ ?_
        refine WP_ret (Done_own g0_ok (fun _ _ h => h) (by decide) [.tmp 4] rfl ?_)
        show _ ∧ _
        repeat' (first | exact trivial | refine And.intro ?_ ?_ | rfl | omega | decide | exact Nat.lt_of_sub_pos (by decide))
  · exact h.elim

end Go.Proofs.YtdanaehfdbdhdaaDoor
