/- Keyed of the program. -/
import Derived.Test.YtdanaehfdbdhdaaDoorVk
namespace Go.Proofs.YtdanaehfdbdhdaaDoor
set_option linter.unusedVariables false
open Go.Ab Go.RowKit

def mArr (d : List UInt8) (m : UInt8) (k : Nat) : List UInt8 := masked d m k ++ List.replicate (64 - k) 0
theorem mArr_length (d : List UInt8) (m : UInt8) (k : Nat) (h : k ≤ 64) : (mArr d m k).length = 64 := by simp [mArr, masked_length]; omega
theorem mArr_full (d : List UInt8) (m : UInt8) : mArr d m 64 = masked d m 64 := by simp [mArr]
theorem mArr_set (d : List UInt8) (m x : UInt8) (k : Nat) (h : k < 64) (hx : masked d m k ++ [x] = masked d m (k + 1)) : (mArr d m k).set k x = mArr d m (k + 1) := by
  have e : List.replicate (64 - k) (0 : UInt8) = 0 :: List.replicate (64 - (k + 1)) 0 := by
    rw [← List.replicate_succ]; congr 1; omega
  rw [mArr, e, List.set_append_right _ _ (by simp [masked_length]), masked_length, Nat.sub_self, List.set_cons_zero, mArr, ← hx, List.append_assoc, List.singleton_append]
theorem mArr_lo (d : List UInt8) (m : UInt8) (k : Nat) (h : k < 32) : (mArr d m k).set k (d.getD k 0 ^^^ m) = mArr d m (k + 1) := mArr_set d m _ k (by omega) (masked_lo d m k h)
theorem mArr_hi (d : List UInt8) (m : UInt8) (k : Nat) (h : 32 ≤ k) (h2 : k < 64) : (mArr d m k).set k (0 ^^^ m) = mArr d m (k + 1) := by
  rw [UInt8.zero_xor]
  exact mArr_set d m _ k h2 (masked_hi d m k h)
theorem zeros64 (d : List UInt8) (m : UInt8) : List.replicate 64 0 = mArr d m 0 := by simp [mArr, masked]
attribute [local irreducible] Sha.sum mArr
set_option maxHeartbeats 1000000 in
theorem keyed_ok (h27 : FlatOK Tryd.prog gl 27 hashS) : FlatOK Tryd.prog gl 16 keyedS := by
  refine flat_of (Γ := g7) (N := 35) Tryd.func16 rfl rfl fun vs K h => ?_
  unfold keyedS at h
  split at h
  · rename_i d n l
    obtain ⟨⟨hd, hn, hl⟩, h⟩ := h
    subst hn
    refine ⟨_, h, rfl, by simp, fun w I => ?_⟩
    have hs := Sha.sum_length
    have hm := masked_length d
    rw [keyed]
    refine seq_k fun _ hK1 => ?_
    refine region_k (g7_ok h27) fun _ hK2 => ?_
    refine s_step rfl (by decide) rfl fun _ hS => ?_
    repeat refine And.intro (by first | omega | exact trivial | rfl | (simp [hd] <;> omega) | exact hd.symm | (refine And.intro ?_ ?_ <;> exact trivial) | exact ⟨trivial, trivial, trivial⟩) ?_
    refine hS _ _ _ ?_
    clear hS
    refine s_step rfl (by decide) rfl fun _ hS => ?_
    repeat refine And.intro (by first | omega | exact trivial | rfl | (simp [hd] <;> omega) | exact hd.symm | (refine And.intro ?_ ?_ <;> exact trivial) | exact ⟨trivial, trivial, trivial⟩) ?_
    refine hS _ _ _ ?_
    clear hS
    refine s_nil ?_
    refine hK2 _ _ _ ?_
    refine hK1 _ _ _ ?_
    refine seq_k fun _ hK3 => ?_
    refine region_k (g7_ok h27) fun _ hK4 => ?_
    refine s_step rfl (by decide) rfl fun _ hS => ?_
    repeat refine And.intro (by first | omega | exact trivial | rfl | (simp [hd] <;> omega) | (refine And.intro ?_ ?_ <;> exact trivial) | exact ⟨trivial, trivial, trivial⟩) ?_
    refine hS _ _ _ ?_
    clear hS
    refine s_step rfl (by decide) rfl fun _ hS => ?_
    repeat refine And.intro (by first | omega | exact trivial | rfl | (simp [hd] <;> omega) | (refine And.intro ?_ ?_ <;> exact trivial) | exact ⟨trivial, trivial, trivial⟩) ?_
    refine hS _ _ _ ?_
    clear hS
    refine s_nil ?_
    refine hK4 _ _ _ ?_
    refine hK3 _ _ _ ?_
    refine seq_k fun _ hK5 => ?_
    refine seq_k fun _ hK6 => ?_
    refine region_k (g7_ok h27) fun _ hK7 => ?_
    refine s_step rfl (by decide) rfl fun _ hS => ?_
    refine hS _ _ _ ?_
    clear hS
    refine s_nil ?_
    refine hK7 _ _ _ ?_
    refine hK6 _ _ _ ?_
    refine WP_block ?_
    refine WP_loop (α := Nat) (fun k => [(1, .c (.ds l.length (.u8s l))), (2, .c (.ptr 0 0)), (4, .c (.ptr 1 0)), (5, .c (.ptr 2 0)), (6, .c (.ptr 3 0)), (10, .c (.int .i64 k))]) (fun k => [(0, .own 24 (.u8s d) 32), (1, .own 24 (.u8s (List.replicate 32 0)) 32), (2, .own 53 (.u8s (mArr d 54 k)) 64), (3, .own 53 (.u8s (mArr d 92 k)) 64)]) 4 (fun k => k ≤ 64) (fun k => 64 - k) ?_ ?_
    · refine Done_some [] id 0 (Nat.zero_le _) ⟨?_, ?_, (by decide : List.Nodup ([0, 1, 2, 3] : List Nat)), ?_, ?_, ⟨Nat.zero_le _, fun i hi => absurd hi (Nat.not_lt_zero i)⟩⟩
      · repeat' (first | exact trivial | refine And.intro ?_ ?_ | rfl | omega | decide | (show (_ : Nat) < _; decide))
      · repeat' (first | exact trivial | refine And.intro ?_ ?_ | rfl | omega | decide | (show (_ : Nat) < _; decide))
        all_goals first | exact hd | (show (_ : List UInt8) = _; exact zeros64 d _) | (show (_ : List UInt8) = _; simp only [Nat.zero_add, Nat.mul_one]; first | exact mArr_lo d _ k hk32 | exact mArr_hi d _ k hk32 hk64) | skip
      · repeat' (first | exact trivial | refine And.intro ?_ ?_ | rfl | omega | decide | (show (_ : Nat) < _; decide))
      · repeat' (first | exact trivial | refine And.intro ?_ ?_ | rfl | omega | decide | (show (_ : Nat) < _; decide))
    · intro k hk
      have hl54 := mArr_length d 54 k hk
      have hl92 := mArr_length d 92 k hk
      refine seq_k fun _ hK8 => ?_
      refine region_k (g7_ok h27) fun _ hK9 => ?_
      refine s_step rfl (by decide) rfl fun _ hS => ?_
      repeat refine And.intro (by first | omega | exact trivial | rfl | (simp [hd] <;> omega) | (refine And.intro ?_ ?_ <;> exact trivial) | exact ⟨trivial, trivial, trivial⟩) ?_
      refine hS _ _ _ ?_
      clear hS
      refine s_nil ?_
      refine hK9 _ _ _ ?_
      refine hK8 _ _ _ ?_
      refine seq_k fun _ hK10 => ?_
      refine WP_cond (b := _) rfl (fun h_t11 => ?_) (fun h_t11 => ?_)
      · have hk64 : k < 64 := by first | omega | (simp at h_t11; omega)
        refine WP_skip ?_
        refine hK10 _ _ _ ?_
        refine seq_k fun _ hK11 => ?_
        refine WP_block ?_
        refine seq_k fun _ hK12 => ?_
        refine region_k (g7_ok h27) fun _ hK13 => ?_
        refine s_step rfl (by decide) rfl fun _ hS => ?_
        refine hS _ _ _ ?_
        clear hS
        refine s_step rfl (by decide) rfl fun _ hS => ?_
        refine hS _ _ _ ?_
        clear hS
        refine s_nil ?_
        refine hK13 _ _ _ ?_
        refine hK12 _ _ _ ?_
        refine seq_k fun _ hK14 => ?_
        refine region_k (g7_ok h27) fun _ hK15 => ?_
        refine s_step rfl (by decide) rfl fun _ hS => ?_
        refine hS _ _ _ ?_
        clear hS
        refine s_nil ?_
        refine hK15 _ _ _ ?_
        refine hK14 _ _ _ ?_
        refine seq_k fun _ hK16 => ?_
        refine seq_k fun _ hK17 => ?_
        refine region_k (g7_ok h27) fun _ hK18 => ?_
        refine s_step rfl (by decide) rfl fun _ hS => ?_
        refine hS _ _ _ ?_
        clear hS
        refine s_step rfl (by decide) rfl fun _ hS => ?_
        repeat refine And.intro (by first | omega | exact trivial | rfl | (simp [hd] <;> omega) | (refine And.intro ?_ ?_ <;> exact trivial) | exact ⟨trivial, trivial, trivial⟩) ?_
        refine hS _ _ _ ?_
        clear hS
        refine s_nil ?_
        refine hK18 _ _ _ ?_
        refine hK17 _ _ _ ?_
        refine WP_cond (b := _) rfl (fun h_t14 => ?_) (fun h_t14 => ?_)
        · have hk32 : k < 32 := by first | omega | (simp at h_t14; omega)
          refine region_k (g7_ok h27) fun _ hK19 => ?_
          refine s_step rfl (by decide) rfl fun _ hS => ?_
          refine hS _ _ _ ?_
          clear hS
          refine s_step rfl (by decide) rfl fun _ hS => ?_
          repeat refine And.intro (by first | omega | exact trivial | rfl | (simp [hd] <;> omega) | (refine And.intro ?_ ?_ <;> exact trivial) | exact ⟨trivial, trivial, trivial⟩) ?_
          refine hS _ _ _ ?_
          clear hS
          refine s_step rfl (by decide) rfl fun _ hS => ?_
          repeat refine And.intro (by first | omega | exact trivial | rfl | (simp [hd] <;> omega) | (refine And.intro ?_ ?_ <;> exact trivial) | exact ⟨trivial, trivial, trivial⟩) ?_
          first | refine hS _ _ _ ?_ | (refine ite_yes (by first | omega | exact trivial | rfl | (simp [hd] <;> omega) | (refine And.intro ?_ ?_ <;> exact trivial) | exact ⟨trivial, trivial, trivial⟩) ?_; refine hS _ _ _ ?_)
          clear hS
          refine s_step rfl (by decide) rfl fun _ hS => ?_
          refine hS _ _ _ ?_
          clear hS
          refine s_nil ?_
          refine hK19 _ _ _ ?_
          refine hK16 _ _ _ ?_
          refine region_k (g7_ok h27) fun _ hK20 => ?_
          refine s_step rfl (by decide) rfl fun _ hS => ?_
          refine hS _ _ _ ?_
          clear hS
          refine s_step rfl (by decide) rfl fun _ hS => ?_
          refine hS _ _ _ ?_
          clear hS
          refine s_step rfl (by decide) rfl fun _ hS => ?_
          refine hS _ _ _ ?_
          clear hS
          refine s_step rfl (by decide) rfl fun _ hS => ?_
          repeat refine And.intro (by first | omega | exact trivial | rfl | (simp [hd, hl54, hl92] <;> omega) | (refine And.intro ?_ ?_ <;> exact trivial) | exact ⟨trivial, trivial, trivial⟩) ?_
          refine hS _ _ _ ?_
          clear hS
          refine s_step rfl (by decide) rfl fun _ hS => ?_
          refine hS _ _ _ ?_
          clear hS
          refine s_step rfl (by decide) rfl fun _ hS => ?_
          repeat refine And.intro (by first | omega | exact trivial | rfl | (simp [hd, hl54, hl92] <;> omega) | (refine And.intro ?_ ?_ <;> exact trivial) | exact ⟨trivial, trivial, trivial⟩) ?_
          refine hS _ _ _ ?_
          clear hS
          refine s_step rfl (by decide) rfl fun _ hS => ?_
          repeat refine And.intro (by first | omega | exact trivial | rfl | (simp [hl54] <;> omega) | (refine And.intro ?_ ?_ <;> exact trivial) | exact ⟨trivial, trivial, trivial⟩) ?_
          refine hS _ _ _ ?_
          clear hS
          refine s_step0 rfl rfl fun _ hS => ?_
          repeat refine And.intro (by first | omega | exact trivial | rfl | (simp [hl54] <;> omega) | (refine And.intro ?_ ?_ <;> exact trivial) | exact ⟨trivial, trivial, trivial⟩) ?_
          first | refine hS _ _ _ ?_ | (refine splice_full (by first | omega | exact trivial | rfl | (simp [hd, hl54, hl92] <;> omega) | (refine And.intro ?_ ?_ <;> exact trivial) | exact ⟨trivial, trivial, trivial⟩) ?_; refine hS _ _ _ ?_)
          clear hS
          refine s_step rfl (by decide) rfl fun _ hS => ?_
          repeat refine And.intro (by first | omega | exact trivial | rfl | (simp [hl92] <;> omega) | (refine And.intro ?_ ?_ <;> exact trivial) | exact ⟨trivial, trivial, trivial⟩) ?_
          refine hS _ _ _ ?_
          clear hS
          refine s_step0 rfl rfl fun _ hS => ?_
          repeat refine And.intro (by first | omega | exact trivial | rfl | (simp [hl92] <;> omega) | (refine And.intro ?_ ?_ <;> exact trivial) | exact ⟨trivial, trivial, trivial⟩) ?_
          first | refine hS _ _ _ ?_ | (refine splice_full (by first | omega | exact trivial | rfl | (simp [hd, hl54, hl92] <;> omega) | (refine And.intro ?_ ?_ <;> exact trivial) | exact ⟨trivial, trivial, trivial⟩) ?_; refine hS _ _ _ ?_)
          clear hS
          refine s_nil ?_
          refine hK20 _ _ _ ?_
          refine done_block ?_
          refine hK11 _ _ _ ?_
          refine region_k (g7_ok h27) fun _ hK21 => ?_
          refine s_step rfl (by decide) rfl fun _ hS => ?_
          repeat refine And.intro (by first | omega | exact trivial | rfl | (simp <;> omega) | (refine And.intro ?_ ?_ <;> exact trivial) | exact ⟨trivial, trivial, trivial⟩) ?_
          refine hS _ _ _ ?_
          clear hS
          refine s_step rfl (by decide) rfl fun _ hS => ?_
          refine hS _ _ _ ?_
          clear hS
          refine s_nil ?_
          refine hK21 _ _ _ ?_
          refine Done_some [] id (k + 1) ⟨by omega, by omega⟩ ⟨?_, ?_, (by decide : List.Nodup ([0, 1, 2, 3] : List Nat)), ?_, ?_, ⟨Nat.zero_le _, fun i hi => absurd hi (Nat.not_lt_zero i)⟩⟩
          · repeat' (first | exact trivial | refine And.intro ?_ ?_ | rfl | omega | decide | (show (_ : Nat) < _; decide))
          · repeat' (first | exact trivial | refine And.intro ?_ ?_ | rfl | omega | decide | (show (_ : Nat) < _; decide))
            all_goals first | exact hd | (show (_ : List UInt8) = _; exact zeros64 d _) | (show (_ : List UInt8) = _; simp only [Nat.zero_add, Nat.mul_one]; first | exact mArr_lo d _ k hk32 | exact mArr_hi d _ k hk32 hk64) | skip
          · repeat' (first | exact trivial | refine And.intro ?_ ?_ | rfl | omega | decide | (show (_ : Nat) < _; decide))
          · repeat' (first | exact trivial | refine And.intro ?_ ?_ | rfl | omega | decide | (show (_ : Nat) < _; decide))
        · have hk32 : 32 ≤ k := by first | omega | (simp at h_t14; omega)
          refine WP_skip ?_
          refine hK16 _ _ _ ?_
          refine region_k (g7_ok h27) fun _ hK22 => ?_
          refine s_step rfl (by decide) rfl fun _ hS => ?_
          refine hS _ _ _ ?_
          clear hS
          refine s_step rfl (by decide) rfl fun _ hS => ?_
          refine hS _ _ _ ?_
          clear hS
          refine s_step rfl (by decide) rfl fun _ hS => ?_
          refine hS _ _ _ ?_
          clear hS
          refine s_step rfl (by decide) rfl fun _ hS => ?_
          repeat refine And.intro (by first | omega | exact trivial | rfl | (simp [hd, hl54, hl92] <;> omega) | (refine And.intro ?_ ?_ <;> exact trivial) | exact ⟨trivial, trivial, trivial⟩) ?_
          refine hS _ _ _ ?_
          clear hS
          refine s_step rfl (by decide) rfl fun _ hS => ?_
          refine hS _ _ _ ?_
          clear hS
          refine s_step rfl (by decide) rfl fun _ hS => ?_
          repeat refine And.intro (by first | omega | exact trivial | rfl | (simp [hd, hl54, hl92] <;> omega) | (refine And.intro ?_ ?_ <;> exact trivial) | exact ⟨trivial, trivial, trivial⟩) ?_
          refine hS _ _ _ ?_
          clear hS
          refine s_step rfl (by decide) rfl fun _ hS => ?_
          repeat refine And.intro (by first | omega | exact trivial | rfl | (simp [hl54] <;> omega) | (refine And.intro ?_ ?_ <;> exact trivial) | exact ⟨trivial, trivial, trivial⟩) ?_
          refine hS _ _ _ ?_
          clear hS
          refine s_step0 rfl rfl fun _ hS => ?_
          repeat refine And.intro (by first | omega | exact trivial | rfl | (simp [hl54] <;> omega) | (refine And.intro ?_ ?_ <;> exact trivial) | exact ⟨trivial, trivial, trivial⟩) ?_
          first | refine hS _ _ _ ?_ | (refine splice_full (by first | omega | exact trivial | rfl | (simp [hd, hl54, hl92] <;> omega) | (refine And.intro ?_ ?_ <;> exact trivial) | exact ⟨trivial, trivial, trivial⟩) ?_; refine hS _ _ _ ?_)
          clear hS
          refine s_step rfl (by decide) rfl fun _ hS => ?_
          repeat refine And.intro (by first | omega | exact trivial | rfl | (simp [hl92] <;> omega) | (refine And.intro ?_ ?_ <;> exact trivial) | exact ⟨trivial, trivial, trivial⟩) ?_
          refine hS _ _ _ ?_
          clear hS
          refine s_step0 rfl rfl fun _ hS => ?_
          repeat refine And.intro (by first | omega | exact trivial | rfl | (simp [hl92] <;> omega) | (refine And.intro ?_ ?_ <;> exact trivial) | exact ⟨trivial, trivial, trivial⟩) ?_
          first | refine hS _ _ _ ?_ | (refine splice_full (by first | omega | exact trivial | rfl | (simp [hd, hl54, hl92] <;> omega) | (refine And.intro ?_ ?_ <;> exact trivial) | exact ⟨trivial, trivial, trivial⟩) ?_; refine hS _ _ _ ?_)
          clear hS
          refine s_nil ?_
          refine hK22 _ _ _ ?_
          refine done_block ?_
          refine hK11 _ _ _ ?_
          refine region_k (g7_ok h27) fun _ hK23 => ?_
          refine s_step rfl (by decide) rfl fun _ hS => ?_
          repeat refine And.intro (by first | omega | exact trivial | rfl | (simp <;> omega) | (refine And.intro ?_ ?_ <;> exact trivial) | exact ⟨trivial, trivial, trivial⟩) ?_
          refine hS _ _ _ ?_
          clear hS
          refine s_step rfl (by decide) rfl fun _ hS => ?_
          refine hS _ _ _ ?_
          clear hS
          refine s_nil ?_
          refine hK23 _ _ _ ?_
          refine Done_some [] id (k + 1) ⟨by omega, by omega⟩ ⟨?_, ?_, (by decide : List.Nodup ([0, 1, 2, 3] : List Nat)), ?_, ?_, ⟨Nat.zero_le _, fun i hi => absurd hi (Nat.not_lt_zero i)⟩⟩
          · repeat' (first | exact trivial | refine And.intro ?_ ?_ | rfl | omega | decide | (show (_ : Nat) < _; decide))
          · repeat' (first | exact trivial | refine And.intro ?_ ?_ | rfl | omega | decide | (show (_ : Nat) < _; decide))
            all_goals first | exact hd | (show (_ : List UInt8) = _; exact zeros64 d _) | (show (_ : List UInt8) = _; simp only [Nat.zero_add, Nat.mul_one]; first | exact mArr_lo d _ k hk32 | exact mArr_hi d _ k hk32 hk64) | skip
          · repeat' (first | exact trivial | refine And.intro ?_ ?_ | rfl | omega | decide | (show (_ : Nat) < _; decide))
          · repeat' (first | exact trivial | refine And.intro ?_ ?_ | rfl | omega | decide | (show (_ : Nat) < _; decide))
      · try simp only [decide_eq_false_iff_not, Int.not_lt] at h_t11
        refine WP_exit ?_
        refine done_thenx ?_
        refine done_thenx ?_
        refine Done_hit ?_
        refine hK5 _ _ _ ?_
        refine seq_k fun _ hK24 => ?_
        obtain rfl : k = 64 := by first | omega | (simp at h_t11; omega)
        refine WP_le (is := [2, 3]) (ρ := id) (E' := [(1, .c (.ds l.length (.u8s l))), (4, .c (.ptr 1 0)), (5, .c (.dp (.u8s (masked d 54 64)) 0)), (6, .c (.dp (.u8s (masked d 92 64)) 0))]) (H' := [(1, .own 24 (.u8s (List.replicate 32 0)) 32)]) (n' := 4) ⟨?_, ?_, (by decide : List.Nodup ([1] : List Nat)), ?_, ?_, ⟨Nat.zero_le _, fun i hi => absurd hi (Nat.not_lt_zero i)⟩⟩ ?_
        · repeat' (first | exact trivial | refine And.intro ?_ ?_ | rfl | omega | decide | (show (_ : Nat) < _; decide))
          all_goals first | (simp; done) | (rw [mArr_full]; done) | (simp [mArr_length]; done) | (simp [mArr_full, hm, hs]; done) | skip
        · repeat' (first | exact trivial | refine And.intro ?_ ?_ | rfl | omega | decide | (show (_ : Nat) < _; decide))
          all_goals first | (simp; done) | (rw [mArr_full]; done) | (simp [mArr_length]; done) | (simp [mArr_full, hm, hs]; done) | skip
        · repeat' (first | exact trivial | refine And.intro ?_ ?_ | rfl | omega | decide | (show (_ : Nat) < _; decide))
        · repeat' (first | exact trivial | refine And.intro ?_ ?_ | rfl | omega | decide | (show (_ : Nat) < _; decide))
        refine region_k (g7_ok h27) fun _ hK25 => ?_
        refine s_step rfl (by decide) rfl fun _ hS => ?_
        repeat refine And.intro (by first | omega | exact trivial | rfl | (simp [hm] <;> omega) | exact (hs _).symm | exact (hm _ _).symm | (refine And.intro ?_ ?_ <;> exact trivial) | exact ⟨trivial, trivial, trivial⟩) ?_
        first | refine hS _ _ _ ?_ | (refine ite_yes (by first | omega | exact trivial | rfl | (simp [hd, hs, hm] <;> omega) | exact (hs _).symm | exact (hm _ _).symm | (refine And.intro ?_ ?_ <;> exact trivial) | exact ⟨trivial, trivial, trivial⟩) ?_; (repeat refine And.intro (by first | omega | exact trivial | rfl | (simp [hd, hs, hm] <;> omega) | exact (hs _).symm | exact (hm _ _).symm | (refine And.intro ?_ ?_ <;> exact trivial) | exact ⟨trivial, trivial, trivial⟩) ?_); refine hS _ _ _ ?_)
        clear hS
        refine s_step rfl (by decide) rfl fun _ hS => ?_
        refine hS _ _ _ ?_
        clear hS
        refine s_step rfl (by decide) rfl fun _ hS => ?_
        repeat refine And.intro (by first | omega | exact trivial | rfl | (simp [hd, hs, hm] <;> omega) | exact (hs _).symm | exact (hm _ _).symm | (refine And.intro ?_ ?_ <;> exact trivial) | exact ⟨trivial, trivial, trivial⟩) ?_
        refine hS _ _ _ ?_
        clear hS
        refine s_step rfl (by decide) rfl fun _ hS => ?_
        repeat first | refine And.intro (by first | omega | exact trivial | rfl | (simp <;> omega) | exact (hs _).symm | exact (hm _ _).symm | (refine And.intro ?_ ?_ <;> exact trivial) | exact ⟨trivial, trivial, trivial⟩) ?_ | refine whole_yes (by first | omega | exact trivial | rfl | (simp [hd, hs, hm] <;> omega) | exact (hs _).symm | exact (hm _ _).symm | (refine And.intro ?_ ?_ <;> exact trivial) | exact ⟨trivial, trivial, trivial⟩) ?_ | refine whole_sub ?_
        refine Exists.intro [masked d 54 64, l] ?_
        refine And.intro rfl ?_
        refine And.intro (by simp [hm]; omega) ?_
        rw [show [masked d 54 64, l].flatten = masked d 54 64 ++ l by simp]
        repeat refine And.intro (by first | omega | exact trivial | rfl | (simp [hd, hs, hm] <;> omega) | exact (hs _).symm | exact (hm _ _).symm | (refine And.intro ?_ ?_ <;> exact trivial) | exact ⟨trivial, trivial, trivial⟩) ?_
        first | refine hS _ _ _ ?_ | (intro cap3 hcap3; refine hS _ _ _ ?_)
        clear hS
        refine s_step rfl (by decide) rfl fun _ hS => ?_
        repeat refine And.intro (by first | omega | exact trivial | rfl | (simp [hd, hs, hm] <;> omega) | exact (hs _).symm | exact (hm _ _).symm | (refine And.intro ?_ ?_ <;> exact trivial) | exact ⟨trivial, trivial, trivial⟩) ?_
        refine hS _ _ _ ?_
        clear hS
        refine s_step0 rfl rfl fun _ hS => ?_
        repeat refine And.intro (by first | omega | exact trivial | rfl | (simp [hs] <;> omega) | exact (hs _).symm | exact (hm _ _).symm | (refine And.intro ?_ ?_ <;> exact trivial) | exact ⟨trivial, trivial, trivial⟩) ?_
        first | refine hS _ _ _ ?_ | (refine splice_full (by first | omega | exact trivial | rfl | (simp [hs] <;> omega) | exact (hs _).symm | exact (hm _ _).symm | (refine And.intro ?_ ?_ <;> exact trivial) | exact ⟨trivial, trivial, trivial⟩) ?_; refine hS _ _ _ ?_)
        clear hS
        refine s_nil ?_
        refine hK25 _ _ _ ?_
        refine hK24 _ _ _ ?_
        refine seq_k fun _ hK26 => ?_
        refine WP_le (is := [5]) (ρ := id) (E' := [(4, .c (.ptr 1 0)), (6, .c (.dp (.u8s (masked d 92 64)) 0)), (9, .c (.dp (.u8s (Sha.sum (masked d 54 64 ++ l))) 0))]) (H' := [(1, .own 24 (.u8s (List.replicate 32 0)) 32)]) (n' := 8) ⟨?_, ?_, (by decide : List.Nodup ([1] : List Nat)), ?_, ?_, ⟨Nat.zero_le _, fun i hi => absurd hi (Nat.not_lt_zero i)⟩⟩ ?_
        · repeat' (first | exact trivial | refine And.intro ?_ ?_ | rfl | omega | decide | (show (_ : Nat) < _; decide))
          all_goals first | (simp; done) | (rw [mArr_full]; done) | (simp; done) | (simp [hs]; done) | skip
        · repeat' (first | exact trivial | refine And.intro ?_ ?_ | rfl | omega | decide | (show (_ : Nat) < _; decide))
          all_goals first | (simp; done) | (rw [mArr_full]; done) | (simp [mArr_length]; done) | (simp [mArr_full, hm, hs]; done) | skip
        · repeat' (first | exact trivial | refine And.intro ?_ ?_ | rfl | omega | decide | (show (_ : Nat) < _; decide))
        · repeat' (first | exact trivial | refine And.intro ?_ ?_ | rfl | omega | decide | (show (_ : Nat) < _; decide))
        refine sched_k (g7_ok h27) [(0, true), (1, true), (2, false), (3, false), (4, false)] rfl (by kernel_rfl) (by kernel_rfl) fun _ hK27 => ?_
        refine d_read rfl rfl (by decide) rfl fun _ hS => ?_
        repeat refine And.intro (by first | omega | exact trivial | rfl | (simp [hm] <;> omega) | exact (hs _).symm | (refine And.intro ?_ ?_ <;> exact trivial) | exact ⟨trivial, trivial, trivial⟩) ?_
        first | refine hS _ ?_ | (refine ite_yes (by first | omega | exact trivial | rfl | (simp [hd, hs, hm] <;> omega) | exact (hs _).symm | (refine And.intro ?_ ?_ <;> exact trivial) | exact ⟨trivial, trivial, trivial⟩) ?_; (repeat refine And.intro (by first | omega | exact trivial | rfl | (simp [hd, hs, hm] <;> omega) | exact (hs _).symm | (refine And.intro ?_ ?_ <;> exact trivial) | exact ⟨trivial, trivial, trivial⟩) ?_); refine hS _ ?_)
        clear hS
        refine d_read rfl rfl (by decide) rfl fun _ hS => ?_
        repeat refine And.intro (by first | omega | exact trivial | rfl | (simp [hs] <;> omega) | exact (hs _).symm | (refine And.intro ?_ ?_ <;> exact trivial) | exact ⟨trivial, trivial, trivial⟩) ?_
        first | refine hS _ ?_ | (refine ite_yes (by first | omega | exact trivial | rfl | (simp [hs] <;> omega) | exact (hs _).symm | (refine And.intro ?_ ?_ <;> exact trivial) | exact ⟨trivial, trivial, trivial⟩) ?_; (repeat refine And.intro (by first | omega | exact trivial | rfl | (simp [hd, hs, hm] <;> omega) | exact (hs _).symm | (refine And.intro ?_ ?_ <;> exact trivial) | exact ⟨trivial, trivial, trivial⟩) ?_); refine hS _ ?_)
        clear hS
        refine d_grow rfl rfl (by decide) rfl fun _ hS => ?_
        repeat refine And.intro (by first | omega | exact trivial | rfl | (simp [hd, hs, hm] <;> omega) | exact (hs _).symm | (refine And.intro ?_ ?_ <;> exact trivial) | exact ⟨trivial, trivial, trivial⟩) ?_
        refine hS _ _ _ ?_
        clear hS
        refine d_grow rfl rfl (by decide) rfl fun _ hS => ?_
        repeat first | refine And.intro (by first | omega | exact trivial | rfl | (simp <;> omega) | exact (hs _).symm | (refine And.intro ?_ ?_ <;> exact trivial) | exact ⟨trivial, trivial, trivial⟩) ?_ | refine whole_yes (by first | omega | exact trivial | rfl | (simp [hd, hs, hm] <;> omega) | exact (hs _).symm | (refine And.intro ?_ ?_ <;> exact trivial) | exact ⟨trivial, trivial, trivial⟩) ?_ | refine whole_sub ?_
        refine Exists.intro [masked d 92 64, Sha.sum (masked d 54 64 ++ l)] ?_
        refine And.intro (by simp [lists, hs, hm]) ?_
        refine And.intro (by simp [hm, hs]) ?_
        rw [show [masked d 92 64, Sha.sum (masked d 54 64 ++ l)].flatten = masked d 92 64 ++ Sha.sum (masked d 54 64 ++ l) by simp]
        repeat refine And.intro (by first | omega | exact trivial | rfl | (simp [hd, hs, hm] <;> omega) | exact (hs _).symm | (refine And.intro ?_ ?_ <;> exact trivial) | exact ⟨trivial, trivial, trivial⟩) ?_
        first | refine hS _ _ _ ?_ | (intro cap3 hcap3; refine hS _ _ _ ?_)
        clear hS
        refine d_grow0 rfl rfl rfl fun _ hS => ?_
        repeat refine And.intro (by first | omega | exact trivial | rfl | (simp [hs] <;> omega) | exact (hs _).symm | (refine And.intro ?_ ?_ <;> exact trivial) | exact ⟨trivial, trivial, trivial⟩) ?_
        first | refine hS _ _ _ ?_ | (refine splice_full (by first | omega | exact trivial | rfl | (simp [hs] <;> omega) | exact (hs _).symm | (refine And.intro ?_ ?_ <;> exact trivial) | exact ⟨trivial, trivial, trivial⟩) ?_; refine hS _ _ _ ?_)
        clear hS
        refine d_nil ?_
        refine hK27 _ _ _ ?_
        refine hK26 _ _ _ ?_
        refine WP_ret (Done_flat (g7_ok h27) (fun _ _ h => h) (by first | rfl | assumption) [.cell 4 24] rfl ?_)
        repeat refine And.intro (by first | omega | exact trivial | rfl | (simp [hs] <;> omega)) ?_
        try refine ite_yes (by first | omega | exact trivial | rfl | (simp [hs] <;> omega)) ?_
        show _ = _
        rfl
  · exact h.elim

end Go.Proofs.YtdanaehfdbdhdaaDoor
