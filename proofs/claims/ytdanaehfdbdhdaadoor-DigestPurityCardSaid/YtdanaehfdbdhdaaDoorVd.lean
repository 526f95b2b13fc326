/- The padding of the reference. -/
import Derived.Test.YtdanaehfdbdhdaaDoorVc
namespace Go.Proofs.YtdanaehfdbdhdaaDoor
set_option linter.unusedVariables false
open Go.Ab Go.RowKit

def padZ (l : List UInt8) (k : Nat) : List UInt8 := l ++ [0x80] ++ List.replicate k 0
theorem padZ_length (l : List UInt8) (k : Nat) : (padZ l k).length = l.length + 1 + k := by simp [padZ]; omega
theorem padZ_step (l : List UInt8) (k : Nat) : padZ l k ++ [0] = padZ l (k + 1) := by
  simp [padZ, List.replicate_succ']
def padB (l : List UInt8) (j : Nat) : List UInt8 := padZ l (Sha.zeros l.length) ++ (Sha.be64 (8 * l.length.toUInt64)).take j
theorem padB_length (l : List UInt8) (j : Nat) (h : j ≤ 8) : (padB l j).length = l.length + 1 + Sha.zeros l.length + j := by
  simp [padB, padZ_length, Sha.be64]; omega
theorem padB_step (l : List UInt8) (j : Nat) (h : j < 8) : padB l j ++ [(shr64 (8 * l.length.toUInt64) (56 - 8 * j)).toUInt8] = padB l (j + 1) := by
  have e : (Sha.be64 (8 * l.length.toUInt64))[j]? = some (shr64 (8 * l.length.toUInt64) (56 - 8 * j)).toUInt8 := by
    simp [Sha.be64, h]
  rw [padB, padB, List.append_assoc, List.take_add_one, e, Option.toList_some]
theorem padB_full (l : List UInt8) : padB l 8 = Sha.pad l := by
  rw [padB, Sha.pad, padZ, List.take_of_length_le (by simp [Sha.be64])]
theorem zeros_lt (n : Nat) : Sha.zeros n < 64 := Nat.mod_lt _ (by omega)
theorem zeros_eq (n : Nat) : (n + 1 + Sha.zeros n) % 64 = 56 := by unfold Sha.zeros; omega
theorem ofIntNat (n : Nat) : UInt64.ofInt (n : Int) = n.toUInt64 := by
  apply UInt64.toNat_inj.1
  simp [UInt64.ofInt]
  omega

def padS : OSpec := fun vs K => match vs with
  | [.c (.ds n (.u8s l))] => (n = l.length ∧ n ≤ 1048576) ∧ K 5 1 (Sha.pad l).length (.u8s (Sha.pad l))
  | _ => False
set_option maxHeartbeats 1000000 in
theorem pad_ok : OwnOK Tryd.prog gl 29 padS := by
  refine own_of (Γ := g0) (N := 37) Tryd.func29 rfl rfl fun vs K h => ?_
  unfold padS at h
  split at h
  · rename_i n l
    obtain ⟨⟨hn, hl⟩, h⟩ := h
    subst hn
    refine ⟨_, _, _, _, h, trivial, by simp, fun w I => ?_⟩
    have hz := zeros_lt l.length
    have hB : UInt64.ofInt (l.length : Int) * 8 = 8 * l.length.toUInt64 := by
      rw [UInt64.mul_comm, ofIntNat]
    refine seq_k fun _ hK1 => ?_
    refine region_k g0_ok fun _ hK2 => ?_
    refine s_step rfl (by decide) rfl fun _ hS => ?_
    refine hS _ _ _ ?_
    clear hS
    refine s_nil ?_
    refine hK2 _ _ _ ?_
    refine hK1 _ _ _ ?_
    refine seq_k fun _ hK3 => ?_
    refine region_k g0_ok fun _ hK4 => ?_
    refine s_step rfl (by decide) rfl fun _ hS => ?_
    repeat refine And.intro (by first | omega | exact trivial | rfl | (simp [padZ_length, List.take_length] <;> omega)) ?_
    refine hS _ _ _ ?_
    clear hS
    refine s_step rfl (by decide) rfl fun _ hS => ?_
    refine hS _ _ _ ?_
    clear hS
    refine s_step rfl (by decide) rfl fun _ hS => ?_
    repeat first | refine And.intro (by first | omega | exact trivial | rfl | (simp <;> omega)) ?_ | refine whole_yes (by first | omega | exact trivial | rfl | (simp [padZ_length, List.take_length] <;> omega)) ?_ | refine whole_sub ?_
    intro cap2 hcap2; refine hS _ _ _ ?_
    clear hS
    refine s_step rfl (by decide) rfl fun _ hS => ?_
    refine hS _ _ _ ?_
    clear hS
    refine s_nil ?_
    refine hK4 _ _ _ ?_
    refine hK3 _ _ _ ?_
    refine seq_k fun _ hK5 => ?_
    refine region_k g0_ok fun _ hK6 => ?_
    refine s_step rfl (by decide) rfl fun _ hS => ?_
    refine hS _ _ _ ?_
    clear hS
    refine s_step rfl (by decide) rfl fun _ hS => ?_
    repeat refine And.intro (by first | omega | exact trivial | rfl | (simp [padZ_length] <;> omega)) ?_
    refine hS _ _ _ ?_
    clear hS
    refine s_step rfl (by decide) rfl fun _ hS => ?_
    repeat first | refine And.intro (by first | omega | exact trivial | rfl | (simp <;> omega)) ?_ | refine whole_yes (by first | omega | exact trivial | rfl | (simp [padZ_length] <;> omega)) ?_ | refine whole_sub ?_
    intro cap2 hcap2; refine hS _ _ _ ?_
    clear hS
    refine s_step rfl (by decide) rfl fun _ hS => ?_
    refine hS _ _ _ ?_
    clear hS
    refine s_nil ?_
    refine hK6 _ _ _ ?_
    refine hK5 _ _ _ ?_
    refine seq_k fun _ hK7 => ?_
    refine WP_block ?_
    refine WP_loop (α := Nat × Nat) (fun k => [(0, .c (.ds l.length (.u8s l))), (3, .c (.slice 0 0 (padZ l k.1).length k.2))]) (fun k => [(0, .own 5 (.u8s (padZ l k.1)) k.2)]) 1 (fun k => k.1 ≤ Sha.zeros l.length) (fun k => Sha.zeros l.length - k.1) ?_ ?_
    · refine Done_some [] (fun _ => 3) (0, cap2) (Nat.zero_le _) ⟨?_, ?_, (by decide : List.Nodup ([3] : List Nat)), ?_, ?_, ⟨Nat.zero_le _, fun i hi => absurd hi (Nat.not_lt_zero i)⟩⟩
      · repeat' (first | exact trivial | refine And.intro ?_ ?_ | rfl | omega | decide | exact Nat.lt_of_sub_pos (by decide))
        all_goals first | (show (_ : List UInt8) = _; simp [padZ, padB]; done) | exact hB | (simp [padZ_length]; done) | (simp [padZ_length, padB, Sha.be64] <;> omega) | skip
      · repeat' (first | exact trivial | refine And.intro ?_ ?_ | rfl | omega | decide | exact Nat.lt_of_sub_pos (by decide))
        all_goals first | (show (_ : List UInt8) = _; simp [padZ]; done) | exact hB | (simp [padZ_length, padB, Sha.be64]; done) | (simp [padZ_length, padB, Sha.be64] <;> omega) | skip
      · repeat' (first | exact trivial | refine And.intro ?_ ?_ | rfl | omega | decide | exact Nat.lt_of_sub_pos (by decide))
      · repeat' (first | exact trivial | refine And.intro ?_ ?_ | rfl | omega | decide | exact Nat.lt_of_sub_pos (by decide))
    · intro k hk
      have hlen := padZ_length l k.1
      refine seq_k fun _ hK8 => ?_
      refine seq_k fun _ hK9 => ?_
      refine region_k g0_ok fun _ hK10 => ?_
      refine s_step rfl (by decide) rfl fun _ hS => ?_
      refine hS _ _ _ ?_
      clear hS
      refine s_step rfl (by decide) rfl fun _ hS => ?_
      repeat refine And.intro (by first | omega | exact trivial | rfl | (simp [padZ_length] <;> omega)) ?_
      refine hS _ _ _ ?_
      clear hS
      refine s_step rfl (by decide) rfl fun _ hS => ?_
      repeat refine And.intro (by first | omega | exact trivial | rfl | (simp [padZ_length] <;> omega)) ?_
      refine hS _ _ _ ?_
      clear hS
      refine s_step rfl (by decide) rfl fun _ hS => ?_
      repeat refine And.intro (by first | omega | exact trivial | rfl | (simp [padZ_length] <;> omega)) ?_
      refine hS _ _ _ ?_
      clear hS
      refine s_nil ?_
      refine hK10 _ _ _ ?_
      refine hK9 _ _ _ ?_
      refine WP_cond (b := _) rfl (fun h_t15 => ?_) (fun h_t15 => ?_)
      · try simp only [decide_eq_false_iff_not, Bool.not_eq_eq_eq_not, Bool.not_true] at h_t15
        refine WP_skip ?_
        refine hK8 _ _ _ ?_
        refine WP_block ?_
        refine region_k g0_ok fun _ hK11 => ?_
        refine s_step rfl (by decide) rfl fun _ hS => ?_
        refine hS _ _ _ ?_
        clear hS
        refine s_step rfl (by decide) rfl fun _ hS => ?_
        repeat refine And.intro (by first | omega | exact trivial | rfl | (simp [padZ_length] <;> omega)) ?_
        refine hS _ _ _ ?_
        clear hS
        refine s_step rfl (by decide) rfl fun _ hS => ?_
        repeat first | refine And.intro (by first | omega | exact trivial | rfl | (simp [padZ_length] <;> omega)) ?_ | refine whole_yes (by first | omega | exact trivial | rfl | (simp [padZ_length] <;> omega)) ?_ | refine whole_sub ?_
        intro cap2 hcap2; refine hS _ _ _ ?_
        clear hS
        refine s_step rfl (by decide) rfl fun _ hS => ?_
        refine hS _ _ _ ?_
        clear hS
        refine s_nil ?_
        refine hK11 _ _ _ ?_
        have e1 := padZ_step l k.1
        refine done_block ?_
        refine Done_some [] (fun _ => 2) (k.1 + 1, cap2) ⟨by unfold Sha.zeros at *; omega, by unfold Sha.zeros at *; omega⟩ ⟨?_, ?_, (by decide : List.Nodup ([2] : List Nat)), ?_, ?_, ⟨Nat.zero_le _, fun i hi => absurd hi (Nat.not_lt_zero i)⟩⟩
        · repeat' (first | exact trivial | refine And.intro ?_ ?_ | rfl | omega | decide | exact Nat.lt_of_sub_pos (by decide))
          all_goals first | (show (_ : List UInt8) = _; exact e1) | (simp [padZ_length] <;> omega) | (simp [padZ_length, padB_length l _ hk, padB_length l (k.1 + 1) (by omega)] <;> omega) | skip
        · repeat' (first | exact trivial | refine And.intro ?_ ?_ | rfl | omega | decide | exact Nat.lt_of_sub_pos (by decide))
          all_goals first | (show (_ : List UInt8) = _; exact e1) | (simp [padZ_length] <;> omega) | (simp [padZ_length, padB_length l _ hk, padB_length l (k.1 + 1) (by omega)] <;> omega) | skip
        · repeat' (first | exact trivial | refine And.intro ?_ ?_ | rfl | omega | decide | exact Nat.lt_of_sub_pos (by decide))
        · repeat' (first | exact trivial | refine And.intro ?_ ?_ | rfl | omega | decide | exact Nat.lt_of_sub_pos (by decide))
      · try simp only [decide_eq_true_eq, Bool.not_eq_eq_eq_not, Bool.not_false] at h_t15
        refine WP_exit ?_
        refine done_thenx ?_
        refine done_thenx ?_
        refine Done_hit ?_
        refine hK7 _ _ _ ?_
        refine seq_k fun _ hK12 => ?_
        refine region_k g0_ok fun _ hK13 => ?_
        refine s_step rfl (by decide) rfl fun _ hS => ?_
        refine hS _ _ _ ?_
        clear hS
        refine s_step rfl (by decide) rfl fun _ hS => ?_
        repeat refine And.intro (by first | omega | exact trivial | rfl | (simp [padZ_length, hB] <;> omega)) ?_
        refine hS _ _ _ ?_
        clear hS
        refine s_step rfl (by decide) rfl fun _ hS => ?_
        repeat first | refine And.intro (by first | omega | exact trivial | rfl | (simp [padZ_length, hB] <;> omega)) ?_ | refine whole_yes (by first | omega | exact trivial | rfl | (simp [padZ_length, hB] <;> omega)) ?_ | refine whole_sub ?_
        refine hS _ _ _ ?_
        clear hS
        refine s_step rfl (by decide) rfl fun _ hS => ?_
        repeat refine And.intro (by first | omega | exact trivial | rfl | (simp [padZ_length, hB] <;> omega)) ?_
        refine hS _ _ _ ?_
        clear hS
        refine s_step rfl (by decide) rfl fun _ hS => ?_
        refine hS _ _ _ ?_
        clear hS
        refine s_nil ?_
        refine hK13 _ _ _ ?_
        refine hK12 _ _ _ ?_
        refine seq_k fun _ hK14 => ?_
        refine seq_k fun _ hK15 => ?_
        refine region_k g0_ok fun _ hK16 => ?_
        refine s_step rfl (by decide) rfl fun _ hS => ?_
        refine hS _ _ _ ?_
        clear hS
        refine s_nil ?_
        refine hK16 _ _ _ ?_
        refine hK15 _ _ _ ?_
        refine WP_block ?_
        have hk0 : k.1 = Sha.zeros l.length := by unfold Sha.zeros at *; omega
        obtain ⟨k, cap0⟩ := k
        subst hk0
        refine WP_loop (α := Nat × Nat) (fun k => [(0, .c (.ds l.length (.u8s l))), (3, .c (.slice 0 0 (padB l k.1).length k.2)), (4, .c (.u64 (8 * l.length.toUInt64))), (5, .c (.int .i64 k.1))]) (fun k => [(0, .own 5 (.u8s (padB l k.1)) k.2)]) 1 (fun k => k.1 ≤ 8) (fun k => 8 - k.1) ?_ ?_
        · refine Done_some [] (fun _ => 0) (0, cap0) (Nat.zero_le _) ⟨?_, ?_, (by decide : List.Nodup ([0] : List Nat)), ?_, ?_, ⟨Nat.zero_le _, fun i hi => absurd hi (Nat.not_lt_zero i)⟩⟩
          · repeat' (first | exact trivial | refine And.intro ?_ ?_ | rfl | omega | decide | exact Nat.lt_of_sub_pos (by decide))
            all_goals first | (show (_ : List UInt8) = _; simp [padZ, padB]; done) | exact hB | (simp [padZ_length, padB, Sha.be64]; done) | (simp [padZ_length, padB, Sha.be64] <;> omega) | skip
          · repeat' (first | exact trivial | refine And.intro ?_ ?_ | rfl | omega | decide | exact Nat.lt_of_sub_pos (by decide))
            all_goals first | (show (_ : List UInt8) = _; simp [padZ, padB]; done) | exact hB | (simp [padZ_length, padB, Sha.be64]; done) | (simp [padZ_length, padB, Sha.be64] <;> omega) | skip
          · repeat' (first | exact trivial | refine And.intro ?_ ?_ | rfl | omega | decide | exact Nat.lt_of_sub_pos (by decide))
          · repeat' (first | exact trivial | refine And.intro ?_ ?_ | rfl | omega | decide | exact Nat.lt_of_sub_pos (by decide))
        · intro k hk
          have hlen := padB_length l k.1 hk
          refine seq_k fun _ hK17 => ?_
          refine seq_k fun _ hK18 => ?_
          refine region_k g0_ok fun _ hK19 => ?_
          refine s_step rfl (by decide) rfl fun _ hS => ?_
          refine hS _ _ _ ?_
          clear hS
          refine s_step rfl (by decide) rfl fun _ hS => ?_
          repeat refine And.intro (by first | omega | exact trivial | rfl | (simp [padZ_length] <;> omega)) ?_
          refine hS _ _ _ ?_
          clear hS
          refine s_nil ?_
          refine hK19 _ _ _ ?_
          refine hK18 _ _ _ ?_
          refine WP_cond (b := _) rfl (fun h_t24 => ?_) (fun h_t24 => ?_)
          · try simp only [decide_eq_true_eq] at h_t24
            refine WP_skip ?_
            refine hK17 _ _ _ ?_
            refine seq_k fun _ hK20 => ?_
            refine WP_block ?_
            refine region_k g0_ok fun _ hK21 => ?_
            refine s_step rfl (by decide) rfl fun _ hS => ?_
            refine hS _ _ _ ?_
            clear hS
            refine s_step rfl (by decide) rfl fun _ hS => ?_
            refine hS _ _ _ ?_
            clear hS
            refine s_step rfl (by decide) rfl fun _ hS => ?_
            refine hS _ _ _ ?_
            clear hS
            refine s_step rfl (by decide) rfl fun _ hS => ?_
            repeat refine And.intro (by first | omega | exact trivial | rfl | (simp <;> omega)) ?_
            refine hS _ _ _ ?_
            clear hS
            refine s_step rfl (by decide) rfl fun _ hS => ?_
            repeat refine And.intro (by first | omega | exact trivial | rfl | (simp <;> omega)) ?_
            refine hS _ _ _ ?_
            clear hS
            refine s_step rfl (by decide) rfl fun _ hS => ?_
            repeat refine And.intro (by first | omega | exact trivial | rfl | (simp [padZ_length] <;> omega)) ?_
            refine hS _ _ _ ?_
            clear hS
            refine s_step rfl (by decide) rfl fun _ hS => ?_
            repeat first | refine And.intro (by first | omega | exact trivial | rfl | (simp [padZ_length] <;> omega)) ?_ | refine whole_yes (by first | omega | exact trivial | rfl | (simp [padZ_length] <;> omega)) ?_ | refine whole_sub ?_
            refine hS _ _ _ ?_
            clear hS
            refine s_step rfl (by decide) rfl fun _ hS => ?_
            repeat refine And.intro (by first | omega | exact trivial | rfl | (simp [padZ_length] <;> omega)) ?_
            refine hS _ _ _ ?_
            clear hS
            refine s_step rfl (by decide) rfl fun _ hS => ?_
            repeat first | refine And.intro (by first | omega | exact trivial | rfl | (simp <;> omega)) ?_ | refine whole_yes (by first | omega | exact trivial | rfl | (simp [padZ_length] <;> omega)) ?_ | refine whole_sub ?_
            intro cap8 hcap8; refine hS _ _ _ ?_
            clear hS
            refine s_step rfl (by decide) rfl fun _ hS => ?_
            refine hS _ _ _ ?_
            clear hS
            refine s_nil ?_
            refine hK21 _ _ _ ?_
            have e1 := padB_step l k.1 (by omega)
            rw [show 56 - 8 * k.1 = (56 - 8 * (k.1 : Int)).toNat by omega] at e1
            refine done_block ?_
            refine hK20 _ _ _ ?_
            refine region_k g0_ok fun _ hK22 => ?_
            refine s_step rfl (by decide) rfl fun _ hS => ?_
            refine hS _ _ _ ?_
            clear hS
            refine s_step rfl (by decide) rfl fun _ hS => ?_
            repeat refine And.intro (by first | omega | exact trivial | rfl | (simp <;> omega)) ?_
            refine hS _ _ _ ?_
            clear hS
            refine s_step rfl (by decide) rfl fun _ hS => ?_
            refine hS _ _ _ ?_
            clear hS
            refine s_nil ?_
            refine hK22 _ _ _ ?_
            refine Done_some [] (fun _ => 2) (k.1 + 1, cap8) ⟨by omega, by omega⟩ ⟨?_, ?_, (by decide : List.Nodup ([2] : List Nat)), ?_, ?_, ⟨Nat.zero_le _, fun i hi => absurd hi (Nat.not_lt_zero i)⟩⟩
            · repeat' (first | exact trivial | refine And.intro ?_ ?_ | rfl | omega | decide | exact Nat.lt_of_sub_pos (by decide))
              all_goals first | (show (_ : List UInt8) = _; exact e1) | (simp <;> omega) | (simp [padB_length l _ hk, padB_length l (k.1 + 1) (by omega)] <;> omega) | skip
            · repeat' (first | exact trivial | refine And.intro ?_ ?_ | rfl | omega | decide | exact Nat.lt_of_sub_pos (by decide))
              all_goals first | (show (_ : List UInt8) = _; exact e1) | (simp [padZ_length] <;> omega) | (simp [padZ_length, padB_length l _ hk, padB_length l (k.1 + 1) (by omega)] <;> omega) | skip
            · repeat' (first | exact trivial | refine And.intro ?_ ?_ | rfl | omega | decide | exact Nat.lt_of_sub_pos (by decide))
            · repeat' (first | exact trivial | refine And.intro ?_ ?_ | rfl | omega | decide | exact Nat.lt_of_sub_pos (by decide))
          · obtain ⟨k, cap0⟩ := k
            have hk8 : k = 8 := by simp at h_t24; omega
            subst hk8
            refine WP_exit ?_
            refine done_thenx ?_
            refine done_thenx ?_
            refine Done_hit ?_
            refine hK14 _ _ _ ?_
            refine seq_k fun _ hK23 => ?_
            refine region_k g0_ok fun _ hK24 => ?_
            refine s_step rfl (by decide) rfl fun _ hS => ?_
            refine hS _ _ _ ?_
            clear hS
            refine s_step rfl (by decide) rfl fun _ hS => ?_
            refine hS _ _ _ ?_
            clear hS
            refine s_nil ?_
            refine hK24 _ _ _ ?_
            refine hK23 _ _ _ ?_
            refine WP_ret (Done_own g0_ok (fun _ _ h => h) (by decide) [.tmp 2] rfl ?_)
            show _ ∧ _
            repeat' (first | exact trivial | refine And.intro ?_ ?_ | rfl | omega | decide | exact Nat.lt_of_sub_pos (by decide))
            all_goals simp
  · exact h.elim

end Go.Proofs.YtdanaehfdbdhdaaDoor
