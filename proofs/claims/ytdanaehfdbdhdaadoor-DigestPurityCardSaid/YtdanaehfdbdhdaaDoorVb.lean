/- The schedule. -/
import Derived.Test.YtdanaehfdbdhdaaDoorVa
import Derived.Test.YtdanaehfdbdhdaaDoorWo
namespace Go.Proofs.YtdanaehfdbdhdaaDoor
set_option linter.unusedVariables false
open Go.Ab Go.RowKit

noncomputable def g1 : Ctx := { P := Tryd.prog, ty := ty, glob := gl, fs := [(35, .flat rotateS)] }
theorem g1_ok : g1.OK := ⟨tyOK, ⟨⟨enters_mk Tryd.func35 (by kernel_rfl) rfl, rotate_ok⟩, trivial⟩, mixed⟩
@[simp] theorem g1_ty : g1.ty = ty := rfl

def scheduleS : QSpec := fun vs K => match vs with
  | [.c (.ds n (.u8s l))] => (n = 64 ∧ l.length = 64) ∧ K (.agg (.u32s (Sha.sched l 64)))
  | _ => False
set_option maxHeartbeats 1000000 in
theorem schedule_ok : FlatOK Tryd.prog gl 33 scheduleS := by
  refine flat_of (Γ := g1) (N := 87) Tryd.func33 rfl rfl fun vs K h => ?_
  unfold scheduleS at h
  split at h
  · rename_i n l
    obtain ⟨⟨hn, hl⟩, h⟩ := h
    subst hn
    refine ⟨_, h, rfl, by simp, fun w I => ?_⟩
    refine seq_k fun _ hK1 => ?_
    refine region_k g1_ok fun _ hK2 => ?_
    refine s_step rfl (by decide) rfl fun _ hS => ?_
    repeat refine And.intro (by first | omega | exact trivial | rfl | (simp [hl] <;> omega)) ?_
    refine hS _ _ _ ?_
    clear hS
    refine s_nil ?_
    refine hK2 _ _ _ ?_
    refine hK1 _ _ _ ?_
    refine seq_k fun _ hK3 => ?_
    refine region_k g1_ok fun _ hK4 => ?_
    refine s_step rfl (by decide) rfl fun _ hS => ?_
    repeat refine And.intro (by first | omega | exact trivial | rfl | (simp [hl] <;> omega)) ?_
    refine hS _ _ _ ?_
    clear hS
    refine s_step rfl (by decide) rfl fun _ hS => ?_
    repeat refine And.intro (by first | omega | exact trivial | rfl | (simp [hl] <;> omega)) ?_
    refine hS _ _ _ ?_
    clear hS
    refine s_step0 rfl rfl fun _ hS => ?_
    repeat refine And.intro (by first | omega | exact trivial | rfl | (simp <;> omega)) ?_
    first | refine hS _ _ _ ?_ | (refine splice_full (by first | omega | exact trivial | rfl | (simp [hl] <;> omega)) ?_; refine hS _ _ _ ?_)
    clear hS
    refine s_nil ?_
    refine hK4 _ _ _ ?_
    refine hK3 _ _ _ ?_
    refine seq_k fun _ hK5 => ?_
    refine seq_k fun _ hK6 => ?_
    refine region_k g1_ok fun _ hK7 => ?_
    refine s_step rfl (by decide) rfl fun _ hS => ?_
    refine hS _ _ _ ?_
    clear hS
    refine s_nil ?_
    refine hK7 _ _ _ ?_
    refine hK6 _ _ _ ?_
    refine WP_block ?_
    refine WP_loop (α := Nat) (fun k => [(0, .c (.ds 64 (.u8s l))), (2, .c (.ptr 0 0)), (3, .c (.ptr 1 0)), (4, .c (.int .i64 k))]) (fun k => [(0, .own 60 (.u32s (List.replicate 64 0)) 64), (1, .own 60 (.u32s (Sha.schedArr l k)) 64)]) 2 (fun k => k ≤ 64) (fun k => 64 - k) ?_ ?_
    · refine Done_some [] id 0 (Nat.zero_le _) ⟨?_, ?_, (by decide : List.Nodup ([0, 1] : List Nat)), ?_, ?_, ⟨Nat.zero_le _, fun i hi => absurd hi (Nat.not_lt_zero i)⟩⟩
      · repeat' (first | exact trivial | refine And.intro ?_ ?_ | rfl | omega | decide | exact Nat.lt_of_sub_pos (by decide))
      · repeat' (first | exact trivial | refine And.intro ?_ ?_ | rfl | omega | decide | exact Nat.lt_of_sub_pos (by decide))
      · repeat' (first | exact trivial | refine And.intro ?_ ?_ | rfl | omega | decide | exact Nat.lt_of_sub_pos (by decide))
      · repeat' (first | exact trivial | refine And.intro ?_ ?_ | rfl | omega | decide | exact Nat.lt_of_sub_pos (by decide))
    · intro k hk
      have hlen : (Sha.schedArr l k).length = 64 := Sha.schedArr_length l k hk
      refine seq_k fun _ hK8 => ?_
      refine seq_k fun _ hK9 => ?_
      refine region_k g1_ok fun _ hK10 => ?_
      refine s_step rfl (by decide) rfl fun _ hS => ?_
      refine hS _ _ _ ?_
      clear hS
      refine s_step rfl (by decide) rfl fun _ hS => ?_
      repeat refine And.intro (by first | omega | exact trivial | rfl | (simp [hl, hlen] <;> omega)) ?_
      refine hS _ _ _ ?_
      clear hS
      refine s_nil ?_
      refine hK10 _ _ _ ?_
      refine hK9 _ _ _ ?_
      refine WP_cond (b := _) rfl (fun h_t9 => ?_) (fun h_t9 => ?_)
      · try simp only [decide_eq_true_eq] at h_t9
        refine WP_skip ?_
        refine hK8 _ _ _ ?_
        refine seq_k fun _ hK11 => ?_
        refine WP_block ?_
        refine seq_k fun _ hK12 => ?_
        refine region_k g1_ok fun _ hK13 => ?_
        refine s_step rfl (by decide) rfl fun _ hS => ?_
        refine hS _ _ _ ?_
        clear hS
        refine s_step rfl (by decide) rfl fun _ hS => ?_
        repeat refine And.intro (by first | omega | exact trivial | rfl | (simp [hl] <;> omega)) ?_
        refine hS _ _ _ ?_
        clear hS
        refine s_nil ?_
        refine hK13 _ _ _ ?_
        refine hK12 _ _ _ ?_
        refine WP_cond (b := _) rfl (fun h_t13 => ?_) (fun h_t13 => ?_)
        · try simp only [decide_eq_true_eq] at h_t13
          have hk16 : k < 16 := by omega
          refine tail_k g1_ok 35 (by kernel_rfl) fun _ hK14 => ?_
          simp only [List.take_succ_cons, List.take_zero, List.drop_succ_cons, List.drop_zero]
          refine q_step rfl (by decide) rfl fun _ hS => ?_
          refine hS _ ?_
          clear hS
          refine q_step rfl (by decide) rfl fun _ hS => ?_
          refine hS _ ?_
          clear hS
          refine q_step rfl (by decide) rfl fun _ hS => ?_
          refine hS _ ?_
          clear hS
          refine q_step rfl (by decide) rfl fun _ hS => ?_
          repeat refine And.intro (by first | omega | exact trivial | rfl | (simp <;> omega)) ?_
          refine hS _ ?_
          clear hS
          refine q_step rfl (by decide) rfl fun _ hS => ?_
          repeat refine And.intro (by first | omega | exact trivial | rfl | (simp [hl] <;> omega)) ?_
          refine hS _ ?_
          clear hS
          refine q_step rfl (by decide) rfl fun _ hS => ?_
          repeat refine And.intro (by first | omega | exact trivial | rfl | (simp [hl] <;> omega)) ?_
          first | refine hS _ ?_ | (refine ite_yes (by first | omega | exact trivial | rfl | (simp [hl, hlen] <;> omega)) ?_; refine hS _ ?_)
          clear hS
          refine q_step rfl (by decide) rfl fun _ hS => ?_
          repeat first | refine And.intro (by first | omega | exact trivial | rfl | (simp [hl, hlen] <;> omega)) ?_ | refine whole_yes (by first | omega | exact trivial | rfl | (simp [hl, hlen] <;> omega)) ?_ | refine whole_sub ?_
          refine hS _ ?_
          clear hS
          refine q_step rfl (by decide) rfl fun _ hS => ?_
          repeat refine And.intro (by first | omega | exact trivial | rfl | (simp [hl, hlen] <;> omega)) ?_
          refine hS _ ?_
          clear hS
          refine q_step rfl (by decide) rfl fun _ hS => ?_
          refine hS _ ?_
          clear hS
          refine q_step rfl (by decide) rfl fun _ hS => ?_
          refine hS _ ?_
          clear hS
          refine q_step rfl (by decide) rfl fun _ hS => ?_
          repeat refine And.intro (by first | omega | exact trivial | rfl | (simp <;> omega)) ?_
          refine hS _ ?_
          clear hS
          refine q_step rfl (by decide) rfl fun _ hS => ?_
          repeat refine And.intro (by first | omega | exact trivial | rfl | (simp <;> omega)) ?_
          refine hS _ ?_
          clear hS
          refine q_step rfl (by decide) rfl fun _ hS => ?_
          repeat refine And.intro (by first | omega | exact trivial | rfl | (simp [hl] <;> omega)) ?_
          refine hS _ ?_
          clear hS
          refine q_step rfl (by decide) rfl fun _ hS => ?_
          repeat refine And.intro (by first | omega | exact trivial | rfl | (simp [hl] <;> omega)) ?_
          first | refine hS _ ?_ | (refine ite_yes (by first | omega | exact trivial | rfl | (simp [hl, hlen] <;> omega)) ?_; refine hS _ ?_)
          clear hS
          refine q_step rfl (by decide) rfl fun _ hS => ?_
          repeat first | refine And.intro (by first | omega | exact trivial | rfl | (simp [hl, hlen] <;> omega)) ?_ | refine whole_yes (by first | omega | exact trivial | rfl | (simp [hl, hlen] <;> omega)) ?_ | refine whole_sub ?_
          refine hS _ ?_
          clear hS
          refine q_step rfl (by decide) rfl fun _ hS => ?_
          repeat refine And.intro (by first | omega | exact trivial | rfl | (simp [hl, hlen] <;> omega)) ?_
          refine hS _ ?_
          clear hS
          refine q_step rfl (by decide) rfl fun _ hS => ?_
          repeat refine And.intro (by first | omega | exact trivial | rfl | (simp [hl, hlen] <;> omega)) ?_
          refine hS _ ?_
          clear hS
          refine q_step rfl (by decide) rfl fun _ hS => ?_
          refine hS _ ?_
          clear hS
          refine q_step rfl (by decide) rfl fun _ hS => ?_
          refine hS _ ?_
          clear hS
          refine q_step rfl (by decide) rfl fun _ hS => ?_
          repeat refine And.intro (by first | omega | exact trivial | rfl | (simp <;> omega)) ?_
          refine hS _ ?_
          clear hS
          refine q_step rfl (by decide) rfl fun _ hS => ?_
          repeat refine And.intro (by first | omega | exact trivial | rfl | (simp <;> omega)) ?_
          refine hS _ ?_
          clear hS
          refine q_step rfl (by decide) rfl fun _ hS => ?_
          repeat refine And.intro (by first | omega | exact trivial | rfl | (simp [hl] <;> omega)) ?_
          refine hS _ ?_
          clear hS
          refine q_step rfl (by decide) rfl fun _ hS => ?_
          repeat refine And.intro (by first | omega | exact trivial | rfl | (simp [hl] <;> omega)) ?_
          first | refine hS _ ?_ | (refine ite_yes (by first | omega | exact trivial | rfl | (simp [hl, hlen] <;> omega)) ?_; refine hS _ ?_)
          clear hS
          refine q_step rfl (by decide) rfl fun _ hS => ?_
          repeat first | refine And.intro (by first | omega | exact trivial | rfl | (simp [hl, hlen] <;> omega)) ?_ | refine whole_yes (by first | omega | exact trivial | rfl | (simp [hl, hlen] <;> omega)) ?_ | refine whole_sub ?_
          refine hS _ ?_
          clear hS
          refine q_step rfl (by decide) rfl fun _ hS => ?_
          repeat refine And.intro (by first | omega | exact trivial | rfl | (simp [hl, hlen] <;> omega)) ?_
          refine hS _ ?_
          clear hS
          refine q_step rfl (by decide) rfl fun _ hS => ?_
          repeat refine And.intro (by first | omega | exact trivial | rfl | (simp [hl, hlen] <;> omega)) ?_
          refine hS _ ?_
          clear hS
          refine q_step rfl (by decide) rfl fun _ hS => ?_
          refine hS _ ?_
          clear hS
          refine q_step rfl (by decide) rfl fun _ hS => ?_
          refine hS _ ?_
          clear hS
          refine q_step rfl (by decide) rfl fun _ hS => ?_
          repeat refine And.intro (by first | omega | exact trivial | rfl | (simp <;> omega)) ?_
          refine hS _ ?_
          clear hS
          refine q_step rfl (by decide) rfl fun _ hS => ?_
          repeat refine And.intro (by first | omega | exact trivial | rfl | (simp <;> omega)) ?_
          refine hS _ ?_
          clear hS
          refine q_step rfl (by decide) rfl fun _ hS => ?_
          repeat refine And.intro (by first | omega | exact trivial | rfl | (simp [hl] <;> omega)) ?_
          refine hS _ ?_
          clear hS
          refine q_step rfl (by decide) rfl fun _ hS => ?_
          repeat refine And.intro (by first | omega | exact trivial | rfl | (simp [hl] <;> omega)) ?_
          first | refine hS _ ?_ | (refine ite_yes (by first | omega | exact trivial | rfl | (simp [hl, hlen] <;> omega)) ?_; refine hS _ ?_)
          clear hS
          refine q_step rfl (by decide) rfl fun _ hS => ?_
          repeat first | refine And.intro (by first | omega | exact trivial | rfl | (simp [hl, hlen] <;> omega)) ?_ | refine whole_yes (by first | omega | exact trivial | rfl | (simp [hl, hlen] <;> omega)) ?_ | refine whole_sub ?_
          refine hS _ ?_
          clear hS
          refine q_step rfl (by decide) rfl fun _ hS => ?_
          repeat refine And.intro (by first | omega | exact trivial | rfl | (simp [hl, hlen] <;> omega)) ?_
          refine hS _ ?_
          clear hS
          refine q_step rfl (by decide) rfl fun _ hS => ?_
          repeat refine And.intro (by first | omega | exact trivial | rfl | (simp [hlen] <;> omega)) ?_
          refine hS _ ?_
          clear hS
          refine q_nil ?_
          refine s_step0 rfl rfl fun _ hS => ?_
          repeat refine And.intro (by first | omega | exact trivial | rfl | (simp [hlen] <;> omega)) ?_
          first | refine hS _ _ _ ?_ | (refine splice_full (by first | omega | exact trivial | rfl | (simp [hl, hlen] <;> omega)) ?_; refine hS _ _ _ ?_)
          clear hS
          refine s_nil ?_
          refine hK14 _ _ _ ?_
          have e1 := sched_lo l k hk16
          refine done_block ?_
          refine hK11 _ _ _ ?_
          refine region_k g1_ok fun _ hK15 => ?_
          refine s_step rfl (by decide) rfl fun _ hS => ?_
          refine hS _ _ _ ?_
          clear hS
          refine s_step rfl (by decide) rfl fun _ hS => ?_
          repeat refine And.intro (by first | omega | exact trivial | rfl | (simp <;> omega)) ?_
          refine hS _ _ _ ?_
          clear hS
          refine s_step rfl (by decide) rfl fun _ hS => ?_
          refine hS _ _ _ ?_
          clear hS
          refine s_nil ?_
          refine hK15 _ _ _ ?_
          refine Done_some [] id (k + 1) ⟨by omega, by omega⟩ ⟨?_, ?_, (by decide : List.Nodup ([0, 1] : List Nat)), ?_, ?_, ⟨Nat.zero_le _, fun i hi => absurd hi (Nat.not_lt_zero i)⟩⟩
          · repeat' (first | exact trivial | refine And.intro ?_ ?_ | rfl | omega | decide | exact Nat.lt_of_sub_pos (by decide))
          · repeat' (first | exact trivial | refine And.intro ?_ ?_ | rfl | omega | decide | exact Nat.lt_of_sub_pos (by decide))
            show (_ : List UInt32) = _
            simp only [Nat.zero_add, Nat.mul_one]
            exact e1
          · repeat' (first | exact trivial | refine And.intro ?_ ?_ | rfl | omega | decide | exact Nat.lt_of_sub_pos (by decide))
          · repeat' (first | exact trivial | refine And.intro ?_ ?_ | rfl | omega | decide | exact Nat.lt_of_sub_pos (by decide))
        · try simp only [decide_eq_false_iff_not, Int.not_lt] at h_t13
          refine seq_k fun _ hK16 => ?_
          have hk16 : 16 ≤ k := by omega
          refine quiet_k g1_ok (by kernel_rfl) fun _ hK17 => ?_
          refine q_step rfl (by decide) rfl fun _ hS => ?_
          refine hS _ ?_
          clear hS
          refine q_step rfl (by decide) rfl fun _ hS => ?_
          repeat refine And.intro (by first | omega | exact trivial | rfl | (simp <;> omega)) ?_
          refine hS _ ?_
          clear hS
          refine q_step rfl (by decide) rfl fun _ hS => ?_
          repeat refine And.intro (by first | omega | exact trivial | rfl | (simp [hlen] <;> omega)) ?_
          refine hS _ ?_
          clear hS
          refine q_step rfl (by decide) rfl fun _ hS => ?_
          repeat refine And.intro (by first | omega | exact trivial | rfl | (simp [hlen] <;> omega)) ?_
          first | refine hS _ ?_ | (refine ite_yes (by first | omega | exact trivial | rfl | (simp [hl, hlen] <;> omega)) ?_; refine hS _ ?_)
          clear hS
          refine q_step rfl (by decide) rfl fun _ hS => ?_
          refine hS _ ?_
          clear hS
          refine q_step rfl (by decide) rfl fun _ hS => ?_
          repeat refine And.intro (by first | omega | exact trivial | rfl | (simp <;> omega)) ?_
          refine hS _ ?_
          clear hS
          refine q_step rfl (by decide) rfl fun _ hS => ?_
          repeat refine And.intro (by first | omega | exact trivial | rfl | (simp [hlen] <;> omega)) ?_
          refine hS _ ?_
          clear hS
          refine q_step rfl (by decide) rfl fun _ hS => ?_
          repeat refine And.intro (by first | omega | exact trivial | rfl | (simp [hlen] <;> omega)) ?_
          first | refine hS _ ?_ | (refine ite_yes (by first | omega | exact trivial | rfl | (simp [hl, hlen] <;> omega)) ?_; refine hS _ ?_)
          clear hS
          refine q_step rfl (by decide) rfl fun _ hS => ?_
          refine hS _ ?_
          clear hS
          refine q_step rfl (by decide) rfl fun _ hS => ?_
          refine hS _ ?_
          clear hS
          refine q_nil ?_
          refine hK17 _ ?_
          refine hK16 _ _ _ ?_
          refine tail_k g1_ok 29 (by kernel_rfl) fun _ hK18 => ?_
          simp only [List.take_succ_cons, List.take_zero, List.drop_succ_cons, List.drop_zero]
          refine q_step rfl (by decide) rfl fun _ hS => ?_
          refine hS _ ?_
          clear hS
          refine q_step rfl (by decide) rfl fun _ hS => ?_
          refine hS _ ?_
          clear hS
          refine q_step rfl (by decide) rfl fun _ hS => ?_
          repeat refine And.intro (by first | omega | exact trivial | rfl | (simp <;> omega)) ?_
          refine hS _ ?_
          clear hS
          refine q_step rfl (by decide) rfl fun _ hS => ?_
          repeat refine And.intro (by first | omega | exact trivial | rfl | (simp [hlen] <;> omega)) ?_
          refine hS _ ?_
          clear hS
          refine q_step rfl (by decide) rfl fun _ hS => ?_
          repeat refine And.intro (by first | omega | exact trivial | rfl | (simp [hlen] <;> omega)) ?_
          first | refine hS _ ?_ | (refine ite_yes (by first | omega | exact trivial | rfl | (simp [hl, hlen] <;> omega)) ?_; refine hS _ ?_)
          clear hS
          refine q_step rfl (by decide) rfl fun _ hS => ?_
          refine hS _ ?_
          clear hS
          refine q_step rfl (by decide) rfl fun _ hS => ?_
          repeat first | refine And.intro (by first | omega | exact trivial | rfl | (simp [hl, hlen] <;> omega)) ?_ | refine whole_yes (by first | omega | exact trivial | rfl | (simp [hl, hlen] <;> omega)) ?_ | refine whole_sub ?_
          first | refine hS _ ?_ | (intro cap6 hcap6; refine hS _ ?_)
          clear hS
          refine q_step rfl (by decide) rfl fun _ hS => ?_
          refine hS _ ?_
          clear hS
          refine q_step rfl (by decide) rfl fun _ hS => ?_
          repeat first | refine And.intro (by first | omega | exact trivial | rfl | (simp [hl, hlen] <;> omega)) ?_ | refine whole_yes (by first | omega | exact trivial | rfl | (simp [hl, hlen] <;> omega)) ?_ | refine whole_sub ?_
          first | refine hS _ ?_ | (intro cap8 hcap8; refine hS _ ?_)
          clear hS
          refine q_step rfl (by decide) rfl fun _ hS => ?_
          repeat refine And.intro (by first | omega | exact trivial | rfl | (simp [hl, hlen] <;> omega)) ?_
          refine hS _ ?_
          clear hS
          refine q_step rfl (by decide) rfl fun _ hS => ?_
          refine hS _ ?_
          clear hS
          refine q_step rfl (by decide) rfl fun _ hS => ?_
          repeat refine And.intro (by first | omega | exact trivial | rfl | (simp [hl, hlen] <;> omega)) ?_
          refine hS _ ?_
          clear hS
          refine q_step rfl (by decide) rfl fun _ hS => ?_
          repeat refine And.intro (by first | omega | exact trivial | rfl | (simp [hl, hlen] <;> omega)) ?_
          refine hS _ ?_
          clear hS
          refine q_step rfl (by decide) rfl fun _ hS => ?_
          repeat refine And.intro (by first | omega | exact trivial | rfl | (simp [hl, hlen] <;> omega)) ?_
          refine hS _ ?_
          clear hS
          refine q_step rfl (by decide) rfl fun _ hS => ?_
          refine hS _ ?_
          clear hS
          refine q_step rfl (by decide) rfl fun _ hS => ?_
          repeat refine And.intro (by first | omega | exact trivial | rfl | (simp <;> omega)) ?_
          refine hS _ ?_
          clear hS
          refine q_step rfl (by decide) rfl fun _ hS => ?_
          repeat refine And.intro (by first | omega | exact trivial | rfl | (simp [hlen] <;> omega)) ?_
          refine hS _ ?_
          clear hS
          refine q_step rfl (by decide) rfl fun _ hS => ?_
          repeat refine And.intro (by first | omega | exact trivial | rfl | (simp [hlen] <;> omega)) ?_
          first | refine hS _ ?_ | (refine ite_yes (by first | omega | exact trivial | rfl | (simp [hl, hlen] <;> omega)) ?_; refine hS _ ?_)
          clear hS
          refine q_step rfl (by decide) rfl fun _ hS => ?_
          repeat refine And.intro (by first | omega | exact trivial | rfl | (simp [hl, hlen] <;> omega)) ?_
          refine hS _ ?_
          clear hS
          refine q_step rfl (by decide) rfl fun _ hS => ?_
          refine hS _ ?_
          clear hS
          refine q_step rfl (by decide) rfl fun _ hS => ?_
          repeat first | refine And.intro (by first | omega | exact trivial | rfl | (simp [hl, hlen] <;> omega)) ?_ | refine whole_yes (by first | omega | exact trivial | rfl | (simp [hl, hlen] <;> omega)) ?_ | refine whole_sub ?_
          first | refine hS _ ?_ | (intro cap20 hcap20; refine hS _ ?_)
          clear hS
          refine q_step rfl (by decide) rfl fun _ hS => ?_
          refine hS _ ?_
          clear hS
          refine q_step rfl (by decide) rfl fun _ hS => ?_
          repeat first | refine And.intro (by first | omega | exact trivial | rfl | (simp [hl, hlen] <;> omega)) ?_ | refine whole_yes (by first | omega | exact trivial | rfl | (simp [hl, hlen] <;> omega)) ?_ | refine whole_sub ?_
          first | refine hS _ ?_ | (intro cap22 hcap22; refine hS _ ?_)
          clear hS
          refine q_step rfl (by decide) rfl fun _ hS => ?_
          repeat refine And.intro (by first | omega | exact trivial | rfl | (simp [hl, hlen] <;> omega)) ?_
          refine hS _ ?_
          clear hS
          refine q_step rfl (by decide) rfl fun _ hS => ?_
          refine hS _ ?_
          clear hS
          refine q_step rfl (by decide) rfl fun _ hS => ?_
          repeat refine And.intro (by first | omega | exact trivial | rfl | (simp [hl, hlen] <;> omega)) ?_
          refine hS _ ?_
          clear hS
          refine q_step rfl (by decide) rfl fun _ hS => ?_
          repeat refine And.intro (by first | omega | exact trivial | rfl | (simp [hl, hlen] <;> omega)) ?_
          refine hS _ ?_
          clear hS
          refine q_step rfl (by decide) rfl fun _ hS => ?_
          repeat refine And.intro (by first | omega | exact trivial | rfl | (simp [hl, hlen] <;> omega)) ?_
          refine hS _ ?_
          clear hS
          refine q_step rfl (by decide) rfl fun _ hS => ?_
          repeat refine And.intro (by first | omega | exact trivial | rfl | (simp [hlen] <;> omega)) ?_
          refine hS _ ?_
          clear hS
          refine q_nil ?_
          refine s_step0 rfl rfl fun _ hS => ?_
          repeat refine And.intro (by first | omega | exact trivial | rfl | (simp [hlen] <;> omega)) ?_
          first | refine hS _ _ _ ?_ | (refine splice_full (by first | omega | exact trivial | rfl | (simp [hl, hlen] <;> omega)) ?_; refine hS _ _ _ ?_)
          clear hS
          refine s_nil ?_
          refine hK18 _ _ _ ?_
          have e1 := sched_hi l k hk16 (by omega)
          rw [show k - 15 = ((k : Int) - 15).toNat by omega, show k - 2 = ((k : Int) - 2).toNat by omega, show k - 7 = ((k : Int) - 7).toNat by omega, show k - 16 = ((k : Int) - 16).toNat by omega] at e1
          refine done_block ?_
          refine hK11 _ _ _ ?_
          refine region_k g1_ok fun _ hK19 => ?_
          refine s_step rfl (by decide) rfl fun _ hS => ?_
          refine hS _ _ _ ?_
          clear hS
          refine s_step rfl (by decide) rfl fun _ hS => ?_
          repeat refine And.intro (by first | omega | exact trivial | rfl | (simp <;> omega)) ?_
          refine hS _ _ _ ?_
          clear hS
          refine s_step rfl (by decide) rfl fun _ hS => ?_
          refine hS _ _ _ ?_
          clear hS
          refine s_nil ?_
          refine hK19 _ _ _ ?_
          refine Done_some [] id (k + 1) ⟨by omega, by omega⟩ ⟨?_, ?_, (by decide : List.Nodup ([0, 1] : List Nat)), ?_, ?_, ⟨Nat.zero_le _, fun i hi => absurd hi (Nat.not_lt_zero i)⟩⟩
          · repeat' (first | exact trivial | refine And.intro ?_ ?_ | rfl | omega | decide | exact Nat.lt_of_sub_pos (by decide))
          · repeat' (first | exact trivial | refine And.intro ?_ ?_ | rfl | omega | decide | exact Nat.lt_of_sub_pos (by decide))
            show (_ : List UInt32) = _
            simp only [Nat.zero_add, Nat.mul_one]
            exact e1
          · repeat' (first | exact trivial | refine And.intro ?_ ?_ | rfl | omega | decide | exact Nat.lt_of_sub_pos (by decide))
          · repeat' (first | exact trivial | refine And.intro ?_ ?_ | rfl | omega | decide | exact Nat.lt_of_sub_pos (by decide))
      · try simp only [decide_eq_false_iff_not, Int.not_lt] at h_t9
        refine WP_exit ?_
        refine done_thenx ?_
        refine done_thenx ?_
        refine Done_hit ?_
        refine hK5 _ _ _ ?_
        refine seq_k fun _ hK20 => ?_
        refine region_k g1_ok fun _ hK21 => ?_
        refine s_step rfl (by decide) rfl fun _ hS => ?_
        repeat refine And.intro (by first | omega | exact trivial | rfl | (simp [hlen] <;> omega) | exact hlen.symm) ?_
        first | refine hS _ _ _ ?_ | (refine ite_yes (by first | omega | exact trivial | rfl | (simp [hlen] <;> omega) | exact hlen.symm) ?_; refine hS _ _ _ ?_)
        clear hS
        refine s_step0 rfl rfl fun _ hS => ?_
        repeat refine And.intro (by first | omega | exact trivial | rfl | (simp [hlen] <;> omega) | exact hlen.symm) ?_
        first | refine hS _ _ _ ?_ | (refine splice_full (by first | omega | exact trivial | rfl | (simp [hlen] <;> omega) | exact hlen.symm) ?_; refine hS _ _ _ ?_)
        clear hS
        refine s_nil ?_
        refine hK21 _ _ _ ?_
        refine hK20 _ _ _ ?_
        refine WP_ret (Done_flat g1_ok (fun _ _ h => h) (by first | rfl | assumption) [.cell 2 60] rfl ?_)
        repeat refine And.intro (by first | omega | exact trivial | rfl | (simp [hlen] <;> omega)) ?_
        try refine ite_yes (by first | omega | exact trivial | rfl | (simp [hlen] <;> omega)) ?_
        obtain rfl : k = 64 := by omega
        show SV.agg (.u32s (Sha.schedArr l 64)) = _
        rw [Sha.schedArr_full]
  · exact h.elim

end Go.Proofs.YtdanaehfdbdhdaaDoor
