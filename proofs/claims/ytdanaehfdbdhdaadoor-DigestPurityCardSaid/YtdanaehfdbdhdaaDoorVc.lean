/- The constants, and the compression of the reference. -/
import Derived.Test.YtdanaehfdbdhdaaDoorVb
namespace Go.Proofs.YtdanaehfdbdhdaaDoor
set_option linter.unusedVariables false
open Go.Ab Go.RowKit

def constantsS : QSpec := fun vs K => match vs with
  | [] => K (.agg (.u32s Sha.consts))
  | _ => False
theorem constants_ok : FlatOK Tryd.prog gl 34 constantsS := by
  refine flat_of (Γ := g0) (N := 2) Tryd.func34 rfl rfl fun vs K h => ?_
  unfold constantsS at h
  split at h
  · refine ⟨_, h, rfl, by simp, fun w I => ?_⟩
    refine seq_k fun _ hK1 => ?_
    refine region_k g0_ok fun _ hK2 => ?_
    refine s_step rfl (by decide) rfl fun _ hS => ?_
    repeat refine And.intro (by first | omega | exact trivial | rfl | (simp <;> omega)) ?_
    refine hS _ _ _ ?_
    clear hS
    refine s_nil ?_
    refine hK2 _ _ _ ?_
    refine hK1 _ _ _ ?_
    refine seq_k fun _ hK3 => ?_
    refine region_k g0_ok fun _ hK4 => ?_
    refine s_step rfl (by decide) rfl fun _ hS => ?_
    repeat refine And.intro (by first | omega | exact trivial | rfl | (simp <;> omega)) ?_
    refine hS _ _ _ ?_
    clear hS
    refine s_step0 rfl rfl fun _ hS => ?_
    repeat refine And.intro (by first | omega | exact trivial | rfl | (simp <;> omega)) ?_
    first | refine hS _ _ _ ?_ | (refine splice_full (by first | omega | exact trivial | rfl | (simp <;> omega)) ?_; refine hS _ _ _ ?_)
    clear hS
    refine s_nil ?_
    refine hK4 _ _ _ ?_
    refine hK3 _ _ _ ?_
    refine WP_ret (Done_flat g0_ok (fun _ _ h => h) (by first | rfl | assumption) [.cell 0 60] rfl ?_)
    repeat refine And.intro (by first | omega | exact trivial | rfl | (simp <;> omega)) ?_
    try refine ite_yes (by first | omega | exact trivial | rfl | (simp <;> omega)) ?_
    show _ = _
    rfl
  · exact h.elim
theorem consts_length : Sha.consts.length = 64 := rfl

noncomputable def g2 : Ctx := { P := Tryd.prog, ty := ty, glob := gl, fs := [(35, .flat rotateS), (33, .flat scheduleS), (34, .flat constantsS)] }
theorem g2_ok : g2.OK := ⟨tyOK, ⟨⟨enters_mk Tryd.func35 (by kernel_rfl) rfl, rotate_ok⟩, ⟨enters_mk Tryd.func33 (by kernel_rfl) rfl, schedule_ok⟩, ⟨enters_mk Tryd.func34 (by kernel_rfl) rfl, constants_ok⟩, trivial⟩, mixed⟩
@[simp] theorem g2_ty : g2.ty = ty := rfl


attribute [local irreducible] Sha.sched Sha.consts Sha.rounds Sha.addTo Sha.schedArr Sha.compress Sha.rotr
def compressRS : QSpec := fun vs K => match vs with
  | [.agg (.u32s s), .c (.ds n (.u8s l))] => (n = 64 ∧ l.length = 64 ∧ s.length = 8) ∧ K (.agg (.u32s (Sha.compress s l)))
  | _ => False
set_option maxHeartbeats 2000000 in
theorem compressR_ok : FlatOK Tryd.prog gl 30 compressRS := by
  refine flat_of (Γ := g2) (N := 114) Tryd.func30 rfl rfl fun vs K h => ?_
  unfold compressRS at h
  split at h
  · rename_i s n l
    obtain ⟨⟨hn, hl, hs⟩, h⟩ := h
    subst hn
    refine ⟨_, h, rfl, by simp, fun w I => ?_⟩
    rw [Sha.compress]
    have hws : (Sha.sched l 64).length = 64 := Sha.sched_length l 64
    have hcs := consts_length
    refine seq_k fun _ hK1 => ?_
    refine region_k g2_ok fun _ hK2 => ?_
    refine s_step rfl (by decide) rfl fun _ hS => ?_
    repeat refine And.intro (by first | omega | exact trivial | rfl | (simp [hl, hs, hws, hcs] <;> omega) | exact hs.symm | exact hws.symm | exact hcs.symm) ?_
    refine hS _ _ _ ?_
    clear hS
    refine s_step rfl (by decide) rfl fun _ hS => ?_
    repeat refine And.intro (by first | omega | exact trivial | rfl | (simp [hl, hs, hws, hcs] <;> omega) | exact hs.symm | exact hws.symm | exact hcs.symm) ?_
    refine hS _ _ _ ?_
    clear hS
    refine s_nil ?_
    refine hK2 _ _ _ ?_
    refine hK1 _ _ _ ?_
    refine seq_k fun _ hK3 => ?_
    refine region_k g2_ok fun _ hK4 => ?_
    refine s_step rfl (by decide) rfl fun _ hS => ?_
    refine hS _ _ _ ?_
    clear hS
    refine s_step rfl (by decide) rfl fun _ hS => ?_
    repeat first | refine And.intro (by first | omega | exact trivial | rfl | (simp [hl, hs, hws, hcs] <;> omega) | exact hs.symm | exact hws.symm | exact hcs.symm) ?_ | refine whole_yes (by first | omega | exact trivial | rfl | (simp [hl, hs, hws, hcs] <;> omega) | exact hs.symm | exact hws.symm | exact hcs.symm) ?_ | refine whole_sub ?_
    first | refine hS _ _ _ ?_ | (intro cap1 hcap1; refine hS _ _ _ ?_)
    clear hS
    refine s_step rfl (by decide) rfl fun _ hS => ?_
    repeat first | refine And.intro (by first | omega | exact trivial | rfl | (simp [hl, hs, hws, hcs] <;> omega) | exact hs.symm | exact hws.symm | exact hcs.symm) ?_ | refine whole_yes (by first | omega | exact trivial | rfl | (simp [hl, hs, hws, hcs] <;> omega) | exact hs.symm | exact hws.symm | exact hcs.symm) ?_ | refine whole_sub ?_
    first | refine hS _ _ _ ?_ | (intro cap2 hcap2; refine hS _ _ _ ?_)
    clear hS
    refine s_step rfl (by decide) rfl fun _ hS => ?_
    repeat refine And.intro (by first | omega | exact trivial | rfl | (simp [hl, hs, hws, hcs] <;> omega) | exact hs.symm | exact hws.symm | exact hcs.symm) ?_
    refine hS _ _ _ ?_
    clear hS
    refine s_step rfl (by decide) rfl fun _ hS => ?_
    repeat refine And.intro (by first | omega | exact trivial | rfl | (simp [hl, hs, hws, hcs] <;> omega) | exact hs.symm | exact hws.symm | exact hcs.symm) ?_
    refine hS _ _ _ ?_
    clear hS
    refine s_step0 rfl rfl fun _ hS => ?_
    repeat refine And.intro (by first | omega | exact trivial | rfl | (simp [hws] <;> omega) | exact hs.symm | exact hws.symm | exact hcs.symm) ?_
    first | refine hS _ _ _ ?_ | (refine splice_full (by first | omega | exact trivial | rfl | (simp [hws] <;> omega) | exact hs.symm | exact hws.symm | exact hcs.symm) ?_; refine hS _ _ _ ?_)
    clear hS
    refine s_step0 rfl rfl fun _ hS => ?_
    repeat refine And.intro (by first | omega | exact trivial | rfl | (simp [hcs] <;> omega) | exact hs.symm | exact hws.symm | exact hcs.symm) ?_
    first | refine hS _ _ _ ?_ | (refine splice_full (by first | omega | exact trivial | rfl | (simp [hcs] <;> omega) | exact hs.symm | exact hws.symm | exact hcs.symm) ?_; refine hS _ _ _ ?_)
    clear hS
    refine s_nil ?_
    refine hK4 _ _ _ ?_
    refine hK3 _ _ _ ?_
    refine seq_k fun _ hK5 => ?_
    refine region_k g2_ok fun _ hK6 => ?_
    refine s_step rfl (by decide) rfl fun _ hS => ?_
    repeat refine And.intro (by first | omega | exact trivial | rfl | (simp [hs] <;> omega) | exact hs.symm | exact hws.symm | exact hcs.symm) ?_
    first | refine hS _ _ _ ?_ | (refine ite_yes (by first | omega | exact trivial | rfl | (simp [hs] <;> omega) | exact hs.symm | exact hws.symm | exact hcs.symm) ?_; refine hS _ _ _ ?_)
    clear hS
    refine s_step rfl (by decide) rfl fun _ hS => ?_
    repeat refine And.intro (by first | omega | exact trivial | rfl | (simp [hl, hs, hws, hcs] <;> omega) | exact hs.symm | exact hws.symm | exact hcs.symm) ?_
    refine hS _ _ _ ?_
    clear hS
    refine s_step0 rfl rfl fun _ hS => ?_
    repeat refine And.intro (by first | omega | exact trivial | rfl | (simp [hs] <;> omega) | exact hs.symm | exact hws.symm | exact hcs.symm) ?_
    first | refine hS _ _ _ ?_ | (refine splice_full (by first | omega | exact trivial | rfl | (simp [hs] <;> omega) | exact hs.symm | exact hws.symm | exact hcs.symm) ?_; refine hS _ _ _ ?_)
    clear hS
    refine s_nil ?_
    refine hK6 _ _ _ ?_
    refine hK5 _ _ _ ?_
    refine seq_k fun _ hK7 => ?_
    refine seq_k fun _ hK8 => ?_
    refine region_k g2_ok fun _ hK9 => ?_
    refine s_step rfl (by decide) rfl fun _ hS => ?_
    refine hS _ _ _ ?_
    clear hS
    refine s_nil ?_
    refine hK9 _ _ _ ?_
    refine hK8 _ _ _ ?_
    refine WP_block ?_
    refine WP_loop (α := Nat) (fun k => [(2, .c (.ptr 0 0)), (4, .c (.ptr 1 0)), (5, .c (.ptr 2 0)), (6, .c (.ptr 3 0)), (7, .c (.ptr 4 0)), (8, .c (.int .i64 k))]) (fun k => [(0, .own 49 (.u32s s) 8), (1, .own 49 (.u32s (List.replicate 8 0)) 8), (2, .own 60 (.u32s (Sha.sched l 64)) 64), (3, .own 60 (.u32s Sha.consts) 64), (4, .own 49 (.u32s (Sha.rounds (Sha.sched l 64) s k)) 8)]) 5 (fun k => k ≤ 64) (fun k => 64 - k) ?_ ?_
    · refine Done_some [] id 0 (Nat.zero_le _) ⟨?_, ?_, (by decide : List.Nodup ([0, 1, 2, 3, 4] : List Nat)), ?_, ?_, ⟨Nat.zero_le _, fun i hi => absurd hi (Nat.not_lt_zero i)⟩⟩
      · repeat' (first | exact trivial | refine And.intro ?_ ?_ | rfl | omega | decide | exact Nat.lt_of_sub_pos (by decide))
      · repeat' (first | exact trivial | refine And.intro ?_ ?_ | rfl | omega | decide | exact Nat.lt_of_sub_pos (by decide))
        · exact hs
        · show (_ : List UInt32) = _
          simp only [Sha.rounds]
      · repeat' (first | exact trivial | refine And.intro ?_ ?_ | rfl | omega | decide | exact Nat.lt_of_sub_pos (by decide))
      · repeat' (first | exact trivial | refine And.intro ?_ ?_ | rfl | omega | decide | exact Nat.lt_of_sub_pos (by decide))
    · intro k hk
      have hlen : (Sha.rounds (Sha.sched l 64) s k).length = 8 := Sha.rounds_length (Sha.sched l 64) s hs k
      refine seq_k fun _ hK10 => ?_
      refine seq_k fun _ hK11 => ?_
      refine region_k g2_ok fun _ hK12 => ?_
      refine s_step rfl (by decide) rfl fun _ hS => ?_
      refine hS _ _ _ ?_
      clear hS
      refine s_step rfl (by decide) rfl fun _ hS => ?_
      repeat refine And.intro (by first | omega | exact trivial | rfl | (simp [hl, hs, hws, hcs] <;> omega) | exact hs.symm | exact hws.symm | exact hcs.symm) ?_
      refine hS _ _ _ ?_
      clear hS
      refine s_nil ?_
      refine hK12 _ _ _ ?_
      refine hK11 _ _ _ ?_
      refine WP_cond (b := _) rfl (fun h_t19 => ?_) (fun h_t19 => ?_)
      · try simp only [decide_eq_true_eq] at h_t19
        refine WP_skip ?_
        refine hK10 _ _ _ ?_
        refine seq_k fun _ hK13 => ?_
        refine WP_block ?_
        refine seq_k fun _ hK14 => ?_
        refine quiet_k g2_ok (by kernel_rfl) fun _ hK15 => ?_
        refine q_step rfl (by decide) rfl fun _ hS => ?_
        repeat refine And.intro (by first | omega | exact trivial | rfl | (simp [hlen] <;> omega) | exact hs.symm | exact hws.symm | exact hcs.symm) ?_
        refine hS _ ?_
        clear hS
        refine q_step rfl (by decide) rfl fun _ hS => ?_
        repeat refine And.intro (by first | omega | exact trivial | rfl | (simp [hlen] <;> omega) | exact hs.symm | exact hws.symm | exact hcs.symm) ?_
        first | refine hS _ ?_ | (refine ite_yes (by first | omega | exact trivial | rfl | (simp [hl, hs, hws, hcs, hlen] <;> omega) | exact hs.symm | exact hws.symm | exact hcs.symm) ?_; refine hS _ ?_)
        clear hS
        refine q_step rfl (by decide) rfl fun _ hS => ?_
        repeat refine And.intro (by first | omega | exact trivial | rfl | (simp [hlen] <;> omega) | exact hs.symm | exact hws.symm | exact hcs.symm) ?_
        refine hS _ ?_
        clear hS
        refine q_step rfl (by decide) rfl fun _ hS => ?_
        repeat refine And.intro (by first | omega | exact trivial | rfl | (simp [hlen] <;> omega) | exact hs.symm | exact hws.symm | exact hcs.symm) ?_
        first | refine hS _ ?_ | (refine ite_yes (by first | omega | exact trivial | rfl | (simp [hl, hs, hws, hcs, hlen] <;> omega) | exact hs.symm | exact hws.symm | exact hcs.symm) ?_; refine hS _ ?_)
        clear hS
        refine q_step rfl (by decide) rfl fun _ hS => ?_
        refine hS _ ?_
        clear hS
        refine q_step rfl (by decide) rfl fun _ hS => ?_
        refine hS _ ?_
        clear hS
        refine q_nil ?_
        refine hK15 _ ?_
        refine hK14 _ _ _ ?_
        refine seq_k fun _ hK16 => ?_
        refine quiet_k g2_ok (by kernel_rfl) fun _ hK17 => ?_
        refine q_step rfl (by decide) rfl fun _ hS => ?_
        repeat refine And.intro (by first | omega | exact trivial | rfl | (simp [hlen] <;> omega) | exact hs.symm | exact hws.symm | exact hcs.symm) ?_
        refine hS _ ?_
        clear hS
        refine q_step rfl (by decide) rfl fun _ hS => ?_
        repeat refine And.intro (by first | omega | exact trivial | rfl | (simp [hlen] <;> omega) | exact hs.symm | exact hws.symm | exact hcs.symm) ?_
        first | refine hS _ ?_ | (refine ite_yes (by first | omega | exact trivial | rfl | (simp [hl, hs, hws, hcs, hlen] <;> omega) | exact hs.symm | exact hws.symm | exact hcs.symm) ?_; refine hS _ ?_)
        clear hS
        refine q_step rfl (by decide) rfl fun _ hS => ?_
        refine hS _ ?_
        clear hS
        refine q_step rfl (by decide) rfl fun _ hS => ?_
        repeat first | refine And.intro (by first | omega | exact trivial | rfl | (simp [hl, hs, hws, hcs, hlen] <;> omega) | exact hs.symm | exact hws.symm | exact hcs.symm) ?_ | refine whole_yes (by first | omega | exact trivial | rfl | (simp [hl, hs, hws, hcs, hlen] <;> omega) | exact hs.symm | exact hws.symm | exact hcs.symm) ?_ | refine whole_sub ?_
        first | refine hS _ ?_ | (intro cap3 hcap3; refine hS _ ?_)
        clear hS
        refine q_step rfl (by decide) rfl fun _ hS => ?_
        refine hS _ ?_
        clear hS
        refine q_step rfl (by decide) rfl fun _ hS => ?_
        repeat first | refine And.intro (by first | omega | exact trivial | rfl | (simp [hl, hs, hws, hcs, hlen] <;> omega) | exact hs.symm | exact hws.symm | exact hcs.symm) ?_ | refine whole_yes (by first | omega | exact trivial | rfl | (simp [hl, hs, hws, hcs, hlen] <;> omega) | exact hs.symm | exact hws.symm | exact hcs.symm) ?_ | refine whole_sub ?_
        first | refine hS _ ?_ | (intro cap5 hcap5; refine hS _ ?_)
        clear hS
        refine q_step rfl (by decide) rfl fun _ hS => ?_
        repeat refine And.intro (by first | omega | exact trivial | rfl | (simp [hl, hs, hws, hcs, hlen] <;> omega) | exact hs.symm | exact hws.symm | exact hcs.symm) ?_
        refine hS _ ?_
        clear hS
        refine q_step rfl (by decide) rfl fun _ hS => ?_
        refine hS _ ?_
        clear hS
        refine q_step rfl (by decide) rfl fun _ hS => ?_
        repeat first | refine And.intro (by first | omega | exact trivial | rfl | (simp [hl, hs, hws, hcs, hlen] <;> omega) | exact hs.symm | exact hws.symm | exact hcs.symm) ?_ | refine whole_yes (by first | omega | exact trivial | rfl | (simp [hl, hs, hws, hcs, hlen] <;> omega) | exact hs.symm | exact hws.symm | exact hcs.symm) ?_ | refine whole_sub ?_
        first | refine hS _ ?_ | (intro cap8 hcap8; refine hS _ ?_)
        clear hS
        refine q_step rfl (by decide) rfl fun _ hS => ?_
        repeat refine And.intro (by first | omega | exact trivial | rfl | (simp [hl, hs, hws, hcs, hlen] <;> omega) | exact hs.symm | exact hws.symm | exact hcs.symm) ?_
        refine hS _ ?_
        clear hS
        refine q_step rfl (by decide) rfl fun _ hS => ?_
        repeat refine And.intro (by first | omega | exact trivial | rfl | (simp [hl, hs, hws, hcs, hlen] <;> omega) | exact hs.symm | exact hws.symm | exact hcs.symm) ?_
        refine hS _ ?_
        clear hS
        refine q_step rfl (by decide) rfl fun _ hS => ?_
        refine hS _ ?_
        clear hS
        refine q_step rfl (by decide) rfl fun _ hS => ?_
        repeat refine And.intro (by first | omega | exact trivial | rfl | (simp [hlen] <;> omega) | exact hs.symm | exact hws.symm | exact hcs.symm) ?_
        refine hS _ ?_
        clear hS
        refine q_step rfl (by decide) rfl fun _ hS => ?_
        repeat refine And.intro (by first | omega | exact trivial | rfl | (simp [hlen] <;> omega) | exact hs.symm | exact hws.symm | exact hcs.symm) ?_
        first | refine hS _ ?_ | (refine ite_yes (by first | omega | exact trivial | rfl | (simp [hl, hs, hws, hcs, hlen] <;> omega) | exact hs.symm | exact hws.symm | exact hcs.symm) ?_; refine hS _ ?_)
        clear hS
        refine q_step rfl (by decide) rfl fun _ hS => ?_
        repeat refine And.intro (by first | omega | exact trivial | rfl | (simp [hl, hs, hws, hcs, hlen] <;> omega) | exact hs.symm | exact hws.symm | exact hcs.symm) ?_
        refine hS _ ?_
        clear hS
        refine q_step rfl (by decide) rfl fun _ hS => ?_
        refine hS _ ?_
        clear hS
        refine q_step rfl (by decide) rfl fun _ hS => ?_
        repeat refine And.intro (by first | omega | exact trivial | rfl | (simp [hl, hs, hws, hcs, hlen] <;> omega) | exact hs.symm | exact hws.symm | exact hcs.symm) ?_
        refine hS _ ?_
        clear hS
        refine q_step rfl (by decide) rfl fun _ hS => ?_
        repeat refine And.intro (by first | omega | exact trivial | rfl | (simp [hlen] <;> omega) | exact hs.symm | exact hws.symm | exact hcs.symm) ?_
        refine hS _ ?_
        clear hS
        refine q_step rfl (by decide) rfl fun _ hS => ?_
        repeat refine And.intro (by first | omega | exact trivial | rfl | (simp [hlen] <;> omega) | exact hs.symm | exact hws.symm | exact hcs.symm) ?_
        first | refine hS _ ?_ | (refine ite_yes (by first | omega | exact trivial | rfl | (simp [hl, hs, hws, hcs, hlen] <;> omega) | exact hs.symm | exact hws.symm | exact hcs.symm) ?_; refine hS _ ?_)
        clear hS
        refine q_step rfl (by decide) rfl fun _ hS => ?_
        repeat refine And.intro (by first | omega | exact trivial | rfl | (simp [hl, hs, hws, hcs, hlen] <;> omega) | exact hs.symm | exact hws.symm | exact hcs.symm) ?_
        refine hS _ ?_
        clear hS
        refine q_step rfl (by decide) rfl fun _ hS => ?_
        repeat refine And.intro (by first | omega | exact trivial | rfl | (simp [hl, hs, hws, hcs, hlen] <;> omega) | exact hs.symm | exact hws.symm | exact hcs.symm) ?_
        refine hS _ ?_
        clear hS
        refine q_step rfl (by decide) rfl fun _ hS => ?_
        repeat refine And.intro (by first | omega | exact trivial | rfl | (simp [hl, hs, hws, hcs, hlen] <;> omega) | exact hs.symm | exact hws.symm | exact hcs.symm) ?_
        refine hS _ ?_
        clear hS
        refine q_step rfl (by decide) rfl fun _ hS => ?_
        refine hS _ ?_
        clear hS
        refine q_step rfl (by decide) rfl fun _ hS => ?_
        repeat refine And.intro (by first | omega | exact trivial | rfl | (simp [hcs] <;> omega) | exact hs.symm | exact hws.symm | exact hcs.symm) ?_
        refine hS _ ?_
        clear hS
        refine q_step rfl (by decide) rfl fun _ hS => ?_
        repeat refine And.intro (by first | omega | exact trivial | rfl | (simp [hcs] <;> omega) | exact hs.symm | exact hws.symm | exact hcs.symm) ?_
        first | refine hS _ ?_ | (refine ite_yes (by first | omega | exact trivial | rfl | (simp [hl, hs, hws, hcs, hlen] <;> omega) | exact hs.symm | exact hws.symm | exact hcs.symm) ?_; refine hS _ ?_)
        clear hS
        refine q_step rfl (by decide) rfl fun _ hS => ?_
        repeat refine And.intro (by first | omega | exact trivial | rfl | (simp [hl, hs, hws, hcs, hlen] <;> omega) | exact hs.symm | exact hws.symm | exact hcs.symm) ?_
        refine hS _ ?_
        clear hS
        refine q_step rfl (by decide) rfl fun _ hS => ?_
        refine hS _ ?_
        clear hS
        refine q_step rfl (by decide) rfl fun _ hS => ?_
        repeat refine And.intro (by first | omega | exact trivial | rfl | (simp [hws] <;> omega) | exact hs.symm | exact hws.symm | exact hcs.symm) ?_
        refine hS _ ?_
        clear hS
        refine q_step rfl (by decide) rfl fun _ hS => ?_
        repeat refine And.intro (by first | omega | exact trivial | rfl | (simp [hws] <;> omega) | exact hs.symm | exact hws.symm | exact hcs.symm) ?_
        first | refine hS _ ?_ | (refine ite_yes (by first | omega | exact trivial | rfl | (simp [hl, hs, hws, hcs, hlen] <;> omega) | exact hs.symm | exact hws.symm | exact hcs.symm) ?_; refine hS _ ?_)
        clear hS
        refine q_step rfl (by decide) rfl fun _ hS => ?_
        repeat refine And.intro (by first | omega | exact trivial | rfl | (simp [hl, hs, hws, hcs, hlen] <;> omega) | exact hs.symm | exact hws.symm | exact hcs.symm) ?_
        refine hS _ ?_
        clear hS
        refine q_step rfl (by decide) rfl fun _ hS => ?_
        refine hS _ ?_
        clear hS
        refine q_nil ?_
        refine hK17 _ ?_
        refine hK16 _ _ _ ?_
        refine seq_k fun _ hK18 => ?_
        refine quiet_k g2_ok (by kernel_rfl) fun _ hK19 => ?_
        refine q_step rfl (by decide) rfl fun _ hS => ?_
        refine hS _ ?_
        clear hS
        refine q_step rfl (by decide) rfl fun _ hS => ?_
        repeat first | refine And.intro (by first | omega | exact trivial | rfl | (simp [hl, hs, hws, hcs, hlen] <;> omega) | exact hs.symm | exact hws.symm | exact hcs.symm) ?_ | refine whole_yes (by first | omega | exact trivial | rfl | (simp [hl, hs, hws, hcs, hlen] <;> omega) | exact hs.symm | exact hws.symm | exact hcs.symm) ?_ | refine whole_sub ?_
        first | refine hS _ ?_ | (intro cap1 hcap1; refine hS _ ?_)
        clear hS
        refine q_step rfl (by decide) rfl fun _ hS => ?_
        refine hS _ ?_
        clear hS
        refine q_step rfl (by decide) rfl fun _ hS => ?_
        repeat first | refine And.intro (by first | omega | exact trivial | rfl | (simp [hl, hs, hws, hcs, hlen] <;> omega) | exact hs.symm | exact hws.symm | exact hcs.symm) ?_ | refine whole_yes (by first | omega | exact trivial | rfl | (simp [hl, hs, hws, hcs, hlen] <;> omega) | exact hs.symm | exact hws.symm | exact hcs.symm) ?_ | refine whole_sub ?_
        first | refine hS _ ?_ | (intro cap3 hcap3; refine hS _ ?_)
        clear hS
        refine q_step rfl (by decide) rfl fun _ hS => ?_
        repeat refine And.intro (by first | omega | exact trivial | rfl | (simp [hl, hs, hws, hcs, hlen] <;> omega) | exact hs.symm | exact hws.symm | exact hcs.symm) ?_
        refine hS _ ?_
        clear hS
        refine q_step rfl (by decide) rfl fun _ hS => ?_
        refine hS _ ?_
        clear hS
        refine q_step rfl (by decide) rfl fun _ hS => ?_
        repeat first | refine And.intro (by first | omega | exact trivial | rfl | (simp [hl, hs, hws, hcs, hlen] <;> omega) | exact hs.symm | exact hws.symm | exact hcs.symm) ?_ | refine whole_yes (by first | omega | exact trivial | rfl | (simp [hl, hs, hws, hcs, hlen] <;> omega) | exact hs.symm | exact hws.symm | exact hcs.symm) ?_ | refine whole_sub ?_
        first | refine hS _ ?_ | (intro cap6 hcap6; refine hS _ ?_)
        clear hS
        refine q_step rfl (by decide) rfl fun _ hS => ?_
        repeat refine And.intro (by first | omega | exact trivial | rfl | (simp [hl, hs, hws, hcs, hlen] <;> omega) | exact hs.symm | exact hws.symm | exact hcs.symm) ?_
        refine hS _ ?_
        clear hS
        refine q_step rfl (by decide) rfl fun _ hS => ?_
        refine hS _ ?_
        clear hS
        refine q_step rfl (by decide) rfl fun _ hS => ?_
        repeat refine And.intro (by first | omega | exact trivial | rfl | (simp [hlen] <;> omega) | exact hs.symm | exact hws.symm | exact hcs.symm) ?_
        refine hS _ ?_
        clear hS
        refine q_step rfl (by decide) rfl fun _ hS => ?_
        repeat refine And.intro (by first | omega | exact trivial | rfl | (simp [hlen] <;> omega) | exact hs.symm | exact hws.symm | exact hcs.symm) ?_
        first | refine hS _ ?_ | (refine ite_yes (by first | omega | exact trivial | rfl | (simp [hl, hs, hws, hcs, hlen] <;> omega) | exact hs.symm | exact hws.symm | exact hcs.symm) ?_; refine hS _ ?_)
        clear hS
        refine q_step rfl (by decide) rfl fun _ hS => ?_
        repeat refine And.intro (by first | omega | exact trivial | rfl | (simp [hl, hs, hws, hcs, hlen] <;> omega) | exact hs.symm | exact hws.symm | exact hcs.symm) ?_
        refine hS _ ?_
        clear hS
        refine q_step rfl (by decide) rfl fun _ hS => ?_
        refine hS _ ?_
        clear hS
        refine q_step rfl (by decide) rfl fun _ hS => ?_
        repeat refine And.intro (by first | omega | exact trivial | rfl | (simp [hlen] <;> omega) | exact hs.symm | exact hws.symm | exact hcs.symm) ?_
        refine hS _ ?_
        clear hS
        refine q_step rfl (by decide) rfl fun _ hS => ?_
        repeat refine And.intro (by first | omega | exact trivial | rfl | (simp [hlen] <;> omega) | exact hs.symm | exact hws.symm | exact hcs.symm) ?_
        first | refine hS _ ?_ | (refine ite_yes (by first | omega | exact trivial | rfl | (simp [hl, hs, hws, hcs, hlen] <;> omega) | exact hs.symm | exact hws.symm | exact hcs.symm) ?_; refine hS _ ?_)
        clear hS
        refine q_step rfl (by decide) rfl fun _ hS => ?_
        repeat refine And.intro (by first | omega | exact trivial | rfl | (simp [hl, hs, hws, hcs, hlen] <;> omega) | exact hs.symm | exact hws.symm | exact hcs.symm) ?_
        refine hS _ ?_
        clear hS
        refine q_step rfl (by decide) rfl fun _ hS => ?_
        repeat refine And.intro (by first | omega | exact trivial | rfl | (simp [hl, hs, hws, hcs, hlen] <;> omega) | exact hs.symm | exact hws.symm | exact hcs.symm) ?_
        refine hS _ ?_
        clear hS
        refine q_step rfl (by decide) rfl fun _ hS => ?_
        repeat refine And.intro (by first | omega | exact trivial | rfl | (simp [hlen] <;> omega) | exact hs.symm | exact hws.symm | exact hcs.symm) ?_
        refine hS _ ?_
        clear hS
        refine q_step rfl (by decide) rfl fun _ hS => ?_
        repeat refine And.intro (by first | omega | exact trivial | rfl | (simp [hlen] <;> omega) | exact hs.symm | exact hws.symm | exact hcs.symm) ?_
        first | refine hS _ ?_ | (refine ite_yes (by first | omega | exact trivial | rfl | (simp [hl, hs, hws, hcs, hlen] <;> omega) | exact hs.symm | exact hws.symm | exact hcs.symm) ?_; refine hS _ ?_)
        clear hS
        refine q_step rfl (by decide) rfl fun _ hS => ?_
        repeat refine And.intro (by first | omega | exact trivial | rfl | (simp [hlen] <;> omega) | exact hs.symm | exact hws.symm | exact hcs.symm) ?_
        refine hS _ ?_
        clear hS
        refine q_step rfl (by decide) rfl fun _ hS => ?_
        repeat refine And.intro (by first | omega | exact trivial | rfl | (simp [hlen] <;> omega) | exact hs.symm | exact hws.symm | exact hcs.symm) ?_
        first | refine hS _ ?_ | (refine ite_yes (by first | omega | exact trivial | rfl | (simp [hl, hs, hws, hcs, hlen] <;> omega) | exact hs.symm | exact hws.symm | exact hcs.symm) ?_; refine hS _ ?_)
        clear hS
        refine q_step rfl (by decide) rfl fun _ hS => ?_
        repeat refine And.intro (by first | omega | exact trivial | rfl | (simp [hl, hs, hws, hcs, hlen] <;> omega) | exact hs.symm | exact hws.symm | exact hcs.symm) ?_
        refine hS _ ?_
        clear hS
        refine q_step rfl (by decide) rfl fun _ hS => ?_
        repeat refine And.intro (by first | omega | exact trivial | rfl | (simp [hl, hs, hws, hcs, hlen] <;> omega) | exact hs.symm | exact hws.symm | exact hcs.symm) ?_
        refine hS _ ?_
        clear hS
        refine q_step rfl (by decide) rfl fun _ hS => ?_
        repeat refine And.intro (by first | omega | exact trivial | rfl | (simp [hl, hs, hws, hcs, hlen] <;> omega) | exact hs.symm | exact hws.symm | exact hcs.symm) ?_
        refine hS _ ?_
        clear hS
        refine q_step rfl (by decide) rfl fun _ hS => ?_
        refine hS _ ?_
        clear hS
        refine q_nil ?_
        refine hK19 _ ?_
        refine hK18 _ _ _ ?_
        refine region_k g2_ok fun _ hK20 => ?_
        refine s_step rfl (by decide) rfl fun _ hS => ?_
        refine hS _ _ _ ?_
        clear hS
        refine s_step rfl (by decide) rfl fun _ hS => ?_
        refine hS _ _ _ ?_
        clear hS
        refine s_step rfl (by decide) rfl fun _ hS => ?_
        repeat refine And.intro (by first | omega | exact trivial | rfl | (simp [hl, hs, hws, hcs, hlen] <;> omega) | exact hs.symm | exact hws.symm | exact hcs.symm) ?_
        refine hS _ _ _ ?_
        clear hS
        refine s_step rfl (by decide) rfl fun _ hS => ?_
        repeat refine And.intro (by first | omega | exact trivial | rfl | (simp [hlen] <;> omega) | exact hs.symm | exact hws.symm | exact hcs.symm) ?_
        refine hS _ _ _ ?_
        clear hS
        refine s_step rfl (by decide) rfl fun _ hS => ?_
        repeat refine And.intro (by first | omega | exact trivial | rfl | (simp [hlen] <;> omega) | exact hs.symm | exact hws.symm | exact hcs.symm) ?_
        first | refine hS _ _ _ ?_ | (refine ite_yes (by first | omega | exact trivial | rfl | (simp [hl, hs, hws, hcs, hlen] <;> omega) | exact hs.symm | exact hws.symm | exact hcs.symm) ?_; refine hS _ _ _ ?_)
        clear hS
        refine s_step rfl (by decide) rfl fun _ hS => ?_
        repeat refine And.intro (by first | omega | exact trivial | rfl | (simp [hlen] <;> omega) | exact hs.symm | exact hws.symm | exact hcs.symm) ?_
        refine hS _ _ _ ?_
        clear hS
        refine s_step rfl (by decide) rfl fun _ hS => ?_
        repeat refine And.intro (by first | omega | exact trivial | rfl | (simp [hlen] <;> omega) | exact hs.symm | exact hws.symm | exact hcs.symm) ?_
        first | refine hS _ _ _ ?_ | (refine ite_yes (by first | omega | exact trivial | rfl | (simp [hl, hs, hws, hcs, hlen] <;> omega) | exact hs.symm | exact hws.symm | exact hcs.symm) ?_; refine hS _ _ _ ?_)
        clear hS
        refine s_step rfl (by decide) rfl fun _ hS => ?_
        repeat refine And.intro (by first | omega | exact trivial | rfl | (simp [hlen] <;> omega) | exact hs.symm | exact hws.symm | exact hcs.symm) ?_
        refine hS _ _ _ ?_
        clear hS
        refine s_step rfl (by decide) rfl fun _ hS => ?_
        repeat refine And.intro (by first | omega | exact trivial | rfl | (simp [hlen] <;> omega) | exact hs.symm | exact hws.symm | exact hcs.symm) ?_
        first | refine hS _ _ _ ?_ | (refine ite_yes (by first | omega | exact trivial | rfl | (simp [hl, hs, hws, hcs, hlen] <;> omega) | exact hs.symm | exact hws.symm | exact hcs.symm) ?_; refine hS _ _ _ ?_)
        clear hS
        refine s_step rfl (by decide) rfl fun _ hS => ?_
        repeat refine And.intro (by first | omega | exact trivial | rfl | (simp [hlen] <;> omega) | exact hs.symm | exact hws.symm | exact hcs.symm) ?_
        refine hS _ _ _ ?_
        clear hS
        refine s_step rfl (by decide) rfl fun _ hS => ?_
        repeat refine And.intro (by first | omega | exact trivial | rfl | (simp [hlen] <;> omega) | exact hs.symm | exact hws.symm | exact hcs.symm) ?_
        first | refine hS _ _ _ ?_ | (refine ite_yes (by first | omega | exact trivial | rfl | (simp [hl, hs, hws, hcs, hlen] <;> omega) | exact hs.symm | exact hws.symm | exact hcs.symm) ?_; refine hS _ _ _ ?_)
        clear hS
        refine s_step rfl (by decide) rfl fun _ hS => ?_
        refine hS _ _ _ ?_
        clear hS
        refine s_step rfl (by decide) rfl fun _ hS => ?_
        repeat refine And.intro (by first | omega | exact trivial | rfl | (simp [hl, hs, hws, hcs, hlen] <;> omega) | exact hs.symm | exact hws.symm | exact hcs.symm) ?_
        refine hS _ _ _ ?_
        clear hS
        refine s_step rfl (by decide) rfl fun _ hS => ?_
        repeat refine And.intro (by first | omega | exact trivial | rfl | (simp [hlen] <;> omega) | exact hs.symm | exact hws.symm | exact hcs.symm) ?_
        refine hS _ _ _ ?_
        clear hS
        refine s_step rfl (by decide) rfl fun _ hS => ?_
        repeat refine And.intro (by first | omega | exact trivial | rfl | (simp [hlen] <;> omega) | exact hs.symm | exact hws.symm | exact hcs.symm) ?_
        first | refine hS _ _ _ ?_ | (refine ite_yes (by first | omega | exact trivial | rfl | (simp [hl, hs, hws, hcs, hlen] <;> omega) | exact hs.symm | exact hws.symm | exact hcs.symm) ?_; refine hS _ _ _ ?_)
        clear hS
        refine s_step rfl (by decide) rfl fun _ hS => ?_
        repeat refine And.intro (by first | omega | exact trivial | rfl | (simp [hlen] <;> omega) | exact hs.symm | exact hws.symm | exact hcs.symm) ?_
        refine hS _ _ _ ?_
        clear hS
        refine s_step rfl (by decide) rfl fun _ hS => ?_
        repeat refine And.intro (by first | omega | exact trivial | rfl | (simp [hlen] <;> omega) | exact hs.symm | exact hws.symm | exact hcs.symm) ?_
        first | refine hS _ _ _ ?_ | (refine ite_yes (by first | omega | exact trivial | rfl | (simp [hl, hs, hws, hcs, hlen] <;> omega) | exact hs.symm | exact hws.symm | exact hcs.symm) ?_; refine hS _ _ _ ?_)
        clear hS
        refine s_step rfl (by decide) rfl fun _ hS => ?_
        repeat refine And.intro (by first | omega | exact trivial | rfl | (simp [hlen] <;> omega) | exact hs.symm | exact hws.symm | exact hcs.symm) ?_
        refine hS _ _ _ ?_
        clear hS
        refine s_step rfl (by decide) rfl fun _ hS => ?_
        repeat refine And.intro (by first | omega | exact trivial | rfl | (simp [hlen] <;> omega) | exact hs.symm | exact hws.symm | exact hcs.symm) ?_
        first | refine hS _ _ _ ?_ | (refine ite_yes (by first | omega | exact trivial | rfl | (simp [hl, hs, hws, hcs, hlen] <;> omega) | exact hs.symm | exact hws.symm | exact hcs.symm) ?_; refine hS _ _ _ ?_)
        clear hS
        refine s_step rfl (by decide) rfl fun _ hS => ?_
        repeat refine And.intro (by first | omega | exact trivial | rfl | (simp [hl, hs, hws, hcs, hlen] <;> omega) | exact hs.symm | exact hws.symm | exact hcs.symm) ?_
        refine hS _ _ _ ?_
        clear hS
        refine s_step0 rfl rfl fun _ hS => ?_
        repeat refine And.intro (by first | omega | exact trivial | rfl | (simp [hlen] <;> omega) | exact hs.symm | exact hws.symm | exact hcs.symm) ?_
        first | refine hS _ _ _ ?_ | (refine splice_full (by first | omega | exact trivial | rfl | (simp [hlen] <;> omega) | exact hs.symm | exact hws.symm | exact hcs.symm) ?_; refine hS _ _ _ ?_)
        clear hS
        refine s_nil ?_
        refine hK20 _ _ _ ?_
        refine done_block ?_
        refine hK13 _ _ _ ?_
        refine region_k g2_ok fun _ hK21 => ?_
        refine s_step rfl (by decide) rfl fun _ hS => ?_
        refine hS _ _ _ ?_
        clear hS
        refine s_step rfl (by decide) rfl fun _ hS => ?_
        repeat refine And.intro (by first | omega | exact trivial | rfl | (simp <;> omega) | exact hs.symm | exact hws.symm | exact hcs.symm) ?_
        refine hS _ _ _ ?_
        clear hS
        refine s_step rfl (by decide) rfl fun _ hS => ?_
        refine hS _ _ _ ?_
        clear hS
        refine s_nil ?_
        refine hK21 _ _ _ ?_
        refine Done_some [] id (k + 1) ⟨by omega, by omega⟩ ⟨?_, ?_, (by decide : List.Nodup ([0, 1, 2, 3, 4] : List Nat)), ?_, ?_, ⟨Nat.zero_le _, fun i hi => absurd hi (Nat.not_lt_zero i)⟩⟩
        · repeat' (first | exact trivial | refine And.intro ?_ ?_ | rfl | omega | decide | exact Nat.lt_of_sub_pos (by decide))
        · repeat' (first | exact trivial | refine And.intro ?_ ?_ | rfl | omega | decide | exact Nat.lt_of_sub_pos (by decide))
          show (_ : List UInt32) = _
          simp [Sha.rounds, Sha.round, Sha.mixX, Sha.mixY, not_sub]
        · repeat' (first | exact trivial | refine And.intro ?_ ?_ | rfl | omega | decide | exact Nat.lt_of_sub_pos (by decide))
        · repeat' (first | exact trivial | refine And.intro ?_ ?_ | rfl | omega | decide | exact Nat.lt_of_sub_pos (by decide))
      · try simp only [decide_eq_false_iff_not, Int.not_lt] at h_t19
        refine WP_exit ?_
        refine done_thenx ?_
        refine done_thenx ?_
        refine Done_hit ?_
        refine hK7 _ _ _ ?_
        refine seq_k fun _ hK22 => ?_
        refine seq_k fun _ hK23 => ?_
        refine region_k g2_ok fun _ hK24 => ?_
        refine s_step rfl (by decide) rfl fun _ hS => ?_
        refine hS _ _ _ ?_
        clear hS
        refine s_nil ?_
        refine hK24 _ _ _ ?_
        refine hK23 _ _ _ ?_
        refine WP_block ?_
        obtain rfl : k = 64 := by omega
        have hr64 : (Sha.rounds (Sha.sched l 64) s 64).length = 8 := Sha.rounds_length (Sha.sched l 64) s hs 64
        refine WP_loop (α := Nat) (fun k => [(2, .c (.ptr 0 0)), (4, .c (.ptr 1 0)), (5, .c (.ptr 2 0)), (6, .c (.ptr 3 0)), (7, .c (.ptr 4 0)), (13, .c (.int .i64 k))]) (fun k => [(0, .own 49 (.u32s s) 8), (1, .own 49 (.u32s (List.replicate 8 0)) 8), (2, .own 60 (.u32s (Sha.sched l 64)) 64), (3, .own 60 (.u32s Sha.consts) 64), (4, .own 49 (.u32s (Sha.addTo (Sha.rounds (Sha.sched l 64) s 64) s k)) 8)]) 5 (fun k => k ≤ 8) (fun k => 8 - k) ?_ ?_
        · refine Done_some [] id 0 (Nat.zero_le _) ⟨?_, ?_, (by decide : List.Nodup ([0, 1, 2, 3, 4] : List Nat)), ?_, ?_, ⟨Nat.zero_le _, fun i hi => absurd hi (Nat.not_lt_zero i)⟩⟩
          · repeat' (first | exact trivial | refine And.intro ?_ ?_ | rfl | omega | decide | exact Nat.lt_of_sub_pos (by decide))
          · repeat' (first | exact trivial | refine And.intro ?_ ?_ | rfl | omega | decide | exact Nat.lt_of_sub_pos (by decide))
            show (_ : List UInt32) = _
            simp [Sha.addTo]
          · repeat' (first | exact trivial | refine And.intro ?_ ?_ | rfl | omega | decide | exact Nat.lt_of_sub_pos (by decide))
          · repeat' (first | exact trivial | refine And.intro ?_ ?_ | rfl | omega | decide | exact Nat.lt_of_sub_pos (by decide))
        · intro k hk
          have hlen : (Sha.addTo (Sha.rounds (Sha.sched l 64) s 64) s k).length = 8 := Sha.addTo_length _ s k hr64 hs
          refine seq_k fun _ hK25 => ?_
          refine seq_k fun _ hK26 => ?_
          refine region_k g2_ok fun _ hK27 => ?_
          refine s_step rfl (by decide) rfl fun _ hS => ?_
          refine hS _ _ _ ?_
          clear hS
          refine s_step rfl (by decide) rfl fun _ hS => ?_
          repeat refine And.intro (by first | omega | exact trivial | rfl | (simp [hl, hs, hws, hcs] <;> omega) | exact hs.symm | exact hws.symm | exact hcs.symm) ?_
          refine hS _ _ _ ?_
          clear hS
          refine s_nil ?_
          refine hK27 _ _ _ ?_
          refine hK26 _ _ _ ?_
          refine WP_cond (b := _) rfl (fun h_t101 => ?_) (fun h_t101 => ?_)
          · try simp only [decide_eq_true_eq] at h_t101
            refine WP_skip ?_
            refine hK25 _ _ _ ?_
            refine seq_k fun _ hK28 => ?_
            refine WP_block ?_
            refine tail_k g2_ok 9 (by kernel_rfl) fun _ hK29 => ?_
            simp only [List.take_succ_cons, List.take_zero, List.drop_succ_cons, List.drop_zero]
            refine q_step rfl (by decide) rfl fun _ hS => ?_
            refine hS _ ?_
            clear hS
            refine q_step rfl (by decide) rfl fun _ hS => ?_
            refine hS _ ?_
            clear hS
            refine q_step rfl (by decide) rfl fun _ hS => ?_
            repeat refine And.intro (by first | omega | exact trivial | rfl | (simp [hlen] <;> omega) | exact hs.symm | exact hws.symm | exact hcs.symm) ?_
            refine hS _ ?_
            clear hS
            refine q_step rfl (by decide) rfl fun _ hS => ?_
            repeat refine And.intro (by first | omega | exact trivial | rfl | (simp [hlen] <;> omega) | exact hs.symm | exact hws.symm | exact hcs.symm) ?_
            first | refine hS _ ?_ | (refine ite_yes (by first | omega | exact trivial | rfl | (simp [hl, hs, hws, hcs, hlen] <;> omega) | exact hs.symm | exact hws.symm | exact hcs.symm) ?_; refine hS _ ?_)
            clear hS
            refine q_step rfl (by decide) rfl fun _ hS => ?_
            refine hS _ ?_
            clear hS
            refine q_step rfl (by decide) rfl fun _ hS => ?_
            repeat refine And.intro (by first | omega | exact trivial | rfl | (simp [hs] <;> omega) | exact hs.symm | exact hws.symm | exact hcs.symm) ?_
            refine hS _ ?_
            clear hS
            refine q_step rfl (by decide) rfl fun _ hS => ?_
            repeat refine And.intro (by first | omega | exact trivial | rfl | (simp [hs] <;> omega) | exact hs.symm | exact hws.symm | exact hcs.symm) ?_
            first | refine hS _ ?_ | (refine ite_yes (by first | omega | exact trivial | rfl | (simp [hl, hs, hws, hcs, hlen] <;> omega) | exact hs.symm | exact hws.symm | exact hcs.symm) ?_; refine hS _ ?_)
            clear hS
            refine q_step rfl (by decide) rfl fun _ hS => ?_
            repeat refine And.intro (by first | omega | exact trivial | rfl | (simp [hl, hs, hws, hcs, hlen] <;> omega) | exact hs.symm | exact hws.symm | exact hcs.symm) ?_
            refine hS _ ?_
            clear hS
            refine q_step rfl (by decide) rfl fun _ hS => ?_
            repeat refine And.intro (by first | omega | exact trivial | rfl | (simp [hlen] <;> omega) | exact hs.symm | exact hws.symm | exact hcs.symm) ?_
            refine hS _ ?_
            clear hS
            refine q_nil ?_
            refine s_step0 rfl rfl fun _ hS => ?_
            repeat refine And.intro (by first | omega | exact trivial | rfl | (simp [hlen] <;> omega) | exact hs.symm | exact hws.symm | exact hcs.symm) ?_
            first | refine hS _ _ _ ?_ | (refine splice_full (by first | omega | exact trivial | rfl | (simp [hl, hs, hws, hcs, hlen] <;> omega) | exact hs.symm | exact hws.symm | exact hcs.symm) ?_; refine hS _ _ _ ?_)
            clear hS
            refine s_nil ?_
            refine hK29 _ _ _ ?_
            have e1 := Sha.addTo_step _ _ k hr64 hs (by omega)
            rw [← Sha.addTo_get _ _ k hr64 hs (by omega)] at e1
            refine done_block ?_
            refine hK28 _ _ _ ?_
            refine region_k g2_ok fun _ hK30 => ?_
            refine s_step rfl (by decide) rfl fun _ hS => ?_
            refine hS _ _ _ ?_
            clear hS
            refine s_step rfl (by decide) rfl fun _ hS => ?_
            repeat refine And.intro (by first | omega | exact trivial | rfl | (simp <;> omega) | exact hs.symm | exact hws.symm | exact hcs.symm) ?_
            refine hS _ _ _ ?_
            clear hS
            refine s_step rfl (by decide) rfl fun _ hS => ?_
            refine hS _ _ _ ?_
            clear hS
            refine s_nil ?_
            refine hK30 _ _ _ ?_
            refine Done_some [] id (k + 1) ⟨by omega, by omega⟩ ⟨?_, ?_, (by decide : List.Nodup ([0, 1, 2, 3, 4] : List Nat)), ?_, ?_, ⟨Nat.zero_le _, fun i hi => absurd hi (Nat.not_lt_zero i)⟩⟩
            · repeat' (first | exact trivial | refine And.intro ?_ ?_ | rfl | omega | decide | exact Nat.lt_of_sub_pos (by decide))
            · repeat' (first | exact trivial | refine And.intro ?_ ?_ | rfl | omega | decide | exact Nat.lt_of_sub_pos (by decide))
              show (_ : List UInt32) = _
              simp only [Nat.zero_add, Nat.mul_one]
              exact e1
            · repeat' (first | exact trivial | refine And.intro ?_ ?_ | rfl | omega | decide | exact Nat.lt_of_sub_pos (by decide))
            · repeat' (first | exact trivial | refine And.intro ?_ ?_ | rfl | omega | decide | exact Nat.lt_of_sub_pos (by decide))
          · try simp only [decide_eq_false_iff_not, Int.not_lt] at h_t101
            refine WP_exit ?_
            refine done_thenx ?_
            refine done_thenx ?_
            refine Done_hit ?_
            refine hK22 _ _ _ ?_
            refine seq_k fun _ hK31 => ?_
            refine region_k g2_ok fun _ hK32 => ?_
            refine s_step rfl (by decide) rfl fun _ hS => ?_
            repeat refine And.intro (by first | omega | exact trivial | rfl | (simp [hlen] <;> omega) | exact hlen.symm) ?_
            first | refine hS _ _ _ ?_ | (refine ite_yes (by first | omega | exact trivial | rfl | (simp [hlen] <;> omega) | exact hlen.symm) ?_; refine hS _ _ _ ?_)
            clear hS
            refine s_step0 rfl rfl fun _ hS => ?_
            repeat refine And.intro (by first | omega | exact trivial | rfl | (simp [hlen] <;> omega) | exact hlen.symm) ?_
            first | refine hS _ _ _ ?_ | (refine splice_full (by first | omega | exact trivial | rfl | (simp [hlen] <;> omega) | exact hlen.symm) ?_; refine hS _ _ _ ?_)
            clear hS
            refine s_nil ?_
            refine hK32 _ _ _ ?_
            refine hK31 _ _ _ ?_
            refine WP_ret (Done_flat g2_ok (fun _ _ h => h) (by first | rfl | assumption) [.cell 4 49] rfl ?_)
            repeat refine And.intro (by first | omega | exact trivial | rfl | (simp [hlen] <;> omega)) ?_
            try refine ite_yes (by first | omega | exact trivial | rfl | (simp [hlen] <;> omega)) ?_
            obtain rfl : k = 8 := by omega
            show SV.agg (.u32s (Sha.addTo (Sha.rounds (Sha.sched l 64) s 64) s 8)) = _
            rw [Sha.addTo_full _ _ hr64 hs]
  · exact h.elim

end Go.Proofs.YtdanaehfdbdhdaaDoor
