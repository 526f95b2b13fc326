/- The compression of the program. -/
import Derived.Test.YtdanaehfdbdhdaaDoorVc
import Derived.Test.YtdanaehfdbdhdaaDoorAb15
namespace Go.Proofs.YtdanaehfdbdhdaaDoor
set_option linter.unusedVariables false
open Go.Ab Go.RowKit

theorem rot_and (k : Nat) (h0 : 0 < k) (h1 : k < 32) : UInt64.ofInt (-(k : Int)) &&& 31 = UInt64.ofNat (32 - k) := by
  have h : ∀ k : Fin 32, 0 < k.val → UInt64.ofInt (-(k.val : Int)) &&& 31 = UInt64.ofNat (32 - k.val) := by decide +kernel
  exact h ⟨k, h1⟩ h0
theorem rot_nat (k : Nat) (h1 : k < 32) : (UInt64.ofNat (32 - k)).toNat = 32 - k := by
  have h : ∀ k : Fin 32, (UInt64.ofNat (32 - k.val)).toNat = 32 - k.val := by decide +kernel
  exact h ⟨k, h1⟩
theorem rot_sub (k : Nat) (h1 : k < 32) : (32 - UInt64.ofNat (32 - k)).toNat = k := by
  have h : ∀ k : Fin 32, (32 - UInt64.ofNat (32 - k.val)).toNat = k.val := by decide +kernel
  exact h ⟨k, h1⟩

def rotlS : QSpec := fun vs K => match vs with
  | [.c (.u32 x), .c (.int .i64 k)] => (-32 < k ∧ k < 0) ∧ K (.c (.u32 (Sha.rotr x (-k).toNat)))
  | _ => False
set_option maxHeartbeats 400000 in
theorem rotl_ok : FlatOK Tryd.prog gl 37 rotlS := by
  refine flat_of (Γ := g0) (N := 17) Tryd.func37 rfl rfl fun vs K h => ?_
  unfold rotlS at h
  split at h
  · rename_i x k
    obtain ⟨⟨h0, h1⟩, h⟩ := h
    refine ⟨_, h, rfl, by simp, fun w I => ?_⟩
    have hr1 := rot_and (-k).toNat (by omega) (by omega)
    rw [show -(((-k).toNat : Nat) : Int) = k by omega] at hr1
    have hr2 := rot_nat (-k).toNat (by omega)
    have hr3 := rot_sub (-k).toNat (by omega)
    refine seq_k fun _ hK1 => ?_
    refine region_k g0_ok fun _ hK2 => ?_
    refine s_step rfl (by decide) rfl fun _ hS => ?_
    refine hS _ _ _ ?_
    clear hS
    refine s_nil ?_
    refine hK2 _ _ _ ?_
    refine hK1 _ _ _ ?_
    refine seq_k fun _ hK3 => ?_
    refine region_k g0_ok fun _ hK4 => ?_
    refine s_step rfl (by decide) rfl fun _ hS => ?_
    refine hS _ _ _ ?_
    clear hS
    refine s_step rfl (by decide) rfl fun _ hS => ?_
    repeat first | refine And.intro (by first | omega | exact trivial | rfl | (simp <;> omega)) ?_ | refine whole_yes (by first | omega | exact trivial | rfl | (simp <;> omega)) ?_ | refine whole_sub ?_
    refine hS _ _ _ ?_
    clear hS
    refine s_step rfl (by decide) rfl fun _ hS => ?_
    repeat refine And.intro (by first | omega | exact trivial | rfl | (simp <;> omega)) ?_
    refine hS _ _ _ ?_
    clear hS
    refine s_step rfl (by decide) rfl fun _ hS => ?_
    refine hS _ _ _ ?_
    clear hS
    refine s_nil ?_
    refine hK4 _ _ _ ?_
    refine hK3 _ _ _ ?_
    refine seq_k fun _ hK5 => ?_
    refine region_k g0_ok fun _ hK6 => ?_
    refine s_step rfl (by decide) rfl fun _ hS => ?_
    refine hS _ _ _ ?_
    clear hS
    refine s_step rfl (by decide) rfl fun _ hS => ?_
    refine hS _ _ _ ?_
    clear hS
    refine s_step rfl (by decide) rfl fun _ hS => ?_
    repeat refine And.intro (by first | omega | exact trivial | rfl | (simp <;> omega)) ?_
    refine hS _ _ _ ?_
    clear hS
    refine s_step rfl (by decide) rfl fun _ hS => ?_
    refine hS _ _ _ ?_
    clear hS
    refine s_step rfl (by decide) rfl fun _ hS => ?_
    refine hS _ _ _ ?_
    clear hS
    refine s_step rfl (by decide) rfl fun _ hS => ?_
    repeat refine And.intro (by first | omega | exact trivial | rfl | (simp <;> omega)) ?_
    refine hS _ _ _ ?_
    clear hS
    refine s_step rfl (by decide) rfl fun _ hS => ?_
    repeat refine And.intro (by first | omega | exact trivial | rfl | (simp <;> omega)) ?_
    refine hS _ _ _ ?_
    clear hS
    refine s_step rfl (by decide) rfl fun _ hS => ?_
    repeat refine And.intro (by first | omega | exact trivial | rfl | (simp <;> omega)) ?_
    refine hS _ _ _ ?_
    clear hS
    refine s_step rfl (by decide) rfl fun _ hS => ?_
    refine hS _ _ _ ?_
    clear hS
    refine s_nil ?_
    refine hK6 _ _ _ ?_
    refine hK5 _ _ _ ?_
    refine WP_ret (Done_flat g0_ok (fun _ _ h => h) (by first | rfl | assumption) [.tmp 4] rfl ?_)
    repeat refine And.intro (by first | omega | exact trivial | rfl | (simp <;> omega)) ?_
    try refine ite_yes (by first | omega | exact trivial | rfl | (simp <;> omega)) ?_
    show SV.c (.u32 (shl32 x (((UInt64.ofInt k &&& 31).toNat : Nat) : Int).toNat ||| shr32 x (((32 - (UInt64.ofInt k &&& 31)).toNat : Nat) : Int).toNat)) = _
    rw [hr1, Int.toNat_natCast, Int.toNat_natCast, hr2, hr3, Sha.rotr, UInt32.or_comm]
  · exact h.elim

theorem sched_or (l : List UInt8) (k : Nat) (h : k < 16) : (Sha.schedArr l k).set k (shl32 (l.getD (4 * k) 0).toUInt32 24 ||| shl32 (l.getD (4 * k + 1) 0).toUInt32 16 ||| shl32 (l.getD (4 * k + 2) 0).toUInt32 8 ||| (l.getD (4 * k + 3) 0).toUInt32) = Sha.schedArr l (k + 1) := by
  rw [← Sha.schedArr_step l k (by omega), Sha.next, if_pos (by rw [Sha.sched_length]; exact h), Sha.word, Sha.sched_length]
theorem addAll_comm (s t : List UInt32) : Sha.addAll s t = Sha.addAll t s := by
  rw [Sha.addAll, Sha.addAll, List.zipWith_comm]
  congr 1
  funext x y
  exact UInt32.add_comm _ _
noncomputable def g4 : Ctx := { P := Tryd.prog, ty := ty, glob := gl, fs := [(37, .flat rotlS)] }
theorem g4_ok : g4.OK := ⟨tyOK, ⟨⟨enters_mk Tryd.func37 (by kernel_rfl) rfl, rotl_ok⟩, trivial⟩, mixed⟩
@[simp] theorem g4_ty : g4.ty = ty := rfl

attribute [local irreducible] Sha.sched Sha.consts Sha.rounds Sha.addTo Sha.schedArr Sha.compress Sha.rotr
def compressP : PSpec := fun te c cap off vs K => match c, vs with
  | .u32s s, [.c (.ds n (.u8s l))] => (te = 49 ∧ cap = 8 ∧ off = 0 ∧ n = 64 ∧ l.length = 64 ∧ s.length = 8) ∧ K (.u32s (Sha.compress s l)) undefV
  | _, _ => False
set_option maxHeartbeats 2000000 in
theorem compress_ok : PtrOK Tryd.prog gl 32 compressP := by
  refine ptr_of (Γ := g4) (N := 205) Tryd.func32 rfl rfl fun te c cap off vs K h => ?_
  unfold compressP at h
  split at h
  · rename_i s n l
    obtain ⟨⟨hte, hcap, hoff, hn, hl, hs⟩, h⟩ := h
    subst hte hcap hoff hn
    refine ⟨_, _, h, rfl, rfl, by simp, fun w I b => ?_⟩
    rw [Sha.compress]
    have hws : (Sha.sched l 64).length = 64 := Sha.sched_length l 64
    have hcs := consts_length
    refine seq_k fun _ hK1 => ?_
    refine region_k g4_ok fun _ hK2 => ?_
    refine s_step rfl (by decide) rfl fun _ hS => ?_
    repeat refine And.intro (by first | omega | exact trivial | rfl | (simp [hs, hl, hws, hcs] <;> omega) | exact hs.symm | exact hws.symm | exact hcs.symm) ?_
    refine hS _ _ _ ?_
    clear hS
    refine s_nil ?_
    refine hK2 _ _ _ ?_
    refine hK1 _ _ _ ?_
    refine seq_k fun _ hK3 => ?_
    refine seq_k fun _ hK4 => ?_
    refine region_k g4_ok fun _ hK5 => ?_
    refine s_step rfl (by decide) rfl fun _ hS => ?_
    refine hS _ _ _ ?_
    clear hS
    refine s_nil ?_
    refine hK5 _ _ _ ?_
    refine hK4 _ _ _ ?_
    refine WP_block ?_
    refine WP_loop (α := Nat) (fun k => [(0, .c (.ptr 0 0)), (1, .c (.ds 64 (.u8s l))), (4, .c (.ptr 1 0)), (17, .c (.int .i64 k))]) (fun k => [(0, .own 49 (.u32s (s)) 8), (1, .own 60 (.u32s (Sha.schedArr l k)) 64)]) 2 (fun k => k ≤ 16) (fun k => 16 - k) ?_ ?_
    · refine Done_some [] id 0 (Nat.zero_le _) ⟨?_, ?_, (by decide : List.Nodup ([0, 1] : List Nat)), ?_, ?_, ⟨Nat.le_of_ble_eq_true rfl, fun i hi => rfl⟩⟩
      · repeat' (first | exact trivial | refine And.intro ?_ ?_ | rfl | omega | decide | exact Nat.lt_of_sub_pos (by decide))
      · repeat' (first | exact trivial | refine And.intro ?_ ?_ | rfl | omega | decide | exact Nat.lt_of_sub_pos (by decide))
        all_goals first | exact hs | exact hlen | (show (_ : List UInt32) = _; simp [Sha.schedArr, Sha.sched])
      · repeat' (first | exact trivial | refine And.intro ?_ ?_ | rfl | omega | decide | exact Nat.lt_of_sub_pos (by decide))
      · repeat' (first | exact trivial | refine And.intro ?_ ?_ | rfl | omega | decide | exact Nat.lt_of_sub_pos (by decide))
    · intro k hk
      have hlen : (Sha.schedArr l k).length = 64 := Sha.schedArr_length l k (by omega)
      refine seq_k fun _ hK6 => ?_
      refine region_k g4_ok fun _ hK7 => ?_
      refine s_step rfl (by decide) rfl fun _ hS => ?_
      repeat refine And.intro (by first | omega | exact trivial | rfl | (simp [hs, hl, hws, hcs] <;> omega) | exact hs.symm | exact hws.symm | exact hcs.symm) ?_
      refine hS _ _ _ ?_
      clear hS
      refine s_nil ?_
      refine hK7 _ _ _ ?_
      refine hK6 _ _ _ ?_
      refine seq_k fun _ hK8 => ?_
      refine WP_cond (b := _) rfl (fun h_t18 => ?_) (fun h_t18 => ?_)
      · try simp only [decide_eq_true_eq] at h_t18
        refine WP_skip ?_
        refine hK8 _ _ _ ?_
        refine seq_k fun _ hK9 => ?_
        refine WP_block ?_
        refine seq_k fun _ hK10 => ?_
        refine region_k g4_ok fun _ hK11 => ?_
        refine s_step rfl (by decide) rfl fun _ hS => ?_
        refine hS _ _ _ ?_
        clear hS
        refine s_step rfl (by decide) rfl fun _ hS => ?_
        refine hS _ _ _ ?_
        clear hS
        refine s_nil ?_
        refine hK11 _ _ _ ?_
        refine hK10 _ _ _ ?_
        have hk16 : k < 16 := by omega
        refine tail_k g4_ok 35 (by kernel_rfl) fun _ hK12 => ?_
        simp only [List.take_succ_cons, List.take_zero, List.drop_succ_cons, List.drop_zero]
        refine q_step rfl (by decide) rfl fun _ hS => ?_
        refine hS _ ?_
        clear hS
        refine q_step rfl (by decide) rfl fun _ hS => ?_
        refine hS _ ?_
        clear hS
        refine q_step rfl (by decide) rfl fun _ hS => ?_
        refine hS _ ?_
        clear hS
        refine q_step rfl (by decide) rfl fun _ hS => ?_
        repeat refine And.intro (by first | omega | exact trivial | rfl | (simp <;> omega) | exact hs.symm | exact hws.symm | exact hcs.symm) ?_
        refine hS _ ?_
        clear hS
        refine q_step rfl (by decide) rfl fun _ hS => ?_
        repeat refine And.intro (by first | omega | exact trivial | rfl | (simp [hl] <;> omega) | exact hs.symm | exact hws.symm | exact hcs.symm) ?_
        refine hS _ ?_
        clear hS
        refine q_step rfl (by decide) rfl fun _ hS => ?_
        repeat refine And.intro (by first | omega | exact trivial | rfl | (simp [hl] <;> omega) | exact hs.symm | exact hws.symm | exact hcs.symm) ?_
        first | refine hS _ ?_ | (refine ite_yes (by first | omega | exact trivial | rfl | (simp [hs, hl, hws, hcs, hlen] <;> omega) | exact hs.symm | exact hws.symm | exact hcs.symm) ?_; refine hS _ ?_)
        clear hS
        refine q_step rfl (by decide) rfl fun _ hS => ?_
        repeat first | refine And.intro (by first | omega | exact trivial | rfl | (simp [hs, hl, hws, hcs, hlen] <;> omega) | exact hs.symm | exact hws.symm | exact hcs.symm) ?_ | refine whole_yes (by first | omega | exact trivial | rfl | (simp [hs, hl, hws, hcs, hlen] <;> omega) | exact hs.symm | exact hws.symm | exact hcs.symm) ?_ | refine whole_sub ?_
        refine hS _ ?_
        clear hS
        refine q_step rfl (by decide) rfl fun _ hS => ?_
        repeat refine And.intro (by first | omega | exact trivial | rfl | (simp [hs, hl, hws, hcs, hlen] <;> omega) | exact hs.symm | exact hws.symm | exact hcs.symm) ?_
        refine hS _ ?_
        clear hS
        refine q_step rfl (by decide) rfl fun _ hS => ?_
        refine hS _ ?_
        clear hS
        refine q_step rfl (by decide) rfl fun _ hS => ?_
        refine hS _ ?_
        clear hS
        refine q_step rfl (by decide) rfl fun _ hS => ?_
        repeat refine And.intro (by first | omega | exact trivial | rfl | (simp <;> omega) | exact hs.symm | exact hws.symm | exact hcs.symm) ?_
        refine hS _ ?_
        clear hS
        refine q_step rfl (by decide) rfl fun _ hS => ?_
        repeat refine And.intro (by first | omega | exact trivial | rfl | (simp <;> omega) | exact hs.symm | exact hws.symm | exact hcs.symm) ?_
        refine hS _ ?_
        clear hS
        refine q_step rfl (by decide) rfl fun _ hS => ?_
        repeat refine And.intro (by first | omega | exact trivial | rfl | (simp [hl] <;> omega) | exact hs.symm | exact hws.symm | exact hcs.symm) ?_
        refine hS _ ?_
        clear hS
        refine q_step rfl (by decide) rfl fun _ hS => ?_
        repeat refine And.intro (by first | omega | exact trivial | rfl | (simp [hl] <;> omega) | exact hs.symm | exact hws.symm | exact hcs.symm) ?_
        first | refine hS _ ?_ | (refine ite_yes (by first | omega | exact trivial | rfl | (simp [hs, hl, hws, hcs, hlen] <;> omega) | exact hs.symm | exact hws.symm | exact hcs.symm) ?_; refine hS _ ?_)
        clear hS
        refine q_step rfl (by decide) rfl fun _ hS => ?_
        repeat first | refine And.intro (by first | omega | exact trivial | rfl | (simp [hs, hl, hws, hcs, hlen] <;> omega) | exact hs.symm | exact hws.symm | exact hcs.symm) ?_ | refine whole_yes (by first | omega | exact trivial | rfl | (simp [hs, hl, hws, hcs, hlen] <;> omega) | exact hs.symm | exact hws.symm | exact hcs.symm) ?_ | refine whole_sub ?_
        refine hS _ ?_
        clear hS
        refine q_step rfl (by decide) rfl fun _ hS => ?_
        repeat refine And.intro (by first | omega | exact trivial | rfl | (simp [hs, hl, hws, hcs, hlen] <;> omega) | exact hs.symm | exact hws.symm | exact hcs.symm) ?_
        refine hS _ ?_
        clear hS
        refine q_step rfl (by decide) rfl fun _ hS => ?_
        repeat refine And.intro (by first | omega | exact trivial | rfl | (simp [hs, hl, hws, hcs, hlen] <;> omega) | exact hs.symm | exact hws.symm | exact hcs.symm) ?_
        refine hS _ ?_
        clear hS
        refine q_step rfl (by decide) rfl fun _ hS => ?_
        refine hS _ ?_
        clear hS
        refine q_step rfl (by decide) rfl fun _ hS => ?_
        refine hS _ ?_
        clear hS
        refine q_step rfl (by decide) rfl fun _ hS => ?_
        repeat refine And.intro (by first | omega | exact trivial | rfl | (simp <;> omega) | exact hs.symm | exact hws.symm | exact hcs.symm) ?_
        refine hS _ ?_
        clear hS
        refine q_step rfl (by decide) rfl fun _ hS => ?_
        repeat refine And.intro (by first | omega | exact trivial | rfl | (simp <;> omega) | exact hs.symm | exact hws.symm | exact hcs.symm) ?_
        refine hS _ ?_
        clear hS
        refine q_step rfl (by decide) rfl fun _ hS => ?_
        repeat refine And.intro (by first | omega | exact trivial | rfl | (simp [hl] <;> omega) | exact hs.symm | exact hws.symm | exact hcs.symm) ?_
        refine hS _ ?_
        clear hS
        refine q_step rfl (by decide) rfl fun _ hS => ?_
        repeat refine And.intro (by first | omega | exact trivial | rfl | (simp [hl] <;> omega) | exact hs.symm | exact hws.symm | exact hcs.symm) ?_
        first | refine hS _ ?_ | (refine ite_yes (by first | omega | exact trivial | rfl | (simp [hs, hl, hws, hcs, hlen] <;> omega) | exact hs.symm | exact hws.symm | exact hcs.symm) ?_; refine hS _ ?_)
        clear hS
        refine q_step rfl (by decide) rfl fun _ hS => ?_
        repeat first | refine And.intro (by first | omega | exact trivial | rfl | (simp [hs, hl, hws, hcs, hlen] <;> omega) | exact hs.symm | exact hws.symm | exact hcs.symm) ?_ | refine whole_yes (by first | omega | exact trivial | rfl | (simp [hs, hl, hws, hcs, hlen] <;> omega) | exact hs.symm | exact hws.symm | exact hcs.symm) ?_ | refine whole_sub ?_
        refine hS _ ?_
        clear hS
        refine q_step rfl (by decide) rfl fun _ hS => ?_
        repeat refine And.intro (by first | omega | exact trivial | rfl | (simp [hs, hl, hws, hcs, hlen] <;> omega) | exact hs.symm | exact hws.symm | exact hcs.symm) ?_
        refine hS _ ?_
        clear hS
        refine q_step rfl (by decide) rfl fun _ hS => ?_
        repeat refine And.intro (by first | omega | exact trivial | rfl | (simp [hs, hl, hws, hcs, hlen] <;> omega) | exact hs.symm | exact hws.symm | exact hcs.symm) ?_
        refine hS _ ?_
        clear hS
        refine q_step rfl (by decide) rfl fun _ hS => ?_
        refine hS _ ?_
        clear hS
        refine q_step rfl (by decide) rfl fun _ hS => ?_
        refine hS _ ?_
        clear hS
        refine q_step rfl (by decide) rfl fun _ hS => ?_
        repeat refine And.intro (by first | omega | exact trivial | rfl | (simp <;> omega) | exact hs.symm | exact hws.symm | exact hcs.symm) ?_
        refine hS _ ?_
        clear hS
        refine q_step rfl (by decide) rfl fun _ hS => ?_
        repeat refine And.intro (by first | omega | exact trivial | rfl | (simp <;> omega) | exact hs.symm | exact hws.symm | exact hcs.symm) ?_
        refine hS _ ?_
        clear hS
        refine q_step rfl (by decide) rfl fun _ hS => ?_
        repeat refine And.intro (by first | omega | exact trivial | rfl | (simp [hl] <;> omega) | exact hs.symm | exact hws.symm | exact hcs.symm) ?_
        refine hS _ ?_
        clear hS
        refine q_step rfl (by decide) rfl fun _ hS => ?_
        repeat refine And.intro (by first | omega | exact trivial | rfl | (simp [hl] <;> omega) | exact hs.symm | exact hws.symm | exact hcs.symm) ?_
        first | refine hS _ ?_ | (refine ite_yes (by first | omega | exact trivial | rfl | (simp [hs, hl, hws, hcs, hlen] <;> omega) | exact hs.symm | exact hws.symm | exact hcs.symm) ?_; refine hS _ ?_)
        clear hS
        refine q_step rfl (by decide) rfl fun _ hS => ?_
        repeat first | refine And.intro (by first | omega | exact trivial | rfl | (simp [hs, hl, hws, hcs, hlen] <;> omega) | exact hs.symm | exact hws.symm | exact hcs.symm) ?_ | refine whole_yes (by first | omega | exact trivial | rfl | (simp [hs, hl, hws, hcs, hlen] <;> omega) | exact hs.symm | exact hws.symm | exact hcs.symm) ?_ | refine whole_sub ?_
        refine hS _ ?_
        clear hS
        refine q_step rfl (by decide) rfl fun _ hS => ?_
        repeat refine And.intro (by first | omega | exact trivial | rfl | (simp [hs, hl, hws, hcs, hlen] <;> omega) | exact hs.symm | exact hws.symm | exact hcs.symm) ?_
        refine hS _ ?_
        clear hS
        refine q_step rfl (by decide) rfl fun _ hS => ?_
        repeat refine And.intro (by first | omega | exact trivial | rfl | (simp [hlen] <;> omega) | exact hs.symm | exact hws.symm | exact hcs.symm) ?_
        refine hS _ ?_
        clear hS
        refine q_nil ?_
        refine s_step0 rfl rfl fun _ hS => ?_
        repeat refine And.intro (by first | omega | exact trivial | rfl | (simp [hlen] <;> omega) | exact hs.symm | exact hws.symm | exact hcs.symm) ?_
        first | refine hS _ _ _ ?_ | (refine splice_full (by first | omega | exact trivial | rfl | (simp [hs, hl, hws, hcs, hlen] <;> omega) | exact hs.symm | exact hws.symm | exact hcs.symm) ?_; refine hS _ _ _ ?_)
        clear hS
        refine s_nil ?_
        refine hK12 _ _ _ ?_
        have e1 := sched_or l k hk16
        refine done_block ?_
        refine hK9 _ _ _ ?_
        refine region_k g4_ok fun _ hK13 => ?_
        refine s_step rfl (by decide) rfl fun _ hS => ?_
        repeat refine And.intro (by first | omega | exact trivial | rfl | (simp <;> omega) | exact hs.symm | exact hws.symm | exact hcs.symm) ?_
        refine hS _ _ _ ?_
        clear hS
        refine s_step rfl (by decide) rfl fun _ hS => ?_
        refine hS _ _ _ ?_
        clear hS
        refine s_nil ?_
        refine hK13 _ _ _ ?_
        refine Done_some [] id (k + 1) ⟨by omega, by omega⟩ ⟨?_, ?_, (by decide : List.Nodup ([0, 1] : List Nat)), ?_, ?_, ⟨Nat.le_of_ble_eq_true rfl, fun i hi => rfl⟩⟩
        · repeat' (first | exact trivial | refine And.intro ?_ ?_ | rfl | omega | decide | exact Nat.lt_of_sub_pos (by decide))
        · repeat' (first | exact trivial | refine And.intro ?_ ?_ | rfl | omega | decide | exact Nat.lt_of_sub_pos (by decide))
          all_goals first | exact hs | exact hlen | (show (_ : List UInt32) = _; simp only [Nat.zero_add, Nat.mul_one]; exact e1)
        · repeat' (first | exact trivial | refine And.intro ?_ ?_ | rfl | omega | decide | exact Nat.lt_of_sub_pos (by decide))
        · repeat' (first | exact trivial | refine And.intro ?_ ?_ | rfl | omega | decide | exact Nat.lt_of_sub_pos (by decide))
      · try simp only [decide_eq_false_iff_not, Int.not_lt] at h_t18
        refine WP_exit ?_
        refine done_thenx ?_
        refine done_thenx ?_
        refine Done_hit ?_
        refine hK3 _ _ _ ?_
        refine seq_k fun _ hK14 => ?_
        refine seq_k fun _ hK15 => ?_
        refine region_k g4_ok fun _ hK16 => ?_
        refine s_step rfl (by decide) rfl fun _ hS => ?_
        refine hS _ _ _ ?_
        clear hS
        refine s_nil ?_
        refine hK16 _ _ _ ?_
        refine hK15 _ _ _ ?_
        refine WP_block ?_
        obtain rfl : k = 16 := by omega
        refine WP_loop (α := Nat) (fun k => [(0, .c (.ptr 0 0)), (1, .c (.ds 64 (.u8s l))), (4, .c (.ptr 1 0)), (6, .c (.int .i64 k))]) (fun k => [(0, .own 49 (.u32s (s)) 8), (1, .own 60 (.u32s (Sha.schedArr l k)) 64)]) 2 (fun k => 16 ≤ k ∧ k ≤ 64) (fun k => 64 - k) ?_ ?_
        · refine Done_some [] id 16 (by omega) ⟨?_, ?_, (by decide : List.Nodup ([0, 1] : List Nat)), ?_, ?_, ⟨Nat.le_of_ble_eq_true rfl, fun i hi => rfl⟩⟩
          · repeat' (first | exact trivial | refine And.intro ?_ ?_ | rfl | omega | decide | exact Nat.lt_of_sub_pos (by decide))
          · repeat' (first | exact trivial | refine And.intro ?_ ?_ | rfl | omega | decide | exact Nat.lt_of_sub_pos (by decide))
          · repeat' (first | exact trivial | refine And.intro ?_ ?_ | rfl | omega | decide | exact Nat.lt_of_sub_pos (by decide))
          · repeat' (first | exact trivial | refine And.intro ?_ ?_ | rfl | omega | decide | exact Nat.lt_of_sub_pos (by decide))
        · intro k hk
          have hlen : (Sha.schedArr l k).length = 64 := Sha.schedArr_length l k hk.2
          refine seq_k fun _ hK17 => ?_
          refine seq_k fun _ hK18 => ?_
          refine region_k g4_ok fun _ hK19 => ?_
          refine s_step rfl (by decide) rfl fun _ hS => ?_
          refine hS _ _ _ ?_
          clear hS
          refine s_step rfl (by decide) rfl fun _ hS => ?_
          repeat refine And.intro (by first | omega | exact trivial | rfl | (simp [hs, hl, hws, hcs] <;> omega) | exact hs.symm | exact hws.symm | exact hcs.symm) ?_
          refine hS _ _ _ ?_
          clear hS
          refine s_nil ?_
          refine hK19 _ _ _ ?_
          refine hK18 _ _ _ ?_
          refine WP_cond (b := _) rfl (fun h_t57 => ?_) (fun h_t57 => ?_)
          · try simp only [decide_eq_true_eq] at h_t57
            refine WP_skip ?_
            refine hK17 _ _ _ ?_
            refine seq_k fun _ hK20 => ?_
            refine WP_block ?_
            refine seq_k fun _ hK21 => ?_
            have hk64 : k < 64 := by omega
            refine quiet_k g4_ok (by kernel_rfl) fun _ hK22 => ?_
            refine q_step rfl (by decide) rfl fun _ hS => ?_
            refine hS _ ?_
            clear hS
            refine q_step rfl (by decide) rfl fun _ hS => ?_
            repeat refine And.intro (by first | omega | exact trivial | rfl | (simp <;> omega) | exact hs.symm | exact hws.symm | exact hcs.symm) ?_
            refine hS _ ?_
            clear hS
            refine q_step rfl (by decide) rfl fun _ hS => ?_
            repeat refine And.intro (by first | omega | exact trivial | rfl | (simp [hlen] <;> omega) | exact hs.symm | exact hws.symm | exact hcs.symm) ?_
            refine hS _ ?_
            clear hS
            refine q_step rfl (by decide) rfl fun _ hS => ?_
            repeat refine And.intro (by first | omega | exact trivial | rfl | (simp [hlen] <;> omega) | exact hs.symm | exact hws.symm | exact hcs.symm) ?_
            first | refine hS _ ?_ | (refine ite_yes (by first | omega | exact trivial | rfl | (simp [hs, hl, hws, hcs, hlen] <;> omega) | exact hs.symm | exact hws.symm | exact hcs.symm) ?_; refine hS _ ?_)
            clear hS
            refine q_step rfl (by decide) rfl fun _ hS => ?_
            refine hS _ ?_
            clear hS
            refine q_step rfl (by decide) rfl fun _ hS => ?_
            repeat refine And.intro (by first | omega | exact trivial | rfl | (simp <;> omega) | exact hs.symm | exact hws.symm | exact hcs.symm) ?_
            refine hS _ ?_
            clear hS
            refine q_step rfl (by decide) rfl fun _ hS => ?_
            repeat refine And.intro (by first | omega | exact trivial | rfl | (simp [hlen] <;> omega) | exact hs.symm | exact hws.symm | exact hcs.symm) ?_
            refine hS _ ?_
            clear hS
            refine q_step rfl (by decide) rfl fun _ hS => ?_
            repeat refine And.intro (by first | omega | exact trivial | rfl | (simp [hlen] <;> omega) | exact hs.symm | exact hws.symm | exact hcs.symm) ?_
            first | refine hS _ ?_ | (refine ite_yes (by first | omega | exact trivial | rfl | (simp [hs, hl, hws, hcs, hlen] <;> omega) | exact hs.symm | exact hws.symm | exact hcs.symm) ?_; refine hS _ ?_)
            clear hS
            refine q_step rfl (by decide) rfl fun _ hS => ?_
            refine hS _ ?_
            clear hS
            refine q_step rfl (by decide) rfl fun _ hS => ?_
            refine hS _ ?_
            clear hS
            refine q_nil ?_
            refine hK22 _ ?_
            refine hK21 _ _ _ ?_
            refine seq_k fun _ hK23 => ?_
            refine region_k g4_ok fun _ hK24 => ?_
            refine s_step rfl (by decide) rfl fun _ hS => ?_
            refine hS _ _ _ ?_
            clear hS
            refine s_step rfl (by decide) rfl fun _ hS => ?_
            repeat first | refine And.intro (by first | omega | exact trivial | rfl | (simp [hs, hl, hws, hcs] <;> omega) | exact hs.symm | exact hws.symm | exact hcs.symm) ?_ | refine whole_yes (by first | omega | exact trivial | rfl | (simp [hs, hl, hws, hcs] <;> omega) | exact hs.symm | exact hws.symm | exact hcs.symm) ?_ | refine whole_sub ?_
            first | refine hS _ _ _ ?_ | (intro cap1 hcap1; refine hS _ _ _ ?_)
            clear hS
            refine s_step rfl (by decide) rfl fun _ hS => ?_
            refine hS _ _ _ ?_
            clear hS
            refine s_step rfl (by decide) rfl fun _ hS => ?_
            repeat first | refine And.intro (by first | omega | exact trivial | rfl | (simp [hs, hl, hws, hcs] <;> omega) | exact hs.symm | exact hws.symm | exact hcs.symm) ?_ | refine whole_yes (by first | omega | exact trivial | rfl | (simp [hs, hl, hws, hcs] <;> omega) | exact hs.symm | exact hws.symm | exact hcs.symm) ?_ | refine whole_sub ?_
            first | refine hS _ _ _ ?_ | (intro cap3 hcap3; refine hS _ _ _ ?_)
            clear hS
            refine s_step rfl (by decide) rfl fun _ hS => ?_
            repeat refine And.intro (by first | omega | exact trivial | rfl | (simp [hs, hl, hws, hcs] <;> omega) | exact hs.symm | exact hws.symm | exact hcs.symm) ?_
            refine hS _ _ _ ?_
            clear hS
            refine s_step rfl (by decide) rfl fun _ hS => ?_
            refine hS _ _ _ ?_
            clear hS
            refine s_step rfl (by decide) rfl fun _ hS => ?_
            repeat refine And.intro (by first | omega | exact trivial | rfl | (simp [hs, hl, hws, hcs] <;> omega) | exact hs.symm | exact hws.symm | exact hcs.symm) ?_
            refine hS _ _ _ ?_
            clear hS
            refine s_step rfl (by decide) rfl fun _ hS => ?_
            repeat refine And.intro (by first | omega | exact trivial | rfl | (simp [hs, hl, hws, hcs] <;> omega) | exact hs.symm | exact hws.symm | exact hcs.symm) ?_
            refine hS _ _ _ ?_
            clear hS
            refine s_step rfl (by decide) rfl fun _ hS => ?_
            refine hS _ _ _ ?_
            clear hS
            refine s_nil ?_
            refine hK24 _ _ _ ?_
            refine hK23 _ _ _ ?_
            refine seq_k fun _ hK25 => ?_
            refine region_k g4_ok fun _ hK26 => ?_
            refine s_step rfl (by decide) rfl fun _ hS => ?_
            refine hS _ _ _ ?_
            clear hS
            refine s_step rfl (by decide) rfl fun _ hS => ?_
            repeat first | refine And.intro (by first | omega | exact trivial | rfl | (simp [hs, hl, hws, hcs] <;> omega) | exact hs.symm | exact hws.symm | exact hcs.symm) ?_ | refine whole_yes (by first | omega | exact trivial | rfl | (simp [hs, hl, hws, hcs] <;> omega) | exact hs.symm | exact hws.symm | exact hcs.symm) ?_ | refine whole_sub ?_
            first | refine hS _ _ _ ?_ | (intro cap1 hcap1; refine hS _ _ _ ?_)
            clear hS
            refine s_step rfl (by decide) rfl fun _ hS => ?_
            refine hS _ _ _ ?_
            clear hS
            refine s_step rfl (by decide) rfl fun _ hS => ?_
            repeat first | refine And.intro (by first | omega | exact trivial | rfl | (simp [hs, hl, hws, hcs] <;> omega) | exact hs.symm | exact hws.symm | exact hcs.symm) ?_ | refine whole_yes (by first | omega | exact trivial | rfl | (simp [hs, hl, hws, hcs] <;> omega) | exact hs.symm | exact hws.symm | exact hcs.symm) ?_ | refine whole_sub ?_
            first | refine hS _ _ _ ?_ | (intro cap3 hcap3; refine hS _ _ _ ?_)
            clear hS
            refine s_step rfl (by decide) rfl fun _ hS => ?_
            repeat refine And.intro (by first | omega | exact trivial | rfl | (simp [hs, hl, hws, hcs] <;> omega) | exact hs.symm | exact hws.symm | exact hcs.symm) ?_
            refine hS _ _ _ ?_
            clear hS
            refine s_step rfl (by decide) rfl fun _ hS => ?_
            refine hS _ _ _ ?_
            clear hS
            refine s_step rfl (by decide) rfl fun _ hS => ?_
            repeat refine And.intro (by first | omega | exact trivial | rfl | (simp [hs, hl, hws, hcs] <;> omega) | exact hs.symm | exact hws.symm | exact hcs.symm) ?_
            refine hS _ _ _ ?_
            clear hS
            refine s_step rfl (by decide) rfl fun _ hS => ?_
            repeat refine And.intro (by first | omega | exact trivial | rfl | (simp [hs, hl, hws, hcs] <;> omega) | exact hs.symm | exact hws.symm | exact hcs.symm) ?_
            refine hS _ _ _ ?_
            clear hS
            refine s_step rfl (by decide) rfl fun _ hS => ?_
            refine hS _ _ _ ?_
            clear hS
            refine s_nil ?_
            refine hK26 _ _ _ ?_
            refine hK25 _ _ _ ?_
            refine tail_k g4_ok 15 (by kernel_rfl) fun _ hK27 => ?_
            simp only [List.take_succ_cons, List.take_zero, List.drop_succ_cons, List.drop_zero]
            refine q_step rfl (by decide) rfl fun _ hS => ?_
            refine hS _ ?_
            clear hS
            refine q_step rfl (by decide) rfl fun _ hS => ?_
            refine hS _ ?_
            clear hS
            refine q_step rfl (by decide) rfl fun _ hS => ?_
            repeat refine And.intro (by first | omega | exact trivial | rfl | (simp <;> omega) | exact hs.symm | exact hws.symm | exact hcs.symm) ?_
            refine hS _ ?_
            clear hS
            refine q_step rfl (by decide) rfl fun _ hS => ?_
            repeat refine And.intro (by first | omega | exact trivial | rfl | (simp [hlen] <;> omega) | exact hs.symm | exact hws.symm | exact hcs.symm) ?_
            refine hS _ ?_
            clear hS
            refine q_step rfl (by decide) rfl fun _ hS => ?_
            repeat refine And.intro (by first | omega | exact trivial | rfl | (simp [hlen] <;> omega) | exact hs.symm | exact hws.symm | exact hcs.symm) ?_
            first | refine hS _ ?_ | (refine ite_yes (by first | omega | exact trivial | rfl | (simp [hs, hl, hws, hcs, hlen] <;> omega) | exact hs.symm | exact hws.symm | exact hcs.symm) ?_; refine hS _ ?_)
            clear hS
            refine q_step rfl (by decide) rfl fun _ hS => ?_
            refine hS _ ?_
            clear hS
            refine q_step rfl (by decide) rfl fun _ hS => ?_
            repeat refine And.intro (by first | omega | exact trivial | rfl | (simp [hs, hl, hws, hcs, hlen] <;> omega) | exact hs.symm | exact hws.symm | exact hcs.symm) ?_
            refine hS _ ?_
            clear hS
            refine q_step rfl (by decide) rfl fun _ hS => ?_
            refine hS _ ?_
            clear hS
            refine q_step rfl (by decide) rfl fun _ hS => ?_
            repeat refine And.intro (by first | omega | exact trivial | rfl | (simp <;> omega) | exact hs.symm | exact hws.symm | exact hcs.symm) ?_
            refine hS _ ?_
            clear hS
            refine q_step rfl (by decide) rfl fun _ hS => ?_
            repeat refine And.intro (by first | omega | exact trivial | rfl | (simp [hlen] <;> omega) | exact hs.symm | exact hws.symm | exact hcs.symm) ?_
            refine hS _ ?_
            clear hS
            refine q_step rfl (by decide) rfl fun _ hS => ?_
            repeat refine And.intro (by first | omega | exact trivial | rfl | (simp [hlen] <;> omega) | exact hs.symm | exact hws.symm | exact hcs.symm) ?_
            first | refine hS _ ?_ | (refine ite_yes (by first | omega | exact trivial | rfl | (simp [hs, hl, hws, hcs, hlen] <;> omega) | exact hs.symm | exact hws.symm | exact hcs.symm) ?_; refine hS _ ?_)
            clear hS
            refine q_step rfl (by decide) rfl fun _ hS => ?_
            repeat refine And.intro (by first | omega | exact trivial | rfl | (simp [hs, hl, hws, hcs, hlen] <;> omega) | exact hs.symm | exact hws.symm | exact hcs.symm) ?_
            refine hS _ ?_
            clear hS
            refine q_step rfl (by decide) rfl fun _ hS => ?_
            refine hS _ ?_
            clear hS
            refine q_step rfl (by decide) rfl fun _ hS => ?_
            repeat refine And.intro (by first | omega | exact trivial | rfl | (simp [hs, hl, hws, hcs, hlen] <;> omega) | exact hs.symm | exact hws.symm | exact hcs.symm) ?_
            refine hS _ ?_
            clear hS
            refine q_step rfl (by decide) rfl fun _ hS => ?_
            repeat refine And.intro (by first | omega | exact trivial | rfl | (simp [hlen] <;> omega) | exact hs.symm | exact hws.symm | exact hcs.symm) ?_
            refine hS _ ?_
            clear hS
            refine q_nil ?_
            refine s_step0 rfl rfl fun _ hS => ?_
            repeat refine And.intro (by first | omega | exact trivial | rfl | (simp [hlen] <;> omega) | exact hs.symm | exact hws.symm | exact hcs.symm) ?_
            first | refine hS _ _ _ ?_ | (refine splice_full (by first | omega | exact trivial | rfl | (simp [hs, hl, hws, hcs, hlen] <;> omega) | exact hs.symm | exact hws.symm | exact hcs.symm) ?_; refine hS _ _ _ ?_)
            clear hS
            refine s_nil ?_
            refine hK27 _ _ _ ?_
            have e1 := sched_hi l k hk.1 (by omega)
            rw [show k - 15 = ((k : Int) - 15).toNat by omega, show k - 2 = ((k : Int) - 2).toNat by omega, show k - 7 = ((k : Int) - 7).toNat by omega, show k - 16 = ((k : Int) - 16).toNat by omega] at e1
            refine done_block ?_
            refine hK20 _ _ _ ?_
            refine region_k g4_ok fun _ hK28 => ?_
            refine s_step rfl (by decide) rfl fun _ hS => ?_
            refine hS _ _ _ ?_
            clear hS
            refine s_step rfl (by decide) rfl fun _ hS => ?_
            repeat refine And.intro (by first | omega | exact trivial | rfl | (simp <;> omega) | exact hs.symm | exact hws.symm | exact hcs.symm) ?_
            refine hS _ _ _ ?_
            clear hS
            refine s_step rfl (by decide) rfl fun _ hS => ?_
            refine hS _ _ _ ?_
            clear hS
            refine s_nil ?_
            refine hK28 _ _ _ ?_
            refine Done_some [] id (k + 1) ⟨by omega, by omega⟩ ⟨?_, ?_, (by decide : List.Nodup ([0, 1] : List Nat)), ?_, ?_, ⟨Nat.le_of_ble_eq_true rfl, fun i hi => rfl⟩⟩
            · repeat' (first | exact trivial | refine And.intro ?_ ?_ | rfl | omega | decide | exact Nat.lt_of_sub_pos (by decide))
            · repeat' (first | exact trivial | refine And.intro ?_ ?_ | rfl | omega | decide | exact Nat.lt_of_sub_pos (by decide))
              all_goals first | exact hs | exact hlen | (show (_ : List UInt32) = _; simp only [Nat.zero_add, Nat.mul_one]; exact e1)
            · repeat' (first | exact trivial | refine And.intro ?_ ?_ | rfl | omega | decide | exact Nat.lt_of_sub_pos (by decide))
            · repeat' (first | exact trivial | refine And.intro ?_ ?_ | rfl | omega | decide | exact Nat.lt_of_sub_pos (by decide))
          · try simp only [decide_eq_false_iff_not, Int.not_lt] at h_t57
            refine WP_exit ?_
            refine done_thenx ?_
            refine done_thenx ?_
            refine Done_hit ?_
            refine hK14 _ _ _ ?_
            refine seq_k fun _ hK29 => ?_
            obtain rfl : k = 64 := by omega
            refine region_k g4_ok fun _ hK30 => ?_
            refine s_step rfl (by decide) rfl fun _ hS => ?_
            refine hS _ _ _ ?_
            clear hS
            refine s_step rfl (by decide) rfl fun _ hS => ?_
            repeat refine And.intro (by first | omega | exact trivial | rfl | (simp [hs] <;> omega) | exact hs.symm | exact hws.symm | exact hcs.symm) ?_
            refine hS _ _ _ ?_
            clear hS
            refine s_step rfl (by decide) rfl fun _ hS => ?_
            repeat refine And.intro (by first | omega | exact trivial | rfl | (simp [hs] <;> omega) | exact hs.symm | exact hws.symm | exact hcs.symm) ?_
            first | refine hS _ _ _ ?_ | (refine ite_yes (by first | omega | exact trivial | rfl | (simp [hs] <;> omega) | exact hs.symm | exact hws.symm | exact hcs.symm) ?_; refine hS _ _ _ ?_)
            clear hS
            refine s_step rfl (by decide) rfl fun _ hS => ?_
            repeat refine And.intro (by first | omega | exact trivial | rfl | (simp [hs, hl, hws, hcs, hlen] <;> omega) | exact hs.symm | exact hws.symm | exact hcs.symm) ?_
            refine hS _ _ _ ?_
            clear hS
            refine s_step0 rfl rfl fun _ hS => ?_
            repeat refine And.intro (by first | omega | exact trivial | rfl | (simp [hs] <;> omega) | exact hs.symm | exact hws.symm | exact hcs.symm) ?_
            first | refine hS _ _ _ ?_ | (refine splice_full (by first | omega | exact trivial | rfl | (simp [hs] <;> omega) | exact hs.symm | exact hws.symm | exact hcs.symm) ?_; refine hS _ _ _ ?_)
            clear hS
            refine s_nil ?_
            refine hK30 _ _ _ ?_
            refine hK29 _ _ _ ?_
            refine seq_k fun _ hK31 => ?_
            refine seq_k fun _ hK32 => ?_
            refine region_k g4_ok fun _ hK33 => ?_
            refine s_step rfl (by decide) rfl fun _ hS => ?_
            repeat refine And.intro (by first | omega | exact trivial | rfl | (simp [hcs] <;> omega) | exact hcs.symm) ?_
            first | refine hS _ _ _ ?_ | (refine ite_yes (by first | omega | exact trivial | rfl | (simp [hcs] <;> omega) | exact hcs.symm) ?_; refine hS _ _ _ ?_)
            clear hS
            refine s_step rfl (by decide) rfl fun _ hS => ?_
            refine hS _ _ _ ?_
            clear hS
            refine s_nil ?_
            refine hK33 _ _ _ ?_
            refine hK32 _ _ _ ?_
            refine WP_block ?_
            refine WP_loop (α := Nat) (fun k => [(0, .c (.ptr 0 0)), (1, .c (.ds 64 (.u8s l))), (4, .c (.ptr 1 0)), (11, .c (.ptr 2 0)), (102, .agg (.u32s Sha.consts)), (103, .c (.int .i64 k))]) (fun k => [(0, .own 49 (.u32s (s)) 8), (1, .own 60 (.u32s (Sha.sched l 64)) 64), (2, .own 49 (.u32s (Sha.rounds (Sha.sched l 64) s k)) 8)]) 3 (fun k => k ≤ 64) (fun k => 64 - k) ?_ ?_
            · refine Done_some [] id 0 (Nat.zero_le _) ⟨?_, ?_, (by decide : List.Nodup ([0, 1, 2] : List Nat)), ?_, ?_, ⟨Nat.le_of_ble_eq_true rfl, fun i hi => rfl⟩⟩
              · repeat' (first | exact trivial | refine And.intro ?_ ?_ | rfl | omega | decide | exact Nat.lt_of_sub_pos (by decide))
              · repeat' (first | exact trivial | refine And.intro ?_ ?_ | rfl | omega | decide | exact Nat.lt_of_sub_pos (by decide))
                all_goals first | exact hs | exact hlen | (show (_ : List UInt32) = _; first | (simp only [Sha.rounds]; done) | rw [Sha.schedArr_full])
              · repeat' (first | exact trivial | refine And.intro ?_ ?_ | rfl | omega | decide | exact Nat.lt_of_sub_pos (by decide))
              · repeat' (first | exact trivial | refine And.intro ?_ ?_ | rfl | omega | decide | exact Nat.lt_of_sub_pos (by decide))
            · intro k hk
              have hlen : (Sha.rounds (Sha.sched l 64) s k).length = 8 := Sha.rounds_length (Sha.sched l 64) s hs k
              refine seq_k fun _ hK34 => ?_
              refine region_k g4_ok fun _ hK35 => ?_
              refine s_step rfl (by decide) rfl fun _ hS => ?_
              repeat refine And.intro (by first | omega | exact trivial | rfl | (simp [hs, hl, hws, hcs] <;> omega) | exact hs.symm | exact hws.symm | exact hcs.symm) ?_
              refine hS _ _ _ ?_
              clear hS
              refine s_nil ?_
              refine hK35 _ _ _ ?_
              refine hK34 _ _ _ ?_
              refine seq_k fun _ hK36 => ?_
              refine WP_cond (b := _) rfl (fun h_t104 => ?_) (fun h_t104 => ?_)
              · try simp only [decide_eq_true_eq] at h_t104
                refine WP_skip ?_
                refine hK36 _ _ _ ?_
                refine seq_k fun _ hK37 => ?_
                refine WP_block ?_
                refine seq_k fun _ hK38 => ?_
                refine region_k g4_ok fun _ hK39 => ?_
                refine s_step rfl (by decide) rfl fun _ hS => ?_
                refine hS _ _ _ ?_
                clear hS
                refine s_step rfl (by decide) rfl fun _ hS => ?_
                repeat refine And.intro (by first | omega | exact trivial | rfl | (simp [hcs] <;> omega) | exact hcs) ?_
                refine hS _ _ _ ?_
                clear hS
                refine s_step rfl (by decide) rfl fun _ hS => ?_
                refine hS _ _ _ ?_
                clear hS
                refine s_step rfl (by decide) rfl fun _ hS => ?_
                refine hS _ _ _ ?_
                clear hS
                refine s_nil ?_
                refine hK39 _ _ _ ?_
                refine hK38 _ _ _ ?_
                refine seq_k fun _ hK40 => ?_
                refine quiet_k g4_ok (by kernel_rfl) fun _ hK41 => ?_
                refine q_step rfl (by decide) rfl fun _ hS => ?_
                repeat refine And.intro (by first | omega | exact trivial | rfl | (simp [hlen] <;> omega) | exact hs.symm | exact hws.symm | exact hcs.symm) ?_
                refine hS _ ?_
                clear hS
                refine q_step rfl (by decide) rfl fun _ hS => ?_
                repeat refine And.intro (by first | omega | exact trivial | rfl | (simp [hlen] <;> omega) | exact hs.symm | exact hws.symm | exact hcs.symm) ?_
                first | refine hS _ ?_ | (refine ite_yes (by first | omega | exact trivial | rfl | (simp [hs, hl, hws, hcs, hlen] <;> omega) | exact hs.symm | exact hws.symm | exact hcs.symm) ?_; refine hS _ ?_)
                clear hS
                refine q_step rfl (by decide) rfl fun _ hS => ?_
                repeat refine And.intro (by first | omega | exact trivial | rfl | (simp [hlen] <;> omega) | exact hs.symm | exact hws.symm | exact hcs.symm) ?_
                refine hS _ ?_
                clear hS
                refine q_step rfl (by decide) rfl fun _ hS => ?_
                repeat refine And.intro (by first | omega | exact trivial | rfl | (simp [hlen] <;> omega) | exact hs.symm | exact hws.symm | exact hcs.symm) ?_
                first | refine hS _ ?_ | (refine ite_yes (by first | omega | exact trivial | rfl | (simp [hs, hl, hws, hcs, hlen] <;> omega) | exact hs.symm | exact hws.symm | exact hcs.symm) ?_; refine hS _ ?_)
                clear hS
                refine q_step rfl (by decide) rfl fun _ hS => ?_
                repeat first | refine And.intro (by first | omega | exact trivial | rfl | (simp [hs, hl, hws, hcs, hlen] <;> omega) | exact hs.symm | exact hws.symm | exact hcs.symm) ?_ | refine whole_yes (by first | omega | exact trivial | rfl | (simp [hs, hl, hws, hcs, hlen] <;> omega) | exact hs.symm | exact hws.symm | exact hcs.symm) ?_ | refine whole_sub ?_
                first | refine hS _ ?_ | (intro cap4 hcap4; refine hS _ ?_)
                clear hS
                refine q_step rfl (by decide) rfl fun _ hS => ?_
                repeat refine And.intro (by first | omega | exact trivial | rfl | (simp [hlen] <;> omega) | exact hs.symm | exact hws.symm | exact hcs.symm) ?_
                refine hS _ ?_
                clear hS
                refine q_step rfl (by decide) rfl fun _ hS => ?_
                repeat refine And.intro (by first | omega | exact trivial | rfl | (simp [hlen] <;> omega) | exact hs.symm | exact hws.symm | exact hcs.symm) ?_
                first | refine hS _ ?_ | (refine ite_yes (by first | omega | exact trivial | rfl | (simp [hs, hl, hws, hcs, hlen] <;> omega) | exact hs.symm | exact hws.symm | exact hcs.symm) ?_; refine hS _ ?_)
                clear hS
                refine q_step rfl (by decide) rfl fun _ hS => ?_
                repeat first | refine And.intro (by first | omega | exact trivial | rfl | (simp [hs, hl, hws, hcs, hlen] <;> omega) | exact hs.symm | exact hws.symm | exact hcs.symm) ?_ | refine whole_yes (by first | omega | exact trivial | rfl | (simp [hs, hl, hws, hcs, hlen] <;> omega) | exact hs.symm | exact hws.symm | exact hcs.symm) ?_ | refine whole_sub ?_
                first | refine hS _ ?_ | (intro cap7 hcap7; refine hS _ ?_)
                clear hS
                refine q_step rfl (by decide) rfl fun _ hS => ?_
                repeat refine And.intro (by first | omega | exact trivial | rfl | (simp [hs, hl, hws, hcs, hlen] <;> omega) | exact hs.symm | exact hws.symm | exact hcs.symm) ?_
                refine hS _ ?_
                clear hS
                refine q_step rfl (by decide) rfl fun _ hS => ?_
                repeat refine And.intro (by first | omega | exact trivial | rfl | (simp [hlen] <;> omega) | exact hs.symm | exact hws.symm | exact hcs.symm) ?_
                refine hS _ ?_
                clear hS
                refine q_step rfl (by decide) rfl fun _ hS => ?_
                repeat refine And.intro (by first | omega | exact trivial | rfl | (simp [hlen] <;> omega) | exact hs.symm | exact hws.symm | exact hcs.symm) ?_
                first | refine hS _ ?_ | (refine ite_yes (by first | omega | exact trivial | rfl | (simp [hs, hl, hws, hcs, hlen] <;> omega) | exact hs.symm | exact hws.symm | exact hcs.symm) ?_; refine hS _ ?_)
                clear hS
                refine q_step rfl (by decide) rfl fun _ hS => ?_
                repeat first | refine And.intro (by first | omega | exact trivial | rfl | (simp [hs, hl, hws, hcs, hlen] <;> omega) | exact hs.symm | exact hws.symm | exact hcs.symm) ?_ | refine whole_yes (by first | omega | exact trivial | rfl | (simp [hs, hl, hws, hcs, hlen] <;> omega) | exact hs.symm | exact hws.symm | exact hcs.symm) ?_ | refine whole_sub ?_
                first | refine hS _ ?_ | (intro cap11 hcap11; refine hS _ ?_)
                clear hS
                refine q_step rfl (by decide) rfl fun _ hS => ?_
                repeat refine And.intro (by first | omega | exact trivial | rfl | (simp [hs, hl, hws, hcs, hlen] <;> omega) | exact hs.symm | exact hws.symm | exact hcs.symm) ?_
                refine hS _ ?_
                clear hS
                refine q_step rfl (by decide) rfl fun _ hS => ?_
                repeat refine And.intro (by first | omega | exact trivial | rfl | (simp [hs, hl, hws, hcs, hlen] <;> omega) | exact hs.symm | exact hws.symm | exact hcs.symm) ?_
                refine hS _ ?_
                clear hS
                refine q_step rfl (by decide) rfl fun _ hS => ?_
                repeat refine And.intro (by first | omega | exact trivial | rfl | (simp [hlen] <;> omega) | exact hs.symm | exact hws.symm | exact hcs.symm) ?_
                refine hS _ ?_
                clear hS
                refine q_step rfl (by decide) rfl fun _ hS => ?_
                repeat refine And.intro (by first | omega | exact trivial | rfl | (simp [hlen] <;> omega) | exact hs.symm | exact hws.symm | exact hcs.symm) ?_
                first | refine hS _ ?_ | (refine ite_yes (by first | omega | exact trivial | rfl | (simp [hs, hl, hws, hcs, hlen] <;> omega) | exact hs.symm | exact hws.symm | exact hcs.symm) ?_; refine hS _ ?_)
                clear hS
                refine q_step rfl (by decide) rfl fun _ hS => ?_
                repeat refine And.intro (by first | omega | exact trivial | rfl | (simp [hlen] <;> omega) | exact hs.symm | exact hws.symm | exact hcs.symm) ?_
                refine hS _ ?_
                clear hS
                refine q_step rfl (by decide) rfl fun _ hS => ?_
                repeat refine And.intro (by first | omega | exact trivial | rfl | (simp [hlen] <;> omega) | exact hs.symm | exact hws.symm | exact hcs.symm) ?_
                first | refine hS _ ?_ | (refine ite_yes (by first | omega | exact trivial | rfl | (simp [hs, hl, hws, hcs, hlen] <;> omega) | exact hs.symm | exact hws.symm | exact hcs.symm) ?_; refine hS _ ?_)
                clear hS
                refine q_step rfl (by decide) rfl fun _ hS => ?_
                repeat refine And.intro (by first | omega | exact trivial | rfl | (simp [hs, hl, hws, hcs, hlen] <;> omega) | exact hs.symm | exact hws.symm | exact hcs.symm) ?_
                refine hS _ ?_
                clear hS
                refine q_step rfl (by decide) rfl fun _ hS => ?_
                repeat refine And.intro (by first | omega | exact trivial | rfl | (simp [hlen] <;> omega) | exact hs.symm | exact hws.symm | exact hcs.symm) ?_
                refine hS _ ?_
                clear hS
                refine q_step rfl (by decide) rfl fun _ hS => ?_
                repeat refine And.intro (by first | omega | exact trivial | rfl | (simp [hlen] <;> omega) | exact hs.symm | exact hws.symm | exact hcs.symm) ?_
                first | refine hS _ ?_ | (refine ite_yes (by first | omega | exact trivial | rfl | (simp [hs, hl, hws, hcs, hlen] <;> omega) | exact hs.symm | exact hws.symm | exact hcs.symm) ?_; refine hS _ ?_)
                clear hS
                refine q_step rfl (by decide) rfl fun _ hS => ?_
                repeat refine And.intro (by first | omega | exact trivial | rfl | (simp [hs, hl, hws, hcs, hlen] <;> omega) | exact hs.symm | exact hws.symm | exact hcs.symm) ?_
                refine hS _ ?_
                clear hS
                refine q_step rfl (by decide) rfl fun _ hS => ?_
                repeat refine And.intro (by first | omega | exact trivial | rfl | (simp [hlen] <;> omega) | exact hs.symm | exact hws.symm | exact hcs.symm) ?_
                refine hS _ ?_
                clear hS
                refine q_step rfl (by decide) rfl fun _ hS => ?_
                repeat refine And.intro (by first | omega | exact trivial | rfl | (simp [hlen] <;> omega) | exact hs.symm | exact hws.symm | exact hcs.symm) ?_
                first | refine hS _ ?_ | (refine ite_yes (by first | omega | exact trivial | rfl | (simp [hs, hl, hws, hcs, hlen] <;> omega) | exact hs.symm | exact hws.symm | exact hcs.symm) ?_; refine hS _ ?_)
                clear hS
                refine q_step rfl (by decide) rfl fun _ hS => ?_
                repeat refine And.intro (by first | omega | exact trivial | rfl | (simp [hs, hl, hws, hcs, hlen] <;> omega) | exact hs.symm | exact hws.symm | exact hcs.symm) ?_
                refine hS _ ?_
                clear hS
                refine q_step rfl (by decide) rfl fun _ hS => ?_
                repeat refine And.intro (by first | omega | exact trivial | rfl | (simp [hs, hl, hws, hcs, hlen] <;> omega) | exact hs.symm | exact hws.symm | exact hcs.symm) ?_
                refine hS _ ?_
                clear hS
                refine q_step rfl (by decide) rfl fun _ hS => ?_
                repeat refine And.intro (by first | omega | exact trivial | rfl | (simp [hs, hl, hws, hcs, hlen] <;> omega) | exact hs.symm | exact hws.symm | exact hcs.symm) ?_
                refine hS _ ?_
                clear hS
                refine q_step rfl (by decide) rfl fun _ hS => ?_
                refine hS _ ?_
                clear hS
                refine q_step rfl (by decide) rfl fun _ hS => ?_
                repeat refine And.intro (by first | omega | exact trivial | rfl | (simp [hs, hl, hws, hcs, hlen] <;> omega) | exact hs.symm | exact hws.symm | exact hcs.symm) ?_
                refine hS _ ?_
                clear hS
                refine q_step rfl (by decide) rfl fun _ hS => ?_
                refine hS _ ?_
                clear hS
                refine q_step rfl (by decide) rfl fun _ hS => ?_
                repeat refine And.intro (by first | omega | exact trivial | rfl | (simp [hws] <;> omega) | exact hs.symm | exact hws.symm | exact hcs.symm) ?_
                refine hS _ ?_
                clear hS
                refine q_step rfl (by decide) rfl fun _ hS => ?_
                repeat refine And.intro (by first | omega | exact trivial | rfl | (simp [hws] <;> omega) | exact hs.symm | exact hws.symm | exact hcs.symm) ?_
                first | refine hS _ ?_ | (refine ite_yes (by first | omega | exact trivial | rfl | (simp [hs, hl, hws, hcs, hlen] <;> omega) | exact hs.symm | exact hws.symm | exact hcs.symm) ?_; refine hS _ ?_)
                clear hS
                refine q_step rfl (by decide) rfl fun _ hS => ?_
                repeat refine And.intro (by first | omega | exact trivial | rfl | (simp [hs, hl, hws, hcs, hlen] <;> omega) | exact hs.symm | exact hws.symm | exact hcs.symm) ?_
                refine hS _ ?_
                clear hS
                refine q_step rfl (by decide) rfl fun _ hS => ?_
                refine hS _ ?_
                clear hS
                refine q_nil ?_
                refine hK41 _ ?_
                refine hK40 _ _ _ ?_
                refine seq_k fun _ hK42 => ?_
                refine quiet_k g4_ok (by kernel_rfl) fun _ hK43 => ?_
                refine q_step rfl (by decide) rfl fun _ hS => ?_
                repeat refine And.intro (by first | omega | exact trivial | rfl | (simp [hlen] <;> omega) | exact hs.symm | exact hws.symm | exact hcs.symm) ?_
                refine hS _ ?_
                clear hS
                refine q_step rfl (by decide) rfl fun _ hS => ?_
                repeat refine And.intro (by first | omega | exact trivial | rfl | (simp [hlen] <;> omega) | exact hs.symm | exact hws.symm | exact hcs.symm) ?_
                first | refine hS _ ?_ | (refine ite_yes (by first | omega | exact trivial | rfl | (simp [hs, hl, hws, hcs, hlen] <;> omega) | exact hs.symm | exact hws.symm | exact hcs.symm) ?_; refine hS _ ?_)
                clear hS
                refine q_step rfl (by decide) rfl fun _ hS => ?_
                repeat first | refine And.intro (by first | omega | exact trivial | rfl | (simp [hs, hl, hws, hcs, hlen] <;> omega) | exact hs.symm | exact hws.symm | exact hcs.symm) ?_ | refine whole_yes (by first | omega | exact trivial | rfl | (simp [hs, hl, hws, hcs, hlen] <;> omega) | exact hs.symm | exact hws.symm | exact hcs.symm) ?_ | refine whole_sub ?_
                first | refine hS _ ?_ | (intro cap2 hcap2; refine hS _ ?_)
                clear hS
                refine q_step rfl (by decide) rfl fun _ hS => ?_
                repeat refine And.intro (by first | omega | exact trivial | rfl | (simp [hlen] <;> omega) | exact hs.symm | exact hws.symm | exact hcs.symm) ?_
                refine hS _ ?_
                clear hS
                refine q_step rfl (by decide) rfl fun _ hS => ?_
                repeat refine And.intro (by first | omega | exact trivial | rfl | (simp [hlen] <;> omega) | exact hs.symm | exact hws.symm | exact hcs.symm) ?_
                first | refine hS _ ?_ | (refine ite_yes (by first | omega | exact trivial | rfl | (simp [hs, hl, hws, hcs, hlen] <;> omega) | exact hs.symm | exact hws.symm | exact hcs.symm) ?_; refine hS _ ?_)
                clear hS
                refine q_step rfl (by decide) rfl fun _ hS => ?_
                repeat first | refine And.intro (by first | omega | exact trivial | rfl | (simp [hs, hl, hws, hcs, hlen] <;> omega) | exact hs.symm | exact hws.symm | exact hcs.symm) ?_ | refine whole_yes (by first | omega | exact trivial | rfl | (simp [hs, hl, hws, hcs, hlen] <;> omega) | exact hs.symm | exact hws.symm | exact hcs.symm) ?_ | refine whole_sub ?_
                first | refine hS _ ?_ | (intro cap5 hcap5; refine hS _ ?_)
                clear hS
                refine q_step rfl (by decide) rfl fun _ hS => ?_
                repeat refine And.intro (by first | omega | exact trivial | rfl | (simp [hs, hl, hws, hcs, hlen] <;> omega) | exact hs.symm | exact hws.symm | exact hcs.symm) ?_
                refine hS _ ?_
                clear hS
                refine q_step rfl (by decide) rfl fun _ hS => ?_
                repeat refine And.intro (by first | omega | exact trivial | rfl | (simp [hlen] <;> omega) | exact hs.symm | exact hws.symm | exact hcs.symm) ?_
                refine hS _ ?_
                clear hS
                refine q_step rfl (by decide) rfl fun _ hS => ?_
                repeat refine And.intro (by first | omega | exact trivial | rfl | (simp [hlen] <;> omega) | exact hs.symm | exact hws.symm | exact hcs.symm) ?_
                first | refine hS _ ?_ | (refine ite_yes (by first | omega | exact trivial | rfl | (simp [hs, hl, hws, hcs, hlen] <;> omega) | exact hs.symm | exact hws.symm | exact hcs.symm) ?_; refine hS _ ?_)
                clear hS
                refine q_step rfl (by decide) rfl fun _ hS => ?_
                repeat first | refine And.intro (by first | omega | exact trivial | rfl | (simp [hs, hl, hws, hcs, hlen] <;> omega) | exact hs.symm | exact hws.symm | exact hcs.symm) ?_ | refine whole_yes (by first | omega | exact trivial | rfl | (simp [hs, hl, hws, hcs, hlen] <;> omega) | exact hs.symm | exact hws.symm | exact hcs.symm) ?_ | refine whole_sub ?_
                first | refine hS _ ?_ | (intro cap9 hcap9; refine hS _ ?_)
                clear hS
                refine q_step rfl (by decide) rfl fun _ hS => ?_
                repeat refine And.intro (by first | omega | exact trivial | rfl | (simp [hs, hl, hws, hcs, hlen] <;> omega) | exact hs.symm | exact hws.symm | exact hcs.symm) ?_
                refine hS _ ?_
                clear hS
                refine q_step rfl (by decide) rfl fun _ hS => ?_
                repeat refine And.intro (by first | omega | exact trivial | rfl | (simp [hlen] <;> omega) | exact hs.symm | exact hws.symm | exact hcs.symm) ?_
                refine hS _ ?_
                clear hS
                refine q_step rfl (by decide) rfl fun _ hS => ?_
                repeat refine And.intro (by first | omega | exact trivial | rfl | (simp [hlen] <;> omega) | exact hs.symm | exact hws.symm | exact hcs.symm) ?_
                first | refine hS _ ?_ | (refine ite_yes (by first | omega | exact trivial | rfl | (simp [hs, hl, hws, hcs, hlen] <;> omega) | exact hs.symm | exact hws.symm | exact hcs.symm) ?_; refine hS _ ?_)
                clear hS
                refine q_step rfl (by decide) rfl fun _ hS => ?_
                repeat refine And.intro (by first | omega | exact trivial | rfl | (simp [hlen] <;> omega) | exact hs.symm | exact hws.symm | exact hcs.symm) ?_
                refine hS _ ?_
                clear hS
                refine q_step rfl (by decide) rfl fun _ hS => ?_
                repeat refine And.intro (by first | omega | exact trivial | rfl | (simp [hlen] <;> omega) | exact hs.symm | exact hws.symm | exact hcs.symm) ?_
                first | refine hS _ ?_ | (refine ite_yes (by first | omega | exact trivial | rfl | (simp [hs, hl, hws, hcs, hlen] <;> omega) | exact hs.symm | exact hws.symm | exact hcs.symm) ?_; refine hS _ ?_)
                clear hS
                refine q_step rfl (by decide) rfl fun _ hS => ?_
                repeat refine And.intro (by first | omega | exact trivial | rfl | (simp [hs, hl, hws, hcs, hlen] <;> omega) | exact hs.symm | exact hws.symm | exact hcs.symm) ?_
                refine hS _ ?_
                clear hS
                refine q_step rfl (by decide) rfl fun _ hS => ?_
                repeat refine And.intro (by first | omega | exact trivial | rfl | (simp [hlen] <;> omega) | exact hs.symm | exact hws.symm | exact hcs.symm) ?_
                refine hS _ ?_
                clear hS
                refine q_step rfl (by decide) rfl fun _ hS => ?_
                repeat refine And.intro (by first | omega | exact trivial | rfl | (simp [hlen] <;> omega) | exact hs.symm | exact hws.symm | exact hcs.symm) ?_
                first | refine hS _ ?_ | (refine ite_yes (by first | omega | exact trivial | rfl | (simp [hs, hl, hws, hcs, hlen] <;> omega) | exact hs.symm | exact hws.symm | exact hcs.symm) ?_; refine hS _ ?_)
                clear hS
                refine q_step rfl (by decide) rfl fun _ hS => ?_
                repeat refine And.intro (by first | omega | exact trivial | rfl | (simp [hlen] <;> omega) | exact hs.symm | exact hws.symm | exact hcs.symm) ?_
                refine hS _ ?_
                clear hS
                refine q_step rfl (by decide) rfl fun _ hS => ?_
                repeat refine And.intro (by first | omega | exact trivial | rfl | (simp [hlen] <;> omega) | exact hs.symm | exact hws.symm | exact hcs.symm) ?_
                first | refine hS _ ?_ | (refine ite_yes (by first | omega | exact trivial | rfl | (simp [hs, hl, hws, hcs, hlen] <;> omega) | exact hs.symm | exact hws.symm | exact hcs.symm) ?_; refine hS _ ?_)
                clear hS
                refine q_step rfl (by decide) rfl fun _ hS => ?_
                repeat refine And.intro (by first | omega | exact trivial | rfl | (simp [hs, hl, hws, hcs, hlen] <;> omega) | exact hs.symm | exact hws.symm | exact hcs.symm) ?_
                refine hS _ ?_
                clear hS
                refine q_step rfl (by decide) rfl fun _ hS => ?_
                repeat refine And.intro (by first | omega | exact trivial | rfl | (simp [hs, hl, hws, hcs, hlen] <;> omega) | exact hs.symm | exact hws.symm | exact hcs.symm) ?_
                refine hS _ ?_
                clear hS
                refine q_step rfl (by decide) rfl fun _ hS => ?_
                repeat refine And.intro (by first | omega | exact trivial | rfl | (simp [hlen] <;> omega) | exact hs.symm | exact hws.symm | exact hcs.symm) ?_
                refine hS _ ?_
                clear hS
                refine q_step rfl (by decide) rfl fun _ hS => ?_
                repeat refine And.intro (by first | omega | exact trivial | rfl | (simp [hlen] <;> omega) | exact hs.symm | exact hws.symm | exact hcs.symm) ?_
                first | refine hS _ ?_ | (refine ite_yes (by first | omega | exact trivial | rfl | (simp [hs, hl, hws, hcs, hlen] <;> omega) | exact hs.symm | exact hws.symm | exact hcs.symm) ?_; refine hS _ ?_)
                clear hS
                refine q_step rfl (by decide) rfl fun _ hS => ?_
                repeat refine And.intro (by first | omega | exact trivial | rfl | (simp [hlen] <;> omega) | exact hs.symm | exact hws.symm | exact hcs.symm) ?_
                refine hS _ ?_
                clear hS
                refine q_step rfl (by decide) rfl fun _ hS => ?_
                repeat refine And.intro (by first | omega | exact trivial | rfl | (simp [hlen] <;> omega) | exact hs.symm | exact hws.symm | exact hcs.symm) ?_
                first | refine hS _ ?_ | (refine ite_yes (by first | omega | exact trivial | rfl | (simp [hs, hl, hws, hcs, hlen] <;> omega) | exact hs.symm | exact hws.symm | exact hcs.symm) ?_; refine hS _ ?_)
                clear hS
                refine q_step rfl (by decide) rfl fun _ hS => ?_
                repeat refine And.intro (by first | omega | exact trivial | rfl | (simp [hs, hl, hws, hcs, hlen] <;> omega) | exact hs.symm | exact hws.symm | exact hcs.symm) ?_
                refine hS _ ?_
                clear hS
                refine q_step rfl (by decide) rfl fun _ hS => ?_
                repeat refine And.intro (by first | omega | exact trivial | rfl | (simp [hs, hl, hws, hcs, hlen] <;> omega) | exact hs.symm | exact hws.symm | exact hcs.symm) ?_
                refine hS _ ?_
                clear hS
                refine q_step rfl (by decide) rfl fun _ hS => ?_
                repeat refine And.intro (by first | omega | exact trivial | rfl | (simp [hs, hl, hws, hcs, hlen] <;> omega) | exact hs.symm | exact hws.symm | exact hcs.symm) ?_
                refine hS _ ?_
                clear hS
                refine q_step rfl (by decide) rfl fun _ hS => ?_
                refine hS _ ?_
                clear hS
                refine q_nil ?_
                refine hK43 _ ?_
                refine hK42 _ _ _ ?_
                refine region_k g4_ok fun _ hK44 => ?_
                refine s_step rfl (by decide) rfl fun _ hS => ?_
                refine hS _ _ _ ?_
                clear hS
                refine s_step rfl (by decide) rfl fun _ hS => ?_
                refine hS _ _ _ ?_
                clear hS
                refine s_step rfl (by decide) rfl fun _ hS => ?_
                repeat refine And.intro (by first | omega | exact trivial | rfl | (simp [hs, hl, hws, hcs, hlen] <;> omega) | exact hlen.symm) ?_
                refine hS _ _ _ ?_
                clear hS
                refine s_step rfl (by decide) rfl fun _ hS => ?_
                repeat refine And.intro (by first | omega | exact trivial | rfl | (simp [hlen] <;> omega) | exact hlen.symm) ?_
                refine hS _ _ _ ?_
                clear hS
                refine s_step rfl (by decide) rfl fun _ hS => ?_
                repeat refine And.intro (by first | omega | exact trivial | rfl | (simp [hlen] <;> omega) | exact hlen.symm) ?_
                first | refine hS _ _ _ ?_ | (refine ite_yes (by first | omega | exact trivial | rfl | (simp [hs, hl, hws, hcs, hlen] <;> omega) | exact hlen.symm) ?_; refine hS _ _ _ ?_)
                clear hS
                refine s_step rfl (by decide) rfl fun _ hS => ?_
                repeat refine And.intro (by first | omega | exact trivial | rfl | (simp [hlen] <;> omega) | exact hlen.symm) ?_
                refine hS _ _ _ ?_
                clear hS
                refine s_step rfl (by decide) rfl fun _ hS => ?_
                repeat refine And.intro (by first | omega | exact trivial | rfl | (simp [hlen] <;> omega) | exact hlen.symm) ?_
                first | refine hS _ _ _ ?_ | (refine ite_yes (by first | omega | exact trivial | rfl | (simp [hs, hl, hws, hcs, hlen] <;> omega) | exact hlen.symm) ?_; refine hS _ _ _ ?_)
                clear hS
                refine s_step rfl (by decide) rfl fun _ hS => ?_
                repeat refine And.intro (by first | omega | exact trivial | rfl | (simp [hlen] <;> omega) | exact hlen.symm) ?_
                refine hS _ _ _ ?_
                clear hS
                refine s_step rfl (by decide) rfl fun _ hS => ?_
                repeat refine And.intro (by first | omega | exact trivial | rfl | (simp [hlen] <;> omega) | exact hlen.symm) ?_
                first | refine hS _ _ _ ?_ | (refine ite_yes (by first | omega | exact trivial | rfl | (simp [hs, hl, hws, hcs, hlen] <;> omega) | exact hlen.symm) ?_; refine hS _ _ _ ?_)
                clear hS
                refine s_step rfl (by decide) rfl fun _ hS => ?_
                repeat refine And.intro (by first | omega | exact trivial | rfl | (simp [hlen] <;> omega) | exact hlen.symm) ?_
                refine hS _ _ _ ?_
                clear hS
                refine s_step rfl (by decide) rfl fun _ hS => ?_
                repeat refine And.intro (by first | omega | exact trivial | rfl | (simp [hlen] <;> omega) | exact hlen.symm) ?_
                first | refine hS _ _ _ ?_ | (refine ite_yes (by first | omega | exact trivial | rfl | (simp [hs, hl, hws, hcs, hlen] <;> omega) | exact hlen.symm) ?_; refine hS _ _ _ ?_)
                clear hS
                refine s_step rfl (by decide) rfl fun _ hS => ?_
                refine hS _ _ _ ?_
                clear hS
                refine s_step rfl (by decide) rfl fun _ hS => ?_
                repeat refine And.intro (by first | omega | exact trivial | rfl | (simp [hs, hl, hws, hcs, hlen] <;> omega) | exact hlen.symm) ?_
                refine hS _ _ _ ?_
                clear hS
                refine s_step rfl (by decide) rfl fun _ hS => ?_
                repeat refine And.intro (by first | omega | exact trivial | rfl | (simp [hlen] <;> omega) | exact hlen.symm) ?_
                refine hS _ _ _ ?_
                clear hS
                refine s_step rfl (by decide) rfl fun _ hS => ?_
                repeat refine And.intro (by first | omega | exact trivial | rfl | (simp [hlen] <;> omega) | exact hlen.symm) ?_
                first | refine hS _ _ _ ?_ | (refine ite_yes (by first | omega | exact trivial | rfl | (simp [hs, hl, hws, hcs, hlen] <;> omega) | exact hlen.symm) ?_; refine hS _ _ _ ?_)
                clear hS
                refine s_step rfl (by decide) rfl fun _ hS => ?_
                repeat refine And.intro (by first | omega | exact trivial | rfl | (simp [hlen] <;> omega) | exact hlen.symm) ?_
                refine hS _ _ _ ?_
                clear hS
                refine s_step rfl (by decide) rfl fun _ hS => ?_
                repeat refine And.intro (by first | omega | exact trivial | rfl | (simp [hlen] <;> omega) | exact hlen.symm) ?_
                first | refine hS _ _ _ ?_ | (refine ite_yes (by first | omega | exact trivial | rfl | (simp [hs, hl, hws, hcs, hlen] <;> omega) | exact hlen.symm) ?_; refine hS _ _ _ ?_)
                clear hS
                refine s_step rfl (by decide) rfl fun _ hS => ?_
                repeat refine And.intro (by first | omega | exact trivial | rfl | (simp [hlen] <;> omega) | exact hlen.symm) ?_
                refine hS _ _ _ ?_
                clear hS
                refine s_step rfl (by decide) rfl fun _ hS => ?_
                repeat refine And.intro (by first | omega | exact trivial | rfl | (simp [hlen] <;> omega) | exact hlen.symm) ?_
                first | refine hS _ _ _ ?_ | (refine ite_yes (by first | omega | exact trivial | rfl | (simp [hs, hl, hws, hcs, hlen] <;> omega) | exact hlen.symm) ?_; refine hS _ _ _ ?_)
                clear hS
                refine s_step rfl (by decide) rfl fun _ hS => ?_
                repeat refine And.intro (by first | omega | exact trivial | rfl | (simp [hs, hl, hws, hcs, hlen] <;> omega) | exact hlen.symm) ?_
                refine hS _ _ _ ?_
                clear hS
                refine s_step0 rfl rfl fun _ hS => ?_
                repeat refine And.intro (by first | omega | exact trivial | rfl | (simp [hlen] <;> omega) | exact hlen.symm) ?_
                first | refine hS _ _ _ ?_ | (refine splice_full (by first | omega | exact trivial | rfl | (simp [hlen] <;> omega) | exact hlen.symm) ?_; refine hS _ _ _ ?_)
                clear hS
                refine s_nil ?_
                refine hK44 _ _ _ ?_
                refine done_block ?_
                refine hK37 _ _ _ ?_
                refine region_k g4_ok fun _ hK45 => ?_
                refine s_step rfl (by decide) rfl fun _ hS => ?_
                repeat refine And.intro (by first | omega | exact trivial | rfl | (simp <;> omega) | exact hs.symm | exact hws.symm | exact hcs.symm) ?_
                refine hS _ _ _ ?_
                clear hS
                refine s_step rfl (by decide) rfl fun _ hS => ?_
                refine hS _ _ _ ?_
                clear hS
                refine s_nil ?_
                refine hK45 _ _ _ ?_
                refine Done_some [] id (k + 1) ⟨by omega, by omega⟩ ⟨?_, ?_, (by decide : List.Nodup ([0, 1, 2] : List Nat)), ?_, ?_, ⟨Nat.le_of_ble_eq_true rfl, fun i hi => rfl⟩⟩
                · repeat' (first | exact trivial | refine And.intro ?_ ?_ | rfl | omega | decide | exact Nat.lt_of_sub_pos (by decide))
                · repeat' (first | exact trivial | refine And.intro ?_ ?_ | rfl | omega | decide | exact Nat.lt_of_sub_pos (by decide))
                  all_goals first | exact hs | exact hlen | (show (_ : List UInt32) = _; simp [Sha.rounds, Sha.round, Sha.mixX, Sha.mixY])
                · repeat' (first | exact trivial | refine And.intro ?_ ?_ | rfl | omega | decide | exact Nat.lt_of_sub_pos (by decide))
                · repeat' (first | exact trivial | refine And.intro ?_ ?_ | rfl | omega | decide | exact Nat.lt_of_sub_pos (by decide))
              · try simp only [decide_eq_false_iff_not, Int.not_lt] at h_t104
                refine WP_exit ?_
                refine done_thenx ?_
                refine done_thenx ?_
                refine Done_hit ?_
                refine hK31 _ _ _ ?_
                refine seq_k fun _ hK46 => ?_
                refine region_k g4_ok fun _ hK47 => ?_
                refine s_step rfl (by decide) rfl fun _ hS => ?_
                refine hS _ _ _ ?_
                clear hS
                refine s_nil ?_
                refine hK47 _ _ _ ?_
                refine hK46 _ _ _ ?_
                refine WP_block ?_
                obtain rfl : k = 64 := by omega
                have hlen64 := hlen
                refine WP_loop (α := Nat) (fun k => [(0, .c (.ptr 0 0)), (11, .c (.ptr 2 0)), (190, .c (.int .i64 k))]) (fun k => [(0, .own 49 (.u32s (Sha.addTo s (Sha.rounds (Sha.sched l 64) s 64) k)) 8), (1, .own 60 (.u32s (Sha.sched l 64)) 64), (2, .own 49 (.u32s (Sha.rounds (Sha.sched l 64) s 64)) 8)]) 3 (fun k => k ≤ 8) (fun k => 8 - k) ?_ ?_
                · refine Done_some [] id 0 (Nat.zero_le _) ⟨?_, ?_, (by decide : List.Nodup ([0, 1, 2] : List Nat)), ?_, ?_, ⟨Nat.le_of_ble_eq_true rfl, fun i hi => rfl⟩⟩
                  · repeat' (first | exact trivial | refine And.intro ?_ ?_ | rfl | omega | decide | exact Nat.lt_of_sub_pos (by decide))
                  · repeat' (first | exact trivial | refine And.intro ?_ ?_ | rfl | omega | decide | exact Nat.lt_of_sub_pos (by decide))
                    all_goals first | exact hs | exact hlen | (show (_ : List UInt32) = _; simp [Sha.addTo])
                  · repeat' (first | exact trivial | refine And.intro ?_ ?_ | rfl | omega | decide | exact Nat.lt_of_sub_pos (by decide))
                  · repeat' (first | exact trivial | refine And.intro ?_ ?_ | rfl | omega | decide | exact Nat.lt_of_sub_pos (by decide))
                · intro k hk
                  have hlen2 : (Sha.addTo s (Sha.rounds (Sha.sched l 64) s 64) k).length = 8 := Sha.addTo_length s _ k hs hlen64
                  refine seq_k fun _ hK48 => ?_
                  refine region_k g4_ok fun _ hK49 => ?_
                  refine s_step rfl (by decide) rfl fun _ hS => ?_
                  repeat refine And.intro (by first | omega | exact trivial | rfl | (simp [hs, hl, hws, hcs] <;> omega) | exact hs.symm | exact hws.symm | exact hcs.symm) ?_
                  refine hS _ _ _ ?_
                  clear hS
                  refine s_nil ?_
                  refine hK49 _ _ _ ?_
                  refine hK48 _ _ _ ?_
                  refine seq_k fun _ hK50 => ?_
                  refine WP_cond (b := _) rfl (fun h_t191 => ?_) (fun h_t191 => ?_)
                  · try simp only [decide_eq_true_eq] at h_t191
                    refine WP_skip ?_
                    refine hK50 _ _ _ ?_
                    refine seq_k fun _ hK51 => ?_
                    refine WP_block ?_
                    refine seq_k fun _ hK52 => ?_
                    refine region_k g4_ok fun _ hK53 => ?_
                    refine s_step rfl (by decide) rfl fun _ hS => ?_
                    refine hS _ _ _ ?_
                    clear hS
                    refine s_step rfl (by decide) rfl fun _ hS => ?_
                    refine hS _ _ _ ?_
                    clear hS
                    refine s_nil ?_
                    refine hK53 _ _ _ ?_
                    refine hK52 _ _ _ ?_
                    refine tail_k g4_ok 11 (by kernel_rfl) fun _ hK54 => ?_
                    simp only [List.take_succ_cons, List.take_zero, List.drop_succ_cons, List.drop_zero]
                    refine q_step rfl (by decide) rfl fun _ hS => ?_
                    refine hS _ ?_
                    clear hS
                    refine q_step rfl (by decide) rfl fun _ hS => ?_
                    refine hS _ ?_
                    clear hS
                    refine q_step rfl (by decide) rfl fun _ hS => ?_
                    repeat refine And.intro (by first | omega | exact trivial | rfl | (simp [hlen2] <;> omega) | exact hs.symm | exact hws.symm | exact hcs.symm) ?_
                    refine hS _ ?_
                    clear hS
                    refine q_step rfl (by decide) rfl fun _ hS => ?_
                    repeat refine And.intro (by first | omega | exact trivial | rfl | (simp [hlen2] <;> omega) | exact hs.symm | exact hws.symm | exact hcs.symm) ?_
                    refine hS _ ?_
                    clear hS
                    refine q_step rfl (by decide) rfl fun _ hS => ?_
                    repeat refine And.intro (by first | omega | exact trivial | rfl | (simp [hlen2] <;> omega) | exact hs.symm | exact hws.symm | exact hcs.symm) ?_
                    first | refine hS _ ?_ | (refine ite_yes (by first | omega | exact trivial | rfl | (simp [hs, hl, hws, hcs, hlen2, hlen64] <;> omega) | exact hs.symm | exact hws.symm | exact hcs.symm) ?_; refine hS _ ?_)
                    clear hS
                    refine q_step rfl (by decide) rfl fun _ hS => ?_
                    refine hS _ ?_
                    clear hS
                    refine q_step rfl (by decide) rfl fun _ hS => ?_
                    repeat refine And.intro (by first | omega | exact trivial | rfl | (simp [hlen64] <;> omega) | exact hs.symm | exact hws.symm | exact hcs.symm) ?_
                    refine hS _ ?_
                    clear hS
                    refine q_step rfl (by decide) rfl fun _ hS => ?_
                    repeat refine And.intro (by first | omega | exact trivial | rfl | (simp [hlen64] <;> omega) | exact hs.symm | exact hws.symm | exact hcs.symm) ?_
                    first | refine hS _ ?_ | (refine ite_yes (by first | omega | exact trivial | rfl | (simp [hs, hl, hws, hcs, hlen2, hlen64] <;> omega) | exact hs.symm | exact hws.symm | exact hcs.symm) ?_; refine hS _ ?_)
                    clear hS
                    refine q_step rfl (by decide) rfl fun _ hS => ?_
                    repeat refine And.intro (by first | omega | exact trivial | rfl | (simp [hs, hl, hws, hcs, hlen2, hlen64] <;> omega) | exact hs.symm | exact hws.symm | exact hcs.symm) ?_
                    refine hS _ ?_
                    clear hS
                    refine q_step rfl (by decide) rfl fun _ hS => ?_
                    repeat refine And.intro (by first | omega | exact trivial | rfl | (simp [hlen2] <;> omega) | exact hs.symm | exact hws.symm | exact hcs.symm) ?_
                    refine hS _ ?_
                    clear hS
                    refine q_step rfl (by decide) rfl fun _ hS => ?_
                    repeat refine And.intro (by first | omega | exact trivial | rfl | (simp [hlen2] <;> omega) | exact hs.symm | exact hws.symm | exact hcs.symm) ?_
                    refine hS _ ?_
                    clear hS
                    refine q_nil ?_
                    refine s_step0 rfl rfl fun _ hS => ?_
                    repeat refine And.intro (by first | omega | exact trivial | rfl | (simp [hlen2] <;> omega) | exact hs.symm | exact hws.symm | exact hcs.symm) ?_
                    first | refine hS _ _ _ ?_ | (refine splice_full (by first | omega | exact trivial | rfl | (simp [hs, hl, hws, hcs, hlen2, hlen64] <;> omega) | exact hs.symm | exact hws.symm | exact hcs.symm) ?_; refine hS _ _ _ ?_)
                    clear hS
                    refine s_nil ?_
                    refine hK54 _ _ _ ?_
                    have e1 := Sha.addTo_step s _ k hs hlen64 (by omega)
                    rw [← Sha.addTo_get s _ k hs hlen64 (by omega)] at e1
                    refine done_block ?_
                    refine hK51 _ _ _ ?_
                    refine region_k g4_ok fun _ hK55 => ?_
                    refine s_step rfl (by decide) rfl fun _ hS => ?_
                    repeat refine And.intro (by first | omega | exact trivial | rfl | (simp <;> omega) | exact hs.symm | exact hws.symm | exact hcs.symm) ?_
                    refine hS _ _ _ ?_
                    clear hS
                    refine s_step rfl (by decide) rfl fun _ hS => ?_
                    refine hS _ _ _ ?_
                    clear hS
                    refine s_nil ?_
                    refine hK55 _ _ _ ?_
                    refine Done_some [] id (k + 1) ⟨by omega, by omega⟩ ⟨?_, ?_, (by decide : List.Nodup ([0, 1, 2] : List Nat)), ?_, ?_, ⟨Nat.le_of_ble_eq_true rfl, fun i hi => rfl⟩⟩
                    · repeat' (first | exact trivial | refine And.intro ?_ ?_ | rfl | omega | decide | exact Nat.lt_of_sub_pos (by decide))
                    · repeat' (first | exact trivial | refine And.intro ?_ ?_ | rfl | omega | decide | exact Nat.lt_of_sub_pos (by decide))
                      all_goals first | exact hs | exact hlen | (show (_ : List UInt32) = _; simp only [Nat.zero_add, Nat.mul_one]; exact e1)
                    · repeat' (first | exact trivial | refine And.intro ?_ ?_ | rfl | omega | decide | exact Nat.lt_of_sub_pos (by decide))
                    · repeat' (first | exact trivial | refine And.intro ?_ ?_ | rfl | omega | decide | exact Nat.lt_of_sub_pos (by decide))
                  · try simp only [decide_eq_false_iff_not, Int.not_lt] at h_t191
                    refine WP_exit ?_
                    refine done_thenx ?_
                    refine done_thenx ?_
                    refine Done_hit ?_
                    refine Done_ptr0 g4_ok (fun _ _ h => h) rfl ?_
                    obtain rfl : k = 8 := by omega
                    show Option.some (SObj.own 49 (.u32s (Sha.addTo s (Sha.rounds (Sha.sched l 64) s 64) 8)) 8) = _
                    rw [Sha.addTo_full _ _ hs hlen64, addAll_comm]
  · exact h.elim

end Go.Proofs.YtdanaehfdbdhdaaDoor
