/- The sum of the reference. -/
import Derived.Test.YtdanaehfdbdhdaaDoorVd
namespace Go.Proofs.YtdanaehfdbdhdaaDoor
set_option linter.unusedVariables false
open Go.Ab Go.RowKit

theorem pad_length (l : List UInt8) : (Sha.pad l).length = l.length + 1 + Sha.zeros l.length + 8 := by
  rw [← padB_full, padB_length _ _ (Nat.le_refl _)]
theorem pad_mod (l : List UInt8) : (Sha.pad l).length % 64 = 0 := by
  rw [pad_length]; unfold Sha.zeros; omega

def outArr (s : List UInt32) (n : Nat) : List UInt8 := (Sha.out s).take n ++ List.replicate (32 - n) 0
theorem outArr_length (s : List UInt32) (n : Nat) (h : n ≤ 32) : (outArr s n).length = 32 := by
  simp [outArr, Sha.out]; omega
theorem outArr_step (s : List UInt32) (n : Nat) (h : n < 32) : (outArr s n).set n (shr32 (s.getD (n / 4) 0) (24 - 8 * (n % 4))).toUInt8 = outArr s (n + 1) := by
  have e : List.replicate (32 - n) (0 : UInt8) = 0 :: List.replicate (32 - (n + 1)) 0 := by
    rw [← List.replicate_succ]; congr 1; omega
  have e2 : (Sha.out s)[n]? = some (shr32 (s.getD (n / 4) 0) (24 - 8 * (n % 4))).toUInt8 := by
    simp [Sha.out, h]
  have hl : ((Sha.out s).take n).length = n := by simp [Sha.out]; omega
  rw [outArr, outArr, e, List.set_append_right _ _ (by omega), hl, Nat.sub_self, List.set_cons_zero, List.take_add_one, e2, Option.toList_some, List.append_assoc, List.singleton_append]
theorem outArr_full (s : List UInt32) : outArr s 32 = Sha.out s := by
  rw [outArr, List.take_of_length_le (by simp [Sha.out])]; simp

noncomputable def g3 : Ctx := { P := Tryd.prog, ty := ty, glob := gl, fs := [(28, .flat initialS), (30, .flat compressRS), (29, .own padS)] }
theorem g3_ok : g3.OK := ⟨tyOK, ⟨⟨enters_mk Tryd.func28 (by kernel_rfl) rfl, initial_ok⟩, ⟨enters_mk Tryd.func30 (by kernel_rfl) rfl, compressR_ok⟩, ⟨enters_mk Tryd.func29 (by kernel_rfl) rfl, pad_ok⟩, trivial⟩, mixed⟩
@[simp] theorem g3_ty : g3.ty = ty := rfl

theorem start_length : Sha.start.length = 8 := rfl
attribute [local irreducible] Sha.pad Sha.fold Sha.compress Sha.start Sha.out outArr
def sumS : QSpec := fun vs K => match vs with
  | [.c (.ds n (.u8s l))] => (n = l.length ∧ n ≤ 1048576) ∧ K (.agg (.u8s (Sha.sum l)))
  | _ => False
set_option maxHeartbeats 1000000 in
theorem sumR_ok : FlatOK Tryd.prog gl 15 sumS := by
  refine flat_of (Γ := g3) (N := 42) Tryd.func15 rfl rfl fun vs K h => ?_
  unfold sumS at h
  split at h
  · rename_i n l
    obtain ⟨⟨hn, hl⟩, h⟩ := h
    subst hn
    refine ⟨_, h, rfl, by simp, fun w I => ?_⟩
    rw [Sha.sum]
    have hpm := pad_mod l
    have hpl := pad_length l
    have hz := zeros_lt l.length
    have hst : Sha.start.length = 8 := start_length
    refine seq_k fun _ hK1 => ?_
    refine region_k g3_ok fun _ hK2 => ?_
    refine s_step rfl (by decide) rfl fun _ hS => ?_
    repeat refine And.intro (by first | omega | exact trivial | rfl | (simp [hst] <;> omega)) ?_
    refine hS _ _ _ ?_
    clear hS
    refine s_nil ?_
    refine hK2 _ _ _ ?_
    refine hK1 _ _ _ ?_
    refine seq_k fun _ hK3 => ?_
    refine region_k g3_ok fun _ hK4 => ?_
    refine s_step rfl (by decide) rfl fun _ hS => ?_
    repeat first | refine And.intro (by first | omega | exact trivial | rfl | (simp [hst] <;> omega) | exact hst.symm) ?_ | refine whole_yes (by first | omega | exact trivial | rfl | (simp [hst] <;> omega) | exact hst.symm) ?_ | refine whole_sub ?_
    first | refine hS _ _ _ ?_ | (intro cap0 hcap0; refine hS _ _ _ ?_)
    clear hS
    refine s_step rfl (by decide) rfl fun _ hS => ?_
    refine hS _ _ _ ?_
    clear hS
    refine s_step rfl (by decide) rfl fun _ hS => ?_
    repeat first | refine And.intro (by first | omega | exact trivial | rfl | (simp [hst] <;> omega) | exact hst.symm) ?_ | refine whole_yes (by first | omega | exact trivial | rfl | (simp [hst] <;> omega) | exact hst.symm) ?_ | refine whole_sub ?_
    first | refine hS _ _ _ ?_ | (intro cap2 hcap2; refine hS _ _ _ ?_)
    clear hS
    refine s_step rfl (by decide) rfl fun _ hS => ?_
    repeat refine And.intro (by first | omega | exact trivial | rfl | (simp [hst] <;> omega) | exact hst.symm) ?_
    refine hS _ _ _ ?_
    clear hS
    refine s_step0 rfl rfl fun _ hS => ?_
    repeat refine And.intro (by first | omega | exact trivial | rfl | (simp [hst] <;> omega) | exact hst.symm) ?_
    first | refine hS _ _ _ ?_ | (refine splice_full (by first | omega | exact trivial | rfl | (simp [hst] <;> omega) | exact hst.symm) ?_; refine hS _ _ _ ?_)
    clear hS
    refine s_step rfl (by decide) rfl fun _ hS => ?_
    refine hS _ _ _ ?_
    clear hS
    refine s_nil ?_
    refine hK4 _ _ _ ?_
    refine hK3 _ _ _ ?_
    refine seq_k fun _ hK5 => ?_
    refine seq_k fun _ hK6 => ?_
    refine region_k g3_ok fun _ hK7 => ?_
    refine s_step rfl (by decide) rfl fun _ hS => ?_
    refine hS _ _ _ ?_
    clear hS
    refine s_nil ?_
    refine hK7 _ _ _ ?_
    refine hK6 _ _ _ ?_
    refine WP_block ?_
    refine WP_loop (α := Nat) (fun k => [(0, .c (.ds l.length (.u8s l))), (2, .c (.ptr 0 0)), (3, .c (.ptr 2 0)), (4, .c (.slice 1 0 (Sha.pad l).length cap2)), (5, .c (.int .i64 ((64 * k : Nat) : Int)))]) (fun k => [(0, .own 24 (.u8s (List.replicate 32 0)) 32), (1, .own 5 (.u8s (Sha.pad l)) cap2), (2, .own 49 (.u32s (Sha.fold (Sha.pad l) k)) 8)]) 3 (fun k => k ≤ (Sha.pad l).length / 64) (fun k => (Sha.pad l).length / 64 - k) ?_ ?_
    · refine Done_some [] id 0 (Nat.zero_le _) ⟨?_, ?_, (by decide : List.Nodup ([0, 1, 2] : List Nat)), ?_, ?_, ⟨Nat.zero_le _, fun i hi => absurd hi (Nat.not_lt_zero i)⟩⟩
      · repeat' (first | exact trivial | refine And.intro ?_ ?_ | rfl | omega | decide | exact Nat.lt_of_sub_pos (by decide))
        all_goals first | (simp; done) | (simp <;> omega) | (simp [Sha.fold, outArr]; done)
      · repeat' (first | exact trivial | refine And.intro ?_ ?_ | rfl | omega | decide | exact Nat.lt_of_sub_pos (by decide))
        all_goals first | exact hlen | exact hst | (show (_ : List UInt32) = _; simp only [Sha.fold]; done) | (show (_ : List UInt32) = _; simp only [Sha.fold, Nat.zero_add, Nat.mul_one, Option.getD_some, show ((64 * k : Nat) : Int).toNat = 64 * k by omega, show (((64 * k : Nat) : Int) + 64).toNat = 64 * k + 64 by omega, Nat.add_sub_cancel_left, g3_ty, size_5]; done) | (show (_ : List UInt8) = _; simp [outArr]; done) | (show (_ : List UInt8) = _; simp only [Nat.zero_add, Nat.mul_one]; exact e1) | (simp; done)
      · repeat' (first | exact trivial | refine And.intro ?_ ?_ | rfl | omega | decide | exact Nat.lt_of_sub_pos (by decide))
      · repeat' (first | exact trivial | refine And.intro ?_ ?_ | rfl | omega | decide | exact Nat.lt_of_sub_pos (by decide))
    · intro k hk
      have hlen : (Sha.fold (Sha.pad l) k).length = 8 := Sha.fold_length _ k
      refine seq_k fun _ hK8 => ?_
      refine seq_k fun _ hK9 => ?_
      refine region_k g3_ok fun _ hK10 => ?_
      refine s_step rfl (by decide) rfl fun _ hS => ?_
      refine hS _ _ _ ?_
      clear hS
      refine s_step rfl (by decide) rfl fun _ hS => ?_
      refine hS _ _ _ ?_
      clear hS
      refine s_step rfl (by decide) rfl fun _ hS => ?_
      repeat refine And.intro (by first | omega | exact trivial | rfl | (simp [hst] <;> omega)) ?_
      refine hS _ _ _ ?_
      clear hS
      refine s_step rfl (by decide) rfl fun _ hS => ?_
      repeat refine And.intro (by first | omega | exact trivial | rfl | (simp [hst] <;> omega)) ?_
      refine hS _ _ _ ?_
      clear hS
      refine s_nil ?_
      refine hK10 _ _ _ ?_
      refine hK9 _ _ _ ?_
      refine WP_cond (b := _) rfl (fun h_t14 => ?_) (fun h_t14 => ?_)
      · try simp only [decide_eq_true_eq] at h_t14
        refine WP_skip ?_
        refine hK8 _ _ _ ?_
        refine seq_k fun _ hK11 => ?_
        refine WP_block ?_
        have hcl : ∀ b, (Sha.compress (Sha.fold (Sha.pad l) k) b).length = 8 := fun b => Sha.compress_length _ _ hlen
        refine tail_k g3_ok 7 (by kernel_rfl) fun _ hK12 => ?_
        simp only [List.take_succ_cons, List.take_zero, List.drop_succ_cons, List.drop_zero]
        refine q_step rfl (by decide) rfl fun _ hS => ?_
        repeat refine And.intro (by first | omega | exact trivial | rfl | (simp [hlen] <;> omega) | exact hlen.symm | exact (hcl _).symm) ?_
        first | refine hS _ ?_ | (refine ite_yes (by first | omega | exact trivial | rfl | (simp [hlen] <;> omega) | exact hlen.symm | exact (hcl _).symm) ?_; refine hS _ ?_)
        clear hS
        refine q_step rfl (by decide) rfl fun _ hS => ?_
        refine hS _ ?_
        clear hS
        refine q_step rfl (by decide) rfl fun _ hS => ?_
        refine hS _ ?_
        clear hS
        refine q_step rfl (by decide) rfl fun _ hS => ?_
        refine hS _ ?_
        clear hS
        refine q_step rfl (by decide) rfl fun _ hS => ?_
        repeat refine And.intro (by first | omega | exact trivial | rfl | (simp <;> omega) | exact hlen.symm | exact (hcl _).symm) ?_
        refine hS _ ?_
        clear hS
        refine q_step rfl (by decide) rfl fun _ hS => ?_
        repeat refine And.intro (by first | omega | exact trivial | rfl | (simp <;> omega) | exact hlen.symm | exact (hcl _).symm) ?_
        refine hS _ ?_
        clear hS
        refine q_step rfl (by decide) rfl fun _ hS => ?_
        repeat first | refine And.intro (by first | omega | exact trivial | rfl | (simp [hlen] <;> omega) | exact hlen.symm | exact (hcl _).symm) ?_ | refine whole_yes (by first | omega | exact trivial | rfl | (simp [hst, hlen, hcl] <;> omega) | exact hlen.symm | exact (hcl _).symm) ?_ | refine whole_sub ?_
        first | refine hS _ ?_ | (intro cap6 hcap6; refine hS _ ?_)
        clear hS
        refine q_nil ?_
        refine s_step0 rfl rfl fun _ hS => ?_
        repeat refine And.intro (by first | omega | exact trivial | rfl | (simp [hlen, hcl] <;> omega) | exact hlen.symm | exact (hcl _).symm) ?_
        first | refine hS _ _ _ ?_ | (refine splice_full (by first | omega | exact trivial | rfl | (simp [hlen, hcl] <;> omega) | exact hlen.symm | exact (hcl _).symm) ?_; refine hS _ _ _ ?_)
        clear hS
        refine s_nil ?_
        refine hK12 _ _ _ ?_
        refine done_block ?_
        refine hK11 _ _ _ ?_
        refine region_k g3_ok fun _ hK13 => ?_
        refine s_step rfl (by decide) rfl fun _ hS => ?_
        refine hS _ _ _ ?_
        clear hS
        refine s_step rfl (by decide) rfl fun _ hS => ?_
        repeat refine And.intro (by first | omega | exact trivial | rfl | (simp <;> omega)) ?_
        refine hS _ _ _ ?_
        clear hS
        refine s_step rfl (by decide) rfl fun _ hS => ?_
        refine hS _ _ _ ?_
        clear hS
        refine s_nil ?_
        refine hK13 _ _ _ ?_
        refine Done_some [] id (k + 1) ⟨by omega, by omega⟩ ⟨?_, ?_, (by decide : List.Nodup ([0, 1, 2] : List Nat)), ?_, ?_, ⟨Nat.zero_le _, fun i hi => absurd hi (Nat.not_lt_zero i)⟩⟩
        · repeat' (first | exact trivial | refine And.intro ?_ ?_ | rfl | omega | decide | exact Nat.lt_of_sub_pos (by decide))
          all_goals first | (simp; done) | (simp <;> omega) | (simp [Sha.fold, outArr]; done)
        · repeat' (first | exact trivial | refine And.intro ?_ ?_ | rfl | omega | decide | exact Nat.lt_of_sub_pos (by decide))
          all_goals first | exact hlen | exact hst | (show (_ : List UInt32) = _; simp only [Sha.fold]; done) | (show (_ : List UInt32) = _; simp only [Sha.fold, Nat.zero_add, Nat.mul_one, Option.getD_some, show ((64 * k : Nat) : Int).toNat = 64 * k by omega, show (((64 * k : Nat) : Int) + 64).toNat = 64 * k + 64 by omega, Nat.add_sub_cancel_left, g3_ty, size_5]; done) | (show (_ : List UInt8) = _; simp [outArr]; done) | (show (_ : List UInt8) = _; simp only [Nat.zero_add, Nat.mul_one]; exact e1) | (simp; done)
        · repeat' (first | exact trivial | refine And.intro ?_ ?_ | rfl | omega | decide | exact Nat.lt_of_sub_pos (by decide))
        · repeat' (first | exact trivial | refine And.intro ?_ ?_ | rfl | omega | decide | exact Nat.lt_of_sub_pos (by decide))
      · try simp only [decide_eq_false_iff_not, Int.not_lt] at h_t14
        refine WP_exit ?_
        refine done_thenx ?_
        refine done_thenx ?_
        refine Done_hit ?_
        refine hK5 _ _ _ ?_
        refine seq_k fun _ hK14 => ?_
        refine region_k g3_ok fun _ hK15 => ?_
        refine s_step rfl (by decide) rfl fun _ hS => ?_
        repeat refine And.intro (by first | omega | exact trivial | rfl | (simp [hst] <;> omega)) ?_
        refine hS _ _ _ ?_
        clear hS
        refine s_step rfl (by decide) rfl fun _ hS => ?_
        repeat refine And.intro (by first | omega | exact trivial | rfl | (simp [hst] <;> omega)) ?_
        refine hS _ _ _ ?_
        clear hS
        refine s_step0 rfl rfl fun _ hS => ?_
        repeat refine And.intro (by first | omega | exact trivial | rfl | (simp <;> omega)) ?_
        first | refine hS _ _ _ ?_ | (refine splice_full (by first | omega | exact trivial | rfl | (simp [hst] <;> omega)) ?_; refine hS _ _ _ ?_)
        clear hS
        refine s_nil ?_
        refine hK15 _ _ _ ?_
        refine hK14 _ _ _ ?_
        refine seq_k fun _ hK16 => ?_
        refine seq_k fun _ hK17 => ?_
        refine region_k g3_ok fun _ hK18 => ?_
        refine s_step rfl (by decide) rfl fun _ hS => ?_
        refine hS _ _ _ ?_
        clear hS
        refine s_nil ?_
        refine hK18 _ _ _ ?_
        refine hK17 _ _ _ ?_
        refine WP_block ?_
        have hk2 : k = (Sha.pad l).length / 64 := by omega
        subst hk2
        refine WP_loop (α := Nat) (fun k => [(0, .c (.ds l.length (.u8s l))), (2, .c (.ptr 0 0)), (3, .c (.ptr 2 0)), (4, .c (.slice 1 0 (Sha.pad l).length cap2)), (6, .c (.ptr 3 0)), (7, .c (.int .i64 k))]) (fun k => [(0, .own 24 (.u8s (List.replicate 32 0)) 32), (1, .own 5 (.u8s (Sha.pad l)) cap2), (2, .own 49 (.u32s (Sha.fold (Sha.pad l) ((Sha.pad l).length / 64))) 8), (3, .own 24 (.u8s (outArr (Sha.fold (Sha.pad l) ((Sha.pad l).length / 64)) k)) 32)]) 4 (fun k => k ≤ 32) (fun k => 32 - k) ?_ ?_
        · refine Done_some [] id 0 (Nat.zero_le _) ⟨?_, ?_, (by decide : List.Nodup ([0, 1, 2, 3] : List Nat)), ?_, ?_, ⟨Nat.zero_le _, fun i hi => absurd hi (Nat.not_lt_zero i)⟩⟩
          · repeat' (first | exact trivial | refine And.intro ?_ ?_ | rfl | omega | decide | exact Nat.lt_of_sub_pos (by decide))
            all_goals first | (simp; done) | (simp <;> omega) | (simp [Sha.fold, outArr]; done)
          · repeat' (first | exact trivial | refine And.intro ?_ ?_ | rfl | omega | decide | exact Nat.lt_of_sub_pos (by decide))
            all_goals first | exact hlen | exact hst | (show (_ : List UInt32) = _; simp only [Sha.fold]; done) | (show (_ : List UInt32) = _; simp only [Sha.fold, Nat.zero_add, Nat.mul_one, Option.getD_some, show ((64 * k : Nat) : Int).toNat = 64 * k by omega, show (((64 * k : Nat) : Int) + 64).toNat = 64 * k + 64 by omega, Nat.add_sub_cancel_left, g3_ty, size_5]; done) | (show (_ : List UInt8) = _; simp [outArr]; done) | (show (_ : List UInt8) = _; simp only [Nat.zero_add, Nat.mul_one]; exact e1) | (simp; done)
          · repeat' (first | exact trivial | refine And.intro ?_ ?_ | rfl | omega | decide | exact Nat.lt_of_sub_pos (by decide))
          · repeat' (first | exact trivial | refine And.intro ?_ ?_ | rfl | omega | decide | exact Nat.lt_of_sub_pos (by decide))
        · intro k hk
          have hlen2 := outArr_length (Sha.fold (Sha.pad l) ((Sha.pad l).length / 64)) k hk
          refine seq_k fun _ hK19 => ?_
          refine seq_k fun _ hK20 => ?_
          refine region_k g3_ok fun _ hK21 => ?_
          refine s_step rfl (by decide) rfl fun _ hS => ?_
          refine hS _ _ _ ?_
          clear hS
          refine s_step rfl (by decide) rfl fun _ hS => ?_
          repeat refine And.intro (by first | omega | exact trivial | rfl | (simp [hst] <;> omega)) ?_
          refine hS _ _ _ ?_
          clear hS
          refine s_nil ?_
          refine hK21 _ _ _ ?_
          refine hK20 _ _ _ ?_
          refine WP_cond (b := _) rfl (fun h_t26 => ?_) (fun h_t26 => ?_)
          · try simp only [decide_eq_true_eq] at h_t26
            refine WP_skip ?_
            refine hK19 _ _ _ ?_
            refine seq_k fun _ hK22 => ?_
            refine WP_block ?_
            refine region_k g3_ok fun _ hK23 => ?_
            refine s_step rfl (by decide) rfl fun _ hS => ?_
            refine hS _ _ _ ?_
            clear hS
            refine s_step rfl (by decide) rfl fun _ hS => ?_
            refine hS _ _ _ ?_
            clear hS
            refine s_step rfl (by decide) rfl fun _ hS => ?_
            repeat refine And.intro (by first | omega | exact trivial | rfl | (simp <;> omega)) ?_
            refine hS _ _ _ ?_
            clear hS
            refine s_step rfl (by decide) rfl fun _ hS => ?_
            repeat refine And.intro (by first | omega | exact trivial | rfl | (simp [hlen] <;> omega)) ?_
            refine hS _ _ _ ?_
            clear hS
            refine s_step rfl (by decide) rfl fun _ hS => ?_
            repeat refine And.intro (by first | omega | exact trivial | rfl | (simp [hlen] <;> omega)) ?_
            first | refine hS _ _ _ ?_ | (refine ite_yes (by first | omega | exact trivial | rfl | (simp [hst, hlen, hlen2] <;> omega)) ?_; refine hS _ _ _ ?_)
            clear hS
            refine s_step rfl (by decide) rfl fun _ hS => ?_
            refine hS _ _ _ ?_
            clear hS
            refine s_step rfl (by decide) rfl fun _ hS => ?_
            repeat refine And.intro (by first | omega | exact trivial | rfl | (simp [hst, hlen, hlen2] <;> omega)) ?_
            refine hS _ _ _ ?_
            clear hS
            refine s_step rfl (by decide) rfl fun _ hS => ?_
            repeat refine And.intro (by first | omega | exact trivial | rfl | (simp <;> omega)) ?_
            refine hS _ _ _ ?_
            clear hS
            refine s_step rfl (by decide) rfl fun _ hS => ?_
            repeat refine And.intro (by first | omega | exact trivial | rfl | (simp <;> omega)) ?_
            refine hS _ _ _ ?_
            clear hS
            refine s_step rfl (by decide) rfl fun _ hS => ?_
            repeat refine And.intro (by first | omega | exact trivial | rfl | (simp [hst, hlen, hlen2] <;> omega)) ?_
            refine hS _ _ _ ?_
            clear hS
            refine s_step rfl (by decide) rfl fun _ hS => ?_
            repeat first | refine And.intro (by first | omega | exact trivial | rfl | (simp [hst, hlen, hlen2] <;> omega)) ?_ | refine whole_yes (by first | omega | exact trivial | rfl | (simp [hst, hlen, hlen2] <;> omega)) ?_ | refine whole_sub ?_
            refine hS _ _ _ ?_
            clear hS
            refine s_step rfl (by decide) rfl fun _ hS => ?_
            repeat refine And.intro (by first | omega | exact trivial | rfl | (simp [hlen2] <;> omega)) ?_
            refine hS _ _ _ ?_
            clear hS
            refine s_step0 rfl rfl fun _ hS => ?_
            repeat refine And.intro (by first | omega | exact trivial | rfl | (simp [hlen2] <;> omega)) ?_
            first | refine hS _ _ _ ?_ | (refine splice_full (by first | omega | exact trivial | rfl | (simp [hst, hlen, hlen2] <;> omega)) ?_; refine hS _ _ _ ?_)
            clear hS
            refine s_nil ?_
            refine hK23 _ _ _ ?_
            have e1 := outArr_step (Sha.fold (Sha.pad l) ((Sha.pad l).length / 64)) k (by omega)
            rw [show k / 4 = ((k : Int) / 4).toNat by omega, show 24 - 8 * (k % 4) = (24 - 8 * ((k : Int) % 4)).toNat by omega] at e1
            refine done_block ?_
            refine hK22 _ _ _ ?_
            refine region_k g3_ok fun _ hK24 => ?_
            refine s_step rfl (by decide) rfl fun _ hS => ?_
            refine hS _ _ _ ?_
            clear hS
            refine s_step rfl (by decide) rfl fun _ hS => ?_
            repeat refine And.intro (by first | omega | exact trivial | rfl | (simp <;> omega)) ?_
            refine hS _ _ _ ?_
            clear hS
            refine s_step rfl (by decide) rfl fun _ hS => ?_
            refine hS _ _ _ ?_
            clear hS
            refine s_nil ?_
            refine hK24 _ _ _ ?_
            refine Done_some [] id (k + 1) ⟨by omega, by omega⟩ ⟨?_, ?_, (by decide : List.Nodup ([0, 1, 2, 3] : List Nat)), ?_, ?_, ⟨Nat.zero_le _, fun i hi => absurd hi (Nat.not_lt_zero i)⟩⟩
            · repeat' (first | exact trivial | refine And.intro ?_ ?_ | rfl | omega | decide | exact Nat.lt_of_sub_pos (by decide))
              all_goals first | (simp; done) | (simp <;> omega) | (simp [Sha.fold, outArr]; done)
            · repeat' (first | exact trivial | refine And.intro ?_ ?_ | rfl | omega | decide | exact Nat.lt_of_sub_pos (by decide))
              all_goals first | exact hlen | exact hst | (show (_ : List UInt32) = _; simp only [Sha.fold]; done) | (show (_ : List UInt32) = _; simp only [Sha.fold, Nat.zero_add, Nat.mul_one, Option.getD_some, show ((64 * k : Nat) : Int).toNat = 64 * k by omega, show (((64 * k : Nat) : Int) + 64).toNat = 64 * k + 64 by omega, Nat.add_sub_cancel_left, g3_ty, size_5]; done) | (show (_ : List UInt8) = _; simp [outArr]; done) | (show (_ : List UInt8) = _; simp only [Nat.zero_add, Nat.mul_one]; exact e1) | (simp; done)
            · repeat' (first | exact trivial | refine And.intro ?_ ?_ | rfl | omega | decide | exact Nat.lt_of_sub_pos (by decide))
            · repeat' (first | exact trivial | refine And.intro ?_ ?_ | rfl | omega | decide | exact Nat.lt_of_sub_pos (by decide))
          · try simp only [decide_eq_false_iff_not, Int.not_lt] at h_t26
            refine WP_exit ?_
            refine done_thenx ?_
            refine done_thenx ?_
            refine Done_hit ?_
            refine hK16 _ _ _ ?_
            refine seq_k fun _ hK25 => ?_
            refine region_k g3_ok fun _ hK26 => ?_
            refine s_step rfl (by decide) rfl fun _ hS => ?_
            repeat refine And.intro (by first | omega | exact trivial | rfl | (simp [hlen2] <;> omega) | exact hlen2.symm) ?_
            first | refine hS _ _ _ ?_ | (refine ite_yes (by first | omega | exact trivial | rfl | (simp [hlen2] <;> omega) | exact hlen2.symm) ?_; refine hS _ _ _ ?_)
            clear hS
            refine s_step0 rfl rfl fun _ hS => ?_
            repeat refine And.intro (by first | omega | exact trivial | rfl | (simp [hlen2] <;> omega) | exact hlen2.symm) ?_
            first | refine hS _ _ _ ?_ | (refine splice_full (by first | omega | exact trivial | rfl | (simp [hlen2] <;> omega) | exact hlen2.symm) ?_; refine hS _ _ _ ?_)
            clear hS
            refine s_nil ?_
            refine hK26 _ _ _ ?_
            refine hK25 _ _ _ ?_
            refine WP_ret (Done_flat g3_ok (fun _ _ h => h) (by first | rfl | assumption) [.cell 2 24] rfl ?_)
            repeat refine And.intro (by first | omega | exact trivial | rfl | (simp [hlen2] <;> omega)) ?_
            try refine ite_yes (by first | omega | exact trivial | rfl | (simp [hlen2] <;> omega)) ?_
            obtain rfl : k = 32 := by omega
            show SV.agg (.u8s (outArr _ 32)) = _
            rw [outArr_full]
  · exact h.elim

end Go.Proofs.YtdanaehfdbdhdaaDoor
