/- The law of the lengths. -/
import Derived.Test.YtdanaehfdbdhdaaDoorVo
namespace Go.Proofs.YtdanaehfdbdhdaaDoor
set_option linter.unusedVariables false
open Go.Ab Go.RowKit

theorem rep_set (n k : Nat) (b : UInt8) (h : k < n) : (List.replicate k b ++ List.replicate (n - k) 0).set k b = List.replicate (k + 1) b ++ List.replicate (n - (k + 1)) 0 := by
  have e : List.replicate (n - k) (0 : UInt8) = 0 :: List.replicate (n - (k + 1)) 0 := by
    rw [← List.replicate_succ]; congr 1; omega
  rw [e, List.set_append_right _ _ (by simp), List.length_replicate, Nat.sub_self, List.set_cons_zero, List.replicate_succ' (n := k), List.append_assoc, List.singleton_append]
noncomputable def gb : Ctx := { P := Tryd.prog, ty := ty, glob := gl, fs := [(11, .flat sanityS), (14, .flat sumS), (15, .flat sumS)] }
theorem gb_ok (h27 : FlatOK Tryd.prog gl 27 hashS) : gb.OK := ⟨tyOK, ⟨⟨enters_mk Tryd.func11 (by kernel_rfl) rfl, sanity_ok h27⟩, ⟨enters_mk Tryd.func14 (by kernel_rfl) rfl, sum_ok h27⟩, ⟨enters_mk Tryd.func15 (by kernel_rfl) rfl, sumR_ok⟩, trivial⟩, mixed⟩
@[simp] theorem gb_ty : gb.ty = ty := rfl


attribute [local irreducible] Sha.sum
def lawLengthsS : QSpec := fun vs K => match vs with
  | [.c (.u8 _), .c (.u8 _)] => K (.c (.bool true))
  | _ => False
set_option maxHeartbeats 1000000 in
theorem lawLengths_ok (h27 : FlatOK Tryd.prog gl 27 hashS) : FlatOK Tryd.prog gl 4 lawLengthsS := by
  refine flat_of (Γ := gb) (N := 30) Tryd.func4 rfl rfl fun vs K h => ?_
  unfold lawLengthsS at h
  split at h
  · rename_i a b
    refine ⟨_, h, rfl, by simp, fun w I => ?_⟩
    have ha := a.toNat_lt
    have hs := Sha.sum_length
    refine seq_k fun _ hK1 => ?_
    refine region_k (gb_ok h27) fun _ hK2 => ?_
    refine s_step rfl (by decide) rfl fun _ hS => ?_
    refine hS _ _ _ ?_
    clear hS
    refine s_nil ?_
    refine hK2 _ _ _ ?_
    refine hK1 _ _ _ ?_
    refine seq_k fun _ hK3 => ?_
    refine region_k (gb_ok h27) fun _ hK4 => ?_
    refine s_step rfl (by decide) rfl fun _ hS => ?_
    repeat first | refine And.intro (by first | omega | exact trivial | rfl | exact inR_i64.mpr ⟨by omega, by omega⟩ | (simp [hs] <;> omega) | (refine And.intro ?_ ?_ <;> exact trivial) | exact ⟨trivial, trivial, trivial⟩) ?_ | refine whole_yes (by first | omega | exact trivial | rfl | exact inR_i64.mpr ⟨by omega, by omega⟩ | (simp [hs] <;> omega) | (refine And.intro ?_ ?_ <;> exact trivial) | exact ⟨trivial, trivial, trivial⟩) ?_ | refine whole_sub ?_
    first | refine hS _ _ _ ?_ | (intro cap0 hcap0; refine hS _ _ _ ?_)
    clear hS
    refine s_step rfl (by decide) rfl fun _ hS => ?_
    refine hS _ _ _ ?_
    clear hS
    refine s_nil ?_
    refine hK4 _ _ _ ?_
    refine hK3 _ _ _ ?_
    refine seq_k fun _ hK5 => ?_
    refine region_k (gb_ok h27) fun _ hK6 => ?_
    refine s_step rfl (by decide) rfl fun _ hS => ?_
    refine hS _ _ _ ?_
    clear hS
    refine s_step rfl (by decide) rfl fun _ hS => ?_
    repeat first | refine And.intro (by first | omega | exact trivial | rfl | exact inR_i64.mpr ⟨by omega, by omega⟩ | (simp [hs] <;> omega) | (refine And.intro ?_ ?_ <;> exact trivial) | exact ⟨trivial, trivial, trivial⟩) ?_ | refine whole_yes (by first | omega | exact trivial | rfl | exact inR_i64.mpr ⟨by omega, by omega⟩ | (simp [hs] <;> omega) | (refine And.intro ?_ ?_ <;> exact trivial) | exact ⟨trivial, trivial, trivial⟩) ?_ | refine whole_sub ?_
    refine hS _ _ _ ?_
    clear hS
    refine s_step rfl (by decide) rfl fun _ hS => ?_
    repeat refine And.intro (by first | omega | exact trivial | rfl | exact inR_i64.mpr ⟨by omega, by omega⟩ | (simp [hs] <;> omega) | (refine And.intro ?_ ?_ <;> exact trivial) | exact ⟨trivial, trivial, trivial⟩) ?_
    refine hS _ _ _ ?_
    clear hS
    refine s_step rfl (by decide) rfl fun _ hS => ?_
    refine hS _ _ _ ?_
    clear hS
    refine s_nil ?_
    refine hK6 _ _ _ ?_
    refine hK5 _ _ _ ?_
    refine seq_k fun _ hK7 => ?_
    refine seq_k fun _ hK8 => ?_
    refine region_k (gb_ok h27) fun _ hK9 => ?_
    refine s_step rfl (by decide) rfl fun _ hS => ?_
    refine hS _ _ _ ?_
    clear hS
    refine s_nil ?_
    refine hK9 _ _ _ ?_
    refine hK8 _ _ _ ?_
    refine WP_block ?_
    refine WP_loop (α := Nat) (fun k => [(1, .c (.u8 b)), (5, .c (.bool true)), (6, .c (.slice 0 0 a.toNat a.toNat)), (7, .c (.int .i64 k))]) (fun k => [(0, .own 5 (.u8s (List.replicate k b ++ List.replicate (a.toNat - k) 0)) a.toNat)]) 1 (fun k => k ≤ a.toNat) (fun k => a.toNat - k) ?_ ?_
    · refine Done_some [] id 0 (Nat.zero_le _) ⟨?_, ?_, (by decide : List.Nodup ([0] : List Nat)), ?_, ?_, ⟨Nat.zero_le _, fun i hi => absurd hi (Nat.not_lt_zero i)⟩⟩
      · repeat' (first | exact trivial | refine And.intro ?_ ?_ | rfl | omega | decide | (show (_ : Nat) < _; decide))
        all_goals first | (show (_ : List UInt8) = _; simp; done) | (show (_ : List UInt8) = _; simp only [Nat.zero_add, Nat.mul_one]; exact rep_set _ k b (by omega)) | (simp; done) | (simp <;> omega)
      · repeat' (first | exact trivial | refine And.intro ?_ ?_ | rfl | omega | decide | (show (_ : Nat) < _; decide))
        all_goals first | (show (_ : List UInt8) = _; simp; done) | (show (_ : List UInt8) = _; simp only [Nat.zero_add, Nat.mul_one]; exact rep_set _ k b (by omega)) | (simp; done) | (simp <;> omega)
      · repeat' (first | exact trivial | refine And.intro ?_ ?_ | rfl | omega | decide | (show (_ : Nat) < _; decide))
      · repeat' (first | exact trivial | refine And.intro ?_ ?_ | rfl | omega | decide | (show (_ : Nat) < _; decide))
    · intro k hk
      have hl : (List.replicate k b ++ List.replicate (a.toNat - k) 0).length = a.toNat := by simp; omega
      refine seq_k fun _ hK10 => ?_
      refine seq_k fun _ hK11 => ?_
      refine region_k (gb_ok h27) fun _ hK12 => ?_
      refine s_step rfl (by decide) rfl fun _ hS => ?_
      refine hS _ _ _ ?_
      clear hS
      refine s_step rfl (by decide) rfl fun _ hS => ?_
      refine hS _ _ _ ?_
      clear hS
      refine s_step rfl (by decide) rfl fun _ hS => ?_
      repeat refine And.intro (by first | omega | exact trivial | rfl | exact inR_i64.mpr ⟨by omega, by omega⟩ | (simp [hs] <;> omega) | (refine And.intro ?_ ?_ <;> exact trivial) | exact ⟨trivial, trivial, trivial⟩) ?_
      refine hS _ _ _ ?_
      clear hS
      refine s_step rfl (by decide) rfl fun _ hS => ?_
      repeat refine And.intro (by first | omega | exact trivial | rfl | exact inR_i64.mpr ⟨by omega, by omega⟩ | (simp [hs] <;> omega) | (refine And.intro ?_ ?_ <;> exact trivial) | exact ⟨trivial, trivial, trivial⟩) ?_
      refine hS _ _ _ ?_
      clear hS
      refine s_nil ?_
      refine hK12 _ _ _ ?_
      refine hK11 _ _ _ ?_
      refine WP_cond (b := _) rfl (fun h_t15 => ?_) (fun h_t15 => ?_)
      · try simp only [decide_eq_true_eq] at h_t15
        refine WP_skip ?_
        refine hK10 _ _ _ ?_
        refine seq_k fun _ hK13 => ?_
        refine WP_block ?_
        refine region_k (gb_ok h27) fun _ hK14 => ?_
        refine s_step rfl (by decide) rfl fun _ hS => ?_
        refine hS _ _ _ ?_
        clear hS
        refine s_step rfl (by decide) rfl fun _ hS => ?_
        refine hS _ _ _ ?_
        clear hS
        refine s_step rfl (by decide) rfl fun _ hS => ?_
        refine hS _ _ _ ?_
        clear hS
        refine s_step rfl (by decide) rfl fun _ hS => ?_
        repeat refine And.intro (by first | omega | exact trivial | rfl | exact inR_i64.mpr ⟨by omega, by omega⟩ | (simp [hl] <;> omega) | (refine And.intro ?_ ?_ <;> exact trivial) | exact ⟨trivial, trivial, trivial⟩) ?_
        refine hS _ _ _ ?_
        clear hS
        refine s_step0 rfl rfl fun _ hS => ?_
        repeat refine And.intro (by first | omega | exact trivial | rfl | exact inR_i64.mpr ⟨by omega, by omega⟩ | (simp [hl] <;> omega) | (refine And.intro ?_ ?_ <;> exact trivial) | exact ⟨trivial, trivial, trivial⟩) ?_
        first | refine hS _ _ _ ?_ | (refine splice_full (by first | omega | exact trivial | rfl | exact inR_i64.mpr ⟨by omega, by omega⟩ | (simp [hs, hl] <;> omega) | (refine And.intro ?_ ?_ <;> exact trivial) | exact ⟨trivial, trivial, trivial⟩) ?_; refine hS _ _ _ ?_)
        clear hS
        refine s_nil ?_
        refine hK14 _ _ _ ?_
        refine done_block ?_
        refine hK13 _ _ _ ?_
        refine region_k (gb_ok h27) fun _ hK15 => ?_
        refine s_step rfl (by decide) rfl fun _ hS => ?_
        refine hS _ _ _ ?_
        clear hS
        refine s_step rfl (by decide) rfl fun _ hS => ?_
        repeat refine And.intro (by first | omega | exact trivial | rfl | exact inR_i64.mpr ⟨by omega, by omega⟩ | (simp [hs] <;> omega) | (refine And.intro ?_ ?_ <;> exact trivial) | exact ⟨trivial, trivial, trivial⟩) ?_
        refine hS _ _ _ ?_
        clear hS
        refine s_step rfl (by decide) rfl fun _ hS => ?_
        refine hS _ _ _ ?_
        clear hS
        refine s_nil ?_
        refine hK15 _ _ _ ?_
        refine Done_some [] id (k + 1) ⟨by omega, by omega⟩ ⟨?_, ?_, (by decide : List.Nodup ([0] : List Nat)), ?_, ?_, ⟨Nat.zero_le _, fun i hi => absurd hi (Nat.not_lt_zero i)⟩⟩
        · repeat' (first | exact trivial | refine And.intro ?_ ?_ | rfl | omega | decide | (show (_ : Nat) < _; decide))
          all_goals first | (show (_ : List UInt8) = _; simp; done) | (show (_ : List UInt8) = _; simp only [Nat.zero_add, Nat.mul_one]; exact rep_set _ k b (by omega)) | (simp; done) | (simp <;> omega)
        · repeat' (first | exact trivial | refine And.intro ?_ ?_ | rfl | omega | decide | (show (_ : Nat) < _; decide))
          all_goals first | (show (_ : List UInt8) = _; simp; done) | (show (_ : List UInt8) = _; simp only [Nat.zero_add, Nat.mul_one]; exact rep_set _ k b (by omega)) | (simp; done) | (simp <;> omega)
        · repeat' (first | exact trivial | refine And.intro ?_ ?_ | rfl | omega | decide | (show (_ : Nat) < _; decide))
        · repeat' (first | exact trivial | refine And.intro ?_ ?_ | rfl | omega | decide | (show (_ : Nat) < _; decide))
      · try simp only [decide_eq_false_iff_not, Int.not_lt] at h_t15
        refine WP_exit ?_
        refine done_thenx ?_
        refine done_thenx ?_
        refine Done_hit ?_
        refine hK7 _ _ _ ?_
        refine seq_k fun _ hK16 => ?_
        refine region_k (gb_ok h27) fun _ hK17 => ?_
        refine s_step rfl (by decide) rfl fun _ hS => ?_
        refine hS _ _ _ ?_
        clear hS
        refine s_step rfl (by decide) rfl fun _ hS => ?_
        repeat first | refine And.intro (by first | omega | exact trivial | rfl | exact inR_i64.mpr ⟨by omega, by omega⟩ | (simp [hl] <;> omega) | exact ⟨rfl, rfl⟩ | (refine And.intro ?_ ?_ <;> exact trivial) | exact ⟨trivial, trivial, trivial⟩) ?_ | refine whole_yes (by first | omega | exact trivial | rfl | exact inR_i64.mpr ⟨by omega, by omega⟩ | (simp [hl] <;> omega) | exact ⟨rfl, rfl⟩ | (refine And.intro ?_ ?_ <;> exact trivial) | exact ⟨trivial, trivial, trivial⟩) ?_ | refine whole_sub ?_
        first | refine hS _ _ _ ?_ | (intro cap1 hcap1; refine hS _ _ _ ?_)
        clear hS
        refine s_step rfl (by decide) rfl fun _ hS => ?_
        refine hS _ _ _ ?_
        clear hS
        refine s_step rfl (by decide) rfl fun _ hS => ?_
        repeat first | refine And.intro (by first | omega | exact trivial | rfl | exact inR_i64.mpr ⟨by omega, by omega⟩ | (simp [hl] <;> omega) | exact ⟨rfl, rfl⟩ | (refine And.intro ?_ ?_ <;> exact trivial) | exact ⟨trivial, trivial, trivial⟩) ?_ | refine whole_yes (by first | omega | exact trivial | rfl | exact inR_i64.mpr ⟨by omega, by omega⟩ | (simp [hl] <;> omega) | exact ⟨rfl, rfl⟩ | (refine And.intro ?_ ?_ <;> exact trivial) | exact ⟨trivial, trivial, trivial⟩) ?_ | refine whole_sub ?_
        first | refine hS _ _ _ ?_ | (intro cap3 hcap3; refine hS _ _ _ ?_)
        clear hS
        refine s_step rfl (by decide) rfl fun _ hS => ?_
        repeat refine And.intro (by first | omega | exact trivial | rfl | exact inR_i64.mpr ⟨by omega, by omega⟩ | (simp [hs] <;> omega) | exact ⟨rfl, rfl⟩ | (refine And.intro ?_ ?_ <;> exact trivial) | exact ⟨trivial, trivial, trivial⟩) ?_
        refine hS _ _ _ ?_
        clear hS
        refine s_step rfl (by decide) rfl fun _ hS => ?_
        refine s_split hS (fun hb5 => ?_) (fun hb5 => ?_)
        rotate_left 1
        · exfalso; exact absurd rfl (of_decide_eq_false hb5)
        clear hS
        refine s_guard (b := true) rfl (by decide) rfl rfl (fun _ _ hS => ?_) (fun e => absurd e (by decide))
        refine hS _ _ _ ?_
        clear hS
        refine s_step rfl (by decide) rfl fun _ hS => ?_
        refine hS _ _ _ ?_
        clear hS
        refine s_step rfl (by decide) rfl fun _ hS => ?_
        refine hS _ _ _ ?_
        clear hS
        refine s_nil ?_
        refine hK17 _ _ _ ?_
        refine hK16 _ _ _ ?_
        refine WP_ret (Done_flat (gb_ok h27) (fun _ _ h => h) (by first | rfl | assumption) [.tmp 4] rfl ?_)
        repeat refine And.intro (by first | omega | exact trivial | rfl | (simp <;> omega)) ?_
        try refine ite_yes (by first | omega | exact trivial | rfl | (simp <;> omega)) ?_
        show _ = _
        rfl
  · exact h.elim

end Go.Proofs.YtdanaehfdbdhdaaDoor
