/- The program's hash of a list of byte slices. -/
import Derived.Test.YtdanaehfdbdhdaaDoorVx
import Derived.Test.YtdanaehfdbdhdaaDoorVi
namespace Go.Proofs.YtdanaehfdbdhdaaDoor
set_option linter.unusedVariables false
open Go.Ab Go.RowKit

noncomputable def gy : Ctx := { P := Tryd.prog, ty := ty, glob := gl, fs := [(31, .data blocksS), (32, .gen (ptrS compressP))] }
theorem gy_ok : gy.OK := ⟨tyOK, ⟨⟨enters_mk Tryd.func31 (by kernel_rfl) rfl, blocks_ok⟩, ⟨enters_mk Tryd.func32 (by kernel_rfl) rfl, gen_ptr compress_ok⟩, trivial⟩, mixed⟩
@[simp] theorem gy_ty : gy.ty = ty := rfl


theorem fold_zero (p : List UInt8) : Sha.fold p 0 = [1779033703, 3144134277, 1013904242, 2773480762, 1359893119, 2600822924, 528734635, 1541459225] := rfl
attribute [local irreducible] Sha.pad Sha.compress Sha.start Sha.out outArr
set_option maxHeartbeats 1000000 in
theorem hash_ok : FlatOK Tryd.prog gl 27 hashS := by
  refine flat_ofM (Γ := gy) (N := 30) Tryd.func27 rfl rfl fun vs K h => ?_
  obtain ⟨ps, rfl, ⟨hn, hb⟩, h⟩ := h
  refine ⟨_, h, rfl, by simp, fun w I => ?_⟩
  have hst : Sha.start.length = 8 := start_length
  have hse := fold_zero (Sha.pad ps.flatten)
  obtain ⟨p, hp⟩ : ∃ p, p = Sha.pad ps.flatten := ⟨_, rfl⟩
  have hseq := seq_ok ps hn hb
  rw [Sha.sum]
  rw [← hp] at hseq hse ⊢
  refine seq_k fun _ hK1 => ?_
  refine region_k gy_ok fun _ hK2 => ?_
  refine s_step rfl (by decide) rfl fun _ hS => ?_
  repeat refine And.intro (by first | omega | exact trivial | rfl | exact inR_i64.mpr ⟨by omega, by omega⟩ | (simp [hst] <;> omega) | (refine And.intro ?_ ?_ <;> exact trivial) | exact ⟨trivial, trivial, trivial⟩) ?_
  refine hS _ _ _ ?_
  clear hS
  refine s_nil ?_
  refine hK2 _ _ _ ?_
  refine hK1 _ _ _ ?_
  refine seq_k fun _ hK3 => ?_
  refine region_k gy_ok fun _ hK4 => ?_
  refine s_step rfl (by decide) rfl fun _ hS => ?_
  repeat refine And.intro (by first | omega | exact trivial | rfl | exact inR_i64.mpr ⟨by omega, by omega⟩ | (simp [hst] <;> omega) | exact hst.symm | (refine And.intro ?_ ?_ <;> exact trivial) | exact ⟨trivial, trivial, trivial⟩) ?_
  refine hS _ _ _ ?_
  clear hS
  refine s_step rfl (by decide) rfl fun _ hS => ?_
  repeat refine And.intro (by first | omega | exact trivial | rfl | exact inR_i64.mpr ⟨by omega, by omega⟩ | (simp [hst] <;> omega) | exact hst.symm | (refine And.intro ?_ ?_ <;> exact trivial) | exact ⟨trivial, trivial, trivial⟩) ?_
  refine hS _ _ _ ?_
  clear hS
  refine s_step0 rfl rfl fun _ hS => ?_
  repeat refine And.intro (by first | omega | exact trivial | rfl | exact inR_i64.mpr ⟨by omega, by omega⟩ | (simp <;> omega) | exact hst.symm | (refine And.intro ?_ ?_ <;> exact trivial) | exact ⟨trivial, trivial, trivial⟩) ?_
  first | refine hS _ _ _ ?_ | (refine splice_full (by first | omega | exact trivial | rfl | exact inR_i64.mpr ⟨by omega, by omega⟩ | (simp [hst] <;> omega) | exact hst.symm | (refine And.intro ?_ ?_ <;> exact trivial) | exact ⟨trivial, trivial, trivial⟩) ?_; refine hS _ _ _ ?_)
  clear hS
  refine s_nil ?_
  refine hK4 _ _ _ ?_
  refine hK3 _ _ _ ?_
  refine seq_kC fun _ hK5 => ?_
  refine seq_k fun _ hK6 => ?_
  refine region_k gy_ok fun _ hK7 => ?_
  refine s_step rfl (by decide) rfl fun _ hS => ?_
  refine hS _ _ _ ?_
  clear hS
  refine s_step rfl (by decide) rfl fun _ hS => ?_
  repeat first | refine And.intro (by first | omega | exact trivial | rfl | exact inR_i64.mpr ⟨by omega, by omega⟩ | (simp [hst] <;> omega) | (refine And.intro ?_ ?_ <;> exact trivial) | exact ⟨trivial, trivial, trivial⟩) ?_ | refine whole_yes (by first | omega | exact trivial | rfl | exact inR_i64.mpr ⟨by omega, by omega⟩ | (simp [hst] <;> omega) | (refine And.intro ?_ ?_ <;> exact trivial) | exact ⟨trivial, trivial, trivial⟩) ?_ | refine whole_sub ?_
  refine Exists.intro ps ?_
  refine And.intro rfl ?_
  repeat refine And.intro (by first | omega | exact trivial | rfl | exact inR_i64.mpr ⟨by omega, by omega⟩ | (simp [hst] <;> omega) | (refine And.intro ?_ ?_ <;> exact trivial) | exact ⟨trivial, trivial, trivial⟩) ?_
  first | refine hS _ _ _ ?_ | (intro cap1 hcap1; refine hS _ _ _ ?_)
  clear hS
  refine s_nil ?_
  refine hK7 _ _ _ ?_
  refine hK6 _ _ _ ?_
  refine WP_le (is := []) (ρ := id) (E' := [(0, .c (.ds ps.length (.cells (lists ps)))), (2, .c (.ptr 0 0)), (3, .c (.ptr 1 0)), (9, .c (.clo 36 [boxOf ps]))]) (H' := [(0, .own 24 (.u8s (List.replicate 32 0)) 32), (1, .own 49 (.u32s (Sha.fold p (0))) 8)]) (n' := 2) ⟨?_, ?_, (by decide : List.Nodup ([0, 1] : List Nat)), ?_, ?_, ⟨Nat.zero_le _, fun i hi => absurd hi (Nat.not_lt_zero i)⟩⟩ ?_
  · repeat' (first | exact trivial | refine And.intro ?_ ?_ | rfl | omega | decide | (show (_ : Nat) < _; decide))
    all_goals first | (simp; done) | (simp <;> omega) | skip
  · repeat' (first | exact trivial | refine And.intro ?_ ?_ | rfl | omega | decide | (show (_ : Nat) < _; decide))
    all_goals first | exact hst | (show (_ : List UInt32) = _; first | exact hse.symm | rfl) | (show (_ : List UInt8) = _; simp [outArr]; done) | (show (_ : List UInt8) = _; simp only [Nat.zero_add, Nat.mul_one]; exact e1) | (simp; done) | skip
  · repeat' (first | exact trivial | refine And.intro ?_ ?_ | rfl | omega | decide | (show (_ : Nat) < _; decide))
    all_goals exact SV.low_mono (Nat.zero_le _) (box_low ps)
  · repeat' (first | exact trivial | refine And.intro ?_ ?_ | rfl | omega | decide | (show (_ : Nat) < _; decide))
    all_goals exact SV.low_mono (Nat.zero_le _) (box_low ps)
  refine WP_block ?_
  refine WP_rangeF gy_ok (caps := [boxOf ps]) (enters_mk Tryd.func36 (by kernel_rfl) rfl) hseq rfl (fun v hv => ?_) (by decide) (fun k => [(0, .own 24 (.u8s (List.replicate 32 0)) 32), (1, .own 49 (.u32s (Sha.fold p (k))) 8)]) rfl ?_ ?_ (fun k => (4, .c (.ds 64 (.u8s (chunk p k)))) :: (10, .c (.ds 64 (.u8s (chunk p k)))) :: [(0, .c (.ds ps.length (.cells (lists ps)))), (2, .c (.ptr 0 0)), (3, .c (.ptr 1 0)), (9, .c (.clo 36 [boxOf ps]))]) ?_ ?_ ?_
  · rw [List.mem_singleton.1 hv]
    trivial
  · intro k id o ho
    simp only [Heap.get] at ho ⊢
    split at ho
    · exact ⟨_, if_pos (by assumption)⟩
    · split at ho
      · rename_i h1 h2; subst h2; exact ⟨_, rfl⟩
      · cases ho
  · intro k id o ho
    simp only [Heap.get] at ho
    split at ho
    · rename_i h1; cases ho; subst h1; exact ⟨by decide, trivial⟩
    · split at ho
      · rename_i h1 h2; cases ho; subst h2; exact ⟨by decide, trivial⟩
      · cases ho
  · intro k x hx C' ro m Q hQ
    have hk : k < p.length / 64 := by rw [← chunks_length]; exact (List.getElem?_eq_some_iff.1 hx).1
    rw [chunks_get hk] at hx
    cases hx
    refine WPi_region gy_ok fun _ hK => ?_
    refine y_step rfl (by decide) rfl (by intro c h; cases h) fun _ hS => ?_
    refine hS _ _ _ ?_
    refine y_nil ?_
    exact hK _ _ _ hQ
  · intro k x hx C' ro m Q hQ
    have hk : k < p.length / 64 := by rw [← chunks_length]; exact (List.getElem?_eq_some_iff.1 hx).1
    have hlen : (Sha.fold p k).length = 8 := Sha.fold_length _ k
    have hcl : (chunk p k).length = 64 := by simp [chunk]; omega
    refine WPi_block ?_
    refine WPi_region gy_ok fun _ hK => ?_
    refine y_step rfl (by decide) rfl (by intro c h; cases h) fun _ hS => ?_
    refine hS _ _ _ ?_
    clear hS
    refine y_step rfl (by decide) rfl (by intro c h; cases h) fun _ hS => ?_
    refine And.intro ⟨rfl, (show 0 < (Sha.fold p k).length by omega), fun v hv => by rw [List.mem_singleton.1 hv]; trivial⟩ ?_
    refine And.intro ⟨rfl, rfl, rfl, rfl, hcl, hlen⟩ ?_
    refine hS _ _ _ ?_
    refine y_nil ?_
    exact hK _ _ _ (hQ _ _ _ (Heap.sub_of (List.forall_mem_cons.2 ⟨rfl, List.forall_mem_cons.2 ⟨rfl, fun _ h => by cases h⟩⟩)))
  · intro β1 I1 w1 d hH1 hd0 hA
    rw [chunks_length] at hH1 hA ⊢
    refine done_block ?_
    refine hK5 _ _ _ _ ?_
    refine seq_k fun _ hK8 => ?_
    refine region_k gy_ok fun _ hK9 => ?_
    refine s_step rfl (by decide) rfl fun _ hS => ?_
    repeat refine And.intro (by first | omega | exact trivial | rfl | exact inR_i64.mpr ⟨by omega, by omega⟩ | (simp [hst] <;> omega) | (refine And.intro ?_ ?_ <;> exact trivial) | exact ⟨trivial, trivial, trivial⟩) ?_
    refine hS _ _ _ ?_
    clear hS
    refine s_nil ?_
    refine hK9 _ _ _ ?_
    refine hK8 _ _ _ ?_
    refine seq_k fun _ hK10 => ?_
    refine seq_k fun _ hK11 => ?_
    refine region_k gy_ok fun _ hK12 => ?_
    refine s_step rfl (by decide) rfl fun _ hS => ?_
    refine hS _ _ _ ?_
    clear hS
    refine s_nil ?_
    refine hK12 _ _ _ ?_
    refine hK11 _ _ _ ?_
    refine WP_block ?_
    have hlen : (Sha.fold p (p.length / 64)).length = 8 := Sha.fold_length _ _
    refine WP_loop (α := Nat) (fun k => [(0, .c (.ds ps.length (.cells (lists ps)))), (2, .c (.ptr 0 0)), (3, .c (.ptr 1 0)), (5, .c (.ptr 2 0)), (13, .c (.int .i64 k))]) (fun k => [(0, .own 24 (.u8s (List.replicate 32 0)) 32), (1, .own 49 (.u32s (Sha.fold p (p.length / 64))) 8), (2, .own 24 (.u8s (outArr (Sha.fold p (p.length / 64)) k)) 32)]) 3 (fun k => k ≤ 32) (fun k => 32 - k) ?_ ?_
    · refine Done_some [] id 0 (Nat.zero_le _) ⟨?_, ?_, (by decide : List.Nodup ([0, 1, 2] : List Nat)), ?_, ?_, ⟨(show 2 ≤ 3 by decide), fun i _ => rfl⟩⟩
      · repeat' (first | exact trivial | refine And.intro ?_ ?_ | rfl | omega | decide | (show (_ : Nat) < _; decide))
        all_goals first | (simp; done) | (simp <;> omega) | skip
      · repeat' (first | exact trivial | refine And.intro ?_ ?_ | rfl | omega | decide | (show (_ : Nat) < _; decide))
        all_goals first | exact hst | (show (_ : List UInt32) = _; first | exact hse.symm | rfl) | (show (_ : List UInt8) = _; simp [outArr]; done) | (show (_ : List UInt8) = _; simp only [Nat.zero_add, Nat.mul_one]; exact e1) | (simp; done) | skip
      · repeat' (first | exact trivial | refine And.intro ?_ ?_ | rfl | omega | decide | (show (_ : Nat) < _; decide))
      · repeat' (first | exact trivial | refine And.intro ?_ ?_ | rfl | omega | decide | (show (_ : Nat) < _; decide))
    · intro k hk
      have hlen2 := outArr_length (Sha.fold p (p.length / 64)) k hk
      refine seq_k fun _ hK13 => ?_
      refine region_k gy_ok fun _ hK14 => ?_
      refine s_step rfl (by decide) rfl fun _ hS => ?_
      repeat refine And.intro (by first | omega | exact trivial | rfl | exact inR_i64.mpr ⟨by omega, by omega⟩ | (simp [hst] <;> omega) | (refine And.intro ?_ ?_ <;> exact trivial) | exact ⟨trivial, trivial, trivial⟩) ?_
      refine hS _ _ _ ?_
      clear hS
      refine s_nil ?_
      refine hK14 _ _ _ ?_
      refine hK13 _ _ _ ?_
      refine seq_k fun _ hK15 => ?_
      refine WP_cond (b := _) rfl (fun h_t14 => ?_) (fun h_t14 => ?_)
      · try simp only [decide_eq_true_eq] at h_t14
        refine WP_skip ?_
        refine hK15 _ _ _ ?_
        refine seq_k fun _ hK16 => ?_
        refine WP_block ?_
        refine seq_k fun _ hK17 => ?_
        refine region_k gy_ok fun _ hK18 => ?_
        refine s_step rfl (by decide) rfl fun _ hS => ?_
        refine hS _ _ _ ?_
        clear hS
        refine s_step rfl (by decide) rfl fun _ hS => ?_
        refine hS _ _ _ ?_
        clear hS
        refine s_nil ?_
        refine hK18 _ _ _ ?_
        refine hK17 _ _ _ ?_
        refine region_k gy_ok fun _ hK19 => ?_
        refine s_step rfl (by decide) rfl fun _ hS => ?_
        refine hS _ _ _ ?_
        clear hS
        refine s_step rfl (by decide) rfl fun _ hS => ?_
        refine hS _ _ _ ?_
        clear hS
        refine s_step rfl (by decide) rfl fun _ hS => ?_
        repeat refine And.intro (by first | omega | exact trivial | rfl | exact inR_i64.mpr ⟨by omega, by omega⟩ | (simp <;> omega) | (refine And.intro ?_ ?_ <;> exact trivial) | exact ⟨trivial, trivial, trivial⟩) ?_
        refine hS _ _ _ ?_
        clear hS
        refine s_step rfl (by decide) rfl fun _ hS => ?_
        repeat refine And.intro (by first | omega | exact trivial | rfl | exact inR_i64.mpr ⟨by omega, by omega⟩ | (simp [hlen] <;> omega) | (refine And.intro ?_ ?_ <;> exact trivial) | exact ⟨trivial, trivial, trivial⟩) ?_
        refine hS _ _ _ ?_
        clear hS
        refine s_step rfl (by decide) rfl fun _ hS => ?_
        repeat refine And.intro (by first | omega | exact trivial | rfl | exact inR_i64.mpr ⟨by omega, by omega⟩ | (simp [hlen] <;> omega) | (refine And.intro ?_ ?_ <;> exact trivial) | exact ⟨trivial, trivial, trivial⟩) ?_
        first | refine hS _ _ _ ?_ | (refine ite_yes (by first | omega | exact trivial | rfl | exact inR_i64.mpr ⟨by omega, by omega⟩ | (simp [hst, hlen, hlen2] <;> omega) | (refine And.intro ?_ ?_ <;> exact trivial) | exact ⟨trivial, trivial, trivial⟩) ?_; refine hS _ _ _ ?_)
        clear hS
        refine s_step rfl (by decide) rfl fun _ hS => ?_
        refine hS _ _ _ ?_
        clear hS
        refine s_step rfl (by decide) rfl fun _ hS => ?_
        repeat refine And.intro (by first | omega | exact trivial | rfl | exact inR_i64.mpr ⟨by omega, by omega⟩ | (simp [hst, hlen, hlen2] <;> omega) | (refine And.intro ?_ ?_ <;> exact trivial) | exact ⟨trivial, trivial, trivial⟩) ?_
        refine hS _ _ _ ?_
        clear hS
        refine s_step rfl (by decide) rfl fun _ hS => ?_
        repeat refine And.intro (by first | omega | exact trivial | rfl | exact inR_i64.mpr ⟨by omega, by omega⟩ | (simp [hst, hlen, hlen2] <;> omega) | (refine And.intro ?_ ?_ <;> exact trivial) | exact ⟨trivial, trivial, trivial⟩) ?_
        refine hS _ _ _ ?_
        clear hS
        refine s_step rfl (by decide) rfl fun _ hS => ?_
        repeat refine And.intro (by first | omega | exact trivial | rfl | exact inR_i64.mpr ⟨by omega, by omega⟩ | (simp [hst, hlen, hlen2] <;> omega) | (refine And.intro ?_ ?_ <;> exact trivial) | exact ⟨trivial, trivial, trivial⟩) ?_
        refine hS _ _ _ ?_
        clear hS
        refine s_step rfl (by decide) rfl fun _ hS => ?_
        repeat refine And.intro (by first | omega | exact trivial | rfl | exact inR_i64.mpr ⟨by omega, by omega⟩ | (simp [hst, hlen, hlen2] <;> omega) | (refine And.intro ?_ ?_ <;> exact trivial) | exact ⟨trivial, trivial, trivial⟩) ?_
        refine hS _ _ _ ?_
        clear hS
        refine s_step rfl (by decide) rfl fun _ hS => ?_
        repeat first | refine And.intro (by first | omega | exact trivial | rfl | exact inR_i64.mpr ⟨by omega, by omega⟩ | (simp [hst, hlen, hlen2] <;> omega) | (refine And.intro ?_ ?_ <;> exact trivial) | exact ⟨trivial, trivial, trivial⟩) ?_ | refine whole_yes (by first | omega | exact trivial | rfl | exact inR_i64.mpr ⟨by omega, by omega⟩ | (simp [hst, hlen, hlen2] <;> omega) | (refine And.intro ?_ ?_ <;> exact trivial) | exact ⟨trivial, trivial, trivial⟩) ?_ | refine whole_sub ?_
        refine hS _ _ _ ?_
        clear hS
        refine s_step rfl (by decide) rfl fun _ hS => ?_
        repeat refine And.intro (by first | omega | exact trivial | rfl | exact inR_i64.mpr ⟨by omega, by omega⟩ | (simp [hlen2] <;> omega) | (refine And.intro ?_ ?_ <;> exact trivial) | exact ⟨trivial, trivial, trivial⟩) ?_
        refine hS _ _ _ ?_
        clear hS
        refine s_step0 rfl rfl fun _ hS => ?_
        repeat refine And.intro (by first | omega | exact trivial | rfl | exact inR_i64.mpr ⟨by omega, by omega⟩ | (simp [hlen2] <;> omega) | (refine And.intro ?_ ?_ <;> exact trivial) | exact ⟨trivial, trivial, trivial⟩) ?_
        first | refine hS _ _ _ ?_ | (refine splice_full (by first | omega | exact trivial | rfl | exact inR_i64.mpr ⟨by omega, by omega⟩ | (simp [hst, hlen, hlen2] <;> omega) | (refine And.intro ?_ ?_ <;> exact trivial) | exact ⟨trivial, trivial, trivial⟩) ?_; refine hS _ _ _ ?_)
        clear hS
        refine s_nil ?_
        refine hK19 _ _ _ ?_
        have e1 := outArr_step (Sha.fold p (p.length / 64)) k (by omega)
        rw [show k / 4 = ((k : Int) / 4).toNat by omega, show 24 - 8 * (k % 4) = (24 - 8 * ((k : Int) % 4)).toNat by omega] at e1
        refine done_block ?_
        refine hK16 _ _ _ ?_
        refine region_k gy_ok fun _ hK20 => ?_
        refine s_step rfl (by decide) rfl fun _ hS => ?_
        repeat refine And.intro (by first | omega | exact trivial | rfl | exact inR_i64.mpr ⟨by omega, by omega⟩ | (simp [hst] <;> omega) | (refine And.intro ?_ ?_ <;> exact trivial) | exact ⟨trivial, trivial, trivial⟩) ?_
        refine hS _ _ _ ?_
        clear hS
        refine s_step rfl (by decide) rfl fun _ hS => ?_
        refine hS _ _ _ ?_
        clear hS
        refine s_nil ?_
        refine hK20 _ _ _ ?_
        refine Done_some [] id (k + 1) ⟨by omega, by omega⟩ ⟨?_, ?_, (by decide : List.Nodup ([0, 1, 2] : List Nat)), ?_, ?_, ⟨(show 2 ≤ 3 by decide), fun i _ => rfl⟩⟩
        · repeat' (first | exact trivial | refine And.intro ?_ ?_ | rfl | omega | decide | (show (_ : Nat) < _; decide))
          all_goals first | (simp; done) | (simp <;> omega) | skip
        · repeat' (first | exact trivial | refine And.intro ?_ ?_ | rfl | omega | decide | (show (_ : Nat) < _; decide))
          all_goals first | exact hst | (show (_ : List UInt32) = _; first | exact hse.symm | rfl) | (show (_ : List UInt8) = _; simp [outArr]; done) | (show (_ : List UInt8) = _; simp only [Nat.zero_add, Nat.mul_one]; exact e1) | (simp; done) | skip
        · repeat' (first | exact trivial | refine And.intro ?_ ?_ | rfl | omega | decide | (show (_ : Nat) < _; decide))
        · repeat' (first | exact trivial | refine And.intro ?_ ?_ | rfl | omega | decide | (show (_ : Nat) < _; decide))
      · try simp only [decide_eq_false_iff_not, Int.not_lt] at h_t14
        refine WP_exit ?_
        refine done_thenx ?_
        refine done_thenx ?_
        refine Done_hit ?_
        refine hK10 _ _ _ ?_
        refine seq_k fun _ hK21 => ?_
        refine region_k gy_ok fun _ hK22 => ?_
        refine s_step rfl (by decide) rfl fun _ hS => ?_
        repeat refine And.intro (by first | omega | exact trivial | rfl | exact inR_i64.mpr ⟨by omega, by omega⟩ | (simp [hlen2] <;> omega) | exact hlen2.symm | (refine And.intro ?_ ?_ <;> exact trivial) | exact ⟨trivial, trivial, trivial⟩) ?_
        first | refine hS _ _ _ ?_ | (refine ite_yes (by first | omega | exact trivial | rfl | exact inR_i64.mpr ⟨by omega, by omega⟩ | (simp [hlen2] <;> omega) | exact hlen2.symm | (refine And.intro ?_ ?_ <;> exact trivial) | exact ⟨trivial, trivial, trivial⟩) ?_; refine hS _ _ _ ?_)
        clear hS
        refine s_step0 rfl rfl fun _ hS => ?_
        repeat refine And.intro (by first | omega | exact trivial | rfl | exact inR_i64.mpr ⟨by omega, by omega⟩ | (simp [hlen2] <;> omega) | exact hlen2.symm | (refine And.intro ?_ ?_ <;> exact trivial) | exact ⟨trivial, trivial, trivial⟩) ?_
        first | refine hS _ _ _ ?_ | (refine splice_full (by first | omega | exact trivial | rfl | exact inR_i64.mpr ⟨by omega, by omega⟩ | (simp [hlen2] <;> omega) | exact hlen2.symm | (refine And.intro ?_ ?_ <;> exact trivial) | exact ⟨trivial, trivial, trivial⟩) ?_; refine hS _ _ _ ?_)
        clear hS
        refine s_nil ?_
        refine hK22 _ _ _ ?_
        refine hK21 _ _ _ ?_
        refine WP_ret (Done_flatM gy_ok hH1 hd0 hA (fun _ _ h => h) rfl [.cell 2 24] rfl ?_)
        repeat refine And.intro (by first | omega | exact trivial | rfl | (simp [hlen2] <;> omega)) ?_
        try refine ite_yes (by first | omega | exact trivial | rfl | (simp [hlen2] <;> omega)) ?_
        obtain rfl : k = 32 := by omega
        show SV.agg (.u8s (outArr _ 32)) = _
        rw [outArr_full]
  
end Go.Proofs.YtdanaehfdbdhdaaDoor
