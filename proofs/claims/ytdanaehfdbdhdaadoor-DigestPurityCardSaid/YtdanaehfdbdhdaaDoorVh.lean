/- The hexadecimal digits. -/
import Derived.Test.YtdanaehfdbdhdaaDoorVa
namespace Go.Proofs.YtdanaehfdbdhdaaDoor
set_option linter.unusedVariables false
open Go.Ab Go.RowKit

def dig (n : Nat) : UInt8 := ([48, 49, 50, 51, 52, 53, 54, 55, 56, 57, 97, 98, 99, 100, 101, 102] : List UInt8).getD n 0
def hexTo (d : List UInt8) (k : Nat) : List UInt8 := (d.take k).flatMap fun x => [dig (x / 16).toNat, dig (x % 16).toNat]
theorem hexTo_length (d : List UInt8) (k : Nat) (h : k ≤ d.length) : (hexTo d k).length = 2 * k := by
  rw [hexTo, List.length_flatMap]
  simp [List.sum_replicate_nat, Nat.min_eq_left h, List.map_const']
  omega
theorem hexTo_step (d : List UInt8) (k : Nat) (h : k < d.length) : hexTo d k ++ [dig (d.getD k 0 / 16).toNat, dig (d.getD k 0 % 16).toNat] = hexTo d (k + 1) := by
  rw [hexTo, hexTo, List.take_add_one, List.flatMap_append, List.getElem?_eq_getElem h, Option.toList_some, List.flatMap_singleton, List.getD_eq_getElem?_getD, List.getElem?_eq_getElem h, Option.getD_some]
theorem hi_lt (x : UInt8) : (x / 16).toNat < 16 := by
  have := x.toNat_lt
  rw [UInt8.toNat_div]
  show x.toNat / 16 < 16
  omega
theorem lo_lt (x : UInt8) : (x % 16).toNat < 16 := by
  rw [UInt8.toNat_mod]
  show x.toNat % 16 < 16
  omega

theorem shr_div (x : UInt8) : shr8 x 4 = x / 16 := by
  have h : ∀ k : Fin 256, shr8 (UInt8.ofNat k.val) 4 = UInt8.ofNat k.val / 16 := by decide +kernel
  have := h ⟨x.toNat, x.toNat_lt⟩
  simpa using this
theorem and_mod (x : UInt8) : x &&& 15 = x % 16 := by
  have h : ∀ k : Fin 256, UInt8.ofNat k.val &&& 15 = UInt8.ofNat k.val % 16 := by decide +kernel
  have := h ⟨x.toNat, x.toNat_lt⟩
  simpa using this

def hexS : QSpec := fun vs K => match vs with
  | [.agg (.u8s d)] => d.length = 32 ∧ K (.c (.str (hexTo d 32)))
  | _ => False
set_option maxHeartbeats 400000 in
theorem hexR_ok : FlatOK Tryd.prog gl 21 hexS := by
  refine flat_of (Γ := g0) (N := 28) Tryd.func21 rfl rfl fun vs K h => ?_
  unfold hexS at h
  split at h
  · rename_i d
    obtain ⟨hd, h⟩ := h
    refine ⟨_, h, rfl, by simp, fun w I => ?_⟩
    refine seq_k fun _ hK1 => ?_
    refine region_k g0_ok fun _ hK2 => ?_
    refine s_step rfl (by decide) rfl fun _ hS => ?_
    repeat refine And.intro (by first | omega | exact trivial | rfl | (simp [hd] <;> omega) | exact hd.symm) ?_
    refine hS _ _ _ ?_
    clear hS
    refine s_step rfl (by decide) rfl fun _ hS => ?_
    refine hS _ _ _ ?_
    clear hS
    refine s_nil ?_
    refine hK2 _ _ _ ?_
    refine hK1 _ _ _ ?_
    refine seq_k fun _ hK3 => ?_
    refine region_k g0_ok fun _ hK4 => ?_
    refine s_step rfl (by decide) rfl fun _ hS => ?_
    repeat refine And.intro (by first | omega | exact trivial | rfl | (simp [hd] <;> omega)) ?_
    refine hS _ _ _ ?_
    clear hS
    refine s_step rfl (by decide) rfl fun _ hS => ?_
    refine hS _ _ _ ?_
    clear hS
    refine s_step rfl (by decide) rfl fun _ hS => ?_
    refine hS _ _ _ ?_
    clear hS
    refine s_nil ?_
    refine hK4 _ _ _ ?_
    refine hK3 _ _ _ ?_
    refine seq_k fun _ hK5 => ?_
    refine seq_k fun _ hK6 => ?_
    refine region_k g0_ok fun _ hK7 => ?_
    refine s_step rfl (by decide) rfl fun _ hS => ?_
    refine hS _ _ _ ?_
    clear hS
    refine s_nil ?_
    refine hK7 _ _ _ ?_
    refine hK6 _ _ _ ?_
    refine WP_block ?_
    refine WP_loop (α := Nat × Nat) (fun k => [(1, .c (.ptr 0 0)), (3, .c (.str [48, 49, 50, 51, 52, 53, 54, 55, 56, 57, 97, 98, 99, 100, 101, 102])), (4, .c (.slice 1 0 (2 * k.1) k.2)), (5, .c (.int .i64 k.1))]) (fun k => [(0, .own 24 (.u8s d) 32), (1, .own 5 (.u8s (hexTo d k.1)) k.2)]) 2 (fun k => k.1 ≤ 32) (fun k => 32 - k.1) ?_ ?_
    · refine Done_some [] id (0, 0) (Nat.zero_le _) ⟨?_, ?_, (by decide : List.Nodup ([0, 1] : List Nat)), ?_, ?_, ⟨Nat.zero_le _, fun i hi => absurd hi (Nat.not_lt_zero i)⟩⟩
      · repeat' (first | exact trivial | refine And.intro ?_ ?_ | rfl | omega | decide | exact Nat.lt_of_sub_pos (by decide))
        all_goals first | (show (_ : List UInt8) = _; exact e1) | (simp; done) | (simp <;> omega)
      · repeat' (first | exact trivial | refine And.intro ?_ ?_ | rfl | omega | decide | exact Nat.lt_of_sub_pos (by decide))
        all_goals first | exact hd | (show (_ : List UInt8) = _; simp [hexTo, -List.getElem?_map]; done) | (show (_ : List UInt8) = _; simp only [Nat.zero_add, Nat.mul_one]; exact e1) | (simp; done)
      · repeat' (first | exact trivial | refine And.intro ?_ ?_ | rfl | omega | decide | exact Nat.lt_of_sub_pos (by decide))
      · repeat' (first | exact trivial | refine And.intro ?_ ?_ | rfl | omega | decide | exact Nat.lt_of_sub_pos (by decide))
    · intro k hk
      have hlen := hexTo_length d k.1 (by omega)
      refine seq_k fun _ hK8 => ?_
      refine seq_k fun _ hK9 => ?_
      refine region_k g0_ok fun _ hK10 => ?_
      refine s_step rfl (by decide) rfl fun _ hS => ?_
      refine hS _ _ _ ?_
      clear hS
      refine s_step rfl (by decide) rfl fun _ hS => ?_
      repeat refine And.intro (by first | omega | exact trivial | rfl | (simp [hd] <;> omega)) ?_
      refine hS _ _ _ ?_
      clear hS
      refine s_nil ?_
      refine hK10 _ _ _ ?_
      refine hK9 _ _ _ ?_
      refine WP_cond (b := _) rfl (fun h_t8 => ?_) (fun h_t8 => ?_)
      · try simp only [decide_eq_true_eq] at h_t8
        refine WP_skip ?_
        refine hK8 _ _ _ ?_
        refine seq_k fun _ hK11 => ?_
        refine WP_block ?_
        have hhi := hi_lt (d.getD k.1 0)
        have hlo := lo_lt (d.getD k.1 0)
        refine sched_k g0_ok [(0, true), (1, true), (2, true), (3, true), (4, true), (5, true), (6, true), (7, true), (8, true), (9, true), (10, true), (11, true), (12, true), (13, false), (14, false), (15, true)] rfl (by kernel_rfl) (by kernel_rfl) fun _ hK12 => ?_
        refine d_read rfl rfl (by decide) rfl fun _ hS => ?_
        refine hS _ ?_
        clear hS
        refine d_read rfl rfl (by decide) rfl fun _ hS => ?_
        refine hS _ ?_
        clear hS
        refine d_read rfl rfl (by decide) rfl fun _ hS => ?_
        refine hS _ ?_
        clear hS
        refine d_read rfl rfl (by decide) rfl fun _ hS => ?_
        repeat refine And.intro (by first | omega | exact trivial | rfl | (simp [hd] <;> omega) | exact Int.ofNat_lt.mpr (hi_lt _) | exact Int.ofNat_lt.mpr (lo_lt _)) ?_
        refine hS _ ?_
        clear hS
        refine d_read rfl rfl (by decide) rfl fun _ hS => ?_
        repeat refine And.intro (by first | omega | exact trivial | rfl | (simp [hd] <;> omega) | exact Int.ofNat_lt.mpr (hi_lt _) | exact Int.ofNat_lt.mpr (lo_lt _)) ?_
        first | refine hS _ ?_ | (refine ite_yes (by first | omega | exact trivial | rfl | (simp [hd, hlen] <;> omega) | exact Int.ofNat_lt.mpr (hi_lt _) | exact Int.ofNat_lt.mpr (lo_lt _)) ?_; refine hS _ ?_)
        clear hS
        refine d_read rfl rfl (by decide) rfl fun _ hS => ?_
        repeat refine And.intro (by first | omega | exact trivial | rfl | (simp <;> omega) | exact Int.ofNat_lt.mpr (hi_lt _) | exact Int.ofNat_lt.mpr (lo_lt _)) ?_
        refine hS _ ?_
        clear hS
        refine d_read rfl rfl (by decide) rfl fun _ hS => ?_
        repeat refine And.intro (by first | omega | exact trivial | rfl | (simp <;> omega) | exact Int.ofNat_lt.mpr (hi_lt _) | exact Int.ofNat_lt.mpr (lo_lt _)) ?_
        refine hS _ ?_
        clear hS
        refine d_read rfl rfl (by decide) rfl fun _ hS => ?_
        refine hS _ ?_
        clear hS
        refine d_read rfl rfl (by decide) rfl fun _ hS => ?_
        refine hS _ ?_
        clear hS
        refine d_read rfl rfl (by decide) rfl fun _ hS => ?_
        repeat refine And.intro (by first | omega | exact trivial | rfl | (simp [hd] <;> omega) | exact Int.ofNat_lt.mpr (hi_lt _) | exact Int.ofNat_lt.mpr (lo_lt _)) ?_
        refine hS _ ?_
        clear hS
        refine d_read rfl rfl (by decide) rfl fun _ hS => ?_
        repeat refine And.intro (by first | omega | exact trivial | rfl | (simp [hd] <;> omega) | exact Int.ofNat_lt.mpr (hi_lt _) | exact Int.ofNat_lt.mpr (lo_lt _)) ?_
        first | refine hS _ ?_ | (refine ite_yes (by first | omega | exact trivial | rfl | (simp [hd, hlen] <;> omega) | exact Int.ofNat_lt.mpr (hi_lt _) | exact Int.ofNat_lt.mpr (lo_lt _)) ?_; refine hS _ ?_)
        clear hS
        refine d_read rfl rfl (by decide) rfl fun _ hS => ?_
        repeat refine And.intro (by first | omega | exact trivial | rfl | (simp <;> omega) | exact Int.ofNat_lt.mpr (hi_lt _) | exact Int.ofNat_lt.mpr (lo_lt _)) ?_
        refine hS _ ?_
        clear hS
        refine d_read rfl rfl (by decide) rfl fun _ hS => ?_
        repeat refine And.intro (by first | omega | exact trivial | rfl | (simp <;> omega) | exact Int.ofNat_lt.mpr (hi_lt _) | exact Int.ofNat_lt.mpr (lo_lt _)) ?_
        refine hS _ ?_
        clear hS
        refine d_grow rfl rfl (by decide) rfl fun _ hS => ?_
        repeat refine And.intro (by first | omega | exact trivial | rfl | (simp [hd, hlen] <;> omega) | exact Int.ofNat_lt.mpr (hi_lt _) | exact Int.ofNat_lt.mpr (lo_lt _)) ?_
        refine hS _ _ _ ?_
        clear hS
        refine d_grow rfl rfl (by decide) rfl fun _ hS => ?_
        repeat first | refine And.intro (by first | omega | exact trivial | rfl | (simp [hlen] <;> omega) | exact Int.ofNat_lt.mpr (hi_lt _) | exact Int.ofNat_lt.mpr (lo_lt _)) ?_ | refine whole_yes (by first | omega | exact trivial | rfl | (simp [hd, hlen] <;> omega) | exact Int.ofNat_lt.mpr (hi_lt _) | exact Int.ofNat_lt.mpr (lo_lt _)) ?_ | refine whole_sub ?_
        intro cap14 hcap14; refine hS _ _ _ ?_
        clear hS
        refine d_read rfl rfl (by decide) rfl fun _ hS => ?_
        refine hS _ ?_
        clear hS
        refine d_nil ?_
        refine hK12 _ _ _ ?_
        have e1 := hexTo_step d k.1 (by omega)
        refine done_block ?_
        refine hK11 _ _ _ ?_
        refine region_k g0_ok fun _ hK13 => ?_
        refine s_step rfl (by decide) rfl fun _ hS => ?_
        refine hS _ _ _ ?_
        clear hS
        refine s_step rfl (by decide) rfl fun _ hS => ?_
        repeat refine And.intro (by first | omega | exact trivial | rfl | (simp <;> omega)) ?_
        refine hS _ _ _ ?_
        clear hS
        refine s_step rfl (by decide) rfl fun _ hS => ?_
        refine hS _ _ _ ?_
        clear hS
        refine s_nil ?_
        refine hK13 _ _ _ ?_
        refine Done_some [] (fun i => if i = 1 then 3 else i) (k.1 + 1, cap14) ⟨by omega, by omega⟩ ⟨?_, ?_, (by decide : List.Nodup ([0, 3] : List Nat)), ?_, ?_, ⟨Nat.zero_le _, fun i hi => absurd hi (Nat.not_lt_zero i)⟩⟩
        · repeat' (first | exact trivial | refine And.intro ?_ ?_ | rfl | omega | decide | exact Nat.lt_of_sub_pos (by decide))
          all_goals first | (show (_ : List UInt8) = _; exact e1) | (simp; done) | (simp <;> omega)
        · repeat' (first | exact trivial | refine And.intro ?_ ?_ | rfl | omega | decide | exact Nat.lt_of_sub_pos (by decide))
          all_goals first | exact hd | (show (_ : List UInt8) = _; simp [hexTo, -List.getElem?_map]; done) | (show (_ : List UInt8) = _; simp only [Nat.zero_add, Nat.mul_one]; exact e1) | (simp; done)
        · repeat' (first | exact trivial | refine And.intro ?_ ?_ | rfl | omega | decide | exact Nat.lt_of_sub_pos (by decide))
        · repeat' (first | exact trivial | refine And.intro ?_ ?_ | rfl | omega | decide | exact Nat.lt_of_sub_pos (by decide))
      · try simp only [decide_eq_false_iff_not, Int.not_lt] at h_t8
        refine WP_exit ?_
        refine done_thenx ?_
        refine done_thenx ?_
        refine Done_hit ?_
        refine hK5 _ _ _ ?_
        refine seq_k fun _ hK14 => ?_
        obtain ⟨k, cap0⟩ := k
        have hk32 : k = 32 := by simp at h_t8 hk; omega
        subst hk32
        refine region_k g0_ok fun _ hK15 => ?_
        refine s_step rfl (by decide) rfl fun _ hS => ?_
        refine hS _ _ _ ?_
        clear hS
        refine s_step rfl (by decide) rfl fun _ hS => ?_
        repeat first | refine And.intro (by first | omega | exact trivial | rfl | (simp [hlen] <;> omega)) ?_ | refine whole_yes (by first | omega | exact trivial | rfl | (simp [hlen] <;> omega)) ?_ | refine whole_sub ?_
        refine hS _ _ _ ?_
        clear hS
        refine s_step rfl (by decide) rfl fun _ hS => ?_
        refine hS _ _ _ ?_
        clear hS
        refine s_nil ?_
        refine hK15 _ _ _ ?_
        refine hK14 _ _ _ ?_
        refine WP_ret (Done_flat g0_ok (fun _ _ h => h) (by first | rfl | assumption) [.tmp 2] rfl ?_)
        repeat refine And.intro (by first | omega | exact trivial | rfl | (simp <;> omega)) ?_
        try refine ite_yes (by first | omega | exact trivial | rfl | (simp <;> omega)) ?_
        show SV.c (.str (hexTo d 32)) = _
        rfl
  · exact h.elim
set_option maxHeartbeats 400000 in
theorem hex_ok : FlatOK Tryd.prog gl 20 hexS := by
  refine flat_of (Γ := g0) (N := 22) Tryd.func20 rfl rfl fun vs K h => ?_
  unfold hexS at h
  split at h
  · rename_i d
    obtain ⟨hd, h⟩ := h
    refine ⟨_, h, rfl, by simp, fun w I => ?_⟩
    refine seq_k fun _ hK1 => ?_
    refine region_k g0_ok fun _ hK2 => ?_
    refine s_step rfl (by decide) rfl fun _ hS => ?_
    repeat refine And.intro (by first | omega | exact trivial | rfl | (simp [hd] <;> omega) | exact hd.symm) ?_
    refine hS _ _ _ ?_
    clear hS
    refine s_step rfl (by decide) rfl fun _ hS => ?_
    refine hS _ _ _ ?_
    clear hS
    refine s_nil ?_
    refine hK2 _ _ _ ?_
    refine hK1 _ _ _ ?_
    refine seq_k fun _ hK3 => ?_
    refine region_k g0_ok fun _ hK4 => ?_
    refine s_step rfl (by decide) rfl fun _ hS => ?_
    refine hS _ _ _ ?_
    clear hS
    refine s_nil ?_
    refine hK4 _ _ _ ?_
    refine hK3 _ _ _ ?_
    refine seq_k fun _ hK5 => ?_
    refine seq_k fun _ hK6 => ?_
    refine region_k g0_ok fun _ hK7 => ?_
    refine s_step rfl (by decide) rfl fun _ hS => ?_
    repeat refine And.intro (by first | omega | exact trivial | rfl | (simp [hd] <;> omega)) ?_
    first | refine hS _ _ _ ?_ | (refine ite_yes (by first | omega | exact trivial | rfl | (simp [hd] <;> omega)) ?_; refine hS _ _ _ ?_)
    clear hS
    refine s_step rfl (by decide) rfl fun _ hS => ?_
    refine hS _ _ _ ?_
    clear hS
    refine s_nil ?_
    refine hK7 _ _ _ ?_
    refine hK6 _ _ _ ?_
    refine WP_block ?_
    refine WP_nil 3 5 (.u8s []) rfl rfl trivial ?_
    refine WP_loop (α := Nat × Nat) (fun k => [(1, .c (.ptr 0 0)), (3, .c (.slice 1 0 (2 * k.1) k.2)), (6, .agg (.u8s d)), (7, .c (.int .i64 k.1))]) (fun k => [(0, .own 24 (.u8s d) 32), (1, .own 5 (.u8s (hexTo d k.1)) k.2)]) 2 (fun k => k.1 ≤ 32) (fun k => 32 - k.1) ?_ ?_
    · refine Done_some [] id (0, 0) (Nat.zero_le _) ⟨?_, ?_, (by decide : List.Nodup ([0, 1] : List Nat)), ?_, ?_, ⟨Nat.zero_le _, fun i hi => absurd hi (Nat.not_lt_zero i)⟩⟩
      · repeat' (first | exact trivial | refine And.intro ?_ ?_ | rfl | omega | decide | exact Nat.lt_of_sub_pos (by decide))
        all_goals first | (show (_ : List UInt8) = _; exact e1) | (simp; done) | (simp <;> omega)
      · repeat' (first | exact trivial | refine And.intro ?_ ?_ | rfl | omega | decide | exact Nat.lt_of_sub_pos (by decide))
        all_goals first | exact hd | (show (_ : List UInt8) = _; simp [hexTo, -List.getElem?_map]; done) | (show (_ : List UInt8) = _; simp only [Nat.zero_add, Nat.mul_one]; exact e1) | (simp; done)
      · repeat' (first | exact trivial | refine And.intro ?_ ?_ | rfl | omega | decide | exact Nat.lt_of_sub_pos (by decide))
      · repeat' (first | exact trivial | refine And.intro ?_ ?_ | rfl | omega | decide | exact Nat.lt_of_sub_pos (by decide))
    · intro k hk
      have hlen := hexTo_length d k.1 (by omega)
      refine seq_k fun _ hK8 => ?_
      refine region_k g0_ok fun _ hK9 => ?_
      refine s_step rfl (by decide) rfl fun _ hS => ?_
      repeat refine And.intro (by first | omega | exact trivial | rfl | (simp [hd] <;> omega)) ?_
      refine hS _ _ _ ?_
      clear hS
      refine s_nil ?_
      refine hK9 _ _ _ ?_
      refine hK8 _ _ _ ?_
      refine seq_k fun _ hK10 => ?_
      refine WP_cond (b := _) rfl (fun h_t8 => ?_) (fun h_t8 => ?_)
      · try simp only [decide_eq_true_eq] at h_t8
        refine WP_skip ?_
        refine hK10 _ _ _ ?_
        refine seq_k fun _ hK11 => ?_
        refine WP_block ?_
        refine seq_k fun _ hK12 => ?_
        refine region_k g0_ok fun _ hK13 => ?_
        refine s_step rfl (by decide) rfl fun _ hS => ?_
        repeat refine And.intro (by first | omega | exact trivial | rfl | (simp [hd] <;> omega)) ?_
        refine hS _ _ _ ?_
        clear hS
        refine s_step rfl (by decide) rfl fun _ hS => ?_
        refine hS _ _ _ ?_
        clear hS
        refine s_nil ?_
        refine hK13 _ _ _ ?_
        refine hK12 _ _ _ ?_
        have hhi := hi_lt (d.getD k.1 0)
        have hlo := lo_lt (d.getD k.1 0)
        have hhi2 := hhi; have hlo2 := hlo; rw [← shr_div] at hhi2; rw [← and_mod] at hlo2
        refine sched_k g0_ok [(0, true), (1, true), (2, true), (3, true), (4, true), (5, true), (6, true), (7, false), (8, false), (9, true)] rfl (by kernel_rfl) (by kernel_rfl) fun _ hK14 => ?_
        refine d_read rfl rfl (by decide) rfl fun _ hS => ?_
        refine hS _ ?_
        clear hS
        refine d_read rfl rfl (by decide) rfl fun _ hS => ?_
        refine hS _ ?_
        clear hS
        refine d_read rfl rfl (by decide) rfl fun _ hS => ?_
        repeat refine And.intro (by first | omega | exact trivial | rfl | (simp [hd, hlen] <;> omega) | exact Int.ofNat_lt.mpr (hi_lt _) | exact Int.ofNat_lt.mpr (lo_lt _) | exact Int.ofNat_lt.mpr hhi2 | exact Int.ofNat_lt.mpr hlo2) ?_
        refine hS _ ?_
        clear hS
        refine d_read rfl rfl (by decide) rfl fun _ hS => ?_
        repeat refine And.intro (by first | omega | exact trivial | rfl | (simp <;> omega) | exact Int.ofNat_lt.mpr (hi_lt _) | exact Int.ofNat_lt.mpr (lo_lt _) | exact Int.ofNat_lt.mpr hhi2 | exact Int.ofNat_lt.mpr hlo2) ?_
        refine hS _ ?_
        clear hS
        refine d_read rfl rfl (by decide) rfl fun _ hS => ?_
        refine hS _ ?_
        clear hS
        refine d_read rfl rfl (by decide) rfl fun _ hS => ?_
        repeat refine And.intro (by first | omega | exact trivial | rfl | (simp [hd, hlen] <;> omega) | exact Int.ofNat_lt.mpr (hi_lt _) | exact Int.ofNat_lt.mpr (lo_lt _) | exact Int.ofNat_lt.mpr hhi2 | exact Int.ofNat_lt.mpr hlo2) ?_
        refine hS _ ?_
        clear hS
        refine d_read rfl rfl (by decide) rfl fun _ hS => ?_
        repeat refine And.intro (by first | omega | exact trivial | rfl | (simp <;> omega) | exact Int.ofNat_lt.mpr (hi_lt _) | exact Int.ofNat_lt.mpr (lo_lt _) | exact Int.ofNat_lt.mpr hhi2 | exact Int.ofNat_lt.mpr hlo2) ?_
        refine hS _ ?_
        clear hS
        refine d_grow rfl rfl (by decide) rfl fun _ hS => ?_
        repeat refine And.intro (by first | omega | exact trivial | rfl | (simp [hd, hlen] <;> omega) | exact Int.ofNat_lt.mpr (hi_lt _) | exact Int.ofNat_lt.mpr (lo_lt _) | exact Int.ofNat_lt.mpr hhi2 | exact Int.ofNat_lt.mpr hlo2) ?_
        refine hS _ _ _ ?_
        clear hS
        refine d_grow rfl rfl (by decide) rfl fun _ hS => ?_
        repeat first | refine And.intro (by first | omega | exact trivial | rfl | (simp [hlen] <;> omega) | exact Int.ofNat_lt.mpr (hi_lt _) | exact Int.ofNat_lt.mpr (lo_lt _) | exact Int.ofNat_lt.mpr hhi2 | exact Int.ofNat_lt.mpr hlo2) ?_ | refine whole_yes (by first | omega | exact trivial | rfl | (simp [hd, hlen] <;> omega) | exact Int.ofNat_lt.mpr (hi_lt _) | exact Int.ofNat_lt.mpr (lo_lt _) | exact Int.ofNat_lt.mpr hhi2 | exact Int.ofNat_lt.mpr hlo2) ?_ | refine whole_sub ?_
        intro cap8 hcap8; refine hS _ _ _ ?_
        clear hS
        refine d_read rfl rfl (by decide) rfl fun _ hS => ?_
        refine hS _ ?_
        clear hS
        refine d_nil ?_
        refine hK14 _ _ _ ?_
        have e1 := hexTo_step d k.1 (by omega)
        rw [← shr_div, ← and_mod] at e1
        refine done_block ?_
        refine hK11 _ _ _ ?_
        refine region_k g0_ok fun _ hK15 => ?_
        refine s_step rfl (by decide) rfl fun _ hS => ?_
        repeat refine And.intro (by first | omega | exact trivial | rfl | (simp <;> omega)) ?_
        refine hS _ _ _ ?_
        clear hS
        refine s_step rfl (by decide) rfl fun _ hS => ?_
        refine hS _ _ _ ?_
        clear hS
        refine s_nil ?_
        refine hK15 _ _ _ ?_
        refine Done_some [] (fun i => if i = 1 then 3 else i) (k.1 + 1, cap8) ⟨by omega, by omega⟩ ⟨?_, ?_, (by decide : List.Nodup ([0, 3] : List Nat)), ?_, ?_, ⟨Nat.zero_le _, fun i hi => absurd hi (Nat.not_lt_zero i)⟩⟩
        · repeat' (first | exact trivial | refine And.intro ?_ ?_ | rfl | omega | decide | exact Nat.lt_of_sub_pos (by decide))
          all_goals first | (show (_ : List UInt8) = _; exact e1) | (simp; done) | (simp <;> omega)
        · repeat' (first | exact trivial | refine And.intro ?_ ?_ | rfl | omega | decide | exact Nat.lt_of_sub_pos (by decide))
          all_goals first | exact hd | (show (_ : List UInt8) = _; simp [hexTo, -List.getElem?_map]; done) | (show (_ : List UInt8) = _; simp only; exact e1) | (simp; done)
        · repeat' (first | exact trivial | refine And.intro ?_ ?_ | rfl | omega | decide | exact Nat.lt_of_sub_pos (by decide))
        · repeat' (first | exact trivial | refine And.intro ?_ ?_ | rfl | omega | decide | exact Nat.lt_of_sub_pos (by decide))
      · try simp only [decide_eq_false_iff_not, Int.not_lt] at h_t8
        refine WP_exit ?_
        refine done_thenx ?_
        refine done_thenx ?_
        refine Done_hit ?_
        refine hK5 _ _ _ ?_
        refine seq_k fun _ hK16 => ?_
        obtain ⟨k, cap0⟩ := k
        have hk32 : k = 32 := by simp at h_t8 hk; omega
        subst hk32
        refine region_k g0_ok fun _ hK17 => ?_
        refine s_step rfl (by decide) rfl fun _ hS => ?_
        refine hS _ _ _ ?_
        clear hS
        refine s_step rfl (by decide) rfl fun _ hS => ?_
        repeat first | refine And.intro (by first | omega | exact trivial | rfl | (simp [hlen] <;> omega)) ?_ | refine whole_yes (by first | omega | exact trivial | rfl | (simp [hlen] <;> omega)) ?_ | refine whole_sub ?_
        refine hS _ _ _ ?_
        clear hS
        refine s_step rfl (by decide) rfl fun _ hS => ?_
        refine hS _ _ _ ?_
        clear hS
        refine s_nil ?_
        refine hK17 _ _ _ ?_
        refine hK16 _ _ _ ?_
        refine WP_ret (Done_flat g0_ok (fun _ _ h => h) (by first | rfl | assumption) [.tmp 2] rfl ?_)
        repeat refine And.intro (by first | omega | exact trivial | rfl | (simp <;> omega)) ?_
        try refine ite_yes (by first | omega | exact trivial | rfl | (simp <;> omega)) ?_
        show SV.c (.str (hexTo d 32)) = _
        rfl
  · exact h.elim

end Go.Proofs.YtdanaehfdbdhdaaDoor
