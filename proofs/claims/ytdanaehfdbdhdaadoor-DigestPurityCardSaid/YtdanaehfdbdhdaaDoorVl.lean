/- Fields of the program. -/
import Derived.Test.YtdanaehfdbdhdaaDoorVk
namespace Go.Proofs.YtdanaehfdbdhdaaDoor
set_option linter.unusedVariables false
open Go.Ab Go.RowKit

def flat2 (ps : List (List UInt8)) (k : Nat) : List (List UInt8) := (ps.take k).flatMap fun p => [le64 p.length.toUInt64, p]
theorem flat2_step (ps : List (List UInt8)) (k : Nat) (h : k < ps.length) : flat2 ps k ++ [le64 (ps.getD k []).length.toUInt64, ps.getD k []] = flat2 ps (k + 1) := by
  rw [flat2, flat2, List.take_add_one, List.flatMap_append, List.getElem?_eq_getElem h, Option.toList_some, List.flatMap_singleton, List.getD_eq_getElem?_getD, List.getElem?_eq_getElem h, Option.getD_some]
theorem flat2_length (ps : List (List UInt8)) : ∀ k, k ≤ ps.length → (flat2 ps k).length = 2 * k
  | 0, _ => by simp [flat2]
  | k + 1, h => by rw [← flat2_step ps k (by omega), List.length_append, flat2_length ps k (by omega)]; simp; omega
theorem flat2_flatten (ps : List (List UInt8)) : (flat2 ps ps.length).flatten = encode ps := by
  rw [flat2, List.take_length, encode]
  induction ps with
  | nil => rfl
  | cons p ps ih => simp only [List.flatMap_cons, List.flatten_append, List.flatten_cons, List.flatten_nil, List.append_nil, ih, encOne]
theorem lists_append (a b : List (List UInt8)) : lists (a ++ b) = lists a ++ lists b := by simp [lists]
theorem isD_lists (ps : List (List UInt8)) : (Cont.cells (lists ps)).isD := by
  show allD (lists ps)
  induction ps with
  | nil => trivial
  | cons p ps ih => exact ⟨trivial, ih⟩
@[simp] theorem solid_lists (ps : List (List UInt8)) : (Cont.cells (lists ps)).solid := by
  show solidAll (lists ps)
  induction ps with
  | nil => trivial
  | cons p ps ih => exact ⟨trivial, ih⟩
theorem low_lists {n : Nat} (ps : List (List UInt8)) : (Cont.cells (lists ps)).low n := by
  intro x hx
  obtain ⟨p, _, rfl⟩ := List.mem_map.1 hx
  exact trivial
@[simp] theorem solid_nil : (Cont.cells []).solid = True := rfl
@[simp] theorem solid_cons (x : Cell) (l : List Cell) : (Cont.cells (x :: l)).solid = (x.solid ∧ (Cont.cells l).solid) := rfl
@[simp] theorem solid_ds (n : Nat) (c : Cont) : (Cell.ds n c).solid = True := rfl
@[simp] theorem solid_slice (i o n c : Nat) : (Cell.slice i o n c).solid = True := rfl
set_option maxHeartbeats 1000000 in
theorem fields_ok (h27 : FlatOK Tryd.prog gl 27 hashS) : FlatOK Tryd.prog gl 18 fieldsS := by
  refine flat_of (Γ := g7) (N := 36) Tryd.func18 rfl rfl fun vs K h => ?_
  obtain ⟨ps, rfl, ⟨hn, hp⟩, h⟩ := h
  refine ⟨_, h, rfl, by simp, fun w I => ?_⟩
  have hb := encode_bound ps hn hp
  have hs := Sha.sum_length
  refine seq_k fun _ hK1 => ?_
  refine region_k (g7_ok h27) fun _ hK2 => ?_
  refine s_step rfl (by decide) rfl fun _ hS => ?_
  repeat refine And.intro (by first | omega | exact trivial | rfl | (simp <;> omega) | (refine And.intro ?_ ?_ <;> exact trivial) | exact ⟨trivial, trivial, trivial⟩) ?_
  refine hS _ _ _ ?_
  clear hS
  refine s_nil ?_
  refine hK2 _ _ _ ?_
  refine hK1 _ _ _ ?_
  refine seq_k fun _ hK3 => ?_
  refine region_k (g7_ok h27) fun _ hK4 => ?_
  refine s_step rfl (by decide) rfl fun _ hS => ?_
  refine hS _ _ _ ?_
  clear hS
  refine s_nil ?_
  refine hK4 _ _ _ ?_
  refine hK3 _ _ _ ?_
  refine seq_k fun _ hK5 => ?_
  refine seq_k fun _ hK6 => ?_
  refine region_k (g7_ok h27) fun _ hK7 => ?_
  refine s_step rfl (by decide) rfl fun _ hS => ?_
  refine hS _ _ _ ?_
  clear hS
  refine s_step rfl (by decide) rfl fun _ hS => ?_
  repeat refine And.intro (by first | omega | exact trivial | rfl | (simp <;> omega) | (refine And.intro ?_ ?_ <;> exact trivial) | exact ⟨trivial, trivial, trivial⟩) ?_
  refine hS _ _ _ ?_
  clear hS
  refine s_step rfl (by decide) rfl fun _ hS => ?_
  refine hS _ _ _ ?_
  clear hS
  refine s_nil ?_
  refine hK7 _ _ _ ?_
  refine hK6 _ _ _ ?_
  refine WP_block ?_
  refine WP_nil 3 22 (.cells []) rfl rfl (fun x hx => by cases hx) ?_
  refine WP_loop (α := Nat × Nat) (fun k => [(2, .c (.ptr 0 0)), (3, .c (.slice 1 0 (flat2 ps k.1).length k.2)), (8, .c (.ds ps.length (.cells (lists ps)))), (9, .c (.int .i64 ps.length)), (10, .c (.int .i64 k.1))]) (fun k => [(0, .own 24 (.u8s (List.replicate 32 0)) 32), (1, .own 22 (.cells (lists (flat2 ps k.1))) k.2)]) 2 (fun k => k.1 ≤ ps.length) (fun k => ps.length - k.1) ?_ ?_
  · refine Done_some [] id (0, 0) (Nat.zero_le _) ⟨?_, ?_, (by decide : List.Nodup ([0, 1] : List Nat)), ?_, ?_, ⟨Nat.zero_le _, fun i hi => absurd hi (Nat.not_lt_zero i)⟩⟩
    · repeat' (first | exact trivial | refine And.intro ?_ ?_ | rfl | omega | decide | exact Nat.lt_of_sub_pos (by decide))
      all_goals first | exact allTo_lists _ | (show (_ : List UInt8) = _; simp [le64]; done) | (simp [flat2]; done) | skip
    · repeat' (first | exact trivial | refine And.intro ?_ ?_ | rfl | omega | decide | exact Nat.lt_of_sub_pos (by decide))
      all_goals first | exact allTo_lists _ | (show (_ : List UInt8) = _; simp [le64]; done) | (simp [flat2]; done) | skip
    · repeat' (first | exact trivial | refine And.intro ?_ ?_ | rfl | omega | decide | exact Nat.lt_of_sub_pos (by decide))
      all_goals exact low_lists _
    · repeat' (first | exact trivial | refine And.intro ?_ ?_ | rfl | omega | decide | exact Nat.lt_of_sub_pos (by decide))
      all_goals exact low_lists _
  · intro k hk
    have hfl := flat2_length ps k.1 hk
    refine seq_k fun _ hK8 => ?_
    refine region_k (g7_ok h27) fun _ hK9 => ?_
    refine s_step rfl (by decide) rfl fun _ hS => ?_
    repeat refine And.intro (by first | omega | exact trivial | rfl | (simp <;> omega) | (refine And.intro ?_ ?_ <;> exact trivial) | exact ⟨trivial, trivial, trivial⟩) ?_
    refine hS _ _ _ ?_
    clear hS
    refine s_nil ?_
    refine hK9 _ _ _ ?_
    refine hK8 _ _ _ ?_
    refine seq_k fun _ hK10 => ?_
    refine WP_cond (b := _) rfl (fun h_t11 => ?_) (fun h_t11 => ?_)
    · try simp only [decide_eq_true_eq] at h_t11
      refine WP_skip ?_
      refine hK10 _ _ _ ?_
      refine seq_k fun _ hK11 => ?_
      refine WP_block ?_
      refine seq_k fun _ hK12 => ?_
      have hkl : k.1 < ps.length := by omega
      have hpk := hp _ (getD_mem ps k.1 hkl)
      have hpk2 : (ps[k.1]?.getD []).length ≤ 1000 := by simpa using hpk
      refine region_k (g7_ok h27) fun _ hK13 => ?_
      refine s_step rfl (by decide) rfl fun _ hS => ?_
      repeat refine And.intro (by first | omega | exact trivial | rfl | (simp <;> omega) | (refine And.intro ?_ ?_ <;> exact trivial) | exact ⟨trivial, trivial, trivial⟩) ?_
      refine hS _ _ _ ?_
      clear hS
      refine s_step rfl (by decide) rfl fun _ hS => ?_
      repeat refine And.intro (by first | omega | exact trivial | rfl | (simp <;> omega) | (refine And.intro ?_ ?_ <;> exact trivial) | exact ⟨trivial, trivial, trivial⟩) ?_
      rw [get_lists]
      rotate_left 1
      · first | omega | (simp <;> omega)
      first | refine hS _ _ _ ?_ | (refine ite_yes (by first | omega | exact trivial | rfl | (simp <;> omega) | (refine And.intro ?_ ?_ <;> exact trivial) | exact ⟨trivial, trivial, trivial⟩) ?_; refine hS _ _ _ ?_)
      clear hS
      refine s_step rfl (by decide) rfl fun _ hS => ?_
      refine hS _ _ _ ?_
      clear hS
      refine s_nil ?_
      refine hK13 _ _ _ ?_
      refine hK12 _ _ _ ?_
      refine seq_k fun _ hK14 => ?_
      refine region_k (g7_ok h27) fun _ hK15 => ?_
      refine s_step rfl (by decide) rfl fun _ hS => ?_
      refine hS _ _ _ ?_
      clear hS
      refine s_nil ?_
      refine hK15 _ _ _ ?_
      refine hK14 _ _ _ ?_
      refine seq_k fun _ hK16 => ?_
      refine seq_k fun _ hK17 => ?_
      refine region_k (g7_ok h27) fun _ hK18 => ?_
      refine s_step rfl (by decide) rfl fun _ hS => ?_
      refine hS _ _ _ ?_
      clear hS
      refine s_nil ?_
      refine hK18 _ _ _ ?_
      refine hK17 _ _ _ ?_
      refine WP_block ?_
      refine WP_nil 6 5 (.u8s []) rfl rfl trivial ?_
      refine WP_loop (α := Nat × Nat) (fun j => [(2, .c (.ptr 0 0)), (3, .c (.slice 1 0 (flat2 ps k.1).length k.2)), (8, .c (.ds ps.length (.cells (lists ps)))), (9, .c (.int .i64 ps.length)), (10, .c (.int .i64 k.1)), (5, .c (.ds (ps.getD k.1 []).length (.u8s (ps.getD k.1 [])))), (6, .c (.slice 2 0 j.1 j.2)), (14, .c (.int .i64 j.1))]) (fun j => [(0, .own 24 (.u8s (List.replicate 32 0)) 32), (1, .own 22 (.cells (lists (flat2 ps k.1))) k.2), (2, .own 5 (.u8s ((le64 (ps.getD k.1 []).length.toUInt64).take j.1)) j.2)]) 3 (fun j => j.1 ≤ 8) (fun j => 8 - j.1) ?_ ?_
      · refine Done_some [] id (0, 0) (Nat.zero_le _) ⟨?_, ?_, (by decide : List.Nodup ([0, 1, 2] : List Nat)), ?_, ?_, ⟨Nat.zero_le _, fun i hi => absurd hi (Nat.not_lt_zero i)⟩⟩
        · repeat' (first | exact trivial | refine And.intro ?_ ?_ | rfl | omega | decide | exact Nat.lt_of_sub_pos (by decide))
          all_goals first | exact allTo_lists _ | (show (_ : List UInt8) = _; simp [le64]; done) | (simp; done) | skip
        · repeat' (first | exact trivial | refine And.intro ?_ ?_ | rfl | omega | decide | exact Nat.lt_of_sub_pos (by decide))
          all_goals first | exact allTo_lists _ | (show (_ : List UInt8) = _; simp [le64]; done) | (simp [flat2]; done) | skip
        · repeat' (first | exact trivial | refine And.intro ?_ ?_ | rfl | omega | decide | exact Nat.lt_of_sub_pos (by decide))
          all_goals exact low_lists _
        · repeat' (first | exact trivial | refine And.intro ?_ ?_ | rfl | omega | decide | exact Nat.lt_of_sub_pos (by decide))
          all_goals exact low_lists _
      · intro j hj
        refine seq_k fun _ hK19 => ?_
        refine region_k (g7_ok h27) fun _ hK20 => ?_
        refine s_step rfl (by decide) rfl fun _ hS => ?_
        repeat refine And.intro (by first | omega | exact trivial | rfl | (simp <;> omega) | (refine And.intro ?_ ?_ <;> exact trivial) | exact ⟨trivial, trivial, trivial⟩) ?_
        refine hS _ _ _ ?_
        clear hS
        refine s_nil ?_
        refine hK20 _ _ _ ?_
        refine hK19 _ _ _ ?_
        refine seq_k fun _ hK21 => ?_
        refine WP_cond (b := _) rfl (fun h_t15 => ?_) (fun h_t15 => ?_)
        · try simp only [decide_eq_true_eq] at h_t15
          refine WP_skip ?_
          refine hK21 _ _ _ ?_
          refine seq_k fun _ hK22 => ?_
          refine WP_block ?_
          refine seq_k fun _ hK23 => ?_
          refine region_k (g7_ok h27) fun _ hK24 => ?_
          refine s_step rfl (by decide) rfl fun _ hS => ?_
          refine hS _ _ _ ?_
          clear hS
          refine s_step rfl (by decide) rfl fun _ hS => ?_
          refine hS _ _ _ ?_
          clear hS
          refine s_nil ?_
          refine hK24 _ _ _ ?_
          refine hK23 _ _ _ ?_
          refine region_k (g7_ok h27) fun _ hK25 => ?_
          refine s_step rfl (by decide) rfl fun _ hS => ?_
          refine hS _ _ _ ?_
          clear hS
          refine s_step rfl (by decide) rfl fun _ hS => ?_
          refine hS _ _ _ ?_
          clear hS
          refine s_step rfl (by decide) rfl fun _ hS => ?_
          repeat refine And.intro (by first | omega | exact trivial | rfl | (simp <;> omega) | (refine And.intro ?_ ?_ <;> exact trivial) | exact ⟨trivial, trivial, trivial⟩) ?_
          refine hS _ _ _ ?_
          clear hS
          refine s_step rfl (by decide) rfl fun _ hS => ?_
          repeat first | refine And.intro (by first | omega | exact trivial | rfl | (simp <;> omega) | (refine And.intro ?_ ?_ <;> exact trivial) | exact ⟨trivial, trivial, trivial⟩) ?_ | refine whole_yes (by first | omega | exact trivial | rfl | (simp <;> omega) | (refine And.intro ?_ ?_ <;> exact trivial) | exact ⟨trivial, trivial, trivial⟩) ?_ | refine whole_sub ?_
          refine hS _ _ _ ?_
          clear hS
          refine s_step rfl (by decide) rfl fun _ hS => ?_
          refine hS _ _ _ ?_
          clear hS
          refine s_step rfl (by decide) rfl fun _ hS => ?_
          repeat refine And.intro (by first | omega | exact trivial | rfl | (simp <;> omega) | (refine And.intro ?_ ?_ <;> exact trivial) | exact ⟨trivial, trivial, trivial⟩) ?_
          refine hS _ _ _ ?_
          clear hS
          refine s_step rfl (by decide) rfl fun _ hS => ?_
          repeat refine And.intro (by first | omega | exact trivial | rfl | (simp <;> omega) | (refine And.intro ?_ ?_ <;> exact trivial) | exact ⟨trivial, trivial, trivial⟩) ?_
          refine hS _ _ _ ?_
          clear hS
          refine s_step rfl (by decide) rfl fun _ hS => ?_
          repeat first | refine And.intro (by first | omega | exact trivial | rfl | (simp <;> omega) | (refine And.intro ?_ ?_ <;> exact trivial) | exact ⟨trivial, trivial, trivial⟩) ?_ | refine whole_yes (by first | omega | exact trivial | rfl | (simp <;> omega) | (refine And.intro ?_ ?_ <;> exact trivial) | exact ⟨trivial, trivial, trivial⟩) ?_ | refine whole_sub ?_
          refine hS _ _ _ ?_
          clear hS
          refine s_step rfl (by decide) rfl fun _ hS => ?_
          repeat refine And.intro (by first | omega | exact trivial | rfl | (simp <;> omega) | (refine And.intro ?_ ?_ <;> exact trivial) | exact ⟨trivial, trivial, trivial⟩) ?_
          refine hS _ _ _ ?_
          clear hS
          refine s_step rfl (by decide) rfl fun _ hS => ?_
          repeat first | refine And.intro (by first | omega | exact trivial | rfl | (simp <;> omega) | (refine And.intro ?_ ?_ <;> exact trivial) | exact ⟨trivial, trivial, trivial⟩) ?_ | refine whole_yes (by first | omega | exact trivial | rfl | (simp <;> omega) | (refine And.intro ?_ ?_ <;> exact trivial) | exact ⟨trivial, trivial, trivial⟩) ?_ | refine whole_sub ?_
          intro cap9 hcap9; refine hS _ _ _ ?_
          clear hS
          refine s_step rfl (by decide) rfl fun _ hS => ?_
          refine hS _ _ _ ?_
          clear hS
          refine s_nil ?_
          refine hK25 _ _ _ ?_
          have e1 := le64_step (ps.getD k.1 []).length.toUInt64 j.1 (by omega)
          rw [show 8 * j.1 = (8 * (j.1 : Int)).toNat by omega] at e1
          refine done_block ?_
          refine hK22 _ _ _ ?_
          refine region_k (g7_ok h27) fun _ hK26 => ?_
          refine s_step rfl (by decide) rfl fun _ hS => ?_
          repeat refine And.intro (by first | omega | exact trivial | rfl | (simp <;> omega) | (refine And.intro ?_ ?_ <;> exact trivial) | exact ⟨trivial, trivial, trivial⟩) ?_
          refine hS _ _ _ ?_
          clear hS
          refine s_step rfl (by decide) rfl fun _ hS => ?_
          refine hS _ _ _ ?_
          clear hS
          refine s_nil ?_
          refine hK26 _ _ _ ?_
          refine Done_some [] (fun i => if i = 2 then 4 else i) (j.1 + 1, cap9) ⟨by omega, by omega⟩ ⟨?_, ?_, (by decide : List.Nodup ([0, 1, 4] : List Nat)), ?_, ?_, ⟨Nat.zero_le _, fun i hi => absurd hi (Nat.not_lt_zero i)⟩⟩
          · repeat' (first | exact trivial | refine And.intro ?_ ?_ | rfl | omega | decide | exact Nat.lt_of_sub_pos (by decide))
            all_goals first | exact allTo_lists _ | (show (_ : List UInt8) = _; rw [ofIntNat]; exact e1) | (simp <;> omega) | skip
          · repeat' (first | exact trivial | refine And.intro ?_ ?_ | rfl | omega | decide | exact Nat.lt_of_sub_pos (by decide))
            all_goals first | exact allTo_lists _ | (show (_ : List UInt8) = _; rw [ofIntNat]; exact e1) | (simp <;> omega) | skip
          · repeat' (first | exact trivial | refine And.intro ?_ ?_ | rfl | omega | decide | exact Nat.lt_of_sub_pos (by decide))
            all_goals exact low_lists _
          · repeat' (first | exact trivial | refine And.intro ?_ ?_ | rfl | omega | decide | exact Nat.lt_of_sub_pos (by decide))
            all_goals exact low_lists _
        · try simp only [decide_eq_false_iff_not, Int.not_lt] at h_t15
          refine WP_exit ?_
          refine done_thenx ?_
          refine done_thenx ?_
          refine Done_hit ?_
          refine hK16 _ _ _ ?_
          obtain ⟨j, cap0⟩ := j
          obtain rfl : j = 8 := by simp at h_t15 hj; omega
          refine region_k (g7_ok h27) fun _ hK27 => ?_
          refine s_step rfl (by decide) rfl fun _ hS => ?_
          refine hS _ _ _ ?_
          clear hS
          refine s_step rfl (by decide) rfl fun _ hS => ?_
          refine hS _ _ _ ?_
          clear hS
          refine s_step rfl (by decide) rfl fun _ hS => ?_
          refine hS _ _ _ ?_
          clear hS
          refine s_step rfl (by decide) rfl fun _ hS => ?_
          repeat refine And.intro (by first | omega | exact trivial | rfl | (simp [hfl] <;> omega) | (refine And.intro ?_ ?_ <;> exact trivial) | exact ⟨trivial, trivial, trivial⟩) ?_
          refine hS _ _ _ ?_
          clear hS
          refine s_step rfl (by decide) rfl fun _ hS => ?_
          repeat first | refine And.intro (by first | omega | exact trivial | rfl | (simp [hfl] <;> omega) | (refine And.intro ?_ ?_ <;> exact trivial) | exact ⟨trivial, trivial, trivial⟩) ?_ | refine whole_yes (by first | omega | exact trivial | rfl | (simp [hfl] <;> omega) | (refine And.intro ?_ ?_ <;> exact trivial) | exact ⟨trivial, trivial, trivial⟩) ?_ | refine whole_sub ?_
          intro cap4 hcap4; refine hS _ _ _ ?_
          clear hS
          refine s_step rfl (by decide) rfl fun _ hS => ?_
          refine hS _ _ _ ?_
          clear hS
          refine s_nil ?_
          refine hK27 _ _ _ ?_
          refine done_block ?_
          refine hK11 _ _ _ ?_
          refine region_k (g7_ok h27) fun _ hK28 => ?_
          refine s_step rfl (by decide) rfl fun _ hS => ?_
          repeat refine And.intro (by first | omega | exact trivial | rfl | (simp <;> omega) | (refine And.intro ?_ ?_ <;> exact trivial) | exact ⟨trivial, trivial, trivial⟩) ?_
          refine hS _ _ _ ?_
          clear hS
          refine s_step rfl (by decide) rfl fun _ hS => ?_
          refine hS _ _ _ ?_
          clear hS
          refine s_nil ?_
          refine hK28 _ _ _ ?_
          refine Done_some [2] (fun i => if i = 1 then 4 else i) (k.1 + 1, cap4) ⟨by omega, by omega⟩ ⟨?_, ?_, (by decide : List.Nodup ([0, 4] : List Nat)), ?_, ?_, ⟨Nat.zero_le _, fun i hi => absurd hi (Nat.not_lt_zero i)⟩⟩
          · repeat' (first | exact trivial | refine And.intro ?_ ?_ | rfl | omega | decide | exact Nat.lt_of_sub_pos (by decide))
            all_goals first
              | (simp [flat2_length ps k.1 (by omega), flat2_length ps (k.1 + 1) (by omega)] <;> omega)
              | (show allTo _ (lists (flat2 ps k.1) ++ _) (lists (flat2 ps (k.1 + 1)))
                 rw [← flat2_step ps k.1 hkl, lists_append]
                 exact allTo_app (allTo_lists _) ⟨⟨List.mem_singleton.2 rfl, trivial, by simp, Nat.one_pos, by simp, by simp [le64_all, Cont.sub, Cont.take, Cont.drop]⟩, ⟨by simp, by simp⟩, trivial⟩)
              | skip
          · repeat' (first | exact trivial | refine And.intro ?_ ?_ | rfl | omega | decide | exact Nat.lt_of_sub_pos (by decide))
            all_goals first
              | (simp <;> omega)
              | (show allTo _ (lists (flat2 ps k.1) ++ _) (lists (flat2 ps (k.1 + 1)))
                 rw [← flat2_step ps k.1 hkl, lists_append]
                 exact allTo_app (allTo_lists _) ⟨⟨List.mem_singleton.2 rfl, trivial, by simp, Nat.one_pos, by simp, by simp [le64_all]⟩, ⟨by simp, by simp⟩, trivial⟩)
              | skip
          · repeat' (first | exact trivial | refine And.intro ?_ ?_ | rfl | omega | decide | exact Nat.lt_of_sub_pos (by decide))
            all_goals exact low_lists _
          · repeat' (first | exact trivial | refine And.intro ?_ ?_ | rfl | omega | decide | exact Nat.lt_of_sub_pos (by decide))
            all_goals exact low_lists _
    · try simp only [decide_eq_false_iff_not, Int.not_lt] at h_t11
      refine WP_exit ?_
      refine done_thenx ?_
      refine done_thenx ?_
      refine Done_hit ?_
      refine hK5 _ _ _ ?_
      refine seq_k fun _ hK29 => ?_
      obtain ⟨k, cap0⟩ := k
      obtain rfl : k = ps.length := by simp at h_t11 hk; omega
      refine region_k (g7_ok h27) fun _ hK30 => ?_
      refine s_step rfl (by decide) rfl fun _ hS => ?_
      refine hS _ _ _ ?_
      clear hS
      refine s_step rfl (by decide) rfl fun _ hS => ?_
      repeat first | refine And.intro (by first | omega | exact trivial | rfl | (simp [hfl] <;> omega) | exact isD_lists _ | exact (hs _).symm | (refine And.intro ?_ ?_ <;> exact trivial) | exact ⟨trivial, trivial, trivial⟩) ?_ | refine whole_yes (by first | omega | exact trivial | rfl | (simp [hfl] <;> omega) | exact isD_lists _ | exact (hs _).symm | (refine And.intro ?_ ?_ <;> exact trivial) | exact ⟨trivial, trivial, trivial⟩) ?_ | refine whole_sub ?_
      refine Exists.intro (flat2 ps ps.length) ?_
      refine And.intro rfl ?_
      refine And.intro ⟨by simp [hfl]; omega, by rw [flat2_flatten]; exact hb⟩ ?_
      rw [flat2_flatten]
      repeat refine And.intro (by first | omega | exact trivial | rfl | (simp [hs, hfl] <;> omega) | exact isD_lists _ | exact (hs _).symm | (refine And.intro ?_ ?_ <;> exact trivial) | exact ⟨trivial, trivial, trivial⟩) ?_
      first | refine hS _ _ _ ?_ | (intro cap1 hcap1; refine hS _ _ _ ?_)
      clear hS
      refine s_step0 rfl rfl fun _ hS => ?_
      repeat refine And.intro (by first | omega | exact trivial | rfl | (simp [hs] <;> omega) | exact isD_lists _ | exact (hs _).symm | (refine And.intro ?_ ?_ <;> exact trivial) | exact ⟨trivial, trivial, trivial⟩) ?_
      first | refine hS _ _ _ ?_ | (refine splice_full (by first | omega | exact trivial | rfl | (simp [hs, hfl] <;> omega) | exact isD_lists _ | exact (hs _).symm | (refine And.intro ?_ ?_ <;> exact trivial) | exact ⟨trivial, trivial, trivial⟩) ?_; refine hS _ _ _ ?_)
      clear hS
      refine s_nil ?_
      refine hK30 _ _ _ ?_
      refine hK29 _ _ _ ?_
      refine WP_ret (Done_flat (g7_ok h27) (fun _ _ h => h) (by first | rfl | assumption) [.cell 2 24] rfl ?_)
      repeat refine And.intro (by first | omega | exact trivial | rfl | (simp [hs] <;> omega)) ?_
      try refine ite_yes (by first | omega | exact trivial | rfl | (simp [hs] <;> omega)) ?_
      show _ = _
      rfl
end Go.Proofs.YtdanaehfdbdhdaaDoor
